/- tarnlaw07.VecLengths: at every input it returns true. -/
import Derived.Test.YtkgkckjgdajegaaRows
import Derived.ProofKit
import Derived.Test.YtkgkckjgdajegaaPtC
set_option linter.unusedVariables false
set_option linter.unusedSimpArgs false
set_option linter.unusedSectionVars false
/- Contracts of the small functions. Own work. -/
set_option linter.unusedVariables false
set_option linter.unusedSimpArgs false
namespace Go.Lift
open Go.Proofs
theorem Yh64 : Yq64.holds Try.prog (fun _ => none) 64 := by
  refine ext_bits64 (fn := Try.f64) Try.func64 (by decide) rfl rfl (by kernel_rfl)
theorem Yh92 : Yq92.holds Try.prog (fun _ => none) 92 := by
  refine ext_from64 (fn := Try.f92) Try.func92 (by decide) rfl rfl (by kernel_rfl)
theorem Yh93 : Yq93.holds Try.prog (fun _ => none) 93 := by
  refine ext_sqrt (fn := Try.f93) Try.func93 (by decide) rfl rfl (by kernel_rfl)
def YF65 := fun (a : Int) (post : Nat × Unit → Prop) => ∃ (h : True), post ((fromR a).fst, ())
def Yx65 : Cx := ⟨tabOf Ytab, conOf [(92, Yq92)], fun _ => none⟩
theorem Yx65_ok : CxOk Try.prog Yx65 := ⟨tabB_sound Ytab_ok, conOf_sound ⟨Yh92, trivial⟩⟩
theorem Yat65 : FnAt Try.prog 65 Try.f65.ntmps Try.f65.results.toList (Try.f65.body.getD .skip) := ⟨Try.f65, Try.func65, rfl, rfl, by simp, by decide⟩
theorem Yf65_eq (a : Int) (post : Nat × Unit → Prop) : fnEval Yx65 nHn Try.f65.ntmps Try.f65.results.toList (Try.f65.body.getD .skip) [.int .u64] [.snap (.flt .f64)] (a, ()) post = YF65 a post := by kernel_rfl
theorem Yl65 (a : Int) : YF65 a (fun r => r = fromR a) := by
  exact ⟨trivial, rfl⟩
theorem Yh65 : Yq65.holds Try.prog (fun _ => none) 65 :=
  detP Yx65_ok Ymixed nHn Yat65 (F := fun x post => YF65 x.1 post) (fun x post => Yf65_eq x.1 post) fun x _ _ => Yl65 x.1
def YF24 := fun (a : Nat) (post : Int × Unit → Prop) => ∃ (h : True), post ((bitsR a).fst, ())
def Yx24 : Cx := ⟨tabOf Ytab, conOf [(64, Yq64)], fun _ => none⟩
theorem Yx24_ok : CxOk Try.prog Yx24 := ⟨tabB_sound Ytab_ok, conOf_sound ⟨Yh64, trivial⟩⟩
theorem Yat24 : FnAt Try.prog 24 Try.f24.ntmps Try.f24.results.toList (Try.f24.body.getD .skip) := ⟨Try.f24, Try.func24, rfl, rfl, by simp, by decide⟩
theorem Yf24_eq (a : Nat) (post : Int × Unit → Prop) : fnEval Yx24 nHn Try.f24.ntmps Try.f24.results.toList (Try.f24.body.getD .skip) [.flt .f64] [.snap (.int .u64)] (a, ()) post = YF24 a post := by kernel_rfl
theorem Yl24 (a : Nat) : YF24 a (fun r => r = bitsR a) := by
  exact ⟨trivial, rfl⟩
theorem Yh24 : Yq24.holds Try.prog (fun _ => none) 24 :=
  detP Yx24_ok Ymixed nHn Yat24 (F := fun x post => YF24 x.1 post) (fun x post => Yf24_eq x.1 post) fun x _ _ => Yl24 x.1
def YF50 := fun (a b : Nat) (post : Bool × Unit → Prop) => ∃ (h : True), ∃ (h : True), ∀ (a_1 : Bool), a_1 = ((bitsR a).fst == (bitsR b).fst) → post (a_1, ())
def Yx50 : Cx := ⟨tabOf Ytab, conOf [(64, Yq64)], fun _ => none⟩
theorem Yx50_ok : CxOk Try.prog Yx50 := ⟨tabB_sound Ytab_ok, conOf_sound ⟨Yh64, trivial⟩⟩
theorem Yat50 : FnAt Try.prog 50 Try.f50.ntmps Try.f50.results.toList (Try.f50.body.getD .skip) := ⟨Try.f50, Try.func50, rfl, rfl, by simp, by decide⟩
theorem Yf50_eq (a : Nat) (b : Nat) (post : Bool × Unit → Prop) : fnEval Yx50 nHn Try.f50.ntmps Try.f50.results.toList (Try.f50.body.getD .skip) [.flt .f64, .flt .f64] [.snap .bool] (a, b, ()) post = YF50 a b post := by kernel_rfl
theorem Yl50 (a : Nat) (b : Nat) : YF50 a b (fun r => r = sameR a b) := by
  refine ⟨trivial, trivial, ?_⟩
  rintro _ rfl
  exact congrArg r1 (beq_nat a b)
theorem Yh50 : Yq50.holds Try.prog (fun _ => none) 50 :=
  detP Yx50_ok Ymixed nHn Yat50 (F := fun x post => YF50 x.1 x.2.1 post) (fun x post => Yf50_eq x.1 x.2.1 post) fun x _ _ => Yl50 x.1 x.2.1
def YF15 := fun (a b : Nat) (post : Bool × Unit → Prop) => ∃ (h : True), ∀ (a_1 : Bool), a_1 = (sameR a b).fst → post (a_1, ())
def Yx15 : Cx := ⟨tabOf Ytab, conOf [(50, Yq50)], fun _ => none⟩
theorem Yx15_ok : CxOk Try.prog Yx15 := ⟨tabB_sound Ytab_ok, conOf_sound ⟨Yh50, trivial⟩⟩
theorem Yat15 : FnAt Try.prog 15 Try.f15.ntmps Try.f15.results.toList (Try.f15.body.getD .skip) := ⟨Try.f15, Try.func15, rfl, rfl, by simp, by decide⟩
theorem Yf15_eq (a : Nat) (b : Nat) (post : Bool × Unit → Prop) : fnEval Yx15 nHn Try.f15.ntmps Try.f15.results.toList (Try.f15.body.getD .skip) [.flt .f64, .flt .f64] [.snap .bool] (a, b, ()) post = YF15 a b post := by kernel_rfl
theorem Yl15 (a : Nat) (b : Nat) : YF15 a b (fun r => r = sameR a b) := by
  refine ⟨trivial, ?_⟩
  rintro _ rfl
  rfl
theorem Yh15 : Yq15.holds Try.prog (fun _ => none) 15 :=
  detP Yx15_ok Ymixed nHn Yat15 (F := fun x post => YF15 x.1 x.2.1 post) (fun x post => Yf15_eq x.1 x.2.1 post) fun x _ _ => Yl15 x.1 x.2.1
def YF33 := fun (a b : Nat) (post : Bool × Unit → Prop) => ∃ (h : True), ∀ (a_1 : Bool), a_1 = (sameR a b).fst → post (a_1, ())
def Yx33 : Cx := ⟨tabOf Ytab, conOf [(50, Yq50)], fun _ => none⟩
theorem Yx33_ok : CxOk Try.prog Yx33 := ⟨tabB_sound Ytab_ok, conOf_sound ⟨Yh50, trivial⟩⟩
theorem Yat33 : FnAt Try.prog 33 Try.f33.ntmps Try.f33.results.toList (Try.f33.body.getD .skip) := ⟨Try.f33, Try.func33, rfl, rfl, by simp, by decide⟩
theorem Yf33_eq (a : Nat) (b : Nat) (post : Bool × Unit → Prop) : fnEval Yx33 nHn Try.f33.ntmps Try.f33.results.toList (Try.f33.body.getD .skip) [.flt .f64, .flt .f64] [.snap .bool] (a, b, ()) post = YF33 a b post := by kernel_rfl
theorem Yl33 (a : Nat) (b : Nat) : YF33 a b (fun r => r = sameR a b) := by
  refine ⟨trivial, ?_⟩
  rintro _ rfl
  rfl
theorem Yh33 : Yq33.holds Try.prog (fun _ => none) 33 :=
  detP Yx33_ok Ymixed nHn Yat33 (F := fun x post => YF33 x.1 x.2.1 post) (fun x post => Yf33_eq x.1 x.2.1 post) fun x _ _ => Yl33 x.1 x.2.1
def YF74 := fun (post : Nat × Unit → Prop) => ∃ (h : True), post ((fromR (9221120237041090561 : Int)).fst, ())
def Yx74 : Cx := ⟨tabOf Ytab, conOf [(92, Yq92)], fun _ => none⟩
theorem Yx74_ok : CxOk Try.prog Yx74 := ⟨tabB_sound Ytab_ok, conOf_sound ⟨Yh92, trivial⟩⟩
theorem Yat74 : FnAt Try.prog 74 Try.f74.ntmps Try.f74.results.toList (Try.f74.body.getD .skip) := ⟨Try.f74, Try.func74, rfl, rfl, by simp, by decide⟩
theorem Yf74_eq  (post : Nat × Unit → Prop) : fnEval Yx74 nHn Try.f74.ntmps Try.f74.results.toList (Try.f74.body.getD .skip) [] [.snap (.flt .f64)] (()) post = YF74  post := by kernel_rfl
theorem Yl74  : YF74  (fun r => r = qnR) := by
  exact ⟨trivial, rfl⟩
theorem Yh74 : Yq74.holds Try.prog (fun _ => none) 74 :=
  detP Yx74_ok Ymixed nHn Yat74 (F := fun x post => YF74  post) (fun x post => Yf74_eq  post) fun x _ _ => Yl74 
def YF78 := fun (post : Nat × Unit → Prop) => ∃ (h : True), post ((fromR (9221120237041090561 : Int)).fst, ())
def Yx78 : Cx := ⟨tabOf Ytab, conOf [(65, Yq65)], fun _ => none⟩
theorem Yx78_ok : CxOk Try.prog Yx78 := ⟨tabB_sound Ytab_ok, conOf_sound ⟨Yh65, trivial⟩⟩
theorem Yat78 : FnAt Try.prog 78 Try.f78.ntmps Try.f78.results.toList (Try.f78.body.getD .skip) := ⟨Try.f78, Try.func78, rfl, rfl, by simp, by decide⟩
theorem Yf78_eq  (post : Nat × Unit → Prop) : fnEval Yx78 nHn Try.f78.ntmps Try.f78.results.toList (Try.f78.body.getD .skip) [] [.snap (.flt .f64)] (()) post = YF78  post := by kernel_rfl
theorem Yl78  : YF78  (fun r => r = qnR) := by
  exact ⟨trivial, rfl⟩
theorem Yh78 : Yq78.holds Try.prog (fun _ => none) 78 :=
  detP Yx78_ok Ymixed nHn Yat78 (F := fun x post => YF78  post) (fun x post => Yf78_eq  post) fun x _ _ => Yl78 
def YF52 := fun (post : Nat × Unit → Prop) => ∃ (h : True), post ((fromR (0 : Int)).fst, ())
def Yx52 : Cx := ⟨tabOf Ytab, conOf [(65, Yq65)], fun _ => none⟩
theorem Yx52_ok : CxOk Try.prog Yx52 := ⟨tabB_sound Ytab_ok, conOf_sound ⟨Yh65, trivial⟩⟩
theorem Yat52 : FnAt Try.prog 52 Try.f52.ntmps Try.f52.results.toList (Try.f52.body.getD .skip) := ⟨Try.f52, Try.func52, rfl, rfl, by simp, by decide⟩
theorem Yf52_eq  (post : Nat × Unit → Prop) : fnEval Yx52 nHn Try.f52.ntmps Try.f52.results.toList (Try.f52.body.getD .skip) [] [.snap (.flt .f64)] (()) post = YF52  post := by kernel_rfl
theorem Yl52  : YF52  (fun r => r = zeroR) := by
  exact ⟨trivial, rfl⟩
theorem Yh52 : Yq52.holds Try.prog (fun _ => none) 52 :=
  detP Yx52_ok Ymixed nHn Yat52 (F := fun x post => YF52  post) (fun x post => Yf52_eq  post) fun x _ _ => Yl52 
def YF80 := fun (a : Nat) (post : Nat × Unit → Prop) =>
  ∃ (h : True), ∃ (h : True), post ((fromR (Go.bits Go.BinOp.andNot IntKind.u64 (bitsR a).fst (9223372036854775808 : Int))).fst, ())
def Yx80 : Cx := ⟨tabOf Ytab, conOf [(64, Yq64), (92, Yq92)], fun _ => none⟩
theorem Yx80_ok : CxOk Try.prog Yx80 := ⟨tabB_sound Ytab_ok, conOf_sound ⟨Yh64, Yh92, trivial⟩⟩
theorem Yat80 : FnAt Try.prog 80 Try.f80.ntmps Try.f80.results.toList (Try.f80.body.getD .skip) := ⟨Try.f80, Try.func80, rfl, rfl, by simp, by decide⟩
theorem Yf80_eq (a : Nat) (post : Nat × Unit → Prop) : fnEval Yx80 nHn Try.f80.ntmps Try.f80.results.toList (Try.f80.body.getD .skip) [.flt .f64] [.snap (.flt .f64)] (a, ()) post = YF80 a post := by kernel_rfl
theorem Yl80 (a : Nat) (h : W64 a) : YF80 a (fun r => r = absR a) := by
  refine ⟨trivial, trivial, ?_⟩
  show r1 (Go.bits .andNot .u64 (a : Int) 9223372036854775808).toNat = _
  rw [andNot_sign h]; rfl
theorem Yh80 : Yq80.holds Try.prog (fun _ => none) 80 :=
  detP Yx80_ok Ymixed nHn Yat80 (F := fun x post => YF80 x.1 post) (fun x post => Yf80_eq x.1 post) fun x h _ => Yl80 x.1 h
def YF95 := fun (a : Nat) (post : Bool × Unit → Prop) => ∀ (a_1 : Bool), a_1 = fcmp Go.BinOp.neq (Go.FloatKind.f64.format.order a a) → post (a_1, ())
def Yx95 : Cx := ⟨tabOf Ytab, conOf [], fun _ => none⟩
theorem Yx95_ok : CxOk Try.prog Yx95 := ⟨tabB_sound Ytab_ok, fun f c h => by cases h⟩
theorem Yat95 : FnAt Try.prog 95 Try.f95.ntmps Try.f95.results.toList (Try.f95.body.getD .skip) := ⟨Try.f95, Try.func95, rfl, rfl, by simp, by decide⟩
theorem Yf95_eq (a : Nat) (post : Bool × Unit → Prop) : fnEval Yx95 nHn Try.f95.ntmps Try.f95.results.toList (Try.f95.body.getD .skip) [.flt .f64] [.snap .bool] (a, ()) post = YF95 a post := by kernel_rfl
theorem Yl95 (a : Nat) : YF95 a (fun r => r = nanR a) := by
  rintro _ rfl
  exact congrArg r1 (neq_self a)
theorem Yh95 : Yq95.holds Try.prog (fun _ => none) 95 :=
  detP Yx95_ok Ymixed nHn Yat95 (F := fun x post => YF95 x.1 post) (fun x post => Yf95_eq x.1 post) fun x _ _ => Yl95 x.1
def YF82 := fun (a : Nat) (post : Int × Unit → Prop) => ∃ (h : True), ∃ (h : (9223372036854775808 : Int) ≠ (0 : Int)), post ((bitsR a).fst.tmod (9223372036854775808 : Int), ())
def Yx82 : Cx := ⟨tabOf Ytab, conOf [(24, Yq24)], fun _ => none⟩
theorem Yx82_ok : CxOk Try.prog Yx82 := ⟨tabB_sound Ytab_ok, conOf_sound ⟨Yh24, trivial⟩⟩
theorem Yat82 : FnAt Try.prog 82 Try.f82.ntmps Try.f82.results.toList (Try.f82.body.getD .skip) := ⟨Try.f82, Try.func82, rfl, rfl, by simp, by decide⟩
theorem Yf82_eq (a : Nat) (post : Int × Unit → Prop) : fnEval Yx82 nHn Try.f82.ntmps Try.f82.results.toList (Try.f82.body.getD .skip) [.flt .f64] [.snap (.int .u64)] (a, ()) post = YF82 a post := by kernel_rfl
theorem Yl82 (a : Nat) (h : W64 a) : YF82 a (fun r => r = magR a) := by
  refine ⟨trivial, by decide, ?_⟩
  show r1 ((a : Int).tmod 9223372036854775808) = r1 (magI a)
  rw [Int.tmod_eq_emod_of_nonneg (by omega)]; unfold magI rungOf sw; congr 1
theorem Yh82 : Yq82.holds Try.prog (fun _ => none) 82 :=
  detP Yx82_ok Ymixed nHn Yat82 (F := fun x post => YF82 x.1 post) (fun x post => Yf82_eq x.1 post) fun x h _ => Yl82 x.1 h
def YF77 := fun (a : Nat) (post : Bool × Unit → Prop) => ∃ (h : W64 a), ∀ (a_1 : Bool), a_1 = decide ((magR a).fst > (9218868437227405312 : Int)) → post (a_1, ())
def Yx77 : Cx := ⟨tabOf Ytab, conOf [(82, Yq82)], fun _ => none⟩
theorem Yx77_ok : CxOk Try.prog Yx77 := ⟨tabB_sound Ytab_ok, conOf_sound ⟨Yh82, trivial⟩⟩
theorem Yat77 : FnAt Try.prog 77 Try.f77.ntmps Try.f77.results.toList (Try.f77.body.getD .skip) := ⟨Try.f77, Try.func77, rfl, rfl, by simp, by decide⟩
theorem Yf77_eq (a : Nat) (post : Bool × Unit → Prop) : fnEval Yx77 nHn Try.f77.ntmps Try.f77.results.toList (Try.f77.body.getD .skip) [.flt .f64] [.snap .bool] (a, ()) post = YF77 a post := by kernel_rfl
theorem Yl77 (a : Nat) (h : W64 a) : YF77 a (fun r => r = nanR a) := by
  refine ⟨h, ?_⟩
  rintro _ rfl
  refine congrArg r1 ?_
  show decide (((rungOf a : Nat) : Int) > 9218868437227405312) = decide (infR < rungOf a)
  rw [Bool.eq_iff_iff]; simp only [decide_eq_true_eq]; unfold infR; omega
theorem Yh77 : Yq77.holds Try.prog (fun _ => none) 77 :=
  detP Yx77_ok Ymixed nHn Yat77 (F := fun x post => YF77 x.1 post) (fun x post => Yf77_eq x.1 post) fun x h _ => Yl77 x.1 h
def YF94 := fun (a : Nat) (post : Int × Unit → Prop) => ∃ (h : True), post (Go.bits Go.BinOp.andNot IntKind.u64 (bitsR a).fst (9223372036854775808 : Int), ())
def Yx94 : Cx := ⟨tabOf Ytab, conOf [(64, Yq64)], fun _ => none⟩
theorem Yx94_ok : CxOk Try.prog Yx94 := ⟨tabB_sound Ytab_ok, conOf_sound ⟨Yh64, trivial⟩⟩
theorem Yat94 : FnAt Try.prog 94 Try.f94.ntmps Try.f94.results.toList (Try.f94.body.getD .skip) := ⟨Try.f94, Try.func94, rfl, rfl, by simp, by decide⟩
theorem Yf94_eq (a : Nat) (post : Int × Unit → Prop) : fnEval Yx94 nHn Try.f94.ntmps Try.f94.results.toList (Try.f94.body.getD .skip) [.flt .f64] [.snap (.int .u64)] (a, ()) post = YF94 a post := by kernel_rfl
theorem Yl94 (a : Nat) (h : W64 a) : YF94 a (fun r => r = magR a) := by
  refine ⟨trivial, ?_⟩
  show r1 (Go.bits .andNot .u64 (a : Int) 9223372036854775808) = _
  rw [andNot_sign h]; rfl
theorem Yh94 : Yq94.holds Try.prog (fun _ => none) 94 :=
  detP Yx94_ok Ymixed nHn Yat94 (F := fun x post => YF94 x.1 post) (fun x post => Yf94_eq x.1 post) fun x h _ => Yl94 x.1 h
def YF85 := fun (a : Nat) (post : Bool × Unit → Prop) => ∃ (h : True), ∀ (a_1 : Bool), a_1 = decide ((bitsR a).fst ≥ (9223372036854775808 : Int)) → post (a_1, ())
def Yx85 : Cx := ⟨tabOf Ytab, conOf [(24, Yq24)], fun _ => none⟩
theorem Yx85_ok : CxOk Try.prog Yx85 := ⟨tabB_sound Ytab_ok, conOf_sound ⟨Yh24, trivial⟩⟩
theorem Yat85 : FnAt Try.prog 85 Try.f85.ntmps Try.f85.results.toList (Try.f85.body.getD .skip) := ⟨Try.f85, Try.func85, rfl, rfl, by simp, by decide⟩
theorem Yf85_eq (a : Nat) (post : Bool × Unit → Prop) : fnEval Yx85 nHn Try.f85.ntmps Try.f85.results.toList (Try.f85.body.getD .skip) [.flt .f64] [.snap .bool] (a, ()) post = YF85 a post := by kernel_rfl
theorem Yl85 (a : Nat) (h : W64 a) : YF85 a (fun r => r = belowR a) := by
  refine ⟨trivial, ?_⟩
  rintro _ rfl
  refine congrArg r1 ?_
  rw [sgn_dec h, Bool.eq_iff_iff]
  simp [bitsR, r1]; omega
theorem Yh85 : Yq85.holds Try.prog (fun _ => none) 85 :=
  detP Yx85_ok Ymixed nHn Yat85 (F := fun x post => YF85 x.1 post) (fun x post => Yf85_eq x.1 post) fun x h _ => Yl85 x.1 h
def YF45 := fun (a : Nat) (post : Nat × Unit → Prop) =>
  ∀ (a_1 : Bool),
    a_1 = fcmp Go.BinOp.neq (Go.FloatKind.f64.format.order a a) →
      Br a_1 (∃ (h : True), post (qnR.fst, ()))
        (∀ (a_2 : Bool), a_2 = fcmp Go.BinOp.eql (Go.FloatKind.f64.format.order a (0 : Nat)) → Br a_2 (post ((0 : Nat), ())) (post (a, ())))
def Yx45 : Cx := ⟨tabOf Ytab, conOf [(74, Yq74)], fun _ => none⟩
theorem Yx45_ok : CxOk Try.prog Yx45 := ⟨tabB_sound Ytab_ok, conOf_sound ⟨Yh74, trivial⟩⟩
theorem Yat45 : FnAt Try.prog 45 Try.f45.ntmps Try.f45.results.toList (Try.f45.body.getD .skip) := ⟨Try.f45, Try.func45, rfl, rfl, by simp, by decide⟩
theorem Yf45_eq (a : Nat) (post : Nat × Unit → Prop) : fnEval Yx45 nHn Try.f45.ntmps Try.f45.results.toList (Try.f45.body.getD .skip) [.flt .f64] [.snap (.flt .f64)] (a, ()) post = YF45 a post := by kernel_rfl
theorem Yl45 (a : Nat) : YF45 a (fun r => r = canonR a) := by
  rintro _ rfl
  refine Br.intro (fun e => ⟨trivial, ?_⟩) fun e => ?_
  · have e : isN a = true := (neq_self a).symm.trans e
    exact congrArg r1 (by unfold canonF; rw [if_pos e]; rfl)
  · have e : isN a = false := (neq_self a).symm.trans e
    rintro _ rfl
    refine Br.intro (fun z => ?_) fun z => ?_
    · have z := (eql_zero a).symm.trans z
      rw [e] at z
      exact congrArg r1 (by unfold canonF; rw [e, if_neg (by simp), if_pos (by simpa using z)])
    · have z := (eql_zero a).symm.trans z
      rw [e] at z
      exact congrArg r1 (by unfold canonF; rw [e, if_neg (by simp), if_neg (by simpa using z)])
theorem Yh45 : Yq45.holds Try.prog (fun _ => none) 45 :=
  detP Yx45_ok Ymixed nHn Yat45 (F := fun x post => YF45 x.1 post) (fun x post => Yf45_eq x.1 post) fun x _ _ => Yl45 x.1
def YF70 := fun (a : Nat) (post : Nat × Unit → Prop) =>
  ∃ (h : W64 a),
    ∀ (a_1 : Bool),
      a_1 = (nanR a).fst →
        Br a_1 (∃ (h : True), post (qnR.fst, ()))
          (∃ (h : W64 a),
            ∀ (a_2 : Bool), a_2 = ((magR a).fst == (0 : Int)) → Br a_2 (∃ (h : True), post ((fromR (0 : Int)).fst, ())) (post (a, ())))
def Yx70 : Cx := ⟨tabOf Ytab, conOf [(77, Yq77), (78, Yq78), (82, Yq82), (65, Yq65)], fun _ => none⟩
theorem Yx70_ok : CxOk Try.prog Yx70 := ⟨tabB_sound Ytab_ok, conOf_sound ⟨Yh77, Yh78, Yh82, Yh65, trivial⟩⟩
theorem Yat70 : FnAt Try.prog 70 Try.f70.ntmps Try.f70.results.toList (Try.f70.body.getD .skip) := ⟨Try.f70, Try.func70, rfl, rfl, by simp, by decide⟩
theorem Yf70_eq (a : Nat) (post : Nat × Unit → Prop) : fnEval Yx70 nHn Try.f70.ntmps Try.f70.results.toList (Try.f70.body.getD .skip) [.flt .f64] [.snap (.flt .f64)] (a, ()) post = YF70 a post := by kernel_rfl
theorem Yl70 (a : Nat) (h : W64 a) : YF70 a (fun r => r = canonR a) := by
  refine ⟨h, ?_⟩
  rintro _ rfl
  refine Br.intro (fun e => ⟨trivial, ?_⟩) fun e => ⟨h, ?_⟩
  · have e : isN a = true := e
    exact congrArg r1 (by unfold canonF; rw [if_pos e]; rfl)
  · have e : isN a = false := e
    rintro _ rfl
    refine Br.intro (fun z => ⟨trivial, ?_⟩) fun z => ?_
    · have z : rungOf a = 0 := by simpa [magR, r1, magI] using z
      exact congrArg r1 (by unfold canonF; rw [e, if_neg (by simp), if_pos z]; rfl)
    · have z : rungOf a ≠ 0 := by simpa [magR, r1, magI] using z
      exact congrArg r1 (by unfold canonF; rw [e, if_neg (by simp), if_neg z])
theorem Yh70 : Yq70.holds Try.prog (fun _ => none) 70 :=
  detP Yx70_ok Ymixed nHn Yat70 (F := fun x post => YF70 x.1 post) (fun x post => Yf70_eq x.1 post) fun x h _ => Yl70 x.1 h
def YF76 := fun (a : Nat) (post : Nat × Unit → Prop) =>
  ∃ (h : True), ∀ (a_1 : Bool), a_1 = (nanR a).fst → Br a_1 (∃ (h : True), post ((fromR (9221120237041090561 : Int)).fst, ())) (post (a, ()))
def Yx76 : Cx := ⟨tabOf Ytab, conOf [(95, Yq95), (92, Yq92)], fun _ => none⟩
theorem Yx76_ok : CxOk Try.prog Yx76 := ⟨tabB_sound Ytab_ok, conOf_sound ⟨Yh95, Yh92, trivial⟩⟩
theorem Yat76 : FnAt Try.prog 76 Try.f76.ntmps Try.f76.results.toList (Try.f76.body.getD .skip) := ⟨Try.f76, Try.func76, rfl, rfl, by simp, by decide⟩
theorem Yf76_eq (a : Nat) (post : Nat × Unit → Prop) : fnEval Yx76 nHn Try.f76.ntmps Try.f76.results.toList (Try.f76.body.getD .skip) [.flt .f64] [.snap (.flt .f64)] (a, ()) post = YF76 a post := by kernel_rfl
theorem Yl76 (a : Nat) : YF76 a (fun r => r = quietR a) := by
  refine ⟨trivial, ?_⟩
  rintro _ rfl
  refine Br.intro (fun e => ⟨trivial, ?_⟩) fun e => ?_
  · have e : isN a = true := e
    exact congrArg r1 (by unfold quietF; rw [if_pos e]; rfl)
  · have e : isN a = false := e
    exact congrArg r1 (by unfold quietF; rw [e]; rfl)
theorem Yh76 : Yq76.holds Try.prog (fun _ => none) 76 :=
  detP Yx76_ok Ymixed nHn Yat76 (F := fun x post => YF76 x.1 post) (fun x post => Yf76_eq x.1 post) fun x _ _ => Yl76 x.1
def YF53 := fun (a : Nat) (post : Nat × Unit → Prop) =>
  ∃ (h : W64 a), ∀ (a_1 : Bool), a_1 = (nanR a).fst → Br a_1 (∃ (h : True), post (qnR.fst, ())) (post (a, ()))
def Yx53 : Cx := ⟨tabOf Ytab, conOf [(77, Yq77), (78, Yq78)], fun _ => none⟩
theorem Yx53_ok : CxOk Try.prog Yx53 := ⟨tabB_sound Ytab_ok, conOf_sound ⟨Yh77, Yh78, trivial⟩⟩
theorem Yat53 : FnAt Try.prog 53 Try.f53.ntmps Try.f53.results.toList (Try.f53.body.getD .skip) := ⟨Try.f53, Try.func53, rfl, rfl, by simp, by decide⟩
theorem Yf53_eq (a : Nat) (post : Nat × Unit → Prop) : fnEval Yx53 nHn Try.f53.ntmps Try.f53.results.toList (Try.f53.body.getD .skip) [.flt .f64] [.snap (.flt .f64)] (a, ()) post = YF53 a post := by kernel_rfl
theorem Yl53 (a : Nat) (h : W64 a) : YF53 a (fun r => r = quietR a) := by
  refine ⟨h, ?_⟩
  rintro _ rfl
  refine Br.intro (fun e => ⟨trivial, ?_⟩) fun e => ?_
  · have e : isN a = true := e
    exact congrArg r1 (by unfold quietF; rw [if_pos e]; rfl)
  · have e : isN a = false := e
    exact congrArg r1 (by unfold quietF; rw [e]; rfl)
theorem Yh53 : Yq53.holds Try.prog (fun _ => none) 53 :=
  detP Yx53_ok Ymixed nHn Yat53 (F := fun x post => YF53 x.1 post) (fun x post => Yf53_eq x.1 post) fun x h _ => Yl53 x.1 h
def YF26 := fun (a : Nat) (post : Nat × Unit → Prop) =>
  ∀ (a_1 : Bool),
    a_1 = fcmp Go.BinOp.neq (Go.FloatKind.f64.format.order a a) → Br a_1 (∃ (h : True), post ((fromR (9221120237041090561 : Int)).fst, ())) (post (a, ()))
def Yx26 : Cx := ⟨tabOf Ytab, conOf [(65, Yq65)], fun _ => none⟩
theorem Yx26_ok : CxOk Try.prog Yx26 := ⟨tabB_sound Ytab_ok, conOf_sound ⟨Yh65, trivial⟩⟩
theorem Yat26 : FnAt Try.prog 26 Try.f26.ntmps Try.f26.results.toList (Try.f26.body.getD .skip) := ⟨Try.f26, Try.func26, rfl, rfl, by simp, by decide⟩
theorem Yf26_eq (a : Nat) (post : Nat × Unit → Prop) : fnEval Yx26 nHn Try.f26.ntmps Try.f26.results.toList (Try.f26.body.getD .skip) [.flt .f64] [.snap (.flt .f64)] (a, ()) post = YF26 a post := by kernel_rfl
theorem Yl26 (a : Nat) : YF26 a (fun r => r = quietR a) := by
  rintro _ rfl
  refine Br.intro (fun e => ⟨trivial, ?_⟩) fun e => ?_
  · have e : isN a = true := (neq_self a).symm.trans e
    exact congrArg r1 (by unfold quietF; rw [if_pos e]; rfl)
  · have e : isN a = false := (neq_self a).symm.trans e
    exact congrArg r1 (by unfold quietF; rw [e]; rfl)
theorem Yh26 : Yq26.holds Try.prog (fun _ => none) 26 :=
  detP Yx26_ok Ymixed nHn Yat26 (F := fun x post => YF26 x.1 post) (fun x post => Yf26_eq x.1 post) fun x _ _ => Yl26 x.1
def YF61 := fun (a : Nat) (post : Int × Unit → Prop) =>
  ∃ (h : True), ∃ (h : (0 : Int) ≤ (1 : Int)), post (IntKind.u64.wrap ((bitsR a).fst * (2 : Int) ^ Min.min (Int.toNat (1 : Int)) IntKind.u64.bits), ())
def Yx61 : Cx := ⟨tabOf Ytab, conOf [(64, Yq64)], fun _ => none⟩
theorem Yx61_ok : CxOk Try.prog Yx61 := ⟨tabB_sound Ytab_ok, conOf_sound ⟨Yh64, trivial⟩⟩
theorem Yat61 : FnAt Try.prog 61 Try.f61.ntmps Try.f61.results.toList (Try.f61.body.getD .skip) := ⟨Try.f61, Try.func61, rfl, rfl, by simp, by decide⟩
theorem Yf61_eq (a : Nat) (post : Int × Unit → Prop) : fnEval Yx61 nHn Try.f61.ntmps Try.f61.results.toList (Try.f61.body.getD .skip) [.flt .f64] [.snap (.int .u64)] (a, ()) post = YF61 a post := by kernel_rfl
theorem Yl61 (a : Nat) (h : W64 a) : YF61 a (fun r => r = mag2R a) := by
  refine ⟨trivial, by decide, ?_⟩
  refine congrArg r1 ?_
  show IntKind.u64.wrap ((a : Int) * 2 ^ 1) = _
  rw [IntKind.wrap_u64]; unfold mag2 magI rungOf sw; omega
theorem Yh61 : Yq61.holds Try.prog (fun _ => none) 61 :=
  detP Yx61_ok Ymixed nHn Yat61 (F := fun x post => YF61 x.1 post) (fun x post => Yf61_eq x.1 post) fun x h _ => Yl61 x.1 h
def YF90 := fun (a : Nat) (post : Int × Unit → Prop) =>
  ∃ (h : True),
    ∀ (a_1 : Bool),
      a_1 = decide ((bitsR a).fst ≥ (9223372036854775808 : Int)) →
        Br a_1 (post (Go.bits Go.BinOp.xor IntKind.u64 (if IntKind.u64.signed = Bool.true then (-1 : Int) else IntKind.u64.max) (bitsR a).fst, ()))
          (post (Go.bits Go.BinOp.or IntKind.u64 (bitsR a).fst (9223372036854775808 : Int), ()))
def Yx90 : Cx := ⟨tabOf Ytab, conOf [(64, Yq64)], fun _ => none⟩
theorem Yx90_ok : CxOk Try.prog Yx90 := ⟨tabB_sound Ytab_ok, conOf_sound ⟨Yh64, trivial⟩⟩
theorem Yat90 : FnAt Try.prog 90 Try.f90.ntmps Try.f90.results.toList (Try.f90.body.getD .skip) := ⟨Try.f90, Try.func90, rfl, rfl, by simp, by decide⟩
theorem Yf90_eq (a : Nat) (post : Int × Unit → Prop) : fnEval Yx90 nHn Try.f90.ntmps Try.f90.results.toList (Try.f90.body.getD .skip) [.flt .f64] [.snap (.int .u64)] (a, ()) post = YF90 a post := by kernel_rfl
theorem Yl90 (a : Nat) (h : W64 a) : YF90 a (fun r => r = placeR a) := by
  refine ⟨trivial, ?_⟩
  rintro _ rfl
  refine Br.intro (fun e => ?_) fun e => ?_
  · have e : 9223372036854775808 ≤ a := by have := of_decide_eq_true e; dsimp only [bitsR, r1] at this; omega
    refine congrArg r1 ?_
    show Go.bits .xor .u64 _ (a : Int) = _
    unfold placeI; rw [if_pos ((sgn_iff h).2 e)]
    exact xor_ones h
  · have e : a < 9223372036854775808 := by have := of_decide_eq_false e; dsimp only [bitsR, r1] at this; omega
    refine congrArg r1 ?_
    show Go.bits .or .u64 (a : Int) 9223372036854775808 = _
    unfold placeI; rw [if_neg (by rw [sgn_iff h]; omega)]
    exact or_sign e
theorem Yh90 : Yq90.holds Try.prog (fun _ => none) 90 :=
  detP Yx90_ok Ymixed nHn Yat90 (F := fun x post => YF90 x.1 post) (fun x post => Yf90_eq x.1 post) fun x h _ => Yl90 x.1 h
def YF89 := fun (a : Int) (post : Bool × Unit → Prop) => ∀ (a_1 : Bool), a_1 = (a != a) → post (a_1, ())
def Yx89 : Cx := ⟨tabOf Ytab, conOf [], fun _ => none⟩
theorem Yx89_ok : CxOk Try.prog Yx89 := ⟨tabB_sound Ytab_ok, fun f c h => by cases h⟩
theorem Yat89 : FnAt Try.prog 89 Try.f89.ntmps Try.f89.results.toList (Try.f89.body.getD .skip) := ⟨Try.f89, Try.func89, rfl, rfl, by simp, by decide⟩
theorem Yf89_eq (a : Int) (post : Bool × Unit → Prop) : fnEval Yx89 nHn Try.f89.ntmps Try.f89.results.toList (Try.f89.body.getD .skip) [.int .u64] [.snap .bool] (a, ()) post = YF89 a post := by kernel_rfl
theorem Yl89 (a : Int) : YF89 a (fun r => r = noR a) := by
  rintro _ rfl
  exact congrArg r1 (by simp)
theorem Yh89 : Yq89.holds Try.prog (fun _ => none) 89 :=
  detP Yx89_ok Ymixed nHn Yat89 (F := fun x post => YF89 x.1 post) (fun x post => Yf89_eq x.1 post) fun x _ _ => Yl89 x.1
def YF60 := fun (a b : Int) (post : Int × Unit → Prop) =>
  ∃ (h : True),
    ∀ (a_1 : Bool),
      a_1 = (noR a).fst →
        ∃ (h : True),
          ∀ (a_2 : Bool),
            a_2 = (noR b).fst →
              Br a_1 (Br a_2 (post ((0 : Int), ())) (post ((-1 : Int), ())))
                (Br a_2 (post ((1 : Int), ()))
                  (∀ (a_3 : Bool),
                    a_3 = decide (a < b) →
                      Br a_3 (post ((-1 : Int), ())) (∀ (a_4 : Bool), a_4 = decide (a > b) → Br a_4 (post ((1 : Int), ())) (post ((0 : Int), ())))))
def Yx60 : Cx := ⟨tabOf Ytab, conOf [(89, Yq89)], fun _ => none⟩
theorem Yx60_ok : CxOk Try.prog Yx60 := ⟨tabB_sound Ytab_ok, conOf_sound ⟨Yh89, trivial⟩⟩
theorem Yat60 : FnAt Try.prog 60 Try.f60.ntmps Try.f60.results.toList (Try.f60.body.getD .skip) := ⟨Try.f60, Try.func60, rfl, rfl, by simp, by decide⟩
theorem Yf60_eq (a : Int) (b : Int) (post : Int × Unit → Prop) : fnEval Yx60 nHn Try.f60.ntmps Try.f60.results.toList (Try.f60.body.getD .skip) [.int .u64, .int .u64] [.snap (.int .i64)] (a, b, ()) post = YF60 a b post := by kernel_rfl
theorem Yl60 (a : Int) (b : Int) : YF60 a b (fun r => r = cmpR a b) := by
  refine ⟨trivial, ?_⟩
  rintro _ rfl
  refine ⟨trivial, ?_⟩
  rintro _ rfl
  refine Br.intro (fun e => by cases e) fun _ => Br.intro (fun e => by cases e) fun _ => ?_
  rintro _ rfl
  refine Br.intro (fun e => ?_) fun e => ?_
  · exact congrArg r1 (by unfold cmpI; rw [if_pos (of_decide_eq_true e)])
  · rintro _ rfl
    refine Br.intro (fun f => ?_) fun f => ?_
    · exact congrArg r1 (by unfold cmpI; rw [if_neg (of_decide_eq_false e), if_pos (of_decide_eq_true f)])
    · exact congrArg r1 (by unfold cmpI; rw [if_neg (of_decide_eq_false e), if_neg (of_decide_eq_false f)])
theorem Yh60 : Yq60.holds Try.prog (fun _ => none) 60 :=
  detP Yx60_ok Ymixed nHn Yat60 (F := fun x post => YF60 x.1 x.2.1 post) (fun x post => Yf60_eq x.1 x.2.1 post) fun x _ _ => Yl60 x.1 x.2.1
def YF62 := fun (a b : Nat) (post : Int × Unit → Prop) =>
  ∃ (h : W64 a), ∃ (h : W64 b), ∃ (h : True), post ((cmpR (placeR a).fst (placeR b).fst).fst, ())
def Yx62 : Cx := ⟨tabOf Ytab, conOf [(90, Yq90), (60, Yq60)], fun _ => none⟩
theorem Yx62_ok : CxOk Try.prog Yx62 := ⟨tabB_sound Ytab_ok, conOf_sound ⟨Yh90, Yh60, trivial⟩⟩
theorem Yat62 : FnAt Try.prog 62 Try.f62.ntmps Try.f62.results.toList (Try.f62.body.getD .skip) := ⟨Try.f62, Try.func62, rfl, rfl, by simp, by decide⟩
theorem Yf62_eq (a : Nat) (b : Nat) (post : Int × Unit → Prop) : fnEval Yx62 nHn Try.f62.ntmps Try.f62.results.toList (Try.f62.body.getD .skip) [.flt .f64, .flt .f64] [.snap (.int .i64)] (a, b, ()) post = YF62 a b post := by kernel_rfl
theorem Yl62 (a : Nat) (b : Nat) (h : W2 a b) : YF62 a b (fun r => r = ordR a b) := by
  exact ⟨h.1, h.2, trivial, rfl⟩
theorem Yh62 : Yq62.holds Try.prog (fun _ => none) 62 :=
  detP Yx62_ok Ymixed nHn Yat62 (F := fun x post => YF62 x.1 x.2.1 post) (fun x post => Yf62_eq x.1 x.2.1 post) fun x h _ => Yl62 x.1 x.2.1 h
def YF59 := fun (a : List Int) (post : Int × Unit → Prop) =>
  HIs [] [] ∧
    ∃ (I : Int × Unit → Unit → Prop),
      ∃ (μ : Int × Unit → Unit → Nat),
        I ((0 : Int), ()) () ∧
          ∀ (x : Int × Unit) (y : Unit),
            I x y →
              ∀ (a_1 : Bool),
                a_1 = decide (x.fst < (↑a.length : Int)) →
                  Br a_1
                    (∃ (h : (0 : Int) ≤ x.fst ∧ x.fst < (↑a.length : Int)),
                      ∀ (a_2 : Bool),
                        a_2 = (a.getD x.fst.toNat (0 : Int) != (0 : Int)) →
                          Br a_2 (post (a.getD x.fst.toNat (0 : Int), ()))
                            (HIs [] [] ∧ I (IntKind.i64.wrap (x.fst + (1 : Int)), ()) () ∧ μ (IntKind.i64.wrap (x.fst + (1 : Int)), ()) () < μ x y))
                    (post ((0 : Int), ()))
def Yx59 : Cx := ⟨tabOf Ytab, conOf [], fun _ => none⟩
theorem Yx59_ok : CxOk Try.prog Yx59 := ⟨tabB_sound Ytab_ok, fun f c h => by cases h⟩
theorem Yat59 : FnAt Try.prog 59 Try.f59.ntmps Try.f59.results.toList (Try.f59.body.getD .skip) := ⟨Try.f59, Try.func59, rfl, rfl, by simp, by decide⟩
theorem Yf59_eq (a : List Int) (post : Int × Unit → Prop) : fnEval Yx59 Yhn59 Try.f59.ntmps Try.f59.results.toList (Try.f59.body.getD .skip) [.slice (.int .i64)] [.snap (.int .i64)] (a, ()) post = YF59 a post := by kernel_rfl
theorem Yl59 (a : List Int) (w : KS.wf [.slice (.int .i64)] (a, ())) : YF59 a (fun r => r = orR a) := by
  have hl : a.length ≤ maxN := w.1.1
  unfold maxN at hl
  refine ⟨rfl, fun x _ => ∃ i : Nat, x.1 = i ∧ i ≤ a.length ∧ firstNZ (a.drop i) = firstNZ a, fun x _ => a.length - x.1.toNat, ⟨0, rfl, by omega, rfl⟩, ?_⟩
  rintro ⟨_, ⟨⟩⟩ _ ⟨i, hi, hil, hn⟩
  dsimp only at hi
  subst hi
  rintro _ rfl
  refine Br.intro (fun e => ?_) fun e => ?_
  · have e : i < a.length := by have := of_decide_eq_true e; dsimp only at this; omega
    have hd : a.drop i = a.getD i 0 :: a.drop (i + 1) := by
      rw [List.drop_eq_getElem_cons e, List.getD_eq_getElem?_getD, List.getElem?_eq_getElem e]; rfl
    rw [hd] at hn
    simp only [Int.toNat_natCast]
    refine ⟨⟨by omega, by omega⟩, ?_⟩
    rintro _ rfl
    refine Br.intro (fun z => ?_) fun z => ⟨rfl, ⟨i + 1, ?_, by omega, ?_⟩, ?_⟩
    · have z : a.getD i 0 ≠ 0 := by simpa using z
      refine congrArg r1 ?_
      rw [← hn]; unfold firstNZ; rw [if_pos z]
    · rw [wi ⟨by omega, by omega⟩]; omega
    · have z : a.getD i 0 = 0 := by simpa using z
      rw [← hn, z]; rfl
    · rw [wi ⟨by omega, by omega⟩]; omega
  · have e : a.length ≤ i := by have := of_decide_eq_false e; dsimp only at this; omega
    refine congrArg r1 ?_
    rw [← hn, List.drop_eq_nil_of_le e]; rfl
theorem Yh59 : Yq59.holds Try.prog (fun _ => none) 59 :=
  detP Yx59_ok Ymixed Yhn59 Yat59 (F := fun x post => YF59 x.1 post) (fun x post => Yf59_eq x.1 post) fun x _ w => Yl59 x.1 w
def YF58 := fun (a b : Nat) (post : Int × Unit → Prop) =>
  ∃ (h : W64 a),
    ∃ (h : W64 b),
      ∃ (h : True), ∃ (h : W2 a b), ∃ (h : True), post ((orR [(cmpR (mag2R a).fst (mag2R b).fst).fst, (ordR a b).fst]).fst, ())
def Yx58 : Cx := ⟨tabOf Ytab, conOf [(61, Yq61), (60, Yq60), (62, Yq62), (59, Yq59)], fun _ => none⟩
theorem Yx58_ok : CxOk Try.prog Yx58 := ⟨tabB_sound Ytab_ok, conOf_sound ⟨Yh61, Yh60, Yh62, Yh59, trivial⟩⟩
theorem Yat58 : FnAt Try.prog 58 Try.f58.ntmps Try.f58.results.toList (Try.f58.body.getD .skip) := ⟨Try.f58, Try.func58, rfl, rfl, by simp, by decide⟩
theorem Yf58_eq (a : Nat) (b : Nat) (post : Int × Unit → Prop) : fnEval Yx58 nHn Try.f58.ntmps Try.f58.results.toList (Try.f58.body.getD .skip) [.flt .f64, .flt .f64] [.snap (.int .i64)] (a, b, ()) post = YF58 a b post := by kernel_rfl
theorem Yl58 (a : Nat) (b : Nat) (h : W2 a b) : YF58 a b (fun r => r = cmpMR a b) := by
  refine ⟨h.1, h.2, trivial, h, trivial, ?_⟩
  refine congrArg r1 ?_
  unfold cmpM
  show firstNZ [cmpI (mag2 a) (mag2 b), ordF a b] = _
  simp only [firstNZ]
  split
  · rfl
  · split
    · rfl
    · rename_i z; simpa using (by simpa using z : ordF a b = 0).symm
theorem Yh58 : Yq58.holds Try.prog (fun _ => none) 58 :=
  detP Yx58_ok Ymixed nHn Yat58 (F := fun x post => YF58 x.1 x.2.1 post) (fun x post => Yf58_eq x.1 x.2.1 post) fun x h _ => Yl58 x.1 x.2.1 h
def YF91 := fun (a b : Nat) (post : Int × Unit → Prop) =>
  ∃ (h : True),
    ∃ (h : True),
      ∀ (a_1 : Bool),
        a_1 = ((bitsR a).fst == (bitsR b).fst) →
          Br a_1 (post ((0 : Int), ()))
            (∃ (h : W64 a),
              ∀ (a_2 : Bool),
                a_2 = (belowR a).fst →
                  Br a_2
                    (∃ (h : W64 b),
                      ∀ (a_3 : Bool),
                        a_3 = (belowR b).fst →
                          Br a_3
                            (∀ (a_4 : Bool), a_4 = decide ((bitsR a).fst > (bitsR b).fst) → Br a_4 (post ((-1 : Int), ())) (post ((1 : Int), ())))
                            (∃ (h : W64 a),
                              ∀ (a_4 : Bool),
                                a_4 = (belowR a).fst →
                                  Br a_4 (post ((-1 : Int), ()))
                                    (∃ (h : W64 b),
                                      ∀ (a_5 : Bool),
                                        a_5 = (belowR b).fst →
                                          Br a_5 (post ((1 : Int), ()))
                                            (∀ (a_6 : Bool),
                                              a_6 = decide ((bitsR a).fst < (bitsR b).fst) →
                                                Br a_6 (post ((-1 : Int), ())) (post ((1 : Int), ()))))))
                    (∃ (h : W64 a),
                      ∀ (a_3 : Bool),
                        a_3 = (belowR a).fst →
                          Br a_3 (post ((-1 : Int), ()))
                            (∃ (h : W64 b),
                              ∀ (a_4 : Bool),
                                a_4 = (belowR b).fst →
                                  Br a_4 (post ((1 : Int), ()))
                                    (∀ (a_5 : Bool),
                                      a_5 = decide ((bitsR a).fst < (bitsR b).fst) → Br a_5 (post ((-1 : Int), ())) (post ((1 : Int), ()))))))
def Yx91 : Cx := ⟨tabOf Ytab, conOf [(24, Yq24), (85, Yq85)], fun _ => none⟩
theorem Yx91_ok : CxOk Try.prog Yx91 := ⟨tabB_sound Ytab_ok, conOf_sound ⟨Yh24, Yh85, trivial⟩⟩
theorem Yat91 : FnAt Try.prog 91 Try.f91.ntmps Try.f91.results.toList (Try.f91.body.getD .skip) := ⟨Try.f91, Try.func91, rfl, rfl, by simp, by decide⟩
theorem Yf91_eq (a : Nat) (b : Nat) (post : Int × Unit → Prop) : fnEval Yx91 nHn Try.f91.ntmps Try.f91.results.toList (Try.f91.body.getD .skip) [.flt .f64, .flt .f64] [.snap (.int .i64)] (a, b, ()) post = YF91 a b post := by kernel_rfl
theorem Yl91 (a : Nat) (b : Nat) (h : W2 a b) : YF91 a b (fun r => r = ordR a b) := by
  have hw1 := h.1
  have hw2 := h.2
  refine ⟨trivial, trivial, ?_⟩
  rintro _ rfl
  refine Br.intro (fun e => ?_) fun e => ⟨hw1, ?_⟩
  · have e : ((a : Int) == (b : Int)) = true := e
    exact congrArg r1 (ord_same (by simpa [beq_nat] using e)).symm
  · have e : ((a : Int) == (b : Int)) = false := e
    have e : a ≠ b := by simpa [beq_nat] using e
    have one : sgn b = false → ∀ t : Bool, t = sgn a → Br t ((-1, ()) = ordR a b) (∃ _ : W64 b, ∀ t : Bool, t = sgn b → Br t ((1, ()) = ordR a b) (∀ t : Bool, t = decide ((a : Int) < (b : Int)) → Br t ((-1, ()) = ordR a b) ((1, ()) = ordR a b))) := by
      rintro hb _ rfl
      refine Br.intro (fun f => congrArg r1 (ord_np f hb hw1 hw2).symm) fun f => ⟨hw2, ?_⟩
      rintro _ rfl
      refine Br.intro (fun g => by rw [hb] at g; cases g) fun g => ?_
      rintro _ rfl
      refine Br.intro (fun z => congrArg r1 (ord_pp f g (of_decide_eq_true z)).symm) fun z => congrArg r1 (ord_pp' f g e (by have := of_decide_eq_false z; omega)).symm
    have two : sgn a = false → ∀ t : Bool, t = sgn a → Br t ((-1, ()) = ordR a b) (∃ _ : W64 b, ∀ t : Bool, t = sgn b → Br t ((1, ()) = ordR a b) (∀ t : Bool, t = decide ((a : Int) < (b : Int)) → Br t ((-1, ()) = ordR a b) ((1, ()) = ordR a b))) := by
      rintro hb _ rfl
      refine Br.intro (fun f => by rw [hb] at f; cases f) fun f => ⟨hw2, ?_⟩
      rintro _ rfl
      refine Br.intro (fun g => congrArg r1 (ord_pn f g hw1 hw2).symm) fun g => ?_
      rintro _ rfl
      refine Br.intro (fun z => congrArg r1 (ord_pp f g (of_decide_eq_true z)).symm) fun z => congrArg r1 (ord_pp' f g e (by have := of_decide_eq_false z; omega)).symm
    rintro _ rfl
    refine Br.intro (fun f => ⟨hw2, ?_⟩) fun f => ⟨hw1, two f⟩
    rintro _ rfl
    refine Br.intro (fun g => ?_) fun g => ⟨hw1, one g⟩
    rintro _ rfl
    refine Br.intro (fun z => congrArg r1 (ord_nn f g (of_decide_eq_true z)).symm) fun z => congrArg r1 (ord_nn' f g e (by have := of_decide_eq_false z; dsimp only [bitsR, r1] at this; omega)).symm
theorem Yh91 : Yq91.holds Try.prog (fun _ => none) 91 :=
  detP Yx91_ok Ymixed nHn Yat91 (F := fun x post => YF91 x.1 x.2.1 post) (fun x post => Yf91_eq x.1 x.2.1 post) fun x h _ => Yl91 x.1 x.2.1 h
def YF63 := fun (a b : Nat) (post : Bool × Unit → Prop) =>
  ∃ (h : W64 a),
    ∃ (h : W64 b),
      ∀ (a_1 : Bool),
        a_1 = decide ((magR a).fst < (magR b).fst) →
          Br a_1 (post (Bool.true, ()))
            (∀ (a_2 : Bool),
              a_2 = ((magR a).fst == (magR b).fst) →
                Br a_2 (∃ (h : W2 a b), ∀ (a_3 : Bool), a_3 = decide ((ordR a b).fst < (0 : Int)) → post (a_3, ())) (post (Bool.false, ())))
def Yx63 : Cx := ⟨tabOf Ytab, conOf [(82, Yq82), (91, Yq91)], fun _ => none⟩
theorem Yx63_ok : CxOk Try.prog Yx63 := ⟨tabB_sound Ytab_ok, conOf_sound ⟨Yh82, Yh91, trivial⟩⟩
theorem Yat63 : FnAt Try.prog 63 Try.f63.ntmps Try.f63.results.toList (Try.f63.body.getD .skip) := ⟨Try.f63, Try.func63, rfl, rfl, by simp, by decide⟩
theorem Yf63_eq (a : Nat) (b : Nat) (post : Bool × Unit → Prop) : fnEval Yx63 nHn Try.f63.ntmps Try.f63.results.toList (Try.f63.body.getD .skip) [.flt .f64, .flt .f64] [.snap .bool] (a, b, ()) post = YF63 a b post := by kernel_rfl
theorem Yl63 (a : Nat) (b : Nat) (h : W2 a b) : YF63 a b (fun r => r = aheadR a b) := by
  refine ⟨h.1, h.2, ?_⟩
  rintro _ rfl
  refine Br.intro (fun e => ?_) fun e => ?_
  · have e : magI a < magI b := of_decide_eq_true e
    exact congrArg r1 (ahead_lt e).symm
  · have e : ¬ magI a < magI b := of_decide_eq_false e
    rintro _ rfl
    refine Br.intro (fun z => ⟨h, ?_⟩) fun z => ?_
    · have z : (magI a == magI b) = true := z
      rintro _ rfl
      exact congrArg r1 (ahead_eq (by simpa using z)).symm
    · have z : (magI a == magI b) = false := z
      have z : magI a ≠ magI b := by simpa using z
      exact congrArg r1 (ahead_gt (by omega)).symm
theorem Yh63 : Yq63.holds Try.prog (fun _ => none) 63 :=
  detP Yx63_ok Ymixed nHn Yat63 (F := fun x post => YF63 x.1 x.2.1 post) (fun x post => Yf63_eq x.1 x.2.1 post) fun x h _ => Yl63 x.1 x.2.1 h
def YF72 := fun (a : Nat) (b : Int) (post : Bool × Unit → Prop) =>
  ∀ (a_1 : Bool),
    a_1 = (b == (0 : Int)) →
      Br a_1
        (∃ (h : W64 a), ∀ (a_2 : Bool), a_2 = fcmp Go.BinOp.gtr (Go.FloatKind.f64.format.order (absR a).fst (9218868437227405311 : Nat)) → post (a_2, ()))
        (∀ (a_2 : Bool),
          a_2 = decide (b < (0 : Int)) →
            Br a_2
              (∀ (a_3 : Bool), a_3 = fcmp Go.BinOp.gtr (Go.FloatKind.f64.format.order (Go.Op.negFloat Go.FloatKind.f64 a) (9218868437227405311 : Nat)) → post (a_3, ()))
              (∀ (a_3 : Bool), a_3 = fcmp Go.BinOp.gtr (Go.FloatKind.f64.format.order a (9218868437227405311 : Nat)) → post (a_3, ())))
def Yx72 : Cx := ⟨tabOf Ytab, conOf [(80, Yq80)], fun _ => none⟩
theorem Yx72_ok : CxOk Try.prog Yx72 := ⟨tabB_sound Ytab_ok, conOf_sound ⟨Yh80, trivial⟩⟩
theorem Yat72 : FnAt Try.prog 72 Try.f72.ntmps Try.f72.results.toList (Try.f72.body.getD .skip) := ⟨Try.f72, Try.func72, rfl, rfl, by simp, by decide⟩
theorem Yf72_eq (a : Nat) (b : Int) (post : Bool × Unit → Prop) : fnEval Yx72 nHn Try.f72.ntmps Try.f72.results.toList (Try.f72.body.getD .skip) [.flt .f64, .int .i64] [.snap .bool] (a, b, ()) post = YF72 a b post := by kernel_rfl
theorem Yl72 (a : Nat) (b : Int) (h : WI a b) : YF72 a b (fun r => r = infSR a b) := by
  have h : W64 a := h
  rintro _ rfl
  refine Br.intro (fun e => ⟨h, ?_⟩) fun e => ?_
  · have e : b = 0 := by simpa using e
    rintro _ rfl
    refine congrArg r1 ?_
    show fcmp .gtr (Ieee.double.order (rungOf a) 9218868437227405311) = _
    unfold infS; rw [if_pos e, gt_max]
    have := rung_lt a
    have e1 : rungOf (rungOf a) = rungOf a := rung_lo this
    have e2 : sgn (rungOf a) = false := by rw [sgn_dec (by unfold W64; omega)]; simp; omega
    rw [e1, e2]; simp
  · have e : b ≠ 0 := by simpa using e
    rintro _ rfl
    refine Br.intro (fun f => ?_) fun f => ?_
    · have f : b < 0 := of_decide_eq_true f
      rintro _ rfl
      refine congrArg r1 ?_
      show fcmp .gtr (Ieee.double.order (negF a) 9218868437227405311) = _
      unfold infS; rw [if_neg e, if_pos f, gt_max, (rung_negF h).1, sgn_negF h]; simp
    · have f : ¬ b < 0 := of_decide_eq_false f
      rintro _ rfl
      refine congrArg r1 ?_
      show fcmp .gtr (Ieee.double.order a 9218868437227405311) = _
      unfold infS; rw [if_neg e, if_neg f, gt_max]
theorem Yh72 : Yq72.holds Try.prog (fun _ => none) 72 :=
  detP Yx72_ok Ymixed nHn Yat72 (F := fun x post => YF72 x.1 x.2.1 post) (fun x post => Yf72_eq x.1 x.2.1 post) fun x h _ => Yl72 x.1 x.2.1 h
def YF79 := fun (a : Nat) (post : Bool × Unit → Prop) =>
  ∃ (h : WI a (0 : Int)),
    ∀ (a_1 : Bool),
      a_1 = (infSR a (0 : Int)).fst →
        Br (!a_1) (∀ (a_2 : Bool), a_2 = fcmp Go.BinOp.eql (Go.FloatKind.f64.format.order a a) → post (a_2, ())) (post (Bool.false, ()))
def Yx79 : Cx := ⟨tabOf Ytab, conOf [(72, Yq72)], fun _ => none⟩
theorem Yx79_ok : CxOk Try.prog Yx79 := ⟨tabB_sound Ytab_ok, conOf_sound ⟨Yh72, trivial⟩⟩
theorem Yat79 : FnAt Try.prog 79 Try.f79.ntmps Try.f79.results.toList (Try.f79.body.getD .skip) := ⟨Try.f79, Try.func79, rfl, rfl, by simp, by decide⟩
theorem Yf79_eq (a : Nat) (post : Bool × Unit → Prop) : fnEval Yx79 nHn Try.f79.ntmps Try.f79.results.toList (Try.f79.body.getD .skip) [.flt .f64] [.snap .bool] (a, ()) post = YF79 a post := by kernel_rfl
theorem Yl79 (a : Nat) (h : W64 a) : YF79 a (fun r => r = finR a) := by
  refine ⟨h, ?_⟩
  rintro _ rfl
  refine Br.intro (fun e => ?_) fun e => ?_
  · have e : (!infS a 0) = true := e
    have e : infS a 0 = false := by simpa using e
    rintro _ rfl
    refine congrArg r1 ?_
    show fcmp .eql (Ieee.double.order a a) = _
    rw [eql_self]
    unfold infS at e; rw [if_pos rfl] at e
    have := of_decide_eq_false e
    unfold isN finF
    rw [Bool.eq_iff_iff]; simp; omega
  · have e : (!infS a 0) = false := e
    have e : infS a 0 = true := by simpa using e
    unfold infS at e; rw [if_pos rfl] at e
    have := of_decide_eq_true e
    refine congrArg r1 ?_
    unfold finF; rw [Bool.eq_iff_iff]; simp; omega
theorem Yh79 : Yq79.holds Try.prog (fun _ => none) 79 :=
  detP Yx79_ok Ymixed nHn Yat79 (F := fun x post => YF79 x.1 post) (fun x post => Yf79_eq x.1 post) fun x h _ => Yl79 x.1 h
def YF73 := fun (a : Nat) (post : Int × Unit → Prop) =>
  ∃ (h : W64 a),
    ∀ (a_1 : Bool),
      a_1 = ((magR a).fst == (0 : Int)) →
        Br a_1 (post ((0 : Int), ()))
          (∀ (a_2 : Bool),
            a_2 = decide ((magR a).fst < (4503599627370496 : Int)) →
              Br a_2 (post ((1 : Int), ()))
                (∀ (a_3 : Bool),
                  a_3 = decide ((magR a).fst < (9218868437227405312 : Int)) →
                    Br a_3 (post ((2 : Int), ()))
                      (∀ (a_4 : Bool), a_4 = ((magR a).fst == (9218868437227405312 : Int)) → Br a_4 (post ((3 : Int), ())) (post ((4 : Int), ())))))
def Yx73 : Cx := ⟨tabOf Ytab, conOf [(82, Yq82)], fun _ => none⟩
theorem Yx73_ok : CxOk Try.prog Yx73 := ⟨tabB_sound Ytab_ok, conOf_sound ⟨Yh82, trivial⟩⟩
theorem Yat73 : FnAt Try.prog 73 Try.f73.ntmps Try.f73.results.toList (Try.f73.body.getD .skip) := ⟨Try.f73, Try.func73, rfl, rfl, by simp, by decide⟩
theorem Yf73_eq (a : Nat) (post : Int × Unit → Prop) : fnEval Yx73 nHn Try.f73.ntmps Try.f73.results.toList (Try.f73.body.getD .skip) [.flt .f64] [.snap (.int .i64)] (a, ()) post = YF73 a post := by kernel_rfl
theorem Yl73 (a : Nat) (h : W64 a) : YF73 a (fun r => r = classR a) := by
  refine ⟨h, ?_⟩
  generalize hm : (magR a).fst = m
  have hm : magI a = m := hm
  rintro _ rfl
  refine Br.intro (fun e => by subst hm; exact congrArg r1 (class_0 e).symm) fun e => ?_
  have e2 : rungOf a ≠ 0 := by subst hm; exact class_nz e
  clear e
  rintro _ rfl
  refine Br.intro (fun f => by subst hm; exact congrArg r1 (class_1 e2 f).symm) fun f => ?_
  rintro _ rfl
  refine Br.intro (fun g => by subst hm; exact congrArg r1 (class_2 e2 f g).symm) fun g => ?_
  rintro _ rfl
  exact Br.intro (fun k => by subst hm; exact congrArg r1 (class_3 e2 f g k).symm) fun k => by subst hm; exact congrArg r1 (class_4 e2 f g k).symm
theorem Yh73 : Yq73.holds Try.prog (fun _ => none) 73 :=
  detP Yx73_ok Ymixed nHn Yat73 (F := fun x post => YF73 x.1 post) (fun x post => Yf73_eq x.1 post) fun x h _ => Yl73 x.1 h
def YF75 := fun (a : Nat) (post : Int × Unit → Prop) =>
  ∃ (h : W64 a),
    ∀ (a_1 : Bool),
      a_1 = ((magR a).fst == (0 : Int)) →
        Br a_1 (post ((0 : Int), ()))
          (∀ (a_2 : Bool),
            a_2 = decide ((magR a).fst < (4503599627370496 : Int)) →
              Br a_2 (post ((1 : Int), ()))
                (∀ (a_3 : Bool),
                  a_3 = decide ((magR a).fst < (9218868437227405312 : Int)) →
                    Br a_3 (post ((2 : Int), ()))
                      (∀ (a_4 : Bool), a_4 = ((magR a).fst == (9218868437227405312 : Int)) → Br a_4 (post ((3 : Int), ())) (post ((4 : Int), ())))))
def Yx75 : Cx := ⟨tabOf Ytab, conOf [(94, Yq94)], fun _ => none⟩
theorem Yx75_ok : CxOk Try.prog Yx75 := ⟨tabB_sound Ytab_ok, conOf_sound ⟨Yh94, trivial⟩⟩
theorem Yat75 : FnAt Try.prog 75 Try.f75.ntmps Try.f75.results.toList (Try.f75.body.getD .skip) := ⟨Try.f75, Try.func75, rfl, rfl, by simp, by decide⟩
theorem Yf75_eq (a : Nat) (post : Int × Unit → Prop) : fnEval Yx75 nHn Try.f75.ntmps Try.f75.results.toList (Try.f75.body.getD .skip) [.flt .f64] [.snap (.int .i64)] (a, ()) post = YF75 a post := by kernel_rfl
theorem Yl75 (a : Nat) (h : W64 a) : YF75 a (fun r => r = classR a) := by
  refine ⟨h, ?_⟩
  generalize hm : (magR a).fst = m
  have hm : magI a = m := hm
  rintro _ rfl
  refine Br.intro (fun e => by subst hm; exact congrArg r1 (class_0 e).symm) fun e => ?_
  have e2 : rungOf a ≠ 0 := by subst hm; exact class_nz e
  clear e
  rintro _ rfl
  refine Br.intro (fun f => by subst hm; exact congrArg r1 (class_1 e2 f).symm) fun f => ?_
  rintro _ rfl
  refine Br.intro (fun g => by subst hm; exact congrArg r1 (class_2 e2 f g).symm) fun g => ?_
  rintro _ rfl
  exact Br.intro (fun k => by subst hm; exact congrArg r1 (class_3 e2 f g k).symm) fun k => by subst hm; exact congrArg r1 (class_4 e2 f g k).symm
theorem Yh75 : Yq75.holds Try.prog (fun _ => none) 75 :=
  detP Yx75_ok Ymixed nHn Yat75 (F := fun x post => YF75 x.1 post) (fun x post => Yf75_eq x.1 post) fun x h _ => Yl75 x.1 h
def YF81 := fun (a b : Nat) (post : Nat × Nat × Unit → Prop) => ∃ (h : True), ∃ (h : True), post ((canonR a).fst, (canonR b).fst, ())
def Yx81 : Cx := ⟨tabOf Ytab, conOf [(45, Yq45)], fun _ => none⟩
theorem Yx81_ok : CxOk Try.prog Yx81 := ⟨tabB_sound Ytab_ok, conOf_sound ⟨Yh45, trivial⟩⟩
theorem Yat81 : FnAt Try.prog 81 Try.f81.ntmps Try.f81.results.toList (Try.f81.body.getD .skip) := ⟨Try.f81, Try.func81, rfl, rfl, by simp, by decide⟩
theorem Yf81_eq (a : Nat) (b : Nat) (post : Nat × Nat × Unit → Prop) : fnEval Yx81 nHn Try.f81.ntmps Try.f81.results.toList (Try.f81.body.getD .skip) [.flt .f64, .flt .f64] [.snap (.flt .f64), .snap (.flt .f64)] (a, b, ()) post = YF81 a b post := by kernel_rfl
theorem Yl81 (a : Nat) (b : Nat) : YF81 a b (fun r => r = canons2R a b) := by
  exact ⟨trivial, trivial, rfl⟩
theorem Yh81 : Yq81.holds Try.prog (fun _ => none) 81 :=
  detP Yx81_ok Ymixed nHn Yat81 (F := fun x post => YF81 x.1 x.2.1 post) (fun x post => Yf81_eq x.1 x.2.1 post) fun x _ _ => Yl81 x.1 x.2.1
end Go.Lift

/- Contracts of sums and vectors. Own work. -/
set_option linter.unusedVariables false
set_option linter.unusedSimpArgs false
namespace Go.Lift
open Go.Proofs
def YF51 := fun (a : List Nat) (post : Nat × Unit → Prop) =>
  ∀ (a_1 : Bool),
    a_1 = ((↑a.length : Int) == (0 : Int)) →
      Br a_1 (post ((0 : Nat), ()))
        (∃ (h : (0 : Int) ≤ (0 : Int) ∧ (0 : Int) < (↑a.length : Int)),
          ∃ (h : (0 : Int) ≤ (1 : Int) ∧ (1 : Int) ≤ (↑a.length : Int) ∧ (↑a.length : Int) ≤ (↑a.length : Int)),
            HIs [] [] ∧
              ∃ (I : Nat × Int × Unit → Unit → Prop),
                ∃ (μ : Nat × Int × Unit → Unit → Nat),
                  I (a.getD (Int.toNat (0 : Int)) (0 : Nat), (0 : Int), ()) () ∧
                    ∀ (x : Nat × Int × Unit) (y : Unit),
                      I x y →
                        ∀ (a_2 : Bool),
                          a_2 = decide (x.snd.fst < (↑(List.take ((↑a.length : Int) - (1 : Int)).toNat (List.drop (Int.toNat (1 : Int)) a)).length : Int)) →
                            Br a_2
                              (∃ (h : (0 : Int) ≤ x.snd.fst ∧ x.snd.fst < (↑(List.take ((↑a.length : Int) - (1 : Int)).toNat (List.drop (Int.toNat (1 : Int)) a)).length : Int)),
                                ∀ (a_3 : Nat),
                                  FRes Go.FloatKind.f64
                                      (Go.FloatKind.f64.format.add x.fst
                                        ((List.take ((↑a.length : Int) - (1 : Int)).toNat (List.drop (Int.toNat (1 : Int)) a)).getD x.snd.fst.toNat (0 : Nat)))
                                      a_3 →
                                    HIs [] [] ∧
                                      I (a_3, IntKind.i64.wrap (x.snd.fst + (1 : Int)), ()) () ∧ μ (a_3, IntKind.i64.wrap (x.snd.fst + (1 : Int)), ()) () < μ x y)
                              (∃ (h : True), post ((quietR x.fst).fst, ())))
def Yx51 : Cx := ⟨tabOf Ytab, conOf [(76, Yq76)], fun _ => none⟩
theorem Yx51_ok : CxOk Try.prog Yx51 := ⟨tabB_sound Ytab_ok, conOf_sound ⟨Yh76, trivial⟩⟩
theorem Yat51 : FnAt Try.prog 51 Try.f51.ntmps Try.f51.results.toList (Try.f51.body.getD .skip) := ⟨Try.f51, Try.func51, rfl, rfl, by simp, by decide⟩
theorem Yf51_eq (a : List Nat) (post : Nat × Unit → Prop) : fnEval Yx51 Yhn51 Try.f51.ntmps Try.f51.results.toList (Try.f51.body.getD .skip) [.slice (.flt .f64)] [.snap (.flt .f64)] (a, ()) post = YF51 a post := by kernel_rfl
theorem Yl51 (a : List Nat) (h : WL a) (w : KS.wf [.slice (.flt .f64)] (a, ())) : YF51 a (fun r => r = rowR a) := by
  have hl : a.length ≤ maxN := w.1.1
  unfold maxN at hl
  rintro _ rfl
  refine Br.intro (fun e => ?_) fun e => ?_
  · have e : a.length = 0 := by have := eq_of_beq e; omega
    have : a = [] := List.eq_nil_of_length_eq_zero e
    subst this; rfl
  · have e : 0 < a.length := by
      rcases Nat.eq_zero_or_pos a.length with z | z
      · rw [z] at e; cases e
      · exact z
    refine ⟨⟨by omega, by omega⟩, ⟨by omega, by omega, by omega⟩, rfl, fun x _ => ∃ i : Nat, x.2.1 = i ∧ i + 1 ≤ a.length ∧ W64 x.1 ∧ quietF x.1 = rowQ (a.take (i + 1)), fun x _ => a.length - x.2.1.toNat, ⟨0, rfl, by omega, WL_getD h 0, (rowQ_one e).symm⟩, ?_⟩
    have ht : List.take ((a.length : Int) - 1).toNat (List.drop (Int.toNat 1) a) = a.drop 1 := by
      show List.take ((a.length : Int) - 1).toNat (List.drop 1 a) = a.drop 1
      apply List.take_of_length_le; rw [List.length_drop]; omega
    rw [ht]
    have hd : ∀ i, (a.drop 1).getD i 0 = a.getD (i + 1) 0 := by
      intro i; rw [List.getD_eq_getElem?_getD, List.getD_eq_getElem?_getD, List.getElem?_drop, Nat.add_comm]
    rintro ⟨acc, _, ⟨⟩⟩ _ ⟨i, hi, hil, hw, hq⟩
    dsimp only at hi hw hq
    subst hi
    dsimp only
    rintro _ rfl
    refine Br.intro (fun f => ?_) fun f => ?_
    · have f : i + 1 < a.length := by have := of_decide_eq_true f; rw [List.length_drop] at this; omega
      refine ⟨⟨by omega, by rw [List.length_drop]; omega⟩, fun r hr => ?_⟩
      rw [Int.toNat_natCast, hd] at hr
      obtain ⟨q1, q2⟩ := fadd hr
      refine ⟨rfl, ⟨i + 1, ?_, by omega, q2, ?_⟩, ?_⟩
      · rw [wi ⟨by omega, by omega⟩]; omega
      · show quietF r = _
        rw [q1, rowQ_at f (by omega), addQ_congr (x' := rowQ (a.take (i + 1))) (by rw [hq, rowQ_q]) rfl]
      · rw [wi ⟨by omega, by omega⟩]; omega
    · have f : a.length ≤ i + 1 := by have := of_decide_eq_false f; rw [List.length_drop] at this; omega
      refine ⟨trivial, congrArg r1 ?_⟩
      show quietF acc = _
      rw [hq, List.take_of_length_le f]
theorem Yh51 : Yq51.holds Try.prog (fun _ => none) 51 :=
  detP Yx51_ok Ymixed Yhn51 Yat51 (F := fun x post => YF51 x.1 post) (fun x post => Yf51_eq x.1 post) fun x h w => Yl51 x.1 h w
def YF16 := fun (a : List Nat) (post : Nat × Unit → Prop) => ∃ (h : WL a), post ((rowR a).fst, ())
def Yx16 : Cx := ⟨tabOf Ytab, conOf [(51, Yq51)], fun _ => none⟩
theorem Yx16_ok : CxOk Try.prog Yx16 := ⟨tabB_sound Ytab_ok, conOf_sound ⟨Yh51, trivial⟩⟩
theorem Yat16 : FnAt Try.prog 16 Try.f16.ntmps Try.f16.results.toList (Try.f16.body.getD .skip) := ⟨Try.f16, Try.func16, rfl, rfl, by simp, by decide⟩
theorem Yf16_eq (a : List Nat) (post : Nat × Unit → Prop) : fnEval Yx16 nHn Try.f16.ntmps Try.f16.results.toList (Try.f16.body.getD .skip) [.slice (.flt .f64)] [.snap (.flt .f64)] (a, ()) post = YF16 a post := by kernel_rfl
theorem Yl16 (a : List Nat) (h : WL a) : YF16 a (fun r => r = rowR a) := by
  exact ⟨h, rfl⟩
theorem Yh16 : Yq16.holds Try.prog (fun _ => none) 16 :=
  detP Yx16_ok Ymixed nHn Yat16 (F := fun x post => YF16 x.1 post) (fun x post => Yf16_eq x.1 post) fun x h _ => Yl16 x.1 h
def YF17 := fun (a : List Nat) (post : Nat × Unit → Prop) =>
  ∀ (a_1 : Bool),
    a_1 = ((↑a.length : Int) == (0 : Int)) →
      Br a_1 (∃ (h : True), post (zeroR.fst, ()))
        (∃ (h : (0 : Int) ≤ (0 : Int) ∧ (0 : Int) < (↑a.length : Int)),
          HIs [] [] ∧
            ∃ (I : Nat × Int × Unit → Unit → Prop),
              ∃ (μ : Nat × Int × Unit → Unit → Nat),
                I (a.getD (Int.toNat (0 : Int)) (0 : Nat), (1 : Int), ()) () ∧
                  ∀ (x : Nat × Int × Unit) (y : Unit),
                    I x y →
                      ∀ (a_2 : Bool),
                        a_2 = decide (x.snd.fst < (↑a.length : Int)) →
                          Br a_2
                            (∃ (h : (0 : Int) ≤ x.snd.fst ∧ x.snd.fst < (↑a.length : Int)),
                              ∀ (a_3 : Nat),
                                FRes Go.FloatKind.f64 (Go.FloatKind.f64.format.add x.fst (a.getD x.snd.fst.toNat (0 : Nat))) a_3 →
                                  HIs [] [] ∧
                                    I (a_3, IntKind.i64.wrap (x.snd.fst + (1 : Int)), ()) () ∧ μ (a_3, IntKind.i64.wrap (x.snd.fst + (1 : Int)), ()) () < μ x y)
                            (∃ (h : W64 x.fst), post ((quietR x.fst).fst, ())))
def Yx17 : Cx := ⟨tabOf Ytab, conOf [(52, Yq52), (53, Yq53)], fun _ => none⟩
theorem Yx17_ok : CxOk Try.prog Yx17 := ⟨tabB_sound Ytab_ok, conOf_sound ⟨Yh52, Yh53, trivial⟩⟩
theorem Yat17 : FnAt Try.prog 17 Try.f17.ntmps Try.f17.results.toList (Try.f17.body.getD .skip) := ⟨Try.f17, Try.func17, rfl, rfl, by simp, by decide⟩
theorem Yf17_eq (a : List Nat) (post : Nat × Unit → Prop) : fnEval Yx17 Yhn17 Try.f17.ntmps Try.f17.results.toList (Try.f17.body.getD .skip) [.slice (.flt .f64)] [.snap (.flt .f64)] (a, ()) post = YF17 a post := by kernel_rfl
theorem Yl17 (a : List Nat) (h : WL a) (w : KS.wf [.slice (.flt .f64)] (a, ())) : YF17 a (fun r => r = rowR a) := by
  have hl : a.length ≤ maxN := w.1.1
  unfold maxN at hl
  rintro _ rfl
  refine Br.intro (fun e => ⟨trivial, ?_⟩) fun e => ?_
  · have e : a.length = 0 := by have := eq_of_beq e; omega
    have : a = [] := List.eq_nil_of_length_eq_zero e
    subst this; rfl
  · have e : 0 < a.length := by
      rcases Nat.eq_zero_or_pos a.length with z | z
      · rw [z] at e; cases e
      · exact z
    refine ⟨⟨by omega, by omega⟩, rfl, fun x _ => ∃ i : Nat, x.2.1 = i ∧ 1 ≤ i ∧ i ≤ a.length ∧ W64 x.1 ∧ quietF x.1 = rowQ (a.take i), fun x _ => a.length - x.2.1.toNat, ⟨1, rfl, by omega, by omega, WL_getD h 0, (rowQ_one e).symm⟩, ?_⟩
    rintro ⟨acc, _, ⟨⟩⟩ _ ⟨i, hi, h1, hil, hw, hq⟩
    dsimp only at hi hw hq
    subst hi
    dsimp only
    rintro _ rfl
    refine Br.intro (fun f => ?_) fun f => ?_
    · have f : i < a.length := by have := of_decide_eq_true f; omega
      refine ⟨⟨by omega, by omega⟩, fun r hr => ?_⟩
      rw [Int.toNat_natCast] at hr
      obtain ⟨q1, q2⟩ := fadd hr
      refine ⟨rfl, ⟨i + 1, ?_, by omega, by omega, q2, ?_⟩, ?_⟩
      · rw [wi ⟨by omega, by omega⟩]; omega
      · show quietF r = _
        rw [q1, rowQ_at f (by omega), addQ_congr (x' := rowQ (a.take i)) (by rw [hq, rowQ_q]) rfl]
      · rw [wi ⟨by omega, by omega⟩]; omega
    · have f : a.length ≤ i := by have := of_decide_eq_false f; omega
      refine ⟨hw, congrArg r1 ?_⟩
      show quietF acc = _
      rw [hq, List.take_of_length_le f]
theorem Yh17 : Yq17.holds Try.prog (fun _ => none) 17 :=
  detP Yx17_ok Ymixed Yhn17 Yat17 (F := fun x post => YF17 x.1 post) (fun x post => Yf17_eq x.1 post) fun x h w => Yl17 x.1 h w
def YF55 := fun (a b : Nat) (post : Nat × Nat × Unit → Prop) =>
  ∀ (a_1 : Nat),
    FRes Go.FloatKind.f64 (Go.FloatKind.f64.format.add a b) a_1 →
      ∃ (h : W64 a_1),
        ∀ (a_2 : Bool),
          a_2 = (finR a_1).fst →
            Br (!a_2) (∃ (h : True), post ((canonR a_1).fst, (0 : Nat), ()))
              (∃ (h : W64 a),
                ∃ (h : W64 b),
                  ∀ (a_3 : Bool),
                    a_3 = fcmp Go.BinOp.lss (Go.FloatKind.f64.format.order (absR a).fst (absR b).fst) →
                      Br a_3
                        (∀ (a_4 : Nat),
                          FRes Go.FloatKind.f64 (Go.FloatKind.f64.format.sub a_1 b) a_4 →
                            ∀ (a_5 : Nat),
                              FRes Go.FloatKind.f64 (Go.FloatKind.f64.format.sub a a_4) a_5 →
                                ∃ (h : True), post ((canons2R a_1 a_5).fst, (canons2R a_1 a_5).snd.fst, ()))
                        (∀ (a_4 : Nat),
                          FRes Go.FloatKind.f64 (Go.FloatKind.f64.format.sub a_1 a) a_4 →
                            ∀ (a : Nat),
                              FRes Go.FloatKind.f64 (Go.FloatKind.f64.format.sub b a_4) a →
                                ∃ (h : True), post ((canons2R a_1 a).fst, (canons2R a_1 a).snd.fst, ())))
def Yx55 : Cx := ⟨tabOf Ytab, conOf [(79, Yq79), (45, Yq45), (80, Yq80), (81, Yq81)], fun _ => none⟩
theorem Yx55_ok : CxOk Try.prog Yx55 := ⟨tabB_sound Ytab_ok, conOf_sound ⟨Yh79, Yh45, Yh80, Yh81, trivial⟩⟩
theorem Yat55 : FnAt Try.prog 55 Try.f55.ntmps Try.f55.results.toList (Try.f55.body.getD .skip) := ⟨Try.f55, Try.func55, rfl, rfl, by simp, by decide⟩
theorem Yf55_eq (a : Nat) (b : Nat) (post : Nat × Nat × Unit → Prop) : fnEval Yx55 nHn Try.f55.ntmps Try.f55.results.toList (Try.f55.body.getD .skip) [.flt .f64, .flt .f64] [.snap (.flt .f64), .snap (.flt .f64)] (a, b, ()) post = YF55 a b post := by kernel_rfl
theorem Yl55 (a : Nat) (b : Nat) (h : W2 a b) : YF55 a b (fun r => r = twR a b) := by
  obtain ⟨ha, hb⟩ := h
  intro s hs
  obtain ⟨q1, w1⟩ := fadd hs
  refine ⟨w1, ?_⟩
  rintro _ rfl
  refine Br.intro (fun e => ⟨trivial, ?_⟩) fun e => ⟨ha, hb, ?_⟩
  · have e : (!finF s) = true := e
    exact (tw_eq0 q1 (by simpa using e)).symm
  · have e : (!finF s) = false := e
    have e : finF s = true := by simpa using e
    rintro _ rfl
    refine Br.intro (fun c => ?_) fun c => ?_
    · have c : ltF (rungOf a) (rungOf b) = true := c
      intro u hu t ht
      obtain ⟨q2, w2⟩ := fsub hu
      obtain ⟨q3, w3⟩ := fsub ht
      refine ⟨trivial, (tw_eq q1 e rfl ?_).symm⟩
      rw [if_pos c, q3]
      exact subQ_congr rfl (by rw [q2, subQ_q]; exact subQ_congr (by rw [q1, addQ_q]) rfl)
    · have c : ltF (rungOf a) (rungOf b) = false := c
      intro u hu t ht
      obtain ⟨q2, w2⟩ := fsub hu
      obtain ⟨q3, w3⟩ := fsub ht
      refine ⟨trivial, (tw_eq q1 e rfl ?_).symm⟩
      rw [c, if_neg (by simp), q3]
      exact subQ_congr rfl (by rw [q2, subQ_q]; exact subQ_congr (by rw [q1, addQ_q]) rfl)
theorem Yh55 : Yq55.holds Try.prog (fun _ => none) 55 :=
  detP Yx55_ok Ymixed nHn Yat55 (F := fun x post => YF55 x.1 x.2.1 post) (fun x post => Yf55_eq x.1 x.2.1 post) fun x h _ => Yl55 x.1 x.2.1 h
def YF20 := fun (a : List Nat) (post : Nat × Unit → Prop) =>
  HIs [] [] ∧
    ∃ (I : Nat × Nat × Int × Unit → Unit → Prop),
      ∃ (μ : Nat × Nat × Int × Unit → Unit → Nat),
        I ((0 : Nat), (0 : Nat), (0 : Int), ()) () ∧
          ∀ (x : Nat × Nat × Int × Unit) (y : Unit),
            I x y →
              ∀ (a_1 : Bool),
                a_1 = decide (x.snd.snd.fst < (↑a.length : Int)) →
                  Br a_1
                    (∃ (h : (0 : Int) ≤ x.snd.snd.fst ∧ x.snd.snd.fst < (↑a.length : Int)),
                      ∃ (h : W2 x.fst (a.getD x.snd.snd.fst.toNat (0 : Nat))),
                        ∀ (a_2 : Nat),
                          FRes Go.FloatKind.f64 (Go.FloatKind.f64.format.add x.snd.fst (twR x.fst (a.getD x.snd.snd.fst.toNat (0 : Nat))).snd.fst) a_2 →
                            HIs [] [] ∧
                              I ((twR x.fst (a.getD x.snd.snd.fst.toNat (0 : Nat))).fst, a_2, IntKind.i64.wrap (x.snd.snd.fst + (1 : Int)), ()) () ∧
                                μ ((twR x.fst (a.getD x.snd.snd.fst.toNat (0 : Nat))).fst, a_2, IntKind.i64.wrap (x.snd.snd.fst + (1 : Int)), ()) () < μ x y)
                    (∃ (h : WL [x.fst, x.snd.fst]), post ((rowR [x.fst, x.snd.fst]).fst, ()))
def Yx20 : Cx := ⟨tabOf Ytab, conOf [(55, Yq55), (51, Yq51)], fun _ => none⟩
theorem Yx20_ok : CxOk Try.prog Yx20 := ⟨tabB_sound Ytab_ok, conOf_sound ⟨Yh55, Yh51, trivial⟩⟩
theorem Yat20 : FnAt Try.prog 20 Try.f20.ntmps Try.f20.results.toList (Try.f20.body.getD .skip) := ⟨Try.f20, Try.func20, rfl, rfl, by simp, by decide⟩
theorem Yf20_eq (a : List Nat) (post : Nat × Unit → Prop) : fnEval Yx20 Yhn20 Try.f20.ntmps Try.f20.results.toList (Try.f20.body.getD .skip) [.slice (.flt .f64)] [.snap (.flt .f64)] (a, ()) post = YF20 a post := by kernel_rfl
theorem Yl20 (a : List Nat) (h : WL a) (w : KS.wf [.slice (.flt .f64)] (a, ())) : YF20 a (fun r => r = carefulR a) := by
  have hl : a.length ≤ maxN := w.1.1
  unfold maxN at hl
  refine ⟨rfl, fun x _ => ∃ i : Nat, x.2.2.1 = i ∧ i ≤ a.length ∧ W64 x.1 ∧ W64 x.2.1 ∧ x.1 = (carS (a.take i)).1 ∧ quietF x.2.1 = (carS (a.take i)).2, fun x _ => a.length - x.2.2.1.toNat, ⟨0, rfl, by omega, by unfold W64; decide, by unfold W64; decide, rfl, rfl⟩, ?_⟩
  rintro ⟨s, lo, _, ⟨⟩⟩ _ ⟨i, hi, hil, hw1, hw2, hs, hq⟩
  dsimp only at hi hw1 hw2 hs hq
  subst hi
  dsimp only
  rintro _ rfl
  refine Br.intro (fun f => ?_) fun f => ?_
  · have f : i < a.length := by have := of_decide_eq_true f; omega
    refine ⟨⟨by omega, by omega⟩, ⟨hw1, WL_getD h _⟩, fun r hr => ?_⟩
    rw [Int.toNat_natCast] at hr ⊢
    obtain ⟨q1, q2⟩ := fadd hr
    refine ⟨rfl, ⟨i + 1, ?_, by omega, twS_w.1, q2, ?_, ?_⟩, ?_⟩
    · rw [wi ⟨by omega, by omega⟩]; omega
    · rw [carS_at f, ← hs]; rfl
    · show quietF r = _
      rw [carS_at f, ← hs, ← hq, q1]
      exact addQ_congr (quietF_idem lo).symm rfl
    · rw [wi ⟨by omega, by omega⟩]; omega
  · have f : a.length ≤ i := by have := of_decide_eq_false f; omega
    refine ⟨?_, congrArg r1 ?_⟩
    · intro x hx; simp at hx; rcases hx with rfl | rfl <;> assumption
    · show addQ (quietF s) lo = _
      rw [List.take_of_length_le f] at hs hq
      unfold carefulQ
      rw [← hs, ← hq]
      exact addQ_congr (quietF_idem s) (quietF_idem lo).symm
theorem Yh20 : Yq20.holds Try.prog (fun _ => none) 20 :=
  detP Yx20_ok Ymixed Yhn20 Yat20 (F := fun x post => YF20 x.1 post) (fun x post => Yf20_eq x.1 post) fun x h w => Yl20 x.1 h w
def YF23 := fun (a b c : Nat) (post : Nat × Unit → Prop) =>
  ∃ (h : W2 b a),
    ∀ (a_1 : Bool),
      a_1 = (aheadR b a).fst →
        Br a_1
          (∃ (h : W2 c a),
            ∀ (a_2 : Bool),
              a_2 = (aheadR c a).fst →
                Br a_2
                  (∃ (h : W2 c b),
                    ∀ (a_3 : Bool),
                      a_3 = (aheadR c b).fst →
                        Br a_3
                          (∀ (a_4 : Nat),
                            FRes Go.FloatKind.f64 (Go.FloatKind.f64.format.add c b) a_4 →
                              ∀ (a_5 : Nat), FRes Go.FloatKind.f64 (Go.FloatKind.f64.format.add a_4 a) a_5 → ∃ (h : W64 a_5), post ((quietR a_5).fst, ()))
                          (∀ (a_4 : Nat),
                            FRes Go.FloatKind.f64 (Go.FloatKind.f64.format.add b c) a_4 →
                              ∀ (a_5 : Nat), FRes Go.FloatKind.f64 (Go.FloatKind.f64.format.add a_4 a) a_5 → ∃ (h : W64 a_5), post ((quietR a_5).fst, ())))
                  (∃ (h : W2 a b),
                    ∀ (a_3 : Bool),
                      a_3 = (aheadR a b).fst →
                        Br a_3
                          (∀ (a_4 : Nat),
                            FRes Go.FloatKind.f64 (Go.FloatKind.f64.format.add a b) a_4 →
                              ∀ (a : Nat), FRes Go.FloatKind.f64 (Go.FloatKind.f64.format.add a_4 c) a → ∃ (h : W64 a), post ((quietR a).fst, ()))
                          (∀ (a_4 : Nat),
                            FRes Go.FloatKind.f64 (Go.FloatKind.f64.format.add b a) a_4 →
                              ∀ (a : Nat), FRes Go.FloatKind.f64 (Go.FloatKind.f64.format.add a_4 c) a → ∃ (h : W64 a), post ((quietR a).fst, ()))))
          (∃ (h : W2 c b),
            ∀ (a_2 : Bool),
              a_2 = (aheadR c b).fst →
                Br a_2
                  (∃ (h : W2 c a),
                    ∀ (a_3 : Bool),
                      a_3 = (aheadR c a).fst →
                        Br a_3
                          (∀ (a_4 : Nat),
                            FRes Go.FloatKind.f64 (Go.FloatKind.f64.format.add c a) a_4 →
                              ∀ (a : Nat), FRes Go.FloatKind.f64 (Go.FloatKind.f64.format.add a_4 b) a → ∃ (h : W64 a), post ((quietR a).fst, ()))
                          (∀ (a_4 : Nat),
                            FRes Go.FloatKind.f64 (Go.FloatKind.f64.format.add a c) a_4 →
                              ∀ (a : Nat), FRes Go.FloatKind.f64 (Go.FloatKind.f64.format.add a_4 b) a → ∃ (h : W64 a), post ((quietR a).fst, ())))
                  (∃ (h : W2 b a),
                    ∀ (a_3 : Bool),
                      a_3 = (aheadR b a).fst →
                        Br a_3
                          (∀ (a_4 : Nat),
                            FRes Go.FloatKind.f64 (Go.FloatKind.f64.format.add b a) a_4 →
                              ∀ (a : Nat), FRes Go.FloatKind.f64 (Go.FloatKind.f64.format.add a_4 c) a → ∃ (h : W64 a), post ((quietR a).fst, ()))
                          (∀ (a_4 : Nat),
                            FRes Go.FloatKind.f64 (Go.FloatKind.f64.format.add a b) a_4 →
                              ∀ (a : Nat), FRes Go.FloatKind.f64 (Go.FloatKind.f64.format.add a_4 c) a → ∃ (h : W64 a), post ((quietR a).fst, ()))))
def Yx23 : Cx := ⟨tabOf Ytab, conOf [(63, Yq63), (53, Yq53)], fun _ => none⟩
theorem Yx23_ok : CxOk Try.prog Yx23 := ⟨tabB_sound Ytab_ok, conOf_sound ⟨Yh63, Yh53, trivial⟩⟩
theorem Yat23 : FnAt Try.prog 23 Try.f23.ntmps Try.f23.results.toList (Try.f23.body.getD .skip) := ⟨Try.f23, Try.func23, rfl, rfl, by simp, by decide⟩
theorem Yf23_eq (a : Nat) (b : Nat) (c : Nat) (post : Nat × Unit → Prop) : fnEval Yx23 nHn Try.f23.ntmps Try.f23.results.toList (Try.f23.body.getD .skip) [.flt .f64, .flt .f64, .flt .f64] [.snap (.flt .f64)] (a, b, c, ()) post = YF23 a b c post := by kernel_rfl
theorem Yl23 (a : Nat) (b : Nat) (c : Nat) (h : W3 a b c) : YF23 a b c (fun r => r = threeR a b c) := by
  obtain ⟨ha, hb, hc⟩ := h
  have leaf : ∀ x y z, sort3 a b c = [x, y, z] → ∀ s, FRes Go.FloatKind.f64 (Go.FloatKind.f64.format.add x y) s → ∀ t, FRes Go.FloatKind.f64 (Go.FloatKind.f64.format.add s z) t → ∃ h : W64 t, ((quietR t).fst, ()) = threeR a b c := by
    intro x y z e s hs t ht
    obtain ⟨q1, w1⟩ := fadd hs
    obtain ⟨q2, w2⟩ := fadd ht
    refine ⟨w2, congrArg r1 ?_⟩
    show quietF t = rowQ (sort3 a b c)
    rw [e]; exact rowQ3 q1 q2
  refine ⟨⟨hb, ha⟩, ?_⟩
  rintro _ rfl
  refine Br.intro (fun e => ⟨⟨hc, ha⟩, ?_⟩) fun e => ⟨⟨hc, hb⟩, ?_⟩
  · have e : ltM b a = true := e
    rintro _ rfl
    refine Br.intro (fun f => ⟨⟨hc, hb⟩, ?_⟩) fun f => ⟨⟨ha, hb⟩, ?_⟩
    · have f : ltM c a = true := f
      rintro _ rfl
      refine Br.intro (fun g => ?_) fun g => ?_
      · have g : ltM c b = true := g
        exact leaf _ _ _ (by unfold sort3; rw [e, f, g]; rfl)
      · have g : ltM c b = false := g
        exact leaf _ _ _ (by unfold sort3; rw [e, f, g]; rfl)
    · have f : ltM c a = false := f
      rintro _ rfl
      refine Br.intro (fun g => ?_) fun g => ?_
      · have g : ltM a b = true := g
        rw [ltM_asymm e] at g; cases g
      · exact leaf _ _ _ (by unfold sort3; rw [e, f]; rfl)
  · have e : ltM b a = false := e
    rintro _ rfl
    refine Br.intro (fun f => ⟨⟨hc, ha⟩, ?_⟩) fun f => ⟨⟨hb, ha⟩, ?_⟩
    · have f : ltM c b = true := f
      rintro _ rfl
      refine Br.intro (fun g => ?_) fun g => ?_
      · have g : ltM c a = true := g
        exact leaf _ _ _ (by unfold sort3; rw [e, f, g]; rfl)
      · have g : ltM c a = false := g
        exact leaf _ _ _ (by unfold sort3; rw [e, f, g]; rfl)
    · have f : ltM c b = false := f
      rintro _ rfl
      refine Br.intro (fun g => ?_) fun g => ?_
      · have g : ltM b a = true := g
        rw [e] at g; cases g
      · exact leaf _ _ _ (by unfold sort3; rw [e, f]; rfl)
theorem Yh23 : Yq23.holds Try.prog (fun _ => none) 23 :=
  detP Yx23_ok Ymixed nHn Yat23 (F := fun x post => YF23 x.1 x.2.1 x.2.2.1 post) (fun x post => Yf23_eq x.1 x.2.1 x.2.2.1 post) fun x h _ => Yl23 x.1 x.2.1 x.2.2.1 h
def YF105 := fun (post : Int × Unit → Prop) => ∃ (h : (0 : Int) ≤ (3 : Int) ∧ (3 : Int) < (256 : Int)), post ((2 : Int), ())
def Yx105 : Cx := ⟨tabOf Ytab, fun _ => none, fun _ => none⟩
theorem Yx105_ok : CxOk Try.prog Yx105 := ⟨tabB_sound Ytab_ok, fun f c h => by cases h⟩
theorem Yat105 : FnAt Try.prog 105 Try.f105.ntmps Try.f105.results.toList (Try.f105.body.getD .skip) := ⟨Try.f105, Try.func105, rfl, rfl, by simp, by decide⟩
theorem Yf105_eq (post : Int × Unit → Prop) : fnEval Yx105 noHn Try.f105.ntmps Try.f105.results.toList (Try.f105.body.getD .skip) [.int .u64] [.snap (.int .i64)] ((3 : Int), ()) post = YF105 post := by kernel_rfl
theorem Yh105 : Yq105.holds Try.prog (fun _ => none) 105 := by
  refine det_holds Yx105_ok Ymixed noHn Yat105 ?_
  rintro ⟨a, ⟨⟩⟩ h
  have h : a = (3 : Int) := h
  subst h
  exact (Yf105_eq _).mpr ⟨by decide, rfl⟩
def YF88 := fun (post : Int × Unit → Prop) => ∃ (h : IsThree 3), post ((2 : Int), ())
def Yx88 : Cx := ⟨tabOf Ytab, conOf [(105, Yq105)], fun _ => none⟩
theorem Yx88_ok : CxOk Try.prog Yx88 := ⟨tabB_sound Ytab_ok, conOf_sound ⟨Yh105, trivial⟩⟩
theorem Yat88 : FnAt Try.prog 88 Try.f88.ntmps Try.f88.results.toList (Try.f88.body.getD .skip) := ⟨Try.f88, Try.func88, rfl, rfl, by simp, by decide⟩
theorem Yf88_eq (post : Int × Unit → Prop) : fnEval Yx88 noHn Try.f88.ntmps Try.f88.results.toList (Try.f88.body.getD .skip) [.int .u64] [.snap (.int .i64)] ((3 : Int), ()) post = YF88 post := by kernel_rfl
theorem Yh88 : Yq88.holds Try.prog (fun _ => none) 88 := by
  refine det_holds Yx88_ok Ymixed noHn Yat88 ?_
  rintro ⟨a, ⟨⟩⟩ h
  have h : a = (3 : Int) := h
  subst h
  exact (Yf88_eq _).mpr ⟨rfl, rfl⟩
def YF22 := fun (a b c : Nat) (post : Nat × Unit → Prop) =>
  ∃ (h : (List.replicate (3 : Nat) (0 : Nat)).length = (3 : Nat) ∧ (3 : Nat) = (3 : Nat)), ∃ (h : (0 : Int) ≤ (0 : Int) ∧ (0 : Int) ≤ (3 : Int) ∧ (3 : Int) ≤ (3 : Int) ∧ (3 : Nat) = (3 : Nat)), ∃ (h : IsThree (3 : Int)), ∃ (h : (0 : Int) ≤ (1 : Int) ∧ (1 : Int) < (3 : Int)), ∃ (h : (0 : Int) ≤ (0 : Int) ∧ (0 : Int) < (3 : Int)), ∃ (h : W2 b a), Br (decide ((cmpMR b a).fst < (0 : Int))) (∃ (h : (0 : Int) ≤ (0 : Int) ∧ (0 : Int) < (3 : Int)), ∃ (h : (0 : Int) ≤ (1 : Int) ∧ (1 : Int) < (3 : Int)), ∃ (h : (0 : Int) ≤ (1 : Int) ∧ (1 : Int) < (3 : Int)), ∃ (h : (0 : Int) ≤ (0 : Int) ∧ (0 : Int) < (3 : Int)), ∃ (h : (0 : Int) ≤ (2 : Int) ∧ (2 : Int) < (3 : Int)), ∃ (h : (0 : Int) ≤ (1 : Int) ∧ (1 : Int) < (3 : Int)), ∃ (h : W2 c a), Br (decide ((cmpMR c a).fst < (0 : Int))) (∃ (h : (0 : Int) ≤ (1 : Int) ∧ (1 : Int) < (3 : Int)), ∃ (h : (0 : Int) ≤ (2 : Int) ∧ (2 : Int) < (3 : Int)), ∃ (h : (0 : Int) ≤ (2 : Int) ∧ (2 : Int) < (3 : Int)), ∃ (h : (0 : Int) ≤ (1 : Int) ∧ (1 : Int) < (3 : Int)), ∃ (h : (0 : Int) ≤ (1 : Int) ∧ (1 : Int) < (3 : Int)), ∃ (h : (0 : Int) ≤ (0 : Int) ∧ (0 : Int) < (3 : Int)), ∃ (h : W2 c b), Br (decide ((cmpMR c b).fst < (0 : Int))) (∃ (h : (0 : Int) ≤ (0 : Int) ∧ (0 : Int) < (3 : Int)), ∃ (h : (0 : Int) ≤ (1 : Int) ∧ (1 : Int) < (3 : Int)), ∃ (h : (0 : Int) ≤ (1 : Int) ∧ (1 : Int) < (3 : Int)), ∃ (h : (0 : Int) ≤ (0 : Int) ∧ (0 : Int) < (3 : Int)), ∃ (h : (0 : Int) ≤ (0 : Int) ∧ (0 : Int) ≤ (3 : Int) ∧ (3 : Int) ≤ (3 : Int) ∧ (3 : Nat) = [c, b, a].length), ∃ (h : WL [c, b, a]), post ((rowR [c, b, a]).fst, ())) (∃ (h : (0 : Int) ≤ (0 : Int) ∧ (0 : Int) ≤ (3 : Int) ∧ (3 : Int) ≤ (3 : Int) ∧ (3 : Nat) = [b, c, a].length), ∃ (h : WL [b, c, a]), post ((rowR [b, c, a]).fst, ()))) (∃ (h : (0 : Int) ≤ (0 : Int) ∧ (0 : Int) ≤ (3 : Int) ∧ (3 : Int) ≤ (3 : Int) ∧ (3 : Nat) = [b, a, c].length), ∃ (h : WL [b, a, c]), post ((rowR [b, a, c]).fst, ()))) (∃ (h : (0 : Int) ≤ (2 : Int) ∧ (2 : Int) < (3 : Int)), ∃ (h : (0 : Int) ≤ (1 : Int) ∧ (1 : Int) < (3 : Int)), ∃ (h : W2 c b), Br (decide ((cmpMR c b).fst < (0 : Int))) (∃ (h : (0 : Int) ≤ (1 : Int) ∧ (1 : Int) < (3 : Int)), ∃ (h : (0 : Int) ≤ (2 : Int) ∧ (2 : Int) < (3 : Int)), ∃ (h : (0 : Int) ≤ (2 : Int) ∧ (2 : Int) < (3 : Int)), ∃ (h : (0 : Int) ≤ (1 : Int) ∧ (1 : Int) < (3 : Int)), ∃ (h : (0 : Int) ≤ (1 : Int) ∧ (1 : Int) < (3 : Int)), ∃ (h : (0 : Int) ≤ (0 : Int) ∧ (0 : Int) < (3 : Int)), ∃ (h : W2 c a), Br (decide ((cmpMR c a).fst < (0 : Int))) (∃ (h : (0 : Int) ≤ (0 : Int) ∧ (0 : Int) < (3 : Int)), ∃ (h : (0 : Int) ≤ (1 : Int) ∧ (1 : Int) < (3 : Int)), ∃ (h : (0 : Int) ≤ (1 : Int) ∧ (1 : Int) < (3 : Int)), ∃ (h : (0 : Int) ≤ (0 : Int) ∧ (0 : Int) < (3 : Int)), ∃ (h : (0 : Int) ≤ (0 : Int) ∧ (0 : Int) ≤ (3 : Int) ∧ (3 : Int) ≤ (3 : Int) ∧ (3 : Nat) = [c, a, b].length), ∃ (h : WL [c, a, b]), post ((rowR [c, a, b]).fst, ())) (∃ (h : (0 : Int) ≤ (0 : Int) ∧ (0 : Int) ≤ (3 : Int) ∧ (3 : Int) ≤ (3 : Int) ∧ (3 : Nat) = [a, c, b].length), ∃ (h : WL [a, c, b]), post ((rowR [a, c, b]).fst, ()))) (∃ (h : (0 : Int) ≤ (0 : Int) ∧ (0 : Int) ≤ (3 : Int) ∧ (3 : Int) ≤ (3 : Int) ∧ (3 : Nat) = (3 : Nat)), ∃ (h : WL [a, b, c]), post ((rowR [a, b, c]).fst, ()))) 
def Yx22 : Cx := ⟨tabOf Ytab, conOf [(58, Yq58), (51, Yq51), (88, Yq88)], fun _ => none⟩
theorem Yx22_ok : CxOk Try.prog Yx22 := ⟨tabB_sound Ytab_ok, conOf_sound ⟨Yh58, Yh51, Yh88, trivial⟩⟩
theorem Yat22 : FnAt Try.prog 22 Try.f22.ntmps Try.f22.results.toList (Try.f22.body.getD .skip) := ⟨Try.f22, Try.func22, rfl, rfl, by simp, by decide⟩
theorem Yf22_eq (a : Nat) (b : Nat) (c : Nat) (post : Nat × Unit → Prop) : fnEvalI Yx22 Yhn22 (callLvl Yx22 Yfns 5) Try.f22.ntmps Try.f22.results.toList (Try.f22.body.getD .skip) [.flt .f64, .flt .f64, .flt .f64] [.snap (.flt .f64)] (a, b, c, ()) post = YF22 a b c post := by kernel_rfl
theorem Yl22 (a : Nat) (b : Nat) (c : Nat) (h : W3 a b c) : YF22 a b c (fun r => r = threeR a b c) := by
  obtain ⟨ha, hb, hc⟩ := h
  have leaf : ∀ l, sort3 a b c = l → ((rowR l).fst, ()) = threeR a b c := by rintro _ rfl; rfl
  refine ⟨⟨rfl, rfl⟩, ⟨by decide, by decide, by decide, rfl⟩, rfl, by decide, by decide, ⟨hb, ha⟩, Br.intro (fun e => ⟨by decide, by decide, by decide, by decide, by decide, by decide, ⟨hc, ha⟩, Br.intro (fun f => ⟨by decide, by decide, by decide, by decide, by decide, by decide, ⟨hc, hb⟩, Br.intro (fun g => ⟨by decide, by decide, by decide, by decide, ⟨by decide, by decide, by decide, rfl⟩, WL3 hc hb ha, leaf _ ?_⟩) fun g => ⟨⟨by decide, by decide, by decide, rfl⟩, WL3 hb hc ha, leaf _ ?_⟩⟩) fun f => ⟨⟨by decide, by decide, by decide, rfl⟩, WL3 hb ha hc, leaf _ ?_⟩⟩) fun e => ⟨by decide, by decide, ⟨hc, hb⟩, Br.intro (fun f => ⟨by decide, by decide, by decide, by decide, by decide, by decide, ⟨hc, ha⟩, Br.intro (fun g => ⟨by decide, by decide, by decide, by decide, ⟨by decide, by decide, by decide, rfl⟩, WL3 hc ha hb, leaf _ ?_⟩) fun g => ⟨⟨by decide, by decide, by decide, rfl⟩, WL3 ha hc hb, leaf _ ?_⟩⟩) fun f => ⟨⟨by decide, by decide, by decide, rfl⟩, WL3 ha hb hc, leaf _ ?_⟩⟩⟩
  · have e : ltM b a = true := e
    have f : ltM c a = true := f
    have g : ltM c b = true := g
    unfold sort3; rw [e, f, g]; rfl
  · have e : ltM b a = true := e
    have f : ltM c a = true := f
    have g : ltM c b = false := g
    unfold sort3; rw [e, f, g]; rfl
  · have e : ltM b a = true := e
    have f : ltM c a = false := f
    unfold sort3; rw [e, f]; rfl
  · have e : ltM b a = false := e
    have f : ltM c b = true := f
    have g : ltM c a = true := g
    unfold sort3; rw [e, f, g]; rfl
  · have e : ltM b a = false := e
    have f : ltM c b = true := f
    have g : ltM c a = false := g
    unfold sort3; rw [e, f, g]; rfl
  · have e : ltM b a = false := e
    have f : ltM c b = false := f
    unfold sort3; rw [e, f]; rfl
theorem Yh22 : Yq22.holds Try.prog (fun _ => none) 22 :=
  detPI Yx22_ok Ymixed Yhn22 (callLvl_ok Yx22_ok Ymixed Yfns_ok 5) Yat22 (F := fun x post => YF22 x.1 x.2.1 x.2.2.1 post) (fun x post => Yf22_eq x.1 x.2.1 x.2.2.1 post) fun x h _ => Yl22 x.1 x.2.1 x.2.2.1 h
end Go.Lift

/- Contracts of vectors. Own work. -/
set_option linter.unusedVariables false
set_option linter.unusedSimpArgs false
namespace Go.Lift
open Go.Proofs
def YF66 := fun (a b c : Nat) (post : (Nat × Nat × Nat) × Unit → Prop) =>
  ∃ (h : True), ∃ (h : True), ∃ (h : True), post (((canonR a).fst, (canonR b).fst, (canonR c).fst), ())
def Yx66 : Cx := ⟨tabOf Ytab, conOf [(45, Yq45)], fun _ => none⟩
theorem Yx66_ok : CxOk Try.prog Yx66 := ⟨tabB_sound Ytab_ok, conOf_sound ⟨Yh45, trivial⟩⟩
theorem Yat66 : FnAt Try.prog 66 Try.f66.ntmps Try.f66.results.toList (Try.f66.body.getD .skip) := ⟨Try.f66, Try.func66, rfl, rfl, by simp, by decide⟩
theorem Yf66_eq (a : Nat) (b : Nat) (c : Nat) (post : (Nat × Nat × Nat) × Unit → Prop) : fnEval Yx66 nHn Try.f66.ntmps Try.f66.results.toList (Try.f66.body.getD .skip) [.flt .f64, .flt .f64, .flt .f64] [.snap kVec] (a, b, c, ()) post = YF66 a b c post := by kernel_rfl
theorem Yl66 (a : Nat) (b : Nat) (c : Nat) : YF66 a b c (fun r => r = canonVR a b c) := by
  exact ⟨trivial, trivial, trivial, rfl⟩
theorem Yh66 : Yq66.holds Try.prog (fun _ => none) 66 :=
  detP Yx66_ok Ymixed nHn Yat66 (F := fun x post => YF66 x.1 x.2.1 x.2.2.1 post) (fun x post => Yf66_eq x.1 x.2.1 x.2.2.1 post) fun x _ _ => Yl66 x.1 x.2.1 x.2.2.1
def YF67 := fun (a b c : Nat) (post : (Nat × Nat × Nat) × Unit → Prop) =>
  ∃ (h : W64 a), ∃ (h : W64 b), ∃ (h : W64 c), post (((canonR a).fst, (canonR b).fst, (canonR c).fst), ())
def Yx67 : Cx := ⟨tabOf Ytab, conOf [(70, Yq70)], fun _ => none⟩
theorem Yx67_ok : CxOk Try.prog Yx67 := ⟨tabB_sound Ytab_ok, conOf_sound ⟨Yh70, trivial⟩⟩
theorem Yat67 : FnAt Try.prog 67 Try.f67.ntmps Try.f67.results.toList (Try.f67.body.getD .skip) := ⟨Try.f67, Try.func67, rfl, rfl, by simp, by decide⟩
theorem Yf67_eq (a : Nat) (b : Nat) (c : Nat) (post : (Nat × Nat × Nat) × Unit → Prop) : fnEval Yx67 nHn Try.f67.ntmps Try.f67.results.toList (Try.f67.body.getD .skip) [.flt .f64, .flt .f64, .flt .f64] [.snap kVec] (a, b, c, ()) post = YF67 a b c post := by kernel_rfl
theorem Yl67 (a : Nat) (b : Nat) (c : Nat) (h : W3 a b c) : YF67 a b c (fun r => r = canonVR a b c) := by
  obtain ⟨ha, hb, hc⟩ := h
  exact ⟨ha, hb, hc, rfl⟩
theorem Yh67 : Yq67.holds Try.prog (fun _ => none) 67 :=
  detP Yx67_ok Ymixed nHn Yat67 (F := fun x post => YF67 x.1 x.2.1 x.2.2.1 post) (fun x post => Yf67_eq x.1 x.2.1 x.2.2.1 post) fun x h _ => Yl67 x.1 x.2.1 x.2.2.1 h
def YF29 := fun (a b : Nat × Nat × Nat) (post : (Nat × Nat × Nat) × Unit → Prop) =>
  ∀ (a_1 : Nat),
    FRes Go.FloatKind.f64 (Go.FloatKind.f64.format.sub a.fst b.fst) a_1 →
      ∀ (a_2 : Nat),
        FRes Go.FloatKind.f64 (Go.FloatKind.f64.format.sub a.snd.fst b.snd.fst) a_2 →
          ∀ (a_3 : Nat),
            FRes Go.FloatKind.f64 (Go.FloatKind.f64.format.sub a.snd.snd b.snd.snd) a_3 →
              ∃ (h : True), post (((canonVR a_1 a_2 a_3).fst.fst, (canonVR a_1 a_2 a_3).fst.snd.fst, (canonVR a_1 a_2 a_3).fst.snd.snd), ())
def Yx29 : Cx := ⟨tabOf Ytab, conOf [(66, Yq66)], fun _ => none⟩
theorem Yx29_ok : CxOk Try.prog Yx29 := ⟨tabB_sound Ytab_ok, conOf_sound ⟨Yh66, trivial⟩⟩
theorem Yat29 : FnAt Try.prog 29 Try.f29.ntmps Try.f29.results.toList (Try.f29.body.getD .skip) := ⟨Try.f29, Try.func29, rfl, rfl, by simp, by decide⟩
theorem Yf29_eq (a : Nat × Nat × Nat) (b : Nat × Nat × Nat) (post : (Nat × Nat × Nat) × Unit → Prop) : fnEval Yx29 nHn Try.f29.ntmps Try.f29.results.toList (Try.f29.body.getD .skip) [kVec, kVec] [.snap kVec] (a, b, ()) post = YF29 a b post := by kernel_rfl
theorem Yl29 (a : Nat × Nat × Nat) (b : Nat × Nat × Nat) (h : WV2 a b) : YF29 a b (fun r => r = minusR a b) := by
  intro x hx y hy z hz
  exact ⟨trivial, congrArg r1 (canonV_congr (fsub hx).1 (fsub hy).1 (fsub hz).1)⟩
theorem Yh29 : Yq29.holds Try.prog (fun _ => none) 29 :=
  detP Yx29_ok Ymixed nHn Yat29 (F := fun x post => YF29 x.1 x.2.1 post) (fun x post => Yf29_eq x.1 x.2.1 post) fun x h _ => Yl29 x.1 x.2.1 h
def YF30 := fun (a b : Nat × Nat × Nat) (post : (Nat × Nat × Nat) × Unit → Prop) =>
  ∀ (a_1 : Nat),
    FRes Go.FloatKind.f64 (Go.FloatKind.f64.format.sub a.fst b.fst) a_1 →
      ∀ (a_2 : Nat),
        FRes Go.FloatKind.f64 (Go.FloatKind.f64.format.sub a.snd.fst b.snd.fst) a_2 →
          ∀ (a_3 : Nat),
            FRes Go.FloatKind.f64 (Go.FloatKind.f64.format.sub a.snd.snd b.snd.snd) a_3 →
              ∃ (h : W3 a_1 a_2 a_3),
                post (((canonVR a_1 a_2 a_3).fst.fst, (canonVR a_1 a_2 a_3).fst.snd.fst, (canonVR a_1 a_2 a_3).fst.snd.snd), ())
def Yx30 : Cx := ⟨tabOf Ytab, conOf [(67, Yq67)], fun _ => none⟩
theorem Yx30_ok : CxOk Try.prog Yx30 := ⟨tabB_sound Ytab_ok, conOf_sound ⟨Yh67, trivial⟩⟩
theorem Yat30 : FnAt Try.prog 30 Try.f30.ntmps Try.f30.results.toList (Try.f30.body.getD .skip) := ⟨Try.f30, Try.func30, rfl, rfl, by simp, by decide⟩
theorem Yf30_eq (a : Nat × Nat × Nat) (b : Nat × Nat × Nat) (post : (Nat × Nat × Nat) × Unit → Prop) : fnEval Yx30 nHn Try.f30.ntmps Try.f30.results.toList (Try.f30.body.getD .skip) [kVec, kVec] [.snap kVec] (a, b, ()) post = YF30 a b post := by kernel_rfl
theorem Yl30 (a : Nat × Nat × Nat) (b : Nat × Nat × Nat) (h : WV2 a b) : YF30 a b (fun r => r = minusR a b) := by
  intro x hx y hy z hz
  exact ⟨⟨(fsub hx).2, (fsub hy).2, (fsub hz).2⟩, congrArg r1 (canonV_congr (fsub hx).1 (fsub hy).1 (fsub hz).1)⟩
theorem Yh30 : Yq30.holds Try.prog (fun _ => none) 30 :=
  detP Yx30_ok Ymixed nHn Yat30 (F := fun x post => YF30 x.1 x.2.1 post) (fun x post => Yf30_eq x.1 x.2.1 post) fun x h _ => Yl30 x.1 x.2.1 h
def YF68 := fun (a b c d : Nat) (post : Nat × Unit → Prop) =>
  ∀ (a_1 : Nat),
    FRes Go.FloatKind.f64 (Go.FloatKind.f64.format.mul a b) a_1 →
      ∀ (a : Nat),
        FRes Go.FloatKind.f64 (Go.FloatKind.f64.format.mul c d) a → ∀ (a_2 : Nat), FRes Go.FloatKind.f64 (Go.FloatKind.f64.format.sub a_1 a) a_2 → post (a_2, ())
def Yx68 : Cx := ⟨tabOf Ytab, conOf [], fun _ => none⟩
theorem Yx68_ok : CxOk Try.prog Yx68 := ⟨tabB_sound Ytab_ok, fun f c h => by cases h⟩
theorem Yat68 : FnAt Try.prog 68 Try.f68.ntmps Try.f68.results.toList (Try.f68.body.getD .skip) := ⟨Try.f68, Try.func68, rfl, rfl, by simp, by decide⟩
theorem Yf68_eq (a : Nat) (b : Nat) (c : Nat) (d : Nat) (post : Nat × Unit → Prop) : fnEval Yx68 nHn Try.f68.ntmps Try.f68.results.toList (Try.f68.body.getD .skip) [.flt .f64, .flt .f64, .flt .f64, .flt .f64] [.snap (.flt .f64)] (a, b, c, d, ()) post = YF68 a b c d post := by kernel_rfl
theorem Yl68 (a : Nat) (b : Nat) (c : Nat) (d : Nat) : YF68 a b c d (fun r => lessP a b c d r) := by
  intro x hx y hy z hz
  exact ⟨less_eq (fmul hx).1 (fmul hy).1 (fsub hz).1, (fsub hz).2⟩
theorem Yh68 : Yq68.holds Try.prog (fun _ => none) 68 :=
  relP Yx68_ok Ymixed nHn Yat68 (F := fun x post => YF68 x.1 x.2.1 x.2.2.1 x.2.2.2.1 post) (fun x post => Yf68_eq x.1 x.2.1 x.2.2.1 x.2.2.2.1 post) fun x _ _ => Yl68 x.1 x.2.1 x.2.2.1 x.2.2.2.1
def YF31 := fun (a b : Nat × Nat × Nat) (post : (Nat × Nat × Nat) × Unit → Prop) =>
  ∀ (a_1 : Nat),
    FRes Go.FloatKind.f64 (Go.FloatKind.f64.format.mul a.snd.fst b.snd.snd) a_1 →
      ∀ (a_2 : Nat),
        FRes Go.FloatKind.f64 (Go.FloatKind.f64.format.mul a.snd.snd b.snd.fst) a_2 →
          ∀ (a_3 : Nat),
            FRes Go.FloatKind.f64 (Go.FloatKind.f64.format.sub a_1 a_2) a_3 →
              ∀ (a_4 : Nat),
                FRes Go.FloatKind.f64 (Go.FloatKind.f64.format.mul a.snd.snd b.fst) a_4 →
                  ∀ (a_5 : Nat),
                    FRes Go.FloatKind.f64 (Go.FloatKind.f64.format.mul a.fst b.snd.snd) a_5 →
                      ∀ (a_6 : Nat),
                        FRes Go.FloatKind.f64 (Go.FloatKind.f64.format.sub a_4 a_5) a_6 →
                          ∀ (a_7 : Nat),
                            FRes Go.FloatKind.f64 (Go.FloatKind.f64.format.mul a.fst b.snd.fst) a_7 →
                              ∀ (a_8 : Nat),
                                FRes Go.FloatKind.f64 (Go.FloatKind.f64.format.mul a.snd.fst b.fst) a_8 →
                                  ∀ (a : Nat),
                                    FRes Go.FloatKind.f64 (Go.FloatKind.f64.format.sub a_7 a_8) a →
                                      ∃ (h : True),
                                        post (((canonVR a_3 a_6 a).fst.fst, (canonVR a_3 a_6 a).fst.snd.fst, (canonVR a_3 a_6 a).fst.snd.snd), ())
def Yx31 : Cx := ⟨tabOf Ytab, conOf [(66, Yq66)], fun _ => none⟩
theorem Yx31_ok : CxOk Try.prog Yx31 := ⟨tabB_sound Ytab_ok, conOf_sound ⟨Yh66, trivial⟩⟩
theorem Yat31 : FnAt Try.prog 31 Try.f31.ntmps Try.f31.results.toList (Try.f31.body.getD .skip) := ⟨Try.f31, Try.func31, rfl, rfl, by simp, by decide⟩
theorem Yf31_eq (a : Nat × Nat × Nat) (b : Nat × Nat × Nat) (post : (Nat × Nat × Nat) × Unit → Prop) : fnEval Yx31 nHn Try.f31.ntmps Try.f31.results.toList (Try.f31.body.getD .skip) [kVec, kVec] [.snap kVec] (a, b, ()) post = YF31 a b post := by kernel_rfl
theorem Yl31 (a : Nat × Nat × Nat) (b : Nat × Nat × Nat) : YF31 a b (fun r => r = crossR a b) := by
  intro x1 h1 x2 h2 x3 h3 x4 h4 x5 h5 x6 h6 x7 h7 x8 h8 x9 h9
  exact ⟨trivial, congrArg r1 (canonV_congr (less_eq (fmul h1).1 (fmul h2).1 (fsub h3).1) (less_eq (fmul h4).1 (fmul h5).1 (fsub h6).1) (less_eq (fmul h7).1 (fmul h8).1 (fsub h9).1))⟩
theorem Yh31 : Yq31.holds Try.prog (fun _ => none) 31 :=
  detP Yx31_ok Ymixed nHn Yat31 (F := fun x post => YF31 x.1 x.2.1 post) (fun x post => Yf31_eq x.1 x.2.1 post) fun x _ _ => Yl31 x.1 x.2.1
def YF32 := fun (a b : Nat × Nat × Nat) (post : (Nat × Nat × Nat) × Unit → Prop) =>
  ∃ (h : True),
    ∀ (a_1 : Nat × Unit),
      lessP a.snd.fst b.snd.snd a.snd.snd b.snd.fst a_1 →
        ∃ (h : True),
          ∀ (a_2 : Nat × Unit),
            lessP a.snd.snd b.fst a.fst b.snd.snd a_2 →
              ∃ (h : True),
                ∀ (a_3 : Nat × Unit),
                  lessP a.fst b.snd.fst a.snd.fst b.fst a_3 →
                    ∃ (h : W3 a_1.fst a_2.fst a_3.fst),
                      post
                        (((canonVR a_1.fst a_2.fst a_3.fst).fst.fst, (canonVR a_1.fst a_2.fst a_3.fst).fst.snd.fst,
                            (canonVR a_1.fst a_2.fst a_3.fst).fst.snd.snd),
                          ())
def Yx32 : Cx := ⟨tabOf Ytab, conOf [(68, Yq68), (67, Yq67)], fun _ => none⟩
theorem Yx32_ok : CxOk Try.prog Yx32 := ⟨tabB_sound Ytab_ok, conOf_sound ⟨Yh68, Yh67, trivial⟩⟩
theorem Yat32 : FnAt Try.prog 32 Try.f32.ntmps Try.f32.results.toList (Try.f32.body.getD .skip) := ⟨Try.f32, Try.func32, rfl, rfl, by simp, by decide⟩
theorem Yf32_eq (a : Nat × Nat × Nat) (b : Nat × Nat × Nat) (post : (Nat × Nat × Nat) × Unit → Prop) : fnEval Yx32 nHn Try.f32.ntmps Try.f32.results.toList (Try.f32.body.getD .skip) [kVec, kVec] [.snap kVec] (a, b, ()) post = YF32 a b post := by kernel_rfl
theorem Yl32 (a : Nat × Nat × Nat) (b : Nat × Nat × Nat) : YF32 a b (fun r => r = crossR a b) := by
  exact ⟨trivial, fun x hx => ⟨trivial, fun y hy => ⟨trivial, fun z hz => ⟨⟨hx.2, hy.2, hz.2⟩, congrArg r1 (canonV_congr hx.1 hy.1 hz.1)⟩⟩⟩⟩
theorem Yh32 : Yq32.holds Try.prog (fun _ => none) 32 :=
  detP Yx32_ok Ymixed nHn Yat32 (F := fun x post => YF32 x.1 x.2.1 post) (fun x post => Yf32_eq x.1 x.2.1 post) fun x _ _ => Yl32 x.1 x.2.1
def YF69 := fun (a : Nat) (post : Nat × Unit → Prop) => ∃ (h : True), ∀ (a_1 : Nat × Unit), sqrtP a a_1 → post (a_1.fst, ())
def Yx69 : Cx := ⟨tabOf Ytab, conOf [(93, Yq93)], fun _ => none⟩
theorem Yx69_ok : CxOk Try.prog Yx69 := ⟨tabB_sound Ytab_ok, conOf_sound ⟨Yh93, trivial⟩⟩
theorem Yat69 : FnAt Try.prog 69 Try.f69.ntmps Try.f69.results.toList (Try.f69.body.getD .skip) := ⟨Try.f69, Try.func69, rfl, rfl, by simp, by decide⟩
theorem Yf69_eq (a : Nat) (post : Nat × Unit → Prop) : fnEval Yx69 nHn Try.f69.ntmps Try.f69.results.toList (Try.f69.body.getD .skip) [.flt .f64] [.snap (.flt .f64)] (a, ()) post = YF69 a post := by kernel_rfl
theorem Yl69 (a : Nat) : YF69 a (fun r => sqrtP a r) := by
  exact ⟨trivial, fun x hx => hx⟩
theorem Yh69 : Yq69.holds Try.prog (fun _ => none) 69 :=
  relP Yx69_ok Ymixed nHn Yat69 (F := fun x post => YF69 x.1 post) (fun x post => Yf69_eq x.1 post) fun x _ _ => Yl69 x.1
def YF71 := fun (a : Nat) (post : Nat × Unit → Prop) => ∃ (h : True), ∀ (a_1 : Nat × Unit), sqrtP a a_1 → post (a_1.fst, ())
def Yx71 : Cx := ⟨tabOf Ytab, conOf [(69, Yq69)], fun _ => none⟩
theorem Yx71_ok : CxOk Try.prog Yx71 := ⟨tabB_sound Ytab_ok, conOf_sound ⟨Yh69, trivial⟩⟩
theorem Yat71 : FnAt Try.prog 71 Try.f71.ntmps Try.f71.results.toList (Try.f71.body.getD .skip) := ⟨Try.f71, Try.func71, rfl, rfl, by simp, by decide⟩
theorem Yf71_eq (a : Nat) (post : Nat × Unit → Prop) : fnEval Yx71 nHn Try.f71.ntmps Try.f71.results.toList (Try.f71.body.getD .skip) [.flt .f64] [.snap (.flt .f64)] (a, ()) post = YF71 a post := by kernel_rfl
theorem Yl71 (a : Nat) : YF71 a (fun r => sqrtP a r) := by
  exact ⟨trivial, fun x hx => hx⟩
theorem Yh71 : Yq71.holds Try.prog (fun _ => none) 71 :=
  relP Yx71_ok Ymixed nHn Yat71 (F := fun x post => YF71 x.1 post) (fun x post => Yf71_eq x.1 post) fun x _ _ => Yl71 x.1
def YF36 := fun (a : Nat × Nat × Nat) (post : Nat × Unit → Prop) =>
  ∀ (a_1 : Nat),
    FRes Go.FloatKind.f64 (Go.FloatKind.f64.format.mul a.fst a.fst) a_1 →
      ∀ (a_2 : Nat),
        FRes Go.FloatKind.f64 (Go.FloatKind.f64.format.mul a.snd.fst a.snd.fst) a_2 →
          ∀ (a_3 : Nat),
            FRes Go.FloatKind.f64 (Go.FloatKind.f64.format.mul a.snd.snd a.snd.snd) a_3 →
              ∃ (h : W3 a_1 a_2 a_3),
                ∃ (h : True), ∀ (a : Nat × Unit), sqrtP (threeR a_1 a_2 a_3).fst a → ∃ (h : True), post ((canonR a.fst).fst, ())
def Yx36 : Cx := ⟨tabOf Ytab, conOf [(22, Yq22), (69, Yq69), (45, Yq45)], fun _ => none⟩
theorem Yx36_ok : CxOk Try.prog Yx36 := ⟨tabB_sound Ytab_ok, conOf_sound ⟨Yh22, Yh69, Yh45, trivial⟩⟩
theorem Yat36 : FnAt Try.prog 36 Try.f36.ntmps Try.f36.results.toList (Try.f36.body.getD .skip) := ⟨Try.f36, Try.func36, rfl, rfl, by simp, by decide⟩
theorem Yf36_eq (a : Nat × Nat × Nat) (post : Nat × Unit → Prop) : fnEval Yx36 nHn Try.f36.ntmps Try.f36.results.toList (Try.f36.body.getD .skip) [kVec] [.snap (.flt .f64)] (a, ()) post = YF36 a post := by kernel_rfl
theorem Yl36 (a : Nat × Nat × Nat) (h : WV a) : YF36 a (fun r => r = lengthR a) := by
  intro x hx y hy z hz
  exact ⟨⟨(fmul hx).2, (fmul hy).2, (fmul hz).2⟩, trivial, fun w hw => ⟨trivial, congrArg r1 (length_eq (fmul hx).1 (fmul hy).1 (fmul hz).1 hw.1)⟩⟩
theorem Yh36 : Yq36.holds Try.prog (fun _ => none) 36 :=
  detP Yx36_ok Ymixed nHn Yat36 (F := fun x post => YF36 x.1 post) (fun x post => Yf36_eq x.1 post) fun x h _ => Yl36 x.1 h
def YF37 := fun (a : Nat × Nat × Nat) (post : Nat × Unit → Prop) =>
  ∀ (a_1 : Nat),
    FRes Go.FloatKind.f64 (Go.FloatKind.f64.format.mul a.fst a.fst) a_1 →
      ∀ (a_2 : Nat),
        FRes Go.FloatKind.f64 (Go.FloatKind.f64.format.mul a.snd.fst a.snd.fst) a_2 →
          ∀ (a_3 : Nat),
            FRes Go.FloatKind.f64 (Go.FloatKind.f64.format.mul a.snd.snd a.snd.snd) a_3 →
              ∃ (h : W3 a_1 a_2 a_3),
                ∃ (h : True), ∀ (a : Nat × Unit), sqrtP (threeR a_1 a_2 a_3).fst a → ∃ (h : W64 a.fst), post ((canonR a.fst).fst, ())
def Yx37 : Cx := ⟨tabOf Ytab, conOf [(23, Yq23), (71, Yq71), (70, Yq70)], fun _ => none⟩
theorem Yx37_ok : CxOk Try.prog Yx37 := ⟨tabB_sound Ytab_ok, conOf_sound ⟨Yh23, Yh71, Yh70, trivial⟩⟩
theorem Yat37 : FnAt Try.prog 37 Try.f37.ntmps Try.f37.results.toList (Try.f37.body.getD .skip) := ⟨Try.f37, Try.func37, rfl, rfl, by simp, by decide⟩
theorem Yf37_eq (a : Nat × Nat × Nat) (post : Nat × Unit → Prop) : fnEval Yx37 nHn Try.f37.ntmps Try.f37.results.toList (Try.f37.body.getD .skip) [kVec] [.snap (.flt .f64)] (a, ()) post = YF37 a post := by kernel_rfl
theorem Yl37 (a : Nat × Nat × Nat) (h : WV a) : YF37 a (fun r => r = lengthR a) := by
  intro x hx y hy z hz
  exact ⟨⟨(fmul hx).2, (fmul hy).2, (fmul hz).2⟩, trivial, fun w hw => ⟨hw.2, congrArg r1 (length_eq (fmul hx).1 (fmul hy).1 (fmul hz).1 hw.1)⟩⟩
theorem Yh37 : Yq37.holds Try.prog (fun _ => none) 37 :=
  detP Yx37_ok Ymixed nHn Yat37 (F := fun x post => YF37 x.1 post) (fun x post => Yf37_eq x.1 post) fun x h _ => Yl37 x.1 h
def YF34 := fun (a b : Nat × Nat × Nat) (post : Nat × Unit → Prop) =>
  ∃ (h : WV2 (a.fst, a.snd.fst, a.snd.snd) (b.fst, b.snd.fst, b.snd.snd)),
    ∃ (h : WV (minusR (a.fst, a.snd.fst, a.snd.snd) (b.fst, b.snd.fst, b.snd.snd)).fst),
      post ((lengthR (minusR (a.fst, a.snd.fst, a.snd.snd) (b.fst, b.snd.fst, b.snd.snd)).fst).fst, ())
def Yx34 : Cx := ⟨tabOf Ytab, conOf [(29, Yq29), (36, Yq36)], fun _ => none⟩
theorem Yx34_ok : CxOk Try.prog Yx34 := ⟨tabB_sound Ytab_ok, conOf_sound ⟨Yh29, Yh36, trivial⟩⟩
theorem Yat34 : FnAt Try.prog 34 Try.f34.ntmps Try.f34.results.toList (Try.f34.body.getD .skip) := ⟨Try.f34, Try.func34, rfl, rfl, by simp, by decide⟩
theorem Yf34_eq (a : Nat × Nat × Nat) (b : Nat × Nat × Nat) (post : Nat × Unit → Prop) : fnEval Yx34 nHn Try.f34.ntmps Try.f34.results.toList (Try.f34.body.getD .skip) [kVec, kVec] [.snap (.flt .f64)] (a, b, ()) post = YF34 a b post := by kernel_rfl
theorem Yl34 (a : Nat × Nat × Nat) (b : Nat × Nat × Nat) (h : WV2 a b) : YF34 a b (fun r => r = gapR a b) := by
  exact ⟨h, minusV_w _ _, rfl⟩
theorem Yh34 : Yq34.holds Try.prog (fun _ => none) 34 :=
  detP Yx34_ok Ymixed nHn Yat34 (F := fun x post => YF34 x.1 x.2.1 post) (fun x post => Yf34_eq x.1 x.2.1 post) fun x h _ => Yl34 x.1 x.2.1 h
def YF35 := fun (a b : Nat × Nat × Nat) (post : Nat × Unit → Prop) =>
  ∃ (h : WV2 (a.fst, a.snd.fst, a.snd.snd) (b.fst, b.snd.fst, b.snd.snd)),
    ∃ (h : WV (minusR (a.fst, a.snd.fst, a.snd.snd) (b.fst, b.snd.fst, b.snd.snd)).fst),
      post ((lengthR (minusR (a.fst, a.snd.fst, a.snd.snd) (b.fst, b.snd.fst, b.snd.snd)).fst).fst, ())
def Yx35 : Cx := ⟨tabOf Ytab, conOf [(30, Yq30), (37, Yq37)], fun _ => none⟩
theorem Yx35_ok : CxOk Try.prog Yx35 := ⟨tabB_sound Ytab_ok, conOf_sound ⟨Yh30, Yh37, trivial⟩⟩
theorem Yat35 : FnAt Try.prog 35 Try.f35.ntmps Try.f35.results.toList (Try.f35.body.getD .skip) := ⟨Try.f35, Try.func35, rfl, rfl, by simp, by decide⟩
theorem Yf35_eq (a : Nat × Nat × Nat) (b : Nat × Nat × Nat) (post : Nat × Unit → Prop) : fnEval Yx35 nHn Try.f35.ntmps Try.f35.results.toList (Try.f35.body.getD .skip) [kVec, kVec] [.snap (.flt .f64)] (a, b, ()) post = YF35 a b post := by kernel_rfl
theorem Yl35 (a : Nat × Nat × Nat) (b : Nat × Nat × Nat) (h : WV2 a b) : YF35 a b (fun r => r = gapR a b) := by
  exact ⟨h, minusV_w _ _, rfl⟩
theorem Yh35 : Yq35.holds Try.prog (fun _ => none) 35 :=
  detP Yx35_ok Ymixed nHn Yat35 (F := fun x post => YF35 x.1 x.2.1 post) (fun x post => Yf35_eq x.1 x.2.1 post) fun x h _ => Yl35 x.1 x.2.1 h
def YF38 := fun (a : Nat × Nat × Nat) (post : (Nat × Nat × Nat) × Unit → Prop) =>
  ∃ (h : WV (a.fst, a.snd.fst, a.snd.snd)),
    ∀ (a_1 : Bool),
      a_1 = fcmp Go.BinOp.gtr (Go.FloatKind.f64.format.order (lengthR (a.fst, a.snd.fst, a.snd.snd)).fst (0 : Nat)) →
        Br (!a_1) (post (((0 : Nat), (0 : Nat), (0 : Nat)), ()))
          (∃ (h : WI (lengthR (a.fst, a.snd.fst, a.snd.snd)).fst (1 : Int)),
            ∀ (a_2 : Bool),
              a_2 = (infSR (lengthR (a.fst, a.snd.fst, a.snd.snd)).fst (1 : Int)).fst →
                Br a_2 (post (((0 : Nat), (0 : Nat), (0 : Nat)), ()))
                  (∀ (a_3 : Nat),
                    FRes Go.FloatKind.f64 (Go.FloatKind.f64.format.div a.fst (lengthR (a.fst, a.snd.fst, a.snd.snd)).fst) a_3 →
                      ∀ (a_4 : Nat),
                        FRes Go.FloatKind.f64 (Go.FloatKind.f64.format.div a.snd.fst (lengthR (a.fst, a.snd.fst, a.snd.snd)).fst) a_4 →
                          ∀ (a_5 : Nat),
                            FRes Go.FloatKind.f64 (Go.FloatKind.f64.format.div a.snd.snd (lengthR (a.fst, a.snd.fst, a.snd.snd)).fst) a_5 →
                              ∃ (h : True),
                                post (((canonVR a_3 a_4 a_5).fst.fst, (canonVR a_3 a_4 a_5).fst.snd.fst, (canonVR a_3 a_4 a_5).fst.snd.snd), ())))
def Yx38 : Cx := ⟨tabOf Ytab, conOf [(36, Yq36), (72, Yq72), (66, Yq66)], fun _ => none⟩
theorem Yx38_ok : CxOk Try.prog Yx38 := ⟨tabB_sound Ytab_ok, conOf_sound ⟨Yh36, Yh72, Yh66, trivial⟩⟩
theorem Yat38 : FnAt Try.prog 38 Try.f38.ntmps Try.f38.results.toList (Try.f38.body.getD .skip) := ⟨Try.f38, Try.func38, rfl, rfl, by simp, by decide⟩
theorem Yf38_eq (a : Nat × Nat × Nat) (post : (Nat × Nat × Nat) × Unit → Prop) : fnEval Yx38 nHn Try.f38.ntmps Try.f38.results.toList (Try.f38.body.getD .skip) [kVec] [.snap kVec] (a, ()) post = YF38 a post := by kernel_rfl
theorem Yl38 (a : Nat × Nat × Nat) (h : WV a) : YF38 a (fun r => r = unitR a) := by
  refine ⟨h, ?_⟩
  have hs := lengthQ_sgn a
  have hg := gt_zero hs
  rintro _ rfl
  refine Br.intro (fun e => ?_) fun e => ⟨lengthQ_w a, ?_⟩
  · have e : (!fcmp .gtr (Ieee.double.order (lengthQ a) 0)) = true := e
    rw [hg] at e
    refine (congrArg r1 (unit_zero ?_)).symm
    rw [class12]
    rintro ⟨h1, h2⟩
    have : isN (lengthQ a) = false := by unfold isN; simp; omega
    rw [this] at e
    simp [h1] at e
  · have e : (!fcmp .gtr (Ieee.double.order (lengthQ a) 0)) = false := e
    rw [hg] at e
    have e : isN (lengthQ a) = false ∧ rungOf (lengthQ a) ≠ 0 := by simpa using e
    have hi : infS (lengthQ a) 1 = decide (rungOf (lengthQ a) = infR) := by unfold infS; rw [if_neg (by decide), if_neg (by decide), hs]; simp
    rintro _ rfl
    refine Br.intro (fun f => ?_) fun f => ?_
    · have f : infS (lengthQ a) 1 = true := f
      rw [hi] at f
      have f := of_decide_eq_true f
      exact (congrArg r1 (unit_zero (by rw [class12]; rintro ⟨h1, h2⟩; omega))).symm
    · have f : infS (lengthQ a) 1 = false := f
      rw [hi] at f
      have f := of_decide_eq_false f
      have g : rungOf (lengthQ a) ≤ infR := by have := e.1; unfold isN at this; simpa using this
      intro x hx y hy z hz
      exact ⟨trivial, congrArg r1 (unit_some ((class12 _).2 ⟨e.2, by omega⟩) (fdiv hx).1 (fdiv hy).1 (fdiv hz).1)⟩
theorem Yh38 : Yq38.holds Try.prog (fun _ => none) 38 :=
  detP Yx38_ok Ymixed nHn Yat38 (F := fun x post => YF38 x.1 post) (fun x post => Yf38_eq x.1 post) fun x h _ => Yl38 x.1 h
def YF39 := fun (a : Nat × Nat × Nat) (post : (Nat × Nat × Nat) × Unit → Prop) =>
  ∃ (h : WV (a.fst, a.snd.fst, a.snd.snd)),
    ∃ (h : W64 (lengthR (a.fst, a.snd.fst, a.snd.snd)).fst),
      ∀ (a_1 : Bool),
        a_1 = ((classR (lengthR (a.fst, a.snd.fst, a.snd.snd)).fst).fst == (0 : Int)) →
          Br a_1
            (∃ (h : W3 (0 : Nat) (0 : Nat) (0 : Nat)),
              post
                (((canonVR (0 : Nat) (0 : Nat) (0 : Nat)).fst.fst, (canonVR (0 : Nat) (0 : Nat) (0 : Nat)).fst.snd.fst,
                    (canonVR (0 : Nat) (0 : Nat) (0 : Nat)).fst.snd.snd),
                  ()))
            (∀ (a_2 : Bool),
              a_2 = ((classR (lengthR (a.fst, a.snd.fst, a.snd.snd)).fst).fst == (3 : Int)) →
                Br a_2
                  (∃ (h : W3 (0 : Nat) (0 : Nat) (0 : Nat)),
                    post
                      (((canonVR (0 : Nat) (0 : Nat) (0 : Nat)).fst.fst, (canonVR (0 : Nat) (0 : Nat) (0 : Nat)).fst.snd.fst,
                          (canonVR (0 : Nat) (0 : Nat) (0 : Nat)).fst.snd.snd),
                        ()))
                  (∀ (a_3 : Bool),
                    a_3 = ((classR (lengthR (a.fst, a.snd.fst, a.snd.snd)).fst).fst == (4 : Int)) →
                      Br a_3
                        (∃ (h : W3 (0 : Nat) (0 : Nat) (0 : Nat)),
                          post
                            (((canonVR (0 : Nat) (0 : Nat) (0 : Nat)).fst.fst, (canonVR (0 : Nat) (0 : Nat) (0 : Nat)).fst.snd.fst,
                                (canonVR (0 : Nat) (0 : Nat) (0 : Nat)).fst.snd.snd),
                              ()))
                        (∀ (a_4 : Nat),
                          FRes Go.FloatKind.f64 (Go.FloatKind.f64.format.div a.fst (lengthR (a.fst, a.snd.fst, a.snd.snd)).fst) a_4 →
                            ∀ (a_5 : Nat),
                              FRes Go.FloatKind.f64 (Go.FloatKind.f64.format.div a.snd.fst (lengthR (a.fst, a.snd.fst, a.snd.snd)).fst) a_5 →
                                ∀ (a_6 : Nat),
                                  FRes Go.FloatKind.f64 (Go.FloatKind.f64.format.div a.snd.snd (lengthR (a.fst, a.snd.fst, a.snd.snd)).fst) a_6 →
                                    ∃ (h : W3 a_4 a_5 a_6),
                                      post (((canonVR a_4 a_5 a_6).fst.fst, (canonVR a_4 a_5 a_6).fst.snd.fst, (canonVR a_4 a_5 a_6).fst.snd.snd), ()))))
def Yx39 : Cx := ⟨tabOf Ytab, conOf [(37, Yq37), (73, Yq73), (67, Yq67)], fun _ => none⟩
theorem Yx39_ok : CxOk Try.prog Yx39 := ⟨tabB_sound Ytab_ok, conOf_sound ⟨Yh37, Yh73, Yh67, trivial⟩⟩
theorem Yat39 : FnAt Try.prog 39 Try.f39.ntmps Try.f39.results.toList (Try.f39.body.getD .skip) := ⟨Try.f39, Try.func39, rfl, rfl, by simp, by decide⟩
theorem Yf39_eq (a : Nat × Nat × Nat) (post : (Nat × Nat × Nat) × Unit → Prop) : fnEval Yx39 nHn Try.f39.ntmps Try.f39.results.toList (Try.f39.body.getD .skip) [kVec] [.snap kVec] (a, ()) post = YF39 a post := by kernel_rfl
theorem Yl39 (a : Nat × Nat × Nat) (h : WV a) : YF39 a (fun r => r = unitR a) := by
  refine ⟨h, lengthQ_w a, ?_⟩
  have z : canonV 0 0 0 = (0, 0, 0) := by decide
  have w0 : W64 0 := by unfold W64; decide
  have out : ∀ k : Int, k ≠ 1 → k ≠ 2 → (classF (lengthQ a) == k) = true → ∃ h : W3 0 0 0, (((canonVR 0 0 0).fst.fst, (canonVR 0 0 0).fst.snd.fst, (canonVR 0 0 0).fst.snd.snd), ()) = unitR a := by
    intro k k1 k2 e
    have e : classF (lengthQ a) = k := by simpa using e
    exact ⟨⟨w0, w0, w0⟩, congrArg r1 (z.trans (unit_zero (by rw [e]; omega)).symm)⟩
  rintro _ rfl
  refine Br.intro (fun e => out 0 (by decide) (by decide) e) fun e => ?_
  have e : (classF (lengthQ a) == 0) = false := e
  rintro _ rfl
  refine Br.intro (fun f => out 3 (by decide) (by decide) f) fun f => ?_
  have f : (classF (lengthQ a) == 3) = false := f
  rintro _ rfl
  refine Br.intro (fun g => out 4 (by decide) (by decide) g) fun g => ?_
  have g : (classF (lengthQ a) == 4) = false := g
  have c : classF (lengthQ a) = 1 ∨ classF (lengthQ a) = 2 := by
    have e : classF (lengthQ a) ≠ 0 := by simpa using e
    have f : classF (lengthQ a) ≠ 3 := by simpa using f
    have g : classF (lengthQ a) ≠ 4 := by simpa using g
    have := class_le (lengthQ a)
    omega
  intro x hx y hy z hz
  exact ⟨⟨(fdiv hx).2, (fdiv hy).2, (fdiv hz).2⟩, congrArg r1 (unit_some c (fdiv hx).1 (fdiv hy).1 (fdiv hz).1)⟩
theorem Yh39 : Yq39.holds Try.prog (fun _ => none) 39 :=
  detP Yx39_ok Ymixed nHn Yat39 (F := fun x post => YF39 x.1 post) (fun x post => Yf39_eq x.1 post) fun x h _ => Yl39 x.1 h
def YF44 := fun (a b c : Nat) (post : (Nat × Nat × Nat) × Unit → Prop) => post ((a, b, c), ())
def Yx44 : Cx := ⟨tabOf Ytab, conOf [], fun _ => none⟩
theorem Yx44_ok : CxOk Try.prog Yx44 := ⟨tabB_sound Ytab_ok, fun f c h => by cases h⟩
theorem Yat44 : FnAt Try.prog 44 Try.f44.ntmps Try.f44.results.toList (Try.f44.body.getD .skip) := ⟨Try.f44, Try.func44, rfl, rfl, by simp, by decide⟩
theorem Yf44_eq (a : Nat) (b : Nat) (c : Nat) (post : (Nat × Nat × Nat) × Unit → Prop) : fnEval Yx44 nHn Try.f44.ntmps Try.f44.results.toList (Try.f44.body.getD .skip) [.flt .f64, .flt .f64, .flt .f64] [.snap kVec] (a, b, c, ()) post = YF44 a b c post := by kernel_rfl
theorem Yl44 (a : Nat) (b : Nat) (c : Nat) : YF44 a b c (fun r => r = atR a b c) := by
  exact rfl
theorem Yh44 : Yq44.holds Try.prog (fun _ => none) 44 :=
  detP Yx44_ok Ymixed nHn Yat44 (F := fun x post => YF44 x.1 x.2.1 x.2.2.1 post) (fun x post => Yf44_eq x.1 x.2.1 x.2.2.1 post) fun x _ _ => Yl44 x.1 x.2.1 x.2.2.1
def YF40 := fun (a : Nat × Nat × Nat) (post : (Nat × Nat × Nat) × Unit → Prop) =>
  ∃ (h : True),
    post (((atR a.snd.fst a.snd.snd a.fst).fst.fst, (atR a.snd.fst a.snd.snd a.fst).fst.snd.fst, (atR a.snd.fst a.snd.snd a.fst).fst.snd.snd), ())
def Yx40 : Cx := ⟨tabOf Ytab, conOf [(44, Yq44)], fun _ => none⟩
theorem Yx40_ok : CxOk Try.prog Yx40 := ⟨tabB_sound Ytab_ok, conOf_sound ⟨Yh44, trivial⟩⟩
theorem Yat40 : FnAt Try.prog 40 Try.f40.ntmps Try.f40.results.toList (Try.f40.body.getD .skip) := ⟨Try.f40, Try.func40, rfl, rfl, by simp, by decide⟩
theorem Yf40_eq (a : Nat × Nat × Nat) (post : (Nat × Nat × Nat) × Unit → Prop) : fnEval Yx40 nHn Try.f40.ntmps Try.f40.results.toList (Try.f40.body.getD .skip) [kVec] [.snap kVec] (a, ()) post = YF40 a post := by kernel_rfl
theorem Yl40 (a : Nat × Nat × Nat) : YF40 a (fun r => r = movedR a) := by
  exact ⟨trivial, rfl⟩
theorem Yh40 : Yq40.holds Try.prog (fun _ => none) 40 :=
  detP Yx40_ok Ymixed nHn Yat40 (F := fun x post => YF40 x.1 post) (fun x post => Yf40_eq x.1 post) fun x _ _ => Yl40 x.1
def YF41 := fun (a : Nat × Nat × Nat) (post : (Nat × Nat × Nat) × Unit → Prop) =>
  ∃ (h : True),
    post (((atR a.snd.fst a.fst a.snd.snd).fst.fst, (atR a.snd.fst a.fst a.snd.snd).fst.snd.fst, (atR a.snd.fst a.fst a.snd.snd).fst.snd.snd), ())
def Yx41 : Cx := ⟨tabOf Ytab, conOf [(44, Yq44)], fun _ => none⟩
theorem Yx41_ok : CxOk Try.prog Yx41 := ⟨tabB_sound Ytab_ok, conOf_sound ⟨Yh44, trivial⟩⟩
theorem Yat41 : FnAt Try.prog 41 Try.f41.ntmps Try.f41.results.toList (Try.f41.body.getD .skip) := ⟨Try.f41, Try.func41, rfl, rfl, by simp, by decide⟩
theorem Yf41_eq (a : Nat × Nat × Nat) (post : (Nat × Nat × Nat) × Unit → Prop) : fnEval Yx41 nHn Try.f41.ntmps Try.f41.results.toList (Try.f41.body.getD .skip) [kVec] [.snap kVec] (a, ()) post = YF41 a post := by kernel_rfl
theorem Yl41 (a : Nat × Nat × Nat) : YF41 a (fun r => r = swappedR a) := by
  exact ⟨trivial, rfl⟩
theorem Yh41 : Yq41.holds Try.prog (fun _ => none) 41 :=
  detP Yx41_ok Ymixed nHn Yat41 (F := fun x post => YF41 x.1 post) (fun x post => Yf41_eq x.1 post) fun x _ _ => Yl41 x.1
def YF43 := fun (a : Nat × Nat × Nat) (post : (Nat × Nat × Nat) × Unit → Prop) =>
  ∃ (h : True),
    post
      (((atR (Go.Op.negFloat Go.FloatKind.f64 a.fst) a.snd.fst a.snd.snd).fst.fst, (atR (Go.Op.negFloat Go.FloatKind.f64 a.fst) a.snd.fst a.snd.snd).fst.snd.fst,
          (atR (Go.Op.negFloat Go.FloatKind.f64 a.fst) a.snd.fst a.snd.snd).fst.snd.snd),
        ())
def Yx43 : Cx := ⟨tabOf Ytab, conOf [(44, Yq44)], fun _ => none⟩
theorem Yx43_ok : CxOk Try.prog Yx43 := ⟨tabB_sound Ytab_ok, conOf_sound ⟨Yh44, trivial⟩⟩
theorem Yat43 : FnAt Try.prog 43 Try.f43.ntmps Try.f43.results.toList (Try.f43.body.getD .skip) := ⟨Try.f43, Try.func43, rfl, rfl, by simp, by decide⟩
theorem Yf43_eq (a : Nat × Nat × Nat) (post : (Nat × Nat × Nat) × Unit → Prop) : fnEval Yx43 nHn Try.f43.ntmps Try.f43.results.toList (Try.f43.body.getD .skip) [kVec] [.snap kVec] (a, ()) post = YF43 a post := by kernel_rfl
theorem Yl43 (a : Nat × Nat × Nat) : YF43 a (fun r => r = turnedR a) := by
  exact ⟨trivial, rfl⟩
theorem Yh43 : Yq43.holds Try.prog (fun _ => none) 43 :=
  detP Yx43_ok Ymixed nHn Yat43 (F := fun x post => YF43 x.1 post) (fun x post => Yf43_eq x.1 post) fun x _ _ => Yl43 x.1
def YF42 := fun (a : Nat × Nat × Nat) (post : (Nat × Nat × Nat) × Unit → Prop) =>
  ∃ (h : True),
    ∃ (h : True),
      ∃ (h : True),
        ∃ (h : True),
          post
            (((atR (canonR (Go.Op.negFloat Go.FloatKind.f64 a.fst)).fst (canonR (Go.Op.negFloat Go.FloatKind.f64 a.snd.fst)).fst
                      (canonR (Go.Op.negFloat Go.FloatKind.f64 a.snd.snd)).fst).fst.fst,
                (atR (canonR (Go.Op.negFloat Go.FloatKind.f64 a.fst)).fst (canonR (Go.Op.negFloat Go.FloatKind.f64 a.snd.fst)).fst
                        (canonR (Go.Op.negFloat Go.FloatKind.f64 a.snd.snd)).fst).fst.snd.fst,
                (atR (canonR (Go.Op.negFloat Go.FloatKind.f64 a.fst)).fst (canonR (Go.Op.negFloat Go.FloatKind.f64 a.snd.fst)).fst
                        (canonR (Go.Op.negFloat Go.FloatKind.f64 a.snd.snd)).fst).fst.snd.snd),
              ())
def Yx42 : Cx := ⟨tabOf Ytab, conOf [(45, Yq45), (44, Yq44)], fun _ => none⟩
theorem Yx42_ok : CxOk Try.prog Yx42 := ⟨tabB_sound Ytab_ok, conOf_sound ⟨Yh45, Yh44, trivial⟩⟩
theorem Yat42 : FnAt Try.prog 42 Try.f42.ntmps Try.f42.results.toList (Try.f42.body.getD .skip) := ⟨Try.f42, Try.func42, rfl, rfl, by simp, by decide⟩
theorem Yf42_eq (a : Nat × Nat × Nat) (post : (Nat × Nat × Nat) × Unit → Prop) : fnEval Yx42 nHn Try.f42.ntmps Try.f42.results.toList (Try.f42.body.getD .skip) [kVec] [.snap kVec] (a, ()) post = YF42 a post := by kernel_rfl
theorem Yl42 (a : Nat × Nat × Nat) : YF42 a (fun r => r = againstR a) := by
  exact ⟨trivial, trivial, trivial, trivial, rfl⟩
theorem Yh42 : Yq42.holds Try.prog (fun _ => none) 42 :=
  detP Yx42_ok Ymixed nHn Yat42 (F := fun x post => YF42 x.1 post) (fun x post => Yf42_eq x.1 post) fun x _ _ => Yl42 x.1
def YF28 := fun (a b : Nat × Nat × Nat) (post : Bool × Unit → Prop) =>
  ∃ (h : True),
    ∀ (a_1 : Bool),
      a_1 = (sameR a.fst b.fst).fst →
        Br a_1
          (∃ (h : True),
            ∀ (a_2 : Bool),
              a_2 = (sameR a.snd.fst b.snd.fst).fst →
                Br a_2 (∃ (h : True), ∀ (a_3 : Bool), a_3 = (sameR a.snd.snd b.snd.snd).fst → post (a_3, ())) (post (Bool.false, ())))
          (post (Bool.false, ()))
def Yx28 : Cx := ⟨tabOf Ytab, conOf [(33, Yq33)], fun _ => none⟩
theorem Yx28_ok : CxOk Try.prog Yx28 := ⟨tabB_sound Ytab_ok, conOf_sound ⟨Yh33, trivial⟩⟩
theorem Yat28 : FnAt Try.prog 28 Try.f28.ntmps Try.f28.results.toList (Try.f28.body.getD .skip) := ⟨Try.f28, Try.func28, rfl, rfl, by simp, by decide⟩
theorem Yf28_eq (a : Nat × Nat × Nat) (b : Nat × Nat × Nat) (post : Bool × Unit → Prop) : fnEval Yx28 nHn Try.f28.ntmps Try.f28.results.toList (Try.f28.body.getD .skip) [kVec, kVec] [.snap .bool] (a, b, ()) post = YF28 a b post := by kernel_rfl
theorem Yl28 (a : Nat × Nat × Nat) (b : Nat × Nat × Nat) : YF28 a b (fun r => r = alikeR a b) := by
  rw [alike_eq]
  refine ⟨trivial, ?_⟩
  rintro _ rfl
  refine Br.intro (fun e => ⟨trivial, ?_⟩) fun e => ?_
  · have e : decide (a.fst = b.fst) = true := e
    rw [e]
    rintro _ rfl
    refine Br.intro (fun f => ⟨trivial, ?_⟩) fun f => ?_
    · have f : decide (a.snd.fst = b.snd.fst) = true := f
      rw [f]
      rintro _ rfl
      rfl
    · have f : decide (a.snd.fst = b.snd.fst) = false := f
      rw [f]; rfl
  · have e : decide (a.fst = b.fst) = false := e
    rw [e]; rfl
theorem Yh28 : Yq28.holds Try.prog (fun _ => none) 28 :=
  detP Yx28_ok Ymixed nHn Yat28 (F := fun x post => YF28 x.1 x.2.1 post) (fun x post => Yf28_eq x.1 x.2.1 post) fun x _ _ => Yl28 x.1 x.2.1
end Go.Lift

/- The law VecAll. Own work. -/
set_option linter.unusedVariables false
set_option linter.unusedSimpArgs false
namespace Go.Lift
open Go.Proofs
def YF27 := fun (post : Bool × Unit → Prop) =>
  ∃ (h : True),
    ∃ (h : WV (atR (4613937818241073152 : Nat) (4616189618054758400 : Nat) (0 : Nat)).fst),
      ∃ (h : True),
        ∃ (h : True),
          ∃ (h : True),
            ∃ (h : True),
              ∃ (h : True),
                ∃ (h : True),
                  ∃ (h : True),
                    ∃ (h : WV (atR (13835058055282163712 : Nat) (0 : Nat) (0 : Nat)).fst),
                      ∃ (h : True),
                        ∃ (h : True),
                          ∃ (h : True),
                            ∃ (h : True),
                              ∃ (h :
                                WV2 (atR (4607182418800017408 : Nat) (4611686018427387904 : Nat) (4613937818241073152 : Nat)).fst
                                  (atR (4607182418800017408 : Nat) (4611686018427387904 : Nat) (4617315517961601024 : Nat)).fst),
                                ∃ (h : True),
                                  ∃ (h : True),
                                    ∃ (h : True),
                                      ∃ (h :
                                        WV2 (atR (4607182418800017408 : Nat) (4611686018427387904 : Nat) (4613937818241073152 : Nat)).fst
                                          (atR (4613937818241073152 : Nat) (4611686018427387904 : Nat) (4607182418800017408 : Nat)).fst),
                                        ∃ (h : True),
                                          ∃ (h : True),
                                            post
                                              ((alikeR
                                                    (minusR (atR (4607182418800017408 : Nat) (4611686018427387904 : Nat) (4613937818241073152 : Nat)).fst
                                                        (atR (4613937818241073152 : Nat) (4611686018427387904 : Nat) (4607182418800017408 : Nat)).fst).fst
                                                    (atR (13835058055282163712 : Nat) (0 : Nat) (4611686018427387904 : Nat)).fst).fst,
                                                ())
def Yx27 : Cx := ⟨tabOf Ytab, conOf [(44, Yq44), (36, Yq36), (33, Yq33), (31, Yq31), (28, Yq28), (38, Yq38), (34, Yq34), (29, Yq29)], fun _ => none⟩
theorem Yx27_ok : CxOk Try.prog Yx27 := ⟨tabB_sound Ytab_ok, conOf_sound ⟨Yh44, Yh36, Yh33, Yh31, Yh28, Yh38, Yh34, Yh29, trivial⟩⟩
theorem Yat27 : FnAt Try.prog 27 Try.f27.ntmps Try.f27.results.toList (Try.f27.body.getD .skip) := ⟨Try.f27, Try.func27, rfl, rfl, by simp, by decide⟩
theorem Yf27_eq  (post : Bool × Unit → Prop) : fnEval Yx27 Yhn27 Try.f27.ntmps Try.f27.results.toList (Try.f27.body.getD .skip) [] [.snap .bool] (()) post = YF27  post := by kernel_rfl
theorem Yl27  : YF27  (fun r => r = trueR0) := by
  exact ⟨trivial, ⟨by unfold W64; decide, by unfold W64; decide, by unfold W64; decide⟩, trivial, trivial, trivial, trivial, trivial, trivial, trivial, ⟨by unfold W64; decide, by unfold W64; decide, by unfold W64; decide⟩, trivial, trivial, trivial, trivial, ⟨⟨by unfold W64; decide, by unfold W64; decide, by unfold W64; decide⟩, ⟨by unfold W64; decide, by unfold W64; decide, by unfold W64; decide⟩⟩, trivial, trivial, trivial, ⟨⟨by unfold W64; decide, by unfold W64; decide, by unfold W64; decide⟩, ⟨by unfold W64; decide, by unfold W64; decide, by unfold W64; decide⟩⟩, trivial, trivial, (by show (_, ()) = trueR0; kernel_rfl)⟩
theorem Yh27 : Yq27.holds Try.prog (fun _ => none) 27 :=
  detP Yx27_ok Ymixed Yhn27 Yat27 (F := fun x post => YF27  post) (fun x post => Yf27_eq  post) fun x _ _ => Yl27 
def YF9 := fun (a : List (Nat × Nat × Nat)) (post : Bool × Unit → Prop) =>
  ∃ (h : True),
    ∀ (a_1 : Bool),
      a_1 = trueR0.fst →
        Br (!a_1) (post (Bool.false, ()))
          (HIs [] [] ∧
            ∃ (I : Int × Unit → Unit → Prop),
              ∃ (μ : Int × Unit → Unit → Nat),
                I ((0 : Int), ()) () ∧
                  ∀ (x : Int × Unit) (y : Unit),
                    I x y →
                      ∀ (a_2 : Bool),
                        a_2 = decide (x.fst < (↑a.length : Int)) →
                          Br a_2
                            (∃ (h : (0 : Int) ≤ x.fst ∧ x.fst < (↑a.length : Int)),
                              ∃ (h : (↑a.length : Int) ≠ (0 : Int)),
                                ∃ (h :
                                  (0 : Int) ≤ (IntKind.i64.wrap (x.fst + (1 : Int))).tmod (↑a.length : Int) ∧
                                    (IntKind.i64.wrap (x.fst + (1 : Int))).tmod (↑a.length : Int) < (↑a.length : Int)),
                                  ∃ (h :
                                    WV2
                                      ((a.getD x.fst.toNat kVec.dflt).fst, (a.getD x.fst.toNat kVec.dflt).snd.fst, (a.getD x.fst.toNat kVec.dflt).snd.snd)
                                      ((a.getD ((IntKind.i64.wrap (x.fst + (1 : Int))).tmod (↑a.length : Int)).toNat kVec.dflt).fst,
                                        (a.getD ((IntKind.i64.wrap (x.fst + (1 : Int))).tmod (↑a.length : Int)).toNat kVec.dflt).snd.fst,
                                        (a.getD ((IntKind.i64.wrap (x.fst + (1 : Int))).tmod (↑a.length : Int)).toNat kVec.dflt).snd.snd)),
                                    ∃ (h :
                                      WV2
                                        ((a.getD x.fst.toNat kVec.dflt).fst, (a.getD x.fst.toNat kVec.dflt).snd.fst, (a.getD x.fst.toNat kVec.dflt).snd.snd)
                                        ((a.getD ((IntKind.i64.wrap (x.fst + (1 : Int))).tmod (↑a.length : Int)).toNat kVec.dflt).fst,
                                          (a.getD ((IntKind.i64.wrap (x.fst + (1 : Int))).tmod (↑a.length : Int)).toNat kVec.dflt).snd.fst,
                                          (a.getD ((IntKind.i64.wrap (x.fst + (1 : Int))).tmod (↑a.length : Int)).toNat kVec.dflt).snd.snd)),
                                      ∃ (h : True),
                                        ∀ (a_3 : Bool),
                                          a_3 =
                                              (alikeR
                                                  (minusR
                                                      ((a.getD x.fst.toNat kVec.dflt).fst, (a.getD x.fst.toNat kVec.dflt).snd.fst,
                                                        (a.getD x.fst.toNat kVec.dflt).snd.snd)
                                                      ((a.getD ((IntKind.i64.wrap (x.fst + (1 : Int))).tmod (↑a.length : Int)).toNat kVec.dflt).fst,
                                                        (a.getD ((IntKind.i64.wrap (x.fst + (1 : Int))).tmod (↑a.length : Int)).toNat kVec.dflt).snd.fst,
                                                        (a.getD ((IntKind.i64.wrap (x.fst + (1 : Int))).tmod (↑a.length : Int)).toNat kVec.dflt).snd.snd)).fst
                                                  (minusR
                                                      ((a.getD x.fst.toNat kVec.dflt).fst, (a.getD x.fst.toNat kVec.dflt).snd.fst,
                                                        (a.getD x.fst.toNat kVec.dflt).snd.snd)
                                                      ((a.getD ((IntKind.i64.wrap (x.fst + (1 : Int))).tmod (↑a.length : Int)).toNat kVec.dflt).fst,
                                                        (a.getD ((IntKind.i64.wrap (x.fst + (1 : Int))).tmod (↑a.length : Int)).toNat kVec.dflt).snd.fst,
                                                        (a.getD ((IntKind.i64.wrap (x.fst + (1 : Int))).tmod (↑a.length : Int)).toNat kVec.dflt).snd.snd)).fst).fst →
                                            Br (!a_3) (post (Bool.false, ()))
                                              (∃ (h : True),
                                                ∃ (h : True),
                                                  ∃ (h : True),
                                                    ∀ (a_4 : Bool),
                                                      a_4 =
                                                          (alikeR
                                                              (crossR
                                                                  ((a.getD x.fst.toNat kVec.dflt).fst, (a.getD x.fst.toNat kVec.dflt).snd.fst,
                                                                    (a.getD x.fst.toNat kVec.dflt).snd.snd)
                                                                  ((a.getD ((IntKind.i64.wrap (x.fst + (1 : Int))).tmod (↑a.length : Int)).toNat kVec.dflt).fst,
                                                                    (a.getD ((IntKind.i64.wrap (x.fst + (1 : Int))).tmod (↑a.length : Int)).toNat kVec.dflt).snd.fst,
                                                                    (a.getD ((IntKind.i64.wrap (x.fst + (1 : Int))).tmod (↑a.length : Int)).toNat
                                                                          kVec.dflt).snd.snd)).fst
                                                              (crossR
                                                                  ((a.getD x.fst.toNat kVec.dflt).fst, (a.getD x.fst.toNat kVec.dflt).snd.fst,
                                                                    (a.getD x.fst.toNat kVec.dflt).snd.snd)
                                                                  ((a.getD ((IntKind.i64.wrap (x.fst + (1 : Int))).tmod (↑a.length : Int)).toNat kVec.dflt).fst,
                                                                    (a.getD ((IntKind.i64.wrap (x.fst + (1 : Int))).tmod (↑a.length : Int)).toNat kVec.dflt).snd.fst,
                                                                    (a.getD ((IntKind.i64.wrap (x.fst + (1 : Int))).tmod (↑a.length : Int)).toNat
                                                                          kVec.dflt).snd.snd)).fst).fst →
                                                        Br (!a_4) (post (Bool.false, ()))
                                                          (∃ (h :
                                                            WV2
                                                              ((a.getD x.fst.toNat kVec.dflt).fst, (a.getD x.fst.toNat kVec.dflt).snd.fst,
                                                                (a.getD x.fst.toNat kVec.dflt).snd.snd)
                                                              ((a.getD ((IntKind.i64.wrap (x.fst + (1 : Int))).tmod (↑a.length : Int)).toNat kVec.dflt).fst,
                                                                (a.getD ((IntKind.i64.wrap (x.fst + (1 : Int))).tmod (↑a.length : Int)).toNat kVec.dflt).snd.fst,
                                                                (a.getD ((IntKind.i64.wrap (x.fst + (1 : Int))).tmod (↑a.length : Int)).toNat kVec.dflt).snd.snd)),
                                                            ∃ (h :
                                                              WV2
                                                                ((a.getD x.fst.toNat kVec.dflt).fst, (a.getD x.fst.toNat kVec.dflt).snd.fst,
                                                                  (a.getD x.fst.toNat kVec.dflt).snd.snd)
                                                                ((a.getD ((IntKind.i64.wrap (x.fst + (1 : Int))).tmod (↑a.length : Int)).toNat kVec.dflt).fst,
                                                                  (a.getD ((IntKind.i64.wrap (x.fst + (1 : Int))).tmod (↑a.length : Int)).toNat kVec.dflt).snd.fst,
                                                                  (a.getD ((IntKind.i64.wrap (x.fst + (1 : Int))).tmod (↑a.length : Int)).toNat kVec.dflt).snd.snd)),
                                                              ∃ (h : True),
                                                                ∀ (a_5 : Bool),
                                                                  a_5 =
                                                                      (sameR
                                                                          (gapR
                                                                              ((a.getD x.fst.toNat kVec.dflt).fst, (a.getD x.fst.toNat kVec.dflt).snd.fst,
                                                                                (a.getD x.fst.toNat kVec.dflt).snd.snd)
                                                                              ((a.getD ((IntKind.i64.wrap (x.fst + (1 : Int))).tmod (↑a.length : Int)).toNat
                                                                                    kVec.dflt).fst,
                                                                                (a.getD ((IntKind.i64.wrap (x.fst + (1 : Int))).tmod (↑a.length : Int)).toNat
                                                                                      kVec.dflt).snd.fst,
                                                                                (a.getD ((IntKind.i64.wrap (x.fst + (1 : Int))).tmod (↑a.length : Int)).toNat
                                                                                      kVec.dflt).snd.snd)).fst
                                                                          (gapR
                                                                              ((a.getD x.fst.toNat kVec.dflt).fst, (a.getD x.fst.toNat kVec.dflt).snd.fst,
                                                                                (a.getD x.fst.toNat kVec.dflt).snd.snd)
                                                                              ((a.getD ((IntKind.i64.wrap (x.fst + (1 : Int))).tmod (↑a.length : Int)).toNat
                                                                                    kVec.dflt).fst,
                                                                                (a.getD ((IntKind.i64.wrap (x.fst + (1 : Int))).tmod (↑a.length : Int)).toNat
                                                                                      kVec.dflt).snd.fst,
                                                                                (a.getD ((IntKind.i64.wrap (x.fst + (1 : Int))).tmod (↑a.length : Int)).toNat
                                                                                      kVec.dflt).snd.snd)).fst).fst →
                                                                    Br (!a_5) (post (Bool.false, ()))
                                                                      (∃ (h :
                                                                        WV
                                                                          ((a.getD x.fst.toNat kVec.dflt).fst, (a.getD x.fst.toNat kVec.dflt).snd.fst,
                                                                            (a.getD x.fst.toNat kVec.dflt).snd.snd)),
                                                                        ∃ (h :
                                                                          WV
                                                                            ((a.getD x.fst.toNat kVec.dflt).fst, (a.getD x.fst.toNat kVec.dflt).snd.fst,
                                                                              (a.getD x.fst.toNat kVec.dflt).snd.snd)),
                                                                          ∃ (h : True),
                                                                            ∀ (a_6 : Bool),
                                                                              a_6 =
                                                                                  (sameR
                                                                                      (lengthR
                                                                                          ((a.getD x.fst.toNat kVec.dflt).fst,
                                                                                            (a.getD x.fst.toNat kVec.dflt).snd.fst,
                                                                                            (a.getD x.fst.toNat kVec.dflt).snd.snd)).fst
                                                                                      (lengthR
                                                                                          ((a.getD x.fst.toNat kVec.dflt).fst,
                                                                                            (a.getD x.fst.toNat kVec.dflt).snd.fst,
                                                                                            (a.getD x.fst.toNat kVec.dflt).snd.snd)).fst).fst →
                                                                                Br (!a_6) (post (Bool.false, ()))
                                                                                  (∃ (h :
                                                                                    WV
                                                                                      ((a.getD x.fst.toNat kVec.dflt).fst, (a.getD x.fst.toNat kVec.dflt).snd.fst,
                                                                                        (a.getD x.fst.toNat kVec.dflt).snd.snd)),
                                                                                    ∃ (h :
                                                                                      WV
                                                                                        ((a.getD x.fst.toNat kVec.dflt).fst, (a.getD x.fst.toNat kVec.dflt).snd.fst,
                                                                                          (a.getD x.fst.toNat kVec.dflt).snd.snd)),
                                                                                      ∃ (h : True),
                                                                                        ∀ (a_7 : Bool),
                                                                                          a_7 =
                                                                                              (alikeR
                                                                                                  (unitR
                                                                                                      ((a.getD x.fst.toNat kVec.dflt).fst,
                                                                                                        (a.getD x.fst.toNat kVec.dflt).snd.fst,
                                                                                                        (a.getD x.fst.toNat kVec.dflt).snd.snd)).fst
                                                                                                  (unitR
                                                                                                      ((a.getD x.fst.toNat kVec.dflt).fst,
                                                                                                        (a.getD x.fst.toNat kVec.dflt).snd.fst,
                                                                                                        (a.getD x.fst.toNat kVec.dflt).snd.snd)).fst).fst →
                                                                                            Br (!a_7) (post (Bool.false, ()))
                                                                                              (HIs [] [] ∧
                                                                                                I (IntKind.i64.wrap (x.fst + (1 : Int)), ()) () ∧
                                                                                                  μ (IntKind.i64.wrap (x.fst + (1 : Int)), ()) () < μ x y))))))
                            (post (Bool.true, ())))
def Yx9 : Cx := ⟨tabOf Ytab, conOf [(27, Yq27), (29, Yq29), (30, Yq30), (28, Yq28), (31, Yq31), (32, Yq32), (34, Yq34), (35, Yq35), (33, Yq33), (36, Yq36), (37, Yq37), (38, Yq38), (39, Yq39)], fun _ => none⟩
theorem Yx9_ok : CxOk Try.prog Yx9 := ⟨tabB_sound Ytab_ok, conOf_sound ⟨Yh27, Yh29, Yh30, Yh28, Yh31, Yh32, Yh34, Yh35, Yh33, Yh36, Yh37, Yh38, Yh39, trivial⟩⟩
theorem Yat9 : FnAt Try.prog 9 Try.f9.ntmps Try.f9.results.toList (Try.f9.body.getD .skip) := ⟨Try.f9, Try.func9, rfl, rfl, by simp, by decide⟩
theorem Yf9_eq (a : List (Nat × Nat × Nat)) (post : Bool × Unit → Prop) : fnEval Yx9 Yhn9 Try.f9.ntmps Try.f9.results.toList (Try.f9.body.getD .skip) [.slice kVec] [.snap .bool] (a, ()) post = YF9 a post := by kernel_rfl
theorem Yl9 (a : List (Nat × Nat × Nat)) (h : WVL a) (w : KS.wf [.slice kVec] (a, ())) : YF9 a (fun r => r = trueR1 a) := by
  have hl : a.length ≤ maxN := w.1.1
  unfold maxN at hl
  have hw : ∀ j, WV (a.getD j kVec.dflt) := fun j => WVL_getD h j _ WV0
  refine ⟨trivial, ?_⟩
  rintro _ rfl
  refine Br.intro (fun e => by cases e) fun _ => ⟨rfl, fun x _ => ∃ i : Nat, x.1 = i ∧ i ≤ a.length, fun x _ => a.length - x.1.toNat, ⟨0, rfl, by omega⟩, ?_⟩
  rintro ⟨_, ⟨⟩⟩ _ ⟨i, hi, hil⟩
  dsimp only at hi
  subst hi
  dsimp only
  rintro _ rfl
  refine Br.intro (fun f => ?_) fun f => rfl
  have f : i < a.length := by have := of_decide_eq_true f; omega
  have hp : IntKind.i64.wrap ((i : Int) + 1) = (i : Int) + 1 := wi ⟨by omega, by omega⟩
  rw [hp]
  refine ⟨⟨by omega, by omega⟩, by omega, ⟨Int.tmod_nonneg _ (by omega), Int.tmod_lt_of_pos _ (by omega)⟩, ⟨hw _, hw _⟩, ⟨hw _, hw _⟩, trivial, ?_⟩
  rintro _ rfl
  refine Br.intro (fun e => by rw [alike_self] at e; cases e) fun _ => ⟨trivial, trivial, trivial, ?_⟩
  rintro _ rfl
  refine Br.intro (fun e => by rw [alike_self] at e; cases e) fun _ => ⟨⟨hw _, hw _⟩, ⟨hw _, hw _⟩, trivial, ?_⟩
  rintro _ rfl
  refine Br.intro (fun e => by rw [same_self] at e; cases e) fun _ => ⟨hw _, hw _, trivial, ?_⟩
  rintro _ rfl
  refine Br.intro (fun e => by rw [same_self] at e; cases e) fun _ => ⟨hw _, hw _, trivial, ?_⟩
  rintro _ rfl
  refine Br.intro (fun e => by rw [alike_self] at e; cases e) fun _ => ⟨rfl, ⟨i + 1, by omega, by omega⟩, by omega⟩
theorem Yh9 : Yq9.holds Try.prog (fun _ => none) 9 :=
  detP Yx9_ok Ymixed Yhn9 Yat9 (F := fun x post => YF9 x.1 post) (fun x post => Yf9_eq x.1 post) fun x h w => Yl9 x.1 h w
end Go.Lift

/- The law VecLengths. Own work. -/
set_option linter.unusedVariables false
set_option linter.unusedSimpArgs false
namespace Go.Lift
open Go.Proofs
theorem class_quiet (w : Nat) : classF (quietF w) = classF w := by
  unfold quietF
  split
  · rename_i e
    unfold isN at e
    have e := of_decide_eq_true e
    have b0 : 0 < bin := by decide
    have b1 : bin < infR := by decide
    have q : classF w = 4 := by
      unfold classF
      rw [if_neg (by omega), if_neg (by omega), if_neg (by omega), if_neg (by omega)]
    rw [q]; decide
  · rfl
theorem not_not {b : Bool} (h : (!b) = false) : b = true := by cases b <;> simp_all
theorem lss_zero {x : Nat} (h : sgn x = false) : fcmp .lss (FloatKind.f64.format.order x 0) = false := by
  show fcmp .lss (Ieee.double.order x 0) = false
  cases e : isN x with
  | true => rw [order_nan (.inl e)]; rfl
  | false =>
    rw [order_eq e (by decide), show keyOf' 0 = 0 by decide]
    unfold keyOf'
    rw [h, if_neg (by simp)]
    rcases Int.lt_trichotomy (rungOf x : Int) 0 with g | g | g
    · omega
    · rw [g, Std.compare_self]; rfl
    · rw [Std.compare_eq_gt.2 g]; rfl
def YF46 := fun (a : Nat) (post : Bool × Unit → Prop) =>
  ∀ (a_1 : Nat),
    FRes Go.FloatKind.f64 (Go.FloatKind.f64.format.mul a a) a_1 →
      ∃ (h : W64 a_1),
        ∀ (a_2 : Bool),
          a_2 = fcmp Go.BinOp.eql (Go.FloatKind.f64.format.order a (0 : Nat)) →
            Br a_2 (post (Bool.true, ())) (∀ (a : Bool), a = ((classR a_1).fst == (2 : Int)) → post (a, ()))
def Yx46 : Cx := ⟨tabOf Ytab, conOf [(75, Yq75)], fun _ => none⟩
theorem Yx46_ok : CxOk Try.prog Yx46 := ⟨tabB_sound Ytab_ok, conOf_sound ⟨Yh75, trivial⟩⟩
theorem Yat46 : FnAt Try.prog 46 Try.f46.ntmps Try.f46.results.toList (Try.f46.body.getD .skip) := ⟨Try.f46, Try.func46, rfl, rfl, by simp, by decide⟩
theorem Yf46_eq (a : Nat) (post : Bool × Unit → Prop) : fnEval Yx46 nHn Try.f46.ntmps Try.f46.results.toList (Try.f46.body.getD .skip) [.flt .f64] [.snap .bool] (a, ()) post = YF46 a post := by kernel_rfl
theorem Yl46 (a : Nat) (h : W64 a) : YF46 a (fun r => r = goodR a) := by
  intro w hw
  refine ⟨(fmul hw).2, ?_⟩
  have hc : classF w = classF (mulQ a a) := by rw [← (fmul hw).1, class_quiet]
  rintro _ rfl
  refine Br.intro (fun e => ?_) fun e => ?_
  · exact congrArg r1 (by unfold goodF; rw [show fcmp .eql (Ieee.double.order a 0) = true from e]; rfl)
  · rintro _ rfl
    exact congrArg r1 (by unfold goodF; rw [show fcmp .eql (Ieee.double.order a 0) = false from e, ← hc, Bool.false_or, Bool.eq_iff_iff]; simp [classR, r1])
theorem Yh46 : Yq46.holds Try.prog (fun _ => none) 46 :=
  detP Yx46_ok Ymixed nHn Yat46 (F := fun x post => YF46 x.1 post) (fun x post => Yf46_eq x.1 post) fun x h _ => Yl46 x.1 h
def YF47 := fun (a : Nat × Nat × Nat) (post : Bool × Unit → Prop) =>
  ∀ (a_1 : Nat),
    FRes Go.FloatKind.f64 (Go.FloatKind.f64.format.mul a.fst a.fst) a_1 →
      ∀ (a_2 : Bool),
        a_2 = fcmp Go.BinOp.eql (Go.FloatKind.f64.format.order a_1 (0 : Nat)) →
          Br a_2
            (∀ (a_3 : Nat),
              FRes Go.FloatKind.f64 (Go.FloatKind.f64.format.mul a.snd.fst a.snd.fst) a_3 →
                ∀ (a_4 : Bool),
                  a_4 = fcmp Go.BinOp.eql (Go.FloatKind.f64.format.order a_3 (0 : Nat)) →
                    Br a_4
                      (∀ (a_5 : Nat),
                        FRes Go.FloatKind.f64 (Go.FloatKind.f64.format.mul a.snd.snd a.snd.snd) a_5 →
                          ∀ (a : Bool), a = fcmp Go.BinOp.eql (Go.FloatKind.f64.format.order a_5 (0 : Nat)) → post (a, ()))
                      (post (Bool.false, ())))
            (post (Bool.false, ()))
def Yx47 : Cx := ⟨tabOf Ytab, conOf [], fun _ => none⟩
theorem Yx47_ok : CxOk Try.prog Yx47 := ⟨tabB_sound Ytab_ok, fun f c h => by cases h⟩
theorem Yat47 : FnAt Try.prog 47 Try.f47.ntmps Try.f47.results.toList (Try.f47.body.getD .skip) := ⟨Try.f47, Try.func47, rfl, rfl, by simp, by decide⟩
theorem Yf47_eq (a : Nat × Nat × Nat) (post : Bool × Unit → Prop) : fnEval Yx47 nHn Try.f47.ntmps Try.f47.results.toList (Try.f47.body.getD .skip) [kVec] [.snap .bool] (a, ()) post = YF47 a post := by kernel_rfl
theorem Yl47 (a : Nat × Nat × Nat) (h : WV a) : YF47 a (fun r => r = tinyR a) := by
  have q : ∀ x w, FRes .f64 (FloatKind.f64.format.mul x x) w → fcmp .eql (Ieee.double.order w 0) = nil0 x := fun x w hw => by unfold nil0; rw [order_quiet (fmul hw).1]
  intro w hw
  rintro _ rfl
  refine Br.intro (fun e => ?_) fun e => ?_
  · intro w2 hw2
    rintro _ rfl
    refine Br.intro (fun e2 => ?_) fun e2 => ?_
    · intro w3 hw3
      rintro _ rfl
      exact congrArg r1 (by unfold tinyF; rw [← q _ _ hw, ← q _ _ hw2, ← q _ _ hw3]; rw [show fcmp .eql (Ieee.double.order w 0) = true from e, show fcmp .eql (Ieee.double.order w2 0) = true from e2]; rfl)
    · exact congrArg r1 (by unfold tinyF; rw [← q _ _ hw, ← q _ _ hw2]; rw [show fcmp .eql (Ieee.double.order w 0) = true from e, show fcmp .eql (Ieee.double.order w2 0) = false from e2]; rfl)
  · exact congrArg r1 (by unfold tinyF; rw [← q _ _ hw]; rw [show fcmp .eql (Ieee.double.order w 0) = false from e]; rfl)
theorem Yh47 : Yq47.holds Try.prog (fun _ => none) 47 :=
  detP Yx47_ok Ymixed nHn Yat47 (F := fun x post => YF47 x.1 post) (fun x post => Yf47_eq x.1 post) fun x h _ => Yl47 x.1 h
def YF48 := fun (a b : Nat) (post : Nat × Unit → Prop) =>
  ∀ (a_1 : Bool),
    a_1 = fcmp Go.BinOp.neq (Go.FloatKind.f64.format.order a a) →
      Br a_1 (∃ (h : True), post (qnR.fst, ()))
        (∀ (a_2 : Bool),
          a_2 = fcmp Go.BinOp.neq (Go.FloatKind.f64.format.order b b) →
            Br a_2 (∃ (h : True), post (qnR.fst, ()))
              (∃ (h : W2 a b), ∀ (a_3 : Bool), a_3 = decide ((ordR a b).fst < (0 : Int)) → Br a_3 (post (b, ())) (post (a, ()))))
def Yx48 : Cx := ⟨tabOf Ytab, conOf [(74, Yq74), (62, Yq62)], fun _ => none⟩
theorem Yx48_ok : CxOk Try.prog Yx48 := ⟨tabB_sound Ytab_ok, conOf_sound ⟨Yh74, Yh62, trivial⟩⟩
theorem Yat48 : FnAt Try.prog 48 Try.f48.ntmps Try.f48.results.toList (Try.f48.body.getD .skip) := ⟨Try.f48, Try.func48, rfl, rfl, by simp, by decide⟩
theorem Yf48_eq (a : Nat) (b : Nat) (post : Nat × Unit → Prop) : fnEval Yx48 nHn Try.f48.ntmps Try.f48.results.toList (Try.f48.body.getD .skip) [.flt .f64, .flt .f64] [.snap (.flt .f64)] (a, b, ()) post = YF48 a b post := by kernel_rfl
theorem Yl48 (a : Nat) (b : Nat) (h : W2 a b) : YF48 a b (fun r => r = maxR a b) := by
  rintro _ rfl
  refine Br.intro (fun e => ⟨trivial, ?_⟩) fun e => ?_
  · have e : isN a = true := (neq_self a).symm.trans e
    exact congrArg r1 (by unfold maxF; rw [e]; rfl)
  have e : isN a = false := (neq_self a).symm.trans e
  rintro _ rfl
  refine Br.intro (fun f => ⟨trivial, ?_⟩) fun f => ⟨h, ?_⟩
  · have f : isN b = true := (neq_self b).symm.trans f
    exact congrArg r1 (by unfold maxF; rw [e, f]; rfl)
  have f : isN b = false := (neq_self b).symm.trans f
  rintro _ rfl
  refine Br.intro (fun g => ?_) fun g => ?_
  · exact congrArg r1 (by unfold maxF; rw [e, f, if_neg (by simp), if_pos (show ordF a b < 0 from of_decide_eq_true g)])
  · exact congrArg r1 (by unfold maxF; rw [e, f, if_neg (by simp), if_neg (show ¬ ordF a b < 0 from of_decide_eq_false g)])
theorem Yh48 : Yq48.holds Try.prog (fun _ => none) 48 :=
  detP Yx48_ok Ymixed nHn Yat48 (F := fun x post => YF48 x.1 x.2.1 post) (fun x post => Yf48_eq x.1 x.2.1 post) fun x h _ => Yl48 x.1 x.2.1 h
def YF49 := fun (a b : Nat) (post : Bool × Unit → Prop) =>
  ∀ (a_1 : Bool),
    a_1 = fcmp Go.BinOp.geq (Go.FloatKind.f64.format.order a (13830554455654793216 : Nat)) →
      Br a_1
        (∀ (a_2 : Bool),
          a_2 = fcmp Go.BinOp.leq (Go.FloatKind.f64.format.order a (4607182418800017408 : Nat)) →
            Br a_2
              (∀ (a_3 : Bool),
                a_3 = fcmp Go.BinOp.leq (Go.FloatKind.f64.format.order a (0 : Nat)) →
                  Br a_3
                    (∀ (a_4 : Bool),
                      a_4 = fcmp Go.BinOp.geq (Go.FloatKind.f64.format.order a (0 : Nat)) →
                        Br a_4 (post (Bool.true, ())) (∀ (a : Bool), a = fcmp Go.BinOp.lss (Go.FloatKind.f64.format.order b (0 : Nat)) → post (a, ())))
                    (∀ (a_4 : Bool),
                      a_4 = fcmp Go.BinOp.gtr (Go.FloatKind.f64.format.order b (0 : Nat)) →
                        Br a_4
                          (∀ (a_5 : Bool),
                            a_5 = fcmp Go.BinOp.geq (Go.FloatKind.f64.format.order a (0 : Nat)) →
                              Br a_5 (post (Bool.true, ())) (∀ (a : Bool), a = fcmp Go.BinOp.lss (Go.FloatKind.f64.format.order b (0 : Nat)) → post (a, ())))
                          (post (Bool.false, ()))))
              (post (Bool.false, ())))
        (post (Bool.false, ()))
def Yx49 : Cx := ⟨tabOf Ytab, conOf [], fun _ => none⟩
theorem Yx49_ok : CxOk Try.prog Yx49 := ⟨tabB_sound Ytab_ok, fun f c h => by cases h⟩
theorem Yat49 : FnAt Try.prog 49 Try.f49.ntmps Try.f49.results.toList (Try.f49.body.getD .skip) := ⟨Try.f49, Try.func49, rfl, rfl, by simp, by decide⟩
theorem Yf49_eq (a : Nat) (b : Nat) (post : Bool × Unit → Prop) : fnEval Yx49 nHn Try.f49.ntmps Try.f49.results.toList (Try.f49.body.getD .skip) [.flt .f64, .flt .f64] [.snap .bool] (a, b, ()) post = YF49 a b post := by kernel_rfl
theorem Yl49 (a : Nat) (b : Nat) (h : W2 a b) : YF49 a b (fun r => r = partR a b) := by
  have key : ∀ p q r s t : Bool, Br p (Br q (Br r (Br s ((true, ()) = r1 (((p && q) && (r || t)) && (s || (fcmp .lss (Ieee.double.order b 0))))) ((fcmp .lss (Ieee.double.order b 0), ()) = r1 (((p && q) && (r || t)) && (s || (fcmp .lss (Ieee.double.order b 0))))))
      (Br t (Br s ((true, ()) = r1 (((p && q) && (r || t)) && (s || (fcmp .lss (Ieee.double.order b 0))))) ((fcmp .lss (Ieee.double.order b 0), ()) = r1 (((p && q) && (r || t)) && (s || (fcmp .lss (Ieee.double.order b 0)))))) ((false, ()) = r1 (((p && q) && (r || t)) && (s || (fcmp .lss (Ieee.double.order b 0)))))))
      ((false, ()) = r1 (((p && q) && (r || t)) && (s || (fcmp .lss (Ieee.double.order b 0)))))) ((false, ()) = r1 (((p && q) && (r || t)) && (s || (fcmp .lss (Ieee.double.order b 0))))) := by
    intro p q r s t
    cases p <;> cases q <;> cases r <;> cases s <;> cases t <;> simp [Br, r1]
  rintro _ rfl
  have k := key (fcmp .geq (Ieee.double.order a mone)) (fcmp .leq (Ieee.double.order a oneR)) (fcmp .leq (Ieee.double.order a 0)) (fcmp .geq (Ieee.double.order a 0)) (fcmp .gtr (Ieee.double.order b 0))
  refine Br.intro (fun e1 => ?_) fun e1 => k.f e1
  have k := k.t e1
  rintro _ rfl
  refine Br.intro (fun e2 => ?_) fun e2 => k.f e2
  have k := k.t e2
  rintro _ rfl
  refine Br.intro (fun e3 => ?_) fun e3 => ?_
  · have k := k.t e3
    rintro _ rfl
    refine Br.intro (fun e4 => k.t e4) fun e4 => ?_
    rintro _ rfl
    exact k.f e4
  · have k := k.f e3
    rintro _ rfl
    refine Br.intro (fun e4 => ?_) fun e4 => k.f e4
    have k := k.t e4
    rintro _ rfl
    refine Br.intro (fun e5 => k.t e5) fun e5 => ?_
    rintro _ rfl
    exact k.f e5
theorem Yh49 : Yq49.holds Try.prog (fun _ => none) 49 :=
  detP Yx49_ok Ymixed nHn Yat49 (F := fun x post => YF49 x.1 x.2.1 post) (fun x post => Yf49_eq x.1 x.2.1 post) fun x h _ => Yl49 x.1 x.2.1 h
def YF13 := fun (a : Nat × Nat × Nat) (post : Bool × Unit → Prop) =>
  ∃ (h : True),
    ∀ (a_1 : Bool),
      a_1 = trueR0.fst →
        Br (!a_1) (post (Bool.false, ()))
          (∃ (h : WV (a.fst, a.snd.fst, a.snd.snd)),
            ∃ (h : WV (a.fst, a.snd.fst, a.snd.snd)),
              ∃ (h : True),
                ∃ (h : True),
                  ∀ (a_2 : Bool),
                    a_2 = (sameR (canonR (lengthR (a.fst, a.snd.fst, a.snd.snd)).fst).fst (lengthR (a.fst, a.snd.fst, a.snd.snd)).fst).fst →
                      Br (!a_2) (post (Bool.false, ()))
                        (∀ (a_3 : Bool),
                          a_3 = fcmp Go.BinOp.lss (Go.FloatKind.f64.format.order (lengthR (a.fst, a.snd.fst, a.snd.snd)).fst (0 : Nat)) →
                            Br a_3 (post (Bool.false, ()))
                              (∃ (h : W64 a.fst),
                                ∀ (a_4 : Bool),
                                  a_4 = (goodR a.fst).fst →
                                    Br (!a_4)
                                      (∀ (a_5 : Bool),
                                        a_5 =
                                            fcmp Go.BinOp.neq
                                              (Go.FloatKind.f64.format.order (lengthR (a.fst, a.snd.fst, a.snd.snd)).fst
                                                (lengthR (a.fst, a.snd.fst, a.snd.snd)).fst) →
                                          Br a_5 (post (Bool.true, ()))
                                            (∀ (a_6 : Bool),
                                              a_6 = fcmp Go.BinOp.gtr (Go.FloatKind.f64.format.order (lengthR (a.fst, a.snd.fst, a.snd.snd)).fst (0 : Nat)) →
                                                Br a_6 (post (Bool.true, ()))
                                                  (∃ (h : WV (a.fst, a.snd.fst, a.snd.snd)),
                                                    ∀ (a_7 : Bool), a_7 = (tinyR (a.fst, a.snd.fst, a.snd.snd)).fst → post (a_7, ()))))
                                      (∃ (h : W64 a.snd.fst),
                                        ∀ (a_5 : Bool),
                                          a_5 = (goodR a.snd.fst).fst →
                                            Br (!a_5)
                                              (∀ (a_6 : Bool),
                                                a_6 =
                                                    fcmp Go.BinOp.neq
                                                      (Go.FloatKind.f64.format.order (lengthR (a.fst, a.snd.fst, a.snd.snd)).fst
                                                        (lengthR (a.fst, a.snd.fst, a.snd.snd)).fst) →
                                                  Br a_6 (post (Bool.true, ()))
                                                    (∀ (a_7 : Bool),
                                                      a_7 =
                                                          fcmp Go.BinOp.gtr (Go.FloatKind.f64.format.order (lengthR (a.fst, a.snd.fst, a.snd.snd)).fst (0 : Nat)) →
                                                        Br a_7 (post (Bool.true, ()))
                                                          (∃ (h : WV (a.fst, a.snd.fst, a.snd.snd)),
                                                            ∀ (a_8 : Bool), a_8 = (tinyR (a.fst, a.snd.fst, a.snd.snd)).fst → post (a_8, ()))))
                                              (∃ (h : W64 a.snd.snd),
                                                ∀ (a_6 : Bool),
                                                  a_6 = (goodR a.snd.snd).fst →
                                                    Br (!a_6)
                                                      (∀ (a_7 : Bool),
                                                        a_7 =
                                                            fcmp Go.BinOp.neq
                                                              (Go.FloatKind.f64.format.order (lengthR (a.fst, a.snd.fst, a.snd.snd)).fst
                                                                (lengthR (a.fst, a.snd.fst, a.snd.snd)).fst) →
                                                          Br a_7 (post (Bool.true, ()))
                                                            (∀ (a_8 : Bool),
                                                              a_8 =
                                                                  fcmp Go.BinOp.gtr
                                                                    (Go.FloatKind.f64.format.order (lengthR (a.fst, a.snd.fst, a.snd.snd)).fst (0 : Nat)) →
                                                                Br a_8 (post (Bool.true, ()))
                                                                  (∃ (h : WV (a.fst, a.snd.fst, a.snd.snd)),
                                                                    ∀ (a_9 : Bool), a_9 = (tinyR (a.fst, a.snd.fst, a.snd.snd)).fst → post (a_9, ()))))
                                                      (∃ (h : W2 a.fst (Go.Op.negFloat Go.FloatKind.f64 a.fst)),
                                                        ∃ (h : W2 a.snd.fst (Go.Op.negFloat Go.FloatKind.f64 a.snd.fst)),
                                                          ∃ (h :
                                                            W2 (maxR a.fst (Go.Op.negFloat Go.FloatKind.f64 a.fst)).fst
                                                              (maxR a.snd.fst (Go.Op.negFloat Go.FloatKind.f64 a.snd.fst)).fst),
                                                            ∃ (h : W2 a.snd.snd (Go.Op.negFloat Go.FloatKind.f64 a.snd.snd)),
                                                              ∃ (h :
                                                                W2
                                                                  (maxR (maxR a.fst (Go.Op.negFloat Go.FloatKind.f64 a.fst)).fst
                                                                      (maxR a.snd.fst (Go.Op.negFloat Go.FloatKind.f64 a.snd.fst)).fst).fst
                                                                  (maxR a.snd.snd (Go.Op.negFloat Go.FloatKind.f64 a.snd.snd)).fst),
                                                                ∀ (a_7 : Bool),
                                                                  a_7 =
                                                                      fcmp Go.BinOp.lss
                                                                        (Go.FloatKind.f64.format.order (lengthR (a.fst, a.snd.fst, a.snd.snd)).fst
                                                                          (maxR
                                                                              (maxR (maxR a.fst (Go.Op.negFloat Go.FloatKind.f64 a.fst)).fst
                                                                                  (maxR a.snd.fst (Go.Op.negFloat Go.FloatKind.f64 a.snd.fst)).fst).fst
                                                                              (maxR a.snd.snd (Go.Op.negFloat Go.FloatKind.f64 a.snd.snd)).fst).fst) →
                                                                    Br a_7 (post (Bool.false, ()))
                                                                      (∀ (a_8 : Bool),
                                                                        a_8 =
                                                                            fcmp Go.BinOp.eql
                                                                              (Go.FloatKind.f64.format.order
                                                                                (maxR
                                                                                    (maxR (maxR a.fst (Go.Op.negFloat Go.FloatKind.f64 a.fst)).fst
                                                                                        (maxR a.snd.fst (Go.Op.negFloat Go.FloatKind.f64 a.snd.fst)).fst).fst
                                                                                    (maxR a.snd.snd (Go.Op.negFloat Go.FloatKind.f64 a.snd.snd)).fst).fst
                                                                                (0 : Nat)) →
                                                                          ∀ (a_9 : Bool),
                                                                            a_9 =
                                                                                fcmp Go.BinOp.eql
                                                                                  (Go.FloatKind.f64.format.order (lengthR (a.fst, a.snd.fst, a.snd.snd)).fst (0 : Nat)) →
                                                                              ∀ (a_10 : Bool),
                                                                                (a_10 = if Bool.true = Bool.true then a_8 != a_9 else a_8 == a_9) →
                                                                                  Br a_10 (post (Bool.false, ()))
                                                                                    (∃ (h : True),
                                                                                      ∀ (a_11 : Bool),
                                                                                        a_11 = fcmp Go.BinOp.neq (Go.FloatKind.f64.format.order a.fst (0 : Nat)) →
                                                                                          Br a_11
                                                                                            (∃ (h :
                                                                                              WV
                                                                                                ((atR a.fst (0 : Nat) (0 : Nat)).fst.fst,
                                                                                                  (atR a.fst (0 : Nat) (0 : Nat)).fst.snd.fst,
                                                                                                  (atR a.fst (0 : Nat) (0 : Nat)).fst.snd.snd)),
                                                                                              ∃ (h : W2 a.fst (Go.Op.negFloat Go.FloatKind.f64 a.fst)),
                                                                                                ∃ (h : True),
                                                                                                  ∀ (a_12 : Bool),
                                                                                                    a_12 =
                                                                                                        (sameR
                                                                                                            (lengthR
                                                                                                                ((atR a.fst (0 : Nat) (0 : Nat)).fst.fst,
                                                                                                                  (atR a.fst (0 : Nat) (0 : Nat)).fst.snd.fst,
                                                                                                                  (atR a.fst (0 : Nat) (0 : Nat)).fst.snd.snd)).fst
                                                                                                            (maxR a.fst (Go.Op.negFloat Go.FloatKind.f64 a.fst)).fst).fst →
                                                                                                      Br (!a_12) (post (Bool.false, ()))
                                                                                                        (∀ (a_13 : Bool),
                                                                                                          a_13 =
                                                                                                              fcmp Go.BinOp.eql
                                                                                                                (Go.FloatKind.f64.format.order
                                                                                                                  (lengthR (a.fst, a.snd.fst, a.snd.snd)).fst (0 : Nat)) →
                                                                                                            Br a_13
                                                                                                              (∃ (h : True),
                                                                                                                ∃ (h : True),
                                                                                                                  ∀ (a_14 : Bool),
                                                                                                                    a_14 =
                                                                                                                        (alikeR
                                                                                                                            ((unitR (a.fst, a.snd.fst, a.snd.snd)).fst.fst,
                                                                                                                              (unitR
                                                                                                                                      (a.fst, a.snd.fst, a.snd.snd)).fst.snd.fst,
                                                                                                                              (unitR
                                                                                                                                      (a.fst, a.snd.fst, a.snd.snd)).fst.snd.snd)
                                                                                                                            (atR (0 : Nat) (0 : Nat) (0 : Nat)).fst).fst →
                                                                                                                      post (a_14, ()))
                                                                                                              (∀ (a_14 : Nat),
                                                                                                                FRes Go.FloatKind.f64
                                                                                                                    (Go.FloatKind.f64.format.sub
                                                                                                                      (lengthR (a.fst, a.snd.fst, a.snd.snd)).fst
                                                                                                                      (lengthR (a.fst, a.snd.fst, a.snd.snd)).fst)
                                                                                                                    a_14 →
                                                                                                                  ∀ (a_15 : Bool),
                                                                                                                    a_15 =
                                                                                                                        fcmp Go.BinOp.neq
                                                                                                                          (Go.FloatKind.f64.format.order a_14 (0 : Nat)) →
                                                                                                                      Br a_15
                                                                                                                        (∃ (h : True),
                                                                                                                          ∃ (h : True),
                                                                                                                            ∀ (a_16 : Bool),
                                                                                                                              a_16 =
                                                                                                                                  (alikeR
                                                                                                                                      ((unitR
                                                                                                                                              (a.fst, a.snd.fst,
                                                                                                                                                a.snd.snd)).fst.fst,
                                                                                                                                        (unitR
                                                                                                                                                (a.fst, a.snd.fst,
                                                                                                                                                  a.snd.snd)).fst.snd.fst,
                                                                                                                                        (unitR
                                                                                                                                                (a.fst, a.snd.fst,
                                                                                                                                                  a.snd.snd)).fst.snd.snd)
                                                                                                                                      (atR (0 : Nat) (0 : Nat)
                                                                                                                                          (0 : Nat)).fst).fst →
                                                                                                                                post (a_16, ()))
                                                                                                                        (∃ (h :
                                                                                                                          W2
                                                                                                                            (unitR (a.fst, a.snd.fst, a.snd.snd)).fst.fst
                                                                                                                            a.fst),
                                                                                                                          ∀ (a_16 : Bool),
                                                                                                                            a_16 =
                                                                                                                                (partR
                                                                                                                                    (unitR
                                                                                                                                          (a.fst, a.snd.fst, a.snd.snd)).fst.fst
                                                                                                                                    a.fst).fst →
                                                                                                                              Br a_16
                                                                                                                                (∃ (h :
                                                                                                                                  W2
                                                                                                                                    (unitR
                                                                                                                                            (a.fst, a.snd.fst,
                                                                                                                                              a.snd.snd)).fst.snd.fst
                                                                                                                                    a.snd.fst),
                                                                                                                                  ∀ (a_17 : Bool),
                                                                                                                                    a_17 =
                                                                                                                                        (partR
                                                                                                                                            (unitR
                                                                                                                                                    (a.fst, a.snd.fst,
                                                                                                                                                      a.snd.snd)).fst.snd.fst
                                                                                                                                            a.snd.fst).fst →
                                                                                                                                      Br a_17
                                                                                                                                        (∃ (h :
                                                                                                                                          W2
                                                                                                                                            (unitR
                                                                                                                                                    (a.fst, a.snd.fst,
                                                                                                                                                      a.snd.snd)).fst.snd.snd
                                                                                                                                            a.snd.snd),
                                                                                                                                          ∀ (a_18 : Bool),
                                                                                                                                            a_18 =
                                                                                                                                                (partR
                                                                                                                                                    (unitR
                                                                                                                                                            (a.fst, a.snd.fst,
                                                                                                                                                              a.snd.snd)).fst.snd.snd
                                                                                                                                                    a.snd.snd).fst →
                                                                                                                                              post (a_18, ()))
                                                                                                                                        (post (Bool.false, ())))
                                                                                                                                (post (Bool.false, ()))))))
                                                                                            (∀ (a_12 : Bool),
                                                                                              a_12 =
                                                                                                  fcmp Go.BinOp.eql
                                                                                                    (Go.FloatKind.f64.format.order
                                                                                                      (lengthR (a.fst, a.snd.fst, a.snd.snd)).fst (0 : Nat)) →
                                                                                                Br a_12
                                                                                                  (∃ (h : True),
                                                                                                    ∃ (h : True),
                                                                                                      ∀ (a_13 : Bool),
                                                                                                        a_13 =
                                                                                                            (alikeR
                                                                                                                ((unitR (a.fst, a.snd.fst, a.snd.snd)).fst.fst,
                                                                                                                  (unitR (a.fst, a.snd.fst, a.snd.snd)).fst.snd.fst,
                                                                                                                  (unitR (a.fst, a.snd.fst, a.snd.snd)).fst.snd.snd)
                                                                                                                (atR (0 : Nat) (0 : Nat) (0 : Nat)).fst).fst →
                                                                                                          post (a_13, ()))
                                                                                                  (∀ (a_13 : Nat),
                                                                                                    FRes Go.FloatKind.f64
                                                                                                        (Go.FloatKind.f64.format.sub
                                                                                                          (lengthR (a.fst, a.snd.fst, a.snd.snd)).fst
                                                                                                          (lengthR (a.fst, a.snd.fst, a.snd.snd)).fst)
                                                                                                        a_13 →
                                                                                                      ∀ (a_14 : Bool),
                                                                                                        a_14 =
                                                                                                            fcmp Go.BinOp.neq
                                                                                                              (Go.FloatKind.f64.format.order a_13 (0 : Nat)) →
                                                                                                          Br a_14
                                                                                                            (∃ (h : True),
                                                                                                              ∃ (h : True),
                                                                                                                ∀ (a_15 : Bool),
                                                                                                                  a_15 =
                                                                                                                      (alikeR
                                                                                                                          ((unitR (a.fst, a.snd.fst, a.snd.snd)).fst.fst,
                                                                                                                            (unitR
                                                                                                                                    (a.fst, a.snd.fst, a.snd.snd)).fst.snd.fst,
                                                                                                                            (unitR
                                                                                                                                    (a.fst, a.snd.fst, a.snd.snd)).fst.snd.snd)
                                                                                                                          (atR (0 : Nat) (0 : Nat) (0 : Nat)).fst).fst →
                                                                                                                    post (a_15, ()))
                                                                                                            (∃ (h :
                                                                                                              W2 (unitR (a.fst, a.snd.fst, a.snd.snd)).fst.fst
                                                                                                                a.fst),
                                                                                                              ∀ (a_15 : Bool),
                                                                                                                a_15 =
                                                                                                                    (partR
                                                                                                                        (unitR (a.fst, a.snd.fst, a.snd.snd)).fst.fst
                                                                                                                        a.fst).fst →
                                                                                                                  Br a_15
                                                                                                                    (∃ (h :
                                                                                                                      W2
                                                                                                                        (unitR (a.fst, a.snd.fst, a.snd.snd)).fst.snd.fst
                                                                                                                        a.snd.fst),
                                                                                                                      ∀ (a_16 : Bool),
                                                                                                                        a_16 =
                                                                                                                            (partR
                                                                                                                                (unitR
                                                                                                                                        (a.fst, a.snd.fst, a.snd.snd)).fst.snd.fst
                                                                                                                                a.snd.fst).fst →
                                                                                                                          Br a_16
                                                                                                                            (∃ (h :
                                                                                                                              W2
                                                                                                                                (unitR
                                                                                                                                        (a.fst, a.snd.fst, a.snd.snd)).fst.snd.snd
                                                                                                                                a.snd.snd),
                                                                                                                              ∀ (a_17 : Bool),
                                                                                                                                a_17 =
                                                                                                                                    (partR
                                                                                                                                        (unitR
                                                                                                                                                (a.fst, a.snd.fst,
                                                                                                                                                  a.snd.snd)).fst.snd.snd
                                                                                                                                        a.snd.snd).fst →
                                                                                                                                  post (a_17, ()))
                                                                                                                            (post (Bool.false, ())))
                                                                                                                    (post (Bool.false, ())))))))))))))
def Yx13 : Cx := ⟨tabOf Ytab, conOf [(27, Yq27), (36, Yq36), (38, Yq38), (45, Yq45), (33, Yq33), (46, Yq46), (47, Yq47), (48, Yq48), (44, Yq44), (28, Yq28), (49, Yq49)], fun _ => none⟩
theorem Yx13_ok : CxOk Try.prog Yx13 := ⟨tabB_sound Ytab_ok, conOf_sound ⟨Yh27, Yh36, Yh38, Yh45, Yh33, Yh46, Yh47, Yh48, Yh44, Yh28, Yh49, trivial⟩⟩
theorem Yat13 : FnAt Try.prog 13 Try.f13.ntmps Try.f13.results.toList (Try.f13.body.getD .skip) := ⟨Try.f13, Try.func13, rfl, rfl, by simp, by decide⟩
theorem Yf13_eq (a : Nat × Nat × Nat) (post : Bool × Unit → Prop) : fnEval Yx13 nHn Try.f13.ntmps Try.f13.results.toList (Try.f13.body.getD .skip) [kVec] [.snap .bool] (a, ()) post = YF13 a post := by kernel_rfl
theorem Yl13 (a : Nat × Nat × Nat) (h : WV a) : YF13 a (fun r => r = trueR1 a) := by
  refine ⟨trivial, ?_⟩
  rintro _ rfl
  refine Br.intro (fun e => by cases e) fun _ => ⟨h, h, trivial, trivial, ?_⟩
  have hs := lengthQ_sgn a
  have hlw := lengthQ_w a
  rintro _ rfl
  refine Br.intro (fun e => (no_not (same_of (canonF_idem _)) e).elim) fun _ => ?_
  rintro _ rfl
  refine Br.intro (fun e => by have e : fcmp .lss (FloatKind.f64.format.order (lengthQ a) 0) = true := e; rw [lss_zero hs] at e; cases e) fun _ => ⟨h.1, ?_⟩
  have rest : ∀ t : Bool, t = fcmp .neq (FloatKind.f64.format.order (lengthQ a) (lengthQ a)) → Br t ((true, ()) = trueR1 a) (∀ t : Bool, t = fcmp .gtr (FloatKind.f64.format.order (lengthQ a) 0) → Br t ((true, ()) = trueR1 a) (∃ h : WV (a.1, a.2.1, a.2.2), ∀ t : Bool, t = (tinyR (a.1, a.2.1, a.2.2)).fst → (t, ()) = trueR1 a)) := by
    rintro _ rfl
    refine Br.intro (fun _ => rfl) fun e => ?_
    have e : isN (lengthQ a) = false := (neq_self _).symm.trans e
    rintro _ rfl
    refine Br.intro (fun _ => rfl) fun g => ⟨h, ?_⟩
    have g : fcmp .gtr (Ieee.double.order (lengthQ a) 0) = false := g
    rw [gt_zero hs, e] at g
    have g : rungOf (lengthQ a) = 0 := by simpa using g
    rintro _ rfl
    exact congrArg r1 (length_tiny e g)
  rintro _ rfl
  refine Br.intro (fun _ => rest) fun g1 => ⟨h.2.1, ?_⟩
  rintro _ rfl
  refine Br.intro (fun _ => rest) fun g2 => ⟨h.2.2, ?_⟩
  rintro _ rfl
  refine Br.intro (fun _ => rest) fun g3 => ?_
  have G1 : Gd a.1 := gd_of (not_not g1)
  have G2 : Gd a.2.1 := gd_of (not_not g2)
  have G3 : Gd a.2.2 := gd_of (not_not g3)
  obtain ⟨ln, l1, l2, l3, l0⟩ := length_good G1 G2 G3
  have hm := max_3 h G1.nn G2.nn G3.nn
  have hml := most_le G1.nn G2.nn G3.nn
  have binf : infR < 9223372036854775808 := by decide
  obtain ⟨ms, mr, mw⟩ := small_sgn (r := most3 a) (by omega)
  have mn : isN (most3 a) = false := by unfold isN; rw [mr]; simp; omega
  have w1 : W64 (maxF a.1 (negF a.1)) := by rw [max_neg h.1 G1.nn]; exact (small_sgn (rung_lt _)).2.2
  have w2 : W64 (maxF a.2.1 (negF a.2.1)) := by rw [max_neg h.2.1 G2.nn]; exact (small_sgn (rung_lt _)).2.2
  have w3 : W64 (maxF a.2.2 (negF a.2.2)) := by rw [max_neg h.2.2 G3.nn]; exact (small_sgn (rung_lt _)).2.2
  have w12 : W64 (maxF (maxF a.1 (negF a.1)) (maxF a.2.1 (negF a.2.1))) := by
    have le : ∀ x, isN x = false → rungOf x ≤ infR := fun x e => by unfold isN at e; simpa using e
    rw [max_neg h.1 G1.nn, max_neg h.2.1 G2.nn, max_pos (le _ G1.nn) (le _ G2.nn)]
    have := rung_lt a.1; have := rung_lt a.2.1
    unfold W64; omega
  refine ⟨⟨h.1, negF_w h.1⟩, ⟨h.2.1, negF_w h.2.1⟩, ⟨w1, w2⟩, ⟨h.2.2, negF_w h.2.2⟩, ⟨w12, w3⟩, ?_⟩
  have hm' : (maxR (maxR (maxR a.1 (Go.Op.negFloat Go.FloatKind.f64 a.1)).fst (maxR a.2.1 (Go.Op.negFloat Go.FloatKind.f64 a.2.1)).fst).fst (maxR a.2.2 (Go.Op.negFloat Go.FloatKind.f64 a.2.2)).fst).fst = most3 a := hm
  rw [hm']
  rintro _ rfl
  have lk : keyOf' (lengthQ a) = rungOf (lengthQ a) := by unfold keyOf'; rw [hs]; rfl
  have mk : keyOf' (most3 a) = most3 a := by unfold keyOf'; rw [ms, mr]; rfl
  have hle : most3 a ≤ rungOf (lengthQ a) := by unfold most3; omega
  refine Br.intro (fun e => ?_) fun _ => ?_
  · have e : fcmp .lss (Ieee.double.order (lengthQ a) (most3 a)) = true := e
    rw [order_eq ln mn, lk, mk] at e
    rcases Int.lt_trichotomy (rungOf (lengthQ a) : Int) (most3 a) with g | g | g
    · omega
    · rw [g, Std.compare_self] at e; cases e
    · rw [Std.compare_eq_gt.2 g] at e; cases e
  rintro _ rfl
  rintro _ rfl
  rintro _ rfl
  refine Br.intro (fun e => ?_) fun _ => ?_
  · have e : (fcmp .eql (Ieee.double.order (most3 a) 0) != fcmp .eql (Ieee.double.order (lengthQ a) 0)) = true := e
    rw [eql_zero, eql_zero, mn, ln, mr] at e
    have q : (most3 a = 0) ↔ (rungOf (lengthQ a) = 0) := by rw [l0]; unfold most3; omega
    simp [q] at e
  refine ⟨trivial, ?_⟩
  have tail : ∀ t : Bool, t = fcmp .eql (FloatKind.f64.format.order (lengthQ a) 0) → Br t (∃ h : True, ∃ h : True, ∀ t : Bool, t = (alikeR ((unitV a).1, (unitV a).2.1, (unitV a).2.2) (atR 0 0 0).fst).fst → (t, ()) = trueR1 a)
      (∀ w : Nat, FRes .f64 (FloatKind.f64.format.sub (lengthQ a) (lengthQ a)) w → ∀ t : Bool, t = fcmp .neq (FloatKind.f64.format.order w 0) → Br t (∃ h : True, ∃ h : True, ∀ t : Bool, t = (alikeR ((unitV a).1, (unitV a).2.1, (unitV a).2.2) (atR 0 0 0).fst).fst → (t, ()) = trueR1 a)
        (∃ h : W2 (unitV a).1 a.1, ∀ t : Bool, t = (partR (unitV a).1 a.1).fst → Br t (∃ h : W2 (unitV a).2.1 a.2.1, ∀ t : Bool, t = (partR (unitV a).2.1 a.2.1).fst → Br t (∃ h : W2 (unitV a).2.2 a.2.2, ∀ t : Bool, t = (partR (unitV a).2.2 a.2.2).fst → (t, ()) = trueR1 a) ((false, ()) = trueR1 a)) ((false, ()) = trueR1 a))) := by
    rintro _ rfl
    refine Br.intro (fun e => ⟨trivial, trivial, ?_⟩) fun e => ?_
    · have e : fcmp .eql (Ieee.double.order (lengthQ a) 0) = true := e
      rw [eql_zero, ln] at e
      have e : rungOf (lengthQ a) = 0 := by simpa using e
      rintro _ rfl
      exact congrArg r1 (alike_of (v := (0, 0, 0)) (unit_zero (by rw [class12]; omega)))
    have e : fcmp .eql (Ieee.double.order (lengthQ a) 0) = false := e
    rw [eql_zero, ln] at e
    have e : rungOf (lengthQ a) ≠ 0 := by simpa using e
    intro w hw
    rintro _ rfl
    refine Br.intro (fun f => ⟨trivial, trivial, ?_⟩) fun f => ?_
    · rintro _ rfl
      refine congrArg r1 (alike_of (v := (0, 0, 0)) (unit_zero ?_))
      rw [class12]
      rintro ⟨_, g⟩
      have f : fcmp .neq (Ieee.double.order w 0) = true := f
      rw [order_quiet (fsub hw).1] at f
      exact neq_out f (sub_self g)
    have f : fcmp .neq (Ieee.double.order w 0) = false := f
    have hf := sub_fin ln (fsub hw).1 f
    have hu : unitV a = (canonF (divQF a.1 (lengthQ a)), canonF (divQF a.2.1 (lengthQ a)), canonF (divQF a.2.2 (lengthQ a))) := by
      unfold unitV; rw [if_pos ((class12 _).2 ⟨e, hf⟩)]; rfl
    rw [hu]
    dsimp only
    refine ⟨⟨canonF_w (divQF_w _ _), h.1⟩, ?_⟩
    rintro _ rfl
    refine Br.intro (fun _ => ⟨⟨canonF_w (divQF_w _ _), h.2.1⟩, ?_⟩) fun g => (no_false (unit_part G1.nn l1 hs hf e) g).elim
    rintro _ rfl
    refine Br.intro (fun _ => ⟨⟨canonF_w (divQF_w _ _), h.2.2⟩, ?_⟩) fun g => (no_false (unit_part G2.nn l2 hs hf e) g).elim
    rintro _ rfl
    exact congrArg r1 (unit_part G3.nn l3 hs hf e)
  rintro _ rfl
  refine Br.intro (fun f => ⟨⟨h.1, W0, W0⟩, ⟨h.1, negF_w h.1⟩, trivial, ?_⟩) fun _ => tail
  have f : fcmp .neq (Ieee.double.order a.1 0) = true := f
  rw [neq_eql, eql_zero, G1.nn] at f
  have f : rungOf a.1 ≠ 0 := by simpa using f
  rintro _ rfl
  exact Br.intro (fun e => (no_not (same_of ((length_axis G1 f).trans (max_neg h.1 G1.nn).symm)) e).elim) fun _ => tail
theorem Yh13 : Yq13.holds Try.prog (fun _ => none) 13 :=
  detP Yx13_ok Ymixed nHn Yat13 (F := fun x post => YF13 x.1 post) (fun x post => Yf13_eq x.1 post) fun x h _ => Yl13 x.1 h
end Go.Lift

/- What a row says of floats. Own work. -/
namespace Go.Lift
theorem rngF {b : Nat} (h : K.rng (.flt .f64) b) : W64 b := by
  have h : (Lit.float .f64 b).wf = true := h
  have := of_decide_eq_true (show decide (b < 2 ^ 64) = true from h)
  exact this
theorem rngV {v : Nat × Nat × Nat} (h : K.rng (.pair (.flt .f64) (.pair (.flt .f64) (.flt .f64))) v) : WV v := ⟨rngF h.1, rngF h.2.1, rngF h.2.2⟩
theorem rngL {l : List Nat} (h : K.rng (.slice (.flt .f64)) l) : WL l := fun x hx => rngF (h x hx)
end Go.Lift

namespace Go.Proofs.Ytkgkckjgdajegaa
open Go.Lift

theorem vecLengths_law : LawSpec Rows.vecLengthsSpec 1 := ⟨rfl, fun H ds h => by
  match ds, h with
  | [d1], _ => rfl⟩
theorem own : ownKnob Try.checked.prog.godebug = none := by kernel_rfl
theorem laidOut : laidOutB Try.checked.prog = true := by kernel_rfl

set_option maxRecDepth 100000 in
theorem vecLengths_lifted (os : Os) (started : os.Started) (H : Type) (enc : TypeId × Value → H) :
    ReturnsInHanded {} Try.checked os 13 .any (Rows.vecLengthsSpec.pre6 enc Try.checked.prog Try.f13 [] false) (Rows.vecLengthsSpec.post enc Try.checked.prog Try.f13 false true false false) :=
  law_handed (C := Try.checked) own started (by kernel_rfl) Try.func13 rfl (by decide)
    (ChangeSpec.witness6 (enc := enc) (C := Try.checked) false ⟨#[], #[.agg #[.float .f64 0, .float .f64 0, .float .f64 0]], []⟩ 12 (by kernel_rfl) (by kernel_rfl) (by kernel_rfl) (by kernel_rfl))
    laidOut (ktsB_sound _ [kVec] (by kernel_rfl)) (by decide +kernel) rfl (by kernel_rfl) vecLengths_law Yh13 (fun x h w => rngV h.1)

theorem vecLengths_holds : Rows.VecLengthsSaid :=
  OpenClaim.holds_of_wide 13 Try.f13 rfl rfl rfl rfl rfl rfl rfl ⟨rfl, rfl, rfl, rfl, rfl⟩ rfl rfl rfl rfl rfl (by kernel_rfl) Try.func13 (by kernel_rfl)
    (of_decide_eq_true (by kernel_rfl)) (by unfold Func.isWrapper; first | (rw [if_pos (by decide +kernel)]; kernel_rfl) | (rw [if_neg (by decide +kernel)]; exact ⟨rfl, rfl⟩))
    (fun os started H enc _ => vecLengths_lifted os started H enc)
end Go.Proofs.Ytkgkckjgdajegaa
