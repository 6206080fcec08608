/- tarnlaw25.SaveSum: at every input it returns true and leaves the arguments as they were; cube.frames and geom.frames read as the program's text lays them. -/
import Derived.Test.YtomopcclgokehaaGreatDoorTie
import Derived.Test.YtomopcclgokehaaGreatDoorCards
import Derived.Test.YtomopcclgokehaaGreatDoorPtF
set_option linter.unusedVariables false
set_option linter.unusedSimpArgs false
set_option linter.unusedSectionVars false
set_option linter.unusedVariables false
set_option linter.unusedSimpArgs false
namespace Go.Lift
open Go.Proofs
def Nx_law25_SaveSum : Cx := ⟨tabOf Ntab, conOf [(16, Nq_law25_lives), (22, Nq_save_Sum)], NG⟩
theorem Nx_law25_SaveSum_ok : CxOk Tryz.prog Nx_law25_SaveSum := ⟨tabB_sound Ntab_ok, conOf_sound ⟨Nh_law25_lives, Nh_save_Sum, trivial⟩⟩
theorem Nat_law25_SaveSum : FnAt Tryz.prog 9 Tryz.f9.ntmps Tryz.f9.results.toList (Tryz.f9.body.getD .skip) := ⟨Tryz.f9, Tryz.func9, rfl, rfl, by simp, by decide⟩
theorem Neq_law25_SaveSum (b : List Int) (c : List Int) (p : Int) (x : Int) (post : Bool × Unit → Prop) : fnEval Nx_law25_SaveSum Nhn_law25_SaveSum Tryz.f9.ntmps Tryz.f9.results.toList (Tryz.f9.body.getD .skip) [.slice (.int .u8), .slice (.int .u8), .int .i64, .int .u8] [.snap .bool] (b, c, p, x, ()) post = Fx_law25_SaveSum  b c p x post := by kernel_rfl
theorem Nh_law25_SaveSum : Nq_law25_SaveSum.holds Tryz.prog NG 9 :=
  detP Nx_law25_SaveSum_ok Nmixed Nhn_law25_SaveSum Nat_law25_SaveSum (F := fun x post => Fx_law25_SaveSum  x.1 x.2.1 x.2.2.1 x.2.2.2.1 post) (fun x post => Neq_law25_SaveSum x.1 x.2.1 x.2.2.1 x.2.2.2.1 post) fun x h w => Lx_law25_SaveSum  x.1 x.2.1 x.2.2.1 x.2.2.2.1 h w
end Go.Lift

namespace Go.Proofs.YtomopcclgokehaaGreatDoor
open Go.Lift
theorem saveSum_law : LawSpec Rows.saveSumSpec 4 := ⟨rfl, fun H ds h => by
  match ds, h with
  | [d1, d2, d3, d4], _ => rfl⟩
set_option maxRecDepth 100000 in
theorem saveSum_lifted (os : Os) (started : os.Started) (H : Type) (enc : TypeId × Value → H) :
    ReturnsInHanded {} Tryz.checked os 9 .any (fun w args => (Rows.saveSumSpec.pre enc Tryz.prog Tryz.f9 [] false w args ∧ laidMetH Tryz.prog laidL w) ∧ sizedMet enc Tryz.prog Tryz.f9 (OpenSpec.ofChange Rows.saveSumSpec) false w args) (Rows.saveSumSpec.post enc Tryz.prog Tryz.f9 false true false false) :=
  law_laid (C := Tryz.checked) (X := fun w _ => laidMetH Tryz.prog laidL w) (fun _ _ _ hh h => h.of_heap hh) (fun w _ h => laid_globs w h) own started (by kernel_rfl) Tryz.func9 rfl (by decide)
    (ChangeSpec.witness_shaped (enc := enc) (C := Tryz.checked) (os := os) (X := fun w _ => laidMetH Tryz.prog laidL w) false (World.doorLaid Tryz.prog 400 os) #[.slice none 0 0, .slice none 0 0, .int .i64 0, .int .u8 0] 12 rfl (World.shaped_of_RefB (by kernel_rfl) (by kernel_rfl)) (by kernel_rfl) (by kernel_rfl) (by kernel_rfl) (door_met os _))
    laidOut (ktsB_sound _ [.slice (.int .u8), .slice (.int .u8), .int .i64, .int .u8] (by kernel_rfl)) (by decide +kernel) rfl (by kernel_rfl) saveSum_law Nh_law25_SaveSum (fun x h w => ⟨rngB h.1, rngB h.2.1, rngI h.2.2.1, rngU8 h.2.2.2.1⟩)
theorem saveSum_holds : Rows.SaveSumSaid :=
  OpenClaim.holds_of_wide 9 Tryz.f9 rfl rfl rfl rfl rfl rfl rfl ⟨rfl, rfl, rfl, rfl, rfl⟩ rfl rfl rfl rfl rfl (by kernel_rfl) Tryz.func9 (by kernel_rfl)
    (of_decide_eq_true (by kernel_rfl)) (by unfold Func.isWrapper; first | (rw [if_pos (by decide +kernel)]; kernel_rfl) | (rw [if_neg (by decide +kernel)]; exact ⟨rfl, rfl⟩))
    (fun os started H enc _ => saveSum_lifted os started H enc)
theorem saveSum_card : Rows.SaveSumCardSaid :=
  Claim7.holds_tied_plain_at .later [] [.wider, .data] true (true, "2273f09aaa9b9b1a38ee314dd1dcc464b3e9af4b3fa99a5ece1fa69518c1ab6d") true
    saveSum_holds (fun _ h => by cases h) (by kernel_rfl) (fun _ h => by cases h) saveSum_row_tie rfl ⟨rfl, rfl⟩ (by kernel_rfl) rfl
    (fun f fn hf hfn => by
      obtain rfl : f = 9 := Option.some.inj ((show Tryz.prog.funcNamed "tarn/tarnlaw25.SaveSum" = some 9 by kernel_rfl).symm.trans hf) |>.symm
      obtain rfl : fn = Tryz.f9 := (Option.some.inj (Tryz.func9.symm.trans hfn)).symm
      exact ⟨by kernel_rfl, fun j t ht => by
        rw [Tryz.params9] at ht
        have hm : t ∈ [37, 37, 3, 5] := by simpa using Array.mem_of_getElem? ht
        have hall : ([37, 37, 3, 5].all fun u => !Tryz.prog.wantsStandIn u) = true := by kernel_rfl
        exact (show Tryz.prog.wantsStandIn t = false by simpa using List.all_eq_true.1 hall t hm)⟩)
    (by kernel_rfl)
end Go.Proofs.YtomopcclgokehaaGreatDoor
