/- tarnlaw25.SaveForth: at every input it returns true and leaves the arguments as they were; cube.frames and geom.frames read as the program's text lays them. -/
import Derived.Test.YtomopcclgokehaaGreatDoorTie
import Derived.Test.YtomopcclgokehaaGreatDoorCards
import Derived.Test.YtomopcclgokehaaGreatDoorPtF
set_option linter.unusedVariables false
set_option linter.unusedSimpArgs false
set_option linter.unusedSectionVars false
set_option linter.unusedVariables false
set_option linter.unusedSimpArgs false
namespace Go.Lift
open Go.Proofs
def Nx_law25_SaveForth : Cx := ⟨tabOf Ntab, conOf [(16, Nq_law25_lives), (19, Nq_save_Decode), (21, Nq_law25_seas), (24, Nq_state_Check), (17, Nq_save_Encode)], NG⟩
theorem Nx_law25_SaveForth_ok : CxOk Tryz.prog Nx_law25_SaveForth := ⟨tabB_sound Ntab_ok, conOf_sound ⟨Nh_law25_lives, Nh_save_Decode, Nh_law25_seas, Nh_state_Check, Nh_save_Encode, trivial⟩⟩
theorem Nat_law25_SaveForth : FnAt Tryz.prog 7 Tryz.f7.ntmps Tryz.f7.results.toList (Tryz.f7.body.getD .skip) := ⟨Tryz.f7, Tryz.func7, rfl, rfl, by simp, by decide⟩
theorem Neq_law25_SaveForth (b : List Int) (post : Bool × Unit → Prop) : fnEval Nx_law25_SaveForth Nhn_law25_SaveForth Tryz.f7.ntmps Tryz.f7.results.toList (Tryz.f7.body.getD .skip) [.slice (.int .u8)] [.snap .bool] (b, ()) post = Fx_law25_SaveForth  b post := by kernel_rfl
theorem Nh_law25_SaveForth : Nq_law25_SaveForth.holds Tryz.prog NG 7 :=
  detP Nx_law25_SaveForth_ok Nmixed Nhn_law25_SaveForth Nat_law25_SaveForth (F := fun x post => Fx_law25_SaveForth  x.1 post) (fun x post => Neq_law25_SaveForth x.1 post) fun x h w => Lx_law25_SaveForth  x.1 h w
end Go.Lift

namespace Go.Proofs.YtomopcclgokehaaGreatDoor
open Go.Lift
theorem saveForth_law : LawSpec Rows.saveForthSpec 1 := ⟨rfl, fun H ds h => by
  match ds, h with
  | [d1], _ => rfl⟩
set_option maxRecDepth 100000 in
theorem saveForth_lifted (os : Os) (started : os.Started) (H : Type) (enc : TypeId × Value → H) :
    ReturnsInHanded {} Tryz.checked os 7 .any (fun w args => (Rows.saveForthSpec.pre enc Tryz.prog Tryz.f7 [] false w args ∧ laidMetH Tryz.prog laidL w) ∧ sizedMet enc Tryz.prog Tryz.f7 (OpenSpec.ofChange Rows.saveForthSpec) false w args) (Rows.saveForthSpec.post enc Tryz.prog Tryz.f7 false true false false) :=
  law_laid (C := Tryz.checked) (X := fun w _ => laidMetH Tryz.prog laidL w) (fun _ _ _ hh h => h.of_heap hh) (fun w _ h => laid_globs w h) own started (by kernel_rfl) Tryz.func7 rfl (by decide)
    (ChangeSpec.witness_shaped (enc := enc) (C := Tryz.checked) (os := os) (X := fun w _ => laidMetH Tryz.prog laidL w) false (World.doorLaid Tryz.prog 400 os) #[.slice none 0 0] 12 rfl (World.shaped_of_RefB (by kernel_rfl) (by kernel_rfl)) (by kernel_rfl) (by kernel_rfl) (by kernel_rfl) (door_met os _))
    laidOut (ktsB_sound _ [.slice (.int .u8)] (by kernel_rfl)) (by decide +kernel) rfl (by kernel_rfl) saveForth_law Nh_law25_SaveForth (fun x h w => rngB h.1)
theorem saveForth_holds : Rows.SaveForthSaid :=
  OpenClaim.holds_of_wide 7 Tryz.f7 rfl rfl rfl rfl rfl rfl rfl ⟨rfl, rfl, rfl, rfl, rfl⟩ rfl rfl rfl rfl rfl (by kernel_rfl) Tryz.func7 (by kernel_rfl)
    (of_decide_eq_true (by kernel_rfl)) (by unfold Func.isWrapper; first | (rw [if_pos (by decide +kernel)]; kernel_rfl) | (rw [if_neg (by decide +kernel)]; exact ⟨rfl, rfl⟩))
    (fun os started H enc _ => saveForth_lifted os started H enc)
theorem saveForth_card : Rows.SaveForthCardSaid :=
  Claim7.holds_tied_plain_at .later [] [.wider, .data] true (true, "2273f09aaa9b9b1a38ee314dd1dcc464b3e9af4b3fa99a5ece1fa69518c1ab6d") true
    saveForth_holds (fun _ h => by cases h) (by kernel_rfl) (fun _ h => by cases h) saveForth_row_tie rfl ⟨rfl, rfl⟩ (by kernel_rfl) rfl
    (fun f fn hf hfn => by
      obtain rfl : f = 7 := Option.some.inj ((show Tryz.prog.funcNamed "tarn/tarnlaw25.SaveForth" = some 7 by kernel_rfl).symm.trans hf) |>.symm
      obtain rfl : fn = Tryz.f7 := (Option.some.inj (Tryz.func7.symm.trans hfn)).symm
      exact ⟨by kernel_rfl, fun j t ht => by
        rw [Tryz.params7] at ht
        have hm : t ∈ [37] := by simpa using Array.mem_of_getElem? ht
        have hall : ([37].all fun u => !Tryz.prog.wantsStandIn u) = true := by kernel_rfl
        exact (show Tryz.prog.wantsStandIn t = false by simpa using List.all_eq_true.1 hall t hm)⟩)
    (by kernel_rfl)
end Go.Proofs.YtomopcclgokehaaGreatDoor
