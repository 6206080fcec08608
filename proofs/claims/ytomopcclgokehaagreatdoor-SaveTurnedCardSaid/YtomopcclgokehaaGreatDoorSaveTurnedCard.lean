/- tarnlaw25.SaveTurned: at every input it returns true and leaves the arguments as they were; cube.frames and geom.frames read as the program's text lays them. -/
import Derived.Test.YtomopcclgokehaaGreatDoorTie
import Derived.Test.YtomopcclgokehaaGreatDoorCards
import Derived.Test.YtomopcclgokehaaGreatDoorPtF
set_option linter.unusedVariables false
set_option linter.unusedSimpArgs false
set_option linter.unusedSectionVars false
set_option linter.unusedVariables false
set_option linter.unusedSimpArgs false
namespace Go.Lift
open Go.Proofs
def Nx_law25_SaveTurned : Cx := ⟨tabOf Ntab, conOf [(16, Nq_law25_lives), (17, Nq_save_Encode), (19, Nq_save_Decode), (21, Nq_law25_seas)], NG⟩
theorem Nx_law25_SaveTurned_ok : CxOk Tryz.prog Nx_law25_SaveTurned := ⟨tabB_sound Ntab_ok, conOf_sound ⟨Nh_law25_lives, Nh_save_Encode, Nh_save_Decode, Nh_law25_seas, trivial⟩⟩
theorem Nat_law25_SaveTurned : FnAt Tryz.prog 8 Tryz.f8.ntmps Tryz.f8.results.toList (Tryz.f8.body.getD .skip) := ⟨Tryz.f8, Tryz.func8, rfl, rfl, by simp, by decide⟩
theorem Neq_law25_SaveTurned (n : Int) (s : (List Nat) × (List Int) × (List Int) × (List Nat) × Int × Int) (p : Int) (x : Int) (cut : Int) (more : List Int) (post : Bool × Unit → Prop) : fnEval Nx_law25_SaveTurned Nhn_law25_SaveTurned Tryz.f8.ntmps Tryz.f8.results.toList (Tryz.f8.body.getD .skip) [.int .i64, kSea, .int .i64, .int .u8, .int .i64, .slice (.int .u8)] [.snap .bool] (n, s, p, x, cut, more, ()) post = Fx_law25_SaveTurned 25 n s p x cut more post := by kernel_rfl
theorem Nh_law25_SaveTurned : Nq_law25_SaveTurned.holds Tryz.prog NG 8 :=
  detP Nx_law25_SaveTurned_ok Nmixed Nhn_law25_SaveTurned Nat_law25_SaveTurned (F := fun x post => Fx_law25_SaveTurned 25 x.1 x.2.1 x.2.2.1 x.2.2.2.1 x.2.2.2.2.1 x.2.2.2.2.2.1 post) (fun x post => Neq_law25_SaveTurned x.1 x.2.1 x.2.2.1 x.2.2.2.1 x.2.2.2.2.1 x.2.2.2.2.2.1 post) fun x h w => Lx_law25_SaveTurned 25 x.1 x.2.1 x.2.2.1 x.2.2.2.1 x.2.2.2.2.1 x.2.2.2.2.2.1 h w
end Go.Lift

namespace Go.Proofs.YtomopcclgokehaaGreatDoor
open Go.Lift
theorem saveTurned_law : LawSpec Rows.saveTurnedSpec 6 := ⟨rfl, fun H ds h => by
  match ds, h with
  | [d1, d2, d3, d4, d5, d6], _ => rfl⟩
set_option maxRecDepth 100000 in
theorem saveTurned_lifted (os : Os) (started : os.Started) (H : Type) (enc : TypeId × Value → H) :
    ReturnsInHanded {} Tryz.checked os 8 .any (fun w args => (Rows.saveTurnedSpec.pre enc Tryz.prog Tryz.f8 [] false w args ∧ laidMetH Tryz.prog laidL w) ∧ sizedMet enc Tryz.prog Tryz.f8 (OpenSpec.ofChange Rows.saveTurnedSpec) false w args) (Rows.saveTurnedSpec.post enc Tryz.prog Tryz.f8 false true false false) :=
  law_laid (C := Tryz.checked) (X := fun w _ => laidMetH Tryz.prog laidL w) (fun _ _ _ hh h => h.of_heap hh) (fun w _ h => laid_globs w h) own started (by kernel_rfl) Tryz.func8 rfl (by decide)
    (ChangeSpec.witness_shaped (enc := enc) (C := Tryz.checked) (os := os) (X := fun w _ => laidMetH Tryz.prog laidL w) false (World.doorLaid Tryz.prog 400 os) #[.int .i64 0, .agg #[.slice none 0 0, .slice none 0 0, .slice none 0 0, .slice none 0 0, .int .i64 0, .int .i64 0], .int .i64 0, .int .u8 0, .int .i64 0, .slice none 0 0] 12 rfl (World.shaped_of_RefB (by kernel_rfl) (by kernel_rfl)) (by kernel_rfl) (by kernel_rfl) (by kernel_rfl) (door_met os _))
    laidOut (ktsB_sound _ [.int .i64, kSea, .int .i64, .int .u8, .int .i64, .slice (.int .u8)] (by kernel_rfl)) (by decide +kernel) rfl (by kernel_rfl) saveTurned_law Nh_law25_SaveTurned (fun x h w => ⟨⟨rngI h.1, rngSe h.2.1⟩, rngI h.2.2.1, rngU8 h.2.2.2.1, rngI h.2.2.2.2.1, rngB h.2.2.2.2.2.1⟩)
theorem saveTurned_holds : Rows.SaveTurnedSaid :=
  OpenClaim.holds_of_wide 8 Tryz.f8 rfl rfl rfl rfl rfl rfl rfl ⟨rfl, rfl, rfl, rfl, rfl⟩ rfl rfl rfl rfl rfl (by kernel_rfl) Tryz.func8 (by kernel_rfl)
    (of_decide_eq_true (by kernel_rfl)) (by unfold Func.isWrapper; first | (rw [if_pos (by decide +kernel)]; kernel_rfl) | (rw [if_neg (by decide +kernel)]; exact ⟨rfl, rfl⟩))
    (fun os started H enc _ => saveTurned_lifted os started H enc)
theorem saveTurned_card : Rows.SaveTurnedCardSaid :=
  Claim7.holds_tied_plain_at .later [] [.wider, .data] true (true, "2273f09aaa9b9b1a38ee314dd1dcc464b3e9af4b3fa99a5ece1fa69518c1ab6d") true
    saveTurned_holds (fun _ h => by cases h) (by kernel_rfl) (fun _ h => by cases h) saveTurned_row_tie rfl ⟨rfl, rfl⟩ (by kernel_rfl) rfl
    (fun f fn hf hfn => by
      obtain rfl : f = 8 := Option.some.inj ((show Tryz.prog.funcNamed "tarn/tarnlaw25.SaveTurned" = some 8 by kernel_rfl).symm.trans hf) |>.symm
      obtain rfl : fn = Tryz.f8 := (Option.some.inj (Tryz.func8.symm.trans hfn)).symm
      exact ⟨by kernel_rfl, fun j t ht => by
        rw [Tryz.params8] at ht
        have hm : t ∈ [3, 25, 3, 5, 3, 37] := by simpa using Array.mem_of_getElem? ht
        have hall : ([3, 25, 3, 5, 3, 37].all fun u => !Tryz.prog.wantsStandIn u) = true := by kernel_rfl
        exact (show Tryz.prog.wantsStandIn t = false by simpa using List.all_eq_true.1 hall t hm)⟩)
    (by kernel_rfl)
end Go.Proofs.YtomopcclgokehaaGreatDoor
