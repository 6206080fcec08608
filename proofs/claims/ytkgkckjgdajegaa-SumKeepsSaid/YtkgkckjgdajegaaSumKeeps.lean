/- tarnlaw05.SumKeeps: at every input it returns true. -/
import Derived.Test.YtkgkckjgdajegaaRows
import Derived.ProofKit
import Derived.Test.YtkgkckjgdajegaaPtC
set_option linter.unusedVariables false
set_option linter.unusedSimpArgs false
set_option linter.unusedSectionVars false
/- The law SumKeeps. Own work. -/
set_option linter.unusedVariables false
set_option linter.unusedSimpArgs false
namespace Go.Lift
open Go.Proofs
def YF8 := fun (a : List Nat) (post : Bool × Unit → Prop) =>
  ∃ (h : True),
    ∀ (a_1 : Bool),
      a_1 = trueR0.fst →
        Br (!a_1) (post (Bool.false, ()))
          (∀ (a_2 : Bool),
            a_2 = decide ((↑a.length : Int) > (1048576 : Int)) →
              Br a_2 (post (Bool.true, ()))
                (∃ (h :
                  (0 : Int) ≤ IntKind.i64.wrap ((↑a.length : Int) + (9 : Int)) ∧
                    IntKind.i64.wrap ((↑a.length : Int) + (9 : Int)) ≤ IntKind.i64.wrap ((↑a.length : Int) + (9 : Int)) ∧
                      IntKind.i64.wrap ((↑a.length : Int) + (9 : Int)) * (↑(8 : Nat) : Int) ≤ (281474976710656 : Int)),
                  ((0 : Nat) = (0 : Nat) ∧
                      (IntKind.i64.wrap ((↑a.length : Int) + (9 : Int))).toNat = (List.replicate (IntKind.i64.wrap ((↑a.length : Int) + (9 : Int))).toNat (0 : Nat)).length) ∧
                    HIs [HObj.dead] [HObj.dead] ∧
                      ∃ (I : List Nat × Int × Unit → Unit → Prop),
                        ∃ (μ : List Nat × Int × Unit → Unit → Nat),
                          I (List.replicate (IntKind.i64.wrap ((↑a.length : Int) + (9 : Int))).toNat (0 : Nat), (0 : Int), ()) () ∧
                            ∀ (x : List Nat × Int × Unit) (y : Unit),
                              I x y →
                                ∀ (a_3 : Bool),
                                  a_3 = decide (x.snd.fst < (↑x.fst.length : Int)) →
                                    Br a_3
                                      (∃ (h : (0 : Int) ≤ x.snd.fst ∧ x.snd.fst < (↑x.fst.length : Int)),
                                        ∀ (a_4 : Bool),
                                          a_4 = decide (x.snd.fst < (↑a.length : Int)) →
                                            Br a_4
                                              (∃ (h : (0 : Int) ≤ x.snd.fst ∧ x.snd.fst < (↑a.length : Int)),
                                                ∃ (h : (0 : Int) ≤ x.snd.fst ∧ x.snd.fst < (↑x.fst.length : Int)),
                                                  ((0 : Nat) = (0 : Nat) ∧
                                                      x.fst.length =
                                                        ((x.fst.set ((0 : Nat) + x.snd.fst.toNat) (4635118810238550016 : Nat)).set ((0 : Nat) + x.snd.fst.toNat)
                                                            (a.getD x.snd.fst.toNat (0 : Nat))).length) ∧
                                                    HIs [HObj.dead] [HObj.dead] ∧
                                                      I
                                                          ((x.fst.set ((0 : Nat) + x.snd.fst.toNat) (4635118810238550016 : Nat)).set ((0 : Nat) + x.snd.fst.toNat)
                                                              (a.getD x.snd.fst.toNat (0 : Nat)),
                                                            IntKind.i64.wrap (x.snd.fst + (1 : Int)), ())
                                                          () ∧
                                                        μ
                                                            ((x.fst.set ((0 : Nat) + x.snd.fst.toNat) (4635118810238550016 : Nat)).set ((0 : Nat) + x.snd.fst.toNat)
                                                                (a.getD x.snd.fst.toNat (0 : Nat)),
                                                              IntKind.i64.wrap (x.snd.fst + (1 : Int)), ())
                                                            () <
                                                          μ x y)
                                              (((0 : Nat) = (0 : Nat) ∧ x.fst.length = (x.fst.set ((0 : Nat) + x.snd.fst.toNat) (4635118810238550016 : Nat)).length) ∧
                                                HIs [HObj.dead] [HObj.dead] ∧
                                                  I (x.fst.set ((0 : Nat) + x.snd.fst.toNat) (4635118810238550016 : Nat), IntKind.i64.wrap (x.snd.fst + (1 : Int)), ()) () ∧
                                                    μ (x.fst.set ((0 : Nat) + x.snd.fst.toNat) (4635118810238550016 : Nat), IntKind.i64.wrap (x.snd.fst + (1 : Int)), ()) () <
                                                      μ x y))
                                      (∃ (h : (0 : Int) ≤ (0 : Int) ∧ (0 : Int) ≤ (↑a.length : Int) ∧ (↑a.length : Int) ≤ (↑x.fst.length : Int)),
                                        ∃ (h : WL (List.take ((↑a.length : Int) - (0 : Int)).toNat (List.drop ((0 : Nat) + Int.toNat (0 : Int)) x.fst))),
                                          ∃ (h : WL (List.take ((↑a.length : Int) - (0 : Int)).toNat (List.drop ((0 : Nat) + Int.toNat (0 : Int)) x.fst))),
                                            ∃ (h : WL (List.take ((↑a.length : Int) - (0 : Int)).toNat (List.drop ((0 : Nat) + Int.toNat (0 : Int)) x.fst))),
                                              HIs [HObj.dead, HObj.row Md.rw (25 : Nat) (K.flt Go.FloatKind.f64) x.fst]
                                                  [HObj.dead, HObj.row Md.rw (25 : Nat) (K.flt Go.FloatKind.f64) x.fst] ∧
                                                ∃ (I : Int × Unit → Unit → Prop),
                                                  ∃ (μ : Int × Unit → Unit → Nat),
                                                    I ((0 : Int), ()) () ∧
                                                      ∀ (x_3 : Int × Unit) (y : Unit),
                                                        I x_3 y →
                                                          ∀ (a_4 : Bool),
                                                            a_4 = decide (x_3.fst < (↑x.fst.length : Int)) →
                                                              Br a_4
                                                                (∀ (a_5 : Bool),
                                                                  a_5 = decide (x_3.fst < (↑a.length : Int)) →
                                                                    Br a_5
                                                                      (∃ (h : (0 : Int) ≤ x_3.fst ∧ x_3.fst < (↑x.fst.length : Int)),
                                                                        ∃ (h : (0 : Int) ≤ x_3.fst ∧ x_3.fst < (↑a.length : Int)),
                                                                          ∃ (h : True),
                                                                            ∀ (a_6 : Bool),
                                                                              a_6 =
                                                                                  (sameR (x.fst.getD ((0 : Nat) + x_3.fst.toNat) (0 : Nat))
                                                                                      (a.getD x_3.fst.toNat (0 : Nat))).fst →
                                                                                Br (!a_6) (post (Bool.false, ()))
                                                                                  (∀ (a_7 : Bool),
                                                                                    a_7 = decide (x_3.fst ≥ (↑a.length : Int)) →
                                                                                      Br a_7
                                                                                        (∃ (h : (0 : Int) ≤ x_3.fst ∧ x_3.fst < (↑x.fst.length : Int)),
                                                                                          ∀ (a : Bool),
                                                                                            a =
                                                                                                fcmp Go.BinOp.neq
                                                                                                  (Go.FloatKind.f64.format.order (x.fst.getD ((0 : Nat) + x_3.fst.toNat) (0 : Nat))
                                                                                                    (4635118810238550016 : Nat)) →
                                                                                              Br a (post (Bool.false, ()))
                                                                                                (HIs
                                                                                                    [HObj.dead,
                                                                                                      HObj.row Md.rw (25 : Nat) (K.flt Go.FloatKind.f64)
                                                                                                        x.fst]
                                                                                                    [HObj.dead,
                                                                                                      HObj.row Md.rw (25 : Nat) (K.flt Go.FloatKind.f64)
                                                                                                        x.fst] ∧
                                                                                                  I (IntKind.i64.wrap (x_3.fst + (1 : Int)), ()) () ∧
                                                                                                    μ (IntKind.i64.wrap (x_3.fst + (1 : Int)), ()) () < μ x_3 y))
                                                                                        (HIs
                                                                                            [HObj.dead,
                                                                                              HObj.row Md.rw (25 : Nat) (K.flt Go.FloatKind.f64) x.fst]
                                                                                            [HObj.dead,
                                                                                              HObj.row Md.rw (25 : Nat) (K.flt Go.FloatKind.f64) x.fst] ∧
                                                                                          I (IntKind.i64.wrap (x_3.fst + (1 : Int)), ()) () ∧
                                                                                            μ (IntKind.i64.wrap (x_3.fst + (1 : Int)), ()) () < μ x_3 y)))
                                                                      (∀ (a_6 : Bool),
                                                                        a_6 = decide (x_3.fst ≥ (↑a.length : Int)) →
                                                                          Br a_6
                                                                            (∃ (h : (0 : Int) ≤ x_3.fst ∧ x_3.fst < (↑x.fst.length : Int)),
                                                                              ∀ (a : Bool),
                                                                                a =
                                                                                    fcmp Go.BinOp.neq
                                                                                      (Go.FloatKind.f64.format.order (x.fst.getD ((0 : Nat) + x_3.fst.toNat) (0 : Nat))
                                                                                        (4635118810238550016 : Nat)) →
                                                                                  Br a (post (Bool.false, ()))
                                                                                    (HIs
                                                                                        [HObj.dead,
                                                                                          HObj.row Md.rw (25 : Nat) (K.flt Go.FloatKind.f64) x.fst]
                                                                                        [HObj.dead,
                                                                                          HObj.row Md.rw (25 : Nat) (K.flt Go.FloatKind.f64) x.fst] ∧
                                                                                      I (IntKind.i64.wrap (x_3.fst + (1 : Int)), ()) () ∧
                                                                                        μ (IntKind.i64.wrap (x_3.fst + (1 : Int)), ()) () < μ x_3 y))
                                                                            (HIs
                                                                                [HObj.dead,
                                                                                  HObj.row Md.rw (25 : Nat) (K.flt Go.FloatKind.f64) x.fst]
                                                                                [HObj.dead,
                                                                                  HObj.row Md.rw (25 : Nat) (K.flt Go.FloatKind.f64) x.fst] ∧
                                                                              I (IntKind.i64.wrap (x_3.fst + (1 : Int)), ()) () ∧
                                                                                μ (IntKind.i64.wrap (x_3.fst + (1 : Int)), ()) () < μ x_3 y)))
                                                                (∃ (h : WL a),
                                                                  ∃ (h : True),
                                                                    ∀ (a_5 : Bool),
                                                                      a_5 =
                                                                          (sameR
                                                                              (rowR
                                                                                  (List.take ((↑a.length : Int) - (0 : Int)).toNat
                                                                                    (List.drop ((0 : Nat) + Int.toNat (0 : Int)) x.fst))).fst
                                                                              (rowR a).fst).fst →
                                                                        Br a_5
                                                                          (∃ (h : WL a),
                                                                            ∃ (h : True),
                                                                              ∀ (a_6 : Bool),
                                                                                a_6 =
                                                                                    (sameR
                                                                                        (pairsR
                                                                                            (List.take ((↑a.length : Int) - (0 : Int)).toNat
                                                                                              (List.drop ((0 : Nat) + Int.toNat (0 : Int)) x.fst))).fst
                                                                                        (pairsR a).fst).fst →
                                                                                  Br a_6
                                                                                    (∃ (h : WL a),
                                                                                      ∃ (h : True),
                                                                                        ∀ (a_7 : Bool),
                                                                                          a_7 =
                                                                                              (sameR
                                                                                                  (carefulR
                                                                                                      (List.take ((↑a.length : Int) - (0 : Int)).toNat
                                                                                                        (List.drop ((0 : Nat) + Int.toNat (0 : Int)) x.fst))).fst
                                                                                                  (carefulR a).fst).fst →
                                                                                            post (a_7, ()))
                                                                                    (post (Bool.false, ())))
                                                                          (post (Bool.false, ()))))))
def Yx8 : Cx := ⟨tabOf Ytab, conOf [(14, Yq14), (16, Yq16), (18, Yq18), (20, Yq20), (15, Yq15)], fun _ => none⟩
theorem Yx8_ok : CxOk Try.prog Yx8 := ⟨tabB_sound Ytab_ok, conOf_sound ⟨Yh14, Yh16, Yh18, Yh20, Yh15, trivial⟩⟩
theorem Yat8 : FnAt Try.prog 8 Try.f8.ntmps Try.f8.results.toList (Try.f8.body.getD .skip) := ⟨Try.f8, Try.func8, rfl, rfl, by simp, by decide⟩
theorem Yf8_eq (a : List Nat) (post : Bool × Unit → Prop) : fnEval Yx8 Yhn8 Try.f8.ntmps Try.f8.results.toList (Try.f8.body.getD .skip) [.slice (.flt .f64)] [.snap .bool] (a, ()) post = YF8 a post := by kernel_rfl
theorem Yl8 (a : List Nat) (h : WL a) (w : KS.wf [.slice (.flt .f64)] (a, ())) : YF8 a (fun r => r = trueR1 a) := by
  have hl : a.length ≤ maxN := w.1.1
  unfold maxN at hl
  refine ⟨trivial, ?_⟩
  rintro _ rfl
  refine Br.intro (fun e => by cases e) fun _ => ?_
  rintro _ rfl
  refine Br.intro (fun _ => rfl) fun la => ?_
  have la : a.length ≤ 1048576 := by have := of_decide_eq_false la; omega
  have hn : IntKind.i64.wrap ((a.length : Int) + 9) = (a.length : Int) + 9 := wi ⟨by omega, by omega⟩
  have hn2 : ((a.length : Int) + 9).toNat = a.length + 9 := by omega
  rw [hn, hn2]
  refine ⟨⟨by omega, by omega, by omega⟩, ⟨rfl, by simp⟩, rfl, fun x _ => ∃ i : Nat, x.2.1 = i ∧ x.1.length = a.length + 9 ∧ i ≤ a.length + 9 ∧ ∀ j, j < i → x.1.getD j 0 = gK a j, fun x _ => a.length + 9 - x.2.1.toNat, ⟨0, rfl, by simp, by omega, fun j hj => absurd hj (Nat.not_lt_zero _)⟩, ?_⟩
  rintro ⟨X, _, ⟨⟩⟩ _ ⟨i, hi, hX, hil, hj⟩
  dsimp only at hi hX hj
  subst hi
  dsimp only
  rintro _ rfl
  refine Br.intro (fun f => ?_) fun f => ?_
  · have f : i < a.length + 9 := by have := of_decide_eq_true f; omega
    refine ⟨⟨by omega, by omega⟩, ?_⟩
    have hp : IntKind.i64.wrap ((i : Int) + 1) = (i : Int) + 1 := wi ⟨by omega, by omega⟩
    rw [hp, Int.toNat_natCast, Nat.zero_add]
    rintro _ rfl
    refine Br.intro (fun g => ?_) fun g => ?_
    · have g : i < a.length := by have := of_decide_eq_true g; omega
      refine ⟨⟨by omega, by omega⟩, ⟨by omega, by omega⟩, ⟨rfl, by simp⟩, rfl, ⟨i + 1, by omega, by simp [hX], by omega, fun j hlt => ?_⟩, by omega⟩
      by_cases e : j = i
      · subst e; rw [set_same' (by rw [List.length_set]; omega)]; unfold gK; rw [if_pos g]
      · rw [set_other (by omega), set_other (by omega)]; exact hj j (by omega)
    · have g : ¬ i < a.length := by have := of_decide_eq_false g; omega
      refine ⟨⟨rfl, by simp⟩, rfl, ⟨i + 1, by omega, by simp [hX], by omega, fun j hlt => ?_⟩, by omega⟩
      by_cases e : j = i
      · subst e; rw [set_same' (by omega)]; unfold gK; rw [if_neg g]
      · rw [set_other (by omega)]; exact hj j (by omega)
  · have f : i = a.length + 9 := by have := of_decide_eq_false f; omega
    have et : List.take ((a.length : Int) - 0).toNat (List.drop (0 + Int.toNat 0) X) = a := by
      show List.take _ (List.drop 0 X) = a
      rw [List.drop_zero, show ((a.length : Int) - 0).toNat = a.length by omega]
      exact take_eq (by omega) (fun j hlt => by rw [hj j (by omega)]; unfold gK; rw [if_pos hlt])
    rw [et]
    refine ⟨⟨by omega, by omega, by omega⟩, h, h, h, rfl, fun x _ => ∃ k : Nat, x.1 = k ∧ k ≤ a.length + 9, fun x _ => a.length + 9 - x.1.toNat, ⟨0, rfl, by omega⟩, ?_⟩
    rintro ⟨_, ⟨⟩⟩ _ ⟨k, hk, hkl⟩
    dsimp only at hk
    subst hk
    dsimp only
    rintro _ rfl
    refine Br.intro (fun q => ?_) fun q => ?_
    · have q : k < a.length + 9 := by have := of_decide_eq_true q; omega
      have hp : IntKind.i64.wrap ((k : Int) + 1) = (k : Int) + 1 := wi ⟨by omega, by omega⟩
      rw [hp, Int.toNat_natCast, Nat.zero_add, hj k (by omega)]
      rintro _ rfl
      refine Br.intro (fun g => ?_) fun g => ?_
      · have g : k < a.length := by have := of_decide_eq_true g; omega
        refine ⟨⟨by omega, by omega⟩, ⟨by omega, by omega⟩, trivial, ?_⟩
        rintro _ rfl
        refine Br.intro (fun e => (no_not (same_of (u := gK a k) (v := a.getD k 0) (by unfold gK; rw [if_pos g])) e).elim) fun _ => ?_
        rintro _ rfl
        refine Br.intro (fun e => ?_) fun _ => ⟨rfl, ⟨k + 1, by omega, by omega⟩, by omega⟩
        exact absurd (of_decide_eq_true e) (by omega)
      · have g : ¬ k < a.length := by have := of_decide_eq_false g; omega
        have ek : gK a k = 4635118810238550016 := by unfold gK; rw [if_neg g]
        rw [ek]
        rintro _ rfl
        refine Br.intro (fun _ => ⟨⟨by omega, by omega⟩, ?_⟩) fun _ => ⟨rfl, ⟨k + 1, by omega, by omega⟩, by omega⟩
        rintro _ rfl
        refine Br.intro (fun e => ?_) fun _ => ⟨rfl, ⟨k + 1, by omega, by omega⟩, by omega⟩
        exact (no_false ((neq_self 4635118810238550016).symm.trans e) (by decide)).elim
    · refine ⟨h, trivial, ?_⟩
      rintro _ rfl
      refine Br.intro (fun _ => ⟨h, trivial, ?_⟩) (fun e => (no_false (same_self _) e).elim)
      rintro _ rfl
      refine Br.intro (fun _ => ⟨h, trivial, ?_⟩) (fun e => (no_false (same_self _) e).elim)
      rintro _ rfl
      exact congrArg r1 (same_self _)
theorem Yh8 : Yq8.holds Try.prog (fun _ => none) 8 :=
  detP Yx8_ok Ymixed Yhn8 Yat8 (F := fun x post => YF8 x.1 post) (fun x post => Yf8_eq x.1 post) fun x h w => Yl8 x.1 h w
end Go.Lift

/- What a row says of floats. Own work. -/
namespace Go.Lift
theorem rngF {b : Nat} (h : K.rng (.flt .f64) b) : W64 b := by
  have h : (Lit.float .f64 b).wf = true := h
  have := of_decide_eq_true (show decide (b < 2 ^ 64) = true from h)
  exact this
theorem rngV {v : Nat × Nat × Nat} (h : K.rng (.pair (.flt .f64) (.pair (.flt .f64) (.flt .f64))) v) : WV v := ⟨rngF h.1, rngF h.2.1, rngF h.2.2⟩
theorem rngL {l : List Nat} (h : K.rng (.slice (.flt .f64)) l) : WL l := fun x hx => rngF (h x hx)
end Go.Lift

namespace Go.Proofs.Ytkgkckjgdajegaa
open Go.Lift

theorem sumKeeps_law : LawSpec Rows.sumKeepsSpec 1 := ⟨rfl, fun H ds h => by
  match ds, h with
  | [d1], _ => rfl⟩
theorem own : ownKnob Try.checked.prog.godebug = none := by kernel_rfl
theorem laidOut : laidOutB Try.checked.prog = true := by kernel_rfl

set_option maxRecDepth 100000 in
theorem sumKeeps_lifted (os : Os) (started : os.Started) (H : Type) (enc : TypeId × Value → H) :
    ReturnsInHanded {} Try.checked os 8 .any (Rows.sumKeepsSpec.pre6 enc Try.checked.prog Try.f8 [] false) (Rows.sumKeepsSpec.post enc Try.checked.prog Try.f8 false true false false) :=
  law_handed (C := Try.checked) own started (by kernel_rfl) Try.func8 rfl (by decide)
    (ChangeSpec.witness6 (enc := enc) (C := Try.checked) false ⟨#[], #[.slice none 0 0], []⟩ 12 (by kernel_rfl) (by kernel_rfl) (by kernel_rfl) (by kernel_rfl))
    laidOut (ktsB_sound _ [.slice (.flt .f64)] (by kernel_rfl)) (by decide +kernel) rfl (by kernel_rfl) sumKeeps_law Yh8 (fun x h w => rngL h.1)

theorem sumKeeps_holds : Rows.SumKeepsSaid :=
  OpenClaim.holds_of_wide 8 Try.f8 rfl rfl rfl rfl rfl rfl rfl ⟨rfl, rfl, rfl, rfl, rfl⟩ rfl rfl rfl rfl rfl (by kernel_rfl) Try.func8 (by kernel_rfl)
    (of_decide_eq_true (by kernel_rfl)) (by unfold Func.isWrapper; first | (rw [if_pos (by decide +kernel)]; kernel_rfl) | (rw [if_neg (by decide +kernel)]; exact ⟨rfl, rfl⟩))
    (fun os started H enc _ => sumKeeps_lifted os started H enc)
end Go.Proofs.Ytkgkckjgdajegaa
