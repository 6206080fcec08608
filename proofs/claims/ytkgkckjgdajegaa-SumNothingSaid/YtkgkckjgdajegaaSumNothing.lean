/- tarnlaw05.SumNothing: at every input it returns true. -/
import Derived.Test.YtkgkckjgdajegaaRows
import Derived.ProofKit
import Derived.Test.YtkgkckjgdajegaaPtC
set_option linter.unusedVariables false
set_option linter.unusedSimpArgs false
set_option linter.unusedSectionVars false
/- The laws SumThree, SumNothing. Own work. -/
set_option linter.unusedVariables false
set_option linter.unusedSimpArgs false
namespace Go.Lift
open Go.Proofs
def RestP (b : Nat) (P Q : Prop) : Prop := ∀ t : Bool, t = fcmp Go.BinOp.neq (Go.FloatKind.f64.format.order b b) → Br t P (∀ w : Nat, FRes Go.FloatKind.f64 (Go.FloatKind.f64.format.sub b b) w → ∀ t : Bool, t = fcmp Go.BinOp.neq (Go.FloatKind.f64.format.order w 0) → Br t P (∃ h : W3 b 0 (Go.Op.negFloat Go.FloatKind.f64 b), ∀ t : Bool, t = fcmp Go.BinOp.eql (Go.FloatKind.f64.format.order (threeR b 0 (Go.Op.negFloat Go.FloatKind.f64 b)).fst 0) → Br t (∃ h : W3 b 0 0, ∀ t : Bool, t = fcmp Go.BinOp.eql (Go.FloatKind.f64.format.order (threeR b 0 0).fst b) → Br t (∃ h : WL [b], ∀ t : Bool, t = fcmp Go.BinOp.eql (Go.FloatKind.f64.format.order (carefulR [b]).fst b) → (t, ()) = r1 true) Q) Q))
def CarP (a : List Nat) (Q R : Prop) : Prop := ∀ t : Bool, t = fcmp Go.BinOp.neq (Go.FloatKind.f64.format.order (carefulR a).fst 0) → Br t (∃ h : WL (a ++ [0]), ∃ h : True, ∀ t : Bool, t = (sameR (carefulR (a ++ [0])).fst (carefulR a).fst).fst → Br (!t) Q R) R
def YF4 := fun (a b c : Nat) (post : Bool × Unit → Prop) =>
  ∃ (h : True),
    ∀ (a_1 : Bool),
      a_1 = trueR0.fst →
        Br (!a_1) (post (Bool.false, ()))
          (∃ (h : W3 a b c),
            ∃ (h : W3 a c b),
              ∃ (h : True),
                ∀ (a_2 : Bool),
                  a_2 = (sameR (threeR a b c).fst (threeR a c b).fst).fst →
                    Br (!a_2) (post (Bool.false, ()))
                      (∃ (h : W3 b a c),
                        ∃ (h : True),
                          ∀ (a_3 : Bool),
                            a_3 = (sameR (threeR a b c).fst (threeR b a c).fst).fst →
                              Br (!a_3) (post (Bool.false, ()))
                                (∃ (h : W3 b c a),
                                  ∃ (h : True),
                                    ∀ (a_4 : Bool),
                                      a_4 = (sameR (threeR a b c).fst (threeR b c a).fst).fst →
                                        Br (!a_4) (post (Bool.false, ()))
                                          (∃ (h : W3 c a b),
                                            ∃ (h : True),
                                              ∀ (a_5 : Bool),
                                                a_5 = (sameR (threeR a b c).fst (threeR c a b).fst).fst →
                                                  Br (!a_5) (post (Bool.false, ()))
                                                    (∃ (h : W3 c b a),
                                                      ∃ (h : True),
                                                        ∀ (a_6 : Bool),
                                                          a_6 = (sameR (threeR a b c).fst (threeR c b a).fst).fst →
                                                            Br (!a_6) (post (Bool.false, ()))
                                                              (∀ (a_7 : Bool),
                                                                a_7 = fcmp Go.BinOp.neq (Go.FloatKind.f64.format.order a a) →
                                                                  Br a_7
                                                                    (∃ (h : True),
                                                                      ∀ (a_8 : Bool),
                                                                        a_8 = ((bitsR (threeR a b c).fst).fst == (9221120237041090561 : Int)) → post (a_8, ()))
                                                                    (∀ (a_8 : Bool),
                                                                      a_8 = fcmp Go.BinOp.neq (Go.FloatKind.f64.format.order b b) →
                                                                        Br a_8
                                                                          (∃ (h : True),
                                                                            ∀ (a_9 : Bool),
                                                                              a_9 = ((bitsR (threeR a b c).fst).fst == (9221120237041090561 : Int)) →
                                                                                post (a_9, ()))
                                                                          (∀ (a_9 : Bool),
                                                                            a_9 = fcmp Go.BinOp.neq (Go.FloatKind.f64.format.order c c) →
                                                                              Br a_9
                                                                                (∃ (h : True),
                                                                                  ∀ (a_10 : Bool),
                                                                                    a_10 = ((bitsR (threeR a b c).fst).fst == (9221120237041090561 : Int)) →
                                                                                      post (a_10, ()))
                                                                                (∀ (a_10 : Bool),
                                                                                  a_10 = fcmp Go.BinOp.lss (Go.FloatKind.f64.format.order a (0 : Nat)) →
                                                                                    Br a_10 (post (Bool.true, ()))
                                                                                      (∀ (a_11 : Bool),
                                                                                        a_11 = fcmp Go.BinOp.lss (Go.FloatKind.f64.format.order b (0 : Nat)) →
                                                                                          Br a_11 (post (Bool.true, ()))
                                                                                            (∀ (a_12 : Bool),
                                                                                              a_12 = fcmp Go.BinOp.lss (Go.FloatKind.f64.format.order c (0 : Nat)) →
                                                                                                Br a_12 (post (Bool.true, ()))
                                                                                                  (∀ (a_13 : Bool),
                                                                                                    a_13 =
                                                                                                        fcmp Go.BinOp.geq
                                                                                                          (Go.FloatKind.f64.format.order (threeR a b c).fst a) →
                                                                                                      Br a_13
                                                                                                        (∀ (a_14 : Bool),
                                                                                                          a_14 =
                                                                                                              fcmp Go.BinOp.geq
                                                                                                                (Go.FloatKind.f64.format.order (threeR a b c).fst b) →
                                                                                                            Br a_14
                                                                                                              (∀ (a_15 : Bool),
                                                                                                                a_15 =
                                                                                                                    fcmp Go.BinOp.geq
                                                                                                                      (Go.FloatKind.f64.format.order (threeR a b c).fst c) →
                                                                                                                  post (a_15, ()))
                                                                                                              (post (Bool.false, ())))
                                                                                                        (post (Bool.false, ()))))))))))))))
def Yx4 : Cx := ⟨tabOf Ytab, conOf [(14, Yq14), (22, Yq22), (15, Yq15), (24, Yq24)], fun _ => none⟩
theorem Yx4_ok : CxOk Try.prog Yx4 := ⟨tabB_sound Ytab_ok, conOf_sound ⟨Yh14, Yh22, Yh15, Yh24, trivial⟩⟩
theorem Yat4 : FnAt Try.prog 4 Try.f4.ntmps Try.f4.results.toList (Try.f4.body.getD .skip) := ⟨Try.f4, Try.func4, rfl, rfl, by simp, by decide⟩
theorem Yf4_eq (a : Nat) (b : Nat) (c : Nat) (post : Bool × Unit → Prop) : fnEval Yx4 nHn Try.f4.ntmps Try.f4.results.toList (Try.f4.body.getD .skip) [.flt .f64, .flt .f64, .flt .f64] [.snap .bool] (a, b, c, ()) post = YF4 a b c post := by kernel_rfl
theorem Yl4 (a : Nat) (b : Nat) (c : Nat) (h : W3 a b c) : YF4 a b c (fun r => r = trueR3 a b c) := by
  obtain ⟨ha, hb, hc⟩ := h
  refine ⟨trivial, ?_⟩
  rintro _ rfl
  refine Br.intro (fun e => by cases e) fun _ => ⟨⟨ha, hb, hc⟩, ⟨ha, hc, hb⟩, trivial, ?_⟩
  rintro _ rfl
  refine Br.intro (fun e => (no_not (same_of (three_swap2 ha hb hc).symm) e).elim) fun _ => ⟨⟨hb, ha, hc⟩, trivial, ?_⟩
  rintro _ rfl
  refine Br.intro (fun e => (no_not (same_of (three_swap ha hb hc).symm) e).elim) fun _ => ⟨⟨hb, hc, ha⟩, trivial, ?_⟩
  rintro _ rfl
  refine Br.intro (fun e => (no_not (same_of (three_rot ha hb hc).symm) e).elim) fun _ => ⟨⟨hc, ha, hb⟩, trivial, ?_⟩
  rintro _ rfl
  refine Br.intro (fun e => (no_not (same_of (three_rot2 ha hb hc).symm) e).elim) fun _ => ⟨⟨hc, hb, ha⟩, trivial, ?_⟩
  rintro _ rfl
  refine Br.intro (fun e => (no_not (same_of (three_rev ha hb hc).symm) e).elim) fun _ => ?_
  have nanc : (isN a = true ∨ isN b = true ∨ isN c = true) → ∀ t : Bool, t = ((bitsR (threeR a b c).fst).fst == (9221120237041090561 : Int)) → (t, ()) = trueR3 a b c := by
    intro hn
    rintro _ rfl
    refine congrArg r1 ?_
    show (((three a b c : Nat) : Int) == 9221120237041090561) = true
    rw [three_nan hn]; decide
  rintro _ rfl
  refine Br.intro (fun e => ⟨trivial, nanc (.inl ((neq_self a).symm.trans e))⟩) fun e => ?_
  have na : isN a = false := (neq_self a).symm.trans e
  rintro _ rfl
  refine Br.intro (fun e => ⟨trivial, nanc (.inr (.inl ((neq_self b).symm.trans e)))⟩) fun e => ?_
  have nb : isN b = false := (neq_self b).symm.trans e
  rintro _ rfl
  refine Br.intro (fun e => ⟨trivial, nanc (.inr (.inr ((neq_self c).symm.trans e)))⟩) fun e => ?_
  have nc : isN c = false := (neq_self c).symm.trans e
  rintro _ rfl
  refine Br.intro (fun _ => rfl) fun la => ?_
  rintro _ rfl
  refine Br.intro (fun _ => rfl) fun lb => ?_
  rintro _ rfl
  refine Br.intro (fun _ => rfl) fun lc => ?_
  have g := three_ge (not_lss_zero ha na la) (not_lss_zero hb nb lb) (not_lss_zero hc nc lc)
  rintro _ rfl
  refine Br.intro (fun _ => ?_) (fun e => (no_false (geq_of g.1.2.1 na g.2.1) e).elim)
  rintro _ rfl
  refine Br.intro (fun _ => ?_) (fun e => (no_false (geq_of g.1.2.1 nb g.2.2.1) e).elim)
  rintro _ rfl
  exact congrArg r1 (geq_of g.1.2.1 nc g.2.2.2)
theorem Yh4 : Yq4.holds Try.prog (fun _ => none) 4 :=
  detP Yx4_ok Ymixed nHn Yat4 (F := fun x post => YF4 x.1 x.2.1 x.2.2.1 post) (fun x post => Yf4_eq x.1 x.2.1 x.2.2.1 post) fun x h _ => Yl4 x.1 x.2.1 x.2.2.1 h
def YF7 := fun (a : List Nat) (b : Nat) (post : Bool × Unit → Prop) =>
  ∃ (h : True),
    ∀ (a_1 : Bool),
      a_1 = trueR0.fst →
        Br (!a_1) (post (Bool.false, ()))
          (∀ (a_2 : Bool),
            a_2 = decide ((↑a.length : Int) > (1048576 : Int)) →
              Br a_2 (post (Bool.true, ()))
                (∃ (h : a.length * (8 : Nat) ≤ (140737488355328 : Nat)),
                  ∃ (h : a.length = a.length ∧ (a.length + (1 : Nat)) * (8 : Nat) ≤ (140737488355328 : Nat)),
                    ∃ (h : WL a),
                      ∀ (a_3 : Bool),
                        a_3 = fcmp Go.BinOp.neq (Go.FloatKind.f64.format.order (rowR a).fst (0 : Nat)) →
                          Br a_3
                            (∃ (h : WL (List.take (a.length + (1 : Nat)) (List.drop (0 : Nat) (a ++ [(0 : Nat)])))),
                              ∃ (h : True),
                                ∀ (a_4 : Bool),
                                  a_4 = (sameR (rowR (List.take (a.length + (1 : Nat)) (List.drop (0 : Nat) (a ++ [(0 : Nat)])))).fst (rowR a).fst).fst →
                                    Br (!a_4) (post (Bool.false, ()))
                                      (∃ (h : WL a),
                                        ∀ (a_5 : Bool),
                                          a_5 = fcmp Go.BinOp.neq (Go.FloatKind.f64.format.order (carefulR a).fst (0 : Nat)) →
                                            Br a_5
                                              (∃ (h : WL (List.take (a.length + (1 : Nat)) (List.drop (0 : Nat) (a ++ [(0 : Nat)])))),
                                                ∃ (h : True),
                                                  ∀ (a_6 : Bool),
                                                    a_6 =
                                                        (sameR (carefulR (List.take (a.length + (1 : Nat)) (List.drop (0 : Nat) (a ++ [(0 : Nat)])))).fst
                                                            (carefulR a).fst).fst →
                                                      Br (!a_6) (post (Bool.false, ()))
                                                        (∀ (a : Bool),
                                                          a = fcmp Go.BinOp.neq (Go.FloatKind.f64.format.order b b) →
                                                            Br a (post (Bool.true, ()))
                                                              (∀ (a : Nat),
                                                                FRes Go.FloatKind.f64 (Go.FloatKind.f64.format.sub b b) a →
                                                                  ∀ (a_7 : Bool),
                                                                    a_7 = fcmp Go.BinOp.neq (Go.FloatKind.f64.format.order a (0 : Nat)) →
                                                                      Br a_7 (post (Bool.true, ()))
                                                                        (∃ (h : W3 b (0 : Nat) (Go.Op.negFloat Go.FloatKind.f64 b)),
                                                                          ∀ (a : Bool),
                                                                            a =
                                                                                fcmp Go.BinOp.eql
                                                                                  (Go.FloatKind.f64.format.order
                                                                                    (threeR b (0 : Nat) (Go.Op.negFloat Go.FloatKind.f64 b)).fst (0 : Nat)) →
                                                                              Br a
                                                                                (∃ (h : W3 b (0 : Nat) (0 : Nat)),
                                                                                  ∀ (a : Bool),
                                                                                    a =
                                                                                        fcmp Go.BinOp.eql
                                                                                          (Go.FloatKind.f64.format.order (threeR b (0 : Nat) (0 : Nat)).fst b) →
                                                                                      Br a
                                                                                        (∃ (h : WL [b]),
                                                                                          ∀ (a : Bool),
                                                                                            a =
                                                                                                fcmp Go.BinOp.eql
                                                                                                  (Go.FloatKind.f64.format.order (carefulR [b]).fst b) →
                                                                                              post (a, ()))
                                                                                        (post (Bool.false, ())))
                                                                                (post (Bool.false, ()))))))
                                              (∀ (a : Bool),
                                                a = fcmp Go.BinOp.neq (Go.FloatKind.f64.format.order b b) →
                                                  Br a (post (Bool.true, ()))
                                                    (∀ (a : Nat),
                                                      FRes Go.FloatKind.f64 (Go.FloatKind.f64.format.sub b b) a →
                                                        ∀ (a_6 : Bool),
                                                          a_6 = fcmp Go.BinOp.neq (Go.FloatKind.f64.format.order a (0 : Nat)) →
                                                            Br a_6 (post (Bool.true, ()))
                                                              (∃ (h : W3 b (0 : Nat) (Go.Op.negFloat Go.FloatKind.f64 b)),
                                                                ∀ (a : Bool),
                                                                  a =
                                                                      fcmp Go.BinOp.eql
                                                                        (Go.FloatKind.f64.format.order (threeR b (0 : Nat) (Go.Op.negFloat Go.FloatKind.f64 b)).fst
                                                                          (0 : Nat)) →
                                                                    Br a
                                                                      (∃ (h : W3 b (0 : Nat) (0 : Nat)),
                                                                        ∀ (a : Bool),
                                                                          a =
                                                                              fcmp Go.BinOp.eql
                                                                                (Go.FloatKind.f64.format.order (threeR b (0 : Nat) (0 : Nat)).fst b) →
                                                                            Br a
                                                                              (∃ (h : WL [b]),
                                                                                ∀ (a : Bool),
                                                                                  a = fcmp Go.BinOp.eql (Go.FloatKind.f64.format.order (carefulR [b]).fst b) →
                                                                                    post (a, ()))
                                                                              (post (Bool.false, ())))
                                                                      (post (Bool.false, ())))))))
                            (∃ (h : WL a),
                              ∀ (a_4 : Bool),
                                a_4 = fcmp Go.BinOp.neq (Go.FloatKind.f64.format.order (carefulR a).fst (0 : Nat)) →
                                  Br a_4
                                    (∃ (h : WL (List.take (a.length + (1 : Nat)) (List.drop (0 : Nat) (a ++ [(0 : Nat)])))),
                                      ∃ (h : True),
                                        ∀ (a_5 : Bool),
                                          a_5 =
                                              (sameR (carefulR (List.take (a.length + (1 : Nat)) (List.drop (0 : Nat) (a ++ [(0 : Nat)])))).fst
                                                  (carefulR a).fst).fst →
                                            Br (!a_5) (post (Bool.false, ()))
                                              (∀ (a : Bool),
                                                a = fcmp Go.BinOp.neq (Go.FloatKind.f64.format.order b b) →
                                                  Br a (post (Bool.true, ()))
                                                    (∀ (a : Nat),
                                                      FRes Go.FloatKind.f64 (Go.FloatKind.f64.format.sub b b) a →
                                                        ∀ (a_6 : Bool),
                                                          a_6 = fcmp Go.BinOp.neq (Go.FloatKind.f64.format.order a (0 : Nat)) →
                                                            Br a_6 (post (Bool.true, ()))
                                                              (∃ (h : W3 b (0 : Nat) (Go.Op.negFloat Go.FloatKind.f64 b)),
                                                                ∀ (a : Bool),
                                                                  a =
                                                                      fcmp Go.BinOp.eql
                                                                        (Go.FloatKind.f64.format.order (threeR b (0 : Nat) (Go.Op.negFloat Go.FloatKind.f64 b)).fst
                                                                          (0 : Nat)) →
                                                                    Br a
                                                                      (∃ (h : W3 b (0 : Nat) (0 : Nat)),
                                                                        ∀ (a : Bool),
                                                                          a =
                                                                              fcmp Go.BinOp.eql
                                                                                (Go.FloatKind.f64.format.order (threeR b (0 : Nat) (0 : Nat)).fst b) →
                                                                            Br a
                                                                              (∃ (h : WL [b]),
                                                                                ∀ (a : Bool),
                                                                                  a = fcmp Go.BinOp.eql (Go.FloatKind.f64.format.order (carefulR [b]).fst b) →
                                                                                    post (a, ()))
                                                                              (post (Bool.false, ())))
                                                                      (post (Bool.false, ()))))))
                                    (∀ (a : Bool),
                                      a = fcmp Go.BinOp.neq (Go.FloatKind.f64.format.order b b) →
                                        Br a (post (Bool.true, ()))
                                          (∀ (a : Nat),
                                            FRes Go.FloatKind.f64 (Go.FloatKind.f64.format.sub b b) a →
                                              ∀ (a_5 : Bool),
                                                a_5 = fcmp Go.BinOp.neq (Go.FloatKind.f64.format.order a (0 : Nat)) →
                                                  Br a_5 (post (Bool.true, ()))
                                                    (∃ (h : W3 b (0 : Nat) (Go.Op.negFloat Go.FloatKind.f64 b)),
                                                      ∀ (a : Bool),
                                                        a =
                                                            fcmp Go.BinOp.eql
                                                              (Go.FloatKind.f64.format.order (threeR b (0 : Nat) (Go.Op.negFloat Go.FloatKind.f64 b)).fst (0 : Nat)) →
                                                          Br a
                                                            (∃ (h : W3 b (0 : Nat) (0 : Nat)),
                                                              ∀ (a : Bool),
                                                                a = fcmp Go.BinOp.eql (Go.FloatKind.f64.format.order (threeR b (0 : Nat) (0 : Nat)).fst b) →
                                                                  Br a
                                                                    (∃ (h : WL [b]),
                                                                      ∀ (a : Bool),
                                                                        a = fcmp Go.BinOp.eql (Go.FloatKind.f64.format.order (carefulR [b]).fst b) → post (a, ()))
                                                                    (post (Bool.false, ())))
                                                            (post (Bool.false, ()))))))))
def Yx7 : Cx := ⟨tabOf Ytab, conOf [(14, Yq14), (16, Yq16), (15, Yq15), (20, Yq20), (22, Yq22)], fun _ => none⟩
theorem Yx7_ok : CxOk Try.prog Yx7 := ⟨tabB_sound Ytab_ok, conOf_sound ⟨Yh14, Yh16, Yh15, Yh20, Yh22, trivial⟩⟩
theorem Yat7 : FnAt Try.prog 7 Try.f7.ntmps Try.f7.results.toList (Try.f7.body.getD .skip) := ⟨Try.f7, Try.func7, rfl, rfl, by simp, by decide⟩
theorem Yf7_eq (a : List Nat) (b : Nat) (post : Bool × Unit → Prop) : fnEval Yx7 nHn Try.f7.ntmps Try.f7.results.toList (Try.f7.body.getD .skip) [.slice (.flt .f64), .flt .f64] [.snap .bool] (a, b, ()) post = YF7 a b post := by kernel_rfl
theorem Yl7 (a : List Nat) (b : Nat) (h : WLF a b) : YF7 a b (fun r => r = trueR2 a b) := by
  obtain ⟨hl, hb⟩ := h
  have e0 : List.take (a.length + 1) (List.drop 0 (a ++ [0])) = a ++ [0] := List.take_of_length_le (by simp)
  have hl0 : WL (a ++ [0]) := WL_app hl (by intro x hx; simp at hx; subst hx; exact W0)
  have wb : WL [b] := by intro x hx; simp at hx; subst hx; exact hb
  have rest : RestP b ((true, ()) = trueR2 a b) ((false, ()) = trueR2 a b) := by
    rintro _ rfl
    refine Br.intro (fun _ => rfl) fun e => ?_
    have n1 : isN b = false := (neq_self b).symm.trans e
    intro x hx
    rintro _ rfl
    refine Br.intro (fun _ => rfl) fun f => ⟨⟨hb, W0, negF_w hb⟩, ?_⟩
    have hf := sub_fin n1 (fsub hx).1 f
    rintro _ rfl
    refine Br.intro (fun _ => ⟨⟨hb, W0, W0⟩, ?_⟩) (fun e => (no_false (eql_Z (three_out hb hf)) e).elim)
    rintro _ rfl
    refine Br.intro (fun _ => ⟨wb, ?_⟩) (fun e => (no_false (eql_Eqv n1 (three_00 hb hf)) e).elim)
    rintro _ rfl
    exact congrArg r1 (eql_Eqv n1 (careful_one hb hf))
  unfold YF7
  rw [e0]
  refine ⟨trivial, ?_⟩
  rintro _ rfl
  refine Br.intro (fun e => by cases e) fun _ => ?_
  rintro _ rfl
  refine Br.intro (fun _ => rfl) fun la => ?_
  have la : a.length ≤ 1048576 := by have := of_decide_eq_false la; omega
  refine ⟨by omega, ⟨rfl, by omega⟩, hl, ?_⟩
  have car : CarP a ((false, ()) = trueR2 a b) (RestP b ((true, ()) = trueR2 a b) ((false, ()) = trueR2 a b)) := by
    rintro _ rfl
    refine Br.intro (fun e => ⟨hl0, trivial, ?_⟩) (fun _ => rest)
    rintro _ rfl
    exact Br.intro (fun f => (no_not (same_of (careful_zero a e)) f).elim) fun _ => rest
  rintro _ rfl
  refine Br.intro (fun e => ⟨hl0, trivial, ?_⟩) fun _ => ⟨hl, car⟩
  rintro _ rfl
  exact Br.intro (fun f => (no_not (same_of (row_zero hl e)) f).elim) fun _ => ⟨hl, car⟩
theorem Yh7 : Yq7.holds Try.prog (fun _ => none) 7 :=
  detP Yx7_ok Ymixed nHn Yat7 (F := fun x post => YF7 x.1 x.2.1 post) (fun x post => Yf7_eq x.1 x.2.1 post) fun x h _ => Yl7 x.1 x.2.1 h
end Go.Lift

/- What a row says of floats. Own work. -/
namespace Go.Lift
theorem rngF {b : Nat} (h : K.rng (.flt .f64) b) : W64 b := by
  have h : (Lit.float .f64 b).wf = true := h
  have := of_decide_eq_true (show decide (b < 2 ^ 64) = true from h)
  exact this
theorem rngV {v : Nat × Nat × Nat} (h : K.rng (.pair (.flt .f64) (.pair (.flt .f64) (.flt .f64))) v) : WV v := ⟨rngF h.1, rngF h.2.1, rngF h.2.2⟩
theorem rngL {l : List Nat} (h : K.rng (.slice (.flt .f64)) l) : WL l := fun x hx => rngF (h x hx)
end Go.Lift

namespace Go.Proofs.Ytkgkckjgdajegaa
open Go.Lift

theorem sumNothing_law : LawSpec Rows.sumNothingSpec 2 := ⟨rfl, fun H ds h => by
  match ds, h with
  | [d1, d2], _ => rfl⟩
theorem own : ownKnob Try.checked.prog.godebug = none := by kernel_rfl
theorem laidOut : laidOutB Try.checked.prog = true := by kernel_rfl

set_option maxRecDepth 100000 in
theorem sumNothing_lifted (os : Os) (started : os.Started) (H : Type) (enc : TypeId × Value → H) :
    ReturnsInHanded {} Try.checked os 7 .any (Rows.sumNothingSpec.pre6 enc Try.checked.prog Try.f7 [] false) (Rows.sumNothingSpec.post enc Try.checked.prog Try.f7 false true false false) :=
  law_handed (C := Try.checked) own started (by kernel_rfl) Try.func7 rfl (by decide)
    (ChangeSpec.witness6 (enc := enc) (C := Try.checked) false ⟨#[], #[.slice none 0 0, .float .f64 0], []⟩ 12 (by kernel_rfl) (by kernel_rfl) (by kernel_rfl) (by kernel_rfl))
    laidOut (ktsB_sound _ [.slice (.flt .f64), .flt .f64] (by kernel_rfl)) (by decide +kernel) rfl (by kernel_rfl) sumNothing_law Yh7 (fun x h w => ⟨rngL h.1, rngF h.2.1⟩)

theorem sumNothing_holds : Rows.SumNothingSaid :=
  OpenClaim.holds_of_wide 7 Try.f7 rfl rfl rfl rfl rfl rfl rfl ⟨rfl, rfl, rfl, rfl, rfl⟩ rfl rfl rfl rfl rfl (by kernel_rfl) Try.func7 (by kernel_rfl)
    (of_decide_eq_true (by kernel_rfl)) (by unfold Func.isWrapper; first | (rw [if_pos (by decide +kernel)]; kernel_rfl) | (rw [if_neg (by decide +kernel)]; exact ⟨rfl, rfl⟩))
    (fun os started H enc _ => sumNothing_lifted os started H enc)
end Go.Proofs.Ytkgkckjgdajegaa
