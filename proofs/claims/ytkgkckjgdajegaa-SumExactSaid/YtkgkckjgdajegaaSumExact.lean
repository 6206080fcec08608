/- tarnlaw05.SumExact: at every input it returns true. -/
import Derived.Test.YtkgkckjgdajegaaRows
import Derived.ProofKit
import Derived.Test.YtkgkckjgdajegaaPtC
set_option linter.unusedVariables false
set_option linter.unusedSimpArgs false
set_option linter.unusedSectionVars false
/- The law SumExact. Own work. -/
set_option linter.unusedVariables false
set_option linter.unusedSimpArgs false
namespace Go.Lift
open Go.Proofs
def YF25 := fun (a : Int) (post : Int × Unit → Prop) => ∃ (h : (1099511627776 : Int) ≠ (0 : Int)), post (a.tmod (1099511627776 : Int), ())
def Yx25 : Cx := ⟨tabOf Ytab, conOf [], fun _ => none⟩
theorem Yx25_ok : CxOk Try.prog Yx25 := ⟨tabB_sound Ytab_ok, fun f c h => by cases h⟩
theorem Yat25 : FnAt Try.prog 25 Try.f25.ntmps Try.f25.results.toList (Try.f25.body.getD .skip) := ⟨Try.f25, Try.func25, rfl, rfl, by simp, by decide⟩
theorem Yf25_eq (a : Int) (post : Int × Unit → Prop) : fnEval Yx25 nHn Try.f25.ntmps Try.f25.results.toList (Try.f25.body.getD .skip) [.int .i64] [.snap (.int .i64)] (a, ()) post = YF25 a post := by kernel_rfl
theorem Yl25 (a : Int) : YF25 a (fun r => r = wholeR a) := by
  exact ⟨by decide, rfl⟩
theorem Yh25 : Yq25.holds Try.prog (fun _ => none) 25 :=
  detP Yx25_ok Ymixed nHn Yat25 (F := fun x post => YF25 x.1 post) (fun x post => Yf25_eq x.1 post) fun x _ _ => Yl25 x.1
def YF5 := fun (a : List Int) (post : Bool × Unit → Prop) =>
  ∃ (h : True),
    ∀ (a_1 : Bool),
      a_1 = trueR0.fst →
        Br (!a_1) (post (Bool.false, ()))
          (∀ (a_2 : Bool),
            a_2 = decide ((↑a.length : Int) > (4096 : Int)) →
              Br a_2 (post (Bool.true, ()))
                (HIs [] [] ∧
                  ∃ (I : List Nat × Int × Int × Unit → Unit → Prop),
                    ∃ (μ : List Nat × Int × Int × Unit → Unit → Nat),
                      I ([], (0 : Int), (0 : Int), ()) () ∧
                        ∀ (x : List Nat × Int × Int × Unit) (y : Unit),
                          I x y →
                            ∀ (a_3 : Bool),
                              a_3 = decide (x.snd.snd.fst < (↑a.length : Int)) →
                                Br a_3
                                  (∃ (h : (0 : Int) ≤ x.snd.snd.fst ∧ x.snd.snd.fst < (↑a.length : Int)),
                                    ∃ (h : True),
                                      ∃ (h : x.fst.length = x.fst.length ∧ (x.fst.length + (1 : Nat)) * (8 : Nat) ≤ (140737488355328 : Nat)),
                                        ∃ (h : (0 : Int) ≤ x.snd.snd.fst ∧ x.snd.snd.fst < (↑a.length : Int)),
                                          ∃ (h : True),
                                            ((0 : Nat) = (0 : Nat) ∧
                                                x.fst.length + (1 : Nat) =
                                                  (x.fst ++ [Go.FloatKind.f64.nearest (wholeR (a.getD x.snd.snd.fst.toNat (0 : Int))).fst]).length) ∧
                                              HIs [] [] ∧
                                                I
                                                    (x.fst ++ [Go.FloatKind.f64.nearest (wholeR (a.getD x.snd.snd.fst.toNat (0 : Int))).fst],
                                                      IntKind.i64.wrap (x.snd.fst + (wholeR (a.getD x.snd.snd.fst.toNat (0 : Int))).fst),
                                                      IntKind.i64.wrap (x.snd.snd.fst + (1 : Int)), ())
                                                    () ∧
                                                  μ
                                                      (x.fst ++ [Go.FloatKind.f64.nearest (wholeR (a.getD x.snd.snd.fst.toNat (0 : Int))).fst],
                                                        IntKind.i64.wrap (x.snd.fst + (wholeR (a.getD x.snd.snd.fst.toNat (0 : Int))).fst),
                                                        IntKind.i64.wrap (x.snd.snd.fst + (1 : Int)), ())
                                                      () <
                                                    μ x y)
                                  (HIs [HObj.row Md.rw (25 : Nat) (K.flt Go.FloatKind.f64) x.fst]
                                      [HObj.row Md.rw (25 : Nat) (K.flt Go.FloatKind.f64) x.fst] ∧
                                    ∃ (I : Int × Unit → Unit → Prop),
                                      ∃ (μ : Int × Unit → Unit → Nat),
                                        I ((0 : Int), ()) () ∧
                                          ∀ (x_3 : Int × Unit) (y : Unit),
                                            I x_3 y →
                                              ∀ (a_4 : Bool),
                                                a_4 = decide (IntKind.i64.wrap (x_3.fst + (2 : Int)) < (↑x.fst.length : Int)) →
                                                  Br a_4
                                                    (∃ (h : (0 : Int) ≤ x_3.fst ∧ x_3.fst < (↑x.fst.length : Int)),
                                                      ∃ (h :
                                                        (0 : Int) ≤ IntKind.i64.wrap (x_3.fst + (1 : Int)) ∧ IntKind.i64.wrap (x_3.fst + (1 : Int)) < (↑x.fst.length : Int)),
                                                        ∃ (h :
                                                          (0 : Int) ≤ IntKind.i64.wrap (x_3.fst + (2 : Int)) ∧
                                                            IntKind.i64.wrap (x_3.fst + (2 : Int)) < (↑x.fst.length : Int)),
                                                          ∃ (h :
                                                            W3 (x.fst.getD ((0 : Nat) + x_3.fst.toNat) (0 : Nat))
                                                              (x.fst.getD ((0 : Nat) + (IntKind.i64.wrap (x_3.fst + (1 : Int))).toNat) (0 : Nat))
                                                              (x.fst.getD ((0 : Nat) + (IntKind.i64.wrap (x_3.fst + (2 : Int))).toNat) (0 : Nat))),
                                                            ∃ (h : (0 : Int) ≤ x_3.fst ∧ x_3.fst < (↑a.length : Int)),
                                                              ∃ (h : True),
                                                                ∃ (h :
                                                                  (0 : Int) ≤ IntKind.i64.wrap (x_3.fst + (1 : Int)) ∧
                                                                    IntKind.i64.wrap (x_3.fst + (1 : Int)) < (↑a.length : Int)),
                                                                  ∃ (h : True),
                                                                    ∃ (h :
                                                                      (0 : Int) ≤ IntKind.i64.wrap (x_3.fst + (2 : Int)) ∧
                                                                        IntKind.i64.wrap (x_3.fst + (2 : Int)) < (↑a.length : Int)),
                                                                      ∃ (h : True),
                                                                        ∀ (a_5 : Bool),
                                                                          a_5 =
                                                                              fcmp Go.BinOp.neq
                                                                                (Go.FloatKind.f64.format.order
                                                                                  (threeR (x.fst.getD ((0 : Nat) + x_3.fst.toNat) (0 : Nat))
                                                                                      (x.fst.getD ((0 : Nat) + (IntKind.i64.wrap (x_3.fst + (1 : Int))).toNat) (0 : Nat))
                                                                                      (x.fst.getD ((0 : Nat) + (IntKind.i64.wrap (x_3.fst + (2 : Int))).toNat) (0 : Nat))).fst
                                                                                  (Go.FloatKind.f64.nearest
                                                                                    (IntKind.i64.wrap
                                                                                      (IntKind.i64.wrap
                                                                                          ((wholeR (a.getD x_3.fst.toNat (0 : Int))).fst +
                                                                                            (wholeR
                                                                                                (a.getD (IntKind.i64.wrap (x_3.fst + (1 : Int))).toNat (0 : Int))).fst) +
                                                                                        (wholeR
                                                                                            (a.getD (IntKind.i64.wrap (x_3.fst + (2 : Int))).toNat (0 : Int))).fst)))) →
                                                                            Br a_5 (post (Bool.false, ()))
                                                                              (HIs [HObj.row Md.rw (25 : Nat) (K.flt Go.FloatKind.f64) x.fst]
                                                                                  [HObj.row Md.rw (25 : Nat) (K.flt Go.FloatKind.f64) x.fst] ∧
                                                                                I (IntKind.i64.wrap (x_3.fst + (1 : Int)), ()) () ∧
                                                                                  μ (IntKind.i64.wrap (x_3.fst + (1 : Int)), ()) () < μ x_3 y))
                                                    (∃ (h : WL (List.take x.fst.length (List.drop (0 : Nat) x.fst))),
                                                      ∀ (a : Bool),
                                                        a =
                                                            fcmp Go.BinOp.eql
                                                              (Go.FloatKind.f64.format.order (rowR (List.take x.fst.length (List.drop (0 : Nat) x.fst))).fst
                                                                (Go.FloatKind.f64.nearest x.snd.fst)) →
                                                          Br a
                                                            (∃ (h : WL (List.take x.fst.length (List.drop (0 : Nat) x.fst))),
                                                              ∀ (a : Bool),
                                                                a =
                                                                    fcmp Go.BinOp.eql
                                                                      (Go.FloatKind.f64.format.order (pairsR (List.take x.fst.length (List.drop (0 : Nat) x.fst))).fst
                                                                        (Go.FloatKind.f64.nearest x.snd.fst)) →
                                                                  Br a
                                                                    (∃ (h : WL (List.take x.fst.length (List.drop (0 : Nat) x.fst))),
                                                                      ∀ (a : Bool),
                                                                        a =
                                                                            fcmp Go.BinOp.eql
                                                                              (Go.FloatKind.f64.format.order
                                                                                (carefulR (List.take x.fst.length (List.drop (0 : Nat) x.fst))).fst
                                                                                (Go.FloatKind.f64.nearest x.snd.fst)) →
                                                                          post (a, ()))
                                                                    (post (Bool.false, ())))
                                                            (post (Bool.false, ()))))))
def Yx5 : Cx := ⟨tabOf Ytab, conOf [(14, Yq14), (25, Yq25), (22, Yq22), (16, Yq16), (18, Yq18), (20, Yq20)], fun _ => none⟩
theorem Yx5_ok : CxOk Try.prog Yx5 := ⟨tabB_sound Ytab_ok, conOf_sound ⟨Yh14, Yh25, Yh22, Yh16, Yh18, Yh20, trivial⟩⟩
theorem Yat5 : FnAt Try.prog 5 Try.f5.ntmps Try.f5.results.toList (Try.f5.body.getD .skip) := ⟨Try.f5, Try.func5, rfl, rfl, by simp, by decide⟩
theorem Yf5_eq (a : List Int) (post : Bool × Unit → Prop) : fnEval Yx5 Yhn5 Try.f5.ntmps Try.f5.results.toList (Try.f5.body.getD .skip) [.slice (.int .i64)] [.snap .bool] (a, ()) post = YF5 a post := by kernel_rfl
theorem Yl5 (a : List Int) (w : KS.wf [.slice (.int .i64)] (a, ())) : YF5 a (fun r => r = trueR1 a) := by
  have hl : a.length ≤ maxN := w.1.1
  unfold maxN at hl
  refine ⟨trivial, ?_⟩
  rintro _ rfl
  refine Br.intro (fun e => by cases e) fun _ => ?_
  rintro _ rfl
  refine Br.intro (fun _ => rfl) fun la => ?_
  have la : a.length ≤ 4096 := by have := of_decide_eq_false la; omega
  obtain ⟨L, hL⟩ : ∃ L : List Int, L = a.map fun n => n.tmod 1099511627776 := ⟨_, rfl⟩
  have hLl : L.length = a.length := by rw [hL, List.length_map]
  have hB : BL L := by
    intro v hv
    rw [hL] at hv
    obtain ⟨n, _, rfl⟩ := List.mem_map.1 hv
    exact tmod_rng n
  have hW : ∀ k, k < a.length → (wholeR (a.getD k 0)).fst = L.getD k 0 := by
    intro k hk
    show (a.getD k 0).tmod 1099511627776 = _
    rw [hL, List.getD_eq_getElem?_getD, List.getD_eq_getElem?_getD, List.getElem?_map, List.getElem?_eq_getElem hk]
    rfl
  have hg : ∀ k, k < a.length → L.take (k + 1) = L.take k ++ [L.getD k 0] := by
    intro k hk
    rw [List.take_succ_eq_append_getElem (by omega), List.getD_eq_getElem?_getD, List.getElem?_eq_getElem (by omega)]
    rfl
  refine ⟨rfl, fun x _ => ∃ i : Nat, x.2.2.1 = i ∧ i ≤ a.length ∧ x.1 = (L.take i).map fI ∧ x.2.1 = (L.take i).sum, fun x _ => a.length - x.2.2.1.toNat, ⟨0, rfl, by omega, rfl, rfl⟩, ?_⟩
  rintro ⟨X, S, _, ⟨⟩⟩ _ ⟨i, hi, hil, hX, hS⟩
  dsimp only at hi hX hS
  subst hi
  dsimp only
  have hXl : X.length = i := by rw [hX, List.length_map, List.length_take]; omega
  rintro _ rfl
  refine Br.intro (fun f => ?_) fun f => ?_
  · have f : i < a.length := by have := of_decide_eq_true f; omega
    rw [Int.toNat_natCast, hW i f, wi (x := (i : Int) + 1) ⟨by omega, by omega⟩]
    have hv := hB.take (i + 1)
    have hs := hv.sum
    rw [List.length_take] at hs
    have es : (L.take (i + 1)).sum = S + L.getD i 0 := by rw [hg i f, List.sum_append, hS]; simp
    rw [es] at hs
    refine ⟨⟨by omega, by omega⟩, trivial, ⟨rfl, by omega⟩, ⟨by omega, by omega⟩, trivial, ⟨rfl, by simp⟩, rfl, ⟨i + 1, by omega, by omega, ?_, ?_⟩, by omega⟩
    · rw [hX, hg i f, List.map_append]; rfl
    · rw [wi ⟨by omega, by omega⟩, es]
  · have f : i = a.length := by have := of_decide_eq_false f; omega
    have eX : X = L.map fI := by rw [hX, List.take_of_length_le (by omega)]
    have eS : S = L.sum := by rw [hS, List.take_of_length_le (by omega)]
    have hWX : WL X := by
      intro y hy
      rw [eX] at hy
      obtain ⟨n, _, rfl⟩ := List.mem_map.1 hy
      exact (int_of n).1
    have hXg : ∀ k, k < a.length → X.getD k 0 = fI (L.getD k 0) := by
      intro k hk
      rw [eX, List.getD_eq_getElem?_getD, List.getD_eq_getElem?_getD, List.getElem?_map, List.getElem?_eq_getElem (by omega)]
      rfl
    have hLB : ∀ k, k < a.length → -1099511627776 < L.getD k 0 ∧ L.getD k 0 < 1099511627776 := by
      intro k hk
      rw [List.getD_eq_getElem?_getD, List.getElem?_eq_getElem (by omega)]
      exact hB _ (List.getElem_mem _)
    have eT : List.take X.length (List.drop 0 X) = X := List.take_of_length_le (Nat.le_refl _)
    rw [eT]
    refine ⟨rfl, fun x _ => ∃ k : Nat, x.1 = k ∧ k ≤ a.length, fun x _ => a.length - x.1.toNat, ⟨0, rfl, by omega⟩, ?_⟩
    rintro ⟨_, ⟨⟩⟩ _ ⟨k, hk, hkl⟩
    dsimp only at hk
    subst hk
    dsimp only
    have p1 : IntKind.i64.wrap ((k : Int) + 1) = ((k + 1 : Nat) : Int) := by rw [wi ⟨by omega, by omega⟩]; omega
    have p2 : IntKind.i64.wrap ((k : Int) + 2) = ((k + 2 : Nat) : Int) := by rw [wi ⟨by omega, by omega⟩]; omega
    rw [p1, p2, Int.toNat_natCast, Int.toNat_natCast, Int.toNat_natCast, Nat.zero_add, Nat.zero_add, Nat.zero_add]
    rintro _ rfl
    refine Br.intro (fun q => ?_) fun q => ?_
    · have q : k + 2 < a.length := by have := of_decide_eq_true q; omega
      rw [hXg k (by omega), hXg (k + 1) (by omega), hXg (k + 2) q, hW k (by omega), hW (k + 1) (by omega), hW (k + 2) q]
      have b0 := hLB k (by omega)
      have b1 := hLB (k + 1) (by omega)
      have b2 := hLB (k + 2) q
      rw [wi (x := L.getD k 0 + L.getD (k + 1) 0) ⟨by omega, by omega⟩, wi (x := L.getD k 0 + L.getD (k + 1) 0 + L.getD (k + 2) 0) ⟨by omega, by omega⟩]
      refine ⟨⟨by omega, by omega⟩, ⟨by omega, by omega⟩, ⟨by omega, by omega⟩, ⟨(int_of _).1, (int_of _).1, (int_of _).1⟩, ⟨by omega, by omega⟩, trivial, ⟨by omega, by omega⟩, trivial, ⟨by omega, by omega⟩, trivial, ?_⟩
      rintro _ rfl
      refine Br.intro (fun e => ?_) fun _ => ⟨rfl, ⟨k + 1, rfl, by omega⟩, by omega⟩
      have h3 := three_int (int_of (L.getD k 0)) (int_of (L.getD (k + 1) 0)) (int_of (L.getD (k + 2) 0)) b0 b1 b2
      have e : fcmp .neq (Ieee.double.order (three (fI (L.getD k 0)) (fI (L.getD (k + 1) 0)) (fI (L.getD (k + 2) 0))) (fI (L.getD k 0 + L.getD (k + 1) 0 + L.getD (k + 2) 0))) = true := e
      rw [neq_eql, int_eql h3 (int_of _) (by unfold Sm; omega)] at e
      cases e
    · have hs : Sm L.sum := hB.sm (by omega)
      rw [eS]
      have e1 := int_eql (row_int hB (by omega)) (int_of L.sum) hs
      have e2 := int_eql (pairs_int _ L (Nat.le_refl _) hB (by omega)) (int_of L.sum) hs
      have e3 := int_eql (careful_int hB (by omega)) (int_of L.sum) hs
      rw [← eX] at e1 e2 e3
      refine ⟨hWX, ?_⟩
      rintro _ rfl
      refine Br.intro (fun _ => ⟨hWX, ?_⟩) (fun e => (no_false e1 e).elim)
      rintro _ rfl
      refine Br.intro (fun _ => ⟨hWX, ?_⟩) (fun e => (no_false e2 e).elim)
      rintro _ rfl
      exact congrArg r1 e3
theorem Yh5 : Yq5.holds Try.prog (fun _ => none) 5 :=
  detP Yx5_ok Ymixed Yhn5 Yat5 (F := fun x post => YF5 x.1 post) (fun x post => Yf5_eq x.1 post) fun x _ w => Yl5 x.1 w
end Go.Lift

/- What a row says of floats. Own work. -/
namespace Go.Lift
theorem rngF {b : Nat} (h : K.rng (.flt .f64) b) : W64 b := by
  have h : (Lit.float .f64 b).wf = true := h
  have := of_decide_eq_true (show decide (b < 2 ^ 64) = true from h)
  exact this
theorem rngV {v : Nat × Nat × Nat} (h : K.rng (.pair (.flt .f64) (.pair (.flt .f64) (.flt .f64))) v) : WV v := ⟨rngF h.1, rngF h.2.1, rngF h.2.2⟩
theorem rngL {l : List Nat} (h : K.rng (.slice (.flt .f64)) l) : WL l := fun x hx => rngF (h x hx)
end Go.Lift

namespace Go.Proofs.Ytkgkckjgdajegaa
open Go.Lift

theorem sumExact_law : LawSpec Rows.sumExactSpec 1 := ⟨rfl, fun H ds h => by
  match ds, h with
  | [d1], _ => rfl⟩
theorem own : ownKnob Try.checked.prog.godebug = none := by kernel_rfl
theorem laidOut : laidOutB Try.checked.prog = true := by kernel_rfl

set_option maxRecDepth 100000 in
theorem sumExact_lifted (os : Os) (started : os.Started) (H : Type) (enc : TypeId × Value → H) :
    ReturnsInHanded {} Try.checked os 5 .any (Rows.sumExactSpec.pre6 enc Try.checked.prog Try.f5 [] false) (Rows.sumExactSpec.post enc Try.checked.prog Try.f5 false true false false) :=
  law_handed (C := Try.checked) own started (by kernel_rfl) Try.func5 rfl (by decide)
    (ChangeSpec.witness6 (enc := enc) (C := Try.checked) false ⟨#[], #[.slice none 0 0], []⟩ 12 (by kernel_rfl) (by kernel_rfl) (by kernel_rfl) (by kernel_rfl))
    laidOut (ktsB_sound _ [.slice (.int .i64)] (by kernel_rfl)) (by decide +kernel) rfl (by kernel_rfl) sumExact_law Yh5 (fun x h w => trivial)

theorem sumExact_holds : Rows.SumExactSaid :=
  OpenClaim.holds_of_wide 5 Try.f5 rfl rfl rfl rfl rfl rfl rfl ⟨rfl, rfl, rfl, rfl, rfl⟩ rfl rfl rfl rfl rfl (by kernel_rfl) Try.func5 (by kernel_rfl)
    (of_decide_eq_true (by kernel_rfl)) (by unfold Func.isWrapper; first | (rw [if_pos (by decide +kernel)]; kernel_rfl) | (rw [if_neg (by decide +kernel)]; exact ⟨rfl, rfl⟩))
    (fun os started H enc _ => sumExact_lifted os started H enc)
end Go.Proofs.Ytkgkckjgdajegaa
