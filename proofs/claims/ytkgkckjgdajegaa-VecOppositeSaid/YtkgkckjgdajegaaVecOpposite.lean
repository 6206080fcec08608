/- tarnlaw07.VecOpposite: at every input it returns true. -/
import Derived.Test.YtkgkckjgdajegaaRows
import Derived.ProofKit
import Derived.Test.YtkgkckjgdajegaaPtC
set_option linter.unusedVariables false
set_option linter.unusedSimpArgs false
set_option linter.unusedSectionVars false
/- Vectors: axes and opposites. Own work. -/
set_option linter.unusedVariables false
set_option linter.unusedSimpArgs false
namespace Go.Lift
open Ieee

theorem alike_of {u v : Nat × Nat × Nat} (h : u = v) : (alikeR u v).fst = true := by subst h; exact alike_self u
theorem same_of {u v : Nat} (h : u = v) : (sameR u v).fst = true := by subst h; exact same_self u
theorem no_not {b : Bool} (h : b = true) (e : (!b) = true) : False := by subst h; cases e
theorem no_false {b : Bool} (h : b = true) (e : b = false) : False := by subst h; cases e
theorem length_moved (a : Nat × Nat × Nat) : lengthQ (movedV a) = lengthQ a := by
  unfold lengthQ
  rw [← three_rot (mulQ_w a.1 a.1) (mulQ_w a.2.1 a.2.1) (mulQ_w a.2.2 a.2.2)]
  rfl
theorem length_swapped (a : Nat × Nat × Nat) : lengthQ (swappedV a) = lengthQ a := by
  unfold lengthQ
  rw [← three_swap (mulQ_w a.1 a.1) (mulQ_w a.2.1 a.2.1) (mulQ_w a.2.2 a.2.2)]
  rfl
theorem length_turned {a : Nat × Nat × Nat} (h : WV a) : lengthQ (turnedV a) = lengthQ a := by
  unfold lengthQ turnedV
  dsimp only
  rw [mul_neg h.1 h.1]
theorem length_against {a : Nat × Nat × Nat} (h : WV a) : lengthQ (againstV a) = lengthQ a := by
  unfold lengthQ againstV canonV
  dsimp only
  rw [sq_neg h.1, sq_neg h.2.1, sq_neg h.2.2]
theorem length_canon {a : Nat × Nat × Nat} (h : WV a) : lengthQ (canonF a.1, canonF a.2.1, canonF a.2.2) = lengthQ a := by
  unfold lengthQ
  dsimp only
  rw [sq_canon h.1, sq_canon h.2.1, sq_canon h.2.2]
theorem minus_anti (a b : Nat × Nat × Nat) : minusV b a = againstV (minusV a b) := by
  unfold minusV againstV canonV
  dsimp only
  rw [sub_anti a.1 b.1, sub_anti a.2.1 b.2.1, sub_anti a.2.2 b.2.2]
theorem less_anti (p q r s : Nat) : canonF (lessQ r s p q) = canonF (negF (canonF (lessQ p q r s))) := sub_anti _ _
theorem cross_swapped (a b : Nat × Nat × Nat) : crossV (swappedV a) (swappedV b) = swappedV (againstV (crossV a b)) := by
  unfold crossV swappedV againstV canonV
  dsimp only
  rw [less_anti a.2.2 b.1 a.1 b.2.2, less_anti a.2.1 b.2.2 a.2.2 b.2.1, less_anti a.1 b.2.1 a.2.1 b.1]
theorem less_comm (p q r s : Nat) : lessQ p q r s = lessQ q p s r := by unfold lessQ; rw [mulQ_comm p q, mulQ_comm r s]
theorem cross_anti (a b : Nat × Nat × Nat) : crossV b a = againstV (crossV a b) := by
  unfold crossV againstV canonV
  dsimp only
  rw [less_comm b.2.1, less_comm b.2.2, less_comm b.1, less_anti a.2.1 b.2.2 a.2.2 b.2.1, less_anti a.2.2 b.1 a.1 b.2.2, less_anti a.1 b.2.1 a.2.1 b.1]
theorem gap_anti (a b : Nat × Nat × Nat) : gapQ b a = gapQ a b := by
  unfold gapQ
  rw [minus_anti a b, length_against (minusV_w a b)]
theorem gap_moved (a b : Nat × Nat × Nat) : gapQ (movedV a) (movedV b) = gapQ a b := length_moved (minusV a b)
theorem gap_swapped (a b : Nat × Nat × Nat) : gapQ (swappedV a) (swappedV b) = gapQ a b := length_swapped (minusV a b)
theorem gap_turned {a b : Nat × Nat × Nat} (ha : WV a) (hb : WV b) : gapQ (turnedV a) (turnedV b) = gapQ a b := by
  unfold gapQ lengthQ minusV turnedV canonV
  dsimp only
  rw [sub_neg ha.1 hb.1, sub_anti a.1 b.1, sq_neg (canonF_w (subQ_w _ _))]
theorem unit_moved (a : Nat × Nat × Nat) : unitV (movedV a) = movedV (unitV a) := by
  unfold unitV
  rw [length_moved]
  split <;> rfl
theorem unit_swapped (a : Nat × Nat × Nat) : unitV (swappedV a) = swappedV (unitV a) := by
  unfold unitV
  rw [length_swapped]
  split <;> rfl
theorem neq_eql (o : Option Ordering) : fcmp .neq o = !fcmp .eql o := by
  cases o with
  | none => rfl
  | some o => cases o <;> rfl
theorem neq_zero {w : Nat} (h : fcmp .neq (double.order w 0) = false) : isN w = false ∧ rungOf w = 0 := by
  rw [neq_eql, eql_zero] at h
  simpa using h
theorem canon_self {x w : Nat} (h1 : quietF w = subQ x x) (h : fcmp .neq (double.order w 0) = false) : canonF (subQ x x) = 0 := by
  obtain ⟨g1, g2⟩ := neq_zero h
  rw [← h1, canonF_quietF, canon_zero g1 g2]
theorem minus_zero {a : Nat × Nat × Nat} (h : WV a) : minusV a (0, 0, 0) = (canonF a.1, canonF a.2.1, canonF a.2.2) := by
  unfold minusV canonV
  dsimp only
  rw [sub_zero h.1, sub_zero h.2.1, sub_zero h.2.2]
theorem length_zero : lengthQ (0, 0, 0) = 0 := by decide +kernel
theorem gap_zero {a : Nat × Nat × Nat} (h : WV a) : gapQ a (0, 0, 0) = lengthQ a := by
  unfold gapQ
  rw [minus_zero h, length_canon h]

/-! ### By halves -/

theorem pairsN_fuel : ∀ (n m : Nat) (l : List Nat), l.length ≤ n → l.length ≤ m → pairsN n l = pairsN m l := by
  have low : ∀ (k : Nat) (l : List Nat), l.length < 2 → l.length ≤ k → pairsN k l = rowQ l := by
    intro k l h1 h2
    cases k with
    | zero =>
      have : l = [] := List.eq_nil_of_length_eq_zero (by omega)
      subst this; rfl
    | succ k => unfold pairsN; rw [if_pos h1]
  intro n
  induction n with
  | zero => intro m l h1 h2; rw [low 0 l (by omega) h1, low m l (by omega) h2]
  | succ n ih =>
    intro m l h1 h2
    by_cases h : l.length < 2
    · rw [low _ l h h1, low _ l h h2]
    · cases m with
      | zero => omega
      | succ m =>
        unfold pairsN
        rw [if_neg h, if_neg h, ih m (l.take _) (by rw [List.length_take]; omega) (by rw [List.length_take]; omega), ih m (l.drop _) (by rw [List.length_drop]; omega) (by rw [List.length_drop]; omega)]
theorem pairs_low {l : List Nat} (h : l.length < 2) : pairsQ l = rowQ l := by
  unfold pairsQ
  rw [pairsN_fuel l.length 2 l (Nat.le_refl _) (by omega)]
  unfold pairsN; rw [if_pos h]
theorem pairs_step {l : List Nat} (h : 2 ≤ l.length) : pairsQ l = addQ (pairsQ (l.take ((l.length + 1) / 2))) (pairsQ (l.drop ((l.length + 1) / 2))) := by
  unfold pairsQ
  rw [pairsN_fuel l.length (l.length + 1) l (Nat.le_refl _) (by omega)]
  rw [show pairsN (l.length + 1) l = if l.length < 2 then rowQ l else addQ (pairsN l.length (l.take ((l.length + 1) / 2))) (pairsN l.length (l.drop ((l.length + 1) / 2))) from rfl]
  rw [if_neg (by omega), pairsN_fuel l.length (l.take ((l.length + 1) / 2)).length (l.take ((l.length + 1) / 2)) (by rw [List.length_take]; omega) (Nat.le_refl _), pairsN_fuel l.length (l.drop ((l.length + 1) / 2)).length (l.drop ((l.length + 1) / 2)) (by rw [List.length_drop]; omega) (Nat.le_refl _)]
theorem pairs_q (l : List Nat) : quietF (pairsQ l) = pairsQ l := pairsN_q _ _
theorem pairs_w {l : List Nat} (h : WL l) : W64 (pairsQ l) := pairsN_w h _
theorem WL_take {l : List Nat} (h : WL l) (k : Nat) : WL (l.take k) := fun x hx => h x (List.mem_of_mem_take hx)
theorem WL_drop {l : List Nat} (h : WL l) (k : Nat) : WL (l.drop k) := fun x hx => h x (List.mem_of_mem_drop hx)
end Go.Lift

/- The laws VecAxes, VecOpposite. Own work. -/
set_option linter.unusedVariables false
set_option linter.unusedSimpArgs false
namespace Go.Lift
open Go.Proofs
def YF10 := fun (a b : Nat × Nat × Nat) (post : Bool × Unit → Prop) =>
  ∃ (h : True),
    ∀ (a_1 : Bool),
      a_1 = trueR0.fst →
        Br (!a_1) (post (Bool.false, ()))
          (∃ (h : True),
            ∃ (h : True),
              ∃ (h : WV2 (movedR (a.fst, a.snd.fst, a.snd.snd)).fst (movedR (b.fst, b.snd.fst, b.snd.snd)).fst),
                ∃ (h : WV2 (a.fst, a.snd.fst, a.snd.snd) (b.fst, b.snd.fst, b.snd.snd)),
                  ∃ (h : True),
                    ∃ (h : True),
                      ∀ (a_2 : Bool),
                        a_2 =
                            (alikeR (minusR (movedR (a.fst, a.snd.fst, a.snd.snd)).fst (movedR (b.fst, b.snd.fst, b.snd.snd)).fst).fst
                                (movedR (minusR (a.fst, a.snd.fst, a.snd.snd) (b.fst, b.snd.fst, b.snd.snd)).fst).fst).fst →
                          Br (!a_2) (post (Bool.false, ()))
                            (∃ (h : True),
                              ∃ (h : True),
                                ∃ (h : WV2 (swappedR (a.fst, a.snd.fst, a.snd.snd)).fst (swappedR (b.fst, b.snd.fst, b.snd.snd)).fst),
                                  ∃ (h : WV2 (a.fst, a.snd.fst, a.snd.snd) (b.fst, b.snd.fst, b.snd.snd)),
                                    ∃ (h : True),
                                      ∃ (h : True),
                                        ∀ (a_3 : Bool),
                                          a_3 =
                                              (alikeR
                                                  (minusR (swappedR (a.fst, a.snd.fst, a.snd.snd)).fst (swappedR (b.fst, b.snd.fst, b.snd.snd)).fst).fst
                                                  (swappedR (minusR (a.fst, a.snd.fst, a.snd.snd) (b.fst, b.snd.fst, b.snd.snd)).fst).fst).fst →
                                            Br (!a_3) (post (Bool.false, ()))
                                              (∃ (h : True),
                                                ∃ (h : True),
                                                  ∃ (h : True),
                                                    ∃ (h : True),
                                                      ∃ (h : True),
                                                        ∃ (h : True),
                                                          ∀ (a_4 : Bool),
                                                            a_4 =
                                                                (alikeR
                                                                    (crossR (movedR (a.fst, a.snd.fst, a.snd.snd)).fst
                                                                        (movedR (b.fst, b.snd.fst, b.snd.snd)).fst).fst
                                                                    (movedR
                                                                        ((crossR (a.fst, a.snd.fst, a.snd.snd) (b.fst, b.snd.fst, b.snd.snd)).fst.fst,
                                                                          (crossR (a.fst, a.snd.fst, a.snd.snd) (b.fst, b.snd.fst, b.snd.snd)).fst.snd.fst,
                                                                          (crossR (a.fst, a.snd.fst, a.snd.snd) (b.fst, b.snd.fst, b.snd.snd)).fst.snd.snd)).fst).fst →
                                                              Br (!a_4) (post (Bool.false, ()))
                                                                (∃ (h : True),
                                                                  ∃ (h : True),
                                                                    ∃ (h : True),
                                                                      ∃ (h : True),
                                                                        ∃ (h : True),
                                                                          ∃ (h : True),
                                                                            ∀ (a_5 : Bool),
                                                                              a_5 =
                                                                                  (alikeR
                                                                                      (crossR (swappedR (a.fst, a.snd.fst, a.snd.snd)).fst
                                                                                          (swappedR (b.fst, b.snd.fst, b.snd.snd)).fst).fst
                                                                                      (swappedR
                                                                                          (againstR
                                                                                              ((crossR (a.fst, a.snd.fst, a.snd.snd) (b.fst, b.snd.fst, b.snd.snd)).fst.fst,
                                                                                                (crossR (a.fst, a.snd.fst, a.snd.snd)
                                                                                                        (b.fst, b.snd.fst, b.snd.snd)).fst.snd.fst,
                                                                                                (crossR (a.fst, a.snd.fst, a.snd.snd)
                                                                                                        (b.fst, b.snd.fst, b.snd.snd)).fst.snd.snd)).fst).fst).fst →
                                                                                Br (!a_5) (post (Bool.false, ()))
                                                                                  (∃ (h : WV (a.fst, a.snd.fst, a.snd.snd)),
                                                                                    ∃ (h : WV2 (a.fst, a.snd.fst, a.snd.snd) (b.fst, b.snd.fst, b.snd.snd)),
                                                                                      ∃ (h : True),
                                                                                        ∃ (h : WV (movedR (a.fst, a.snd.fst, a.snd.snd)).fst),
                                                                                          ∃ (h : True),
                                                                                            ∀ (a_6 : Bool),
                                                                                              a_6 =
                                                                                                  (sameR
                                                                                                      (lengthR (movedR (a.fst, a.snd.fst, a.snd.snd)).fst).fst
                                                                                                      (lengthR (a.fst, a.snd.fst, a.snd.snd)).fst).fst →
                                                                                                Br (!a_6) (post (Bool.false, ()))
                                                                                                  (∃ (h : True),
                                                                                                    ∃ (h : WV (swappedR (a.fst, a.snd.fst, a.snd.snd)).fst),
                                                                                                      ∃ (h : True),
                                                                                                        ∀ (a_7 : Bool),
                                                                                                          a_7 =
                                                                                                              (sameR
                                                                                                                  (lengthR
                                                                                                                      (swappedR (a.fst, a.snd.fst, a.snd.snd)).fst).fst
                                                                                                                  (lengthR (a.fst, a.snd.fst, a.snd.snd)).fst).fst →
                                                                                                            Br (!a_7) (post (Bool.false, ()))
                                                                                                              (∃ (h : True),
                                                                                                                ∃ (h :
                                                                                                                  WV (turnedR (a.fst, a.snd.fst, a.snd.snd)).fst),
                                                                                                                  ∃ (h : True),
                                                                                                                    ∀ (a_8 : Bool),
                                                                                                                      a_8 =
                                                                                                                          (sameR
                                                                                                                              (lengthR
                                                                                                                                  (turnedR
                                                                                                                                      (a.fst, a.snd.fst, a.snd.snd)).fst).fst
                                                                                                                              (lengthR
                                                                                                                                  (a.fst, a.snd.fst, a.snd.snd)).fst).fst →
                                                                                                                        Br (!a_8) (post (Bool.false, ()))
                                                                                                                          (∃ (h : True),
                                                                                                                            ∃ (h : True),
                                                                                                                              ∃ (h :
                                                                                                                                WV2
                                                                                                                                  (movedR (a.fst, a.snd.fst, a.snd.snd)).fst
                                                                                                                                  (movedR
                                                                                                                                      (b.fst, b.snd.fst, b.snd.snd)).fst),
                                                                                                                                ∃ (h : True),
                                                                                                                                  ∀ (a_9 : Bool),
                                                                                                                                    a_9 =
                                                                                                                                        (sameR
                                                                                                                                            (gapR
                                                                                                                                                (movedR
                                                                                                                                                    (a.fst, a.snd.fst,
                                                                                                                                                      a.snd.snd)).fst
                                                                                                                                                (movedR
                                                                                                                                                    (b.fst, b.snd.fst,
                                                                                                                                                      b.snd.snd)).fst).fst
                                                                                                                                            (gapR
                                                                                                                                                (a.fst, a.snd.fst, a.snd.snd)
                                                                                                                                                (b.fst, b.snd.fst,
                                                                                                                                                  b.snd.snd)).fst).fst →
                                                                                                                                      Br (!a_9) (post (Bool.false, ()))
                                                                                                                                        (∃ (h : True),
                                                                                                                                          ∃ (h : True),
                                                                                                                                            ∃ (h :
                                                                                                                                              WV2
                                                                                                                                                (swappedR
                                                                                                                                                    (a.fst, a.snd.fst,
                                                                                                                                                      a.snd.snd)).fst
                                                                                                                                                (swappedR
                                                                                                                                                    (b.fst, b.snd.fst,
                                                                                                                                                      b.snd.snd)).fst),
                                                                                                                                              ∃ (h : True),
                                                                                                                                                ∀ (a_10 : Bool),
                                                                                                                                                  a_10 =
                                                                                                                                                      (sameR
                                                                                                                                                          (gapR
                                                                                                                                                              (swappedR
                                                                                                                                                                  (a.fst, a.snd.fst,
                                                                                                                                                                    a.snd.snd)).fst
                                                                                                                                                              (swappedR
                                                                                                                                                                  (b.fst, b.snd.fst,
                                                                                                                                                                    b.snd.snd)).fst).fst
                                                                                                                                                          (gapR
                                                                                                                                                              (a.fst, a.snd.fst,
                                                                                                                                                                a.snd.snd)
                                                                                                                                                              (b.fst, b.snd.fst,
                                                                                                                                                                b.snd.snd)).fst).fst →
                                                                                                                                                    Br (!a_10)
                                                                                                                                                      (post (Bool.false, ()))
                                                                                                                                                      (∃ (h : True),
                                                                                                                                                        ∃ (h : True),
                                                                                                                                                          ∃ (h :
                                                                                                                                                            WV2
                                                                                                                                                              (turnedR
                                                                                                                                                                  (a.fst, a.snd.fst,
                                                                                                                                                                    a.snd.snd)).fst
                                                                                                                                                              (turnedR
                                                                                                                                                                  (b.fst, b.snd.fst,
                                                                                                                                                                    b.snd.snd)).fst),
                                                                                                                                                            ∃ (h : True),
                                                                                                                                                              ∀ (a_11 : Bool),
                                                                                                                                                                a_11 =
                                                                                                                                                                    (sameR
                                                                                                                                                                        (gapR
                                                                                                                                                                            (turnedR
                                                                                                                                                                                (a.fst,
                                                                                                                                                                                  a.snd.fst,
                                                                                                                                                                                  a.snd.snd)).fst
                                                                                                                                                                            (turnedR
                                                                                                                                                                                (b.fst,
                                                                                                                                                                                  b.snd.fst,
                                                                                                                                                                                  b.snd.snd)).fst).fst
                                                                                                                                                                        (gapR
                                                                                                                                                                            (a.fst,
                                                                                                                                                                              a.snd.fst,
                                                                                                                                                                              a.snd.snd)
                                                                                                                                                                            (b.fst,
                                                                                                                                                                              b.snd.fst,
                                                                                                                                                                              b.snd.snd)).fst).fst →
                                                                                                                                                                  Br (!a_11)
                                                                                                                                                                    (post
                                                                                                                                                                      (Bool.false,
                                                                                                                                                                        ()))
                                                                                                                                                                    (∃ (h : True),
                                                                                                                                                                      ∃ (h :
                                                                                                                                                                        WV
                                                                                                                                                                          (movedR
                                                                                                                                                                              (a.fst,
                                                                                                                                                                                a.snd.fst,
                                                                                                                                                                                a.snd.snd)).fst),
                                                                                                                                                                        ∃ (h :
                                                                                                                                                                          WV
                                                                                                                                                                            (a.fst,
                                                                                                                                                                              a.snd.fst,
                                                                                                                                                                              a.snd.snd)),
                                                                                                                                                                          ∃ (h :
                                                                                                                                                                            True),
                                                                                                                                                                            ∃ (h :
                                                                                                                                                                              True),
                                                                                                                                                                              ∀
                                                                                                                                                                                (a_12 :
                                                                                                                                                                                  Bool),
                                                                                                                                                                                a_12 =
                                                                                                                                                                                    (alikeR
                                                                                                                                                                                        (unitR
                                                                                                                                                                                            (movedR
                                                                                                                                                                                                (a.fst,
                                                                                                                                                                                                  a.snd.fst,
                                                                                                                                                                                                  a.snd.snd)).fst).fst
                                                                                                                                                                                        (movedR
                                                                                                                                                                                            (unitR
                                                                                                                                                                                                (a.fst,
                                                                                                                                                                                                  a.snd.fst,
                                                                                                                                                                                                  a.snd.snd)).fst).fst).fst →
                                                                                                                                                                                  Br
                                                                                                                                                                                    a_12
                                                                                                                                                                                    (∃
                                                                                                                                                                                      (h
                                                                                                                                                                                      :
                                                                                                                                                                                      True),
                                                                                                                                                                                      ∃
                                                                                                                                                                                        (h
                                                                                                                                                                                        :
                                                                                                                                                                                        WV
                                                                                                                                                                                          (swappedR
                                                                                                                                                                                              (a.fst,
                                                                                                                                                                                                a.snd.fst,
                                                                                                                                                                                                a.snd.snd)).fst),
                                                                                                                                                                                        ∃
                                                                                                                                                                                          (h
                                                                                                                                                                                          :
                                                                                                                                                                                          WV
                                                                                                                                                                                            (a.fst,
                                                                                                                                                                                              a.snd.fst,
                                                                                                                                                                                              a.snd.snd)),
                                                                                                                                                                                          ∃
                                                                                                                                                                                            (h
                                                                                                                                                                                            :
                                                                                                                                                                                            True),
                                                                                                                                                                                            ∃
                                                                                                                                                                                              (h
                                                                                                                                                                                              :
                                                                                                                                                                                              True),
                                                                                                                                                                                              ∀
                                                                                                                                                                                                (a_13 :
                                                                                                                                                                                                  Bool),
                                                                                                                                                                                                a_13 =
                                                                                                                                                                                                    (alikeR
                                                                                                                                                                                                        (unitR
                                                                                                                                                                                                            (swappedR
                                                                                                                                                                                                                (a.fst,
                                                                                                                                                                                                                  a.snd.fst,
                                                                                                                                                                                                                  a.snd.snd)).fst).fst
                                                                                                                                                                                                        (swappedR
                                                                                                                                                                                                            (unitR
                                                                                                                                                                                                                (a.fst,
                                                                                                                                                                                                                  a.snd.fst,
                                                                                                                                                                                                                  a.snd.snd)).fst).fst).fst →
                                                                                                                                                                                                  post
                                                                                                                                                                                                    (a_13,
                                                                                                                                                                                                      ()))
                                                                                                                                                                                    (post
                                                                                                                                                                                      (Bool.false,
                                                                                                                                                                                        ())))))))))))))
def Yx10 : Cx := ⟨tabOf Ytab, conOf [(27, Yq27), (40, Yq40), (29, Yq29), (28, Yq28), (41, Yq41), (31, Yq31), (42, Yq42), (36, Yq36), (34, Yq34), (33, Yq33), (43, Yq43), (38, Yq38)], fun _ => none⟩
theorem Yx10_ok : CxOk Try.prog Yx10 := ⟨tabB_sound Ytab_ok, conOf_sound ⟨Yh27, Yh40, Yh29, Yh28, Yh41, Yh31, Yh42, Yh36, Yh34, Yh33, Yh43, Yh38, trivial⟩⟩
theorem Yat10 : FnAt Try.prog 10 Try.f10.ntmps Try.f10.results.toList (Try.f10.body.getD .skip) := ⟨Try.f10, Try.func10, rfl, rfl, by simp, by decide⟩
theorem Yf10_eq (a : Nat × Nat × Nat) (b : Nat × Nat × Nat) (post : Bool × Unit → Prop) : fnEval Yx10 nHn Try.f10.ntmps Try.f10.results.toList (Try.f10.body.getD .skip) [kVec, kVec] [.snap .bool] (a, b, ()) post = YF10 a b post := by kernel_rfl
theorem Yl10 (a : Nat × Nat × Nat) (b : Nat × Nat × Nat) (h : WV2 a b) : YF10 a b (fun r => r = trueR2 a b) := by
  obtain ⟨ha, hb⟩ := h
  have h : WV2 a b := ⟨ha, hb⟩
  have hma : WV (movedV a) := ⟨ha.2.1, ha.2.2, ha.1⟩
  have hmb : WV (movedV b) := ⟨hb.2.1, hb.2.2, hb.1⟩
  have hsa : WV (swappedV a) := ⟨ha.2.1, ha.1, ha.2.2⟩
  have hsb : WV (swappedV b) := ⟨hb.2.1, hb.1, hb.2.2⟩
  have hta : WV (turnedV a) := ⟨negF_w ha.1, ha.2.1, ha.2.2⟩
  have htb : WV (turnedV b) := ⟨negF_w hb.1, hb.2.1, hb.2.2⟩
  refine ⟨trivial, ?_⟩
  rintro _ rfl
  refine Br.intro (fun e => by cases e) fun _ => ⟨trivial, trivial, ⟨hma, hmb⟩, h, trivial, trivial, ?_⟩
  rintro _ rfl
  refine Br.intro (fun e => (no_not (alike_of (u := minusV (movedV a) (movedV b)) (v := movedV (minusV a b)) rfl) e).elim) fun _ => ⟨trivial, trivial, ⟨hsa, hsb⟩, h, trivial, trivial, ?_⟩
  rintro _ rfl
  refine Br.intro (fun e => (no_not (alike_of (u := minusV (swappedV a) (swappedV b)) (v := swappedV (minusV a b)) rfl) e).elim) fun _ => ⟨trivial, trivial, trivial, trivial, trivial, trivial, ?_⟩
  rintro _ rfl
  refine Br.intro (fun e => (no_not (alike_of (u := crossV (movedV a) (movedV b)) (v := movedV (crossV a b)) rfl) e).elim) fun _ => ⟨trivial, trivial, trivial, trivial, trivial, trivial, ?_⟩
  rintro _ rfl
  refine Br.intro (fun e => (no_not (alike_of (cross_swapped a b)) e).elim) fun _ => ⟨ha, h, trivial, hma, trivial, ?_⟩
  rintro _ rfl
  refine Br.intro (fun e => (no_not (same_of (length_moved a)) e).elim) fun _ => ⟨trivial, hsa, trivial, ?_⟩
  rintro _ rfl
  refine Br.intro (fun e => (no_not (same_of (length_swapped a)) e).elim) fun _ => ⟨trivial, hta, trivial, ?_⟩
  rintro _ rfl
  refine Br.intro (fun e => (no_not (same_of (length_turned ha)) e).elim) fun _ => ⟨trivial, trivial, ⟨hma, hmb⟩, trivial, ?_⟩
  rintro _ rfl
  refine Br.intro (fun e => (no_not (same_of (gap_moved a b)) e).elim) fun _ => ⟨trivial, trivial, ⟨hsa, hsb⟩, trivial, ?_⟩
  rintro _ rfl
  refine Br.intro (fun e => (no_not (same_of (gap_swapped a b)) e).elim) fun _ => ⟨trivial, trivial, ⟨hta, htb⟩, trivial, ?_⟩
  rintro _ rfl
  refine Br.intro (fun e => (no_not (same_of (gap_turned ha hb)) e).elim) fun _ => ⟨trivial, hma, ha, trivial, trivial, ?_⟩
  rintro _ rfl
  refine Br.intro (fun _ => ⟨trivial, hsa, ha, trivial, trivial, ?_⟩) (fun e => (no_false (alike_of (unit_moved a)) e).elim)
  rintro _ rfl
  exact congrArg r1 (alike_of (unit_swapped a))
theorem Yh10 : Yq10.holds Try.prog (fun _ => none) 10 :=
  detP Yx10_ok Ymixed nHn Yat10 (F := fun x post => YF10 x.1 x.2.1 post) (fun x post => Yf10_eq x.1 x.2.1 post) fun x h _ => Yl10 x.1 x.2.1 h
def YF11 := fun (a b : Nat × Nat × Nat) (post : Bool × Unit → Prop) =>
  ∃ (h : True),
    ∀ (a_1 : Bool),
      a_1 = trueR0.fst →
        Br (!a_1) (post (Bool.false, ()))
          (∃ (h : WV2 (b.fst, b.snd.fst, b.snd.snd) (a.fst, a.snd.fst, a.snd.snd)),
            ∃ (h : WV2 (a.fst, a.snd.fst, a.snd.snd) (b.fst, b.snd.fst, b.snd.snd)),
              ∃ (h : True),
                ∃ (h : True),
                  ∀ (a_2 : Bool),
                    a_2 =
                        (alikeR (minusR (b.fst, b.snd.fst, b.snd.snd) (a.fst, a.snd.fst, a.snd.snd)).fst
                            (againstR (minusR (a.fst, a.snd.fst, a.snd.snd) (b.fst, b.snd.fst, b.snd.snd)).fst).fst).fst →
                      Br (!a_2) (post (Bool.false, ()))
                        (∃ (h : True),
                          ∃ (h : True),
                            ∃ (h : True),
                              ∃ (h : True),
                                ∀ (a_3 : Bool),
                                  a_3 =
                                      (alikeR (crossR (b.fst, b.snd.fst, b.snd.snd) (a.fst, a.snd.fst, a.snd.snd)).fst
                                          (againstR (crossR (a.fst, a.snd.fst, a.snd.snd) (b.fst, b.snd.fst, b.snd.snd)).fst).fst).fst →
                                    Br (!a_3) (post (Bool.false, ()))
                                      (∃ (h : WV2 (b.fst, b.snd.fst, b.snd.snd) (a.fst, a.snd.fst, a.snd.snd)),
                                        ∃ (h : WV2 (a.fst, a.snd.fst, a.snd.snd) (b.fst, b.snd.fst, b.snd.snd)),
                                          ∃ (h : True),
                                            ∀ (a_4 : Bool),
                                              a_4 =
                                                  (sameR (gapR (b.fst, b.snd.fst, b.snd.snd) (a.fst, a.snd.fst, a.snd.snd)).fst
                                                      (gapR (a.fst, a.snd.fst, a.snd.snd) (b.fst, b.snd.fst, b.snd.snd)).fst).fst →
                                                Br (!a_4) (post (Bool.false, ()))
                                                  (∀ (a_5 : Nat),
                                                    FRes Go.FloatKind.f64 (Go.FloatKind.f64.format.sub a.fst a.fst) a_5 →
                                                      ∀ (a_6 : Bool),
                                                        a_6 = fcmp Go.BinOp.neq (Go.FloatKind.f64.format.order a_5 (0 : Nat)) →
                                                          Br a_6 (post (Bool.true, ()))
                                                            (∀ (a_7 : Nat),
                                                              FRes Go.FloatKind.f64 (Go.FloatKind.f64.format.sub a.snd.fst a.snd.fst) a_7 →
                                                                ∀ (a_8 : Bool),
                                                                  a_8 = fcmp Go.BinOp.neq (Go.FloatKind.f64.format.order a_7 (0 : Nat)) →
                                                                    Br a_8 (post (Bool.true, ()))
                                                                      (∀ (a_9 : Nat),
                                                                        FRes Go.FloatKind.f64 (Go.FloatKind.f64.format.sub a.snd.snd a.snd.snd) a_9 →
                                                                          ∀ (a_10 : Bool),
                                                                            a_10 = fcmp Go.BinOp.neq (Go.FloatKind.f64.format.order a_9 (0 : Nat)) →
                                                                              Br a_10 (post (Bool.true, ()))
                                                                                (∃ (h : WV2 (a.fst, a.snd.fst, a.snd.snd) (a.fst, a.snd.fst, a.snd.snd)),
                                                                                  ∃ (h : True),
                                                                                    ∃ (h : True),
                                                                                      ∀ (a_11 : Bool),
                                                                                        a_11 =
                                                                                            (alikeR
                                                                                                (minusR (a.fst, a.snd.fst, a.snd.snd) (a.fst, a.snd.fst, a.snd.snd)).fst
                                                                                                (atR (0 : Nat) (0 : Nat) (0 : Nat)).fst).fst →
                                                                                          Br (!a_11) (post (Bool.false, ()))
                                                                                            (∃ (h : WV2 (a.fst, a.snd.fst, a.snd.snd) (a.fst, a.snd.fst, a.snd.snd)),
                                                                                              ∃ (h : True),
                                                                                                ∀ (a_12 : Bool),
                                                                                                  a_12 =
                                                                                                      (sameR
                                                                                                          (gapR (a.fst, a.snd.fst, a.snd.snd)
                                                                                                              (a.fst, a.snd.fst, a.snd.snd)).fst
                                                                                                          (0 : Nat)).fst →
                                                                                                    Br (!a_12) (post (Bool.false, ()))
                                                                                                      (∃ (h : True),
                                                                                                        ∃ (h :
                                                                                                          WV2 (a.fst, a.snd.fst, a.snd.snd)
                                                                                                            (atR (0 : Nat) (0 : Nat) (0 : Nat)).fst),
                                                                                                          ∃ (h : True),
                                                                                                            ∃ (h : True),
                                                                                                              ∃ (h : True),
                                                                                                                ∃ (h : True),
                                                                                                                  ∃ (h : True),
                                                                                                                    ∀ (a_13 : Bool),
                                                                                                                      a_13 =
                                                                                                                          (alikeR
                                                                                                                              (minusR (a.fst, a.snd.fst, a.snd.snd)
                                                                                                                                  (atR (0 : Nat) (0 : Nat)
                                                                                                                                      (0 : Nat)).fst).fst
                                                                                                                              (atR (canonR a.fst).fst
                                                                                                                                  (canonR a.snd.fst).fst
                                                                                                                                  (canonR a.snd.snd).fst).fst).fst →
                                                                                                                        Br a_13
                                                                                                                          (∃ (h : True),
                                                                                                                            ∃ (h :
                                                                                                                              WV2 (a.fst, a.snd.fst, a.snd.snd)
                                                                                                                                (atR (0 : Nat) (0 : Nat) (0 : Nat)).fst),
                                                                                                                              ∃ (h : WV (a.fst, a.snd.fst, a.snd.snd)),
                                                                                                                                ∃ (h : True),
                                                                                                                                  ∀ (a_14 : Bool),
                                                                                                                                    a_14 =
                                                                                                                                        (sameR
                                                                                                                                            (gapR
                                                                                                                                                (a.fst, a.snd.fst, a.snd.snd)
                                                                                                                                                (atR (0 : Nat) (0 : Nat)
                                                                                                                                                    (0 : Nat)).fst).fst
                                                                                                                                            (lengthR
                                                                                                                                                (a.fst, a.snd.fst,
                                                                                                                                                  a.snd.snd)).fst).fst →
                                                                                                                                      post (a_14, ()))
                                                                                                                          (post (Bool.false, ())))))))))))
def Yx11 : Cx := ⟨tabOf Ytab, conOf [(27, Yq27), (29, Yq29), (42, Yq42), (28, Yq28), (31, Yq31), (34, Yq34), (33, Yq33), (44, Yq44), (45, Yq45), (36, Yq36)], fun _ => none⟩
theorem Yx11_ok : CxOk Try.prog Yx11 := ⟨tabB_sound Ytab_ok, conOf_sound ⟨Yh27, Yh29, Yh42, Yh28, Yh31, Yh34, Yh33, Yh44, Yh45, Yh36, trivial⟩⟩
theorem Yat11 : FnAt Try.prog 11 Try.f11.ntmps Try.f11.results.toList (Try.f11.body.getD .skip) := ⟨Try.f11, Try.func11, rfl, rfl, by simp, by decide⟩
theorem Yf11_eq (a : Nat × Nat × Nat) (b : Nat × Nat × Nat) (post : Bool × Unit → Prop) : fnEval Yx11 nHn Try.f11.ntmps Try.f11.results.toList (Try.f11.body.getD .skip) [kVec, kVec] [.snap .bool] (a, b, ()) post = YF11 a b post := by kernel_rfl
theorem Yl11 (a : Nat × Nat × Nat) (b : Nat × Nat × Nat) (h : WV2 a b) : YF11 a b (fun r => r = trueR2 a b) := by
  obtain ⟨ha, hb⟩ := h
  have h : WV2 a b := ⟨ha, hb⟩
  have h' : WV2 b a := ⟨hb, ha⟩
  have haa : WV2 a a := ⟨ha, ha⟩
  have ha0 : WV2 a (0, 0, 0) := ⟨ha, WV0⟩
  refine ⟨trivial, ?_⟩
  rintro _ rfl
  refine Br.intro (fun e => by cases e) fun _ => ⟨h', h, trivial, trivial, ?_⟩
  rintro _ rfl
  refine Br.intro (fun e => (no_not (alike_of (minus_anti a b)) e).elim) fun _ => ⟨trivial, trivial, trivial, trivial, ?_⟩
  rintro _ rfl
  refine Br.intro (fun e => (no_not (alike_of (cross_anti a b)) e).elim) fun _ => ⟨h', h, trivial, ?_⟩
  rintro _ rfl
  refine Br.intro (fun e => (no_not (same_of (gap_anti a b)) e).elim) fun _ => ?_
  intro x hx
  rintro _ rfl
  refine Br.intro (fun _ => rfl) fun zx => ?_
  intro y hy
  rintro _ rfl
  refine Br.intro (fun _ => rfl) fun zy => ?_
  intro z hz
  rintro _ rfl
  refine Br.intro (fun _ => rfl) fun zz => ⟨haa, trivial, trivial, ?_⟩
  have m0 : minusV a a = (0, 0, 0) := by
    unfold minusV canonV
    rw [canon_self (fsub hx).1 zx, canon_self (fsub hy).1 zy, canon_self (fsub hz).1 zz]
  rintro _ rfl
  refine Br.intro (fun e => (no_not (alike_of m0) e).elim) fun _ => ⟨haa, trivial, ?_⟩
  have g0 : gapQ a a = 0 := by unfold gapQ; rw [m0]; exact length_zero
  rintro _ rfl
  refine Br.intro (fun e => (no_not (same_of g0) e).elim) fun _ => ⟨trivial, ha0, trivial, trivial, trivial, trivial, trivial, ?_⟩
  rintro _ rfl
  refine Br.intro (fun _ => ⟨trivial, ha0, ha, trivial, ?_⟩) (fun e => (no_false (alike_of (minus_zero ha)) e).elim)
  rintro _ rfl
  exact congrArg r1 (same_of (gap_zero ha))
theorem Yh11 : Yq11.holds Try.prog (fun _ => none) 11 :=
  detP Yx11_ok Ymixed nHn Yat11 (F := fun x post => YF11 x.1 x.2.1 post) (fun x post => Yf11_eq x.1 x.2.1 post) fun x h _ => Yl11 x.1 x.2.1 h
end Go.Lift

/- What a row says of floats. Own work. -/
namespace Go.Lift
theorem rngF {b : Nat} (h : K.rng (.flt .f64) b) : W64 b := by
  have h : (Lit.float .f64 b).wf = true := h
  have := of_decide_eq_true (show decide (b < 2 ^ 64) = true from h)
  exact this
theorem rngV {v : Nat × Nat × Nat} (h : K.rng (.pair (.flt .f64) (.pair (.flt .f64) (.flt .f64))) v) : WV v := ⟨rngF h.1, rngF h.2.1, rngF h.2.2⟩
theorem rngL {l : List Nat} (h : K.rng (.slice (.flt .f64)) l) : WL l := fun x hx => rngF (h x hx)
end Go.Lift

namespace Go.Proofs.Ytkgkckjgdajegaa
open Go.Lift

theorem vecOpposite_law : LawSpec Rows.vecOppositeSpec 2 := ⟨rfl, fun H ds h => by
  match ds, h with
  | [d1, d2], _ => rfl⟩
theorem own : ownKnob Try.checked.prog.godebug = none := by kernel_rfl
theorem laidOut : laidOutB Try.checked.prog = true := by kernel_rfl

set_option maxRecDepth 100000 in
theorem vecOpposite_lifted (os : Os) (started : os.Started) (H : Type) (enc : TypeId × Value → H) :
    ReturnsInHanded {} Try.checked os 11 .any (Rows.vecOppositeSpec.pre6 enc Try.checked.prog Try.f11 [] false) (Rows.vecOppositeSpec.post enc Try.checked.prog Try.f11 false true false false) :=
  law_handed (C := Try.checked) own started (by kernel_rfl) Try.func11 rfl (by decide)
    (ChangeSpec.witness6 (enc := enc) (C := Try.checked) false ⟨#[], #[.agg #[.float .f64 0, .float .f64 0, .float .f64 0], .agg #[.float .f64 0, .float .f64 0, .float .f64 0]], []⟩ 12 (by kernel_rfl) (by kernel_rfl) (by kernel_rfl) (by kernel_rfl))
    laidOut (ktsB_sound _ [kVec, kVec] (by kernel_rfl)) (by decide +kernel) rfl (by kernel_rfl) vecOpposite_law Yh11 (fun x h w => ⟨rngV h.1, rngV h.2.1⟩)

theorem vecOpposite_holds : Rows.VecOppositeSaid :=
  OpenClaim.holds_of_wide 11 Try.f11 rfl rfl rfl rfl rfl rfl rfl ⟨rfl, rfl, rfl, rfl, rfl⟩ rfl rfl rfl rfl rfl (by kernel_rfl) Try.func11 (by kernel_rfl)
    (of_decide_eq_true (by kernel_rfl)) (by unfold Func.isWrapper; first | (rw [if_pos (by decide +kernel)]; kernel_rfl) | (rw [if_neg (by decide +kernel)]; exact ⟨rfl, rfl⟩))
    (fun os started H enc _ => vecOpposite_lifted os started H enc)
end Go.Proofs.Ytkgkckjgdajegaa
