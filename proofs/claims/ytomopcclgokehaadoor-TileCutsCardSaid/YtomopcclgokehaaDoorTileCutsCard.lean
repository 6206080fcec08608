/- tarnlaw24.TileCuts: at every input it returns true and leaves the arguments as they were; geom.frames reads as the program's text lays it. -/
import Derived.Test.YtomopcclgokehaaDoorTie
import Derived.Test.YtomopcclgokehaaDoorCards
import Derived.Test.YtomopcclgokehaaDoorPtE
set_option linter.unusedVariables false
set_option linter.unusedSimpArgs false
set_option linter.unusedSectionVars false
/- Own work. -/
set_option linter.unusedVariables false
set_option linter.unusedSimpArgs false
namespace Go.Lift
def Fx_sum_row := fun (a : List Nat) (post : Nat × Unit → Prop) => ∀ (a_1 : Bool), a_1 = ((↑a.length : Int) == (0 : Int)) → Br a_1 (post ((0 : Nat), ())) (∃ (h : (0 : Int) ≤ (0 :
  Int) ∧ (0 : Int) < (↑a.length : Int)), ∃ (h : (0 : Int) ≤ (1 : Int) ∧ (1 : Int) ≤ (↑a.length : Int) ∧ (↑a.length : Int) ≤ (↑a.length : Int)), HIs [] [] ∧ ∃ (I : Nat × Int × Unit →
  Unit → Prop), ∃ (μ : Nat × Int × Unit → Unit → Nat), I (a.getD (Int.toNat (0 : Int)) (0 : Nat), (0 : Int), ()) () ∧ ∀ (x : Nat × Int × Unit) (y : Unit), I x y → ∀ (a_2 : Bool),
  a_2 = decide (x.snd.fst < (↑(List.take ((↑a.length : Int) - (1 : Int)).toNat (List.drop (Int.toNat (1 : Int)) a)).length : Int)) → Br a_2 (∃ (h : (0 : Int) ≤ x.snd.fst ∧ x.snd.fst
  < (↑(List.take ((↑a.length : Int) - (1 : Int)).toNat (List.drop (Int.toNat (1 : Int)) a)).length : Int)), ∀ (a_3 : Nat), FRes Go.FloatKind.f64 (Go.FloatKind.f64.format.add x.fst
  ((List.take ((↑a.length : Int) - (1 : Int)).toNat (List.drop (Int.toNat (1 : Int)) a)).getD x.snd.fst.toNat (0 : Nat))) a_3 → HIs [] [] ∧ I (a_3, IntKind.i64.wrap (x.snd.fst + (1
  : Int)), ()) () ∧ μ (a_3, IntKind.i64.wrap (x.snd.fst + (1 : Int)), ()) () < μ x y) (∃ (h : True), post ((quietR x.fst).fst, ())))
theorem Lx_sum_row (a : List Nat) (h : WL a) (w : KS.wf [.slice (.flt .f64)] (a, ())) : Fx_sum_row  a (fun r => r = rowR a) := by
  have hl : a.length ≤ maxN := w.1.1
  unfold maxN at hl
  rintro _ rfl
  refine Br.intro (fun e => ?_) fun e => ?_
  · have e : a.length = 0 := by have := eq_of_beq e; omega
    have : a = [] := List.eq_nil_of_length_eq_zero e
    subst this; rfl
  · have e : 0 < a.length := by
      rcases Nat.eq_zero_or_pos a.length with z | z
      · rw [z] at e; cases e
      · exact z
    refine ⟨⟨by omega, by omega⟩, ⟨by omega, by omega, by omega⟩, rfl, fun x _ => ∃ i : Nat, x.2.1 = i ∧ i + 1 ≤ a.length ∧ W64 x.1 ∧ quietF x.1 = rowQ (a.take (i + 1)), fun x _ => a.length - x.2.1.toNat, ⟨0, rfl, by omega, WL_getD h 0, (rowQ_one e).symm⟩, ?_⟩
    have ht : List.take ((a.length : Int) - 1).toNat (List.drop (Int.toNat 1) a) = a.drop 1 := by
      show List.take ((a.length : Int) - 1).toNat (List.drop 1 a) = a.drop 1
      apply List.take_of_length_le; rw [List.length_drop]; omega
    rw [ht]
    have hd : ∀ i, (a.drop 1).getD i 0 = a.getD (i + 1) 0 := by
      intro i; rw [List.getD_eq_getElem?_getD, List.getD_eq_getElem?_getD, List.getElem?_drop, Nat.add_comm]
    rintro ⟨acc, _, ⟨⟩⟩ _ ⟨i, hi, hil, hw, hq⟩
    dsimp only at hi hw hq
    subst hi
    dsimp only
    rintro _ rfl
    refine Br.intro (fun f => ?_) fun f => ?_
    · have f : i + 1 < a.length := by have := of_decide_eq_true f; rw [List.length_drop] at this; omega
      refine ⟨⟨by omega, by rw [List.length_drop]; omega⟩, fun r hr => ?_⟩
      rw [Int.toNat_natCast, hd] at hr
      obtain ⟨q1, q2⟩ := fadd hr
      refine ⟨rfl, ⟨i + 1, ?_, by omega, q2, ?_⟩, ?_⟩
      · rw [wi ⟨by omega, by omega⟩]; omega
      · show quietF r = _
        rw [q1, rowQ_at f (by omega), addQ_congr (x' := rowQ (a.take (i + 1))) (by rw [hq, rowQ_q]) rfl]
      · rw [wi ⟨by omega, by omega⟩]; omega
    · have f : a.length ≤ i + 1 := by have := of_decide_eq_false f; rw [List.length_drop] at this; omega
      refine ⟨trivial, congrArg r1 ?_⟩
      show quietF acc = _
      rw [hq, List.take_of_length_le f]
def Fx_ref05_Three := fun (a b c : Nat) (post : Nat × Unit → Prop) => ∃ (h : W2 b a), ∀ (a_1 : Bool), a_1 = (aheadR b a).fst → Br a_1 (∃ (h : W2 c a), ∀ (a_2 : Bool), a_2 = (aheadR
  c a).fst → Br a_2 (∃ (h : W2 c b), ∀ (a_3 : Bool), a_3 = (aheadR c b).fst → Br a_3 (∀ (a_4 : Nat), FRes Go.FloatKind.f64 (Go.FloatKind.f64.format.add c b) a_4 → ∀ (a_5 : Nat),
  FRes Go.FloatKind.f64 (Go.FloatKind.f64.format.add a_4 a) a_5 → ∃ (h : W64 a_5), post ((quietR a_5).fst, ())) (∀ (a_4 : Nat), FRes Go.FloatKind.f64 (Go.FloatKind.f64.format.add b
  c) a_4 → ∀ (a_5 : Nat), FRes Go.FloatKind.f64 (Go.FloatKind.f64.format.add a_4 a) a_5 → ∃ (h : W64 a_5), post ((quietR a_5).fst, ()))) (∃ (h : W2 a b), ∀ (a_3 : Bool), a_3 =
  (aheadR a b).fst → Br a_3 (∀ (a_4 : Nat), FRes Go.FloatKind.f64 (Go.FloatKind.f64.format.add a b) a_4 → ∀ (a : Nat), FRes Go.FloatKind.f64 (Go.FloatKind.f64.format.add a_4 c) a →
  ∃ (h : W64 a), post ((quietR a).fst, ())) (∀ (a_4 : Nat), FRes Go.FloatKind.f64 (Go.FloatKind.f64.format.add b a) a_4 → ∀ (a : Nat), FRes Go.FloatKind.f64
  (Go.FloatKind.f64.format.add a_4 c) a → ∃ (h : W64 a), post ((quietR a).fst, ())))) (∃ (h : W2 c b), ∀ (a_2 : Bool), a_2 = (aheadR c b).fst → Br a_2 (∃ (h : W2 c a), ∀ (a_3 :
  Bool), a_3 = (aheadR c a).fst → Br a_3 (∀ (a_4 : Nat), FRes Go.FloatKind.f64 (Go.FloatKind.f64.format.add c a) a_4 → ∀ (a : Nat), FRes Go.FloatKind.f64
  (Go.FloatKind.f64.format.add a_4 b) a → ∃ (h : W64 a), post ((quietR a).fst, ())) (∀ (a_4 : Nat), FRes Go.FloatKind.f64 (Go.FloatKind.f64.format.add a c) a_4 → ∀ (a : Nat), FRes
  Go.FloatKind.f64 (Go.FloatKind.f64.format.add a_4 b) a → ∃ (h : W64 a), post ((quietR a).fst, ()))) (∃ (h : W2 b a), ∀ (a_3 : Bool), a_3 = (aheadR b a).fst → Br a_3 (∀ (a_4 :
  Nat), FRes Go.FloatKind.f64 (Go.FloatKind.f64.format.add b a) a_4 → ∀ (a : Nat), FRes Go.FloatKind.f64 (Go.FloatKind.f64.format.add a_4 c) a → ∃ (h : W64 a), post ((quietR a).fst,
  ())) (∀ (a_4 : Nat), FRes Go.FloatKind.f64 (Go.FloatKind.f64.format.add a b) a_4 → ∀ (a : Nat), FRes Go.FloatKind.f64 (Go.FloatKind.f64.format.add a_4 c) a → ∃ (h : W64 a), post
  ((quietR a).fst, ()))))
theorem Lx_ref05_Three (a : Nat) (b : Nat) (c : Nat) (h : W3 a b c) : Fx_ref05_Three  a b c (fun r => r = threeR a b c) := by
  obtain ⟨ha, hb, hc⟩ := h
  have leaf : ∀ x y z, sort3 a b c = [x, y, z] → ∀ s, FRes Go.FloatKind.f64 (Go.FloatKind.f64.format.add x y) s → ∀ t, FRes Go.FloatKind.f64 (Go.FloatKind.f64.format.add s z) t → ∃ h : W64 t, ((quietR t).fst, ()) = threeR a b c := by
    intro x y z e s hs t ht
    obtain ⟨q1, w1⟩ := fadd hs
    obtain ⟨q2, w2⟩ := fadd ht
    refine ⟨w2, congrArg r1 ?_⟩
    show quietF t = rowQ (sort3 a b c)
    rw [e]; exact rowQ3 q1 q2
  refine ⟨⟨hb, ha⟩, ?_⟩
  rintro _ rfl
  refine Br.intro (fun e => ⟨⟨hc, ha⟩, ?_⟩) fun e => ⟨⟨hc, hb⟩, ?_⟩
  · have e : ltM b a = true := e
    rintro _ rfl
    refine Br.intro (fun f => ⟨⟨hc, hb⟩, ?_⟩) fun f => ⟨⟨ha, hb⟩, ?_⟩
    · have f : ltM c a = true := f
      rintro _ rfl
      refine Br.intro (fun g => ?_) fun g => ?_
      · have g : ltM c b = true := g
        exact leaf _ _ _ (by unfold sort3; rw [e, f, g]; rfl)
      · have g : ltM c b = false := g
        exact leaf _ _ _ (by unfold sort3; rw [e, f, g]; rfl)
    · have f : ltM c a = false := f
      rintro _ rfl
      refine Br.intro (fun g => ?_) fun g => ?_
      · have g : ltM a b = true := g
        rw [ltM_asymm e] at g; cases g
      · exact leaf _ _ _ (by unfold sort3; rw [e, f]; rfl)
  · have e : ltM b a = false := e
    rintro _ rfl
    refine Br.intro (fun f => ⟨⟨hc, ha⟩, ?_⟩) fun f => ⟨⟨hb, ha⟩, ?_⟩
    · have f : ltM c b = true := f
      rintro _ rfl
      refine Br.intro (fun g => ?_) fun g => ?_
      · have g : ltM c a = true := g
        exact leaf _ _ _ (by unfold sort3; rw [e, f, g]; rfl)
      · have g : ltM c a = false := g
        exact leaf _ _ _ (by unfold sort3; rw [e, f, g]; rfl)
    · have f : ltM c b = false := f
      rintro _ rfl
      refine Br.intro (fun g => ?_) fun g => ?_
      · have g : ltM b a = true := g
        rw [e] at g; cases g
      · exact leaf _ _ _ (by unfold sort3; rw [e, f]; rfl)
def Fx_sum_Three := fun (a b c : Nat) (post : Nat × Unit → Prop) => ∃ (h : (List.replicate (3 : Nat) (0 : Nat)).length = (3 : Nat) ∧ (3 : Nat) = (3 : Nat)), ∃ (h : (0 : Int) ≤ (0 :
  Int) ∧ (0 : Int) ≤ (3 : Int) ∧ (3 : Int) ≤ (3 : Int) ∧ (3 : Nat) = (3 : Nat)), ∃ (h : IsThree (3 : Int)), ∃ (h : (0 : Int) ≤ (1 : Int) ∧ (1 : Int) < (3 : Int)), ∃ (h : (0 : Int) ≤
  (0 : Int) ∧ (0 : Int) < (3 : Int)), ∃ (h : W2 b a), Br (decide ((cmpMR b a).fst < (0 : Int))) (∃ (h : (0 : Int) ≤ (0 : Int) ∧ (0 : Int) < (3 : Int)), ∃ (h : (0 : Int) ≤ (1 : Int)
  ∧ (1 : Int) < (3 : Int)), ∃ (h : (0 : Int) ≤ (1 : Int) ∧ (1 : Int) < (3 : Int)), ∃ (h : (0 : Int) ≤ (0 : Int) ∧ (0 : Int) < (3 : Int)), ∃ (h : (0 : Int) ≤ (2 : Int) ∧ (2 : Int) <
  (3 : Int)), ∃ (h : (0 : Int) ≤ (1 : Int) ∧ (1 : Int) < (3 : Int)), ∃ (h : W2 c a), Br (decide ((cmpMR c a).fst < (0 : Int))) (∃ (h : (0 : Int) ≤ (1 : Int) ∧ (1 : Int) < (3 :
  Int)), ∃ (h : (0 : Int) ≤ (2 : Int) ∧ (2 : Int) < (3 : Int)), ∃ (h : (0 : Int) ≤ (2 : Int) ∧ (2 : Int) < (3 : Int)), ∃ (h : (0 : Int) ≤ (1 : Int) ∧ (1 : Int) < (3 : Int)), ∃ (h :
  (0 : Int) ≤ (1 : Int) ∧ (1 : Int) < (3 : Int)), ∃ (h : (0 : Int) ≤ (0 : Int) ∧ (0 : Int) < (3 : Int)), ∃ (h : W2 c b), Br (decide ((cmpMR c b).fst < (0 : Int))) (∃ (h : (0 : Int)
  ≤ (0 : Int) ∧ (0 : Int) < (3 : Int)), ∃ (h : (0 : Int) ≤ (1 : Int) ∧ (1 : Int) < (3 : Int)), ∃ (h : (0 : Int) ≤ (1 : Int) ∧ (1 : Int) < (3 : Int)), ∃ (h : (0 : Int) ≤ (0 : Int) ∧
  (0 : Int) < (3 : Int)), ∃ (h : (0 : Int) ≤ (0 : Int) ∧ (0 : Int) ≤ (3 : Int) ∧ (3 : Int) ≤ (3 : Int) ∧ (3 : Nat) = [c, b, a].length), ∃ (h : WL [c, b, a]), post ((rowR [c, b,
  a]).fst, ())) (∃ (h : (0 : Int) ≤ (0 : Int) ∧ (0 : Int) ≤ (3 : Int) ∧ (3 : Int) ≤ (3 : Int) ∧ (3 : Nat) = [b, c, a].length), ∃ (h : WL [b, c, a]), post ((rowR [b, c, a]).fst,
  ()))) (∃ (h : (0 : Int) ≤ (0 : Int) ∧ (0 : Int) ≤ (3 : Int) ∧ (3 : Int) ≤ (3 : Int) ∧ (3 : Nat) = [b, a, c].length), ∃ (h : WL [b, a, c]), post ((rowR [b, a, c]).fst, ()))) (∃ (h
  : (0 : Int) ≤ (2 : Int) ∧ (2 : Int) < (3 : Int)), ∃ (h : (0 : Int) ≤ (1 : Int) ∧ (1 : Int) < (3 : Int)), ∃ (h : W2 c b), Br (decide ((cmpMR c b).fst < (0 : Int))) (∃ (h : (0 :
  Int) ≤ (1 : Int) ∧ (1 : Int) < (3 : Int)), ∃ (h : (0 : Int) ≤ (2 : Int) ∧ (2 : Int) < (3 : Int)), ∃ (h : (0 : Int) ≤ (2 : Int) ∧ (2 : Int) < (3 : Int)), ∃ (h : (0 : Int) ≤ (1 :
  Int) ∧ (1 : Int) < (3 : Int)), ∃ (h : (0 : Int) ≤ (1 : Int) ∧ (1 : Int) < (3 : Int)), ∃ (h : (0 : Int) ≤ (0 : Int) ∧ (0 : Int) < (3 : Int)), ∃ (h : W2 c a), Br (decide ((cmpMR c
  a).fst < (0 : Int))) (∃ (h : (0 : Int) ≤ (0 : Int) ∧ (0 : Int) < (3 : Int)), ∃ (h : (0 : Int) ≤ (1 : Int) ∧ (1 : Int) < (3 : Int)), ∃ (h : (0 : Int) ≤ (1 : Int) ∧ (1 : Int) < (3 :
  Int)), ∃ (h : (0 : Int) ≤ (0 : Int) ∧ (0 : Int) < (3 : Int)), ∃ (h : (0 : Int) ≤ (0 : Int) ∧ (0 : Int) ≤ (3 : Int) ∧ (3 : Int) ≤ (3 : Int) ∧ (3 : Nat) = [c, a, b].length), ∃ (h :
  WL [c, a, b]), post ((rowR [c, a, b]).fst, ())) (∃ (h : (0 : Int) ≤ (0 : Int) ∧ (0 : Int) ≤ (3 : Int) ∧ (3 : Int) ≤ (3 : Int) ∧ (3 : Nat) = [a, c, b].length), ∃ (h : WL [a, c,
  b]), post ((rowR [a, c, b]).fst, ()))) (∃ (h : (0 : Int) ≤ (0 : Int) ∧ (0 : Int) ≤ (3 : Int) ∧ (3 : Int) ≤ (3 : Int) ∧ (3 : Nat) = (3 : Nat)), ∃ (h : WL [a, b, c]), post ((rowR
  [a, b, c]).fst, ())))
theorem Lx_sum_Three (a : Nat) (b : Nat) (c : Nat) (h : W3 a b c) : Fx_sum_Three  a b c (fun r => r = threeR a b c) := by
  obtain ⟨ha, hb, hc⟩ := h
  have leaf : ∀ l, sort3 a b c = l → ((rowR l).fst, ()) = threeR a b c := by rintro _ rfl; rfl
  refine ⟨⟨rfl, rfl⟩, ⟨by decide, by decide, by decide, rfl⟩, rfl, by decide, by decide, ⟨hb, ha⟩, Br.intro (fun e => ⟨by decide, by decide, by decide, by decide, by decide, by decide, ⟨hc, ha⟩, Br.intro (fun f => ⟨by decide, by decide, by decide, by decide, by decide, by decide, ⟨hc, hb⟩, Br.intro (fun g => ⟨by decide, by decide, by decide, by decide, ⟨by decide, by decide, by decide, rfl⟩, WL3 hc hb ha, leaf _ ?_⟩) fun g => ⟨⟨by decide, by decide, by decide, rfl⟩, WL3 hb hc ha, leaf _ ?_⟩⟩) fun f => ⟨⟨by decide, by decide, by decide, rfl⟩, WL3 hb ha hc, leaf _ ?_⟩⟩) fun e => ⟨by decide, by decide, ⟨hc, hb⟩, Br.intro (fun f => ⟨by decide, by decide, by decide, by decide, by decide, by decide, ⟨hc, ha⟩, Br.intro (fun g => ⟨by decide, by decide, by decide, by decide, ⟨by decide, by decide, by decide, rfl⟩, WL3 hc ha hb, leaf _ ?_⟩) fun g => ⟨⟨by decide, by decide, by decide, rfl⟩, WL3 ha hc hb, leaf _ ?_⟩⟩) fun f => ⟨⟨by decide, by decide, by decide, rfl⟩, WL3 ha hb hc, leaf _ ?_⟩⟩⟩
  · have e : ltM b a = true := e
    have f : ltM c a = true := f
    have g : ltM c b = true := g
    unfold sort3; rw [e, f, g]; rfl
  · have e : ltM b a = true := e
    have f : ltM c a = true := f
    have g : ltM c b = false := g
    unfold sort3; rw [e, f, g]; rfl
  · have e : ltM b a = true := e
    have f : ltM c a = false := f
    unfold sort3; rw [e, f]; rfl
  · have e : ltM b a = false := e
    have f : ltM c b = true := f
    have g : ltM c a = true := g
    unfold sort3; rw [e, f, g]; rfl
  · have e : ltM b a = false := e
    have f : ltM c b = true := f
    have g : ltM c a = false := g
    unfold sort3; rw [e, f, g]; rfl
  · have e : ltM b a = false := e
    have f : ltM c b = false := f
    unfold sort3; rw [e, f]; rfl
end Go.Lift

/- Contracts of functions, of a seat. Own work. -/
set_option linter.unusedVariables false
set_option linter.unusedSimpArgs false
namespace Go.Lift
open Go.Proofs
def Dx_sum_row : Cx := ⟨tabOf Dtab, conOf [(77, Dq_sum_quiet)], DG⟩
theorem Dx_sum_row_ok : CxOk Tryd.prog Dx_sum_row := ⟨tabB_sound Dtab_ok, conOf_sound ⟨Dh_sum_quiet, trivial⟩⟩
theorem Dat_sum_row : FnAt Tryd.prog 70 Tryd.f70.ntmps Tryd.f70.results.toList (Tryd.f70.body.getD .skip) := ⟨Tryd.f70, Tryd.func70, rfl, rfl, by simp, by decide⟩
theorem Deq_sum_row (a : List Nat) (post : Nat × Unit → Prop) : fnEval Dx_sum_row Dhn_sum_row Tryd.f70.ntmps Tryd.f70.results.toList (Tryd.f70.body.getD .skip) [.slice (.flt .f64)] [.snap (.flt .f64)] (a, ()) post = Fx_sum_row  a post := by kernel_rfl
theorem Dh_sum_row : Dq_sum_row.holds Tryd.prog DG 70 :=
  detP Dx_sum_row_ok Dmixed Dhn_sum_row Dat_sum_row (F := fun x post => Fx_sum_row  x.1 post) (fun x post => Deq_sum_row x.1 post) fun x h w => Lx_sum_row  x.1 h w
def Dx_mbits_Len64 : Cx := ⟨tabOf Dtab, fun _ => none, DG⟩
theorem Dx_mbits_Len64_ok : CxOk Tryd.prog Dx_mbits_Len64 := ⟨tabB_sound Dtab_ok, fun f c h => by cases h⟩
theorem Dat_mbits_Len64 : FnAt Tryd.prog 90 Tryd.f90.ntmps Tryd.f90.results.toList (Tryd.f90.body.getD .skip) := ⟨Tryd.f90, Tryd.func90, rfl, rfl, by simp, by decide⟩
theorem Deq_mbits_Len64 (post : Int × Unit → Prop) : fnEval Dx_mbits_Len64 noHn Tryd.f90.ntmps Tryd.f90.results.toList (Tryd.f90.body.getD .skip) [.int .u64] [.snap (.int .i64)] ((3 : Int), ()) post = (∃ (h : (0 : Int) ≤ (3 : Int) ∧ (3 : Int) < (256 : Int)), post ((2 : Int), ())) := by kernel_rfl
theorem Dh_mbits_Len64 : Dq_mbits_Len64.holds Tryd.prog DG 90 := by
  refine det_holds Dx_mbits_Len64_ok Dmixed noHn Dat_mbits_Len64 ?_
  rintro ⟨a, ⟨⟩⟩ h
  have h : a = (3 : Int) := h
  subst h
  exact (Deq_mbits_Len64 _).mpr ⟨by decide, rfl⟩
def Dx_mbits_Len : Cx := ⟨tabOf Dtab, conOf [(90, Dq_mbits_Len64)], DG⟩
theorem Dx_mbits_Len_ok : CxOk Tryd.prog Dx_mbits_Len := ⟨tabB_sound Dtab_ok, conOf_sound ⟨Dh_mbits_Len64, trivial⟩⟩
theorem Dat_mbits_Len : FnAt Tryd.prog 74 Tryd.f74.ntmps Tryd.f74.results.toList (Tryd.f74.body.getD .skip) := ⟨Tryd.f74, Tryd.func74, rfl, rfl, by simp, by decide⟩
theorem Deq_mbits_Len (post : Int × Unit → Prop) : fnEval Dx_mbits_Len noHn Tryd.f74.ntmps Tryd.f74.results.toList (Tryd.f74.body.getD .skip) [.int .u64] [.snap (.int .i64)] ((3 : Int), ()) post = (∃ (h : IsThree 3), post ((2 : Int), ())) := by kernel_rfl
theorem Dh_mbits_Len : Dq_mbits_Len.holds Tryd.prog DG 74 := by
  refine det_holds Dx_mbits_Len_ok Dmixed noHn Dat_mbits_Len ?_
  rintro ⟨a, ⟨⟩⟩ h
  have h : a = (3 : Int) := h
  subst h
  exact (Deq_mbits_Len _).mpr ⟨rfl, rfl⟩
def Dx_sum_Three : Cx := ⟨tabOf Dtab, conOf [(65, Dq_sum_Three_c1), (70, Dq_sum_row), (74, Dq_mbits_Len)], DG⟩
theorem Dx_sum_Three_ok : CxOk Tryd.prog Dx_sum_Three := ⟨tabB_sound Dtab_ok, conOf_sound ⟨Dh_sum_Three_c1, Dh_sum_row, Dh_mbits_Len, trivial⟩⟩
theorem Dat_sum_Three : FnAt Tryd.prog 57 Tryd.f57.ntmps Tryd.f57.results.toList (Tryd.f57.body.getD .skip) := ⟨Tryd.f57, Tryd.func57, rfl, rfl, by simp, by decide⟩
theorem Deq_sum_Three (a : Nat) (b : Nat) (c : Nat) (post : Nat × Unit → Prop) : fnEvalI Dx_sum_Three Dhn_sum_Three (callLvl Dx_sum_Three Dfns_sort3 5) Tryd.f57.ntmps Tryd.f57.results.toList (Tryd.f57.body.getD .skip) [.flt .f64, .flt .f64, .flt .f64] [.snap (.flt .f64)] (a, b, c, ()) post = Fx_sum_Three  a b c post := by kernel_rfl
theorem Dh_sum_Three : Dq_sum_Three.holds Tryd.prog DG 57 :=
  detPI Dx_sum_Three_ok Dmixed Dhn_sum_Three (callLvl_ok Dx_sum_Three_ok Dmixed Dfns_sort3_ok 5) Dat_sum_Three (F := fun x post => Fx_sum_Three  x.1 x.2.1 x.2.2.1 post) (fun x post => Deq_sum_Three x.1 x.2.1 x.2.2.1 post) fun x h _ => Lx_sum_Three  x.1 x.2.1 x.2.2.1 h
end Go.Lift

/- Contracts of functions, of a seat. Own work. -/
set_option linter.unusedVariables false
set_option linter.unusedSimpArgs false
namespace Go.Lift
open Go.Proofs
def Dx_vec_canon : Cx := ⟨tabOf Dtab, conOf [(55, Dq_bits_Canon)], DG⟩
theorem Dx_vec_canon_ok : CxOk Tryd.prog Dx_vec_canon := ⟨tabB_sound Dtab_ok, conOf_sound ⟨Dh_bits_Canon, trivial⟩⟩
theorem Dat_vec_canon : FnAt Tryd.prog 58 Tryd.f58.ntmps Tryd.f58.results.toList (Tryd.f58.body.getD .skip) := ⟨Tryd.f58, Tryd.func58, rfl, rfl, by simp, by decide⟩
theorem Deq_vec_canon (a : Nat) (b : Nat) (c : Nat) (post : (Nat × Nat × Nat) × Unit → Prop) : fnEval Dx_vec_canon nHn Tryd.f58.ntmps Tryd.f58.results.toList (Tryd.f58.body.getD .skip) [.flt .f64, .flt .f64, .flt .f64] [.snap kVec] (a, b, c, ()) post = Fx_vec_canon  a b c post := by kernel_rfl
theorem Dh_vec_canon : Dq_vec_canon.holds Tryd.prog DG 58 :=
  detP Dx_vec_canon_ok Dmixed nHn Dat_vec_canon (F := fun x post => Fx_vec_canon  x.1 x.2.1 x.2.2.1 post) (fun x post => Deq_vec_canon x.1 x.2.1 x.2.2.1 post) fun x _ _ => Lx_vec_canon  x.1 x.2.1 x.2.2.1
def Dx_vec_Minus : Cx := ⟨tabOf Dtab, conOf [(58, Dq_vec_canon)], DG⟩
theorem Dx_vec_Minus_ok : CxOk Tryd.prog Dx_vec_Minus := ⟨tabB_sound Dtab_ok, conOf_sound ⟨Dh_vec_canon, trivial⟩⟩
theorem Dat_vec_Minus : FnAt Tryd.prog 42 Tryd.f42.ntmps Tryd.f42.results.toList (Tryd.f42.body.getD .skip) := ⟨Tryd.f42, Tryd.func42, rfl, rfl, by simp, by decide⟩
theorem Deq_vec_Minus (a : Nat × Nat × Nat) (b : Nat × Nat × Nat) (post : (Nat × Nat × Nat) × Unit → Prop) : fnEval Dx_vec_Minus nHn Tryd.f42.ntmps Tryd.f42.results.toList (Tryd.f42.body.getD .skip) [kVec, kVec] [.snap kVec] (a, b, ()) post = Fx_vec_Minus  a b post := by kernel_rfl
theorem Dh_vec_Minus : Dq_vec_Minus.holds Tryd.prog DG 42 :=
  detP Dx_vec_Minus_ok Dmixed nHn Dat_vec_Minus (F := fun x post => Fx_vec_Minus  x.1 x.2.1 post) (fun x post => Deq_vec_Minus x.1 x.2.1 post) fun x h _ => Lx_vec_Minus  x.1 x.2.1 h
def Dx_vec_Cross : Cx := ⟨tabOf Dtab, conOf [(58, Dq_vec_canon)], DG⟩
theorem Dx_vec_Cross_ok : CxOk Tryd.prog Dx_vec_Cross := ⟨tabB_sound Dtab_ok, conOf_sound ⟨Dh_vec_canon, trivial⟩⟩
theorem Dat_vec_Cross : FnAt Tryd.prog 41 Tryd.f41.ntmps Tryd.f41.results.toList (Tryd.f41.body.getD .skip) := ⟨Tryd.f41, Tryd.func41, rfl, rfl, by simp, by decide⟩
theorem Deq_vec_Cross (a : Nat × Nat × Nat) (b : Nat × Nat × Nat) (post : (Nat × Nat × Nat) × Unit → Prop) : fnEval Dx_vec_Cross nHn Tryd.f41.ntmps Tryd.f41.results.toList (Tryd.f41.body.getD .skip) [kVec, kVec] [.snap kVec] (a, b, ()) post = Fx_vec_Cross  a b post := by kernel_rfl
theorem Dh_vec_Cross : Dq_vec_Cross.holds Tryd.prog DG 41 :=
  detP Dx_vec_Cross_ok Dmixed nHn Dat_vec_Cross (F := fun x post => Fx_vec_Cross  x.1 x.2.1 post) (fun x post => Deq_vec_Cross x.1 x.2.1 post) fun x _ _ => Lx_vec_Cross  x.1 x.2.1
def Dx_math_Sqrt : Cx := ⟨tabOf Dtab, conOf [(63, Dq_math_sqrt)], DG⟩
theorem Dx_math_Sqrt_ok : CxOk Tryd.prog Dx_math_Sqrt := ⟨tabB_sound Dtab_ok, conOf_sound ⟨Dh_math_sqrt, trivial⟩⟩
theorem Dat_math_Sqrt : FnAt Tryd.prog 56 Tryd.f56.ntmps Tryd.f56.results.toList (Tryd.f56.body.getD .skip) := ⟨Tryd.f56, Tryd.func56, rfl, rfl, by simp, by decide⟩
theorem Deq_math_Sqrt (a : Nat) (post : Nat × Unit → Prop) : fnEval Dx_math_Sqrt nHn Tryd.f56.ntmps Tryd.f56.results.toList (Tryd.f56.body.getD .skip) [.flt .f64] [.snap (.flt .f64)] (a, ()) post = Fx_math_Sqrt  a post := by kernel_rfl
theorem Dh_math_Sqrt : Dq_math_Sqrt.holds Tryd.prog DG 56 :=
  relP Dx_math_Sqrt_ok Dmixed nHn Dat_math_Sqrt (F := fun x post => Fx_math_Sqrt  x.1 post) (fun x post => Deq_math_Sqrt x.1 post) fun x _ _ => Lx_math_Sqrt  x.1
def Dx_vec_Length : Cx := ⟨tabOf Dtab, conOf [(57, Dq_sum_Three), (56, Dq_math_Sqrt), (55, Dq_bits_Canon)], DG⟩
theorem Dx_vec_Length_ok : CxOk Tryd.prog Dx_vec_Length := ⟨tabB_sound Dtab_ok, conOf_sound ⟨Dh_sum_Three, Dh_math_Sqrt, Dh_bits_Canon, trivial⟩⟩
theorem Dat_vec_Length : FnAt Tryd.prog 40 Tryd.f40.ntmps Tryd.f40.results.toList (Tryd.f40.body.getD .skip) := ⟨Tryd.f40, Tryd.func40, rfl, rfl, by simp, by decide⟩
theorem Deq_vec_Length (a : Nat × Nat × Nat) (post : Nat × Unit → Prop) : fnEval Dx_vec_Length nHn Tryd.f40.ntmps Tryd.f40.results.toList (Tryd.f40.body.getD .skip) [kVec] [.snap (.flt .f64)] (a, ()) post = Fx_vec_Length  a post := by kernel_rfl
theorem Dh_vec_Length : Dq_vec_Length.holds Tryd.prog DG 40 :=
  detP Dx_vec_Length_ok Dmixed nHn Dat_vec_Length (F := fun x post => Fx_vec_Length  x.1 post) (fun x post => Deq_vec_Length x.1 post) fun x h _ => Lx_vec_Length  x.1 h
def Dx_vec_Unit : Cx := ⟨tabOf Dtab, conOf [(40, Dq_vec_Length), (80, Dq_math_IsInf), (58, Dq_vec_canon)], DG⟩
theorem Dx_vec_Unit_ok : CxOk Tryd.prog Dx_vec_Unit := ⟨tabB_sound Dtab_ok, conOf_sound ⟨Dh_vec_Length, Dh_math_IsInf, Dh_vec_canon, trivial⟩⟩
theorem Dat_vec_Unit : FnAt Tryd.prog 72 Tryd.f72.ntmps Tryd.f72.results.toList (Tryd.f72.body.getD .skip) := ⟨Tryd.f72, Tryd.func72, rfl, rfl, by simp, by decide⟩
theorem Deq_vec_Unit (a : Nat × Nat × Nat) (post : (Nat × Nat × Nat) × Unit → Prop) : fnEval Dx_vec_Unit nHn Tryd.f72.ntmps Tryd.f72.results.toList (Tryd.f72.body.getD .skip) [kVec] [.snap kVec] (a, ()) post = Fx_vec_Unit  a post := by kernel_rfl
theorem Dh_vec_Unit : Dq_vec_Unit.holds Tryd.prog DG 72 :=
  detP Dx_vec_Unit_ok Dmixed nHn Dat_vec_Unit (F := fun x post => Fx_vec_Unit  x.1 post) (fun x post => Deq_vec_Unit x.1 post) fun x h _ => Lx_vec_Unit  x.1 h
end Go.Lift

/- Own work. -/
set_option linter.unusedVariables false
set_option linter.unusedSimpArgs false
namespace Go.Lift
def Fx_conv_FromInt := fun (a : Int) (post : Nat × Unit → Prop) => post (Go.FloatKind.f64.nearest a, ())
theorem Lx_conv_FromInt (a : Int) : Fx_conv_FromInt  a (fun r => r = ofIR a) := by
  exact rfl
def Fx_level_Depth := fun (a b : Int) (post : Nat × Unit → Prop) => ∀ (a_1 : Bool), a_1 = decide (a < (1 : Int)) → Br a_1 (post ((0 : Nat), ())) (∀ (a_2 : Bool), a_2 = decide (b <
  (1 : Int)) → Br a_2 (post ((0 : Nat), ())) (∃ (h : True), ∃ (h : True), ∀ (a_3 : Nat), FRes Go.FloatKind.f64 (Go.FloatKind.f64.format.div (ofIR a).fst (ofIR b).fst) a_3 → post
  (a_3, ())))
theorem Lx_level_Depth (a : Int) (b : Int) (h : II a b) : Fx_level_Depth  a b (fun r => r = depthR a b) := by
  rintro _ rfl
  refine Br.intro (fun e => ?_) fun e => ?_
  · exact congrArg r1 (by unfold depthQ; rw [if_pos (.inl (of_decide_eq_true e))])
  · rintro _ rfl
    refine Br.intro (fun f => ?_) fun f => ?_
    · exact congrArg r1 (by unfold depthQ; rw [if_pos (.inr (of_decide_eq_true f))])
    · have e := of_decide_eq_false e
      have f := of_decide_eq_false f
      refine ⟨trivial, trivial, fun r hr => congrArg r1 ?_⟩
      rw [div_ofI h.1 (by omega) h.2 hr]
      unfold depthQ; rw [if_neg (by omega)]
def Fx_math_Floor := fun (a : Nat) (post : Nat × Unit → Prop) => ∃ (h : WNum a), post ((floorR a).fst, ())
theorem Lx_math_Floor (a : Nat) (h : WNum a) : Fx_math_Floor  a (fun r => r = floorR a) := by
  exact ⟨h, rfl⟩
def Fx_conv_To32 := fun (a : Nat) (post : Int × Unit → Prop) => ∃ (h : True), ∃ (h : (0 : Int) ≤ (32 : Int)), ∃ (h : W64 a), ∃ (h : True), ∀ (a_1 : Bool), a_1 = (nanR a).fst → Br
  a_1 (post ((2143289344 : Int), ())) (∀ (a_2 : Bool), a_2 = fcmp Go.BinOp.geq (Go.FloatKind.f64.format.order (absR a).fst (5183643170835005440 : Nat)) → Br a_2 (post (Go.bits
  Go.BinOp.or IntKind.u32 (IntKind.u32.wrap (Go.bits Go.BinOp.and IntKind.u64 ((bitsR a).fst.fdiv ((2 : Int) ^ Min.min (Int.toNat (32 : Int)) IntKind.u64.bits)) (2147483648 : Int)))
  (2139095040 : Int), ())) (∀ (a_3 : Nat), F2F Go.FloatKind.f64 (absR a).fst Go.FloatKind.f32 a_3 → ∃ (h : True), post (Go.bits Go.BinOp.or IntKind.u32 (IntKind.u32.wrap (Go.bits
  Go.BinOp.and IntKind.u64 ((bitsR a).fst.fdiv ((2 : Int) ^ Min.min (Int.toNat (32 : Int)) IntKind.u64.bits)) (2147483648 : Int))) (bits32R a_3).fst, ())))
theorem Lx_conv_To32 (a : Nat) (h : W64 a) : Fx_conv_To32  a (fun r => r = to32R a) := by
  refine ⟨trivial, by decide, h, trivial, ?_⟩
  have hs := sign_part h
  rintro _ rfl
  refine Br.intro (fun e => ?_) fun e => ?_
  · have e : isN a = true := e
    exact congrArg r1 (by unfold to32; rw [if_pos e])
  · have e : isN a = false := e
    rintro _ rfl
    refine Br.intro (fun f => ?_) fun f => ?_
    · have f : fcmp .geq (Ieee.double.order (rungOf a) 5183643170835005440) = true := f
      rw [geq_big, e] at f
      have f : 5183643170835005440 ≤ rungOf a := by simpa using f
      refine congrArg r1 ?_
      show Go.bits .or .u32 (IntKind.u32.wrap (Go.bits .and .u64 (Int.fdiv (a : Int) _) 2147483648)) ((2139095040 : Nat) : Int) = _
      rw [hs, or32 _ (by decide)]
      unfold to32; rw [if_neg (c := isN a = true) (by rw [e]; decide), if_pos f]
    · have f : fcmp .geq (Ieee.double.order (rungOf a) 5183643170835005440) = false := f
      rw [geq_big, e] at f
      have f : rungOf a < 5183643170835005440 := by simpa using f
      intro n hn
      have hn : n = Ieee.single.write (Ieee.double.read (rungOf a)) := to32_conv f hn
      obtain ⟨k, hk, hk2⟩ := single_small f
      refine ⟨trivial, congrArg r1 ?_⟩
      show Go.bits .or .u32 (IntKind.u32.wrap (Go.bits .and .u64 (Int.fdiv (a : Int) _) 2147483648)) (n : Int) = _
      rw [hs, hn, hk2, or32 _ (by omega)]
      unfold to32; rw [if_neg (c := isN a = true) (by rw [e]; decide), if_neg (c := 5183643170835005440 ≤ rungOf a) (by omega), hk2]
def Fx_conv_near := fun (a : Nat) (post : Int × Unit → Prop) => ∃ (h : WNum a), ∀ (a_1 : Int), F2I Go.FloatKind.f64 (floorR a).fst IntKind.u64 a_1 → ∀ (a_2 : Nat), FRes
  Go.FloatKind.f64 (Go.FloatKind.f64.format.sub a (floorR a).fst) a_2 → ∀ (a : Bool), a = fcmp Go.BinOp.gtr (Go.FloatKind.f64.format.order a_2 (4602678819172646912 : Nat)) → Br a
  (post (IntKind.u64.wrap (a_1 + (1 : Int)), ())) (∀ (a : Bool), a = fcmp Go.BinOp.eql (Go.FloatKind.f64.format.order a_2 (4602678819172646912 : Nat)) → Br a (∃ (h : (2 : Int) ≠ (0
  : Int)), ∀ (a : Bool), a = (a_1.tmod (2 : Int) == (1 : Int)) → Br a (post (IntKind.u64.wrap (a_1 + (1 : Int)), ())) (post (a_1, ()))) (post (a_1, ())))
theorem Lx_conv_near (a : Nat) (h : WNear a) : Fx_conv_near  a (fun r => r = nearR a) := by
  have hw : W64 a := by unfold WNear two63 at h; unfold W64; omega
  have hn : isN a = false := by
    have := (small_sgn (r := a) (by unfold WNear two63 at h; omega)).2.1
    unfold isN; rw [this, decide_eq_false_iff_not]; unfold WNear two63 at h; unfold infR; omega
  refine ⟨⟨hw, hn⟩, ?_⟩
  intro n hn2
  have hn2 := floor_int h hn2
  subst hn2
  intro d hd
  have hd : ∀ z, Ieee.double.order d z = Ieee.double.order (subQ a (floorF a)) z := sub_congr_order hd
  obtain ⟨_, r1', r2'⟩ := whole_rng h
  have hwp : IntKind.u64.wrap (wholeI (floorF a) + 1) = wholeI (floorF a) + 1 := wu1 ⟨by omega, by omega⟩
  have tm : (wholeI (floorF a)).tmod 2 = wholeI (floorF a) % 2 := Int.tmod_eq_emod_of_nonneg r1'
  rintro _ rfl
  refine Br.intro (fun e => ?_) fun e => ?_
  · rw [show Go.FloatKind.f64.format.order d 4602678819172646912 = _ from hd _] at e
    exact congrArg r1 (by rw [hwp]; unfold nearI; rw [if_pos (by rw [show fcmp .gtr (Ieee.double.order (subQ a (floorF a)) halfR) = true from e]; rfl)])
  · rw [show Go.FloatKind.f64.format.order d 4602678819172646912 = _ from hd _] at e
    rintro _ rfl
    refine Br.intro (fun f => ?_) fun f => ?_
    · rw [show Go.FloatKind.f64.format.order d 4602678819172646912 = _ from hd _] at f
      refine ⟨by decide, ?_⟩
      rintro _ rfl
      refine Br.intro (fun g => ?_) fun g => ?_
      · rw [tm] at g
        exact congrArg r1 (by rw [hwp]; unfold nearI; rw [if_pos (by rw [show fcmp .eql (Ieee.double.order (subQ a (floorF a)) halfR) = true from f, g, Bool.true_and, Bool.or_true])])
      · rw [tm] at g
        exact congrArg r1 (by unfold nearI; rw [if_neg (by rw [show fcmp .gtr (Ieee.double.order (subQ a (floorF a)) halfR) = false from e, g, Bool.and_false]; decide)])
    · rw [show Go.FloatKind.f64.format.order d 4602678819172646912 = _ from hd _] at f
      exact congrArg r1 (by unfold nearI; rw [if_neg (by rw [show fcmp .gtr (Ieee.double.order (subQ a (floorF a)) halfR) = false from e, show fcmp .eql (Ieee.double.order (subQ a (floorF a)) halfR) = false from f, Bool.false_and]; decide)])
def Fx_conv_Round := fun (a : Nat) (post : Int × Bool × Unit → Prop) => ∃ (h : W64 a), ∀ (a_1 : Bool), a_1 = fcmp Go.BinOp.lss (Go.FloatKind.f64.format.order (absR a).fst
  (4890909195324358656 : Nat)) → Br a_1 (∃ (h : WNear (absR a).fst), ∀ (a_2 : Bool), a_2 = fcmp Go.BinOp.lss (Go.FloatKind.f64.format.order a (0 : Nat)) → Br a_2 (post
  (IntKind.i64.wrap ((0 : Int) - IntKind.i64.wrap (nearR (absR a).fst).fst), Bool.true, ())) (post (IntKind.i64.wrap (nearR (absR a).fst).fst, Bool.true, ()))) (∀ (a_2 : Bool), a_2
  = fcmp Go.BinOp.eql (Go.FloatKind.f64.format.order a (14114281232179134464 : Nat)) → Br a_2 (post ((-9223372036854775808 : Int), Bool.true, ())) (post ((0 : Int), Bool.false,
  ())))
theorem Lx_conv_Round (a : Nat) (h : W64 a) : Fx_conv_Round  a (fun r => r = roundR a) := by
  refine ⟨h, ?_⟩
  rintro _ rfl
  refine Br.intro (fun e => ?_) fun e => ?_
  · have e : fcmp .lss (Ieee.double.order (rungOf a) two63) = true := e
    rw [lss_rung] at e
    have e := of_decide_eq_true e
    have hn : isN a = false := by unfold isN; rw [decide_eq_false_iff_not]; unfold two63 at e; unfold infR; omega
    refine ⟨e, ?_⟩
    rintro _ rfl
    refine Br.intro (fun f => ?_) fun f => ?_
    · rw [show fcmp .lss (Go.FloatKind.f64.format.order a 0) = _ from lss_nought hn] at f
      unfold roundR roundI; rw [if_pos e, if_pos f]; rfl
    · rw [show fcmp .lss (Go.FloatKind.f64.format.order a 0) = _ from lss_nought hn] at f
      unfold roundR roundI; rw [if_pos e, if_neg (by rw [f]; decide)]; rfl
  · have e : fcmp .lss (Ieee.double.order (rungOf a) two63) = false := e
    rw [lss_rung] at e
    have e := of_decide_eq_false e
    rintro _ rfl
    refine Br.intro (fun f => ?_) fun f => ?_
    · rw [show fcmp .eql (Go.FloatKind.f64.format.order a 14114281232179134464) = _ from eql_min h] at f
      unfold roundR roundI; rw [if_neg e, if_pos (show a = two63 + 9223372036854775808 from of_decide_eq_true f)]
    · rw [show fcmp .eql (Go.FloatKind.f64.format.order a 14114281232179134464) = _ from eql_min h] at f
      unfold roundR roundI; rw [if_neg e, if_neg (show ¬ a = two63 + 9223372036854775808 from of_decide_eq_false f)]
end Go.Lift

/- Contracts of functions, of a seat. Own work. -/
set_option linter.unusedVariables false
set_option linter.unusedSimpArgs false
namespace Go.Lift
open Go.Proofs
def Dx_conv_FromInt : Cx := ⟨tabOf Dtab, conOf [], DG⟩
theorem Dx_conv_FromInt_ok : CxOk Tryd.prog Dx_conv_FromInt := ⟨tabB_sound Dtab_ok, fun f c h => by cases h⟩
theorem Dat_conv_FromInt : FnAt Tryd.prog 38 Tryd.f38.ntmps Tryd.f38.results.toList (Tryd.f38.body.getD .skip) := ⟨Tryd.f38, Tryd.func38, rfl, rfl, by simp, by decide⟩
theorem Deq_conv_FromInt (a : Int) (post : Nat × Unit → Prop) : fnEval Dx_conv_FromInt nHn Tryd.f38.ntmps Tryd.f38.results.toList (Tryd.f38.body.getD .skip) [.int .i64] [.snap (.flt .f64)] (a, ()) post = Fx_conv_FromInt  a post := by kernel_rfl
theorem Dh_conv_FromInt : Dq_conv_FromInt.holds Tryd.prog DG 38 :=
  detP Dx_conv_FromInt_ok Dmixed nHn Dat_conv_FromInt (F := fun x post => Fx_conv_FromInt  x.1 post) (fun x post => Deq_conv_FromInt x.1 post) fun x _ _ => Lx_conv_FromInt  x.1
def Dx_level_Depth : Cx := ⟨tabOf Dtab, conOf [(38, Dq_conv_FromInt)], DG⟩
theorem Dx_level_Depth_ok : CxOk Tryd.prog Dx_level_Depth := ⟨tabB_sound Dtab_ok, conOf_sound ⟨Dh_conv_FromInt, trivial⟩⟩
theorem Dat_level_Depth : FnAt Tryd.prog 18 Tryd.f18.ntmps Tryd.f18.results.toList (Tryd.f18.body.getD .skip) := ⟨Tryd.f18, Tryd.func18, rfl, rfl, by simp, by decide⟩
theorem Deq_level_Depth (a : Int) (b : Int) (post : Nat × Unit → Prop) : fnEval Dx_level_Depth nHn Tryd.f18.ntmps Tryd.f18.results.toList (Tryd.f18.body.getD .skip) [.int .i64, .int .i64] [.snap (.flt .f64)] (a, b, ()) post = Fx_level_Depth  a b post := by kernel_rfl
theorem Dh_level_Depth : Dq_level_Depth.holds Tryd.prog DG 18 :=
  detP Dx_level_Depth_ok Dmixed nHn Dat_level_Depth (F := fun x post => Fx_level_Depth  x.1 x.2.1 post) (fun x post => Deq_level_Depth x.1 x.2.1 post) fun x h _ => Lx_level_Depth  x.1 x.2.1 h
theorem Dh_math_Float32bits : Dq_math_Float32bits.holds Tryd.prog DG 37 := by
  refine ext_bits32 (fn := Tryd.f37) Tryd.func37 (by decide) rfl rfl (by kernel_rfl)
theorem Dh_math_archFloor : Dq_math_archFloor.holds Tryd.prog DG 78 := by
  refine ext_floor (fn := Tryd.f78) Tryd.func78 (by decide) rfl rfl (by kernel_rfl)
def Dx_math_Floor : Cx := ⟨tabOf Dtab, conOf [(78, Dq_math_archFloor)], DG⟩
theorem Dx_math_Floor_ok : CxOk Tryd.prog Dx_math_Floor := ⟨tabB_sound Dtab_ok, conOf_sound ⟨Dh_math_archFloor, trivial⟩⟩
theorem Dat_math_Floor : FnAt Tryd.prog 71 Tryd.f71.ntmps Tryd.f71.results.toList (Tryd.f71.body.getD .skip) := ⟨Tryd.f71, Tryd.func71, rfl, rfl, by simp, by decide⟩
theorem Deq_math_Floor (a : Nat) (post : Nat × Unit → Prop) : fnEval Dx_math_Floor nHn Tryd.f71.ntmps Tryd.f71.results.toList (Tryd.f71.body.getD .skip) [.flt .f64] [.snap (.flt .f64)] (a, ()) post = Fx_math_Floor  a post := by kernel_rfl
theorem Dh_math_Floor : Dq_math_Floor.holds Tryd.prog DG 71 :=
  detP Dx_math_Floor_ok Dmixed nHn Dat_math_Floor (F := fun x post => Fx_math_Floor  x.1 post) (fun x post => Deq_math_Floor x.1 post) fun x h _ => Lx_math_Floor  x.1 h
def Dx_conv_To32 : Cx := ⟨tabOf Dtab, conOf [(34, Dq_math_Float64bits), (35, Dq_math_Abs), (36, Dq_math_IsNaN), (37, Dq_math_Float32bits)], DG⟩
theorem Dx_conv_To32_ok : CxOk Tryd.prog Dx_conv_To32 := ⟨tabB_sound Dtab_ok, conOf_sound ⟨Dh_math_Float64bits, Dh_math_Abs, Dh_math_IsNaN, Dh_math_Float32bits, trivial⟩⟩
theorem Dat_conv_To32 : FnAt Tryd.prog 17 Tryd.f17.ntmps Tryd.f17.results.toList (Tryd.f17.body.getD .skip) := ⟨Tryd.f17, Tryd.func17, rfl, rfl, by simp, by decide⟩
theorem Deq_conv_To32 (a : Nat) (post : Int × Unit → Prop) : fnEval Dx_conv_To32 nHn Tryd.f17.ntmps Tryd.f17.results.toList (Tryd.f17.body.getD .skip) [.flt .f64] [.snap (.int .u32)] (a, ()) post = Fx_conv_To32  a post := by kernel_rfl
theorem Dh_conv_To32 : Dq_conv_To32.holds Tryd.prog DG 17 :=
  detP Dx_conv_To32_ok Dmixed nHn Dat_conv_To32 (F := fun x post => Fx_conv_To32  x.1 post) (fun x post => Deq_conv_To32 x.1 post) fun x h _ => Lx_conv_To32  x.1 h
def Dx_conv_near : Cx := ⟨tabOf Dtab, conOf [(71, Dq_math_Floor)], DG⟩
theorem Dx_conv_near_ok : CxOk Tryd.prog Dx_conv_near := ⟨tabB_sound Dtab_ok, conOf_sound ⟨Dh_math_Floor, trivial⟩⟩
theorem Dat_conv_near : FnAt Tryd.prog 59 Tryd.f59.ntmps Tryd.f59.results.toList (Tryd.f59.body.getD .skip) := ⟨Tryd.f59, Tryd.func59, rfl, rfl, by simp, by decide⟩
theorem Deq_conv_near (a : Nat) (post : Int × Unit → Prop) : fnEval Dx_conv_near nHn Tryd.f59.ntmps Tryd.f59.results.toList (Tryd.f59.body.getD .skip) [.flt .f64] [.snap (.int .u64)] (a, ()) post = Fx_conv_near  a post := by kernel_rfl
theorem Dh_conv_near : Dq_conv_near.holds Tryd.prog DG 59 :=
  detP Dx_conv_near_ok Dmixed nHn Dat_conv_near (F := fun x post => Fx_conv_near  x.1 post) (fun x post => Deq_conv_near x.1 post) fun x h _ => Lx_conv_near  x.1 h
def Dx_conv_Round : Cx := ⟨tabOf Dtab, conOf [(35, Dq_math_Abs), (59, Dq_conv_near)], DG⟩
theorem Dx_conv_Round_ok : CxOk Tryd.prog Dx_conv_Round := ⟨tabB_sound Dtab_ok, conOf_sound ⟨Dh_math_Abs, Dh_conv_near, trivial⟩⟩
theorem Dat_conv_Round : FnAt Tryd.prog 43 Tryd.f43.ntmps Tryd.f43.results.toList (Tryd.f43.body.getD .skip) := ⟨Tryd.f43, Tryd.func43, rfl, rfl, by simp, by decide⟩
theorem Deq_conv_Round (a : Nat) (post : Int × Bool × Unit → Prop) : fnEval Dx_conv_Round nHn Tryd.f43.ntmps Tryd.f43.results.toList (Tryd.f43.body.getD .skip) [.flt .f64] [.snap (.int .i64), .snap .bool] (a, ()) post = Fx_conv_Round  a post := by kernel_rfl
theorem Dh_conv_Round : Dq_conv_Round.holds Tryd.prog DG 43 :=
  detP Dx_conv_Round_ok Dmixed nHn Dat_conv_Round (F := fun x post => Fx_conv_Round  x.1 post) (fun x post => Deq_conv_Round x.1 post) fun x h _ => Lx_conv_Round  x.1 h
end Go.Lift

/- Contracts of functions, of a seat. Own work. -/
set_option linter.unusedVariables false
set_option linter.unusedSimpArgs false
namespace Go.Lift
open Go.Proofs
def Dx_geom_ratio : Cx := ⟨tabOf Dtab, conOf [], DG⟩
theorem Dx_geom_ratio_ok : CxOk Tryd.prog Dx_geom_ratio := ⟨tabB_sound Dtab_ok, fun f c h => by cases h⟩
theorem Dat_geom_ratio : FnAt Tryd.prog 61 Tryd.f61.ntmps Tryd.f61.results.toList (Tryd.f61.body.getD .skip) := ⟨Tryd.f61, Tryd.func61, rfl, rfl, by simp, by decide⟩
theorem Deq_geom_ratio (a : Int) (b : Int) (post : Nat × Unit → Prop) : fnEval Dx_geom_ratio nHn Tryd.f61.ntmps Tryd.f61.results.toList (Tryd.f61.body.getD .skip) [.int .i64, .int .i64] [.snap (.flt .f64)] (a, b, ()) post = Fx_geom_ratio  a b post := by kernel_rfl
theorem Dh_geom_ratio : Dq_geom_ratio.holds Tryd.prog DG 61 :=
  detP Dx_geom_ratio_ok Dmixed nHn Dat_geom_ratio (F := fun x post => Fx_geom_ratio  x.1 x.2.1 post) (fun x post => Deq_geom_ratio x.1 x.2.1 post) fun x h _ => Lx_geom_ratio  x.1 x.2.1 h
def Dx_geom_point : Cx := ⟨tabOf Dtab, conOf [(55, Dq_bits_Canon), (72, Dq_vec_Unit)], DG⟩
theorem Dx_geom_point_ok : CxOk Tryd.prog Dx_geom_point := ⟨tabB_sound Dtab_ok, conOf_sound ⟨Dh_bits_Canon, Dh_vec_Unit, trivial⟩⟩
theorem Dat_geom_point : FnAt Tryd.prog 60 Tryd.f60.ntmps Tryd.f60.results.toList (Tryd.f60.body.getD .skip) := ⟨Tryd.f60, Tryd.func60, rfl, rfl, by simp, by decide⟩
theorem Deq_geom_point (f : Int) (s : Nat) (t : Nat) (post : (Nat × Nat × Nat) × Unit → Prop) : fnEval Dx_geom_point Dhn_geom_point Tryd.f60.ntmps Tryd.f60.results.toList (Tryd.f60.body.getD .skip) [.int .i64, .flt .f64, .flt .f64] [.snap kVec] (f, s, t, ()) post = Fx_geom_point 72 98 f s t post := by kernel_rfl
theorem Dh_geom_point : Dq_geom_point.holds Tryd.prog DG 60 :=
  detP Dx_geom_point_ok Dmixed Dhn_geom_point Dat_geom_point (F := fun x post => Fx_geom_point 72 98 x.1 x.2.1 x.2.2.1 post) (fun x post => Deq_geom_point x.1 x.2.1 x.2.2.1 post) fun x h _ => Lx_geom_point 72 98 x.1 x.2.1 x.2.2.1 h
def Dx_geom_Corner : Cx := ⟨tabOf Dtab, conOf [(31, Dq_cube_Cells), (61, Dq_geom_ratio), (60, Dq_geom_point)], DG⟩
theorem Dx_geom_Corner_ok : CxOk Tryd.prog Dx_geom_Corner := ⟨tabB_sound Dtab_ok, conOf_sound ⟨Dh_cube_Cells, Dh_geom_ratio, Dh_geom_point, trivial⟩⟩
theorem Dat_geom_Corner : FnAt Tryd.prog 54 Tryd.f54.ntmps Tryd.f54.results.toList (Tryd.f54.body.getD .skip) := ⟨Tryd.f54, Tryd.func54, rfl, rfl, by simp, by decide⟩
theorem Deq_geom_Corner (n : Int) (f : Int) (i : Int) (j : Int) (post : (Nat × Nat × Nat) × Bool × Unit → Prop) : fnEval Dx_geom_Corner nHn Tryd.f54.ntmps Tryd.f54.results.toList (Tryd.f54.body.getD .skip) [.int .i64, .int .i64, .int .i64, .int .i64] [.snap kVec, .snap .bool] (n, f, i, j, ()) post = Fx_geom_Corner  n f i j post := by kernel_rfl
theorem Dh_geom_Corner : Dq_geom_Corner.holds Tryd.prog DG 54 :=
  detP Dx_geom_Corner_ok Dmixed nHn Dat_geom_Corner (F := fun x post => Fx_geom_Corner  x.1 x.2.1 x.2.2.1 x.2.2.2.1 post) (fun x post => Deq_geom_Corner x.1 x.2.1 x.2.2.1 x.2.2.2.1 post) fun x h _ => Lx_geom_Corner  x.1 x.2.1 x.2.2.1 x.2.2.2.1 h
def Dx_geom_corners : Cx := ⟨tabOf Dtab, conOf [(53, Dq_cube_Place), (54, Dq_geom_Corner)], DG⟩
theorem Dx_geom_corners_ok : CxOk Tryd.prog Dx_geom_corners := ⟨tabB_sound Dtab_ok, conOf_sound ⟨Dh_cube_Place, Dh_geom_Corner, trivial⟩⟩
theorem Dat_geom_corners : FnAt Tryd.prog 39 Tryd.f39.ntmps Tryd.f39.results.toList (Tryd.f39.body.getD .skip) := ⟨Tryd.f39, Tryd.func39, rfl, rfl, by simp, by decide⟩
theorem Deq_geom_corners (n : Int) (c : Int) (post : (List (Nat × Nat × Nat)) × Bool × Unit → Prop) : fnEval Dx_geom_corners Dhn_geom_corners Tryd.f39.ntmps Tryd.f39.results.toList (Tryd.f39.body.getD .skip) [.int .i64, .int .i64] [.snap (.arr 4 kVec), .snap .bool] (n, c, ()) post = Fx_geom_corners  n c post := by kernel_rfl
theorem Dh_geom_corners : Dq_geom_corners.holds Tryd.prog DG 39 :=
  detP Dx_geom_corners_ok Dmixed Dhn_geom_corners Dat_geom_corners (F := fun x post => Fx_geom_corners  x.1 x.2.1 post) (fun x post => Deq_geom_corners x.1 x.2.1 post) fun x h _ => Lx_geom_corners  x.1 x.2.1 h
def Dx_geom_Area : Cx := ⟨tabOf Dtab, conOf [(39, Dq_geom_corners), (42, Dq_vec_Minus), (41, Dq_vec_Cross), (40, Dq_vec_Length), (43, Dq_conv_Round)], DG⟩
theorem Dx_geom_Area_ok : CxOk Tryd.prog Dx_geom_Area := ⟨tabB_sound Dtab_ok, conOf_sound ⟨Dh_geom_corners, Dh_vec_Minus, Dh_vec_Cross, Dh_vec_Length, Dh_conv_Round, trivial⟩⟩
theorem Dat_geom_Area : FnAt Tryd.prog 19 Tryd.f19.ntmps Tryd.f19.results.toList (Tryd.f19.body.getD .skip) := ⟨Tryd.f19, Tryd.func19, rfl, rfl, by simp, by decide⟩
theorem Deq_geom_Area (n : Int) (c : Int) (post : Int × Unit → Prop) : fnEval Dx_geom_Area nHn Tryd.f19.ntmps Tryd.f19.results.toList (Tryd.f19.body.getD .skip) [.int .i64, .int .i64] [.snap (.int .i64)] (n, c, ()) post = Fx_geom_Area  n c post := by kernel_rfl
theorem Dh_geom_Area : Dq_geom_Area.holds Tryd.prog DG 19 :=
  detP Dx_geom_Area_ok Dmixed nHn Dat_geom_Area (F := fun x post => Fx_geom_Area  x.1 x.2.1 post) (fun x post => Deq_geom_Area x.1 x.2.1 post) fun x h _ => Lx_geom_Area  x.1 x.2.1 h
end Go.Lift

/- Contracts of functions, of a seat. Own work. -/
set_option linter.unusedVariables false
set_option linter.unusedSimpArgs false
namespace Go.Lift
open Go.Proofs
def Dx_tile_root : Cx := ⟨tabOf Dtab, conOf [], DG⟩
theorem Dx_tile_root_ok : CxOk Tryd.prog Dx_tile_root := ⟨tabB_sound Dtab_ok, fun f c h => by cases h⟩
theorem Dat_tile_root : FnAt Tryd.prog 22 Tryd.f22.ntmps Tryd.f22.results.toList (Tryd.f22.body.getD .skip) := ⟨Tryd.f22, Tryd.func22, rfl, rfl, by simp, by decide⟩
theorem Deq_tile_root (a : Int) (post : Int × Unit → Prop) : fnEval Dx_tile_root Dhn_tile_root Tryd.f22.ntmps Tryd.f22.results.toList (Tryd.f22.body.getD .skip) [.int .i64] [.snap (.int .i64)] (a, ()) post = Fx_tile_root  a post := by kernel_rfl
theorem Dh_tile_root : Dq_tile_root.holds Tryd.prog DG 22 :=
  detP Dx_tile_root_ok Dmixed Dhn_tile_root Dat_tile_root (F := fun x post => Fx_tile_root  x.1 post) (fun x post => Deq_tile_root x.1 post) fun x h _ => Lx_tile_root  x.1 h
def Dx_tile_bounds : Cx := ⟨tabOf Dtab, conOf [], DG⟩
theorem Dx_tile_bounds_ok : CxOk Tryd.prog Dx_tile_bounds := ⟨tabB_sound Dtab_ok, fun f c h => by cases h⟩
theorem Dat_tile_bounds : FnAt Tryd.prog 30 Tryd.f30.ntmps Tryd.f30.results.toList (Tryd.f30.body.getD .skip) := ⟨Tryd.f30, Tryd.func30, rfl, rfl, by simp, by decide⟩
theorem Deq_tile_bounds (a : List Int) (post : Int × Int × Unit → Prop) : fnEval Dx_tile_bounds Dhn_tile_bounds Tryd.f30.ntmps Tryd.f30.results.toList (Tryd.f30.body.getD .skip) [.slice (.int .u32)] [.snap (.int .u32), .snap (.int .u32)] (a, ()) post = Fx_tile_bounds  a post := by kernel_rfl
theorem Dh_tile_bounds : Dq_tile_bounds.holds Tryd.prog DG 30 :=
  detP Dx_tile_bounds_ok Dmixed Dhn_tile_bounds Dat_tile_bounds (F := fun x post => Fx_tile_bounds  x.1 post) (fun x post => Deq_tile_bounds x.1 post) fun x h w => Lx_tile_bounds  x.1 h w
def Dx_tile_good : Cx := ⟨tabOf Dtab, conOf [(30, Dq_tile_bounds)], DG⟩
theorem Dx_tile_good_ok : CxOk Tryd.prog Dx_tile_good := ⟨tabB_sound Dtab_ok, conOf_sound ⟨Dh_tile_bounds, trivial⟩⟩
theorem Dat_tile_good : FnAt Tryd.prog 23 Tryd.f23.ntmps Tryd.f23.results.toList (Tryd.f23.body.getD .skip) := ⟨Tryd.f23, Tryd.func23, rfl, rfl, by simp, by decide⟩
theorem Deq_tile_good (a : Int × Int × Int × List Int) (post : Bool × Unit → Prop) : fnEval Dx_tile_good Dhn_tile_good Tryd.f23.ntmps Tryd.f23.results.toList (Tryd.f23.body.getD .skip) [kTile] [.snap .bool] (a, ()) post = Fx_tile_good 25 a post := by kernel_rfl
theorem Dh_tile_good : Dq_tile_good.holds Tryd.prog DG 23 :=
  detP Dx_tile_good_ok Dmixed Dhn_tile_good Dat_tile_good (F := fun x post => Fx_tile_good 25 x.1 post) (fun x post => Deq_tile_good x.1 post) fun x h w => Lx_tile_good 25 x.1 h w
def Dx_tile_get : Cx := ⟨tabOf Dtab, conOf [], DG⟩
theorem Dx_tile_get_ok : CxOk Tryd.prog Dx_tile_get := ⟨tabB_sound Dtab_ok, fun f c h => by cases h⟩
theorem Dat_tile_get : FnAt Tryd.prog 28 Tryd.f28.ntmps Tryd.f28.results.toList (Tryd.f28.body.getD .skip) := ⟨Tryd.f28, Tryd.func28, rfl, rfl, by simp, by decide⟩
theorem Deq_tile_get (a : List Int) (post : Int × Unit → Prop) : fnEval Dx_tile_get nHn Tryd.f28.ntmps Tryd.f28.results.toList (Tryd.f28.body.getD .skip) [.slice (.int .u8)] [.snap (.int .u32)] (a, ()) post = Fx_tile_get  a post := by kernel_rfl
theorem Dh_tile_get : Dq_tile_get.holds Tryd.prog DG 28 :=
  detP Dx_tile_get_ok Dmixed nHn Dat_tile_get (F := fun x post => Fx_tile_get  x.1 post) (fun x post => Deq_tile_get x.1 post) fun x h _ => Lx_tile_get  x.1 h
def Dx_tile_Encode : Cx := ⟨tabOf Dtab, conOf [(22, Dq_tile_root), (23, Dq_tile_good)], DG⟩
theorem Dx_tile_Encode_ok : CxOk Tryd.prog Dx_tile_Encode := ⟨tabB_sound Dtab_ok, conOf_sound ⟨Dh_tile_root, Dh_tile_good, trivial⟩⟩
theorem Dat_tile_Encode : FnAt Tryd.prog 10 Tryd.f10.ntmps Tryd.f10.results.toList (Tryd.f10.body.getD .skip) := ⟨Tryd.f10, Tryd.func10, rfl, rfl, by simp, by decide⟩
theorem Deq_tile_Encode (a : Int × Int × Int × List Int) (post : (List Int) × Int × Unit → Prop) : fnEvalI Dx_tile_Encode Dhn_tile_Encode (callLvl Dx_tile_Encode Dfns_put 6) Tryd.f10.ntmps Tryd.f10.results.toList (Tryd.f10.body.getD .skip) [kTile] [.own 5 (.int .u8), .snap (.int .i64)] (a, ()) post = Fx_tile_Encode 25 5 a post := by kernel_rfl
theorem Dh_tile_Encode : Dq_tile_Encode.holds Tryd.prog DG 10 :=
  detPI Dx_tile_Encode_ok Dmixed Dhn_tile_Encode (callLvl_ok Dx_tile_Encode_ok Dmixed Dfns_put_ok 6) Dat_tile_Encode (F := fun x post => Fx_tile_Encode 25 5 x.1 post) (fun x post => Deq_tile_Encode x.1 post) fun x h w => Lx_tile_Encode 25 5 x.1 h w
def Dx_tile_Decode : Cx := ⟨tabOf Dtab, conOf [(28, Dq_tile_get), (23, Dq_tile_good)], DG⟩
theorem Dx_tile_Decode_ok : CxOk Tryd.prog Dx_tile_Decode := ⟨tabB_sound Dtab_ok, conOf_sound ⟨Dh_tile_get, Dh_tile_good, trivial⟩⟩
theorem Dat_tile_Decode : FnAt Tryd.prog 12 Tryd.f12.ntmps Tryd.f12.results.toList (Tryd.f12.body.getD .skip) := ⟨Tryd.f12, Tryd.func12, rfl, rfl, by simp, by decide⟩
theorem Deq_tile_Decode (b : List Int) (post : (Int × Int × Int × List Int) × Int × Unit → Prop) : fnEval Dx_tile_Decode Dhn_tile_Decode Tryd.f12.ntmps Tryd.f12.results.toList (Tryd.f12.body.getD .skip) [.slice (.int .u8)] [.snap kTile, .snap (.int .i64)] (b, ()) post = Fx_tile_Decode 25 22 b post := by kernel_rfl
theorem Dh_tile_Decode : Dq_tile_Decode.holds Tryd.prog DG 12 :=
  detP Dx_tile_Decode_ok Dmixed Dhn_tile_Decode Dat_tile_Decode (F := fun x post => Fx_tile_Decode 25 22 x.1 post) (fun x post => Deq_tile_Decode x.1 post) fun x h w => Lx_tile_Decode 25 22 x.1 h w
def Dx_tile_Tiles : Cx := ⟨tabOf Dtab, conOf [(16, Dq_state_Check), (19, Dq_geom_Area), (18, Dq_level_Depth), (17, Dq_conv_To32), (30, Dq_tile_bounds)], DG⟩
theorem Dx_tile_Tiles_ok : CxOk Tryd.prog Dx_tile_Tiles := ⟨tabB_sound Dtab_ok, conOf_sound ⟨Dh_state_Check, Dh_geom_Area, Dh_level_Depth, Dh_conv_To32, Dh_tile_bounds, trivial⟩⟩
theorem Dat_tile_Tiles : FnAt Tryd.prog 15 Tryd.f15.ntmps Tryd.f15.results.toList (Tryd.f15.body.getD .skip) := ⟨Tryd.f15, Tryd.func15, rfl, rfl, by simp, by decide⟩
theorem Deq_tile_Tiles (n : Int) (s : (List Nat) × (List Int) × (List Int) × (List Nat) × Int × Int) (post : (List (Int × Int × Int × List Int)) × Int × Unit → Prop) : fnEval Dx_tile_Tiles Dhn_tile_Tiles Tryd.f15.ntmps Tryd.f15.results.toList (Tryd.f15.body.getD .skip) [.int .i64, kSea] [.snap (.slice kTile), .snap (.int .i64)] (n, s, ()) post = Fx_tile_Tiles 40 25 22 n s post := by kernel_rfl
theorem Dh_tile_Tiles : Dq_tile_Tiles.holds Tryd.prog DG 15 :=
  detP Dx_tile_Tiles_ok Dmixed Dhn_tile_Tiles Dat_tile_Tiles (F := fun x post => Fx_tile_Tiles 40 25 22 x.1 x.2.1 post) (fun x post => Deq_tile_Tiles x.1 x.2.1 post) fun x h w => Lx_tile_Tiles 40 25 22 x.1 x.2.1 h w
end Go.Lift

/- Contracts of functions, of a seat. Own work. -/
set_option linter.unusedVariables false
set_option linter.unusedSimpArgs false
namespace Go.Lift
open Go.Proofs
def Dx_law24_same : Cx := ⟨tabOf Dtab, conOf [], DG⟩
theorem Dx_law24_same_ok : CxOk Tryd.prog Dx_law24_same := ⟨tabB_sound Dtab_ok, fun f c h => by cases h⟩
theorem Dat_law24_same : FnAt Tryd.prog 14 Tryd.f14.ntmps Tryd.f14.results.toList (Tryd.f14.body.getD .skip) := ⟨Tryd.f14, Tryd.func14, rfl, rfl, by simp, by decide⟩
theorem Deq_law24_same (a : Int × Int × Int × List Int) (b : Int × Int × Int × List Int) (post : Bool × Unit → Prop) : fnEval Dx_law24_same Dhn_law24_same Tryd.f14.ntmps Tryd.f14.results.toList (Tryd.f14.body.getD .skip) [kTile, kTile] [.snap .bool] (a, b, ()) post = Fx_law24_same 25 a b post := by kernel_rfl
theorem Dh_law24_same : Dq_law24_same.holds Tryd.prog DG 14 :=
  detP Dx_law24_same_ok Dmixed Dhn_law24_same Dat_law24_same (F := fun x post => Fx_law24_same 25 x.1 x.2.1 post) (fun x post => Deq_law24_same x.1 x.2.1 post) fun x _ w => Lx_law24_same 25 x.1 x.2.1 w
def Dx_law24_four : Cx := ⟨tabOf Dtab, conOf [], DG⟩
theorem Dx_law24_four_ok : CxOk Tryd.prog Dx_law24_four := ⟨tabB_sound Dtab_ok, fun f c h => by cases h⟩
theorem Dat_law24_four : FnAt Tryd.prog 21 Tryd.f21.ntmps Tryd.f21.results.toList (Tryd.f21.body.getD .skip) := ⟨Tryd.f21, Tryd.func21, rfl, rfl, by simp, by decide⟩
theorem Deq_law24_four  (post : (Int × Int × Int × List Int) × Unit → Prop) : fnEval Dx_law24_four nHn Tryd.f21.ntmps Tryd.f21.results.toList (Tryd.f21.body.getD .skip) [] [.snap kTile] (()) post = Fx_law24_four   post := by kernel_rfl
theorem Dh_law24_four : Dq_law24_four.holds Tryd.prog DG 21 :=
  detP Dx_law24_four_ok Dmixed nHn Dat_law24_four (F := fun x post => Fx_law24_four   post) (fun x post => Deq_law24_four  post) fun x _ _ => Lx_law24_four  
def Dx_law24_awake : Cx := ⟨tabOf Dtab, conOf [(21, Dq_law24_four), (10, Dq_tile_Encode), (12, Dq_tile_Decode), (15, Dq_tile_Tiles), (14, Dq_law24_same)], DG⟩
theorem Dx_law24_awake_ok : CxOk Tryd.prog Dx_law24_awake := ⟨tabB_sound Dtab_ok, conOf_sound ⟨Dh_law24_four, Dh_tile_Encode, Dh_tile_Decode, Dh_tile_Tiles, Dh_law24_same, trivial⟩⟩
theorem Dat_law24_awake : FnAt Tryd.prog 9 Tryd.f9.ntmps Tryd.f9.results.toList (Tryd.f9.body.getD .skip) := ⟨Tryd.f9, Tryd.func9, rfl, rfl, by simp, by decide⟩
theorem Deq_law24_awake  (post : Bool × Unit → Prop) : fnEval Dx_law24_awake nHn Tryd.f9.ntmps Tryd.f9.results.toList (Tryd.f9.body.getD .skip) [] [.snap .bool] (()) post = Fx_law24_awake   post := by kernel_rfl
theorem Dh_law24_awake : Dq_law24_awake.holds Tryd.prog DG 9 :=
  detP Dx_law24_awake_ok Dmixed nHn Dat_law24_awake (F := fun x post => Fx_law24_awake   post) (fun x post => Deq_law24_awake  post) fun x _ _ => Lx_law24_awake  
end Go.Lift

/- Own work. -/
set_option linter.unusedVariables false
set_option linter.unusedSimpArgs false
namespace Go.Lift
def Fx_ref24_Side := fun (a : Int) (post : Int × Unit → Prop) => HIs [] [] ∧ ∃ (I : Int × Unit → Unit → Prop), ∃ (μ : Int × Unit → Unit → Nat), I ((1 : Int), ()) () ∧ ∀ (x : Int ×
  Unit) (y : Unit), I x y → ∀ (a_1 : Bool), a_1 = decide (x.fst ≤ (32 : Int)) → Br a_1 (∀ (a_2 : Bool), a_2 = (IntKind.i64.wrap (x.fst * x.fst) == a) → Br a_2 (post (x.fst, ()))
  (HIs [] [] ∧ I (IntKind.i64.wrap (x.fst + (1 : Int)), ()) () ∧ μ (IntKind.i64.wrap (x.fst + (1 : Int)), ()) () < μ x y)) (post ((0 : Int), ()))
theorem Lx_ref24_Side (a : Int) (h : I64 a) : Fx_ref24_Side  a (fun r => r = rootR a) := by
  refine ⟨rfl, fun x _ => ∃ k : Nat, x.1 = k ∧ 1 ≤ k ∧ k ≤ 33 ∧ rootI a = rootN a (33 - k) k, fun x _ => 33 - x.1.toNat, ⟨1, rfl, by omega, by omega, rfl⟩, ?_⟩
  rintro ⟨_, ⟨⟩⟩ _ ⟨k, rfl, k1, k2, hk⟩
  dsimp only
  rintro _ rfl
  refine Br.intro (fun e => ?_) fun e => ?_
  · have e := of_decide_eq_true e
    have q : k * k ≤ 32 * 32 := Nat.mul_le_mul (by omega) (by omega)
    have wk : IntKind.i64.wrap ((k : Int) * k) = (k : Int) * k := by
      rw [← Int.natCast_mul]; exact wi ⟨by omega, by omega⟩
    obtain ⟨m, hm⟩ : ∃ m, 33 - k = m + 1 := ⟨32 - k, by omega⟩
    rw [hm, rootN_succ] at hk
    rw [wk]
    rintro _ rfl
    refine Br.intro (fun f => ?_) fun f => ?_
    · have f : (k : Int) * k = a := eq_of_beq f
      rw [if_pos f] at hk
      exact congrArg r1 hk.symm
    · have f : ¬ (k : Int) * k = a := by intro q; rw [q] at f; simp at f
      rw [if_neg f] at hk
      have ws : IntKind.i64.wrap ((k : Int) + 1) = ((k + 1 : Nat) : Int) := wi_succ (n := 34) (by omega) (by omega)
      rw [ws]
      exact ⟨rfl, ⟨k + 1, rfl, by omega, by omega, by rw [hk, show 33 - (k + 1) = m by omega]⟩, by omega⟩
  · have e := of_decide_eq_false e
    refine congrArg r1 ?_
    rw [hk, show 33 - k = 0 by omega]; rfl
def Fx_ref24_ends := fun (a : List Int) (post : Int × Int × Unit → Prop) => ∃ (h : (0 : Int) ≤ (0 : Int) ∧ (0 : Int) < (↑a.length : Int)), ∃ (h : (0 : Int) ≤ (0 : Int) ∧ (0 : Int) <
  (↑a.length : Int)), HIs [] [] ∧ ∃ (I : Int × Int × Int × Unit → Unit → Prop), ∃ (μ : Int × Int × Int × Unit → Unit → Nat), I (a.getD (Int.toNat (0 : Int)) (0 : Int), a.getD
  (Int.toNat (0 : Int)) (0 : Int), (1 : Int), ()) () ∧ ∀ (x : Int × Int × Int × Unit) (y : Unit), I x y → ∀ (a_1 : Bool), a_1 = decide (x.snd.snd.fst < (↑a.length : Int)) → Br a_1
  (∃ (post : Int × Int × Unit → Unit → Prop), (∃ (post_1 : Int × Unit → Unit → Prop), (∃ (h : (0 : Int) ≤ x.snd.snd.fst ∧ x.snd.snd.fst < (↑a.length : Int)), ∀ (a_2 : Bool), a_2 =
  decide (a.getD x.snd.snd.fst.toNat (0 : Int) < x.fst) → Br a_2 (∃ (h : (0 : Int) ≤ x.snd.snd.fst ∧ x.snd.snd.fst < (↑a.length : Int)), HIs [] [] ∧ post_1 (a.getD
  x.snd.snd.fst.toNat (0 : Int), ()) ()) (HIs [] [] ∧ post_1 (x.fst, ()) ())) ∧ ∀ (x_3 : Int × Unit) (y : Unit), post_1 x_3 y → ∃ (h : (0 : Int) ≤ x.snd.snd.fst ∧ x.snd.snd.fst <
  (↑a.length : Int)), ∀ (a_2 : Bool), a_2 = decide (a.getD x.snd.snd.fst.toNat (0 : Int) > x.snd.fst) → Br a_2 (∃ (h : (0 : Int) ≤ x.snd.snd.fst ∧ x.snd.snd.fst < (↑a.length :
  Int)), HIs [] [] ∧ post (x_3.fst, a.getD x.snd.snd.fst.toNat (0 : Int), ()) ()) (HIs [] [] ∧ post (x_3.fst, x.snd.fst, ()) ())) ∧ ∀ (x_3 : Int × Int × Unit) (y_1 : Unit), post x_3
  y_1 → HIs [] [] ∧ I (x_3.fst, x_3.snd.fst, IntKind.i64.wrap (x.snd.snd.fst + (1 : Int)), ()) () ∧ μ (x_3.fst, x_3.snd.fst, IntKind.i64.wrap (x.snd.snd.fst + (1 : Int)), ()) () < μ
  x y) (post (x.fst, x.snd.fst, ()))
theorem Lx_ref24_ends (a : List Int) (h : NE a) (w : KS.wf [.slice (.int .u32)] (a, ())) : Fx_ref24_ends  a (fun r => r = endsR a) := by
  have hl : a.length ≤ maxN := w.1.1
  unfold maxN at hl
  have h : 0 < a.length := h
  have t1 : a.take 1 = [a.getD 0 0] := by rw [take_step h 0]; rfl
  have m1 : ∀ x : Int, imin x x = x := fun x => by unfold imin; split <;> rfl
  have m2 : ∀ x : Int, imax x x = x := fun x => by unfold imax; split <;> rfl
  refine ⟨⟨by omega, by omega⟩, ⟨by omega, by omega⟩, rfl, fun x _ => ∃ i : Nat, x.2.2.1 = i ∧ i ≤ a.length ∧ x.1 = (a.take i).foldl imin (a.getD 0 0) ∧ x.2.1 = (a.take i).foldl imax (a.getD 0 0), fun x _ => a.length - x.2.2.1.toNat, ⟨1, rfl, by omega, by rw [t1]; exact (m1 _).symm, by rw [t1]; exact (m2 _).symm⟩, ?_⟩
  rintro ⟨_, _, _, ⟨⟩⟩ _ ⟨i, rfl, hil, rfl, rfl⟩
  dsimp only
  rintro _ rfl
  refine Br.intro (fun e => ?_) fun e => ?_
  · have e : i < a.length := by have := of_decide_eq_true e; omega
    have hin : (0 : Int) ≤ i ∧ (i : Int) < a.length := ⟨by omega, by omega⟩
    rw [Int.toNat_natCast, wi_succ e (by omega)]
    refine ⟨fun r _ => r.1 = (a.take (i + 1)).foldl imin (a.getD 0 0) ∧ r.2.1 = (a.take (i + 1)).foldl imax (a.getD 0 0), ⟨fun r _ => r.1 = (a.take (i + 1)).foldl imin (a.getD 0 0), ⟨hin, ?_⟩, ?_⟩, ?_⟩
    · rw [foldl_step imin e 0]
      rintro _ rfl
      refine Br.intro (fun g => ⟨hin, rfl, ?_⟩) fun g => ⟨rfl, ?_⟩
      · exact (imin_of (of_decide_eq_true g)).symm
      · exact (imin_not (of_decide_eq_false g)).symm
    · rintro ⟨_, ⟨⟩⟩ _ rfl
      refine ⟨hin, ?_⟩
      rw [foldl_step imax e 0]
      rintro _ rfl
      refine Br.intro (fun g => ⟨hin, rfl, rfl, ?_⟩) fun g => ⟨rfl, rfl, ?_⟩
      · exact (imax_of (of_decide_eq_true g)).symm
      · exact (imax_not (of_decide_eq_false g)).symm
    · rintro ⟨_, _, ⟨⟩⟩ _ ⟨rfl, rfl⟩
      exact ⟨rfl, ⟨i + 1, rfl, by omega, rfl, rfl⟩, by omega⟩
  · have e : ¬ i < a.length := by have := of_decide_eq_false e; omega
    rw [List.take_of_length_le (by omega)]; rfl
def Fx_ref24_Good := fun (a : Int × Int × Int × List Int) (post : Bool × Unit → Prop) => ∀ (a_1 : Bool), a_1 = decide (a.fst < (0 : Int)) → Br a_1 (post (Bool.false, ())) (∀ (a_2 :
  Bool), a_2 = decide (a.fst > (5 : Int)) → Br a_2 (post (Bool.false, ())) (∃ (h : I64 (↑a.snd.snd.snd.length : Int)), ∀ (a_3 : Bool), a_3 = ((rootR (↑a.snd.snd.snd.length :
  Int)).fst == (0 : Int)) → Br a_3 (post (Bool.false, ())) (∃ (h : NE a.snd.snd.snd), ∀ (a_4 : Bool), a_4 = decide ((endsR a.snd.snd.snd).snd.fst < (2139095040 : Int)) → Br a_4 (∀
  (a_5 : Bool), a_5 = (a.snd.fst == (endsR a.snd.snd.snd).fst) → Br a_5 (∀ (a_6 : Bool), a_6 = (a.snd.snd.fst == (endsR a.snd.snd.snd).snd.fst) → post (a_6, ())) (post (Bool.false,
  ()))) (post (Bool.false, ())))))
theorem Lx_ref24_Good (a : Int × Int × Int × List Int) (h : TiOk a) (w : KS.wf [kTile] (a, ())) : Fx_ref24_Good  a (fun r => r = goodTR a) := by
  have hl : a.2.2.2.length ≤ maxN := w.1.2.2.2.1
  unfold maxN at hl
  have be : ∀ x y : Int, (x == y) = decide (x = y) := fun x y => by by_cases q : x = y <;> simp [q]
  have no : goodT a = false → (false, ()) = goodTR a := fun q => congrArg r1 q.symm
  rintro _ rfl
  refine Br.intro (fun e => no ?_) fun e => ?_
  · have e := of_decide_eq_true e
    unfold goodT; rw [decide_eq_false (by omega)]; rfl
  have e0 := of_decide_eq_false e
  rintro _ rfl
  refine Br.intro (fun e => no ?_) fun e => ?_
  · have e := of_decide_eq_true e
    unfold goodT; rw [decide_eq_false (p := a.1 ≤ 5) (by omega), Bool.and_false]; rfl
  have e1 := of_decide_eq_false e
  refine ⟨⟨by omega, by omega⟩, ?_⟩
  rintro _ rfl
  refine Br.intro (fun e => no ?_) fun e => ?_
  · have e : rootI a.2.2.2.length = 0 := eq_of_beq e
    unfold goodT; rw [e, decide_eq_false (p := (0 : Int) ≠ 0) (by decide), Bool.and_false]; rfl
  have e2 : rootI a.2.2.2.length ≠ 0 := by intro q; have e : (rootI a.2.2.2.length == 0) = false := e; rw [q] at e; cases e
  have hp : 0 < a.2.2.2.length := by
    obtain ⟨r1, r2, r3⟩ := root_rng e2
    have := Int.mul_le_mul r1 r1 (by omega) (by omega)
    omega
  refine ⟨hp, ?_⟩
  have g : goodT a = ((decide (maxL a.2.2.2 < 2139095040) && decide (a.2.1 = minL a.2.2.2)) && decide (a.2.2.1 = maxL a.2.2.2)) := by
    unfold goodT lowT
    rw [decide_eq_true (p := 0 ≤ a.1) (by omega), decide_eq_true (p := a.1 ≤ 5) (by omega), decide_eq_true e2, all_lt hp]; rfl
  rintro _ rfl
  refine Br.intro (fun e => ?_) fun e => ?_
  · have e : decide (maxL a.2.2.2 < 2139095040) = true := e
    rintro _ rfl
    refine Br.intro (fun f => ?_) fun f => ?_
    · have f : (a.2.1 == minL a.2.2.2) = true := f
      rw [be] at f
      rintro _ rfl
      refine congrArg r1 ?_
      show (a.2.2.1 == maxL a.2.2.2) = _
      rw [g, e, f, be]; rfl
    · have f : (a.2.1 == minL a.2.2.2) = false := f
      rw [be] at f
      exact no (by rw [g, e, f]; rfl)
  · have e : decide (maxL a.2.2.2 < 2139095040) = false := e
    exact no (by rw [g, e]; rfl)
def Fx_ref24_number := fun (a : List Int) (post : Int × Unit → Prop) => ∃ (h : (0 : Int) ≤ (0 : Int) ∧ (0 : Int) < (↑a.length : Int)), ∃ (h : (0 : Int) ≤ (1 : Int) ∧ (1 : Int) <
  (↑a.length : Int)), ∃ (h : (0 : Int) ≤ (2 : Int) ∧ (2 : Int) < (↑a.length : Int)), ∃ (h : (0 : Int) ≤ (3 : Int) ∧ (3 : Int) < (↑a.length : Int)), post (IntKind.u32.wrap
  (IntKind.u32.wrap (IntKind.u32.wrap (IntKind.u32.wrap (a.getD (Int.toNat (0 : Int)) (0 : Int)) + IntKind.u32.wrap ((256 : Int) * IntKind.u32.wrap (a.getD (Int.toNat (1 : Int)) (0
  : Int)))) + IntKind.u32.wrap ((65536 : Int) * IntKind.u32.wrap (a.getD (Int.toNat (2 : Int)) (0 : Int)))) + IntKind.u32.wrap ((16777216 : Int) * IntKind.u32.wrap (a.getD
  (Int.toNat (3 : Int)) (0 : Int)))), ())
theorem Lx_ref24_number (a : List Int) (h : WNum4 a) : Fx_ref24_number  a (fun r => r = num4R a) := by
  obtain ⟨hb, hl⟩ := h
  refine ⟨⟨by omega, by omega⟩, ⟨by omega, by omega⟩, ⟨by omega, by omega⟩, ⟨by omega, by omega⟩, congrArg r1 ?_⟩
  exact num4_sum (hb _ (getD_mem (show 0 < a.length by omega) 0)) (hb _ (getD_mem (show 1 < a.length by omega) 0)) (hb _ (getD_mem (show 2 < a.length by omega) 0)) (hb _ (getD_mem (show 3 < a.length by omega) 0))
def Fx_ref24_Encode := fun (ty25 ty5 : Nat) (a : Int × Int × Int × List Int) (post : List Int × Int × Unit → Prop) => ∃ (h : TiOk (a.fst, a.snd.fst, a.snd.snd.fst, a.snd.snd.snd)),
  ∀ (a_1 : Bool), a_1 = (goodTR (a.fst, a.snd.fst, a.snd.snd.fst, a.snd.snd.snd)).fst → Br (!a_1) (post ([], (1 : Int), ())) (∃ (h : (0 : Nat) = (0 : Nat) ∧ (0 : Nat) + (strBytes {
  data := #[(84 : UInt8), (73 : UInt8), (76 : UInt8), (69 : UInt8)] }).length ≤ (140737488355328 : Nat)), ∃ (h : I64 (↑a.snd.snd.snd.length : Int)), ∃ (h : (0 : Nat) + (strBytes {
  data := #[(84 : UInt8), (73 : UInt8), (76 : UInt8), (69 : UInt8)] }).length = ([] ++ strBytes { data := #[(84 : UInt8), (73 : UInt8), (76 : UInt8), (69 : UInt8)] }).length ∧ (([]
  ++ strBytes { data := #[(84 : UInt8), (73 : UInt8), (76 : UInt8), (69 : UInt8)] }).length + (2 : Nat)) * (1 : Nat) ≤ (140737488355328 : Nat)), ∃ (h : (256 : Int) ≠ (0 : Int)), ∃
  (h : (256 : Int) ≠ (0 : Int)), ∃ (h : (256 : Int) ≠ (0 : Int)), ∃ (h : (65536 : Int) ≠ (0 : Int)), ∃ (h : (256 : Int) ≠ (0 : Int)), ∃ (h : (16777216 : Int) ≠ (0 : Int)), ∃ (h :
  ([] ++ strBytes { data := #[(84 : UInt8), (73 : UInt8), (76 : UInt8), (69 : UInt8)] }).length + (2 : Nat) = ([] ++ strBytes { data := #[(84 : UInt8), (73 : UInt8), (76 : UInt8),
  (69 : UInt8)] } ++ [IntKind.u8.wrap a.fst, IntKind.u8.wrap (rootR (↑a.snd.snd.snd.length : Int)).fst]).length ∧ (([] ++ strBytes { data := #[(84 : UInt8), (73 : UInt8), (76 :
  UInt8), (69 : UInt8)] } ++ [IntKind.u8.wrap a.fst, IntKind.u8.wrap (rootR (↑a.snd.snd.snd.length : Int)).fst]).length + (4 : Nat)) * (1 : Nat) ≤ (140737488355328 : Nat)), ∃ (h :
  (256 : Int) ≠ (0 : Int)), ∃ (h : (256 : Int) ≠ (0 : Int)), ∃ (h : (256 : Int) ≠ (0 : Int)), ∃ (h : (65536 : Int) ≠ (0 : Int)), ∃ (h : (256 : Int) ≠ (0 : Int)), ∃ (h : (16777216 :
  Int) ≠ (0 : Int)), ∃ (h : ([] ++ strBytes { data := #[(84 : UInt8), (73 : UInt8), (76 : UInt8), (69 : UInt8)] } ++ [IntKind.u8.wrap a.fst, IntKind.u8.wrap (rootR
  (↑a.snd.snd.snd.length : Int)).fst]).length + (4 : Nat) = ([] ++ strBytes { data := #[(84 : UInt8), (73 : UInt8), (76 : UInt8), (69 : UInt8)] } ++ [IntKind.u8.wrap a.fst,
  IntKind.u8.wrap (rootR (↑a.snd.snd.snd.length : Int)).fst] ++ [IntKind.u8.wrap (a.snd.fst.tmod (256 : Int)), IntKind.u8.wrap ((IntKind.u32.wrap (a.snd.fst.tdiv (256 : Int))).tmod
  (256 : Int)), IntKind.u8.wrap ((IntKind.u32.wrap (a.snd.fst.tdiv (65536 : Int))).tmod (256 : Int)), IntKind.u8.wrap (IntKind.u32.wrap (a.snd.fst.tdiv (16777216 : Int)))]).length ∧
  (([] ++ strBytes { data := #[(84 : UInt8), (73 : UInt8), (76 : UInt8), (69 : UInt8)] } ++ [IntKind.u8.wrap a.fst, IntKind.u8.wrap (rootR (↑a.snd.snd.snd.length : Int)).fst] ++
  [IntKind.u8.wrap (a.snd.fst.tmod (256 : Int)), IntKind.u8.wrap ((IntKind.u32.wrap (a.snd.fst.tdiv (256 : Int))).tmod (256 : Int)), IntKind.u8.wrap ((IntKind.u32.wrap
  (a.snd.fst.tdiv (65536 : Int))).tmod (256 : Int)), IntKind.u8.wrap (IntKind.u32.wrap (a.snd.fst.tdiv (16777216 : Int)))]).length + (4 : Nat)) * (1 : Nat) ≤ (140737488355328 :
  Nat)), ((0 : Nat) = (0 : Nat) ∧ ([] ++ strBytes { data := #[(84 : UInt8), (73 : UInt8), (76 : UInt8), (69 : UInt8)] } ++ [IntKind.u8.wrap a.fst, IntKind.u8.wrap (rootR
  (↑a.snd.snd.snd.length : Int)).fst] ++ [IntKind.u8.wrap (a.snd.fst.tmod (256 : Int)), IntKind.u8.wrap ((IntKind.u32.wrap (a.snd.fst.tdiv (256 : Int))).tmod (256 : Int)),
  IntKind.u8.wrap ((IntKind.u32.wrap (a.snd.fst.tdiv (65536 : Int))).tmod (256 : Int)), IntKind.u8.wrap (IntKind.u32.wrap (a.snd.fst.tdiv (16777216 : Int)))]).length + (4 : Nat) =
  ([] ++ strBytes { data := #[(84 : UInt8), (73 : UInt8), (76 : UInt8), (69 : UInt8)] } ++ [IntKind.u8.wrap a.fst, IntKind.u8.wrap (rootR (↑a.snd.snd.snd.length : Int)).fst] ++
  [IntKind.u8.wrap (a.snd.fst.tmod (256 : Int)), IntKind.u8.wrap ((IntKind.u32.wrap (a.snd.fst.tdiv (256 : Int))).tmod (256 : Int)), IntKind.u8.wrap ((IntKind.u32.wrap
  (a.snd.fst.tdiv (65536 : Int))).tmod (256 : Int)), IntKind.u8.wrap (IntKind.u32.wrap (a.snd.fst.tdiv (16777216 : Int)))] ++ [IntKind.u8.wrap (a.snd.snd.fst.tmod (256 : Int)),
  IntKind.u8.wrap ((IntKind.u32.wrap (a.snd.snd.fst.tdiv (256 : Int))).tmod (256 : Int)), IntKind.u8.wrap ((IntKind.u32.wrap (a.snd.snd.fst.tdiv (65536 : Int))).tmod (256 : Int)),
  IntKind.u8.wrap (IntKind.u32.wrap (a.snd.snd.fst.tdiv (16777216 : Int)))]).length) ∧ HIs [HObj.box Md.rw ty25 [SV.val (Go.Value.int IntKind.i64 a.fst), SV.val (Go.Value.int
  IntKind.u32 a.snd.fst), SV.val (Go.Value.int IntKind.u32 a.snd.snd.fst), SV.data (K.int IntKind.u32).slice a.snd.snd.snd], HObj.dead, HObj.dead, HObj.row Md.rw ty5 (K.int
  IntKind.u8) [IntKind.u8.wrap a.fst, IntKind.u8.wrap (rootR (↑a.snd.snd.snd.length : Int)).fst], HObj.dead, HObj.row Md.rw ty5 (K.int IntKind.u8) [IntKind.u8.wrap (a.snd.fst.tmod
  (256 : Int)), IntKind.u8.wrap ((IntKind.u32.wrap (a.snd.fst.tdiv (256 : Int))).tmod (256 : Int)), IntKind.u8.wrap ((IntKind.u32.wrap (a.snd.fst.tdiv (65536 : Int))).tmod (256 :
  Int)), IntKind.u8.wrap (IntKind.u32.wrap (a.snd.fst.tdiv (16777216 : Int)))], HObj.dead, HObj.row Md.rw ty5 (K.int IntKind.u8) [IntKind.u8.wrap (a.snd.snd.fst.tmod (256 : Int)),
  IntKind.u8.wrap ((IntKind.u32.wrap (a.snd.snd.fst.tdiv (256 : Int))).tmod (256 : Int)), IntKind.u8.wrap ((IntKind.u32.wrap (a.snd.snd.fst.tdiv (65536 : Int))).tmod (256 : Int)),
  IntKind.u8.wrap (IntKind.u32.wrap (a.snd.snd.fst.tdiv (16777216 : Int)))], HObj.dead] [HObj.box Md.rw ty25 [SV.val (Go.Value.int IntKind.i64 a.fst), SV.val (Go.Value.int
  IntKind.u32 a.snd.fst), SV.val (Go.Value.int IntKind.u32 a.snd.snd.fst), SV.data (K.int IntKind.u32).slice a.snd.snd.snd], HObj.dead, HObj.dead, HObj.row Md.rw ty5 (K.int
  IntKind.u8) [IntKind.u8.wrap a.fst, IntKind.u8.wrap (rootR (↑a.snd.snd.snd.length : Int)).fst], HObj.dead, HObj.row Md.rw ty5 (K.int IntKind.u8) [IntKind.u8.wrap (a.snd.fst.tmod
  (256 : Int)), IntKind.u8.wrap ((IntKind.u32.wrap (a.snd.fst.tdiv (256 : Int))).tmod (256 : Int)), IntKind.u8.wrap ((IntKind.u32.wrap (a.snd.fst.tdiv (65536 : Int))).tmod (256 :
  Int)), IntKind.u8.wrap (IntKind.u32.wrap (a.snd.fst.tdiv (16777216 : Int)))], HObj.dead, HObj.row Md.rw ty5 (K.int IntKind.u8) [IntKind.u8.wrap (a.snd.snd.fst.tmod (256 : Int)),
  IntKind.u8.wrap ((IntKind.u32.wrap (a.snd.snd.fst.tdiv (256 : Int))).tmod (256 : Int)), IntKind.u8.wrap ((IntKind.u32.wrap (a.snd.snd.fst.tdiv (65536 : Int))).tmod (256 : Int)),
  IntKind.u8.wrap (IntKind.u32.wrap (a.snd.snd.fst.tdiv (16777216 : Int)))], HObj.dead] ∧ ∃ (I : List Int × Int × Int × Unit → Unit → Prop), ∃ (μ : List Int × Int × Int × Unit →
  Unit → Nat), I ([] ++ strBytes { data := #[(84 : UInt8), (73 : UInt8), (76 : UInt8), (69 : UInt8)] } ++ [IntKind.u8.wrap a.fst, IntKind.u8.wrap (rootR (↑a.snd.snd.snd.length :
  Int)).fst] ++ [IntKind.u8.wrap (a.snd.fst.tmod (256 : Int)), IntKind.u8.wrap ((IntKind.u32.wrap (a.snd.fst.tdiv (256 : Int))).tmod (256 : Int)), IntKind.u8.wrap ((IntKind.u32.wrap
  (a.snd.fst.tdiv (65536 : Int))).tmod (256 : Int)), IntKind.u8.wrap (IntKind.u32.wrap (a.snd.fst.tdiv (16777216 : Int)))] ++ [IntKind.u8.wrap (a.snd.snd.fst.tmod (256 : Int)),
  IntKind.u8.wrap ((IntKind.u32.wrap (a.snd.snd.fst.tdiv (256 : Int))).tmod (256 : Int)), IntKind.u8.wrap ((IntKind.u32.wrap (a.snd.snd.fst.tdiv (65536 : Int))).tmod (256 : Int)),
  IntKind.u8.wrap (IntKind.u32.wrap (a.snd.snd.fst.tdiv (16777216 : Int)))], (0 : Int), (0 : Int), ()) () ∧ ∀ (x : List Int × Int × Int × Unit) (y : Unit), I x y → ∀ (a_2 : Bool),
  a_2 = decide (x.snd.snd.fst < (↑a.snd.snd.snd.length : Int)) → Br a_2 (∃ (h : (0 : Int) ≤ x.snd.snd.fst ∧ x.snd.snd.fst < (↑a.snd.snd.snd.length : Int)), ∃ (h : (256 : Int) ≠ (0 :
  Int)), ∃ (h : (256 : Int) ≠ (0 : Int)), ∃ (h : (256 : Int) ≠ (0 : Int)), ∃ (h : (65536 : Int) ≠ (0 : Int)), ∃ (h : (256 : Int) ≠ (0 : Int)), ∃ (h : (16777216 : Int) ≠ (0 : Int)),
  ∃ (h : x.fst.length = x.fst.length ∧ (x.fst.length + (4 : Nat)) * (1 : Nat) ≤ (140737488355328 : Nat)), ∃ (h : (0 : Int) ≤ x.snd.snd.fst ∧ x.snd.snd.fst < (↑a.snd.snd.snd.length :
  Int)), ((0 : Nat) = (0 : Nat) ∧ x.fst.length + (4 : Nat) = (x.fst ++ [IntKind.u8.wrap ((Go.bits Go.BinOp.xor IntKind.u32 (a.snd.snd.snd.getD x.snd.snd.fst.toNat (0 : Int))
  x.snd.fst).tmod (256 : Int)), IntKind.u8.wrap ((IntKind.u32.wrap ((Go.bits Go.BinOp.xor IntKind.u32 (a.snd.snd.snd.getD x.snd.snd.fst.toNat (0 : Int)) x.snd.fst).tdiv (256 :
  Int))).tmod (256 : Int)), IntKind.u8.wrap ((IntKind.u32.wrap ((Go.bits Go.BinOp.xor IntKind.u32 (a.snd.snd.snd.getD x.snd.snd.fst.toNat (0 : Int)) x.snd.fst).tdiv (65536 :
  Int))).tmod (256 : Int)), IntKind.u8.wrap (IntKind.u32.wrap ((Go.bits Go.BinOp.xor IntKind.u32 (a.snd.snd.snd.getD x.snd.snd.fst.toNat (0 : Int)) x.snd.fst).tdiv (16777216 :
  Int)))]).length) ∧ HIs [HObj.box Md.rw ty25 [SV.val (Go.Value.int IntKind.i64 a.fst), SV.val (Go.Value.int IntKind.u32 a.snd.fst), SV.val (Go.Value.int IntKind.u32 a.snd.snd.fst),
  SV.data (K.int IntKind.u32).slice a.snd.snd.snd], HObj.dead, HObj.dead, HObj.row Md.rw ty5 (K.int IntKind.u8) [IntKind.u8.wrap a.fst, IntKind.u8.wrap (rootR (↑a.snd.snd.snd.length
  : Int)).fst], HObj.dead, HObj.row Md.rw ty5 (K.int IntKind.u8) [IntKind.u8.wrap (a.snd.fst.tmod (256 : Int)), IntKind.u8.wrap ((IntKind.u32.wrap (a.snd.fst.tdiv (256 : Int))).tmod
  (256 : Int)), IntKind.u8.wrap ((IntKind.u32.wrap (a.snd.fst.tdiv (65536 : Int))).tmod (256 : Int)), IntKind.u8.wrap (IntKind.u32.wrap (a.snd.fst.tdiv (16777216 : Int)))],
  HObj.dead, HObj.row Md.rw ty5 (K.int IntKind.u8) [IntKind.u8.wrap (a.snd.snd.fst.tmod (256 : Int)), IntKind.u8.wrap ((IntKind.u32.wrap (a.snd.snd.fst.tdiv (256 : Int))).tmod (256
  : Int)), IntKind.u8.wrap ((IntKind.u32.wrap (a.snd.snd.fst.tdiv (65536 : Int))).tmod (256 : Int)), IntKind.u8.wrap (IntKind.u32.wrap (a.snd.snd.fst.tdiv (16777216 : Int)))],
  HObj.dead] [HObj.box Md.rw ty25 [SV.val (Go.Value.int IntKind.i64 a.fst), SV.val (Go.Value.int IntKind.u32 a.snd.fst), SV.val (Go.Value.int IntKind.u32 a.snd.snd.fst), SV.data
  (K.int IntKind.u32).slice a.snd.snd.snd], HObj.dead, HObj.dead, HObj.row Md.rw ty5 (K.int IntKind.u8) [IntKind.u8.wrap a.fst, IntKind.u8.wrap (rootR (↑a.snd.snd.snd.length :
  Int)).fst], HObj.dead, HObj.row Md.rw ty5 (K.int IntKind.u8) [IntKind.u8.wrap (a.snd.fst.tmod (256 : Int)), IntKind.u8.wrap ((IntKind.u32.wrap (a.snd.fst.tdiv (256 : Int))).tmod
  (256 : Int)), IntKind.u8.wrap ((IntKind.u32.wrap (a.snd.fst.tdiv (65536 : Int))).tmod (256 : Int)), IntKind.u8.wrap (IntKind.u32.wrap (a.snd.fst.tdiv (16777216 : Int)))],
  HObj.dead, HObj.row Md.rw ty5 (K.int IntKind.u8) [IntKind.u8.wrap (a.snd.snd.fst.tmod (256 : Int)), IntKind.u8.wrap ((IntKind.u32.wrap (a.snd.snd.fst.tdiv (256 : Int))).tmod (256
  : Int)), IntKind.u8.wrap ((IntKind.u32.wrap (a.snd.snd.fst.tdiv (65536 : Int))).tmod (256 : Int)), IntKind.u8.wrap (IntKind.u32.wrap (a.snd.snd.fst.tdiv (16777216 : Int)))],
  HObj.dead] ∧ I (x.fst ++ [IntKind.u8.wrap ((Go.bits Go.BinOp.xor IntKind.u32 (a.snd.snd.snd.getD x.snd.snd.fst.toNat (0 : Int)) x.snd.fst).tmod (256 : Int)), IntKind.u8.wrap
  ((IntKind.u32.wrap ((Go.bits Go.BinOp.xor IntKind.u32 (a.snd.snd.snd.getD x.snd.snd.fst.toNat (0 : Int)) x.snd.fst).tdiv (256 : Int))).tmod (256 : Int)), IntKind.u8.wrap
  ((IntKind.u32.wrap ((Go.bits Go.BinOp.xor IntKind.u32 (a.snd.snd.snd.getD x.snd.snd.fst.toNat (0 : Int)) x.snd.fst).tdiv (65536 : Int))).tmod (256 : Int)), IntKind.u8.wrap
  (IntKind.u32.wrap ((Go.bits Go.BinOp.xor IntKind.u32 (a.snd.snd.snd.getD x.snd.snd.fst.toNat (0 : Int)) x.snd.fst).tdiv (16777216 : Int)))], a.snd.snd.snd.getD x.snd.snd.fst.toNat
  (0 : Int), IntKind.i64.wrap (x.snd.snd.fst + (1 : Int)), ()) () ∧ μ (x.fst ++ [IntKind.u8.wrap ((Go.bits Go.BinOp.xor IntKind.u32 (a.snd.snd.snd.getD x.snd.snd.fst.toNat (0 :
  Int)) x.snd.fst).tmod (256 : Int)), IntKind.u8.wrap ((IntKind.u32.wrap ((Go.bits Go.BinOp.xor IntKind.u32 (a.snd.snd.snd.getD x.snd.snd.fst.toNat (0 : Int)) x.snd.fst).tdiv (256 :
  Int))).tmod (256 : Int)), IntKind.u8.wrap ((IntKind.u32.wrap ((Go.bits Go.BinOp.xor IntKind.u32 (a.snd.snd.snd.getD x.snd.snd.fst.toNat (0 : Int)) x.snd.fst).tdiv (65536 :
  Int))).tmod (256 : Int)), IntKind.u8.wrap (IntKind.u32.wrap ((Go.bits Go.BinOp.xor IntKind.u32 (a.snd.snd.snd.getD x.snd.snd.fst.toNat (0 : Int)) x.snd.fst).tdiv (16777216 :
  Int)))], a.snd.snd.snd.getD x.snd.snd.fst.toNat (0 : Int), IntKind.i64.wrap (x.snd.snd.fst + (1 : Int)), ()) () < μ x y) (post (List.take x.fst.length (List.drop (0 : Nat) x.fst),
  (0 : Int), ())))
theorem Lx_ref24_Encode (ty0 ty1 : Nat) (a : Int × Int × Int × List Int) (h : TiOk a) (w : KS.wf [kTile] (a, ())) : Fx_ref24_Encode ty0 ty1 a (fun r => r = encodeR a) := by
  obtain ⟨hf, hle, hmo, hce⟩ := h
  have fin : goodT a = false → (([] : List Int), (1 : Int), ()) = encodeR a := by intro q; unfold encodeR; rw [if_neg (by rw [q]; decide)]
  refine ⟨⟨hf, hle, hmo, hce⟩, ?_⟩
  rintro _ rfl
  refine Br.intro (fun e => fin ?_) fun e => ?_
  · have e : (!goodT a) = true := e
    simpa using e
  have g : goodT a = true := by have e : (!goodT a) = false := e; simpa using e
  obtain ⟨f0, f5, r1', r2', r3', l1, l2, _⟩ := good_facts g
  have wf' : IntKind.u8.wrap a.1 = a.1 := by rw [wrap_u8]; omega
  have wr : IntKind.u8.wrap (rootR (a.2.2.2.length : Int)).1 = rootI a.2.2.2.length := by rw [wrap_u8]; show rootI a.2.2.2.length % 256 = _; omega
  rw [tileS_eq, word_ref hle, word_ref hmo, wf', wr]
  generalize hH : ([] ++ [84, 73, 76, 69] ++ [a.1, rootI a.2.2.2.length] ++ bytes4 a.2.1 ++ bytes4 a.2.2.1 : List Int) = H
  have hHl : H.length = 14 := by rw [← hH]; rfl
  have he : encodeR a = (H ++ encL 0 a.2.2.2, 0, ()) := by
    unfold encodeR; rw [if_pos g, ← hH]
    unfold encT
    simp only [List.append_assoc, List.nil_append, List.cons_append]
  refine ⟨⟨rfl, by decide⟩, ⟨by omega, by omega⟩, ⟨rfl, by decide⟩, by decide, by decide, by decide, by decide, by decide, by decide, ⟨rfl, Nat.le_of_ble_eq_true rfl⟩, by decide, by decide, by decide, by decide, by decide, by decide, ⟨rfl, Nat.le_of_ble_eq_true rfl⟩, ⟨rfl, by rw [hHl]; rfl⟩, rfl,
    fun x _ => ∃ (i : Nat) (D : List Int), x.2.2.1 = i ∧ i ≤ a.2.2.2.length ∧ x.1 = H ++ D ∧ U32 x.2.1 ∧ D.length = 4 * i ∧ encL 0 a.2.2.2 = D ++ encL x.2.1 (a.2.2.2.drop i), fun x _ => a.2.2.2.length - x.2.2.1.toNat, ⟨0, [], rfl, by omega, (List.append_nil _).symm, ⟨Int.le_refl 0, by show (0 : Int) < 4294967296; decide⟩, rfl, rfl⟩, ?_⟩
  rintro ⟨_, p, _, ⟨⟩⟩ _ ⟨i, D, rfl, hil, rfl, hp, hD, hE⟩
  dsimp only at hp hE ⊢
  have hxl : (H ++ D).length = 14 + 4 * i := by rw [List.length_append, hHl, hD]
  rintro _ rfl
  refine Br.intro (fun e => ?_) fun e => ?_
  · have e : i < a.2.2.2.length := by have := of_decide_eq_true e; omega
    rw [Int.toNat_natCast, wi_succ e (by omega)]
    have hc := hce _ (getD_mem e 0)
    rw [xor_u32 hc hp, word_ref (xorI_rng hc hp), hxl]
    rw [drop_step e 0, encL_cons] at hE
    refine ⟨⟨by omega, by omega⟩, by decide, by decide, by decide, by decide, by decide, by decide, ⟨rfl, by omega⟩, ⟨by omega, by omega⟩, ⟨rfl, by rw [List.length_append, hxl]; rfl⟩, rfl, ⟨i + 1, D ++ bytes4 (xorI (a.2.2.2.getD i 0) p), rfl, by omega, List.append_assoc _ _ _, hc, by rw [List.length_append, hD]; show _ + 4 = _; omega, by rw [hE, List.append_assoc]⟩, by omega⟩
  · have e : ¬ i < a.2.2.2.length := by have := of_decide_eq_false e; omega
    rw [List.drop_eq_nil_of_le (by omega)] at hE
    have hE2 : encL 0 a.2.2.2 = D := by rw [hE]; exact List.append_nil _
    rw [he, hE2, List.drop_zero, List.take_of_length_le (Nat.le_refl _)]
def Fx_ref24_Decode := fun (ty25 : Nat) (b : List Int) (post : (Int × Int × Int × List Int) × Int × Unit → Prop) => ∀ (a : Bool), a = decide ((↑b.length : Int) < (14 : Int)) → Br a
  (post (((0 : Int), (0 : Int), (0 : Int), []), (31 : Int), ())) (∃ (h : (0 : Int) ≤ (5 : Int) ∧ (5 : Int) < (↑b.length : Int)), ∃ (h : (0 : Int) ≤ (0 : Int) ∧ (0 : Int) ≤ (4 : Int)
  ∧ (4 : Int) ≤ (↑b.length : Int)), ∀ (a : Bool), (a = if Bool.true = Bool.true then !decide (List.map byteOf (List.take ((4 : Int) - (0 : Int)).toNat (List.drop (Int.toNat (0 :
  Int)) b)) = strBytes { data := #[(84 : UInt8), (73 : UInt8), (76 : UInt8), (69 : UInt8)] }) else decide (List.map byteOf (List.take ((4 : Int) - (0 : Int)).toNat (List.drop
  (Int.toNat (0 : Int)) b)) = strBytes { data := #[(84 : UInt8), (73 : UInt8), (76 : UInt8), (69 : UInt8)] })) → Br a (post (((0 : Int), (0 : Int), (0 : Int), []), (30 : Int), ()))
  (∃ (h : (0 : Int) ≤ (4 : Int) ∧ (4 : Int) < (↑b.length : Int)), ∀ (a : Bool), a = decide (b.getD (Int.toNat (4 : Int)) (0 : Int) > (5 : Int)) → Br a (post (((0 : Int), (0 : Int),
  (0 : Int), []), (30 : Int), ())) (∀ (a : Bool), a = decide (IntKind.i64.wrap (b.getD (Int.toNat (5 : Int)) (0 : Int)) < (1 : Int)) → Br a (post (((0 : Int), (0 : Int), (0 : Int),
  []), (30 : Int), ())) (∀ (a : Bool), a = decide (IntKind.i64.wrap (b.getD (Int.toNat (5 : Int)) (0 : Int)) > (32 : Int)) → Br a (post (((0 : Int), (0 : Int), (0 : Int), []), (30 :
  Int), ())) (∀ (a : Bool), a = decide ((↑b.length : Int) < IntKind.i64.wrap ((14 : Int) + IntKind.i64.wrap (IntKind.i64.wrap ((4 : Int) * IntKind.i64.wrap (b.getD (Int.toNat (5 :
  Int)) (0 : Int))) * IntKind.i64.wrap (b.getD (Int.toNat (5 : Int)) (0 : Int))))) → Br a (post (((0 : Int), (0 : Int), (0 : Int), []), (31 : Int), ())) (∀ (a : Bool), a = decide
  ((↑b.length : Int) > IntKind.i64.wrap ((14 : Int) + IntKind.i64.wrap (IntKind.i64.wrap ((4 : Int) * IntKind.i64.wrap (b.getD (Int.toNat (5 : Int)) (0 : Int))) * IntKind.i64.wrap
  (b.getD (Int.toNat (5 : Int)) (0 : Int))))) → Br a (post (((0 : Int), (0 : Int), (0 : Int), []), (3 : Int), ())) (∃ (h : (0 : Int) ≤ (4 : Int) ∧ (4 : Int) < (↑b.length : Int)), ∃
  (h : (0 : Int) ≤ (6 : Int) ∧ (6 : Int) ≤ (↑b.length : Int) ∧ (↑b.length : Int) ≤ (↑b.length : Int)), ∃ (h : WNum4 (List.take ((↑b.length : Int) - (6 : Int)).toNat (List.drop
  (Int.toNat (6 : Int)) b))), ∃ (h : (0 : Int) ≤ (10 : Int) ∧ (10 : Int) ≤ (↑b.length : Int) ∧ (↑b.length : Int) ≤ (↑b.length : Int)), ∃ (h : WNum4 (List.take ((↑b.length : Int) -
  (10 : Int)).toNat (List.drop (Int.toNat (10 : Int)) b))), HIs [HObj.box Md.rw ty25 [SV.val (Go.Value.int IntKind.i64 (0 : Int)), SV.val (Go.Value.int IntKind.u32 (0 : Int)),
  SV.val (Go.Value.int IntKind.u32 (0 : Int)), SV.val (Go.Value.slice Option.none (0 : Nat) (0 : Nat))], HObj.box Md.rw ty25 [SV.val (Go.Value.int IntKind.i64 (IntKind.i64.wrap
  (b.getD (Int.toNat (4 : Int)) (0 : Int)))), SV.val (Go.Value.int IntKind.u32 (num4R (List.take ((↑b.length : Int) - (6 : Int)).toNat (List.drop (Int.toNat (6 : Int)) b))).fst),
  SV.val (Go.Value.int IntKind.u32 (num4R (List.take ((↑b.length : Int) - (10 : Int)).toNat (List.drop (Int.toNat (10 : Int)) b))).fst), SV.junk]] [HObj.box Md.rw ty25 [SV.val
  (Go.Value.int IntKind.i64 (0 : Int)), SV.val (Go.Value.int IntKind.u32 (0 : Int)), SV.val (Go.Value.int IntKind.u32 (0 : Int)), SV.val (Go.Value.slice Option.none (0 : Nat) (0 :
  Nat))], HObj.box Md.rw ty25 [SV.val (Go.Value.int IntKind.i64 (IntKind.i64.wrap (b.getD (Int.toNat (4 : Int)) (0 : Int)))), SV.val (Go.Value.int IntKind.u32 (num4R (List.take
  ((↑b.length : Int) - (6 : Int)).toNat (List.drop (Int.toNat (6 : Int)) b))).fst), SV.val (Go.Value.int IntKind.u32 (num4R (List.take ((↑b.length : Int) - (10 : Int)).toNat
  (List.drop (Int.toNat (10 : Int)) b))).fst), SV.junk]] ∧ ∃ (I : Int × Int × List Int × Unit → Unit → Prop), ∃ (μ : Int × Int × List Int × Unit → Unit → Nat), I ((0 : Int), (0 :
  Int), [], ()) () ∧ ∀ (x : Int × Int × List Int × Unit) (y : Unit), I x y → ∀ (a : Bool), a = decide (x.snd.fst < IntKind.i64.wrap (IntKind.i64.wrap (b.getD (Int.toNat (5 : Int))
  (0 : Int)) * IntKind.i64.wrap (b.getD (Int.toNat (5 : Int)) (0 : Int)))) → Br a (∃ (h : (0 : Int) ≤ IntKind.i64.wrap ((14 : Int) + IntKind.i64.wrap ((4 : Int) * x.snd.fst)) ∧
  IntKind.i64.wrap ((14 : Int) + IntKind.i64.wrap ((4 : Int) * x.snd.fst)) ≤ (↑b.length : Int) ∧ (↑b.length : Int) ≤ (↑b.length : Int)), ∃ (h : WNum4 (List.take ((↑b.length : Int) -
  IntKind.i64.wrap ((14 : Int) + IntKind.i64.wrap ((4 : Int) * x.snd.fst))).toNat (List.drop (IntKind.i64.wrap ((14 : Int) + IntKind.i64.wrap ((4 : Int) * x.snd.fst))).toNat b))), ∃
  (h : x.snd.snd.fst.length = x.snd.snd.fst.length ∧ (x.snd.snd.fst.length + (1 : Nat)) * (4 : Nat) ≤ (140737488355328 : Nat)), ((0 : Nat) = (0 : Nat) ∧ x.snd.snd.fst.length + (1 :
  Nat) = (x.snd.snd.fst ++ [Go.bits Go.BinOp.xor IntKind.u32 x.fst (num4R (List.take ((↑b.length : Int) - IntKind.i64.wrap ((14 : Int) + IntKind.i64.wrap ((4 : Int) *
  x.snd.fst))).toNat (List.drop (IntKind.i64.wrap ((14 : Int) + IntKind.i64.wrap ((4 : Int) * x.snd.fst))).toNat b))).fst]).length) ∧ HIs [HObj.box Md.rw ty25 [SV.val (Go.Value.int
  IntKind.i64 (0 : Int)), SV.val (Go.Value.int IntKind.u32 (0 : Int)), SV.val (Go.Value.int IntKind.u32 (0 : Int)), SV.val (Go.Value.slice Option.none (0 : Nat) (0 : Nat))],
  HObj.box Md.rw ty25 [SV.val (Go.Value.int IntKind.i64 (IntKind.i64.wrap (b.getD (Int.toNat (4 : Int)) (0 : Int)))), SV.val (Go.Value.int IntKind.u32 (num4R (List.take ((↑b.length
  : Int) - (6 : Int)).toNat (List.drop (Int.toNat (6 : Int)) b))).fst), SV.val (Go.Value.int IntKind.u32 (num4R (List.take ((↑b.length : Int) - (10 : Int)).toNat (List.drop
  (Int.toNat (10 : Int)) b))).fst), SV.junk]] [HObj.box Md.rw ty25 [SV.val (Go.Value.int IntKind.i64 (0 : Int)), SV.val (Go.Value.int IntKind.u32 (0 : Int)), SV.val (Go.Value.int
  IntKind.u32 (0 : Int)), SV.val (Go.Value.slice Option.none (0 : Nat) (0 : Nat))], HObj.box Md.rw ty25 [SV.val (Go.Value.int IntKind.i64 (IntKind.i64.wrap (b.getD (Int.toNat (4 :
  Int)) (0 : Int)))), SV.val (Go.Value.int IntKind.u32 (num4R (List.take ((↑b.length : Int) - (6 : Int)).toNat (List.drop (Int.toNat (6 : Int)) b))).fst), SV.val (Go.Value.int
  IntKind.u32 (num4R (List.take ((↑b.length : Int) - (10 : Int)).toNat (List.drop (Int.toNat (10 : Int)) b))).fst), SV.junk]] ∧ I (Go.bits Go.BinOp.xor IntKind.u32 x.fst (num4R
  (List.take ((↑b.length : Int) - IntKind.i64.wrap ((14 : Int) + IntKind.i64.wrap ((4 : Int) * x.snd.fst))).toNat (List.drop (IntKind.i64.wrap ((14 : Int) + IntKind.i64.wrap ((4 :
  Int) * x.snd.fst))).toNat b))).fst, IntKind.i64.wrap (x.snd.fst + (1 : Int)), x.snd.snd.fst ++ [Go.bits Go.BinOp.xor IntKind.u32 x.fst (num4R (List.take ((↑b.length : Int) -
  IntKind.i64.wrap ((14 : Int) + IntKind.i64.wrap ((4 : Int) * x.snd.fst))).toNat (List.drop (IntKind.i64.wrap ((14 : Int) + IntKind.i64.wrap ((4 : Int) * x.snd.fst))).toNat
  b))).fst], ()) () ∧ μ (Go.bits Go.BinOp.xor IntKind.u32 x.fst (num4R (List.take ((↑b.length : Int) - IntKind.i64.wrap ((14 : Int) + IntKind.i64.wrap ((4 : Int) *
  x.snd.fst))).toNat (List.drop (IntKind.i64.wrap ((14 : Int) + IntKind.i64.wrap ((4 : Int) * x.snd.fst))).toNat b))).fst, IntKind.i64.wrap (x.snd.fst + (1 : Int)), x.snd.snd.fst ++
  [Go.bits Go.BinOp.xor IntKind.u32 x.fst (num4R (List.take ((↑b.length : Int) - IntKind.i64.wrap ((14 : Int) + IntKind.i64.wrap ((4 : Int) * x.snd.fst))).toNat (List.drop
  (IntKind.i64.wrap ((14 : Int) + IntKind.i64.wrap ((4 : Int) * x.snd.fst))).toNat b))).fst], ()) () < μ x y) (∃ (h : TiOk (IntKind.i64.wrap (b.getD (Int.toNat (4 : Int)) (0 :
  Int)), (num4R (List.take ((↑b.length : Int) - (6 : Int)).toNat (List.drop (Int.toNat (6 : Int)) b))).fst, (num4R (List.take ((↑b.length : Int) - (10 : Int)).toNat (List.drop
  (Int.toNat (10 : Int)) b))).fst, List.take x.snd.snd.fst.length (List.drop (0 : Nat) x.snd.snd.fst))), ∀ (a : Bool), a = (goodTR (IntKind.i64.wrap (b.getD (Int.toNat (4 : Int)) (0
  : Int)), (num4R (List.take ((↑b.length : Int) - (6 : Int)).toNat (List.drop (Int.toNat (6 : Int)) b))).fst, (num4R (List.take ((↑b.length : Int) - (10 : Int)).toNat (List.drop
  (Int.toNat (10 : Int)) b))).fst, List.take x.snd.snd.fst.length (List.drop (0 : Nat) x.snd.snd.fst))).fst → Br (!a) (post (((0 : Int), (0 : Int), (0 : Int), []), (30 : Int), ()))
  (post ((IntKind.i64.wrap (b.getD (Int.toNat (4 : Int)) (0 : Int)), (num4R (List.take ((↑b.length : Int) - (6 : Int)).toNat (List.drop (Int.toNat (6 : Int)) b))).fst, (num4R
  (List.take ((↑b.length : Int) - (10 : Int)).toNat (List.drop (Int.toNat (10 : Int)) b))).fst, List.take x.snd.snd.fst.length (List.drop (0 : Nat) x.snd.snd.fst)), (0 : Int),
  ()))))))))))
theorem Lx_ref24_Decode (ty0 : Nat) (b : List Int) (h : BLs b) (w : KS.wf [.slice (.int .u8)] (b, ())) : Fx_ref24_Decode ty0 b (fun r => r = decodeR b) := by
  have U : ∀ k, k < b.length → U8 (b.getD k 0) := fun k hk => h _ (getD_mem hk 0)
  have hl : b.length ≤ maxN := w.1.1
  unfold maxN at hl
  have fin : ∀ t e, decodeT b = (t, e) → (t, e, ()) = decodeR b := by intro t e q; show _ = ((decodeT b).1, (decodeT b).2, ()); rw [q]
  rintro _ rfl
  refine Br.intro (fun e => fin _ _ ?_) fun e => ?_
  · unfold decodeT; rw [if_pos (by have := of_decide_eq_true e; omega)]; rfl
  have e0 : ¬ b.length < 14 := by have := of_decide_eq_false e; omega
  obtain ⟨w5', w55, w14⟩ := wrap_small (U 5 (by omega))
  have w5 : IntKind.i64.wrap (b.getD (Int.toNat (5 : Int)) (0 : Int)) = b.getD 5 0 := w5'
  have w4 : IntKind.i64.wrap (b.getD (Int.toNat (4 : Int)) (0 : Int)) = b.getD 4 0 := (wrap_small (U 4 (by omega))).1
  have u4 := U 4 (by omega)
  have u5 := U 5 (by omega)
  have bad : (b.take 4 ≠ [84, 73, 76, 69] ∨ b.getD 4 0 > 5 ∨ b.getD 5 0 < 1 ∨ b.getD 5 0 > 32) → decodeT b = (zeroT, 30) := by
    intro q; unfold decodeT; rw [if_neg e0, if_pos q]
  
  rw [w5, w4, w14, w55, tail_eq (b := b) (j := 6) 6 rfl, tail_eq (b := b) (j := 10) 10 rfl, num4_drop, num4_drop, head_eq h]
  refine ⟨⟨by omega, by omega⟩, ⟨by omega, by omega, by omega⟩, ?_⟩
  
  rintro _ rfl
  refine Br.intro (fun e => fin _ _ (bad (.inl ?_))) fun e => ?_
  · have e : (!decide (b.take 4 = [84, 73, 76, 69])) = true := e
    simpa using e
  have g0 : b.take 4 = [84, 73, 76, 69] := by have e : (!decide (b.take 4 = [84, 73, 76, 69])) = false := e; simpa using e
  refine ⟨⟨by omega, by omega⟩, ?_⟩
  rintro _ rfl
  refine Br.intro (fun e => fin _ _ (bad (.inr (.inl (of_decide_eq_true e))))) fun e => ?_
  have g1 : ¬ b.getD 4 0 > 5 := of_decide_eq_false e
  rintro _ rfl
  refine Br.intro (fun e => fin _ _ (bad (.inr (.inr (.inl (of_decide_eq_true e)))))) fun e => ?_
  have g2 : ¬ b.getD 5 0 < 1 := of_decide_eq_false e
  rintro _ rfl
  refine Br.intro (fun e => fin _ _ (bad (.inr (.inr (.inr (of_decide_eq_true e)))))) fun e => ?_
  have g3 : ¬ b.getD 5 0 > 32 := of_decide_eq_false e
  have g : ¬ (b.take 4 ≠ [84, 73, 76, 69] ∨ b.getD 4 0 > 5 ∨ b.getD 5 0 < 1 ∨ b.getD 5 0 > 32) := by
    rintro (q | q | q | q)
    · exact q g0
    · exact g1 q
    · exact g2 q
    · exact g3 q
  rintro _ rfl
  refine Br.intro (fun e => fin _ _ ?_) fun e => ?_
  · have e : (b.length : Int) < 14 + 4 * b.getD 5 0 * b.getD 5 0 := of_decide_eq_true e
    unfold decodeT; rw [if_neg e0, if_neg g, if_pos e]; rfl
  have g4 : ¬ (b.length : Int) < 14 + 4 * b.getD 5 0 * b.getD 5 0 := of_decide_eq_false e
  rintro _ rfl
  refine Br.intro (fun e => fin _ _ ?_) fun e => ?_
  · have e : (b.length : Int) > 14 + 4 * b.getD 5 0 * b.getD 5 0 := of_decide_eq_true e
    unfold decodeT; rw [if_neg e0, if_neg g, if_neg g4, if_pos e]; rfl
  have g5 : ¬ (b.length : Int) > 14 + 4 * b.getD 5 0 * b.getD 5 0 := of_decide_eq_false e
  have base : decodeT b = if goodT (b.getD 4 0, num4 b 6, num4 b 10, decL b (b.getD 5 0 * b.getD 5 0).toNat 0 0) then ((b.getD 4 0, num4 b 6, num4 b 10, decL b (b.getD 5 0 * b.getD 5 0).toNat 0 0), 0) else (zeroT, 30) := by
    show (if b.length < 14 then _ else _) = _
    rw [if_neg e0, if_neg g, if_neg g4, if_neg g5]
  have sq := sq_bd (n := b.getD 5 0) (by omega) (by omega)
  rw [Int.mul_assoc] at g4 g5
  have rs := root_sq (n := b.getD 5 0) (by omega) (by omega)
  generalize hq : b.getD 5 0 * b.getD 5 0 = q at *
  obtain ⟨m, rfl⟩ : ∃ m : Nat, q = m := ⟨q.toNat, by omega⟩
  rw [Int.toNat_natCast] at base
  
  refine ⟨⟨by omega, by omega⟩, ⟨by omega, by omega, by omega⟩, wnum4_drop h (by omega), ⟨by omega, by omega, by omega⟩, wnum4_drop h (by omega), rfl, fun x _ => ∃ i : Nat, x.2.1 = i ∧ i ≤ m ∧ U32 x.1 ∧ x.2.2.1.length = i ∧ (∀ y ∈ x.2.2.1, U32 y) ∧ decL b m 0 0 = x.2.2.1 ++ decL b (m - i) i x.1, fun x _ => m - x.2.1.toNat, ⟨0, rfl, by omega, ⟨by decide, by decide⟩, rfl, (fun y hy => by cases hy), rfl⟩, ?_⟩
  rintro ⟨l, _, P, ⟨⟩⟩ _ ⟨i, rfl, him, hlr, hP, hPr, hd⟩
  dsimp only at hlr hP hPr hd ⊢
  rintro _ rfl
  refine Br.intro (fun e => ?_) fun e => ?_
  · have e : i < m := by have := of_decide_eq_true e; omega
    have wi4 : IntKind.i64.wrap (14 + IntKind.i64.wrap (4 * (i : Int))) = ((14 + 4 * i : Nat) : Int) := by
      rw [wi (x := 4 * (i : Int)) ⟨by omega, by omega⟩, wi ⟨by omega, by omega⟩]; omega
    have xr : Go.bits .xor .u32 l (r1 (num4 b (14 + 4 * i))).1 = xorI l (num4 b (14 + 4 * i)) := xor_u32 hlr (num4_rng h (by omega))
    rw [wi4, tail_eq (14 + 4 * i) rfl, num4_drop, wi_succ e (by omega), xr]
    obtain ⟨k, hk⟩ : ∃ k, m - i = k + 1 := ⟨m - i - 1, by omega⟩
    have hk2 : m - (i + 1) = k := by omega
    rw [hk, decL_succ] at hd
    have hx := xorI_rng hlr (num4_rng h (show 14 + 4 * i + 4 ≤ b.length by omega))
    refine ⟨⟨by omega, by omega, by omega⟩, wnum4_drop h (by omega), ⟨rfl, by omega⟩, ⟨rfl, by rw [List.length_append]; rfl⟩, rfl, ⟨i + 1, rfl, by omega, hx, by rw [List.length_append, hP]; rfl, ?_, ?_⟩, by omega⟩
    · intro y hy
      rcases List.mem_append.1 hy with hy | hy
      · exact hPr y hy
      · rcases List.mem_singleton.1 hy with rfl; exact hx
    · rw [hd, hk2, List.append_assoc]; rfl
  · have e : i = m := by have := of_decide_eq_false e; omega
    subst e
    have hP2 : List.take P.length (List.drop 0 P) = P := by
      rw [List.drop_zero, List.take_of_length_le (by omega)]
    rw [hP2]
    have hd2 : decL b i 0 0 = P := by rw [hd, Nat.sub_self]; exact List.append_nil _
    rw [hd2] at base
    refine ⟨⟨⟨by unfold U8 at u4; omega, by unfold U8 at u4; omega⟩, num4_rng h (by omega), num4_rng h (by omega), hPr⟩, ?_⟩
    rintro _ rfl
    refine Br.intro (fun f => fin _ _ ?_) fun f => fin _ _ ?_
    · have f : (!goodT (b.getD 4 0, num4 b 6, num4 b 10, P)) = true := f
      rw [base, if_neg (by intro q; rw [q] at f; cases f)]; rfl
    · have f : (!goodT (b.getD 4 0, num4 b 6, num4 b 10, P)) = false := f
      rw [base, if_pos (by simpa using f)]; rfl
end Go.Lift

/- Contracts of functions, of a seat. Own work. -/
set_option linter.unusedVariables false
set_option linter.unusedSimpArgs false
namespace Go.Lift
open Go.Proofs
def Dx_ref24_Side : Cx := ⟨tabOf Dtab, conOf [], DG⟩
theorem Dx_ref24_Side_ok : CxOk Tryd.prog Dx_ref24_Side := ⟨tabB_sound Dtab_ok, fun f c h => by cases h⟩
theorem Dat_ref24_Side : FnAt Tryd.prog 26 Tryd.f26.ntmps Tryd.f26.results.toList (Tryd.f26.body.getD .skip) := ⟨Tryd.f26, Tryd.func26, rfl, rfl, by simp, by decide⟩
theorem Deq_ref24_Side (a : Int) (post : Int × Unit → Prop) : fnEval Dx_ref24_Side Dhn_ref24_Side Tryd.f26.ntmps Tryd.f26.results.toList (Tryd.f26.body.getD .skip) [.int .i64] [.snap (.int .i64)] (a, ()) post = Fx_ref24_Side  a post := by kernel_rfl
theorem Dh_ref24_Side : Dq_ref24_Side.holds Tryd.prog DG 26 :=
  detP Dx_ref24_Side_ok Dmixed Dhn_ref24_Side Dat_ref24_Side (F := fun x post => Fx_ref24_Side  x.1 post) (fun x post => Deq_ref24_Side x.1 post) fun x h _ => Lx_ref24_Side  x.1 h
def Dx_ref24_ends : Cx := ⟨tabOf Dtab, conOf [], DG⟩
theorem Dx_ref24_ends_ok : CxOk Tryd.prog Dx_ref24_ends := ⟨tabB_sound Dtab_ok, fun f c h => by cases h⟩
theorem Dat_ref24_ends : FnAt Tryd.prog 46 Tryd.f46.ntmps Tryd.f46.results.toList (Tryd.f46.body.getD .skip) := ⟨Tryd.f46, Tryd.func46, rfl, rfl, by simp, by decide⟩
theorem Deq_ref24_ends (a : List Int) (post : Int × Int × Unit → Prop) : fnEval Dx_ref24_ends Dhn_ref24_ends Tryd.f46.ntmps Tryd.f46.results.toList (Tryd.f46.body.getD .skip) [.slice (.int .u32)] [.snap (.int .u32), .snap (.int .u32)] (a, ()) post = Fx_ref24_ends  a post := by kernel_rfl
theorem Dh_ref24_ends : Dq_ref24_ends.holds Tryd.prog DG 46 :=
  detP Dx_ref24_ends_ok Dmixed Dhn_ref24_ends Dat_ref24_ends (F := fun x post => Fx_ref24_ends  x.1 post) (fun x post => Deq_ref24_ends x.1 post) fun x h w => Lx_ref24_ends  x.1 h w
def Dx_ref24_Good : Cx := ⟨tabOf Dtab, conOf [(26, Dq_ref24_Side), (46, Dq_ref24_ends)], DG⟩
theorem Dx_ref24_Good_ok : CxOk Tryd.prog Dx_ref24_Good := ⟨tabB_sound Dtab_ok, conOf_sound ⟨Dh_ref24_Side, Dh_ref24_ends, trivial⟩⟩
theorem Dat_ref24_Good : FnAt Tryd.prog 25 Tryd.f25.ntmps Tryd.f25.results.toList (Tryd.f25.body.getD .skip) := ⟨Tryd.f25, Tryd.func25, rfl, rfl, by simp, by decide⟩
theorem Deq_ref24_Good (a : Int × Int × Int × List Int) (post : Bool × Unit → Prop) : fnEval Dx_ref24_Good nHn Tryd.f25.ntmps Tryd.f25.results.toList (Tryd.f25.body.getD .skip) [kTile] [.snap .bool] (a, ()) post = Fx_ref24_Good  a post := by kernel_rfl
theorem Dh_ref24_Good : Dq_ref24_Good.holds Tryd.prog DG 25 :=
  detP Dx_ref24_Good_ok Dmixed nHn Dat_ref24_Good (F := fun x post => Fx_ref24_Good  x.1 post) (fun x post => Deq_ref24_Good x.1 post) fun x h w => Lx_ref24_Good  x.1 h w
def Dx_ref24_number : Cx := ⟨tabOf Dtab, conOf [], DG⟩
theorem Dx_ref24_number_ok : CxOk Tryd.prog Dx_ref24_number := ⟨tabB_sound Dtab_ok, fun f c h => by cases h⟩
theorem Dat_ref24_number : FnAt Tryd.prog 29 Tryd.f29.ntmps Tryd.f29.results.toList (Tryd.f29.body.getD .skip) := ⟨Tryd.f29, Tryd.func29, rfl, rfl, by simp, by decide⟩
theorem Deq_ref24_number (a : List Int) (post : Int × Unit → Prop) : fnEval Dx_ref24_number nHn Tryd.f29.ntmps Tryd.f29.results.toList (Tryd.f29.body.getD .skip) [.slice (.int .u8)] [.snap (.int .u32)] (a, ()) post = Fx_ref24_number  a post := by kernel_rfl
theorem Dh_ref24_number : Dq_ref24_number.holds Tryd.prog DG 29 :=
  detP Dx_ref24_number_ok Dmixed nHn Dat_ref24_number (F := fun x post => Fx_ref24_number  x.1 post) (fun x post => Deq_ref24_number x.1 post) fun x h _ => Lx_ref24_number  x.1 h
def Dx_ref24_Encode : Cx := ⟨tabOf Dtab, conOf [(25, Dq_ref24_Good), (26, Dq_ref24_Side)], DG⟩
theorem Dx_ref24_Encode_ok : CxOk Tryd.prog Dx_ref24_Encode := ⟨tabB_sound Dtab_ok, conOf_sound ⟨Dh_ref24_Good, Dh_ref24_Side, trivial⟩⟩
theorem Dat_ref24_Encode : FnAt Tryd.prog 11 Tryd.f11.ntmps Tryd.f11.results.toList (Tryd.f11.body.getD .skip) := ⟨Tryd.f11, Tryd.func11, rfl, rfl, by simp, by decide⟩
theorem Deq_ref24_Encode (a : Int × Int × Int × List Int) (post : (List Int) × Int × Unit → Prop) : fnEvalI Dx_ref24_Encode Dhn_ref24_Encode (callLvl Dx_ref24_Encode Dfns_word 6) Tryd.f11.ntmps Tryd.f11.results.toList (Tryd.f11.body.getD .skip) [kTile] [.snap (.slice (.int .u8)), .snap (.int .i64)] (a, ()) post = Fx_ref24_Encode 25 5 a post := by kernel_rfl
theorem Dh_ref24_Encode : Dq_ref24_Encode.holds Tryd.prog DG 11 :=
  detPI Dx_ref24_Encode_ok Dmixed Dhn_ref24_Encode (callLvl_ok Dx_ref24_Encode_ok Dmixed Dfns_word_ok 6) Dat_ref24_Encode (F := fun x post => Fx_ref24_Encode 25 5 x.1 post) (fun x post => Deq_ref24_Encode x.1 post) fun x h w => Lx_ref24_Encode 25 5 x.1 h w
def Dx_ref24_Decode : Cx := ⟨tabOf Dtab, conOf [(29, Dq_ref24_number), (25, Dq_ref24_Good)], DG⟩
theorem Dx_ref24_Decode_ok : CxOk Tryd.prog Dx_ref24_Decode := ⟨tabB_sound Dtab_ok, conOf_sound ⟨Dh_ref24_number, Dh_ref24_Good, trivial⟩⟩
theorem Dat_ref24_Decode : FnAt Tryd.prog 13 Tryd.f13.ntmps Tryd.f13.results.toList (Tryd.f13.body.getD .skip) := ⟨Tryd.f13, Tryd.func13, rfl, rfl, by simp, by decide⟩
theorem Deq_ref24_Decode (b : List Int) (post : (Int × Int × Int × List Int) × Int × Unit → Prop) : fnEval Dx_ref24_Decode Dhn_ref24_Decode Tryd.f13.ntmps Tryd.f13.results.toList (Tryd.f13.body.getD .skip) [.slice (.int .u8)] [.snap kTile, .snap (.int .i64)] (b, ()) post = Fx_ref24_Decode 25 b post := by kernel_rfl
theorem Dh_ref24_Decode : Dq_ref24_Decode.holds Tryd.prog DG 13 :=
  detP Dx_ref24_Decode_ok Dmixed Dhn_ref24_Decode Dat_ref24_Decode (F := fun x post => Fx_ref24_Decode 25 x.1 post) (fun x post => Deq_ref24_Decode x.1 post) fun x h w => Lx_ref24_Decode 25 x.1 h w
end Go.Lift

/- Contracts of functions, of a seat. Own work. -/
set_option linter.unusedVariables false
set_option linter.unusedSimpArgs false
namespace Go.Lift
open Go.Proofs
def Dx_law24_TileBytes : Cx := ⟨tabOf Dtab, conOf [(9, Dq_law24_awake), (10, Dq_tile_Encode), (11, Dq_ref24_Encode), (12, Dq_tile_Decode), (13, Dq_ref24_Decode), (14, Dq_law24_same)], DG⟩
theorem Dx_law24_TileBytes_ok : CxOk Tryd.prog Dx_law24_TileBytes := ⟨tabB_sound Dtab_ok, conOf_sound ⟨Dh_law24_awake, Dh_tile_Encode, Dh_ref24_Encode, Dh_tile_Decode, Dh_ref24_Decode, Dh_law24_same, trivial⟩⟩
theorem Dat_law24_TileBytes : FnAt Tryd.prog 3 Tryd.f3.ntmps Tryd.f3.results.toList (Tryd.f3.body.getD .skip) := ⟨Tryd.f3, Tryd.func3, rfl, rfl, by simp, by decide⟩
theorem Deq_law24_TileBytes (a : Int × Int × Int × List Int) (b : List Int) (post : Bool × Unit → Prop) : fnEval Dx_law24_TileBytes nHn Tryd.f3.ntmps Tryd.f3.results.toList (Tryd.f3.body.getD .skip) [kTile, .slice (.int .u8)] [.snap .bool] (a, b, ()) post = Fx_law24_TileBytes  a b post := by kernel_rfl
theorem Dh_law24_TileBytes : Dq_law24_TileBytes.holds Tryd.prog DG 3 :=
  detP Dx_law24_TileBytes_ok Dmixed nHn Dat_law24_TileBytes (F := fun x post => Fx_law24_TileBytes  x.1 x.2.1 post) (fun x post => Deq_law24_TileBytes x.1 x.2.1 post) fun x h w => Lx_law24_TileBytes  x.1 x.2.1 h w
def Dx_law24_TileBack : Cx := ⟨tabOf Dtab, conOf [(9, Dq_law24_awake), (10, Dq_tile_Encode), (12, Dq_tile_Decode), (14, Dq_law24_same)], DG⟩
theorem Dx_law24_TileBack_ok : CxOk Tryd.prog Dx_law24_TileBack := ⟨tabB_sound Dtab_ok, conOf_sound ⟨Dh_law24_awake, Dh_tile_Encode, Dh_tile_Decode, Dh_law24_same, trivial⟩⟩
theorem Dat_law24_TileBack : FnAt Tryd.prog 4 Tryd.f4.ntmps Tryd.f4.results.toList (Tryd.f4.body.getD .skip) := ⟨Tryd.f4, Tryd.func4, rfl, rfl, by simp, by decide⟩
theorem Deq_law24_TileBack (a : Int × Int × Int × List Int) (b : List Int) (post : Bool × Unit → Prop) : fnEval Dx_law24_TileBack nHn Tryd.f4.ntmps Tryd.f4.results.toList (Tryd.f4.body.getD .skip) [kTile, .slice (.int .u8)] [.snap .bool] (a, b, ()) post = Fx_law24_TileBack  a b post := by kernel_rfl
theorem Dh_law24_TileBack : Dq_law24_TileBack.holds Tryd.prog DG 4 :=
  detP Dx_law24_TileBack_ok Dmixed nHn Dat_law24_TileBack (F := fun x post => Fx_law24_TileBack  x.1 x.2.1 post) (fun x post => Deq_law24_TileBack x.1 x.2.1 post) fun x h w => Lx_law24_TileBack  x.1 x.2.1 h w
def Dx_law24_TileCuts : Cx := ⟨tabOf Dtab, conOf [(9, Dq_law24_awake), (10, Dq_tile_Encode), (12, Dq_tile_Decode), (14, Dq_law24_same)], DG⟩
theorem Dx_law24_TileCuts_ok : CxOk Tryd.prog Dx_law24_TileCuts := ⟨tabB_sound Dtab_ok, conOf_sound ⟨Dh_law24_awake, Dh_tile_Encode, Dh_tile_Decode, Dh_law24_same, trivial⟩⟩
theorem Dat_law24_TileCuts : FnAt Tryd.prog 5 Tryd.f5.ntmps Tryd.f5.results.toList (Tryd.f5.body.getD .skip) := ⟨Tryd.f5, Tryd.func5, rfl, rfl, by simp, by decide⟩
theorem Deq_law24_TileCuts (a : Int × Int × Int × List Int) (b : Int) (c : Int) (post : Bool × Unit → Prop) : fnEval Dx_law24_TileCuts nHn Tryd.f5.ntmps Tryd.f5.results.toList (Tryd.f5.body.getD .skip) [kTile, .int .i64, .int .u8] [.snap .bool] (a, b, c, ()) post = Fx_law24_TileCuts  a b c post := by kernel_rfl
theorem Dh_law24_TileCuts : Dq_law24_TileCuts.holds Tryd.prog DG 5 :=
  detP Dx_law24_TileCuts_ok Dmixed nHn Dat_law24_TileCuts (F := fun x post => Fx_law24_TileCuts  x.1 x.2.1 x.2.2.1 post) (fun x post => Deq_law24_TileCuts x.1 x.2.1 x.2.2.1 post) fun x h w => Lx_law24_TileCuts  x.1 x.2.1 x.2.2.1 h w
end Go.Lift

namespace Go.Proofs.YtomopcclgokehaaDoor
open Go.Lift

theorem tileCuts_law : LawSpec Rows.tileCutsSpec 3 := ⟨rfl, fun H ds h => by
  match ds, h with
  | [d1, d2, d3], _ => rfl⟩

set_option maxRecDepth 100000 in
theorem tileCuts_lifted (os : Os) (started : os.Started) (H : Type) (enc : TypeId × Value → H) :
    ReturnsInHanded {} Tryd.checked os 5 .any (fun w args => (Rows.tileCutsSpec.pre enc Tryd.prog Tryd.f5 [] false w args ∧ laidMetH Tryd.prog laidL w) ∧ sizedMet enc Tryd.prog Tryd.f5 (OpenSpec.ofChange Rows.tileCutsSpec) false w args) (Rows.tileCutsSpec.post enc Tryd.prog Tryd.f5 false true false false) :=
  law_laid (C := Tryd.checked) (X := fun w _ => laidMetH Tryd.prog laidL w) (fun _ _ _ hh h => h.of_heap hh) (fun w _ h => laid_globs w h) own started (by kernel_rfl) Tryd.func5 rfl (by decide)
    (ChangeSpec.witness_shaped (enc := enc) (C := Tryd.checked) (os := os) (X := fun w _ => laidMetH Tryd.prog laidL w) false (World.doorLaid Tryd.prog 400 os) #[.agg #[.int .i64 0, .int .u32 0, .int .u32 0, .slice none 0 0], .int .i64 0, .int .u8 0] 12 rfl (World.shaped_of_RefB (by kernel_rfl) (by kernel_rfl)) (by kernel_rfl) (by kernel_rfl) (by kernel_rfl) (door_met os _))
    laidOut (ktsB_sound _ [kTile, .int .i64, .int .u8] (by kernel_rfl)) (by decide +kernel) rfl (by kernel_rfl) tileCuts_law Dh_law24_TileCuts (fun x h w => ⟨rngTi h.1, rngI h.2.1, rngU8 h.2.2.1⟩)

theorem tileCuts_holds : Rows.TileCutsSaid :=
  OpenClaim.holds_of_wide 5 Tryd.f5 rfl rfl rfl rfl rfl rfl rfl ⟨rfl, rfl, rfl, rfl, rfl⟩ rfl rfl rfl rfl rfl (by kernel_rfl) Tryd.func5 (by kernel_rfl)
    (of_decide_eq_true (by kernel_rfl)) (by unfold Func.isWrapper; first | (rw [if_pos (by decide +kernel)]; kernel_rfl) | (rw [if_neg (by decide +kernel)]; exact ⟨rfl, rfl⟩))
    (fun os started H enc _ => tileCuts_lifted os started H enc)

theorem tileCuts_card : Rows.TileCutsCardSaid :=
  Claim7.holds_tied_plain_at .later [] [.data] true (true, "901cbe4a31dccb0dbe60f466e19b0f64a9f46ef0e64d151d7ddb72a006a78ac7") false
    tileCuts_holds (fun _ h => by cases h) (by kernel_rfl) (fun _ h => by cases h) tileCuts_row_tie rfl ⟨rfl, rfl⟩ (by kernel_rfl) rfl
    (fun f fn hf hfn => by
      obtain rfl : f = 5 := Option.some.inj ((show Tryd.prog.funcNamed "tarn/tarnlaw24.TileCuts" = some 5 by kernel_rfl).symm.trans hf) |>.symm
      obtain rfl : fn = Tryd.f5 := (Option.some.inj (Tryd.func5.symm.trans hfn)).symm
      exact ⟨by kernel_rfl, fun j t ht => by
        rw [Tryd.params5] at ht
        have hm : t ∈ [25, 3, 5] := by simpa using Array.mem_of_getElem? ht
        have hall : ([25, 3, 5].all fun u => !Tryd.prog.wantsStandIn u) = true := by kernel_rfl
        exact (show Tryd.prog.wantsStandIn t = false by simpa using List.all_eq_true.1 hall t hm)⟩)
    (by kernel_rfl)
end Go.Proofs.YtomopcclgokehaaDoor
