/- tarnlaw17.TracerFlows: at every input it returns true and leaves the arguments as they were; cube.frames and geom.frames read as the program's text lays them. -/
import Derived.Test.YtplhligfkbgllaaGreatDoorTie
import Derived.Test.YtplhligfkbgllaaGreatDoorCards
import Derived.Test.YtplhligfkbgllaaGreatDoorPtF
set_option linter.unusedVariables false
set_option linter.unusedSimpArgs false
set_option linter.unusedSectionVars false
set_option linter.unusedVariables false
set_option linter.unusedSimpArgs false
namespace Go.Lift
def Fx_tracer_good := fun (g : Option (Int × List (Int × Int × Int × Int) × List ((Int × Int) × Int) × List (List Int) × List Int × List Nat × List Nat)) (s t f : List Int) (post :
  Bool × Unit → Prop) => ∃ (h : True), ∀ (a : Bool), a = ((↑s.length : Int) != (nCellsR g).fst) → Br a (post (Bool.false, ())) (∃ (h : True), ∀ (a : Bool), a = ((↑t.length : Int) !=
  (nCellsR g).fst) → Br a (post (Bool.false, ())) (∃ (h : True), ∀ (a : Bool), a = ((↑f.length : Int) != (nEdgesR g).fst) → Br a (post (Bool.false, ())) (HIs [] [] ∧ ∃ (I : Int ×
  Unit → Unit → Prop), ∃ (μ : Int × Unit → Unit → Nat), I ((0 : Int), ()) () ∧ ∀ (x : Int × Unit) (y : Unit), I x y → ∀ (a : Bool), a = decide (x.fst < (↑s.length : Int)) → Br a (∃
  (h : (0 : Int) ≤ x.fst ∧ x.fst < (↑s.length : Int)), ∀ (a : Bool), a = decide (s.getD x.fst.toNat (0 : Int) < (0 : Int)) → Br a (∀ (a : Bool), a = decide (x.fst ≥ (0 : Int)) → Br
  a (post (Bool.false, ())) (HIs [] [] ∧ ∃ (I : Int × Unit → Unit → Prop), ∃ (μ : Int × Unit → Unit → Nat), I ((0 : Int), ()) () ∧ ∀ (x : Int × Unit) (y : Unit), I x y → ∀ (a :
  Bool), a = decide (x.fst < (↑t.length : Int)) → Br a (∃ (h : (0 : Int) ≤ x.fst ∧ x.fst < (↑t.length : Int)), ∀ (a : Bool), a = decide (t.getD x.fst.toNat (0 : Int) < (0 : Int)) →
  Br a (∀ (a : Bool), a = decide (x.fst ≥ (0 : Int)) → Br a (post (Bool.false, ())) (HIs [] [] ∧ ∃ (I : Int × Unit → Unit → Prop), ∃ (μ : Int × Unit → Unit → Nat), I ((0 : Int), ())
  () ∧ ∀ (x : Int × Unit) (y : Unit), I x y → ∀ (a : Bool), a = decide (x.fst < (↑f.length : Int)) → Br a (∃ (h : (0 : Int) ≤ x.fst ∧ x.fst < (↑f.length : Int)), ∀ (a : Bool), a =
  decide (f.getD x.fst.toNat (0 : Int) < (-4503599627370496 : Int)) → Br a (∀ (a : Bool), a = decide (x.fst ≥ (0 : Int)) → post (!a, ())) (∀ (a : Bool), a = decide (f.getD
  x.fst.toNat (0 : Int) > (4503599627370496 : Int)) → Br a (∀ (a : Bool), a = decide (x.fst ≥ (0 : Int)) → post (!a, ())) (HIs [] [] ∧ I (IntKind.i64.wrap (x.fst + (1 : Int)), ())
  () ∧ μ (IntKind.i64.wrap (x.fst + (1 : Int)), ()) () < μ x y))) (∀ (a : Bool), a = decide ((-1 : Int) ≥ (0 : Int)) → post (!a, ())))) (HIs [] [] ∧ I (IntKind.i64.wrap (x.fst + (1
  : Int)), ()) () ∧ μ (IntKind.i64.wrap (x.fst + (1 : Int)), ()) () < μ x y)) (∀ (a : Bool), a = decide ((-1 : Int) ≥ (0 : Int)) → Br a (post (Bool.false, ())) (HIs [] [] ∧ ∃ (I :
  Int × Unit → Unit → Prop), ∃ (μ : Int × Unit → Unit → Nat), I ((0 : Int), ()) () ∧ ∀ (x : Int × Unit) (y : Unit), I x y → ∀ (a : Bool), a = decide (x.fst < (↑f.length : Int)) → Br
  a (∃ (h : (0 : Int) ≤ x.fst ∧ x.fst < (↑f.length : Int)), ∀ (a : Bool), a = decide (f.getD x.fst.toNat (0 : Int) < (-4503599627370496 : Int)) → Br a (∀ (a : Bool), a = decide
  (x.fst ≥ (0 : Int)) → post (!a, ())) (∀ (a : Bool), a = decide (f.getD x.fst.toNat (0 : Int) > (4503599627370496 : Int)) → Br a (∀ (a : Bool), a = decide (x.fst ≥ (0 : Int)) →
  post (!a, ())) (HIs [] [] ∧ I (IntKind.i64.wrap (x.fst + (1 : Int)), ()) () ∧ μ (IntKind.i64.wrap (x.fst + (1 : Int)), ()) () < μ x y))) (∀ (a : Bool), a = decide ((-1 : Int) ≥ (0
  : Int)) → post (!a, ())))))) (HIs [] [] ∧ I (IntKind.i64.wrap (x.fst + (1 : Int)), ()) () ∧ μ (IntKind.i64.wrap (x.fst + (1 : Int)), ()) () < μ x y)) (∀ (a : Bool), a = decide
  ((-1 : Int) ≥ (0 : Int)) → Br a (post (Bool.false, ())) (HIs [] [] ∧ ∃ (I : Int × Unit → Unit → Prop), ∃ (μ : Int × Unit → Unit → Nat), I ((0 : Int), ()) () ∧ ∀ (x : Int × Unit)
  (y : Unit), I x y → ∀ (a : Bool), a = decide (x.fst < (↑t.length : Int)) → Br a (∃ (h : (0 : Int) ≤ x.fst ∧ x.fst < (↑t.length : Int)), ∀ (a : Bool), a = decide (t.getD
  x.fst.toNat (0 : Int) < (0 : Int)) → Br a (∀ (a : Bool), a = decide (x.fst ≥ (0 : Int)) → Br a (post (Bool.false, ())) (HIs [] [] ∧ ∃ (I : Int × Unit → Unit → Prop), ∃ (μ : Int ×
  Unit → Unit → Nat), I ((0 : Int), ()) () ∧ ∀ (x : Int × Unit) (y : Unit), I x y → ∀ (a : Bool), a = decide (x.fst < (↑f.length : Int)) → Br a (∃ (h : (0 : Int) ≤ x.fst ∧ x.fst <
  (↑f.length : Int)), ∀ (a : Bool), a = decide (f.getD x.fst.toNat (0 : Int) < (-4503599627370496 : Int)) → Br a (∀ (a : Bool), a = decide (x.fst ≥ (0 : Int)) → post (!a, ())) (∀ (a
  : Bool), a = decide (f.getD x.fst.toNat (0 : Int) > (4503599627370496 : Int)) → Br a (∀ (a : Bool), a = decide (x.fst ≥ (0 : Int)) → post (!a, ())) (HIs [] [] ∧ I
  (IntKind.i64.wrap (x.fst + (1 : Int)), ()) () ∧ μ (IntKind.i64.wrap (x.fst + (1 : Int)), ()) () < μ x y))) (∀ (a : Bool), a = decide ((-1 : Int) ≥ (0 : Int)) → post (!a, ()))))
  (HIs [] [] ∧ I (IntKind.i64.wrap (x.fst + (1 : Int)), ()) () ∧ μ (IntKind.i64.wrap (x.fst + (1 : Int)), ()) () < μ x y)) (∀ (a : Bool), a = decide ((-1 : Int) ≥ (0 : Int)) → Br a
  (post (Bool.false, ())) (HIs [] [] ∧ ∃ (I : Int × Unit → Unit → Prop), ∃ (μ : Int × Unit → Unit → Nat), I ((0 : Int), ()) () ∧ ∀ (x : Int × Unit) (y : Unit), I x y → ∀ (a : Bool),
  a = decide (x.fst < (↑f.length : Int)) → Br a (∃ (h : (0 : Int) ≤ x.fst ∧ x.fst < (↑f.length : Int)), ∀ (a : Bool), a = decide (f.getD x.fst.toNat (0 : Int) < (-4503599627370496 :
  Int)) → Br a (∀ (a : Bool), a = decide (x.fst ≥ (0 : Int)) → post (!a, ())) (∀ (a : Bool), a = decide (f.getD x.fst.toNat (0 : Int) > (4503599627370496 : Int)) → Br a (∀ (a :
  Bool), a = decide (x.fst ≥ (0 : Int)) → post (!a, ())) (HIs [] [] ∧ I (IntKind.i64.wrap (x.fst + (1 : Int)), ()) () ∧ μ (IntKind.i64.wrap (x.fst + (1 : Int)), ()) () < μ x y))) (∀
  (a : Bool), a = decide ((-1 : Int) ≥ (0 : Int)) → post (!a, ())))))))))
theorem Lx_tracer_good (g : Option (Int × (List (Int × Int × Int × Int)) × (List ((Int × Int) × Int)) × (List (List Int)) × (List Int) × (List Nat) × List Nat)) (s : List Int) (t : List Int) (f : List Int) (h : WGoodH g s t f) (w : KS.wf [.ptr kGrid, .slice (.int .i64), .slice (.int .i64), .slice (.int .i64)] (g, s, t, f, ())) : Fx_tracer_good  g s t f (fun r => r = goodHR g s t f) := by
  have ls : s.length ≤ maxN := w.2.1.1
  have lt : t.length ≤ maxN := w.2.2.1.1
  have lf : f.length ≤ maxN := w.2.2.2.1.1
  have hm : maxN ≤ 9223372036854775806 := by decide
  have no : ¬ ((s.length : Int) = nCells g ∧ (f.length : Int) = nEdges g ∧ (∀ x ∈ s, 0 ≤ x) ∧ (∀ x ∈ f, FlowOk x = true) ∧ t.length = s.length ∧ ∀ x ∈ t, 0 ≤ x) → (false, ()) = goodHR g s t f := fun q => by
    unfold goodHR
    rw [show goodH (nCells g) (nEdges g) s t f = false from by rw [Bool.eq_false_iff]; exact fun z => q (goodH_iff.1 z)]
  refine ⟨trivial, ?_⟩
  rintro _ rfl
  refine Br.intro (fun e => no fun q => (bne_iff_ne.1 e) q.1) fun e => ?_
  have e : (s.length : Int) = nCells g := by
    have e : ((s.length : Int) != nCells g) = false := e
    simpa using e
  refine ⟨trivial, ?_⟩
  rintro _ rfl
  refine Br.intro (fun e2 => no fun q => (bne_iff_ne.1 e2) (by show (t.length : Int) = nCells g; have := q.2.2.2.2.1; omega)) fun e2 => ?_
  have e2 : (t.length : Int) = nCells g := by
    have e2 : ((t.length : Int) != nCells g) = false := e2
    simpa using e2
  refine ⟨trivial, ?_⟩
  rintro _ rfl
  refine Br.intro (fun e3 => no fun q => (bne_iff_ne.1 e3) q.2.1) fun e3 => ?_
  have e3 : (f.length : Int) = nEdges g := by
    have e3 : ((f.length : Int) != nEdges g) = false := e3
    simpa using e3
  refine ⟨rfl, fun x _ => ∃ k : Nat, x.1 = k ∧ k ≤ s.length ∧ ∀ j, j < k → 0 ≤ s.getD j 0, fun x _ => s.length - x.1.toNat, ⟨0, rfl, by omega, fun j hj => by omega⟩, ?_⟩
  rintro ⟨_, ⟨⟩⟩ _ ⟨k, rfl, hk, hi⟩
  dsimp only
  rintro _ rfl
  refine Br.intro (fun g1 => ?_) fun g1 => ?_
  · have g1 : k < s.length := by have g1 : (k : Int) < s.length := of_decide_eq_true g1; omega
    refine ⟨⟨by omega, by omega⟩, ?_⟩
    rw [Int.toNat_natCast, wi_succ g1 (by omega)]
    rintro _ rfl
    refine Br.intro (fun z => ?_) fun z => ?_
    · rintro _ rfl
      refine Br.intro (fun _ => no fun q => ?_) fun y => ?_
      · have := q.2.2.1 _ (getD_mem g1 0)
        have z := of_decide_eq_true z
        omega
      · have := of_decide_eq_false y
        omega
    · refine ⟨rfl, ⟨k + 1, rfl, by omega, fun j hj => ?_⟩, by omega⟩
      by_cases e : j = k
      · subst e; have := of_decide_eq_false z; omega
      · exact hi j (by omega)
  have hS : ∀ x ∈ s, 0 ≤ x := by
    have g1 : k = s.length := by have g1 : ¬ (k : Int) < s.length := of_decide_eq_false g1; omega
    subst g1
    exact all_get hi
  clear hi hk g1
  rintro _ rfl
  refine Br.intro (fun y => absurd y (by decide)) fun _ => ?_
  refine ⟨rfl, fun x _ => ∃ k : Nat, x.1 = k ∧ k ≤ t.length ∧ ∀ j, j < k → 0 ≤ t.getD j 0, fun x _ => t.length - x.1.toNat, ⟨0, rfl, by omega, fun j hj => by omega⟩, ?_⟩
  rintro ⟨_, ⟨⟩⟩ _ ⟨k, rfl, hk, hi⟩
  dsimp only
  rintro _ rfl
  refine Br.intro (fun g1 => ?_) fun g1 => ?_
  · have g1 : k < t.length := by have g1 : (k : Int) < t.length := of_decide_eq_true g1; omega
    refine ⟨⟨by omega, by omega⟩, ?_⟩
    rw [Int.toNat_natCast, wi_succ g1 (by omega)]
    rintro _ rfl
    refine Br.intro (fun z => ?_) fun z => ?_
    · rintro _ rfl
      refine Br.intro (fun _ => no fun q => ?_) fun y => ?_
      · have := q.2.2.2.2.2 _ (getD_mem g1 0)
        have z := of_decide_eq_true z
        omega
      · have := of_decide_eq_false y
        omega
    · refine ⟨rfl, ⟨k + 1, rfl, by omega, fun j hj => ?_⟩, by omega⟩
      by_cases e : j = k
      · subst e; have := of_decide_eq_false z; omega
      · exact hi j (by omega)
  have hT : ∀ x ∈ t, 0 ≤ x := by
    have g1 : k = t.length := by have g1 : ¬ (k : Int) < t.length := of_decide_eq_false g1; omega
    subst g1
    exact all_get hi
  clear hi hk g1
  rintro _ rfl
  refine Br.intro (fun y => absurd y (by decide)) fun _ => ?_
  refine ⟨rfl, fun x _ => ∃ k : Nat, x.1 = k ∧ k ≤ f.length ∧ ∀ j, j < k → FlowOk (f.getD j 0) = true, fun x _ => f.length - x.1.toNat, ⟨0, rfl, by omega, fun j hj => by omega⟩, ?_⟩
  rintro ⟨_, ⟨⟩⟩ _ ⟨k, rfl, hk, hi⟩
  dsimp only
  rintro _ rfl
  have bad : k < f.length → ¬ FlowOk (f.getD k 0) = true → ∀ a : Bool, a = decide ((k : Int) ≥ 0) → (!a, ()) = goodHR g s t f := by
    rintro g1 hb _ rfl
    rw [decide_eq_true (p := (k : Int) ≥ 0) (by omega)]
    exact no fun q => hb (q.2.2.2.1 _ (getD_mem g1 0))
  refine Br.intro (fun g1 => ?_) fun g1 => ?_
  · have g1 : k < f.length := by have g1 : (k : Int) < f.length := of_decide_eq_true g1; omega
    refine ⟨⟨by omega, by omega⟩, ?_⟩
    rw [Int.toNat_natCast, wi_succ g1 (by omega)]
    rintro _ rfl
    refine Br.intro (fun z => ?_) fun z => ?_
    · exact bad g1 fun q => by have := flowOk_iff.1 q; have := of_decide_eq_true z; omega
    have z := of_decide_eq_false z
    rintro _ rfl
    refine Br.intro (fun y => ?_) fun y => ?_
    · exact bad g1 fun q => by have := flowOk_iff.1 q; have := of_decide_eq_true y; omega
    · have y := of_decide_eq_false y
      refine ⟨rfl, ⟨k + 1, rfl, by omega, fun j hj => ?_⟩, by omega⟩
      by_cases e : j = k
      · subst e; exact flowOk_iff.2 ⟨by omega, by omega⟩
      · exact hi j (by omega)
  have hF : ∀ x ∈ f, FlowOk x = true := by
    have g1 : k = f.length := by have g1 : ¬ (k : Int) < f.length := of_decide_eq_false g1; omega
    subst g1
    exact all_get (p := fun x => FlowOk x = true) hi
  rintro _ rfl
  show (true, ()) = goodHR g s t f
  unfold goodHR
  rw [goodH_iff.2 ⟨e, e3, hS, hF, by omega, hT⟩]
def Fx_tracer_Flows := fun (ty2 ty72 : Nat) (g : Option (Int × List (Int × Int × Int × Int) × List ((Int × Int) × Int) × List (List Int) × List Int × List Nat × List Nat)) (s t f :
  List Int) (post : List Int × Int × Unit → Prop) => Br g.isNone (post ([], (2 : Int), ())) (∃ (h : WGoodH g s t f), ∀ (a : Bool), a = (goodHR g s t f).fst → Br (!a) (post ([], (1 :
  Int), ())) (∃ (h : (0 : Int) ≤ (↑f.length : Int) ∧ (↑f.length : Int) ≤ (↑f.length : Int) ∧ (↑f.length : Int) * (↑(8 : Nat) : Int) ≤ (281474976710656 : Int)), HIs [HObj.row Md.rw
  ty2 (K.int IntKind.i64) (List.replicate f.length (0 : Int))] [HObj.row Md.rw ty2 (K.int IntKind.i64) (List.replicate f.length (0 : Int))] ∧ ∃ (I : Int × Unit → List Int × Unit →
  Prop), ∃ (μ : Int × Unit → List Int × Unit → Nat), I ((0 : Int), ()) (List.replicate f.length (0 : Int), ()) ∧ ∀ (x : Int × Unit) (y : List Int × Unit), I x y → ∀ (a : Bool), a =
  decide (x.fst < (↑s.length : Int)) → Br a (∃ (h : (0 : Int) ≤ x.fst ∧ x.fst < (↑s.length : Int)), HIs [HObj.row Md.rw ty2 (K.int IntKind.i64) y.fst, HObj.row Md.rw ty72 (K.int
  IntKind.i64) (List.replicate (4 : Nat) (0 : Int))] [HObj.row Md.rw ty2 (K.int IntKind.i64) y.fst, HObj.row Md.rw ty72 (K.int IntKind.i64) (List.replicate (4 : Nat) (0 : Int))] ∧ ∃
  (I_1 : Int × Unit → List Int × Unit → Prop), ∃ (μ_1 : Int × Unit → List Int × Unit → Nat), I_1 ((0 : Int), ()) (List.replicate (4 : Nat) (0 : Int), ()) ∧ ∀ (x_3 : Int × Unit) (y_1
  : List Int × Unit), I_1 x_3 y_1 → ∀ (a : Bool), a = decide (x_3.fst < (4 : Int)) → Br a (∃ (h : WNet g x.fst x_3.fst), ∀ (a : Int × Int × Unit), a = nAroundR g x.fst x_3.fst → ∃
  (h : (0 : Int) ≤ a.fst ∧ a.fst < (↑f.length : Int)), ∃ (h : (0 : Int) ≤ x_3.fst ∧ x_3.fst < (↑(4 : Nat) : Int) ∧ (4 : Nat) ≤ y_1.fst.length), HIs [HObj.row Md.rw ty2 (K.int
  IntKind.i64) y.fst, HObj.row Md.rw ty72 (K.int IntKind.i64) (y_1.fst.set x_3.fst.toNat (imax (0 : Int) (IntKind.i64.wrap (f.getD a.fst.toNat (0 : Int) * a.snd.fst))))] [HObj.row
  Md.rw ty2 (K.int IntKind.i64) y.fst, HObj.row Md.rw ty72 (K.int IntKind.i64) (y_1.fst.set x_3.fst.toNat (imax (0 : Int) (IntKind.i64.wrap (f.getD a.fst.toNat (0 : Int) *
  a.snd.fst))))] ∧ I_1 (IntKind.i64.wrap (x_3.fst + (1 : Int)), ()) (y_1.fst.set x_3.fst.toNat (imax (0 : Int) (IntKind.i64.wrap (f.getD a.fst.toNat (0 : Int) * a.snd.fst))), ()) ∧
  μ_1 (IntKind.i64.wrap (x_3.fst + (1 : Int)), ()) (y_1.fst.set x_3.fst.toNat (imax (0 : Int) (IntKind.i64.wrap (f.getD a.fst.toNat (0 : Int) * a.snd.fst))), ()) < μ_1 x_3 y_1) (∃
  (h : (0 : Int) ≤ x.fst ∧ x.fst < (↑t.length : Int)), ∃ (h : (0 : Int) ≤ (0 : Int) ∧ (0 : Int) ≤ (↑(4 : Nat) : Int) ∧ (↑(4 : Nat) : Int) ≤ (↑(4 : Nat) : Int) ∧ (4 : Nat) =
  y_1.fst.length), ∃ (h : WTk (s.getD x.fst.toNat (0 : Int)) (t.getD x.fst.toNat (0 : Int)) (List.take ((↑(4 : Nat) : Int) - (0 : Int)).toNat (List.drop (Int.toNat (0 : Int))
  y_1.fst))), ∀ (a : Bool), a = ((tkR (s.getD x.fst.toNat (0 : Int)) (t.getD x.fst.toNat (0 : Int)) (List.take ((↑(4 : Nat) : Int) - (0 : Int)).toNat (List.drop (Int.toNat (0 :
  Int)) y_1.fst))).snd.fst != (0 : Int)) → Br a (post ([], (tkR (s.getD x.fst.toNat (0 : Int)) (t.getD x.fst.toNat (0 : Int)) (List.take ((↑(4 : Nat) : Int) - (0 : Int)).toNat
  (List.drop (Int.toNat (0 : Int)) y_1.fst))).snd.fst, ())) (HIs [HObj.row Md.rw ty2 (K.int IntKind.i64) y.fst, HObj.row Md.rw ty72 (K.int IntKind.i64) y_1.fst, HObj.row Md.rw ty2
  (K.int IntKind.i64) (tkR (s.getD x.fst.toNat (0 : Int)) (t.getD x.fst.toNat (0 : Int)) (List.take ((↑(4 : Nat) : Int) - (0 : Int)).toNat (List.drop (Int.toNat (0 : Int))
  y_1.fst))).fst] [HObj.row Md.rw ty2 (K.int IntKind.i64) y.fst, HObj.row Md.rw ty72 (K.int IntKind.i64) y_1.fst, HObj.row Md.rw ty2 (K.int IntKind.i64) (tkR (s.getD x.fst.toNat (0
  : Int)) (t.getD x.fst.toNat (0 : Int)) (List.take ((↑(4 : Nat) : Int) - (0 : Int)).toNat (List.drop (Int.toNat (0 : Int)) y_1.fst))).fst] ∧ ∃ (I_2 : Int × Unit → List Int × Unit →
  Prop), ∃ (μ_2 : Int × Unit → List Int × Unit → Nat), I_2 ((0 : Int), ()) (y.fst, ()) ∧ ∀ (x_7 : Int × Unit) (y_2 : List Int × Unit), I_2 x_7 y_2 → ∀ (a : Bool), a = decide
  (x_7.fst < (4 : Int)) → Br a (∃ (h : WNet g x.fst x_7.fst), ∀ (a : Int × Int × Unit), a = nAroundR g x.fst x_7.fst → ∃ (h : (0 : Int) ≤ x_7.fst ∧ x_7.fst < (↑(4 : Nat) : Int) ∧ (4
  : Nat) ≤ y_1.fst.length), ∀ (a_1 : Bool), a_1 = decide (y_1.fst.getD x_7.fst.toNat (0 : Int) > (0 : Int)) → Br a_1 (∃ (h : (0 : Int) ≤ x_7.fst ∧ x_7.fst < (↑(tkR (s.getD
  x.fst.toNat (0 : Int)) (t.getD x.fst.toNat (0 : Int)) (List.take ((↑(4 : Nat) : Int) - (0 : Int)).toNat (List.drop (Int.toNat (0 : Int)) y_1.fst))).fst.length : Int)), ∃ (h : (0 :
  Int) ≤ a.fst ∧ a.fst < (↑f.length : Int)), HIs [HObj.row Md.rw ty2 (K.int IntKind.i64) (y_2.fst.set ((0 : Nat) + a.fst.toNat) (IntKind.i64.wrap ((tkR (s.getD x.fst.toNat (0 :
  Int)) (t.getD x.fst.toNat (0 : Int)) (List.take ((↑(4 : Nat) : Int) - (0 : Int)).toNat (List.drop (Int.toNat (0 : Int)) y_1.fst))).fst.getD ((0 : Nat) + x_7.fst.toNat) (0 : Int) *
  a.snd.fst))), HObj.row Md.rw ty72 (K.int IntKind.i64) y_1.fst, HObj.row Md.rw ty2 (K.int IntKind.i64) (tkR (s.getD x.fst.toNat (0 : Int)) (t.getD x.fst.toNat (0 : Int)) (List.take
  ((↑(4 : Nat) : Int) - (0 : Int)).toNat (List.drop (Int.toNat (0 : Int)) y_1.fst))).fst] [HObj.row Md.rw ty2 (K.int IntKind.i64) (y_2.fst.set ((0 : Nat) + a.fst.toNat)
  (IntKind.i64.wrap ((tkR (s.getD x.fst.toNat (0 : Int)) (t.getD x.fst.toNat (0 : Int)) (List.take ((↑(4 : Nat) : Int) - (0 : Int)).toNat (List.drop (Int.toNat (0 : Int))
  y_1.fst))).fst.getD ((0 : Nat) + x_7.fst.toNat) (0 : Int) * a.snd.fst))), HObj.row Md.rw ty72 (K.int IntKind.i64) y_1.fst, HObj.row Md.rw ty2 (K.int IntKind.i64) (tkR (s.getD
  x.fst.toNat (0 : Int)) (t.getD x.fst.toNat (0 : Int)) (List.take ((↑(4 : Nat) : Int) - (0 : Int)).toNat (List.drop (Int.toNat (0 : Int)) y_1.fst))).fst] ∧ I_2 (IntKind.i64.wrap
  (x_7.fst + (1 : Int)), ()) (y_2.fst.set ((0 : Nat) + a.fst.toNat) (IntKind.i64.wrap ((tkR (s.getD x.fst.toNat (0 : Int)) (t.getD x.fst.toNat (0 : Int)) (List.take ((↑(4 : Nat) :
  Int) - (0 : Int)).toNat (List.drop (Int.toNat (0 : Int)) y_1.fst))).fst.getD ((0 : Nat) + x_7.fst.toNat) (0 : Int) * a.snd.fst)), ()) ∧ μ_2 (IntKind.i64.wrap (x_7.fst + (1 :
  Int)), ()) (y_2.fst.set ((0 : Nat) + a.fst.toNat) (IntKind.i64.wrap ((tkR (s.getD x.fst.toNat (0 : Int)) (t.getD x.fst.toNat (0 : Int)) (List.take ((↑(4 : Nat) : Int) - (0 :
  Int)).toNat (List.drop (Int.toNat (0 : Int)) y_1.fst))).fst.getD ((0 : Nat) + x_7.fst.toNat) (0 : Int) * a.snd.fst)), ()) < μ_2 x_7 y_2) (HIs [HObj.row Md.rw ty2 (K.int
  IntKind.i64) y_2.fst, HObj.row Md.rw ty72 (K.int IntKind.i64) y_1.fst, HObj.row Md.rw ty2 (K.int IntKind.i64) (tkR (s.getD x.fst.toNat (0 : Int)) (t.getD x.fst.toNat (0 : Int))
  (List.take ((↑(4 : Nat) : Int) - (0 : Int)).toNat (List.drop (Int.toNat (0 : Int)) y_1.fst))).fst] [HObj.row Md.rw ty2 (K.int IntKind.i64) y_2.fst, HObj.row Md.rw ty72 (K.int
  IntKind.i64) y_1.fst, HObj.row Md.rw ty2 (K.int IntKind.i64) (tkR (s.getD x.fst.toNat (0 : Int)) (t.getD x.fst.toNat (0 : Int)) (List.take ((↑(4 : Nat) : Int) - (0 : Int)).toNat
  (List.drop (Int.toNat (0 : Int)) y_1.fst))).fst] ∧ I_2 (IntKind.i64.wrap (x_7.fst + (1 : Int)), ()) (y_2.fst, ()) ∧ μ_2 (IntKind.i64.wrap (x_7.fst + (1 : Int)), ()) (y_2.fst, ())
  < μ_2 x_7 y_2)) (HIs [HObj.row Md.rw ty2 (K.int IntKind.i64) y_2.fst] [HObj.row Md.rw ty2 (K.int IntKind.i64) y_2.fst] ∧ I (IntKind.i64.wrap (x.fst + (1 : Int)), ()) (y_2.fst, ())
  ∧ μ (IntKind.i64.wrap (x.fst + (1 : Int)), ()) (y_2.fst, ()) < μ x y)))) (((0 : Nat) = (0 : Nat) ∧ f.length = y.fst.length) ∧ post (y.fst, (0 : Int), ()))))
theorem Lx_tracer_Flows (ty0 ty1 : Nat) (g : Option (Int × (List (Int × Int × Int × Int)) × (List ((Int × Int) × Int)) × (List (List Int)) × (List Int) × (List Nat) × List Nat)) (s : List Int) (t : List Int) (f : List Int) (h : WFlows g s t f) (w : KS.wf [.ptr kGrid, .slice (.int .i64), .slice (.int .i64), .slice (.int .i64)] (g, s, t, f, ())) : Fx_tracer_Flows ty0 ty1 g s t f (fun r => r = sFlowsR g s t f) := by
  obtain ⟨hg, hs, ht0, hf0⟩ := h
  cases g with
  | none => exact Br.intro (fun _ => rfl) fun e => by cases e
  | some g =>
  obtain ⟨n, gn, rfl⟩ := netP_some hg
  refine Br.intro (fun e => by cases e) fun _ => ?_
  refine ⟨⟨hs, ht0, hf0⟩, ?_⟩
  rintro _ rfl
  have A := arOk_n n
  have hAr : ∀ c o, nAroundR (some (netG n)) c o = ((nAround (some (netG n)) c o).1, (nAround (some (netG n)) c o).2, ()) := fun _ _ => rfl
  have hres : sFlowsR (some (netG n)) s t f = ((flowsA false (nCells (some (netG n))) (nEdges (some (netG n))) (nAround (some (netG n))) s t f).1, (flowsA false (nCells (some (netG n))) (nEdges (some (netG n))) (nAround (some (netG n))) s t f).2, ()) := rfl
  refine Br.intro (fun e => ?_) fun e => ?_
  · have e : ¬ goodH (nCells (some (netG n))) (nEdges (some (netG n))) s t f = true := by
      have e : (!goodH (nCells (some (netG n))) (nEdges (some (netG n))) s t f) = true := e
      simpa using e
    rw [hres, flows_bad e]
  have e : goodH (nCells (some (netG n))) (nEdges (some (netG n))) s t f = true := by
    have e : (!goodH (nCells (some (netG n))) (nEdges (some (netG n))) s t f) = false := e
    simpa using e
  rw [hres]
  have gH := goodH_iff.1 e
  obtain ⟨h1, h2, h3, h4⟩ := good_net (n := n) (s := s) (f := f) (goodN_iff.2 ⟨gH.1, gH.2.1, gH.2.2.1, gH.2.2.2.1⟩)
  have hTl : t.length = s.length := gH.2.2.2.2.1
  have hgood := e
  have cr := cells_rng n
  have hE := (netN_ok n (cellsI n).toNat (by omega)).2
  have hE : (netE n).1.length ≤ 4 * (cellsI n).toNat := hE
  obtain ⟨N, hN⟩ : ∃ N, N = nCells (some (netG n)) := ⟨_, rfl⟩
  obtain ⟨M, hM⟩ : ∃ M, M = nEdges (some (netG n)) := ⟨_, rfl⟩
  rw [← hN, ← hM]
  rw [← hN, ← hM] at hgood
  generalize nAround (some (netG n)) = ar at *
  obtain ⟨gv, hgv⟩ : ∃ gv, takesG ar s t f = gv := ⟨_, rfl⟩
  refine ⟨⟨by omega, by omega, by omega⟩, rfl, fun x y => ∃ k : Nat, x.1 = k ∧ k ≤ s.length ∧ (∀ j, j < k → takesE ar s t f j = 0) ∧ y.1 = allP ar f gv k, fun x _ => s.length - x.1.toNat, ⟨0, rfl, by omega, fun j hj => by omega, rfl⟩, ?_⟩
  rintro ⟨_, ⟨⟩⟩ ⟨_, ⟨⟩⟩ ⟨k, rfl, hk, hz, rfl⟩
  dsimp only
  rintro _ rfl
  refine Br.intro (fun d => ?_) fun d => ?_
  rotate_left
  · have d : k = s.length := by have d : ¬ (k : Int) < s.length := of_decide_eq_false d; omega
    have hlen : (allP ar f gv k).length = f.length := (allP_laid A h4 h2 k (by omega)).1.trans h2.symm
    refine ⟨⟨rfl, hlen.symm⟩, ?_⟩
    rw [flows_ok hgood (fun j hj => hz j (by omega)), hgv, d]
  have d : k < s.length := by have d : (k : Int) < s.length := of_decide_eq_true d; omega
  have hp : placeOk n (k : Int) = true := place_nat (by omega)
  refine ⟨⟨by omega, by omega⟩, rfl, fun x y => ∃ j : Nat, x.1 = j ∧ j ≤ 4 ∧ y.1 = fill4 j (outN ar f k), fun x _ => 4 - x.1.toNat, ⟨0, rfl, by omega, rfl⟩, ?_⟩
  rintro ⟨_, ⟨⟩⟩ ⟨_, ⟨⟩⟩ ⟨j, rfl, hj, rfl⟩
  dsimp only
  rintro _ rfl
  refine Br.intro (fun e1 => ?_) fun e1 => ?_
  · have e1 : j < 4 := by have e1 : (j : Int) < 4 := of_decide_eq_true e1; omega
    refine ⟨⟨hg, ⟨by omega, by omega⟩, by omega, by omega⟩, ?_⟩
    rintro _ rfl
    obtain ⟨s1, s2, s3, s4, s5⟩ := side_facts A h4 h2 (c := k) (o := j) (besideOk_iff.2 ⟨hp, by omega, by omega⟩)
    rw [hAr]
    dsimp only
    rw [wi_small (by omega) (by omega), wi_succ e1 (by omega), Int.toNat_natCast]
    exact ⟨⟨s1, s2⟩, ⟨by omega, by show (j : Int) < 4; omega, Nat.le_refl 4⟩, rfl, ⟨j + 1, rfl, by omega, fill4_set e1 (outN ar f k)⟩, by omega⟩
  have e1 : j = 4 := by have e1 : ¬ (j : Int) < 4 := of_decide_eq_false e1; omega
  subst e1
  have f4 : ∀ g, fill4 4 g = four g := fun g => rfl
  rw [f4]
  obtain ⟨o1, o2, o3⟩ := outs_ok (outs_fine A h4 hp)
  rw [four_take, Int.toNat_natCast]
  have hc : tkR (s.getD k 0) (t.getD k 0) (four (outN ar f k)) = ((takesF (s.getD k 0) (t.getD k 0) (outsN ar f k)).1, takesE ar s t f k, ()) := rfl
  rw [hc]
  refine ⟨⟨by omega, by show (k : Int) < (t.length : Int); omega⟩, ⟨by decide, by decide, by decide, rfl⟩, ⟨hs _ (getD_mem d 0), ht0 _ (getD_mem (by omega) 0), o2, o3⟩, ?_⟩
  rintro _ rfl
  refine Br.intro (fun q => ?_) fun q => ?_
  · have q : takesE ar s t f k ≠ 0 := bne_iff_ne.1 q
    rw [flows_err d q]
    have : takesE ar s t f k = 1 := by
      rcases takes_two (a := s.getD k 0) (b := t.getD k 0) (c := outsN ar f k) with z | z
      · exact absurd z q
      · exact congrArg Prod.snd z
    rw [this]
  have q : takesE ar s t f k = 0 := by
    have q : (takesE ar s t f k != 0) = false := q
    simpa using q
  obtain ⟨c1, c2, c3⟩ := take_facts A h4 (w := s.getD k 0) (h := t.getD k 0) (ht0 _ (getD_mem (by omega) 0)) hp q
  have hgk : gv k = takesOut (s.getD k 0) (t.getD k 0) (outsN ar f k) := by rw [← hgv]; exact congrArg Prod.fst c1
  rw [show (takesF (s.getD k 0) (t.getD k 0) (outsN ar f k)).1 = takesOut (s.getD k 0) (t.getD k 0) (outsN ar f k) from congrArg Prod.fst c1]
  refine ⟨rfl, fun x y => ∃ j : Nat, x.1 = j ∧ j ≤ 4 ∧ y.1 = putsP ar f (gv k) k (allP ar f gv k) j, fun x _ => 4 - x.1.toNat, ⟨0, rfl, by omega, rfl⟩, ?_⟩
  rintro ⟨_, ⟨⟩⟩ ⟨_, ⟨⟩⟩ ⟨i, rfl, hi, rfl⟩
  dsimp only
  rintro _ rfl
  refine Br.intro (fun e2 => ?_) fun e2 => ?_
  rotate_left
  · have e2 : i = 4 := by have e2 : ¬ (i : Int) < 4 := of_decide_eq_false e2; omega
    subst e2
    rw [wi_succ d (by omega)]
    refine ⟨rfl, ⟨k + 1, rfl, by omega, fun j hj => ?_, rfl⟩, by omega⟩
    by_cases z : j = k
    · rw [z]; exact q
    · exact hz j (by omega)
  have e2 : i < 4 := by have e2 : (i : Int) < 4 := of_decide_eq_true e2; omega
  obtain ⟨s1, s2, s3, s4, s5⟩ := side_facts A h4 h2 (c := k) (o := i) (besideOk_iff.2 ⟨hp, by omega, by omega⟩)
  obtain ⟨g1, g2, g3⟩ := c3 i e2
  rw [Int.toNat_natCast, four_get e2, Nat.zero_add, wi_succ e2 (by omega)]
  have hst : putsP ar f (gv k) k (allP ar f gv k) (i + 1) = putP ar f (gv k) k i (putsP ar f (gv k) k (allP ar f gv k) i) := rfl
  refine ⟨⟨hg, ⟨by omega, by omega⟩, by omega, by omega⟩, ?_⟩
  rintro _ rfl
  rw [hAr]
  dsimp only
  refine ⟨⟨by omega, by show (i : Int) < 4; omega, Nat.le_refl 4⟩, ?_⟩
  rintro _ rfl
  refine Br.intro (fun z => ?_) fun z => ?_
  · have z : 0 < outN ar f k i := of_decide_eq_true z
    have hm2 : IntKind.i64.wrap ((takesOut (s.getD k 0) (t.getD k 0) (outsN ar f k)).getD i 0 * (ar k i).2) = (takesOut (s.getD k 0) (t.getD k 0) (outsN ar f k)).getD i 0 * (ar k i).2 := by
      rcases s3 with q | q <;> rw [q] <;> exact wi_small (by omega) (by omega)
    rw [Nat.zero_add, hm2]
    refine ⟨⟨by omega, by rw [c2]; omega⟩, ⟨s1, s2⟩, rfl, ⟨i + 1, rfl, by omega, ?_⟩, by omega⟩
    rw [hst]; unfold putP; rw [if_pos z, hgk, Int.toNat_natCast]
  · have z : ¬ 0 < outN ar f k i := of_decide_eq_false z
    exact ⟨rfl, ⟨i + 1, rfl, by omega, by rw [hst]; unfold putP; rw [if_neg z]⟩, by omega⟩
def Fx_ref17_Flows := fun (ty2 : Nat) (g : Option (Int × List (Int × Int × Int × Int) × List Int)) (s t f : List Int) (post : List Int × Int × Unit → Prop) => Br g.isNone (post ([],
  (2 : Int), ())) (∃ (h : WFits g s f), ∀ (a : Bool), a = (fitsRR g s f).fst → Br (!a) (post ([], (1 : Int), ())) (∀ (a : Bool), a = ((↑t.length : Int) != (↑s.length : Int)) → Br a
  (post ([], (1 : Int), ())) (∃ (h : (0 : Int) ≤ (↑f.length : Int) ∧ (↑f.length : Int) ≤ (↑f.length : Int) ∧ (↑f.length : Int) * (↑(8 : Nat) : Int) ≤ (281474976710656 : Int)), HIs
  [HObj.row Md.rw ty2 (K.int IntKind.i64) (List.replicate f.length (0 : Int))] [HObj.row Md.rw ty2 (K.int IntKind.i64) (List.replicate f.length (0 : Int))] ∧ ∃ (I : Int × Unit →
  List Int × Unit → Prop), ∃ (μ : Int × Unit → List Int × Unit → Nat), I ((0 : Int), ()) (List.replicate f.length (0 : Int), ()) ∧ ∀ (x : Int × Unit) (y : List Int × Unit), I x y →
  ∀ (a : Bool), a = decide (x.fst < (↑s.length : Int)) → Br a (∃ (h : (0 : Int) ≤ x.fst ∧ x.fst < (↑s.length : Int)), ∃ (h : (0 : Int) ≤ x.fst ∧ x.fst < (↑t.length : Int)), ∃ (h :
  WOuts g f x.fst), ∀ (a : List Int × Unit), a = outsR g f x.fst → ∃ (h : WTk (s.getD x.fst.toNat (0 : Int)) (t.getD x.fst.toNat (0 : Int)) (List.take a.fst.length (List.drop (0 :
  Nat) a.fst))), ∀ (a_1 : Bool), a_1 = ((tkR (s.getD x.fst.toNat (0 : Int)) (t.getD x.fst.toNat (0 : Int)) (List.take a.fst.length (List.drop (0 : Nat) a.fst))).snd.fst != (0 :
  Int)) → Br a_1 (post ([], (tkR (s.getD x.fst.toNat (0 : Int)) (t.getD x.fst.toNat (0 : Int)) (List.take a.fst.length (List.drop (0 : Nat) a.fst))).snd.fst, ())) (HIs [HObj.row
  Md.rw ty2 (K.int IntKind.i64) y.fst, HObj.row Md.rw ty2 (K.int IntKind.i64) a.fst, HObj.row Md.rw ty2 (K.int IntKind.i64) (tkR (s.getD x.fst.toNat (0 : Int)) (t.getD x.fst.toNat
  (0 : Int)) (List.take a.fst.length (List.drop (0 : Nat) a.fst))).fst] [HObj.row Md.rw ty2 (K.int IntKind.i64) y.fst, HObj.row Md.rw ty2 (K.int IntKind.i64) a.fst, HObj.row Md.rw
  ty2 (K.int IntKind.i64) (tkR (s.getD x.fst.toNat (0 : Int)) (t.getD x.fst.toNat (0 : Int)) (List.take a.fst.length (List.drop (0 : Nat) a.fst))).fst] ∧ ∃ (I_1 : Int × Unit → List
  Int × Unit → Prop), ∃ (μ_1 : Int × Unit → List Int × Unit → Nat), I_1 ((0 : Int), ()) (y.fst, ()) ∧ ∀ (x_5 : Int × Unit) (y_1 : List Int × Unit), I_1 x_5 y_1 → ∀ (a_2 : Bool), a_2
  = decide (x_5.fst < (4 : Int)) → Br a_2 (∃ (h : WRNet g x.fst x_5.fst), ∀ (a_3 : Int × Int × Unit), a_3 = rAroundR g x.fst x_5.fst → ∃ (h : (0 : Int) ≤ x_5.fst ∧ x_5.fst < (↑(tkR
  (s.getD x.fst.toNat (0 : Int)) (t.getD x.fst.toNat (0 : Int)) (List.take a.fst.length (List.drop (0 : Nat) a.fst))).fst.length : Int)), ∀ (a_4 : Bool), a_4 = decide ((tkR (s.getD
  x.fst.toNat (0 : Int)) (t.getD x.fst.toNat (0 : Int)) (List.take a.fst.length (List.drop (0 : Nat) a.fst))).fst.getD ((0 : Nat) + x_5.fst.toNat) (0 : Int) > (0 : Int)) → Br a_4 (∃
  (h : (0 : Int) ≤ x_5.fst ∧ x_5.fst < (↑(tkR (s.getD x.fst.toNat (0 : Int)) (t.getD x.fst.toNat (0 : Int)) (List.take a.fst.length (List.drop (0 : Nat) a.fst))).fst.length : Int)),
  ∃ (h : (0 : Int) ≤ a_3.fst ∧ a_3.fst < (↑f.length : Int)), HIs [HObj.row Md.rw ty2 (K.int IntKind.i64) (y_1.fst.set ((0 : Nat) + a_3.fst.toNat) (IntKind.i64.wrap ((tkR (s.getD
  x.fst.toNat (0 : Int)) (t.getD x.fst.toNat (0 : Int)) (List.take a.fst.length (List.drop (0 : Nat) a.fst))).fst.getD ((0 : Nat) + x_5.fst.toNat) (0 : Int) * a_3.snd.fst))),
  HObj.row Md.rw ty2 (K.int IntKind.i64) a.fst, HObj.row Md.rw ty2 (K.int IntKind.i64) (tkR (s.getD x.fst.toNat (0 : Int)) (t.getD x.fst.toNat (0 : Int)) (List.take a.fst.length
  (List.drop (0 : Nat) a.fst))).fst] [HObj.row Md.rw ty2 (K.int IntKind.i64) (y_1.fst.set ((0 : Nat) + a_3.fst.toNat) (IntKind.i64.wrap ((tkR (s.getD x.fst.toNat (0 : Int)) (t.getD
  x.fst.toNat (0 : Int)) (List.take a.fst.length (List.drop (0 : Nat) a.fst))).fst.getD ((0 : Nat) + x_5.fst.toNat) (0 : Int) * a_3.snd.fst))), HObj.row Md.rw ty2 (K.int
  IntKind.i64) a.fst, HObj.row Md.rw ty2 (K.int IntKind.i64) (tkR (s.getD x.fst.toNat (0 : Int)) (t.getD x.fst.toNat (0 : Int)) (List.take a.fst.length (List.drop (0 : Nat)
  a.fst))).fst] ∧ I_1 (IntKind.i64.wrap (x_5.fst + (1 : Int)), ()) (y_1.fst.set ((0 : Nat) + a_3.fst.toNat) (IntKind.i64.wrap ((tkR (s.getD x.fst.toNat (0 : Int)) (t.getD
  x.fst.toNat (0 : Int)) (List.take a.fst.length (List.drop (0 : Nat) a.fst))).fst.getD ((0 : Nat) + x_5.fst.toNat) (0 : Int) * a_3.snd.fst)), ()) ∧ μ_1 (IntKind.i64.wrap (x_5.fst +
  (1 : Int)), ()) (y_1.fst.set ((0 : Nat) + a_3.fst.toNat) (IntKind.i64.wrap ((tkR (s.getD x.fst.toNat (0 : Int)) (t.getD x.fst.toNat (0 : Int)) (List.take a.fst.length (List.drop
  (0 : Nat) a.fst))).fst.getD ((0 : Nat) + x_5.fst.toNat) (0 : Int) * a_3.snd.fst)), ()) < μ_1 x_5 y_1) (HIs [HObj.row Md.rw ty2 (K.int IntKind.i64) y_1.fst, HObj.row Md.rw ty2
  (K.int IntKind.i64) a.fst, HObj.row Md.rw ty2 (K.int IntKind.i64) (tkR (s.getD x.fst.toNat (0 : Int)) (t.getD x.fst.toNat (0 : Int)) (List.take a.fst.length (List.drop (0 : Nat)
  a.fst))).fst] [HObj.row Md.rw ty2 (K.int IntKind.i64) y_1.fst, HObj.row Md.rw ty2 (K.int IntKind.i64) a.fst, HObj.row Md.rw ty2 (K.int IntKind.i64) (tkR (s.getD x.fst.toNat (0 :
  Int)) (t.getD x.fst.toNat (0 : Int)) (List.take a.fst.length (List.drop (0 : Nat) a.fst))).fst] ∧ I_1 (IntKind.i64.wrap (x_5.fst + (1 : Int)), ()) (y_1.fst, ()) ∧ μ_1
  (IntKind.i64.wrap (x_5.fst + (1 : Int)), ()) (y_1.fst, ()) < μ_1 x_5 y_1)) (HIs [HObj.row Md.rw ty2 (K.int IntKind.i64) y_1.fst] [HObj.row Md.rw ty2 (K.int IntKind.i64) y_1.fst] ∧
  I (IntKind.i64.wrap (x.fst + (1 : Int)), ()) (y_1.fst, ()) ∧ μ (IntKind.i64.wrap (x.fst + (1 : Int)), ()) (y_1.fst, ()) < μ x y))) (((0 : Nat) = (0 : Nat) ∧ f.length =
  y.fst.length) ∧ post (y.fst, (0 : Int), ())))))
theorem Lx_ref17_Flows (ty0 : Nat) (g : Option (Int × (List (Int × Int × Int × Int)) × List Int)) (s : List Int) (t : List Int) (f : List Int) (h : WRFlows g s t f) (w : KS.wf [.ptr kRGrid, .slice (.int .i64), .slice (.int .i64), .slice (.int .i64)] (g, s, t, f, ())) : Fx_ref17_Flows ty0 g s t f (fun r => r = rFlowsR g s t f) := by
  obtain ⟨hg, hs, ht0, hf0⟩ := h
  cases g with
  | none => exact Br.intro (fun _ => rfl) fun e => by cases e
  | some g =>
  obtain ⟨n, gn, rfl⟩ := rnetP_some hg
  refine Br.intro (fun e => by cases e) fun _ => ?_
  refine ⟨⟨hg, hs, hf0⟩, ?_⟩
  rintro _ rfl
  have A := arOk_r n
  have hAr : ∀ c o, rAroundR (some (rnetG n)) c o = ((rAround (some (rnetG n)) c o).1, (rAround (some (rnetG n)) c o).2, ()) := fun _ _ => rfl
  have hOu : ∀ c, outsR (some (rnetG n)) f c = (outsN (rAround (some (rnetG n))) f c, ()) := fun _ => rfl
  have hres : rFlowsR (some (rnetG n)) s t f = ((flowsA false (cellsI (rSide (some (rnetG n)))) (rEdges (some (rnetG n))) (rAround (some (rnetG n))) s t f).1, (flowsA false (cellsI (rSide (some (rnetG n)))) (rEdges (some (rnetG n))) (rAround (some (rnetG n))) s t f).2, ()) := rfl
  refine Br.intro (fun e => ?_) fun e => ?_
  · have e : goodN (cellsI (rSide (some (rnetG n)))) (rEdges (some (rnetG n))) s f = false := by
      have e : (!goodN (cellsI (rSide (some (rnetG n)))) (rEdges (some (rnetG n))) s f) = true := e
      simpa using e
    rw [hres, flows_bad fun q => by
      have q := goodH_iff.1 q
      rw [goodN_iff.2 ⟨q.1, q.2.1, q.2.2.1, q.2.2.2.1⟩] at e; cases e]
  have e : goodN (cellsI (rSide (some (rnetG n)))) (rEdges (some (rnetG n))) s f = true := by
    have e : (!goodN (cellsI (rSide (some (rnetG n)))) (rEdges (some (rnetG n))) s f) = false := e
    simpa using e
  rintro _ rfl
  refine Br.intro (fun e2 => ?_) fun e2 => ?_
  · have e2 := bne_iff_ne.1 e2
    rw [hres, flows_bad fun q => e2 (by have := (goodH_iff.1 q).2.2.2.2.1; omega)]
  have hTl : t.length = s.length := by
    have e2 : ((t.length : Int) != (s.length : Int)) = false := e2
    have : (t.length : Int) = s.length := by simpa using e2
    omega
  rw [hres]
  have gN := goodN_iff.1 e
  have eEd : (f.length : Int) = rEdges (some (rnetG n)) := gN.2.1
  obtain ⟨h1, h2, h3, h4⟩ := good_rnet e
  have cr := cells_rng n
  have hE := (netN_ok n (cellsI n).toNat (by omega)).2
  have hE : (netE n).1.length ≤ 4 * (cellsI n).toNat := hE
  obtain ⟨N, hN⟩ : ∃ N, N = cellsI (rSide (some (rnetG n))) := ⟨_, rfl⟩
  obtain ⟨M, hM⟩ : ∃ M, M = rEdges (some (rnetG n)) := ⟨_, rfl⟩
  rw [← hN, ← hM]
  rw [← hN, ← hM] at gN
  generalize rAround (some (rnetG n)) = ar at *
  obtain ⟨gv, hgv⟩ : ∃ gv, takesG ar s t f = gv := ⟨_, rfl⟩
  refine ⟨⟨by omega, by omega, by omega⟩, rfl, fun x y => ∃ k : Nat, x.1 = k ∧ k ≤ s.length ∧ (∀ j, j < k → takesE ar s t f j = 0) ∧ y.1 = allM ar f gv k, fun x _ => s.length - x.1.toNat, ⟨0, rfl, by omega, fun j hj => by omega, rfl⟩, ?_⟩
  rintro ⟨_, ⟨⟩⟩ ⟨_, ⟨⟩⟩ ⟨k, rfl, hk, hz, rfl⟩
  dsimp only
  rintro _ rfl
  refine Br.intro (fun d => ?_) fun d => ?_
  rotate_left
  · have d : k = s.length := by have d : ¬ (k : Int) < s.length := of_decide_eq_false d; omega
    have gfine : ∀ c : Nat, (c : Int) < cellsI n → ∀ o : Nat, o < 4 → 0 ≤ (gv c).getD o 0 ∧ (0 < (gv c).getD o 0 → 0 < outN ar f c o) := fun c hc o ho => by
      obtain ⟨c1, c2, c3⟩ := take_facts A h4 (w := s.getD c 0) (h := t.getD c 0) (ht0 _ (getD_mem (by omega) 0)) (place_nat hc) (hz c (by omega))
      have hgk : gv c = takesOut (s.getD c 0) (t.getD c 0) (outsN ar f c) := by rw [← hgv]; exact congrArg Prod.fst c1
      rw [hgk]
      exact ⟨(c3 o ho).1, (c3 o ho).2.2⟩
    have l1 := allM_laid A h4 h2 gfine k (by omega)
    have l2 := allP_laid A h4 h2 (gv := gv) k (by omega)
    refine ⟨⟨rfl, (l1.1.trans h2.symm).symm⟩, ?_⟩
    have hgood : goodH N M s t f = true := goodH_iff.2 ⟨gN.1, gN.2.1, gN.2.2.1, gN.2.2.2, hTl, all_get fun j hj => (takes_zero (hz j (by omega))).2.1⟩
    rw [flows_ok hgood (fun j hj => hz j (by omega)), hgv, ← d, laid_same l1 l2]
  have d : k < s.length := by have d : (k : Int) < s.length := of_decide_eq_true d; omega
  have hp : placeOk n (k : Int) = true := place_nat (by omega)
  refine ⟨⟨by omega, by omega⟩, ⟨by omega, by omega⟩, ⟨n, gn, rfl, by omega, h4, by omega, by omega⟩, ?_⟩
  rintro _ rfl
  rw [hOu]
  dsimp only
  have htk : List.take (outsN ar f k).length (List.drop 0 (outsN ar f k)) = outsN ar f k := rfl
  obtain ⟨o1, o2, o3⟩ := outs_ok (outs_fine A h4 hp)
  rw [htk, Int.toNat_natCast]
  have hc : tkR (s.getD k 0) (t.getD k 0) (outsN ar f k) = ((takesF (s.getD k 0) (t.getD k 0) (outsN ar f k)).1, takesE ar s t f k, ()) := rfl
  rw [hc]
  refine ⟨⟨hs _ (getD_mem d 0), ht0 _ (getD_mem (by omega) 0), o2, o3⟩, ?_⟩
  rintro _ rfl
  refine Br.intro (fun q => ?_) fun q => ?_
  · have q : takesE ar s t f k ≠ 0 := bne_iff_ne.1 q
    rw [flows_err d q]
    have : takesE ar s t f k = 1 := by
      rcases takes_two (a := s.getD k 0) (b := t.getD k 0) (c := outsN ar f k) with z | z
      · exact absurd z q
      · exact congrArg Prod.snd z
    rw [this]
  have q : takesE ar s t f k = 0 := by
    have q : (takesE ar s t f k != 0) = false := q
    simpa using q
  obtain ⟨c1, c2, c3⟩ := take_facts A h4 (w := s.getD k 0) (h := t.getD k 0) (ht0 _ (getD_mem (by omega) 0)) hp q
  have hgk : gv k = takesOut (s.getD k 0) (t.getD k 0) (outsN ar f k) := by rw [← hgv]; exact congrArg Prod.fst c1
  rw [show (takesF (s.getD k 0) (t.getD k 0) (outsN ar f k)).1 = takesOut (s.getD k 0) (t.getD k 0) (outsN ar f k) from congrArg Prod.fst c1]
  refine ⟨rfl, fun x y => ∃ j : Nat, x.1 = j ∧ j ≤ 4 ∧ y.1 = putsM ar (gv k) k (allM ar f gv k) j, fun x _ => 4 - x.1.toNat, ⟨0, rfl, by omega, rfl⟩, ?_⟩
  rintro ⟨_, ⟨⟩⟩ ⟨_, ⟨⟩⟩ ⟨i, rfl, hi, rfl⟩
  dsimp only
  rintro _ rfl
  refine Br.intro (fun e2 => ?_) fun e2 => ?_
  rotate_left
  · have e2 : i = 4 := by have e2 : ¬ (i : Int) < 4 := of_decide_eq_false e2; omega
    subst e2
    rw [wi_succ d (by omega)]
    refine ⟨rfl, ⟨k + 1, rfl, by omega, fun j hj => ?_, rfl⟩, by omega⟩
    by_cases z : j = k
    · rw [z]; exact q
    · exact hz j (by omega)
  have e2 : i < 4 := by have e2 : (i : Int) < 4 := of_decide_eq_true e2; omega
  obtain ⟨s1, s2, s3, s4, s5⟩ := side_facts A h4 h2 (c := k) (o := i) (besideOk_iff.2 ⟨hp, by omega, by omega⟩)
  obtain ⟨g1, g2, g3⟩ := c3 i e2
  have hst : putsM ar (gv k) k (allM ar f gv k) (i + 1) = putM ar (gv k) k i (putsM ar (gv k) k (allM ar f gv k) i) := rfl
  refine ⟨⟨hg, ⟨by omega, by omega⟩, by omega, by omega⟩, ?_⟩
  rintro _ rfl
  rw [hAr, Int.toNat_natCast, Nat.zero_add, wi_succ e2 (by omega)]
  dsimp only
  refine ⟨⟨by omega, by rw [c2]; omega⟩, ?_⟩
  rintro _ rfl
  refine Br.intro (fun z => ?_) fun z => ?_
  · have z : 0 < (takesOut (s.getD k 0) (t.getD k 0) (outsN ar f k)).getD i 0 := of_decide_eq_true z
    have hm2 : IntKind.i64.wrap ((takesOut (s.getD k 0) (t.getD k 0) (outsN ar f k)).getD i 0 * (ar k i).2) = (takesOut (s.getD k 0) (t.getD k 0) (outsN ar f k)).getD i 0 * (ar k i).2 := by
      rcases s3 with q | q <;> rw [q] <;> exact wi_small (by omega) (by omega)
    rw [hm2]
    refine ⟨⟨by omega, by rw [c2]; omega⟩, ⟨s1, s2⟩, rfl, ⟨i + 1, rfl, by omega, ?_⟩, by omega⟩
    rw [hst]; unfold putM; rw [hgk, Int.toNat_natCast, if_pos z, Nat.zero_add]
  · have z : ¬ 0 < (takesOut (s.getD k 0) (t.getD k 0) (outsN ar f k)).getD i 0 := of_decide_eq_false z
    exact ⟨rfl, ⟨i + 1, rfl, by omega, by rw [hst]; unfold putM; rw [hgk, Int.toNat_natCast, if_neg z]⟩, by omega⟩
end Go.Lift

set_option linter.unusedVariables false
set_option linter.unusedSimpArgs false
namespace Go.Lift
def Fx_grid_Grid_Cells_0 := fun (post : Int × Unit → Prop) => post ((0 : Int), ())
theorem Lx_grid_Grid_Cells_0  (w : KS.wf [.ptr kGrid] (none, ())) : Fx_grid_Grid_Cells_0   (fun r => r = nCellsR none) := by
  exact rfl
def Fx_grid_Grid_Cells_1 := fun (g : Int × List (Int × Int × Int × Int) × List ((Int × Int) × Int) × List (List Int) × List Int × List Nat × List Nat) (post : Int × Unit → Prop) =>
  ∃ (h : Option.some g ≠ Option.none), post ((↑g.snd.snd.snd.snd.fst.length : Int), ())
theorem Lx_grid_Grid_Cells_1 (g : Int × (List (Int × Int × Int × Int)) × (List ((Int × Int) × Int)) × (List (List Int)) × (List Int) × (List Nat) × List Nat) (w : KS.wf [.ptr kGrid] ((some g), ())) : Fx_grid_Grid_Cells_1  g (fun r => r = nCellsR (some g)) := by
  exact ⟨by simp, rfl⟩
def Fx_grid_Grid_Edges_0 := fun (post : Int × Unit → Prop) => post ((0 : Int), ())
theorem Lx_grid_Grid_Edges_0  (w : KS.wf [.ptr kGrid] (none, ())) : Fx_grid_Grid_Edges_0   (fun r => r = nEdgesR none) := by
  exact rfl
def Fx_grid_Grid_Edges_1 := fun (g : Int × List (Int × Int × Int × Int) × List ((Int × Int) × Int) × List (List Int) × List Int × List Nat × List Nat) (post : Int × Unit → Prop) =>
  ∃ (h : Option.some g ≠ Option.none), post ((↑g.snd.fst.length : Int), ())
theorem Lx_grid_Grid_Edges_1 (g : Int × (List (Int × Int × Int × Int)) × (List ((Int × Int) × Int)) × (List (List Int)) × (List Int) × (List Nat) × List Nat) (w : KS.wf [.ptr kGrid] ((some g), ())) : Fx_grid_Grid_Edges_1  g (fun r => r = nEdgesR (some g)) := by
  exact ⟨by simp, rfl⟩
end Go.Lift

set_option linter.unusedVariables false
set_option linter.unusedSimpArgs false
namespace Go.Lift
open Go.Proofs
def Rbx_grid_Grid_Cells : Cx := ⟨tabOf Rbtab, conOf [], RbG⟩
theorem Rbx_grid_Grid_Cells_ok : CxOk Tryz.prog Rbx_grid_Grid_Cells := ⟨tabB_sound Rbtab_ok, fun f c h => by cases h⟩
theorem Rbat_grid_Grid_Cells : FnAt Tryz.prog 31 Tryz.f31.ntmps Tryz.f31.results.toList (Tryz.f31.body.getD .skip) := ⟨Tryz.f31, Tryz.func31, rfl, rfl, by simp, by decide⟩
theorem Rbeq_grid_Grid_Cells_0  (post : Int × Unit → Prop) : fnEval Rbx_grid_Grid_Cells nHn Tryz.f31.ntmps Tryz.f31.results.toList (Tryz.f31.body.getD .skip) [.ptr kGrid] [.snap (.int .i64)] (none, ()) post = Fx_grid_Grid_Cells_0   post := by kernel_rfl
theorem Rbeq_grid_Grid_Cells_1 (g : Int × (List (Int × Int × Int × Int)) × (List ((Int × Int) × Int)) × (List (List Int)) × (List Int) × (List Nat) × List Nat) (post : Int × Unit → Prop) : fnEval Rbx_grid_Grid_Cells nHn Tryz.f31.ntmps Tryz.f31.results.toList (Tryz.f31.body.getD .skip) [.ptr kGrid] [.snap (.int .i64)] ((some g), ()) post = Fx_grid_Grid_Cells_1  g post := by kernel_rfl
def RbF_grid_Grid_Cells (x : KS [.ptr kGrid]) (post : RS [.snap (.int .i64)] → Prop) : Prop := match x with
  | (none, y) => Fx_grid_Grid_Cells_0   post
  | (some g, y) => Fx_grid_Grid_Cells_1  g post
theorem Rbh_grid_Grid_Cells : Rbq_grid_Grid_Cells.holds Tryz.prog RbG 31 :=
  detP Rbx_grid_Grid_Cells_ok Rbmixed nHn Rbat_grid_Grid_Cells (F := RbF_grid_Grid_Cells) (fun x post => match x with
    | (none, y) => Rbeq_grid_Grid_Cells_0  post
    | (some g, y) => Rbeq_grid_Grid_Cells_1 g post) fun x h w => match x, h, w with
    | (none, y), h, w => Lx_grid_Grid_Cells_0   w
    | (some g, y), h, w => Lx_grid_Grid_Cells_1  g w
def Rbx_grid_Grid_Edges : Cx := ⟨tabOf Rbtab, conOf [], RbG⟩
theorem Rbx_grid_Grid_Edges_ok : CxOk Tryz.prog Rbx_grid_Grid_Edges := ⟨tabB_sound Rbtab_ok, fun f c h => by cases h⟩
theorem Rbat_grid_Grid_Edges : FnAt Tryz.prog 55 Tryz.f55.ntmps Tryz.f55.results.toList (Tryz.f55.body.getD .skip) := ⟨Tryz.f55, Tryz.func55, rfl, rfl, by simp, by decide⟩
theorem Rbeq_grid_Grid_Edges_0  (post : Int × Unit → Prop) : fnEval Rbx_grid_Grid_Edges nHn Tryz.f55.ntmps Tryz.f55.results.toList (Tryz.f55.body.getD .skip) [.ptr kGrid] [.snap (.int .i64)] (none, ()) post = Fx_grid_Grid_Edges_0   post := by kernel_rfl
theorem Rbeq_grid_Grid_Edges_1 (g : Int × (List (Int × Int × Int × Int)) × (List ((Int × Int) × Int)) × (List (List Int)) × (List Int) × (List Nat) × List Nat) (post : Int × Unit → Prop) : fnEval Rbx_grid_Grid_Edges nHn Tryz.f55.ntmps Tryz.f55.results.toList (Tryz.f55.body.getD .skip) [.ptr kGrid] [.snap (.int .i64)] ((some g), ()) post = Fx_grid_Grid_Edges_1  g post := by kernel_rfl
def RbF_grid_Grid_Edges (x : KS [.ptr kGrid]) (post : RS [.snap (.int .i64)] → Prop) : Prop := match x with
  | (none, y) => Fx_grid_Grid_Edges_0   post
  | (some g, y) => Fx_grid_Grid_Edges_1  g post
theorem Rbh_grid_Grid_Edges : Rbq_grid_Grid_Edges.holds Tryz.prog RbG 55 :=
  detP Rbx_grid_Grid_Edges_ok Rbmixed nHn Rbat_grid_Grid_Edges (F := RbF_grid_Grid_Edges) (fun x post => match x with
    | (none, y) => Rbeq_grid_Grid_Edges_0  post
    | (some g, y) => Rbeq_grid_Grid_Edges_1 g post) fun x h w => match x, h, w with
    | (none, y), h, w => Lx_grid_Grid_Edges_0   w
    | (some g, y), h, w => Lx_grid_Grid_Edges_1  g w
end Go.Lift

set_option linter.unusedVariables false
set_option linter.unusedSimpArgs false
namespace Go.Lift
def Fx_grid_Grid_Around_0 := fun (c o : Int) (post : Int × Int × Unit → Prop) => post ((0 : Int), (0 : Int), ())
theorem Lx_grid_Grid_Around_0 (c : Int) (o : Int) (h : WNet none c o) (w : KS.wf [.ptr kGrid, .int .i64, .int .i64] (none, c, o, ())) : Fx_grid_Grid_Around_0  c o (fun r => r = nAroundR none c o) := by
  exact rfl
def Fx_grid_Grid_Around_1 := fun (g : Int × List (Int × Int × Int × Int) × List ((Int × Int) × Int) × List (List Int) × List Int × List Nat × List Nat) (c o : Int) (post : Int × Int
  × Unit → Prop) => ∃ (h : Option.some g ≠ Option.none), Br (!(mget (c, o) g.snd.snd.fst).isSome) (post ((0 : Int), (0 : Int), ())) (∃ (h : Option.some g ≠ Option.none), ∃ (h : (0 :
  Int) ≤ (mget (c, o) g.snd.snd.fst).getD (0 : Int) ∧ (mget (c, o) g.snd.snd.fst).getD (0 : Int) < (↑g.snd.fst.length : Int)), ∀ (a : Bool), a = ((g.snd.fst.getD ((mget (c, o)
  g.snd.snd.fst).getD (0 : Int)).toNat ((K.int IntKind.i64).pair ((K.int IntKind.i64).pair ((K.int IntKind.i64).pair (K.int IntKind.i64)))).dflt).fst == c) → Br a (post ((mget (c,
  o) g.snd.snd.fst).getD (0 : Int), (1 : Int), ())) (post ((mget (c, o) g.snd.snd.fst).getD (0 : Int), (-1 : Int), ())))
theorem Lx_grid_Grid_Around_1 (g : Int × (List (Int × Int × Int × Int)) × (List ((Int × Int) × Int)) × (List (List Int)) × (List Int) × (List Nat) × List Nat) (c : Int) (o : Int) (h : WNet (some g) c o) (w : KS.wf [.ptr kGrid, .int .i64, .int .i64] ((some g), c, o, ())) : Fx_grid_Grid_Around_1  g c o (fun r => r = nAroundR (some g) c o) := by
  obtain ⟨hg, hc, ho⟩ := h
  obtain ⟨n, gn, hgn⟩ : ∃ n, goodC n = true ∧ g = netG n := by
    rcases hg with hg | ⟨n, gn, hg⟩
    · cases hg
    · exact ⟨n, gn, Option.some.inj hg⟩
  subst hgn
  refine ⟨by simp, ?_⟩
  have hr : nAroundR (some (netG n)) c o = match mget (c, o) (netE n).2 with
      | none => ((0 : Int), (0 : Int), ())
      | some e => if ((netE n).1.getD e.toNat dEd).1 = c then (e, (1 : Int), ()) else (e, (-1 : Int), ()) := by
    unfold nAroundR nAround netG
    dsimp only
    cases mget (c, o) (netE n).2 with
    | none => rfl
    | some e => dsimp only; split <;> rfl
  rw [hr]
  by_cases ok : besideOk n c o = true
  · obtain ⟨k, hk, k1, _, _⟩ := net_side ok
    have k1' : mget (c, o) (netG n).2.2.1 = some (k : Int) := k1
    rw [k1', k1]
    refine Br.intro (fun q => by cases q) fun _ => ?_
    refine ⟨by simp, ⟨by show (0 : Int) ≤ k; omega, by show (k : Int) < ((netE n).1.length : Nat); omega⟩, ?_⟩
    intro a ha
    have ha : a = decide (((netE n).1.getD (k : Int).toNat dEd).1 = c) := ha
    rw [ha]
    dsimp only
    refine Br.intro (fun q => ?_) fun q => ?_
    · rw [if_pos (of_decide_eq_true q)]; rfl
    · rw [if_neg (of_decide_eq_false q)]; rfl
  · have k1 := net_none ok
    have k1' : mget (c, o) (netG n).2.2.1 = none := k1
    rw [k1', k1]
    exact Br.intro (fun _ => rfl) fun q => by cases q
end Go.Lift

set_option linter.unusedVariables false
set_option linter.unusedSimpArgs false
namespace Go.Lift
open Go.Proofs
def Rbx_grid_Grid_Around : Cx := ⟨tabOf Rbtab, conOf [], RbG⟩
theorem Rbx_grid_Grid_Around_ok : CxOk Tryz.prog Rbx_grid_Grid_Around := ⟨tabB_sound Rbtab_ok, fun f c h => by cases h⟩
theorem Rbat_grid_Grid_Around : FnAt Tryz.prog 46 Tryz.f46.ntmps Tryz.f46.results.toList (Tryz.f46.body.getD .skip) := ⟨Tryz.f46, Tryz.func46, rfl, rfl, by simp, by decide⟩
theorem Rbeq_grid_Grid_Around_0 (c : Int) (o : Int) (post : Int × Int × Unit → Prop) : fnEval Rbx_grid_Grid_Around Rbhn_grid_Grid_Around Tryz.f46.ntmps Tryz.f46.results.toList (Tryz.f46.body.getD .skip) [.ptr kGrid, .int .i64, .int .i64] [.snap (.int .i64), .snap (.int .i64)] (none, c, o, ()) post = Fx_grid_Grid_Around_0  c o post := by kernel_rfl
theorem Rbeq_grid_Grid_Around_1 (g : Int × (List (Int × Int × Int × Int)) × (List ((Int × Int) × Int)) × (List (List Int)) × (List Int) × (List Nat) × List Nat) (c : Int) (o : Int) (post : Int × Int × Unit → Prop) : fnEval Rbx_grid_Grid_Around Rbhn_grid_Grid_Around Tryz.f46.ntmps Tryz.f46.results.toList (Tryz.f46.body.getD .skip) [.ptr kGrid, .int .i64, .int .i64] [.snap (.int .i64), .snap (.int .i64)] ((some g), c, o, ()) post = Fx_grid_Grid_Around_1  g c o post := by kernel_rfl
def RbF_grid_Grid_Around (x : KS [.ptr kGrid, .int .i64, .int .i64]) (post : RS [.snap (.int .i64), .snap (.int .i64)] → Prop) : Prop := match x with
  | (none, y) => Fx_grid_Grid_Around_0  y.1 y.2.1 post
  | (some g, y) => Fx_grid_Grid_Around_1  g y.1 y.2.1 post
theorem Rbh_grid_Grid_Around : Rbq_grid_Grid_Around.holds Tryz.prog RbG 46 :=
  nam_of_det (detP Rbx_grid_Grid_Around_ok Rbmixed Rbhn_grid_Grid_Around Rbat_grid_Grid_Around (F := RbF_grid_Grid_Around) (fun x post => match x with
    | (none, y) => Rbeq_grid_Grid_Around_0 y.1 y.2.1 post
    | (some g, y) => Rbeq_grid_Grid_Around_1 g y.1 y.2.1 post) fun x h w => match x, h, w with
    | (none, y), h, w => Lx_grid_Grid_Around_0  y.1 y.2.1 h w
    | (some g, y), h, w => Lx_grid_Grid_Around_1  g y.1 y.2.1 h w)
end Go.Lift

set_option linter.unusedVariables false
set_option linter.unusedSimpArgs false
namespace Go.Lift
def Fx_ref14_Fits := fun (g : Option (Int × List (Int × Int × Int × Int) × List Int)) (s f : List Int) (post : Bool × Unit → Prop) => ∃ (h : RNetP g), ∀ (a : Bool), a = ((↑s.length
  : Int) != (rCellsR g).fst) → Br a (post (Bool.false, ())) (∃ (h : True), ∀ (a : Bool), a = ((↑f.length : Int) != (rEdgesR g).fst) → Br a (post (Bool.false, ())) (HIs [] [] ∧ ∃ (I
  : Int × Unit → Unit → Prop), ∃ (μ : Int × Unit → Unit → Nat), I ((0 : Int), ()) () ∧ ∀ (x : Int × Unit) (y : Unit), I x y → ∀ (a : Bool), a = decide (x.fst < (↑s.length : Int)) →
  Br a (∃ (h : (0 : Int) ≤ x.fst ∧ x.fst < (↑s.length : Int)), ∀ (a : Bool), a = decide (s.getD x.fst.toNat (0 : Int) < (0 : Int)) → Br a (post (Bool.false, ())) (HIs [] [] ∧ I
  (IntKind.i64.wrap (x.fst + (1 : Int)), ()) () ∧ μ (IntKind.i64.wrap (x.fst + (1 : Int)), ()) () < μ x y)) (HIs [] [] ∧ ∃ (I : Int × Unit → Unit → Prop), ∃ (μ : Int × Unit → Unit →
  Nat), I ((0 : Int), ()) () ∧ ∀ (x : Int × Unit) (y : Unit), I x y → ∀ (a : Bool), a = decide (x.fst < (↑f.length : Int)) → Br a (∃ (h : (0 : Int) ≤ x.fst ∧ x.fst < (↑f.length :
  Int)), ∀ (a : Bool), a = decide (f.getD x.fst.toNat (0 : Int) < (-4503599627370496 : Int)) → Br a (post (Bool.false, ())) (∃ (h : (0 : Int) ≤ x.fst ∧ x.fst < (↑f.length : Int)), ∀
  (a : Bool), a = decide (f.getD x.fst.toNat (0 : Int) > (4503599627370496 : Int)) → Br a (post (Bool.false, ())) (HIs [] [] ∧ I (IntKind.i64.wrap (x.fst + (1 : Int)), ()) () ∧ μ
  (IntKind.i64.wrap (x.fst + (1 : Int)), ()) () < μ x y))) (post (Bool.true, ())))))
theorem Lx_ref14_Fits (g : Option (Int × (List (Int × Int × Int × Int)) × List Int)) (s : List Int) (f : List Int) (h : WFits g s f) (w : KS.wf [.ptr kRGrid, .slice (.int .i64), .slice (.int .i64)] (g, s, f, ())) : Fx_ref14_Fits  g s f (fun r => r = fitsRR g s f) := by
  obtain ⟨hg, hs, hf⟩ := h
  have ls : s.length ≤ maxN := w.2.1.1
  have lf : f.length ≤ maxN := w.2.2.1.1
  have hm : maxN ≤ 9223372036854775806 := by decide
  have key : fitsRR g s f = (decide ((s.length : Int) = cellsI (rSide g)) && decide ((f.length : Int) = rEdges g) && s.all (fun x => decide (0 ≤ x)) && f.all FlowOk, ()) := rfl
  refine ⟨hg, ?_⟩
  rintro _ rfl
  refine Br.intro (fun e => ?_) fun e => ?_
  · have e : (s.length : Int) ≠ cellsI (rSide g) := bne_iff_ne.1 e
    rw [key, decide_eq_false e]; rfl
  have e : (s.length : Int) = cellsI (rSide g) := by
    have e : ((s.length : Int) != cellsI (rSide g)) = false := e
    simpa using e
  rw [decide_eq_true e, Bool.true_and] at key
  refine ⟨trivial, ?_⟩
  rintro _ rfl
  refine Br.intro (fun e2 => ?_) fun e2 => ?_
  · have e2 : (f.length : Int) ≠ rEdges g := bne_iff_ne.1 e2
    rw [key, decide_eq_false e2]; rfl
  have e2 : (f.length : Int) = rEdges g := by
    have e2 : ((f.length : Int) != rEdges g) = false := e2
    simpa using e2
  rw [decide_eq_true e2, Bool.true_and] at key
  refine ⟨rfl, fun x _ => ∃ k : Nat, x.1 = k ∧ k ≤ s.length ∧ fitsRR g s f = ((s.drop k).all (fun x => decide (0 ≤ x)) && f.all FlowOk, ()), fun x _ => s.length - x.1.toNat, ⟨0, rfl, by omega, key⟩, ?_⟩
  rintro ⟨_, ⟨⟩⟩ _ ⟨k, rfl, hk, hi⟩
  dsimp only
  rintro _ rfl
  refine Br.intro (fun g1 => ?_) fun g1 => ?_
  · have g1 : k < s.length := by have g1 : (k : Int) < s.length := of_decide_eq_true g1; omega
    rw [allStep g1] at hi
    refine ⟨⟨by omega, by omega⟩, ?_⟩
    rw [Int.toNat_natCast, wi_succ g1 (by omega)]
    rintro _ rfl
    refine Br.intro (fun z => ?_) fun z => ?_
    · have z := of_decide_eq_true z
      rw [hi, decide_eq_false (by omega)]; rfl
    · have z := of_decide_eq_false z
      rw [decide_eq_true (p := 0 ≤ s.getD k 0) (by omega), Bool.true_and] at hi
      exact ⟨rfl, ⟨k + 1, rfl, by omega, hi⟩, by omega⟩
  have g1 : k = s.length := by have g1 : ¬ (k : Int) < s.length := of_decide_eq_false g1; omega
  subst g1
  rw [List.drop_length] at hi
  have hi : fitsRR g s f = (f.all FlowOk, ()) := hi
  refine ⟨rfl, fun x _ => ∃ k : Nat, x.1 = k ∧ k ≤ f.length ∧ fitsRR g s f = ((f.drop k).all FlowOk, ()), fun x _ => f.length - x.1.toNat, ⟨0, rfl, by omega, hi⟩, ?_⟩
  clear hi
  rintro ⟨_, ⟨⟩⟩ _ ⟨k, rfl, hk, hi⟩
  dsimp only
  rintro _ rfl
  refine Br.intro (fun g2 => ?_) fun g2 => ?_
  · have g2 : k < f.length := by have g2 : (k : Int) < f.length := of_decide_eq_true g2; omega
    rw [allStep g2] at hi
    refine ⟨⟨by omega, by omega⟩, ?_⟩
    rw [Int.toNat_natCast, wi_succ g2 (by omega)]
    rintro _ rfl
    refine Br.intro (fun z => ?_) fun z => ?_
    · have z := of_decide_eq_true z
      rw [hi, show FlowOk (f.getD k 0) = false by unfold FlowOk; rw [decide_eq_false (p := -4503599627370496 ≤ f.getD k 0) (by omega)]; rfl]; rfl
    have z := of_decide_eq_false z
    refine ⟨⟨by omega, by omega⟩, ?_⟩
    rintro _ rfl
    refine Br.intro (fun y => ?_) fun y => ?_
    · have y := of_decide_eq_true y
      rw [hi, show FlowOk (f.getD k 0) = false by unfold FlowOk; rw [decide_eq_false (p := f.getD k 0 ≤ 4503599627370496) (by omega), Bool.and_false]]; rfl
    · have y := of_decide_eq_false y
      rw [show FlowOk (f.getD k 0) = true from flowOk_iff.2 ⟨by omega, by omega⟩, Bool.true_and] at hi
      exact ⟨rfl, ⟨k + 1, rfl, by omega, hi⟩, by omega⟩
  have g2 : k = f.length := by have g2 : ¬ (k : Int) < f.length := of_decide_eq_false g2; omega
  subst g2
  rw [List.drop_length] at hi
  rw [hi]; rfl
def Fx_ref14_Outs := fun (ty2 : Nat) (g : Option (Int × List (Int × Int × Int × Int) × List Int)) (f : List Int) (c : Int) (post : List Int × Unit → Prop) => HIs [HObj.row Md.rw ty2
  (K.int IntKind.i64) [(0 : Int), (0 : Int), (0 : Int), (0 : Int)]] [HObj.row Md.rw ty2 (K.int IntKind.i64) [(0 : Int), (0 : Int), (0 : Int), (0 : Int)]] ∧ ∃ (I : Int × Unit → List
  Int × Unit → Prop), ∃ (μ : Int × Unit → List Int × Unit → Nat), I ((0 : Int), ()) ([(0 : Int), (0 : Int), (0 : Int), (0 : Int)], ()) ∧ ∀ (x : Int × Unit) (y : List Int × Unit), I
  x y → ∀ (a : Bool), a = decide (x.fst < (4 : Int)) → Br a (∃ (h : WRNet g c x.fst), ∀ (a : Int × Int × Unit), a = rAroundR g c x.fst → ∃ (h : (0 : Int) ≤ a.fst ∧ a.fst <
  (↑f.length : Int)), ∀ (a_1 : Bool), a_1 = decide (IntKind.i64.wrap (f.getD a.fst.toNat (0 : Int) * a.snd.fst) > (0 : Int)) → Br a_1 (∃ (h : (0 : Int) ≤ x.fst ∧ x.fst < (↑(4 : Nat)
  : Int)), HIs [HObj.row Md.rw ty2 (K.int IntKind.i64) (y.fst.set ((0 : Nat) + x.fst.toNat) (IntKind.i64.wrap (f.getD a.fst.toNat (0 : Int) * a.snd.fst)))] [HObj.row Md.rw ty2
  (K.int IntKind.i64) (y.fst.set ((0 : Nat) + x.fst.toNat) (IntKind.i64.wrap (f.getD a.fst.toNat (0 : Int) * a.snd.fst)))] ∧ I (IntKind.i64.wrap (x.fst + (1 : Int)), ()) (y.fst.set
  ((0 : Nat) + x.fst.toNat) (IntKind.i64.wrap (f.getD a.fst.toNat (0 : Int) * a.snd.fst)), ()) ∧ μ (IntKind.i64.wrap (x.fst + (1 : Int)), ()) (y.fst.set ((0 : Nat) + x.fst.toNat)
  (IntKind.i64.wrap (f.getD a.fst.toNat (0 : Int) * a.snd.fst)), ()) < μ x y) (HIs [HObj.row Md.rw ty2 (K.int IntKind.i64) y.fst] [HObj.row Md.rw ty2 (K.int IntKind.i64) y.fst] ∧ I
  (IntKind.i64.wrap (x.fst + (1 : Int)), ()) (y.fst, ()) ∧ μ (IntKind.i64.wrap (x.fst + (1 : Int)), ()) (y.fst, ()) < μ x y)) (((0 : Nat) = (0 : Nat) ∧ (4 : Nat) = y.fst.length) ∧
  post (y.fst, ()))
theorem Lx_ref14_Outs (ty0 : Nat) (g : Option (Int × (List (Int × Int × Int × Int)) × List Int)) (f : List Int) (c : Int) (h : WOuts g f c) (w : KS.wf [.ptr kRGrid, .slice (.int .i64), .int .i64] (g, f, c, ())) : Fx_ref14_Outs ty0 g f c (fun r => r = outsR g f c) := by
  obtain ⟨n, gn, rfl, hl, hf, c0, c1⟩ := h
  have A := arOk_r n
  have hl' : f.length = (netE n).1.length := by
    have hl : (f.length : Int) = ((rnetE n).1.length : Nat) := hl
    rw [← (netE_both n).1] at hl; omega
  have hp : placeOk n c = true := by unfold placeOk; rw [decide_eq_true c0, decide_eq_true c1]; rfl
  have cr := cells_rng n
  have hnet : RNetP (some (rnetG n)) := .inr ⟨n, gn, rfl⟩
  refine ⟨rfl, fun x y => ∃ j : Nat, x.1 = j ∧ j ≤ 4 ∧ y.1 = fill4 j (outN (rAround (some (rnetG n))) f c), fun x _ => 4 - x.1.toNat, ⟨0, rfl, by omega, rfl⟩, ?_⟩
  rintro ⟨_, ⟨⟩⟩ ⟨_, ⟨⟩⟩ ⟨j, rfl, hj, rfl⟩
  dsimp only
  rintro _ rfl
  refine Br.intro (fun e => ?_) fun e => ?_
  rotate_left
  · have e : j = 4 := by have e : ¬ (j : Int) < 4 := of_decide_eq_false e; omega
    subst e
    exact ⟨⟨rfl, rfl⟩, rfl⟩
  have e : j < 4 := by have e : (j : Int) < 4 := of_decide_eq_true e; omega
  refine ⟨⟨hnet, ⟨by omega, by omega⟩, by omega, by omega⟩, ?_⟩
  rintro _ rfl
  obtain ⟨s1, s2, s3, s4, s5⟩ := side_facts A hf hl' (c := c) (o := j) (besideOk_iff.2 ⟨hp, by omega, by omega⟩)
  have hout : outN (rAround (some (rnetG n))) f c j = imax 0 (f.getD (rAround (some (rnetG n)) c j).1.toNat 0 * (rAround (some (rnetG n)) c j).2) := rfl
  have hr : rAroundR (some (rnetG n)) c j = ((rAround (some (rnetG n)) c j).1, (rAround (some (rnetG n)) c j).2, ()) := rfl
  rw [hr]
  generalize rAround (some (rnetG n)) c j = ar at *
  dsimp only
  rw [wi_small (x := f.getD ar.1.toNat 0 * ar.2) (by omega) (by omega), wi_succ e (by omega), Int.toNat_natCast, Nat.zero_add]
  refine ⟨⟨s1, s2⟩, ?_⟩
  rintro _ rfl
  refine Br.intro (fun z => ?_) fun z => ?_
  · rw [imax_pos (of_decide_eq_true z)] at hout
    refine ⟨⟨by omega, by show (j : Int) < 4; omega⟩, rfl, ⟨j + 1, rfl, by omega, ?_⟩, by omega⟩
    rw [← hout]; exact fill4_set e _
  · rw [imax_neg (of_decide_eq_false z)] at hout
    refine ⟨rfl, ⟨j + 1, rfl, by omega, ?_⟩, by omega⟩
    rw [← fill4_set e, hout]
    have : j = 0 ∨ j = 1 ∨ j = 2 ∨ j = 3 := by omega
    rcases this with rfl | rfl | rfl | rfl <;> rfl
end Go.Lift

set_option linter.unusedVariables false
set_option linter.unusedSimpArgs false
namespace Go.Lift
open Go.Proofs
def Rbx_ref14_Fits : Cx := ⟨tabOf Rbtab, conOf [(76, Rbq_ref09_Grid_Cells), (93, Rbq_ref09_Grid_Edges)], RbG⟩
theorem Rbx_ref14_Fits_ok : CxOk Tryz.prog Rbx_ref14_Fits := ⟨tabB_sound Rbtab_ok, conOf_sound ⟨Rbh_ref09_Grid_Cells, Rbh_ref09_Grid_Edges, trivial⟩⟩
theorem Rbat_ref14_Fits : FnAt Tryz.prog 47 Tryz.f47.ntmps Tryz.f47.results.toList (Tryz.f47.body.getD .skip) := ⟨Tryz.f47, Tryz.func47, rfl, rfl, by simp, by decide⟩
theorem Rbeq_ref14_Fits (g : Option (Int × (List (Int × Int × Int × Int)) × List Int)) (s : List Int) (f : List Int) (post : Bool × Unit → Prop) : fnEval Rbx_ref14_Fits Rbhn_ref14_Fits Tryz.f47.ntmps Tryz.f47.results.toList (Tryz.f47.body.getD .skip) [.ptr kRGrid, .slice (.int .i64), .slice (.int .i64)] [.snap .bool] (g, s, f, ()) post = Fx_ref14_Fits  g s f post := by kernel_rfl
theorem Rbh_ref14_Fits : Rbq_ref14_Fits.holds Tryz.prog RbG 47 :=
  detP Rbx_ref14_Fits_ok Rbmixed Rbhn_ref14_Fits Rbat_ref14_Fits (F := fun x post => Fx_ref14_Fits  x.1 x.2.1 x.2.2.1 post) (fun x post => Rbeq_ref14_Fits x.1 x.2.1 x.2.2.1 post) fun x h w => Lx_ref14_Fits  x.1 x.2.1 x.2.2.1 h w
def Rbx_ref14_Outs : Cx := ⟨tabOf Rbtab, conOf [(50, Rbq_ref09_Grid_Around)], RbG⟩
theorem Rbx_ref14_Outs_ok : CxOk Tryz.prog Rbx_ref14_Outs := ⟨tabB_sound Rbtab_ok, conOf_sound ⟨Rbh_ref09_Grid_Around, trivial⟩⟩
theorem Rbat_ref14_Outs : FnAt Tryz.prog 49 Tryz.f49.ntmps Tryz.f49.results.toList (Tryz.f49.body.getD .skip) := ⟨Tryz.f49, Tryz.func49, rfl, rfl, by simp, by decide⟩
theorem Rbeq_ref14_Outs (g : Option (Int × (List (Int × Int × Int × Int)) × List Int)) (f : List Int) (c : Int) (post : (List Int) × Unit → Prop) : fnEval Rbx_ref14_Outs Rbhn_ref14_Outs Tryz.f49.ntmps Tryz.f49.results.toList (Tryz.f49.body.getD .skip) [.ptr kRGrid, .slice (.int .i64), .int .i64] [.own 2 (.int .i64)] (g, f, c, ()) post = Fx_ref14_Outs 2 g f c post := by kernel_rfl
theorem Rbh_ref14_Outs : Rbq_ref14_Outs.holds Tryz.prog RbG 49 :=
  nam_of_det (detP Rbx_ref14_Outs_ok Rbmixed Rbhn_ref14_Outs Rbat_ref14_Outs (F := fun x post => Fx_ref14_Outs 2 x.1 x.2.1 x.2.2.1 post) (fun x post => Rbeq_ref14_Outs x.1 x.2.1 x.2.2.1 post) fun x h w => Lx_ref14_Outs 2 x.1 x.2.1 x.2.2.1 h w)
end Go.Lift

set_option linter.unusedVariables false
set_option linter.unusedSimpArgs false
namespace Go.Lift
open Go.Proofs
def Rbx_tracer_good : Cx := ⟨tabOf Rbtab, conOf [(31, Rbq_grid_Grid_Cells), (55, Rbq_grid_Grid_Edges)], RbG⟩
theorem Rbx_tracer_good_ok : CxOk Tryz.prog Rbx_tracer_good := ⟨tabB_sound Rbtab_ok, conOf_sound ⟨Rbh_grid_Grid_Cells, Rbh_grid_Grid_Edges, trivial⟩⟩
theorem Rbat_tracer_good : FnAt Tryz.prog 52 Tryz.f52.ntmps Tryz.f52.results.toList (Tryz.f52.body.getD .skip) := ⟨Tryz.f52, Tryz.func52, rfl, rfl, by simp, by decide⟩
theorem Rbeq_tracer_good (g : Option (Int × (List (Int × Int × Int × Int)) × (List ((Int × Int) × Int)) × (List (List Int)) × (List Int) × (List Nat) × List Nat)) (s : List Int) (t : List Int) (f : List Int) (post : Bool × Unit → Prop) : fnEvalI Rbx_tracer_good Rbhn_tracer_good (callLvl Rbx_tracer_good Rbfns_cont 6) Tryz.f52.ntmps Tryz.f52.results.toList (Tryz.f52.body.getD .skip) [.ptr kGrid, .slice (.int .i64), .slice (.int .i64), .slice (.int .i64)] [.snap .bool] (g, s, t, f, ()) post = Fx_tracer_good  g s t f post := by kernel_rfl
theorem Rbh_tracer_good : Rbq_tracer_good.holds Tryz.prog RbG 52 :=
  detPI Rbx_tracer_good_ok Rbmixed Rbhn_tracer_good (callLvl_ok Rbx_tracer_good_ok Rbmixed Rbfns_cont_ok 6) Rbat_tracer_good (F := fun x post => Fx_tracer_good  x.1 x.2.1 x.2.2.1 x.2.2.2.1 post) (fun x post => Rbeq_tracer_good x.1 x.2.1 x.2.2.1 x.2.2.2.1 post) fun x h w => Lx_tracer_good  x.1 x.2.1 x.2.2.1 x.2.2.2.1 h w
def Rbx_tracer_Flows : Cx := ⟨tabOf Rbtab, conOf [(52, Rbq_tracer_good), (46, Rbq_grid_Grid_Around), (51, Rbq_tracer_Takes)], RbG⟩
theorem Rbx_tracer_Flows_ok : CxOk Tryz.prog Rbx_tracer_Flows := ⟨tabB_sound Rbtab_ok, conOf_sound ⟨Rbh_tracer_good, Rbh_grid_Grid_Around, Rbh_tracer_Takes, trivial⟩⟩
theorem Rbat_tracer_Flows : FnAt Tryz.prog 19 Tryz.f19.ntmps Tryz.f19.results.toList (Tryz.f19.body.getD .skip) := ⟨Tryz.f19, Tryz.func19, rfl, rfl, by simp, by decide⟩
theorem Rbeq_tracer_Flows (g : Option (Int × (List (Int × Int × Int × Int)) × (List ((Int × Int) × Int)) × (List (List Int)) × (List Int) × (List Nat) × List Nat)) (s : List Int) (t : List Int) (f : List Int) (post : (List Int) × Int × Unit → Prop) : fnEval Rbx_tracer_Flows Rbhn_tracer_Flows Tryz.f19.ntmps Tryz.f19.results.toList (Tryz.f19.body.getD .skip) [.ptr kGrid, .slice (.int .i64), .slice (.int .i64), .slice (.int .i64)] [.own 2 (.int .i64), .snap (.int .i64)] (g, s, t, f, ()) post = Fx_tracer_Flows 2 72 g s t f post := by kernel_rfl
theorem Rbh_tracer_Flows : Rbq_tracer_Flows.holds Tryz.prog RbG 19 :=
  nam_of_det (detP Rbx_tracer_Flows_ok Rbmixed Rbhn_tracer_Flows Rbat_tracer_Flows (F := fun x post => Fx_tracer_Flows 2 72 x.1 x.2.1 x.2.2.1 x.2.2.2.1 post) (fun x post => Rbeq_tracer_Flows x.1 x.2.1 x.2.2.1 x.2.2.2.1 post) fun x h w => Lx_tracer_Flows 2 72 x.1 x.2.1 x.2.2.1 x.2.2.2.1 h w)
def Rbx_ref17_Flows : Cx := ⟨tabOf Rbtab, conOf [(47, Rbq_ref14_Fits), (49, Rbq_ref14_Outs), (53, Rbq_ref17_Takes), (50, Rbq_ref09_Grid_Around)], RbG⟩
theorem Rbx_ref17_Flows_ok : CxOk Tryz.prog Rbx_ref17_Flows := ⟨tabB_sound Rbtab_ok, conOf_sound ⟨Rbh_ref14_Fits, Rbh_ref14_Outs, Rbh_ref17_Takes, Rbh_ref09_Grid_Around, trivial⟩⟩
theorem Rbat_ref17_Flows : FnAt Tryz.prog 20 Tryz.f20.ntmps Tryz.f20.results.toList (Tryz.f20.body.getD .skip) := ⟨Tryz.f20, Tryz.func20, rfl, rfl, by simp, by decide⟩
theorem Rbeq_ref17_Flows (g : Option (Int × (List (Int × Int × Int × Int)) × List Int)) (s : List Int) (t : List Int) (f : List Int) (post : (List Int) × Int × Unit → Prop) : fnEval Rbx_ref17_Flows Rbhn_ref17_Flows Tryz.f20.ntmps Tryz.f20.results.toList (Tryz.f20.body.getD .skip) [.ptr kRGrid, .slice (.int .i64), .slice (.int .i64), .slice (.int .i64)] [.own 2 (.int .i64), .snap (.int .i64)] (g, s, t, f, ()) post = Fx_ref17_Flows 2 g s t f post := by kernel_rfl
theorem Rbh_ref17_Flows : Rbq_ref17_Flows.holds Tryz.prog RbG 20 :=
  nam_of_det (detP Rbx_ref17_Flows_ok Rbmixed Rbhn_ref17_Flows Rbat_ref17_Flows (F := fun x post => Fx_ref17_Flows 2 x.1 x.2.1 x.2.2.1 x.2.2.2.1 post) (fun x post => Rbeq_ref17_Flows x.1 x.2.1 x.2.2.1 x.2.2.2.1 post) fun x h w => Lx_ref17_Flows 2 x.1 x.2.1 x.2.2.1 x.2.2.2.1 h w)
end Go.Lift

set_option linter.unusedVariables false
set_option linter.unusedSimpArgs false
namespace Go.Lift
open Go.Proofs
def Rbx_law17_awake : Cx := ⟨tabOf Rbtab, conOf [(51, Rbq_tracer_Takes), (21, Rbq_law17_same)], RbG⟩
theorem Rbx_law17_awake_ok : CxOk Tryz.prog Rbx_law17_awake := ⟨tabB_sound Rbtab_ok, conOf_sound ⟨Rbh_tracer_Takes, Rbh_law17_same, trivial⟩⟩
theorem Rbat_law17_awake : FnAt Tryz.prog 17 Tryz.f17.ntmps Tryz.f17.results.toList (Tryz.f17.body.getD .skip) := ⟨Tryz.f17, Tryz.func17, rfl, rfl, by simp, by decide⟩
theorem Rbeq_law17_awake  (post : Bool × Unit → Prop) : fnEval Rbx_law17_awake Rbhn_law17_awake Tryz.f17.ntmps Tryz.f17.results.toList (Tryz.f17.body.getD .skip) [] [.snap .bool] (()) post = Fx_law17_awake   post := by kernel_rfl
theorem Rbh_law17_awake : Rbq_law17_awake.holds Tryz.prog RbG 17 :=
  detP Rbx_law17_awake_ok Rbmixed Rbhn_law17_awake Rbat_law17_awake (F := fun x post => Fx_law17_awake   post) (fun x post => Rbeq_law17_awake  post) fun x _ _ => Lx_law17_awake
def Rbx_law17_nets : Cx := ⟨tabOf Rbtab, conOf [(24, Rbq_grid_New), (25, Rbq_ref09_New)], RbG⟩
theorem Rbx_law17_nets_ok : CxOk Tryz.prog Rbx_law17_nets := ⟨tabB_sound Rbtab_ok, conOf_sound ⟨Rbh_grid_New, Rbh_ref09_New, trivial⟩⟩
theorem Rbat_law17_nets : FnAt Tryz.prog 18 Tryz.f18.ntmps Tryz.f18.results.toList (Tryz.f18.body.getD .skip) := ⟨Tryz.f18, Tryz.func18, rfl, rfl, by simp, by decide⟩
theorem Rbeq_law17_nets (n : Int) (post : (Option (Int × (List (Int × Int × Int × Int)) × (List ((Int × Int) × Int)) × (List (List Int)) × (List Int) × (List Nat) × List Nat)) × (Option (Int × (List (Int × Int × Int × Int)) × List Int)) × Unit → Prop) : fnEval Rbx_law17_nets nHn Tryz.f18.ntmps Tryz.f18.results.toList (Tryz.f18.body.getD .skip) [.int .i64] [.snap (.ptr kGrid), .snap (.ptr kRGrid)] (n, ()) post = Fx_law17_nets  n post := by kernel_rfl
theorem Rbh_law17_nets : Rbq_law17_nets.holds Tryz.prog RbG 18 :=
  nam_of_det (detP Rbx_law17_nets_ok Rbmixed nHn Rbat_law17_nets (F := fun x post => Fx_law17_nets  x.1 post) (fun x post => Rbeq_law17_nets x.1 post) fun x h _ => Lx_law17_nets  x.1 h)
def Rbx_law17_TracerFlows : Cx := ⟨tabOf Rbtab, conOf [(17, Rbq_law17_awake), (18, Rbq_law17_nets), (19, Rbq_tracer_Flows), (20, Rbq_ref17_Flows), (21, Rbq_law17_same)], RbG⟩
theorem Rbx_law17_TracerFlows_ok : CxOk Tryz.prog Rbx_law17_TracerFlows := ⟨tabB_sound Rbtab_ok, conOf_sound ⟨Rbh_law17_awake, Rbh_law17_nets, Rbh_tracer_Flows, Rbh_ref17_Flows, Rbh_law17_same, trivial⟩⟩
theorem Rbat_law17_TracerFlows : FnAt Tryz.prog 4 Tryz.f4.ntmps Tryz.f4.results.toList (Tryz.f4.body.getD .skip) := ⟨Tryz.f4, Tryz.func4, rfl, rfl, by simp, by decide⟩
theorem Rbeq_law17_TracerFlows (n : Int) (s : List Int) (t : List Int) (f : List Int) (post : Bool × Unit → Prop) : fnEval Rbx_law17_TracerFlows Rbhn_law17_TracerFlows Tryz.f4.ntmps Tryz.f4.results.toList (Tryz.f4.body.getD .skip) [.int .i64, .slice (.int .i64), .slice (.int .i64), .slice (.int .i64)] [.snap .bool] (n, s, t, f, ()) post = Fx_law17_TracerFlows  n s t f post := by kernel_rfl
theorem Rbh_law17_TracerFlows : Rbq_law17_TracerFlows.holds Tryz.prog RbG 4 :=
  detP Rbx_law17_TracerFlows_ok Rbmixed Rbhn_law17_TracerFlows Rbat_law17_TracerFlows (F := fun x post => Fx_law17_TracerFlows  x.1 x.2.1 x.2.2.1 x.2.2.2.1 post) (fun x post => Rbeq_law17_TracerFlows x.1 x.2.1 x.2.2.1 x.2.2.2.1 post) fun x h w => Lx_law17_TracerFlows  x.1 x.2.1 x.2.2.1 x.2.2.2.1 h w
end Go.Lift

namespace Go.Proofs.YtplhligfkbgllaaGreatDoor
open Go.Lift
theorem tracerFlows_law : LawSpec Rows.tracerFlowsSpec 4 := ⟨rfl, fun H ds h => by
  match ds, h with
  | [d1, d2, d3, d4], _ => rfl⟩
set_option maxRecDepth 100000 in
theorem tracerFlows_lifted (os : Os) (started : os.Started) (H : Type) (enc : TypeId × Value → H) :
    ReturnsInHanded {} Tryz.checked os 4 .any (fun w args => (Rows.tracerFlowsSpec.pre enc Tryz.prog Tryz.f4 [] false w args ∧ laidMetH Tryz.prog laidL w) ∧ sizedMet enc Tryz.prog Tryz.f4 (OpenSpec.ofChange Rows.tracerFlowsSpec) false w args) (Rows.tracerFlowsSpec.post enc Tryz.prog Tryz.f4 false true false false) :=
  law_laid (C := Tryz.checked) (X := fun w _ => laidMetH Tryz.prog laidL w) (fun _ _ _ hh h => h.of_heap hh) (fun w _ h => laid_globs w h) own started (by kernel_rfl) Tryz.func4 rfl (by decide)
    (ChangeSpec.witness_shaped (enc := enc) (C := Tryz.checked) (os := os) (X := fun w _ => laidMetH Tryz.prog laidL w) false (World.doorLaid Tryz.prog 400 os) #[.int .i64 0, .slice none 0 0, .slice none 0 0, .slice none 0 0] 12 rfl (World.shaped_of_RefB (by kernel_rfl) (by kernel_rfl)) (by kernel_rfl) (by kernel_rfl) (by kernel_rfl) (door_met os _))
    laidOut (ktsB_sound _ [.int .i64, .slice (.int .i64), .slice (.int .i64), .slice (.int .i64)] (by kernel_rfl)) (by decide +kernel) rfl (by kernel_rfl) tracerFlows_law Rbh_law17_TracerFlows (fun x h w => ⟨rngI h.1, fun y hy => rngI (h.2.1 y hy), fun y hy => rngI (h.2.2.1 y hy), fun y hy => rngI (h.2.2.2.1 y hy)⟩)
theorem tracerFlows_holds : Rows.TracerFlowsSaid :=
  OpenClaim.holds_of_wide 4 Tryz.f4 rfl rfl rfl rfl rfl rfl rfl ⟨rfl, rfl, rfl, rfl, rfl⟩ rfl rfl rfl rfl rfl (by kernel_rfl) Tryz.func4 (by kernel_rfl)
    (of_decide_eq_true (by kernel_rfl)) (by unfold Func.isWrapper; first | (rw [if_pos (by decide +kernel)]; kernel_rfl) | (rw [if_neg (by decide +kernel)]; exact ⟨rfl, rfl⟩))
    (fun os started H enc _ => tracerFlows_lifted os started H enc)
theorem tracerFlows_card : Rows.TracerFlowsCardSaid :=
  Claim7.holds_tied_plain_at .later [] [.wider, .data] true (true, "78fee6c63abe0f1848884245aa960bf780b6b198ac179e9f617ebec8ad318169") false
    tracerFlows_holds (fun _ h => by cases h) (by kernel_rfl) (fun _ h => by cases h) tracerFlows_row_tie rfl ⟨rfl, rfl⟩ (by kernel_rfl) rfl
    (fun f fn hf hfn => by
      obtain rfl : f = 4 := Option.some.inj ((show Tryz.prog.funcNamed "tarn/tarnlaw17.TracerFlows" = some 4 by kernel_rfl).symm.trans hf) |>.symm
      obtain rfl : fn = Tryz.f4 := (Option.some.inj (Tryz.func4.symm.trans hfn)).symm
      exact ⟨by kernel_rfl, fun j t ht => by
        rw [Tryz.params4] at ht
        have hm : t ∈ [3, 22, 22, 22] := by simpa using Array.mem_of_getElem? ht
        have hall : ([3, 22, 22, 22].all fun u => !Tryz.prog.wantsStandIn u) = true := by kernel_rfl
        exact (show Tryz.prog.wantsStandIn t = false by simpa using List.all_eq_true.1 hall t hm)⟩)
    (by kernel_rfl)
end Go.Proofs.YtplhligfkbgllaaGreatDoor
