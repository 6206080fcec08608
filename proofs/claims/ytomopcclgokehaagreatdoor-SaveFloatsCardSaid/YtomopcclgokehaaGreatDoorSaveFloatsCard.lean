/- tarnlaw25.SaveFloats: at every input it returns true and leaves the arguments as they were; cube.frames and geom.frames read as the program's text lays them. -/
import Derived.Test.YtomopcclgokehaaGreatDoorTie
import Derived.Test.YtomopcclgokehaaGreatDoorCards
import Derived.Test.YtomopcclgokehaaGreatDoorPtE
set_option linter.unusedVariables false
set_option linter.unusedSimpArgs false
set_option linter.unusedSectionVars false
set_option linter.unusedVariables false
set_option linter.unusedSimpArgs false
namespace Go.Lift
def Fx_sum_row := fun (a : List Nat) (post : Nat × Unit → Prop) => ∀ (a_1 : Bool), a_1 = ((↑a.length : Int) == (0 : Int)) → Br a_1 (post ((0 : Nat), ())) (∃ (h : (0 : Int) ≤ (0 :
  Int) ∧ (0 : Int) < (↑a.length : Int)), ∃ (h : (0 : Int) ≤ (1 : Int) ∧ (1 : Int) ≤ (↑a.length : Int) ∧ (↑a.length : Int) ≤ (↑a.length : Int)), HIs [] [] ∧ ∃ (I : Nat × Int × Unit →
  Unit → Prop), ∃ (μ : Nat × Int × Unit → Unit → Nat), I (a.getD (Int.toNat (0 : Int)) (0 : Nat), (0 : Int), ()) () ∧ ∀ (x : Nat × Int × Unit) (y : Unit), I x y → ∀ (a_2 : Bool),
  a_2 = decide (x.snd.fst < (↑(List.take ((↑a.length : Int) - (1 : Int)).toNat (List.drop (Int.toNat (1 : Int)) a)).length : Int)) → Br a_2 (∃ (h : (0 : Int) ≤ x.snd.fst ∧ x.snd.fst
  < (↑(List.take ((↑a.length : Int) - (1 : Int)).toNat (List.drop (Int.toNat (1 : Int)) a)).length : Int)), ∀ (a_3 : Nat), FRes Go.FloatKind.f64 (Go.FloatKind.f64.format.add x.fst
  ((List.take ((↑a.length : Int) - (1 : Int)).toNat (List.drop (Int.toNat (1 : Int)) a)).getD x.snd.fst.toNat (0 : Nat))) a_3 → HIs [] [] ∧ I (a_3, IntKind.i64.wrap (x.snd.fst + (1
  : Int)), ()) () ∧ μ (a_3, IntKind.i64.wrap (x.snd.fst + (1 : Int)), ()) () < μ x y) (∃ (h : True), post ((quietR x.fst).fst, ())))
theorem Lx_sum_row (a : List Nat) (h : WL a) (w : KS.wf [.slice (.flt .f64)] (a, ())) : Fx_sum_row  a (fun r => r = rowR a) := by
  have hl : a.length ≤ maxN := w.1.1
  unfold maxN at hl
  rintro _ rfl
  refine Br.intro (fun e => ?_) fun e => ?_
  · have e : a.length = 0 := by have := eq_of_beq e; omega
    have : a = [] := List.eq_nil_of_length_eq_zero e
    subst this; rfl
  · have e : 0 < a.length := by
      rcases Nat.eq_zero_or_pos a.length with z | z
      · rw [z] at e; cases e
      · exact z
    refine ⟨⟨by omega, by omega⟩, ⟨by omega, by omega, by omega⟩, rfl, fun x _ => ∃ i : Nat, x.2.1 = i ∧ i + 1 ≤ a.length ∧ W64 x.1 ∧ quietF x.1 = rowQ (a.take (i + 1)), fun x _ => a.length - x.2.1.toNat, ⟨0, rfl, by omega, WL_getD h 0, (rowQ_one e).symm⟩, ?_⟩
    have ht : List.take ((a.length : Int) - 1).toNat (List.drop (Int.toNat 1) a) = a.drop 1 := by
      show List.take ((a.length : Int) - 1).toNat (List.drop 1 a) = a.drop 1
      apply List.take_of_length_le; rw [List.length_drop]; omega
    rw [ht]
    have hd : ∀ i, (a.drop 1).getD i 0 = a.getD (i + 1) 0 := by
      intro i; rw [List.getD_eq_getElem?_getD, List.getD_eq_getElem?_getD, List.getElem?_drop, Nat.add_comm]
    rintro ⟨acc, _, ⟨⟩⟩ _ ⟨i, hi, hil, hw, hq⟩
    dsimp only at hi hw hq
    subst hi
    dsimp only
    rintro _ rfl
    refine Br.intro (fun f => ?_) fun f => ?_
    · have f : i + 1 < a.length := by have := of_decide_eq_true f; rw [List.length_drop] at this; omega
      refine ⟨⟨by omega, by rw [List.length_drop]; omega⟩, fun r hr => ?_⟩
      rw [Int.toNat_natCast, hd] at hr
      obtain ⟨q1, q2⟩ := fadd hr
      refine ⟨rfl, ⟨i + 1, ?_, by omega, q2, ?_⟩, ?_⟩
      · rw [wi ⟨by omega, by omega⟩]; omega
      · show quietF r = _
        rw [q1, rowQ_at f (by omega), addQ_congr (x' := rowQ (a.take (i + 1))) (by rw [hq, rowQ_q]) rfl]
      · rw [wi ⟨by omega, by omega⟩]; omega
    · have f : a.length ≤ i + 1 := by have := of_decide_eq_false f; rw [List.length_drop] at this; omega
      refine ⟨trivial, congrArg r1 ?_⟩
      show quietF acc = _
      rw [hq, List.take_of_length_le f]
def Fx_sum_Three := fun (a b c : Nat) (post : Nat × Unit → Prop) => ∃ (h : (List.replicate (3 : Nat) (0 : Nat)).length = (3 : Nat) ∧ (3 : Nat) = (3 : Nat)), ∃ (h : (0 : Int) ≤ (0 :
  Int) ∧ (0 : Int) ≤ (3 : Int) ∧ (3 : Int) ≤ (3 : Int) ∧ (3 : Nat) = (3 : Nat)), ∃ (h : IsThree (3 : Int)), ∃ (h : (0 : Int) ≤ (1 : Int) ∧ (1 : Int) < (3 : Int)), ∃ (h : (0 : Int) ≤
  (0 : Int) ∧ (0 : Int) < (3 : Int)), ∃ (h : W2 b a), Br (decide ((cmpMR b a).fst < (0 : Int))) (∃ (h : (0 : Int) ≤ (0 : Int) ∧ (0 : Int) < (3 : Int)), ∃ (h : (0 : Int) ≤ (1 : Int)
  ∧ (1 : Int) < (3 : Int)), ∃ (h : (0 : Int) ≤ (1 : Int) ∧ (1 : Int) < (3 : Int)), ∃ (h : (0 : Int) ≤ (0 : Int) ∧ (0 : Int) < (3 : Int)), ∃ (h : (0 : Int) ≤ (2 : Int) ∧ (2 : Int) <
  (3 : Int)), ∃ (h : (0 : Int) ≤ (1 : Int) ∧ (1 : Int) < (3 : Int)), ∃ (h : W2 c a), Br (decide ((cmpMR c a).fst < (0 : Int))) (∃ (h : (0 : Int) ≤ (1 : Int) ∧ (1 : Int) < (3 :
  Int)), ∃ (h : (0 : Int) ≤ (2 : Int) ∧ (2 : Int) < (3 : Int)), ∃ (h : (0 : Int) ≤ (2 : Int) ∧ (2 : Int) < (3 : Int)), ∃ (h : (0 : Int) ≤ (1 : Int) ∧ (1 : Int) < (3 : Int)), ∃ (h :
  (0 : Int) ≤ (1 : Int) ∧ (1 : Int) < (3 : Int)), ∃ (h : (0 : Int) ≤ (0 : Int) ∧ (0 : Int) < (3 : Int)), ∃ (h : W2 c b), Br (decide ((cmpMR c b).fst < (0 : Int))) (∃ (h : (0 : Int)
  ≤ (0 : Int) ∧ (0 : Int) < (3 : Int)), ∃ (h : (0 : Int) ≤ (1 : Int) ∧ (1 : Int) < (3 : Int)), ∃ (h : (0 : Int) ≤ (1 : Int) ∧ (1 : Int) < (3 : Int)), ∃ (h : (0 : Int) ≤ (0 : Int) ∧
  (0 : Int) < (3 : Int)), ∃ (h : (0 : Int) ≤ (0 : Int) ∧ (0 : Int) ≤ (3 : Int) ∧ (3 : Int) ≤ (3 : Int) ∧ (3 : Nat) = [c, b, a].length), ∃ (h : WL [c, b, a]), post ((rowR [c, b,
  a]).fst, ())) (∃ (h : (0 : Int) ≤ (0 : Int) ∧ (0 : Int) ≤ (3 : Int) ∧ (3 : Int) ≤ (3 : Int) ∧ (3 : Nat) = [b, c, a].length), ∃ (h : WL [b, c, a]), post ((rowR [b, c, a]).fst,
  ()))) (∃ (h : (0 : Int) ≤ (0 : Int) ∧ (0 : Int) ≤ (3 : Int) ∧ (3 : Int) ≤ (3 : Int) ∧ (3 : Nat) = [b, a, c].length), ∃ (h : WL [b, a, c]), post ((rowR [b, a, c]).fst, ()))) (∃ (h
  : (0 : Int) ≤ (2 : Int) ∧ (2 : Int) < (3 : Int)), ∃ (h : (0 : Int) ≤ (1 : Int) ∧ (1 : Int) < (3 : Int)), ∃ (h : W2 c b), Br (decide ((cmpMR c b).fst < (0 : Int))) (∃ (h : (0 :
  Int) ≤ (1 : Int) ∧ (1 : Int) < (3 : Int)), ∃ (h : (0 : Int) ≤ (2 : Int) ∧ (2 : Int) < (3 : Int)), ∃ (h : (0 : Int) ≤ (2 : Int) ∧ (2 : Int) < (3 : Int)), ∃ (h : (0 : Int) ≤ (1 :
  Int) ∧ (1 : Int) < (3 : Int)), ∃ (h : (0 : Int) ≤ (1 : Int) ∧ (1 : Int) < (3 : Int)), ∃ (h : (0 : Int) ≤ (0 : Int) ∧ (0 : Int) < (3 : Int)), ∃ (h : W2 c a), Br (decide ((cmpMR c
  a).fst < (0 : Int))) (∃ (h : (0 : Int) ≤ (0 : Int) ∧ (0 : Int) < (3 : Int)), ∃ (h : (0 : Int) ≤ (1 : Int) ∧ (1 : Int) < (3 : Int)), ∃ (h : (0 : Int) ≤ (1 : Int) ∧ (1 : Int) < (3 :
  Int)), ∃ (h : (0 : Int) ≤ (0 : Int) ∧ (0 : Int) < (3 : Int)), ∃ (h : (0 : Int) ≤ (0 : Int) ∧ (0 : Int) ≤ (3 : Int) ∧ (3 : Int) ≤ (3 : Int) ∧ (3 : Nat) = [c, a, b].length), ∃ (h :
  WL [c, a, b]), post ((rowR [c, a, b]).fst, ())) (∃ (h : (0 : Int) ≤ (0 : Int) ∧ (0 : Int) ≤ (3 : Int) ∧ (3 : Int) ≤ (3 : Int) ∧ (3 : Nat) = [a, c, b].length), ∃ (h : WL [a, c,
  b]), post ((rowR [a, c, b]).fst, ()))) (∃ (h : (0 : Int) ≤ (0 : Int) ∧ (0 : Int) ≤ (3 : Int) ∧ (3 : Int) ≤ (3 : Int) ∧ (3 : Nat) = (3 : Nat)), ∃ (h : WL [a, b, c]), post ((rowR
  [a, b, c]).fst, ())))
theorem Lx_sum_Three (a : Nat) (b : Nat) (c : Nat) (h : W3 a b c) : Fx_sum_Three  a b c (fun r => r = threeR a b c) := by
  obtain ⟨ha, hb, hc⟩ := h
  have leaf : ∀ l, sort3 a b c = l → ((rowR l).fst, ()) = threeR a b c := by rintro _ rfl; rfl
  refine ⟨⟨rfl, rfl⟩, ⟨by decide, by decide, by decide, rfl⟩, rfl, by decide, by decide, ⟨hb, ha⟩, Br.intro (fun e => ⟨by decide, by decide, by decide, by decide, by decide, by decide, ⟨hc, ha⟩, Br.intro (fun f => ⟨by decide, by decide, by decide, by decide, by decide, by decide, ⟨hc, hb⟩, Br.intro (fun g => ⟨by decide, by decide, by decide, by decide, ⟨by decide, by decide, by decide, rfl⟩, WL3 hc hb ha, leaf _ ?_⟩) fun g => ⟨⟨by decide, by decide, by decide, rfl⟩, WL3 hb hc ha, leaf _ ?_⟩⟩) fun f => ⟨⟨by decide, by decide, by decide, rfl⟩, WL3 hb ha hc, leaf _ ?_⟩⟩) fun e => ⟨by decide, by decide, ⟨hc, hb⟩, Br.intro (fun f => ⟨by decide, by decide, by decide, by decide, by decide, by decide, ⟨hc, ha⟩, Br.intro (fun g => ⟨by decide, by decide, by decide, by decide, ⟨by decide, by decide, by decide, rfl⟩, WL3 hc ha hb, leaf _ ?_⟩) fun g => ⟨⟨by decide, by decide, by decide, rfl⟩, WL3 ha hc hb, leaf _ ?_⟩⟩) fun f => ⟨⟨by decide, by decide, by decide, rfl⟩, WL3 ha hb hc, leaf _ ?_⟩⟩⟩
  · have e : ltM b a = true := e
    have f : ltM c a = true := f
    have g : ltM c b = true := g
    unfold sort3; rw [e, f, g]; rfl
  · have e : ltM b a = true := e
    have f : ltM c a = true := f
    have g : ltM c b = false := g
    unfold sort3; rw [e, f, g]; rfl
  · have e : ltM b a = true := e
    have f : ltM c a = false := f
    unfold sort3; rw [e, f]; rfl
  · have e : ltM b a = false := e
    have f : ltM c b = true := f
    have g : ltM c a = true := g
    unfold sort3; rw [e, f, g]; rfl
  · have e : ltM b a = false := e
    have f : ltM c b = true := f
    have g : ltM c a = false := g
    unfold sort3; rw [e, f, g]; rfl
  · have e : ltM b a = false := e
    have f : ltM c b = false := f
    unfold sort3; rw [e, f]; rfl
end Go.Lift

set_option linter.unusedVariables false
set_option linter.unusedSimpArgs false
namespace Go.Lift
open Go.Proofs
def Nx_sum_row : Cx := ⟨tabOf Ntab, conOf [(158, Nq_sum_quiet)], NG⟩
theorem Nx_sum_row_ok : CxOk Tryz.prog Nx_sum_row := ⟨tabB_sound Ntab_ok, conOf_sound ⟨Nh_sum_quiet, trivial⟩⟩
theorem Nat_sum_row : FnAt Tryz.prog 142 Tryz.f142.ntmps Tryz.f142.results.toList (Tryz.f142.body.getD .skip) := ⟨Tryz.f142, Tryz.func142, rfl, rfl, by simp, by decide⟩
theorem Neq_sum_row (a : List Nat) (post : Nat × Unit → Prop) : fnEval Nx_sum_row Nhn_sum_row Tryz.f142.ntmps Tryz.f142.results.toList (Tryz.f142.body.getD .skip) [.slice (.flt .f64)] [.snap (.flt .f64)] (a, ()) post = Fx_sum_row  a post := by kernel_rfl
theorem Nh_sum_row : Nq_sum_row.holds Tryz.prog NG 142 :=
  detP Nx_sum_row_ok Nmixed Nhn_sum_row Nat_sum_row (F := fun x post => Fx_sum_row  x.1 post) (fun x post => Neq_sum_row x.1 post) fun x h w => Lx_sum_row  x.1 h w
def Nx_mbits_Len64 : Cx := ⟨tabOf Ntab, fun _ => none, NG⟩
theorem Nx_mbits_Len64_ok : CxOk Tryz.prog Nx_mbits_Len64 := ⟨tabB_sound Ntab_ok, fun f c h => by cases h⟩
theorem Nat_mbits_Len64 : FnAt Tryz.prog 175 Tryz.f175.ntmps Tryz.f175.results.toList (Tryz.f175.body.getD .skip) := ⟨Tryz.f175, Tryz.func175, rfl, rfl, by simp, by decide⟩
theorem Neq_mbits_Len64 (post : Int × Unit → Prop) : fnEval Nx_mbits_Len64 noHn Tryz.f175.ntmps Tryz.f175.results.toList (Tryz.f175.body.getD .skip) [.int .u64] [.snap (.int .i64)] ((3 : Int), ()) post = (∃ (h : (0 : Int) ≤ (3 : Int) ∧ (3 : Int) < (256 : Int)), post ((2 : Int), ())) := by kernel_rfl
theorem Nh_mbits_Len64 : Nq_mbits_Len64.holds Tryz.prog NG 175 := by
  refine det_holds Nx_mbits_Len64_ok Nmixed noHn Nat_mbits_Len64 ?_
  rintro ⟨a, ⟨⟩⟩ h
  have h : a = (3 : Int) := h
  subst h
  exact (Neq_mbits_Len64 _).mpr ⟨by decide, rfl⟩
def Nx_mbits_Len : Cx := ⟨tabOf Ntab, conOf [(175, Nq_mbits_Len64)], NG⟩
theorem Nx_mbits_Len_ok : CxOk Tryz.prog Nx_mbits_Len := ⟨tabB_sound Ntab_ok, conOf_sound ⟨Nh_mbits_Len64, trivial⟩⟩
theorem Nat_mbits_Len : FnAt Tryz.prog 155 Tryz.f155.ntmps Tryz.f155.results.toList (Tryz.f155.body.getD .skip) := ⟨Tryz.f155, Tryz.func155, rfl, rfl, by simp, by decide⟩
theorem Neq_mbits_Len (post : Int × Unit → Prop) : fnEval Nx_mbits_Len noHn Tryz.f155.ntmps Tryz.f155.results.toList (Tryz.f155.body.getD .skip) [.int .u64] [.snap (.int .i64)] ((3 : Int), ()) post = (∃ (h : IsThree 3), post ((2 : Int), ())) := by kernel_rfl
theorem Nh_mbits_Len : Nq_mbits_Len.holds Tryz.prog NG 155 := by
  refine det_holds Nx_mbits_Len_ok Nmixed noHn Nat_mbits_Len ?_
  rintro ⟨a, ⟨⟩⟩ h
  have h : a = (3 : Int) := h
  subst h
  exact (Neq_mbits_Len _).mpr ⟨rfl, rfl⟩
def Nx_sum_Three : Cx := ⟨tabOf Ntab, conOf [(137, Nq_sum_Three_c1), (142, Nq_sum_row), (155, Nq_mbits_Len)], NG⟩
theorem Nx_sum_Three_ok : CxOk Tryz.prog Nx_sum_Three := ⟨tabB_sound Ntab_ok, conOf_sound ⟨Nh_sum_Three_c1, Nh_sum_row, Nh_mbits_Len, trivial⟩⟩
theorem Nat_sum_Three : FnAt Tryz.prog 107 Tryz.f107.ntmps Tryz.f107.results.toList (Tryz.f107.body.getD .skip) := ⟨Tryz.f107, Tryz.func107, rfl, rfl, by simp, by decide⟩
theorem Neq_sum_Three (a : Nat) (b : Nat) (c : Nat) (post : Nat × Unit → Prop) : fnEvalI Nx_sum_Three Nhn_sum_Three (callLvl Nx_sum_Three Nfns_sort3 5) Tryz.f107.ntmps Tryz.f107.results.toList (Tryz.f107.body.getD .skip) [.flt .f64, .flt .f64, .flt .f64] [.snap (.flt .f64)] (a, b, c, ()) post = Fx_sum_Three  a b c post := by kernel_rfl
theorem Nh_sum_Three : Nq_sum_Three.holds Tryz.prog NG 107 :=
  detPI Nx_sum_Three_ok Nmixed Nhn_sum_Three (callLvl_ok Nx_sum_Three_ok Nmixed Nfns_sort3_ok 5) Nat_sum_Three (F := fun x post => Fx_sum_Three  x.1 x.2.1 x.2.2.1 post) (fun x post => Neq_sum_Three x.1 x.2.1 x.2.2.1 post) fun x h _ => Lx_sum_Three  x.1 x.2.1 x.2.2.1 h
end Go.Lift

set_option linter.unusedVariables false
set_option linter.unusedSimpArgs false
namespace Go.Lift
open Go.Proofs
def Nx_vec_canon : Cx := ⟨tabOf Ntab, conOf [(105, Nq_bits_Canon)], NG⟩
theorem Nx_vec_canon_ok : CxOk Tryz.prog Nx_vec_canon := ⟨tabB_sound Ntab_ok, conOf_sound ⟨Nh_bits_Canon, trivial⟩⟩
theorem Nat_vec_canon : FnAt Tryz.prog 108 Tryz.f108.ntmps Tryz.f108.results.toList (Tryz.f108.body.getD .skip) := ⟨Tryz.f108, Tryz.func108, rfl, rfl, by simp, by decide⟩
theorem Neq_vec_canon (a : Nat) (b : Nat) (c : Nat) (post : (Nat × Nat × Nat) × Unit → Prop) : fnEval Nx_vec_canon nHn Tryz.f108.ntmps Tryz.f108.results.toList (Tryz.f108.body.getD .skip) [.flt .f64, .flt .f64, .flt .f64] [.snap kVec] (a, b, c, ()) post = Fx_vec_canon  a b c post := by kernel_rfl
theorem Nh_vec_canon : Nq_vec_canon.holds Tryz.prog NG 108 :=
  detP Nx_vec_canon_ok Nmixed nHn Nat_vec_canon (F := fun x post => Fx_vec_canon  x.1 x.2.1 x.2.2.1 post) (fun x post => Neq_vec_canon x.1 x.2.1 x.2.2.1 post) fun x _ _ => Lx_vec_canon  x.1 x.2.1 x.2.2.1
def Nx_vec_Minus : Cx := ⟨tabOf Ntab, conOf [(108, Nq_vec_canon)], NG⟩
theorem Nx_vec_Minus_ok : CxOk Tryz.prog Nx_vec_Minus := ⟨tabB_sound Ntab_ok, conOf_sound ⟨Nh_vec_canon, trivial⟩⟩
theorem Nat_vec_Minus : FnAt Tryz.prog 73 Tryz.f73.ntmps Tryz.f73.results.toList (Tryz.f73.body.getD .skip) := ⟨Tryz.f73, Tryz.func73, rfl, rfl, by simp, by decide⟩
theorem Neq_vec_Minus (a : Nat × Nat × Nat) (b : Nat × Nat × Nat) (post : (Nat × Nat × Nat) × Unit → Prop) : fnEval Nx_vec_Minus nHn Tryz.f73.ntmps Tryz.f73.results.toList (Tryz.f73.body.getD .skip) [kVec, kVec] [.snap kVec] (a, b, ()) post = Fx_vec_Minus  a b post := by kernel_rfl
theorem Nh_vec_Minus : Nq_vec_Minus.holds Tryz.prog NG 73 :=
  detP Nx_vec_Minus_ok Nmixed nHn Nat_vec_Minus (F := fun x post => Fx_vec_Minus  x.1 x.2.1 post) (fun x post => Neq_vec_Minus x.1 x.2.1 post) fun x h _ => Lx_vec_Minus  x.1 x.2.1 h
def Nx_vec_Cross : Cx := ⟨tabOf Ntab, conOf [(108, Nq_vec_canon)], NG⟩
theorem Nx_vec_Cross_ok : CxOk Tryz.prog Nx_vec_Cross := ⟨tabB_sound Ntab_ok, conOf_sound ⟨Nh_vec_canon, trivial⟩⟩
theorem Nat_vec_Cross : FnAt Tryz.prog 72 Tryz.f72.ntmps Tryz.f72.results.toList (Tryz.f72.body.getD .skip) := ⟨Tryz.f72, Tryz.func72, rfl, rfl, by simp, by decide⟩
theorem Neq_vec_Cross (a : Nat × Nat × Nat) (b : Nat × Nat × Nat) (post : (Nat × Nat × Nat) × Unit → Prop) : fnEval Nx_vec_Cross nHn Tryz.f72.ntmps Tryz.f72.results.toList (Tryz.f72.body.getD .skip) [kVec, kVec] [.snap kVec] (a, b, ()) post = Fx_vec_Cross  a b post := by kernel_rfl
theorem Nh_vec_Cross : Nq_vec_Cross.holds Tryz.prog NG 72 :=
  detP Nx_vec_Cross_ok Nmixed nHn Nat_vec_Cross (F := fun x post => Fx_vec_Cross  x.1 x.2.1 post) (fun x post => Neq_vec_Cross x.1 x.2.1 post) fun x _ _ => Lx_vec_Cross  x.1 x.2.1
def Nx_math_Sqrt : Cx := ⟨tabOf Ntab, conOf [(135, Nq_math_sqrt)], NG⟩
theorem Nx_math_Sqrt_ok : CxOk Tryz.prog Nx_math_Sqrt := ⟨tabB_sound Ntab_ok, conOf_sound ⟨Nh_math_sqrt, trivial⟩⟩
theorem Nat_math_Sqrt : FnAt Tryz.prog 106 Tryz.f106.ntmps Tryz.f106.results.toList (Tryz.f106.body.getD .skip) := ⟨Tryz.f106, Tryz.func106, rfl, rfl, by simp, by decide⟩
theorem Neq_math_Sqrt (a : Nat) (post : Nat × Unit → Prop) : fnEval Nx_math_Sqrt nHn Tryz.f106.ntmps Tryz.f106.results.toList (Tryz.f106.body.getD .skip) [.flt .f64] [.snap (.flt .f64)] (a, ()) post = Fx_math_Sqrt  a post := by kernel_rfl
theorem Nh_math_Sqrt : Nq_math_Sqrt.holds Tryz.prog NG 106 :=
  relP Nx_math_Sqrt_ok Nmixed nHn Nat_math_Sqrt (F := fun x post => Fx_math_Sqrt  x.1 post) (fun x post => Neq_math_Sqrt x.1 post) fun x _ _ => Lx_math_Sqrt  x.1
def Nx_vec_Length : Cx := ⟨tabOf Ntab, conOf [(107, Nq_sum_Three), (106, Nq_math_Sqrt), (105, Nq_bits_Canon)], NG⟩
theorem Nx_vec_Length_ok : CxOk Tryz.prog Nx_vec_Length := ⟨tabB_sound Ntab_ok, conOf_sound ⟨Nh_sum_Three, Nh_math_Sqrt, Nh_bits_Canon, trivial⟩⟩
theorem Nat_vec_Length : FnAt Tryz.prog 71 Tryz.f71.ntmps Tryz.f71.results.toList (Tryz.f71.body.getD .skip) := ⟨Tryz.f71, Tryz.func71, rfl, rfl, by simp, by decide⟩
theorem Neq_vec_Length (a : Nat × Nat × Nat) (post : Nat × Unit → Prop) : fnEval Nx_vec_Length nHn Tryz.f71.ntmps Tryz.f71.results.toList (Tryz.f71.body.getD .skip) [kVec] [.snap (.flt .f64)] (a, ()) post = Fx_vec_Length  a post := by kernel_rfl
theorem Nh_vec_Length : Nq_vec_Length.holds Tryz.prog NG 71 :=
  detP Nx_vec_Length_ok Nmixed nHn Nat_vec_Length (F := fun x post => Fx_vec_Length  x.1 post) (fun x post => Neq_vec_Length x.1 post) fun x h _ => Lx_vec_Length  x.1 h
def Nx_vec_Gap : Cx := ⟨tabOf Ntab, conOf [(73, Nq_vec_Minus), (71, Nq_vec_Length)], NG⟩
theorem Nx_vec_Gap_ok : CxOk Tryz.prog Nx_vec_Gap := ⟨tabB_sound Ntab_ok, conOf_sound ⟨Nh_vec_Minus, Nh_vec_Length, trivial⟩⟩
theorem Nat_vec_Gap : FnAt Tryz.prog 130 Tryz.f130.ntmps Tryz.f130.results.toList (Tryz.f130.body.getD .skip) := ⟨Tryz.f130, Tryz.func130, rfl, rfl, by simp, by decide⟩
theorem Neq_vec_Gap (a : Nat × Nat × Nat) (b : Nat × Nat × Nat) (post : Nat × Unit → Prop) : fnEval Nx_vec_Gap nHn Tryz.f130.ntmps Tryz.f130.results.toList (Tryz.f130.body.getD .skip) [kVec, kVec] [.snap (.flt .f64)] (a, b, ()) post = Fx_vec_Gap  a b post := by kernel_rfl
theorem Nh_vec_Gap : Nq_vec_Gap.holds Tryz.prog NG 130 :=
  detP Nx_vec_Gap_ok Nmixed nHn Nat_vec_Gap (F := fun x post => Fx_vec_Gap  x.1 x.2.1 post) (fun x post => Neq_vec_Gap x.1 x.2.1 post) fun x h _ => Lx_vec_Gap  x.1 x.2.1 h
def Nx_vec_Unit : Cx := ⟨tabOf Ntab, conOf [(71, Nq_vec_Length), (165, Nq_math_IsInf), (108, Nq_vec_canon)], NG⟩
theorem Nx_vec_Unit_ok : CxOk Tryz.prog Nx_vec_Unit := ⟨tabB_sound Ntab_ok, conOf_sound ⟨Nh_vec_Length, Nh_math_IsInf, Nh_vec_canon, trivial⟩⟩
theorem Nat_vec_Unit : FnAt Tryz.prog 153 Tryz.f153.ntmps Tryz.f153.results.toList (Tryz.f153.body.getD .skip) := ⟨Tryz.f153, Tryz.func153, rfl, rfl, by simp, by decide⟩
theorem Neq_vec_Unit (a : Nat × Nat × Nat) (post : (Nat × Nat × Nat) × Unit → Prop) : fnEval Nx_vec_Unit nHn Tryz.f153.ntmps Tryz.f153.results.toList (Tryz.f153.body.getD .skip) [kVec] [.snap kVec] (a, ()) post = Fx_vec_Unit  a post := by kernel_rfl
theorem Nh_vec_Unit : Nq_vec_Unit.holds Tryz.prog NG 153 :=
  detP Nx_vec_Unit_ok Nmixed nHn Nat_vec_Unit (F := fun x post => Fx_vec_Unit  x.1 post) (fun x post => Neq_vec_Unit x.1 post) fun x h _ => Lx_vec_Unit  x.1 h
end Go.Lift

set_option linter.unusedVariables false
set_option linter.unusedSimpArgs false
namespace Go.Lift
def Fx_math_Floor := fun (a : Nat) (post : Nat × Unit → Prop) => ∃ (h : WNum a), post ((floorR a).fst, ())
theorem Lx_math_Floor (a : Nat) (h : WNum a) : Fx_math_Floor  a (fun r => r = floorR a) := by
  exact ⟨h, rfl⟩
def Fx_conv_near := fun (a : Nat) (post : Int × Unit → Prop) => ∃ (h : WNum a), ∀ (a_1 : Int), F2I Go.FloatKind.f64 (floorR a).fst IntKind.u64 a_1 → ∀ (a_2 : Nat), FRes
  Go.FloatKind.f64 (Go.FloatKind.f64.format.sub a (floorR a).fst) a_2 → ∀ (a : Bool), a = fcmp Go.BinOp.gtr (Go.FloatKind.f64.format.order a_2 (4602678819172646912 : Nat)) → Br a
  (post (IntKind.u64.wrap (a_1 + (1 : Int)), ())) (∀ (a : Bool), a = fcmp Go.BinOp.eql (Go.FloatKind.f64.format.order a_2 (4602678819172646912 : Nat)) → Br a (∃ (h : (2 : Int) ≠ (0
  : Int)), ∀ (a : Bool), a = (a_1.tmod (2 : Int) == (1 : Int)) → Br a (post (IntKind.u64.wrap (a_1 + (1 : Int)), ())) (post (a_1, ()))) (post (a_1, ())))
theorem Lx_conv_near (a : Nat) (h : WNear a) : Fx_conv_near  a (fun r => r = nearR a) := by
  have hw : W64 a := by unfold WNear two63 at h; unfold W64; omega
  have hn : isN a = false := by
    have := (small_sgn (r := a) (by unfold WNear two63 at h; omega)).2.1
    unfold isN; rw [this, decide_eq_false_iff_not]; unfold WNear two63 at h; unfold infR; omega
  refine ⟨⟨hw, hn⟩, ?_⟩
  intro n hn2
  have hn2 := floor_int h hn2
  subst hn2
  intro d hd
  have hd : ∀ z, Ieee.double.order d z = Ieee.double.order (subQ a (floorF a)) z := sub_congr_order hd
  obtain ⟨_, r1', r2'⟩ := whole_rng h
  have hwp : IntKind.u64.wrap (wholeI (floorF a) + 1) = wholeI (floorF a) + 1 := wu1 ⟨by omega, by omega⟩
  have tm : (wholeI (floorF a)).tmod 2 = wholeI (floorF a) % 2 := Int.tmod_eq_emod_of_nonneg r1'
  rintro _ rfl
  refine Br.intro (fun e => ?_) fun e => ?_
  · rw [show Go.FloatKind.f64.format.order d 4602678819172646912 = _ from hd _] at e
    exact congrArg r1 (by rw [hwp]; unfold nearI; rw [if_pos (by rw [show fcmp .gtr (Ieee.double.order (subQ a (floorF a)) halfR) = true from e]; rfl)])
  · rw [show Go.FloatKind.f64.format.order d 4602678819172646912 = _ from hd _] at e
    rintro _ rfl
    refine Br.intro (fun f => ?_) fun f => ?_
    · rw [show Go.FloatKind.f64.format.order d 4602678819172646912 = _ from hd _] at f
      refine ⟨by decide, ?_⟩
      rintro _ rfl
      refine Br.intro (fun g => ?_) fun g => ?_
      · rw [tm] at g
        exact congrArg r1 (by rw [hwp]; unfold nearI; rw [if_pos (by rw [show fcmp .eql (Ieee.double.order (subQ a (floorF a)) halfR) = true from f, g, Bool.true_and, Bool.or_true])])
      · rw [tm] at g
        exact congrArg r1 (by unfold nearI; rw [if_neg (by rw [show fcmp .gtr (Ieee.double.order (subQ a (floorF a)) halfR) = false from e, g, Bool.and_false]; decide)])
    · rw [show Go.FloatKind.f64.format.order d 4602678819172646912 = _ from hd _] at f
      exact congrArg r1 (by unfold nearI; rw [if_neg (by rw [show fcmp .gtr (Ieee.double.order (subQ a (floorF a)) halfR) = false from e, show fcmp .eql (Ieee.double.order (subQ a (floorF a)) halfR) = false from f, Bool.false_and]; decide)])
def Fx_conv_Round := fun (a : Nat) (post : Int × Bool × Unit → Prop) => ∃ (h : W64 a), ∀ (a_1 : Bool), a_1 = fcmp Go.BinOp.lss (Go.FloatKind.f64.format.order (absR a).fst
  (4890909195324358656 : Nat)) → Br a_1 (∃ (h : WNear (absR a).fst), ∀ (a_2 : Bool), a_2 = fcmp Go.BinOp.lss (Go.FloatKind.f64.format.order a (0 : Nat)) → Br a_2 (post
  (IntKind.i64.wrap ((0 : Int) - IntKind.i64.wrap (nearR (absR a).fst).fst), Bool.true, ())) (post (IntKind.i64.wrap (nearR (absR a).fst).fst, Bool.true, ()))) (∀ (a_2 : Bool), a_2
  = fcmp Go.BinOp.eql (Go.FloatKind.f64.format.order a (14114281232179134464 : Nat)) → Br a_2 (post ((-9223372036854775808 : Int), Bool.true, ())) (post ((0 : Int), Bool.false,
  ())))
theorem Lx_conv_Round (a : Nat) (h : W64 a) : Fx_conv_Round  a (fun r => r = roundR a) := by
  refine ⟨h, ?_⟩
  rintro _ rfl
  refine Br.intro (fun e => ?_) fun e => ?_
  · have e : fcmp .lss (Ieee.double.order (rungOf a) two63) = true := e
    rw [lss_rung] at e
    have e := of_decide_eq_true e
    have hn : isN a = false := by unfold isN; rw [decide_eq_false_iff_not]; unfold two63 at e; unfold infR; omega
    refine ⟨e, ?_⟩
    rintro _ rfl
    refine Br.intro (fun f => ?_) fun f => ?_
    · rw [show fcmp .lss (Go.FloatKind.f64.format.order a 0) = _ from lss_nought hn] at f
      unfold roundR roundI; rw [if_pos e, if_pos f]; rfl
    · rw [show fcmp .lss (Go.FloatKind.f64.format.order a 0) = _ from lss_nought hn] at f
      unfold roundR roundI; rw [if_pos e, if_neg (by rw [f]; decide)]; rfl
  · have e : fcmp .lss (Ieee.double.order (rungOf a) two63) = false := e
    rw [lss_rung] at e
    have e := of_decide_eq_false e
    rintro _ rfl
    refine Br.intro (fun f => ?_) fun f => ?_
    · rw [show fcmp .eql (Go.FloatKind.f64.format.order a 14114281232179134464) = _ from eql_min h] at f
      unfold roundR roundI; rw [if_neg e, if_pos (show a = two63 + 9223372036854775808 from of_decide_eq_true f)]
    · rw [show fcmp .eql (Go.FloatKind.f64.format.order a 14114281232179134464) = _ from eql_min h] at f
      unfold roundR roundI; rw [if_neg e, if_neg (show ¬ a = two63 + 9223372036854775808 from of_decide_eq_false f)]
end Go.Lift

set_option linter.unusedVariables false
set_option linter.unusedSimpArgs false
namespace Go.Lift
open Go.Proofs
theorem Nh_math_archFloor : Nq_math_archFloor.holds Tryz.prog NG 159 := by
  refine ext_floor (fn := Tryz.f159) Tryz.func159 (by decide) rfl rfl (by kernel_rfl)
def Nx_math_Floor : Cx := ⟨tabOf Ntab, conOf [(159, Nq_math_archFloor)], NG⟩
theorem Nx_math_Floor_ok : CxOk Tryz.prog Nx_math_Floor := ⟨tabB_sound Ntab_ok, conOf_sound ⟨Nh_math_archFloor, trivial⟩⟩
theorem Nat_math_Floor : FnAt Tryz.prog 143 Tryz.f143.ntmps Tryz.f143.results.toList (Tryz.f143.body.getD .skip) := ⟨Tryz.f143, Tryz.func143, rfl, rfl, by simp, by decide⟩
theorem Neq_math_Floor (a : Nat) (post : Nat × Unit → Prop) : fnEval Nx_math_Floor nHn Tryz.f143.ntmps Tryz.f143.results.toList (Tryz.f143.body.getD .skip) [.flt .f64] [.snap (.flt .f64)] (a, ()) post = Fx_math_Floor  a post := by kernel_rfl
theorem Nh_math_Floor : Nq_math_Floor.holds Tryz.prog NG 143 :=
  detP Nx_math_Floor_ok Nmixed nHn Nat_math_Floor (F := fun x post => Fx_math_Floor  x.1 post) (fun x post => Neq_math_Floor x.1 post) fun x h _ => Lx_math_Floor  x.1 h
def Nx_conv_near : Cx := ⟨tabOf Ntab, conOf [(143, Nq_math_Floor)], NG⟩
theorem Nx_conv_near_ok : CxOk Tryz.prog Nx_conv_near := ⟨tabB_sound Ntab_ok, conOf_sound ⟨Nh_math_Floor, trivial⟩⟩
theorem Nat_conv_near : FnAt Tryz.prog 109 Tryz.f109.ntmps Tryz.f109.results.toList (Tryz.f109.body.getD .skip) := ⟨Tryz.f109, Tryz.func109, rfl, rfl, by simp, by decide⟩
theorem Neq_conv_near (a : Nat) (post : Int × Unit → Prop) : fnEval Nx_conv_near nHn Tryz.f109.ntmps Tryz.f109.results.toList (Tryz.f109.body.getD .skip) [.flt .f64] [.snap (.int .u64)] (a, ()) post = Fx_conv_near  a post := by kernel_rfl
theorem Nh_conv_near : Nq_conv_near.holds Tryz.prog NG 109 :=
  detP Nx_conv_near_ok Nmixed nHn Nat_conv_near (F := fun x post => Fx_conv_near  x.1 post) (fun x post => Neq_conv_near x.1 post) fun x h _ => Lx_conv_near  x.1 h
def Nx_conv_Round : Cx := ⟨tabOf Ntab, conOf [(66, Nq_math_Abs), (109, Nq_conv_near)], NG⟩
theorem Nx_conv_Round_ok : CxOk Tryz.prog Nx_conv_Round := ⟨tabB_sound Ntab_ok, conOf_sound ⟨Nh_math_Abs, Nh_conv_near, trivial⟩⟩
theorem Nat_conv_Round : FnAt Tryz.prog 74 Tryz.f74.ntmps Tryz.f74.results.toList (Tryz.f74.body.getD .skip) := ⟨Tryz.f74, Tryz.func74, rfl, rfl, by simp, by decide⟩
theorem Neq_conv_Round (a : Nat) (post : Int × Bool × Unit → Prop) : fnEval Nx_conv_Round nHn Tryz.f74.ntmps Tryz.f74.results.toList (Tryz.f74.body.getD .skip) [.flt .f64] [.snap (.int .i64), .snap .bool] (a, ()) post = Fx_conv_Round  a post := by kernel_rfl
theorem Nh_conv_Round : Nq_conv_Round.holds Tryz.prog NG 74 :=
  detP Nx_conv_Round_ok Nmixed nHn Nat_conv_Round (F := fun x post => Fx_conv_Round  x.1 post) (fun x post => Neq_conv_Round x.1 post) fun x h _ => Lx_conv_Round  x.1 h
end Go.Lift

set_option linter.unusedVariables false
set_option linter.unusedSimpArgs false
namespace Go.Lift
open Go.Proofs
def Nx_geom_ratio : Cx := ⟨tabOf Ntab, conOf [], NG⟩
theorem Nx_geom_ratio_ok : CxOk Tryz.prog Nx_geom_ratio := ⟨tabB_sound Ntab_ok, fun f c h => by cases h⟩
theorem Nat_geom_ratio : FnAt Tryz.prog 133 Tryz.f133.ntmps Tryz.f133.results.toList (Tryz.f133.body.getD .skip) := ⟨Tryz.f133, Tryz.func133, rfl, rfl, by simp, by decide⟩
theorem Neq_geom_ratio (a : Int) (b : Int) (post : Nat × Unit → Prop) : fnEval Nx_geom_ratio nHn Tryz.f133.ntmps Tryz.f133.results.toList (Tryz.f133.body.getD .skip) [.int .i64, .int .i64] [.snap (.flt .f64)] (a, b, ()) post = Fx_geom_ratio  a b post := by kernel_rfl
theorem Nh_geom_ratio : Nq_geom_ratio.holds Tryz.prog NG 133 :=
  detP Nx_geom_ratio_ok Nmixed nHn Nat_geom_ratio (F := fun x post => Fx_geom_ratio  x.1 x.2.1 post) (fun x post => Neq_geom_ratio x.1 x.2.1 post) fun x h _ => Lx_geom_ratio  x.1 x.2.1 h
def Nx_geom_point : Cx := ⟨tabOf Ntab, conOf [(105, Nq_bits_Canon), (153, Nq_vec_Unit)], NG⟩
theorem Nx_geom_point_ok : CxOk Tryz.prog Nx_geom_point := ⟨tabB_sound Ntab_ok, conOf_sound ⟨Nh_bits_Canon, Nh_vec_Unit, trivial⟩⟩
theorem Nat_geom_point : FnAt Tryz.prog 132 Tryz.f132.ntmps Tryz.f132.results.toList (Tryz.f132.body.getD .skip) := ⟨Tryz.f132, Tryz.func132, rfl, rfl, by simp, by decide⟩
theorem Neq_geom_point (f : Int) (s : Nat) (t : Nat) (post : (Nat × Nat × Nat) × Unit → Prop) : fnEval Nx_geom_point Nhn_geom_point Tryz.f132.ntmps Tryz.f132.results.toList (Tryz.f132.body.getD .skip) [.int .i64, .flt .f64, .flt .f64] [.snap kVec] (f, s, t, ()) post = Fx_geom_point 102 165 f s t post := by kernel_rfl
theorem Nh_geom_point : Nq_geom_point.holds Tryz.prog NG 132 :=
  detP Nx_geom_point_ok Nmixed Nhn_geom_point Nat_geom_point (F := fun x post => Fx_geom_point 102 165 x.1 x.2.1 x.2.2.1 post) (fun x post => Neq_geom_point x.1 x.2.1 x.2.2.1 post) fun x h _ => Lx_geom_point 102 165 x.1 x.2.1 x.2.2.1 h
def Nx_geom_Corner : Cx := ⟨tabOf Ntab, conOf [(58, Nq_cube_Cells), (133, Nq_geom_ratio), (132, Nq_geom_point)], NG⟩
theorem Nx_geom_Corner_ok : CxOk Tryz.prog Nx_geom_Corner := ⟨tabB_sound Ntab_ok, conOf_sound ⟨Nh_cube_Cells, Nh_geom_ratio, Nh_geom_point, trivial⟩⟩
theorem Nat_geom_Corner : FnAt Tryz.prog 104 Tryz.f104.ntmps Tryz.f104.results.toList (Tryz.f104.body.getD .skip) := ⟨Tryz.f104, Tryz.func104, rfl, rfl, by simp, by decide⟩
theorem Neq_geom_Corner (n : Int) (f : Int) (i : Int) (j : Int) (post : (Nat × Nat × Nat) × Bool × Unit → Prop) : fnEval Nx_geom_Corner nHn Tryz.f104.ntmps Tryz.f104.results.toList (Tryz.f104.body.getD .skip) [.int .i64, .int .i64, .int .i64, .int .i64] [.snap kVec, .snap .bool] (n, f, i, j, ()) post = Fx_geom_Corner  n f i j post := by kernel_rfl
theorem Nh_geom_Corner : Nq_geom_Corner.holds Tryz.prog NG 104 :=
  detP Nx_geom_Corner_ok Nmixed nHn Nat_geom_Corner (F := fun x post => Fx_geom_Corner  x.1 x.2.1 x.2.2.1 x.2.2.2.1 post) (fun x post => Neq_geom_Corner x.1 x.2.1 x.2.2.1 x.2.2.2.1 post) fun x h _ => Lx_geom_Corner  x.1 x.2.1 x.2.2.1 x.2.2.2.1 h
def Nx_geom_corners : Cx := ⟨tabOf Ntab, conOf [(103, Nq_cube_Place), (104, Nq_geom_Corner)], NG⟩
theorem Nx_geom_corners_ok : CxOk Tryz.prog Nx_geom_corners := ⟨tabB_sound Ntab_ok, conOf_sound ⟨Nh_cube_Place, Nh_geom_Corner, trivial⟩⟩
theorem Nat_geom_corners : FnAt Tryz.prog 70 Tryz.f70.ntmps Tryz.f70.results.toList (Tryz.f70.body.getD .skip) := ⟨Tryz.f70, Tryz.func70, rfl, rfl, by simp, by decide⟩
theorem Neq_geom_corners (n : Int) (c : Int) (post : (List (Nat × Nat × Nat)) × Bool × Unit → Prop) : fnEval Nx_geom_corners Nhn_geom_corners Tryz.f70.ntmps Tryz.f70.results.toList (Tryz.f70.body.getD .skip) [.int .i64, .int .i64] [.snap (.arr 4 kVec), .snap .bool] (n, c, ()) post = Fx_geom_corners  n c post := by kernel_rfl
theorem Nh_geom_corners : Nq_geom_corners.holds Tryz.prog NG 70 :=
  detP Nx_geom_corners_ok Nmixed Nhn_geom_corners Nat_geom_corners (F := fun x post => Fx_geom_corners  x.1 x.2.1 post) (fun x post => Neq_geom_corners x.1 x.2.1 post) fun x h _ => Lx_geom_corners  x.1 x.2.1 h
def Nx_geom_Area : Cx := ⟨tabOf Ntab, conOf [(70, Nq_geom_corners), (73, Nq_vec_Minus), (72, Nq_vec_Cross), (71, Nq_vec_Length), (74, Nq_conv_Round)], NG⟩
theorem Nx_geom_Area_ok : CxOk Tryz.prog Nx_geom_Area := ⟨tabB_sound Ntab_ok, conOf_sound ⟨Nh_geom_corners, Nh_vec_Minus, Nh_vec_Cross, Nh_vec_Length, Nh_conv_Round, trivial⟩⟩
theorem Nat_geom_Area : FnAt Tryz.prog 34 Tryz.f34.ntmps Tryz.f34.results.toList (Tryz.f34.body.getD .skip) := ⟨Tryz.f34, Tryz.func34, rfl, rfl, by simp, by decide⟩
theorem Neq_geom_Area (n : Int) (c : Int) (post : Int × Unit → Prop) : fnEval Nx_geom_Area nHn Tryz.f34.ntmps Tryz.f34.results.toList (Tryz.f34.body.getD .skip) [.int .i64, .int .i64] [.snap (.int .i64)] (n, c, ()) post = Fx_geom_Area  n c post := by kernel_rfl
theorem Nh_geom_Area : Nq_geom_Area.holds Tryz.prog NG 34 :=
  detP Nx_geom_Area_ok Nmixed nHn Nat_geom_Area (F := fun x post => Fx_geom_Area  x.1 x.2.1 post) (fun x post => Neq_geom_Area x.1 x.2.1 post) fun x h _ => Lx_geom_Area  x.1 x.2.1 h
end Go.Lift

set_option linter.unusedVariables false
set_option linter.unusedSimpArgs false
namespace Go.Lift
open Go.Proofs
def Nx_geom_Middle : Cx := ⟨tabOf Ntab, conOf [(103, Nq_cube_Place), (133, Nq_geom_ratio), (132, Nq_geom_point)], NG⟩
theorem Nx_geom_Middle_ok : CxOk Tryz.prog Nx_geom_Middle := ⟨tabB_sound Ntab_ok, conOf_sound ⟨Nh_cube_Place, Nh_geom_ratio, Nh_geom_point, trivial⟩⟩
theorem Nat_geom_Middle : FnAt Tryz.prog 131 Tryz.f131.ntmps Tryz.f131.results.toList (Tryz.f131.body.getD .skip) := ⟨Tryz.f131, Tryz.func131, rfl, rfl, by simp, by decide⟩
theorem Neq_geom_Middle (n : Int) (c : Int) (post : (Nat × Nat × Nat) × Bool × Unit → Prop) : fnEval Nx_geom_Middle nHn Tryz.f131.ntmps Tryz.f131.results.toList (Tryz.f131.body.getD .skip) [.int .i64, .int .i64] [.snap kVec, .snap .bool] (n, c, ()) post = Fx_geom_Middle  n c post := by kernel_rfl
theorem Nh_geom_Middle : Nq_geom_Middle.holds Tryz.prog NG 131 :=
  nam_of_det (detP Nx_geom_Middle_ok Nmixed nHn Nat_geom_Middle (F := fun x post => Fx_geom_Middle  x.1 x.2.1 post) (fun x post => Neq_geom_Middle x.1 x.2.1 post) fun x h _ => Lx_geom_Middle  x.1 x.2.1 h)
def Nx_geom_Length : Cx := ⟨tabOf Ntab, conOf [(70, Nq_geom_corners), (130, Nq_vec_Gap)], NG⟩
theorem Nx_geom_Length_ok : CxOk Tryz.prog Nx_geom_Length := ⟨tabB_sound Ntab_ok, conOf_sound ⟨Nh_geom_corners, Nh_vec_Gap, trivial⟩⟩
theorem Nat_geom_Length : FnAt Tryz.prog 89 Tryz.f89.ntmps Tryz.f89.results.toList (Tryz.f89.body.getD .skip) := ⟨Tryz.f89, Tryz.func89, rfl, rfl, by simp, by decide⟩
theorem Neq_geom_Length (n : Int) (c : Int) (o : Int) (post : Nat × Unit → Prop) : fnEval Nx_geom_Length Nhn_geom_Length Tryz.f89.ntmps Tryz.f89.results.toList (Tryz.f89.body.getD .skip) [.int .i64, .int .i64, .int .i64] [.snap (.flt .f64)] (n, c, o, ()) post = Fx_geom_Length  n c o post := by kernel_rfl
theorem Nh_geom_Length : Nq_geom_Length.holds Tryz.prog NG 89 :=
  nam_of_det (detP Nx_geom_Length_ok Nmixed Nhn_geom_Length Nat_geom_Length (F := fun x post => Fx_geom_Length  x.1 x.2.1 x.2.2.1 post) (fun x post => Neq_geom_Length x.1 x.2.1 x.2.2.1 post) fun x h _ => Lx_geom_Length  x.1 x.2.1 x.2.2.1 h)
def Nx_geom_Gap : Cx := ⟨tabOf Ntab, conOf [(88, Nq_cube_Beside), (131, Nq_geom_Middle), (130, Nq_vec_Gap)], NG⟩
theorem Nx_geom_Gap_ok : CxOk Tryz.prog Nx_geom_Gap := ⟨tabB_sound Ntab_ok, conOf_sound ⟨Nh_cube_Beside, Nh_geom_Middle, Nh_vec_Gap, trivial⟩⟩
theorem Nat_geom_Gap : FnAt Tryz.prog 90 Tryz.f90.ntmps Tryz.f90.results.toList (Tryz.f90.body.getD .skip) := ⟨Tryz.f90, Tryz.func90, rfl, rfl, by simp, by decide⟩
theorem Neq_geom_Gap (n : Int) (c : Int) (o : Int) (post : Nat × Unit → Prop) : fnEval Nx_geom_Gap Nhn_geom_Gap Tryz.f90.ntmps Tryz.f90.results.toList (Tryz.f90.body.getD .skip) [.int .i64, .int .i64, .int .i64] [.snap (.flt .f64)] (n, c, o, ()) post = Fx_geom_Gap  n c o post := by kernel_rfl
theorem Nh_geom_Gap : Nq_geom_Gap.holds Tryz.prog NG 90 :=
  nam_of_det (detP Nx_geom_Gap_ok Nmixed Nhn_geom_Gap Nat_geom_Gap (F := fun x post => Fx_geom_Gap  x.1 x.2.1 x.2.2.1 post) (fun x post => Neq_geom_Gap x.1 x.2.1 x.2.2.1 post) fun x h _ => Lx_geom_Gap  x.1 x.2.1 x.2.2.1 h)
end Go.Lift

set_option linter.unusedVariables false
set_option linter.unusedSimpArgs false
namespace Go.Lift
open Go.Proofs
def Nx_grid_New : Cx := ⟨tabOf Ntab, conOf [(58, Nq_cube_Cells), (88, Nq_cube_Beside), (34, Nq_geom_Area), (89, Nq_geom_Length), (90, Nq_geom_Gap)], NG⟩
theorem Nx_grid_New_ok : CxOk Tryz.prog Nx_grid_New := ⟨tabB_sound Ntab_ok, conOf_sound ⟨Nh_cube_Cells, Nh_cube_Beside, Nh_geom_Area, Nh_geom_Length, Nh_geom_Gap, trivial⟩⟩
theorem Nat_grid_New : FnAt Tryz.prog 41 Tryz.f41.ntmps Tryz.f41.results.toList (Tryz.f41.body.getD .skip) := ⟨Tryz.f41, Tryz.func41, rfl, rfl, by simp, by decide⟩
theorem Neq_grid_New (n : Int) (post : (Option (Int × (List (Int × Int × Int × Int)) × (List ((Int × Int) × Int)) × (List (List Int)) × (List Int) × (List Nat) × List Nat)) × Int × Unit → Prop) : fnEvalI Nx_grid_New Nhn_grid_New (callLvl Nx_grid_New Nfns_grid 6) Tryz.f41.ntmps Tryz.f41.results.toList (Tryz.f41.body.getD .skip) [.int .i64] [.snap (.ptr kGrid), .snap (.int .i64)] (n, ()) post = Fx_grid_New 122 123 2 126 86 87 n post := by kernel_rfl
theorem Nh_grid_New : Nq_grid_New.holds Tryz.prog NG 41 :=
  detPI Nx_grid_New_ok Nmixed Nhn_grid_New (callLvl_ok Nx_grid_New_ok Nmixed Nfns_grid_ok 6) Nat_grid_New (F := fun x post => Fx_grid_New 122 123 2 126 86 87 x.1 post) (fun x post => Neq_grid_New x.1 post) fun x h _ => Lx_grid_New 122 123 2 126 86 87 x.1 h
end Go.Lift

set_option linter.unusedVariables false
set_option linter.unusedSimpArgs false
namespace Go.Lift
def Fx_save_Encode := fun (ty25 ty5 ty23 : Nat) (n : Int) (s : List Nat × List Int × List Int × List Nat × Int × Int) (post : List Int × Int × Unit → Prop) => ∃ (h : WCheck n
  (s.fst, s.snd.fst, s.snd.snd.fst, s.snd.snd.snd.fst, s.snd.snd.snd.snd.fst, s.snd.snd.snd.snd.snd)), ∀ (a : Bool), a = ((checkR n (s.fst, s.snd.fst, s.snd.snd.fst,
  s.snd.snd.snd.fst, s.snd.snd.snd.snd.fst, s.snd.snd.snd.snd.snd)).snd.fst != (0 : Int)) → Br a (post ([], (checkR n (s.fst, s.snd.fst, s.snd.snd.fst, s.snd.snd.snd.fst,
  s.snd.snd.snd.snd.fst, s.snd.snd.snd.snd.snd)).snd.fst, ())) (∃ (h : WSide n), ∀ (a : Int × Unit), a = sizeR n → ∃ (h : (0 : Int) ≤ (0 : Int) ∧ (0 : Int) ≤ a.fst ∧ a.fst * (↑(1 :
  Nat) : Int) ≤ (281474976710656 : Int)), ∃ (h : Int.toNat (0 : Int) = (List.replicate (Int.toNat (0 : Int)) (0 : Int)).length ∧ (List.replicate (Int.toNat (0 : Int)) (0 :
  Int)).length + (strBytes { data := #[(84 : UInt8), (65 : UInt8), (82 : UInt8), (78 : UInt8)] }).length ≤ (140737488355328 : Nat)), ∃ (h : (List.replicate (Int.toNat (0 : Int)) (0
  : Int)).length + (strBytes { data := #[(84 : UInt8), (65 : UInt8), (82 : UInt8), (78 : UInt8)] }).length = (List.replicate (Int.toNat (0 : Int)) (0 : Int) ++ strBytes { data :=
  #[(84 : UInt8), (65 : UInt8), (82 : UInt8), (78 : UInt8)] }).length ∧ ((List.replicate (Int.toNat (0 : Int)) (0 : Int) ++ strBytes { data := #[(84 : UInt8), (65 : UInt8), (82 :
  UInt8), (78 : UInt8)] }).length + (1 : Nat)) * (1 : Nat) ≤ (140737488355328 : Nat)), ((0 : Nat) = (0 : Nat) ∧ (List.replicate (Int.toNat (0 : Int)) (0 : Int) ++ strBytes { data :=
  #[(84 : UInt8), (65 : UInt8), (82 : UInt8), (78 : UInt8)] }).length + (1 : Nat) = (List.replicate (Int.toNat (0 : Int)) (0 : Int) ++ strBytes { data := #[(84 : UInt8), (65 :
  UInt8), (82 : UInt8), (78 : UInt8)] } ++ [IntKind.u8.wrap n]).length) ∧ HIs [HObj.box Md.rw ty25 [SV.data (K.flt Go.FloatKind.f64).slice s.fst, SV.data (K.int IntKind.i64).slice
  s.snd.fst, SV.data (K.int IntKind.i64).slice s.snd.snd.fst, SV.data (K.flt Go.FloatKind.f64).slice s.snd.snd.snd.fst, SV.val (Go.Value.int IntKind.i64 s.snd.snd.snd.snd.fst),
  SV.val (Go.Value.int IntKind.i64 s.snd.snd.snd.snd.snd)], HObj.dead, HObj.dead, HObj.row Md.rw ty5 (K.int IntKind.u8) [IntKind.u8.wrap n], HObj.dead] [HObj.box Md.rw ty25 [SV.data
  (K.flt Go.FloatKind.f64).slice s.fst, SV.data (K.int IntKind.i64).slice s.snd.fst, SV.data (K.int IntKind.i64).slice s.snd.snd.fst, SV.data (K.flt Go.FloatKind.f64).slice
  s.snd.snd.snd.fst, SV.val (Go.Value.int IntKind.i64 s.snd.snd.snd.snd.fst), SV.val (Go.Value.int IntKind.i64 s.snd.snd.snd.snd.snd)], HObj.dead, HObj.dead, HObj.row Md.rw ty5
  (K.int IntKind.u8) [IntKind.u8.wrap n], HObj.dead] ∧ ∃ (I : List Int × Int × Int × Unit → Unit → Prop), ∃ (μ : List Int × Int × Int × Unit → Unit → Nat), I (List.replicate
  (Int.toNat (0 : Int)) (0 : Int) ++ strBytes { data := #[(84 : UInt8), (65 : UInt8), (82 : UInt8), (78 : UInt8)] } ++ [IntKind.u8.wrap n], IntKind.u64.wrap s.snd.snd.snd.snd.snd,
  (0 : Int), ()) () ∧ ∀ (x : List Int × Int × Int × Unit) (y : Unit), I x y → ∀ (a : Bool), a = decide (x.snd.snd.fst < (8 : Int)) → Br a (∃ (h : x.fst.length = x.fst.length ∧
  (x.fst.length + (1 : Nat)) * (1 : Nat) ≤ (140737488355328 : Nat)), ∃ (h : (0 : Int) ≤ (8 : Int)), ((0 : Nat) = (0 : Nat) ∧ x.fst.length + (1 : Nat) = (x.fst ++ [IntKind.u8.wrap
  x.snd.fst]).length) ∧ HIs [HObj.box Md.rw ty25 [SV.data (K.flt Go.FloatKind.f64).slice s.fst, SV.data (K.int IntKind.i64).slice s.snd.fst, SV.data (K.int IntKind.i64).slice
  s.snd.snd.fst, SV.data (K.flt Go.FloatKind.f64).slice s.snd.snd.snd.fst, SV.val (Go.Value.int IntKind.i64 s.snd.snd.snd.snd.fst), SV.val (Go.Value.int IntKind.i64
  s.snd.snd.snd.snd.snd)], HObj.dead, HObj.dead, HObj.row Md.rw ty5 (K.int IntKind.u8) [IntKind.u8.wrap n], HObj.dead] [HObj.box Md.rw ty25 [SV.data (K.flt Go.FloatKind.f64).slice
  s.fst, SV.data (K.int IntKind.i64).slice s.snd.fst, SV.data (K.int IntKind.i64).slice s.snd.snd.fst, SV.data (K.flt Go.FloatKind.f64).slice s.snd.snd.snd.fst, SV.val (Go.Value.int
  IntKind.i64 s.snd.snd.snd.snd.fst), SV.val (Go.Value.int IntKind.i64 s.snd.snd.snd.snd.snd)], HObj.dead, HObj.dead, HObj.row Md.rw ty5 (K.int IntKind.u8) [IntKind.u8.wrap n],
  HObj.dead] ∧ I (x.fst ++ [IntKind.u8.wrap x.snd.fst], x.snd.fst.fdiv ((2 : Int) ^ Min.min (Int.toNat (8 : Int)) IntKind.u64.bits), IntKind.i64.wrap (x.snd.snd.fst + (1 : Int)),
  ()) () ∧ μ (x.fst ++ [IntKind.u8.wrap x.snd.fst], x.snd.fst.fdiv ((2 : Int) ^ Min.min (Int.toNat (8 : Int)) IntKind.u64.bits), IntKind.i64.wrap (x.snd.snd.fst + (1 : Int)), ()) ()
  < μ x y) (((0 : Nat) = (0 : Nat) ∧ x.fst.length = x.fst.length) ∧ HIs [HObj.box Md.rw ty25 [SV.data (K.flt Go.FloatKind.f64).slice s.fst, SV.data (K.int IntKind.i64).slice
  s.snd.fst, SV.data (K.int IntKind.i64).slice s.snd.snd.fst, SV.data (K.flt Go.FloatKind.f64).slice s.snd.snd.snd.fst, SV.val (Go.Value.int IntKind.i64 s.snd.snd.snd.snd.fst),
  SV.val (Go.Value.int IntKind.i64 s.snd.snd.snd.snd.snd)], HObj.dead, HObj.dead, HObj.row Md.rw ty5 (K.int IntKind.u8) [IntKind.u8.wrap n], HObj.dead, HObj.dead] [HObj.box Md.rw
  ty25 [SV.data (K.flt Go.FloatKind.f64).slice s.fst, SV.data (K.int IntKind.i64).slice s.snd.fst, SV.data (K.int IntKind.i64).slice s.snd.snd.fst, SV.data (K.flt
  Go.FloatKind.f64).slice s.snd.snd.snd.fst, SV.val (Go.Value.int IntKind.i64 s.snd.snd.snd.snd.fst), SV.val (Go.Value.int IntKind.i64 s.snd.snd.snd.snd.snd)], HObj.dead, HObj.dead,
  HObj.row Md.rw ty5 (K.int IntKind.u8) [IntKind.u8.wrap n], HObj.dead, HObj.dead] ∧ ∃ (I : List Int × Int × Int × Unit → Unit → Prop), ∃ (μ : List Int × Int × Int × Unit → Unit →
  Nat), I (x.fst, IntKind.u64.wrap s.snd.snd.snd.snd.fst, (0 : Int), ()) () ∧ ∀ (x : List Int × Int × Int × Unit) (y : Unit), I x y → ∀ (a : Bool), a = decide (x.snd.snd.fst < (8 :
  Int)) → Br a (∃ (h : x.fst.length = x.fst.length ∧ (x.fst.length + (1 : Nat)) * (1 : Nat) ≤ (140737488355328 : Nat)), ∃ (h : (0 : Int) ≤ (8 : Int)), ((0 : Nat) = (0 : Nat) ∧
  x.fst.length + (1 : Nat) = (x.fst ++ [IntKind.u8.wrap x.snd.fst]).length) ∧ HIs [HObj.box Md.rw ty25 [SV.data (K.flt Go.FloatKind.f64).slice s.fst, SV.data (K.int
  IntKind.i64).slice s.snd.fst, SV.data (K.int IntKind.i64).slice s.snd.snd.fst, SV.data (K.flt Go.FloatKind.f64).slice s.snd.snd.snd.fst, SV.val (Go.Value.int IntKind.i64
  s.snd.snd.snd.snd.fst), SV.val (Go.Value.int IntKind.i64 s.snd.snd.snd.snd.snd)], HObj.dead, HObj.dead, HObj.row Md.rw ty5 (K.int IntKind.u8) [IntKind.u8.wrap n], HObj.dead,
  HObj.dead] [HObj.box Md.rw ty25 [SV.data (K.flt Go.FloatKind.f64).slice s.fst, SV.data (K.int IntKind.i64).slice s.snd.fst, SV.data (K.int IntKind.i64).slice s.snd.snd.fst,
  SV.data (K.flt Go.FloatKind.f64).slice s.snd.snd.snd.fst, SV.val (Go.Value.int IntKind.i64 s.snd.snd.snd.snd.fst), SV.val (Go.Value.int IntKind.i64 s.snd.snd.snd.snd.snd)],
  HObj.dead, HObj.dead, HObj.row Md.rw ty5 (K.int IntKind.u8) [IntKind.u8.wrap n], HObj.dead, HObj.dead] ∧ I (x.fst ++ [IntKind.u8.wrap x.snd.fst], x.snd.fst.fdiv ((2 : Int) ^
  Min.min (Int.toNat (8 : Int)) IntKind.u64.bits), IntKind.i64.wrap (x.snd.snd.fst + (1 : Int)), ()) () ∧ μ (x.fst ++ [IntKind.u8.wrap x.snd.fst], x.snd.fst.fdiv ((2 : Int) ^
  Min.min (Int.toNat (8 : Int)) IntKind.u64.bits), IntKind.i64.wrap (x.snd.snd.fst + (1 : Int)), ()) () < μ x y) (((0 : Nat) = (0 : Nat) ∧ x.fst.length = x.fst.length) ∧ HIs
  [HObj.box Md.rw ty25 [SV.data (K.flt Go.FloatKind.f64).slice s.fst, SV.data (K.int IntKind.i64).slice s.snd.fst, SV.data (K.int IntKind.i64).slice s.snd.snd.fst, SV.data (K.flt
  Go.FloatKind.f64).slice s.snd.snd.snd.fst, SV.val (Go.Value.int IntKind.i64 s.snd.snd.snd.snd.fst), SV.val (Go.Value.int IntKind.i64 s.snd.snd.snd.snd.snd)], HObj.dead, HObj.dead,
  HObj.row Md.rw ty5 (K.int IntKind.u8) [IntKind.u8.wrap n], HObj.dead, HObj.dead, HObj.dead] [HObj.box Md.rw ty25 [SV.data (K.flt Go.FloatKind.f64).slice s.fst, SV.data (K.int
  IntKind.i64).slice s.snd.fst, SV.data (K.int IntKind.i64).slice s.snd.snd.fst, SV.data (K.flt Go.FloatKind.f64).slice s.snd.snd.snd.fst, SV.val (Go.Value.int IntKind.i64
  s.snd.snd.snd.snd.fst), SV.val (Go.Value.int IntKind.i64 s.snd.snd.snd.snd.snd)], HObj.dead, HObj.dead, HObj.row Md.rw ty5 (K.int IntKind.u8) [IntKind.u8.wrap n], HObj.dead,
  HObj.dead, HObj.dead] ∧ ∃ (I : List Int × Int × Unit → Unit → Prop), ∃ (μ : List Int × Int × Unit → Unit → Nat), I (x.fst, (0 : Int), ()) () ∧ ∀ (x : List Int × Int × Unit) (y :
  Unit), I x y → ∀ (a : Bool), a = decide (x.snd.fst < (↑s.fst.length : Int)) → Br a (∃ (h : (0 : Int) ≤ x.snd.fst ∧ x.snd.fst < (↑s.fst.length : Int)), ∃ (h : True), ((0 : Nat) =
  (0 : Nat) ∧ x.fst.length = x.fst.length) ∧ HIs [HObj.box Md.rw ty25 [SV.data (K.flt Go.FloatKind.f64).slice s.fst, SV.data (K.int IntKind.i64).slice s.snd.fst, SV.data (K.int
  IntKind.i64).slice s.snd.snd.fst, SV.data (K.flt Go.FloatKind.f64).slice s.snd.snd.snd.fst, SV.val (Go.Value.int IntKind.i64 s.snd.snd.snd.snd.fst), SV.val (Go.Value.int
  IntKind.i64 s.snd.snd.snd.snd.snd)], HObj.dead, HObj.dead, HObj.row Md.rw ty5 (K.int IntKind.u8) [IntKind.u8.wrap n], HObj.dead, HObj.dead, HObj.dead, HObj.dead] [HObj.box Md.rw
  ty25 [SV.data (K.flt Go.FloatKind.f64).slice s.fst, SV.data (K.int IntKind.i64).slice s.snd.fst, SV.data (K.int IntKind.i64).slice s.snd.snd.fst, SV.data (K.flt
  Go.FloatKind.f64).slice s.snd.snd.snd.fst, SV.val (Go.Value.int IntKind.i64 s.snd.snd.snd.snd.fst), SV.val (Go.Value.int IntKind.i64 s.snd.snd.snd.snd.snd)], HObj.dead, HObj.dead,
  HObj.row Md.rw ty5 (K.int IntKind.u8) [IntKind.u8.wrap n], HObj.dead, HObj.dead, HObj.dead, HObj.dead] ∧ ∃ (I_1 : List Int × Int × Int × Unit → Unit → Prop), ∃ (μ_1 : List Int ×
  Int × Int × Unit → Unit → Nat), I_1 (x.fst, (bitsR (s.fst.getD x.snd.fst.toNat (0 : Nat))).fst, (0 : Int), ()) () ∧ ∀ (x_7 : List Int × Int × Int × Unit) (y_1 : Unit), I_1 x_7 y_1
  → ∀ (a : Bool), a = decide (x_7.snd.snd.fst < (8 : Int)) → Br a (∃ (h : x_7.fst.length = x_7.fst.length ∧ (x_7.fst.length + (1 : Nat)) * (1 : Nat) ≤ (140737488355328 : Nat)), ∃ (h
  : (0 : Int) ≤ (8 : Int)), ((0 : Nat) = (0 : Nat) ∧ x_7.fst.length + (1 : Nat) = (x_7.fst ++ [IntKind.u8.wrap x_7.snd.fst]).length) ∧ HIs [HObj.box Md.rw ty25 [SV.data (K.flt
  Go.FloatKind.f64).slice s.fst, SV.data (K.int IntKind.i64).slice s.snd.fst, SV.data (K.int IntKind.i64).slice s.snd.snd.fst, SV.data (K.flt Go.FloatKind.f64).slice
  s.snd.snd.snd.fst, SV.val (Go.Value.int IntKind.i64 s.snd.snd.snd.snd.fst), SV.val (Go.Value.int IntKind.i64 s.snd.snd.snd.snd.snd)], HObj.dead, HObj.dead, HObj.row Md.rw ty5
  (K.int IntKind.u8) [IntKind.u8.wrap n], HObj.dead, HObj.dead, HObj.dead, HObj.dead] [HObj.box Md.rw ty25 [SV.data (K.flt Go.FloatKind.f64).slice s.fst, SV.data (K.int
  IntKind.i64).slice s.snd.fst, SV.data (K.int IntKind.i64).slice s.snd.snd.fst, SV.data (K.flt Go.FloatKind.f64).slice s.snd.snd.snd.fst, SV.val (Go.Value.int IntKind.i64
  s.snd.snd.snd.snd.fst), SV.val (Go.Value.int IntKind.i64 s.snd.snd.snd.snd.snd)], HObj.dead, HObj.dead, HObj.row Md.rw ty5 (K.int IntKind.u8) [IntKind.u8.wrap n], HObj.dead,
  HObj.dead, HObj.dead, HObj.dead] ∧ I_1 (x_7.fst ++ [IntKind.u8.wrap x_7.snd.fst], x_7.snd.fst.fdiv ((2 : Int) ^ Min.min (Int.toNat (8 : Int)) IntKind.u64.bits), IntKind.i64.wrap
  (x_7.snd.snd.fst + (1 : Int)), ()) () ∧ μ_1 (x_7.fst ++ [IntKind.u8.wrap x_7.snd.fst], x_7.snd.fst.fdiv ((2 : Int) ^ Min.min (Int.toNat (8 : Int)) IntKind.u64.bits),
  IntKind.i64.wrap (x_7.snd.snd.fst + (1 : Int)), ()) () < μ_1 x_7 y_1) (((0 : Nat) = (0 : Nat) ∧ x_7.fst.length = x_7.fst.length) ∧ HIs [HObj.box Md.rw ty25 [SV.data (K.flt
  Go.FloatKind.f64).slice s.fst, SV.data (K.int IntKind.i64).slice s.snd.fst, SV.data (K.int IntKind.i64).slice s.snd.snd.fst, SV.data (K.flt Go.FloatKind.f64).slice
  s.snd.snd.snd.fst, SV.val (Go.Value.int IntKind.i64 s.snd.snd.snd.snd.fst), SV.val (Go.Value.int IntKind.i64 s.snd.snd.snd.snd.snd)], HObj.dead, HObj.dead, HObj.row Md.rw ty5
  (K.int IntKind.u8) [IntKind.u8.wrap n], HObj.dead, HObj.dead, HObj.dead] [HObj.box Md.rw ty25 [SV.data (K.flt Go.FloatKind.f64).slice s.fst, SV.data (K.int IntKind.i64).slice
  s.snd.fst, SV.data (K.int IntKind.i64).slice s.snd.snd.fst, SV.data (K.flt Go.FloatKind.f64).slice s.snd.snd.snd.fst, SV.val (Go.Value.int IntKind.i64 s.snd.snd.snd.snd.fst),
  SV.val (Go.Value.int IntKind.i64 s.snd.snd.snd.snd.snd)], HObj.dead, HObj.dead, HObj.row Md.rw ty5 (K.int IntKind.u8) [IntKind.u8.wrap n], HObj.dead, HObj.dead, HObj.dead] ∧ I
  (x_7.fst, IntKind.i64.wrap (x.snd.fst + (1 : Int)), ()) () ∧ μ (x_7.fst, IntKind.i64.wrap (x.snd.fst + (1 : Int)), ()) () < μ x y)) (((0 : Nat) = (0 : Nat) ∧ x.fst.length =
  x.fst.length) ∧ HIs [HObj.box Md.rw ty25 [SV.data (K.flt Go.FloatKind.f64).slice s.fst, SV.data (K.int IntKind.i64).slice s.snd.fst, SV.data (K.int IntKind.i64).slice
  s.snd.snd.fst, SV.data (K.flt Go.FloatKind.f64).slice s.snd.snd.snd.fst, SV.val (Go.Value.int IntKind.i64 s.snd.snd.snd.snd.fst), SV.val (Go.Value.int IntKind.i64
  s.snd.snd.snd.snd.snd)], HObj.dead, HObj.dead, HObj.row Md.rw ty5 (K.int IntKind.u8) [IntKind.u8.wrap n], HObj.dead, HObj.dead, HObj.dead, HObj.dead, HObj.row Md.rw ty23 (K.int
  IntKind.i64).slice [s.snd.fst, s.snd.snd.fst]] [HObj.box Md.rw ty25 [SV.data (K.flt Go.FloatKind.f64).slice s.fst, SV.data (K.int IntKind.i64).slice s.snd.fst, SV.data (K.int
  IntKind.i64).slice s.snd.snd.fst, SV.data (K.flt Go.FloatKind.f64).slice s.snd.snd.snd.fst, SV.val (Go.Value.int IntKind.i64 s.snd.snd.snd.snd.fst), SV.val (Go.Value.int
  IntKind.i64 s.snd.snd.snd.snd.snd)], HObj.dead, HObj.dead, HObj.row Md.rw ty5 (K.int IntKind.u8) [IntKind.u8.wrap n], HObj.dead, HObj.dead, HObj.dead, HObj.dead, HObj.row Md.rw
  ty23 (K.int IntKind.i64).slice [s.snd.fst, s.snd.snd.fst]] ∧ ∃ (I : List Int × Int × Unit → Unit → Prop), ∃ (μ : List Int × Int × Unit → Unit → Nat), I (x.fst, (0 : Int), ()) () ∧
  ∀ (x : List Int × Int × Unit) (y : Unit), I x y → ∀ (a : Bool), a = decide (x.snd.fst < (↑(2 : Nat) : Int)) → Br a (∃ (h : (0 : Int) ≤ x.snd.fst ∧ x.snd.fst < (↑(2 : Nat) : Int)),
  ((0 : Nat) = (0 : Nat) ∧ x.fst.length = x.fst.length) ∧ HIs [HObj.box Md.rw ty25 [SV.data (K.flt Go.FloatKind.f64).slice s.fst, SV.data (K.int IntKind.i64).slice s.snd.fst,
  SV.data (K.int IntKind.i64).slice s.snd.snd.fst, SV.data (K.flt Go.FloatKind.f64).slice s.snd.snd.snd.fst, SV.val (Go.Value.int IntKind.i64 s.snd.snd.snd.snd.fst), SV.val
  (Go.Value.int IntKind.i64 s.snd.snd.snd.snd.snd)], HObj.dead, HObj.dead, HObj.row Md.rw ty5 (K.int IntKind.u8) [IntKind.u8.wrap n], HObj.dead, HObj.dead, HObj.dead, HObj.dead,
  HObj.row Md.rw ty23 (K.int IntKind.i64).slice [s.snd.fst, s.snd.snd.fst], HObj.dead] [HObj.box Md.rw ty25 [SV.data (K.flt Go.FloatKind.f64).slice s.fst, SV.data (K.int
  IntKind.i64).slice s.snd.fst, SV.data (K.int IntKind.i64).slice s.snd.snd.fst, SV.data (K.flt Go.FloatKind.f64).slice s.snd.snd.snd.fst, SV.val (Go.Value.int IntKind.i64
  s.snd.snd.snd.snd.fst), SV.val (Go.Value.int IntKind.i64 s.snd.snd.snd.snd.snd)], HObj.dead, HObj.dead, HObj.row Md.rw ty5 (K.int IntKind.u8) [IntKind.u8.wrap n], HObj.dead,
  HObj.dead, HObj.dead, HObj.dead, HObj.row Md.rw ty23 (K.int IntKind.i64).slice [s.snd.fst, s.snd.snd.fst], HObj.dead] ∧ ∃ (I_1 : List Int × Int × Unit → Unit → Prop), ∃ (μ_1 :
  List Int × Int × Unit → Unit → Nat), I_1 (x.fst, (0 : Int), ()) () ∧ ∀ (x_9 : List Int × Int × Unit) (y_1 : Unit), I_1 x_9 y_1 → ∀ (a : Bool), a = decide (x_9.snd.fst <
  (↑(List.length ([s.snd.fst, s.snd.snd.fst].getD ((0 : Nat) + x.snd.fst.toNat) (K.int IntKind.i64).slice.dflt)) : Int)) → Br a (∃ (h : (0 : Int) ≤ x_9.snd.fst ∧ x_9.snd.fst <
  (↑(List.length ([s.snd.fst, s.snd.snd.fst].getD ((0 : Nat) + x.snd.fst.toNat) (K.int IntKind.i64).slice.dflt)) : Int)), ((0 : Nat) = (0 : Nat) ∧ x_9.fst.length = x_9.fst.length) ∧
  HIs [HObj.box Md.rw ty25 [SV.data (K.flt Go.FloatKind.f64).slice s.fst, SV.data (K.int IntKind.i64).slice s.snd.fst, SV.data (K.int IntKind.i64).slice s.snd.snd.fst, SV.data
  (K.flt Go.FloatKind.f64).slice s.snd.snd.snd.fst, SV.val (Go.Value.int IntKind.i64 s.snd.snd.snd.snd.fst), SV.val (Go.Value.int IntKind.i64 s.snd.snd.snd.snd.snd)], HObj.dead,
  HObj.dead, HObj.row Md.rw ty5 (K.int IntKind.u8) [IntKind.u8.wrap n], HObj.dead, HObj.dead, HObj.dead, HObj.dead, HObj.row Md.rw ty23 (K.int IntKind.i64).slice [s.snd.fst,
  s.snd.snd.fst], HObj.dead, HObj.dead] [HObj.box Md.rw ty25 [SV.data (K.flt Go.FloatKind.f64).slice s.fst, SV.data (K.int IntKind.i64).slice s.snd.fst, SV.data (K.int
  IntKind.i64).slice s.snd.snd.fst, SV.data (K.flt Go.FloatKind.f64).slice s.snd.snd.snd.fst, SV.val (Go.Value.int IntKind.i64 s.snd.snd.snd.snd.fst), SV.val (Go.Value.int
  IntKind.i64 s.snd.snd.snd.snd.snd)], HObj.dead, HObj.dead, HObj.row Md.rw ty5 (K.int IntKind.u8) [IntKind.u8.wrap n], HObj.dead, HObj.dead, HObj.dead, HObj.dead, HObj.row Md.rw
  ty23 (K.int IntKind.i64).slice [s.snd.fst, s.snd.snd.fst], HObj.dead, HObj.dead] ∧ ∃ (I : List Int × Int × Int × Unit → Unit → Prop), ∃ (μ : List Int × Int × Int × Unit → Unit →
  Nat), I (x_9.fst, IntKind.u64.wrap (List.getD ([s.snd.fst, s.snd.snd.fst].getD ((0 : Nat) + x.snd.fst.toNat) (K.int IntKind.i64).slice.dflt) x_9.snd.fst.toNat (0 : Int)), (0 :
  Int), ()) () ∧ ∀ (x : List Int × Int × Int × Unit) (y : Unit), I x y → ∀ (a : Bool), a = decide (x.snd.snd.fst < (8 : Int)) → Br a (∃ (h : x.fst.length = x.fst.length ∧
  (x.fst.length + (1 : Nat)) * (1 : Nat) ≤ (140737488355328 : Nat)), ∃ (h : (0 : Int) ≤ (8 : Int)), ((0 : Nat) = (0 : Nat) ∧ x.fst.length + (1 : Nat) = (x.fst ++ [IntKind.u8.wrap
  x.snd.fst]).length) ∧ HIs [HObj.box Md.rw (25 : Nat) [SV.data (K.flt Go.FloatKind.f64).slice s.fst, SV.data (K.int IntKind.i64).slice s.snd.fst, SV.data (K.int IntKind.i64).slice
  s.snd.snd.fst, SV.data (K.flt Go.FloatKind.f64).slice s.snd.snd.snd.fst, SV.val (Go.Value.int IntKind.i64 s.snd.snd.snd.snd.fst), SV.val (Go.Value.int IntKind.i64
  s.snd.snd.snd.snd.snd)], HObj.dead, HObj.dead, HObj.row Md.rw (5 : Nat) (K.int IntKind.u8) [IntKind.u8.wrap n], HObj.dead, HObj.dead, HObj.dead, HObj.dead, HObj.row Md.rw (23 :
  Nat) (K.int IntKind.i64).slice [s.snd.fst, s.snd.snd.fst], HObj.dead, HObj.dead] [HObj.box Md.rw (25 : Nat) [SV.data (K.flt Go.FloatKind.f64).slice s.fst, SV.data (K.int
  IntKind.i64).slice s.snd.fst, SV.data (K.int IntKind.i64).slice s.snd.snd.fst, SV.data (K.flt Go.FloatKind.f64).slice s.snd.snd.snd.fst, SV.val (Go.Value.int IntKind.i64
  s.snd.snd.snd.snd.fst), SV.val (Go.Value.int IntKind.i64 s.snd.snd.snd.snd.snd)], HObj.dead, HObj.dead, HObj.row Md.rw (5 : Nat) (K.int IntKind.u8) [IntKind.u8.wrap n], HObj.dead,
  HObj.dead, HObj.dead, HObj.dead, HObj.row Md.rw (23 : Nat) (K.int IntKind.i64).slice [s.snd.fst, s.snd.snd.fst], HObj.dead, HObj.dead] ∧ I (x.fst ++ [IntKind.u8.wrap x.snd.fst],
  x.snd.fst.fdiv ((2 : Int) ^ Min.min (Int.toNat (8 : Int)) IntKind.u64.bits), IntKind.i64.wrap (x.snd.snd.fst + (1 : Int)), ()) () ∧ μ (x.fst ++ [IntKind.u8.wrap x.snd.fst],
  x.snd.fst.fdiv ((2 : Int) ^ Min.min (Int.toNat (8 : Int)) IntKind.u64.bits), IntKind.i64.wrap (x.snd.snd.fst + (1 : Int)), ()) () < μ x y) (((0 : Nat) = (0 : Nat) ∧ x.fst.length =
  x.fst.length) ∧ HIs [HObj.box Md.rw (25 : Nat) [SV.data (K.flt Go.FloatKind.f64).slice s.fst, SV.data (K.int IntKind.i64).slice s.snd.fst, SV.data (K.int IntKind.i64).slice
  s.snd.snd.fst, SV.data (K.flt Go.FloatKind.f64).slice s.snd.snd.snd.fst, SV.val (Go.Value.int IntKind.i64 s.snd.snd.snd.snd.fst), SV.val (Go.Value.int IntKind.i64
  s.snd.snd.snd.snd.snd)], HObj.dead, HObj.dead, HObj.row Md.rw (5 : Nat) (K.int IntKind.u8) [IntKind.u8.wrap n], HObj.dead, HObj.dead, HObj.dead, HObj.dead, HObj.row Md.rw (23 :
  Nat) (K.int IntKind.i64).slice [s.snd.fst, s.snd.snd.fst], HObj.dead] [HObj.box Md.rw (25 : Nat) [SV.data (K.flt Go.FloatKind.f64).slice s.fst, SV.data (K.int IntKind.i64).slice
  s.snd.fst, SV.data (K.int IntKind.i64).slice s.snd.snd.fst, SV.data (K.flt Go.FloatKind.f64).slice s.snd.snd.snd.fst, SV.val (Go.Value.int IntKind.i64 s.snd.snd.snd.snd.fst),
  SV.val (Go.Value.int IntKind.i64 s.snd.snd.snd.snd.snd)], HObj.dead, HObj.dead, HObj.row Md.rw (5 : Nat) (K.int IntKind.u8) [IntKind.u8.wrap n], HObj.dead, HObj.dead, HObj.dead,
  HObj.dead, HObj.row Md.rw (23 : Nat) (K.int IntKind.i64).slice [s.snd.fst, s.snd.snd.fst], HObj.dead] ∧ I_1 (x.fst, IntKind.i64.wrap (x_9.snd.fst + (1 : Int)), ()) () ∧ μ_1
  (x.fst, IntKind.i64.wrap (x_9.snd.fst + (1 : Int)), ()) () < μ_1 x_9 y_1)) (((0 : Nat) = (0 : Nat) ∧ x_9.fst.length = x_9.fst.length) ∧ HIs [HObj.box Md.rw ty25 [SV.data (K.flt
  Go.FloatKind.f64).slice s.fst, SV.data (K.int IntKind.i64).slice s.snd.fst, SV.data (K.int IntKind.i64).slice s.snd.snd.fst, SV.data (K.flt Go.FloatKind.f64).slice
  s.snd.snd.snd.fst, SV.val (Go.Value.int IntKind.i64 s.snd.snd.snd.snd.fst), SV.val (Go.Value.int IntKind.i64 s.snd.snd.snd.snd.snd)], HObj.dead, HObj.dead, HObj.row Md.rw ty5
  (K.int IntKind.u8) [IntKind.u8.wrap n], HObj.dead, HObj.dead, HObj.dead, HObj.dead, HObj.row Md.rw ty23 (K.int IntKind.i64).slice [s.snd.fst, s.snd.snd.fst]] [HObj.box Md.rw ty25
  [SV.data (K.flt Go.FloatKind.f64).slice s.fst, SV.data (K.int IntKind.i64).slice s.snd.fst, SV.data (K.int IntKind.i64).slice s.snd.snd.fst, SV.data (K.flt Go.FloatKind.f64).slice
  s.snd.snd.snd.fst, SV.val (Go.Value.int IntKind.i64 s.snd.snd.snd.snd.fst), SV.val (Go.Value.int IntKind.i64 s.snd.snd.snd.snd.snd)], HObj.dead, HObj.dead, HObj.row Md.rw ty5
  (K.int IntKind.u8) [IntKind.u8.wrap n], HObj.dead, HObj.dead, HObj.dead, HObj.dead, HObj.row Md.rw ty23 (K.int IntKind.i64).slice [s.snd.fst, s.snd.snd.fst]] ∧ I (x_9.fst,
  IntKind.i64.wrap (x.snd.fst + (1 : Int)), ()) () ∧ μ (x_9.fst, IntKind.i64.wrap (x.snd.fst + (1 : Int)), ()) () < μ x y)) (((0 : Nat) = (0 : Nat) ∧ x.fst.length = x.fst.length) ∧
  HIs [HObj.box Md.rw ty25 [SV.data (K.flt Go.FloatKind.f64).slice s.fst, SV.data (K.int IntKind.i64).slice s.snd.fst, SV.data (K.int IntKind.i64).slice s.snd.snd.fst, SV.data
  (K.flt Go.FloatKind.f64).slice s.snd.snd.snd.fst, SV.val (Go.Value.int IntKind.i64 s.snd.snd.snd.snd.fst), SV.val (Go.Value.int IntKind.i64 s.snd.snd.snd.snd.snd)], HObj.dead,
  HObj.dead, HObj.row Md.rw ty5 (K.int IntKind.u8) [IntKind.u8.wrap n], HObj.dead, HObj.dead, HObj.dead, HObj.dead, HObj.row Md.rw ty23 (K.int IntKind.i64).slice [s.snd.fst,
  s.snd.snd.fst], HObj.dead] [HObj.box Md.rw ty25 [SV.data (K.flt Go.FloatKind.f64).slice s.fst, SV.data (K.int IntKind.i64).slice s.snd.fst, SV.data (K.int IntKind.i64).slice
  s.snd.snd.fst, SV.data (K.flt Go.FloatKind.f64).slice s.snd.snd.snd.fst, SV.val (Go.Value.int IntKind.i64 s.snd.snd.snd.snd.fst), SV.val (Go.Value.int IntKind.i64
  s.snd.snd.snd.snd.snd)], HObj.dead, HObj.dead, HObj.row Md.rw ty5 (K.int IntKind.u8) [IntKind.u8.wrap n], HObj.dead, HObj.dead, HObj.dead, HObj.dead, HObj.row Md.rw ty23 (K.int
  IntKind.i64).slice [s.snd.fst, s.snd.snd.fst], HObj.dead] ∧ ∃ (I : List Int × Int × Unit → Unit → Prop), ∃ (μ : List Int × Int × Unit → Unit → Nat), I (x.fst, (0 : Int), ()) () ∧
  ∀ (x : List Int × Int × Unit) (y : Unit), I x y → ∀ (a : Bool), a = decide (x.snd.fst < (↑s.snd.snd.snd.fst.length : Int)) → Br a (∃ (h : (0 : Int) ≤ x.snd.fst ∧ x.snd.fst <
  (↑s.snd.snd.snd.fst.length : Int)), ∃ (h : True), ((0 : Nat) = (0 : Nat) ∧ x.fst.length = x.fst.length) ∧ HIs [HObj.box Md.rw ty25 [SV.data (K.flt Go.FloatKind.f64).slice s.fst,
  SV.data (K.int IntKind.i64).slice s.snd.fst, SV.data (K.int IntKind.i64).slice s.snd.snd.fst, SV.data (K.flt Go.FloatKind.f64).slice s.snd.snd.snd.fst, SV.val (Go.Value.int
  IntKind.i64 s.snd.snd.snd.snd.fst), SV.val (Go.Value.int IntKind.i64 s.snd.snd.snd.snd.snd)], HObj.dead, HObj.dead, HObj.row Md.rw ty5 (K.int IntKind.u8) [IntKind.u8.wrap n],
  HObj.dead, HObj.dead, HObj.dead, HObj.dead, HObj.row Md.rw ty23 (K.int IntKind.i64).slice [s.snd.fst, s.snd.snd.fst], HObj.dead, HObj.dead] [HObj.box Md.rw ty25 [SV.data (K.flt
  Go.FloatKind.f64).slice s.fst, SV.data (K.int IntKind.i64).slice s.snd.fst, SV.data (K.int IntKind.i64).slice s.snd.snd.fst, SV.data (K.flt Go.FloatKind.f64).slice
  s.snd.snd.snd.fst, SV.val (Go.Value.int IntKind.i64 s.snd.snd.snd.snd.fst), SV.val (Go.Value.int IntKind.i64 s.snd.snd.snd.snd.snd)], HObj.dead, HObj.dead, HObj.row Md.rw ty5
  (K.int IntKind.u8) [IntKind.u8.wrap n], HObj.dead, HObj.dead, HObj.dead, HObj.dead, HObj.row Md.rw ty23 (K.int IntKind.i64).slice [s.snd.fst, s.snd.snd.fst], HObj.dead, HObj.dead]
  ∧ ∃ (I_1 : List Int × Int × Int × Unit → Unit → Prop), ∃ (μ_1 : List Int × Int × Int × Unit → Unit → Nat), I_1 (x.fst, (bitsR (s.snd.snd.snd.fst.getD x.snd.fst.toNat (0 :
  Nat))).fst, (0 : Int), ()) () ∧ ∀ (x_11 : List Int × Int × Int × Unit) (y_1 : Unit), I_1 x_11 y_1 → ∀ (a : Bool), a = decide (x_11.snd.snd.fst < (8 : Int)) → Br a (∃ (h :
  x_11.fst.length = x_11.fst.length ∧ (x_11.fst.length + (1 : Nat)) * (1 : Nat) ≤ (140737488355328 : Nat)), ∃ (h : (0 : Int) ≤ (8 : Int)), ((0 : Nat) = (0 : Nat) ∧ x_11.fst.length +
  (1 : Nat) = (x_11.fst ++ [IntKind.u8.wrap x_11.snd.fst]).length) ∧ HIs [HObj.box Md.rw (25 : Nat) [SV.data (K.flt Go.FloatKind.f64).slice s.fst, SV.data (K.int IntKind.i64).slice
  s.snd.fst, SV.data (K.int IntKind.i64).slice s.snd.snd.fst, SV.data (K.flt Go.FloatKind.f64).slice s.snd.snd.snd.fst, SV.val (Go.Value.int IntKind.i64 s.snd.snd.snd.snd.fst),
  SV.val (Go.Value.int IntKind.i64 s.snd.snd.snd.snd.snd)], HObj.dead, HObj.dead, HObj.row Md.rw (5 : Nat) (K.int IntKind.u8) [IntKind.u8.wrap n], HObj.dead, HObj.dead, HObj.dead,
  HObj.dead, HObj.row Md.rw (23 : Nat) (K.int IntKind.i64).slice [s.snd.fst, s.snd.snd.fst], HObj.dead, HObj.dead] [HObj.box Md.rw (25 : Nat) [SV.data (K.flt Go.FloatKind.f64).slice
  s.fst, SV.data (K.int IntKind.i64).slice s.snd.fst, SV.data (K.int IntKind.i64).slice s.snd.snd.fst, SV.data (K.flt Go.FloatKind.f64).slice s.snd.snd.snd.fst, SV.val (Go.Value.int
  IntKind.i64 s.snd.snd.snd.snd.fst), SV.val (Go.Value.int IntKind.i64 s.snd.snd.snd.snd.snd)], HObj.dead, HObj.dead, HObj.row Md.rw (5 : Nat) (K.int IntKind.u8) [IntKind.u8.wrap
  n], HObj.dead, HObj.dead, HObj.dead, HObj.dead, HObj.row Md.rw (23 : Nat) (K.int IntKind.i64).slice [s.snd.fst, s.snd.snd.fst], HObj.dead, HObj.dead] ∧ I_1 (x_11.fst ++
  [IntKind.u8.wrap x_11.snd.fst], x_11.snd.fst.fdiv ((2 : Int) ^ Min.min (Int.toNat (8 : Int)) IntKind.u64.bits), IntKind.i64.wrap (x_11.snd.snd.fst + (1 : Int)), ()) () ∧ μ_1
  (x_11.fst ++ [IntKind.u8.wrap x_11.snd.fst], x_11.snd.fst.fdiv ((2 : Int) ^ Min.min (Int.toNat (8 : Int)) IntKind.u64.bits), IntKind.i64.wrap (x_11.snd.snd.fst + (1 : Int)), ())
  () < μ_1 x_11 y_1) (((0 : Nat) = (0 : Nat) ∧ x_11.fst.length = x_11.fst.length) ∧ HIs [HObj.box Md.rw (25 : Nat) [SV.data (K.flt Go.FloatKind.f64).slice s.fst, SV.data (K.int
  IntKind.i64).slice s.snd.fst, SV.data (K.int IntKind.i64).slice s.snd.snd.fst, SV.data (K.flt Go.FloatKind.f64).slice s.snd.snd.snd.fst, SV.val (Go.Value.int IntKind.i64
  s.snd.snd.snd.snd.fst), SV.val (Go.Value.int IntKind.i64 s.snd.snd.snd.snd.snd)], HObj.dead, HObj.dead, HObj.row Md.rw (5 : Nat) (K.int IntKind.u8) [IntKind.u8.wrap n], HObj.dead,
  HObj.dead, HObj.dead, HObj.dead, HObj.row Md.rw (23 : Nat) (K.int IntKind.i64).slice [s.snd.fst, s.snd.snd.fst], HObj.dead] [HObj.box Md.rw (25 : Nat) [SV.data (K.flt
  Go.FloatKind.f64).slice s.fst, SV.data (K.int IntKind.i64).slice s.snd.fst, SV.data (K.int IntKind.i64).slice s.snd.snd.fst, SV.data (K.flt Go.FloatKind.f64).slice
  s.snd.snd.snd.fst, SV.val (Go.Value.int IntKind.i64 s.snd.snd.snd.snd.fst), SV.val (Go.Value.int IntKind.i64 s.snd.snd.snd.snd.snd)], HObj.dead, HObj.dead, HObj.row Md.rw (5 :
  Nat) (K.int IntKind.u8) [IntKind.u8.wrap n], HObj.dead, HObj.dead, HObj.dead, HObj.dead, HObj.row Md.rw (23 : Nat) (K.int IntKind.i64).slice [s.snd.fst, s.snd.snd.fst], HObj.dead]
  ∧ I (x_11.fst, IntKind.i64.wrap (x.snd.fst + (1 : Int)), ()) () ∧ μ (x_11.fst, IntKind.i64.wrap (x.snd.fst + (1 : Int)), ()) () < μ x y)) (∃ (h : BLs (List.take x.fst.length
  (List.drop (0 : Nat) x.fst))), ∀ (a : Int × Unit), a = sumR (List.take x.fst.length (List.drop (0 : Nat) x.fst)) → ((0 : Nat) = (0 : Nat) ∧ x.fst.length = x.fst.length) ∧ HIs
  [HObj.box Md.rw ty25 [SV.data (K.flt Go.FloatKind.f64).slice s.fst, SV.data (K.int IntKind.i64).slice s.snd.fst, SV.data (K.int IntKind.i64).slice s.snd.snd.fst, SV.data (K.flt
  Go.FloatKind.f64).slice s.snd.snd.snd.fst, SV.val (Go.Value.int IntKind.i64 s.snd.snd.snd.snd.fst), SV.val (Go.Value.int IntKind.i64 s.snd.snd.snd.snd.snd)], HObj.dead, HObj.dead,
  HObj.row Md.rw ty5 (K.int IntKind.u8) [IntKind.u8.wrap n], HObj.dead, HObj.dead, HObj.dead, HObj.dead, HObj.row Md.rw ty23 (K.int IntKind.i64).slice [s.snd.fst, s.snd.snd.fst],
  HObj.dead, HObj.dead] [HObj.box Md.rw ty25 [SV.data (K.flt Go.FloatKind.f64).slice s.fst, SV.data (K.int IntKind.i64).slice s.snd.fst, SV.data (K.int IntKind.i64).slice
  s.snd.snd.fst, SV.data (K.flt Go.FloatKind.f64).slice s.snd.snd.snd.fst, SV.val (Go.Value.int IntKind.i64 s.snd.snd.snd.snd.fst), SV.val (Go.Value.int IntKind.i64
  s.snd.snd.snd.snd.snd)], HObj.dead, HObj.dead, HObj.row Md.rw ty5 (K.int IntKind.u8) [IntKind.u8.wrap n], HObj.dead, HObj.dead, HObj.dead, HObj.dead, HObj.row Md.rw ty23 (K.int
  IntKind.i64).slice [s.snd.fst, s.snd.snd.fst], HObj.dead, HObj.dead] ∧ ∃ (I : List Int × Int × Int × Unit → Unit → Prop), ∃ (μ : List Int × Int × Int × Unit → Unit → Nat), I
  (x.fst, a.fst, (0 : Int), ()) () ∧ ∀ (x : List Int × Int × Int × Unit) (y : Unit), I x y → ∀ (a : Bool), a = decide (x.snd.snd.fst < (8 : Int)) → Br a (∃ (h : x.fst.length =
  x.fst.length ∧ (x.fst.length + (1 : Nat)) * (1 : Nat) ≤ (140737488355328 : Nat)), ∃ (h : (0 : Int) ≤ (8 : Int)), ((0 : Nat) = (0 : Nat) ∧ x.fst.length + (1 : Nat) = (x.fst ++
  [IntKind.u8.wrap x.snd.fst]).length) ∧ HIs [HObj.box Md.rw (25 : Nat) [SV.data (K.flt Go.FloatKind.f64).slice s.fst, SV.data (K.int IntKind.i64).slice s.snd.fst, SV.data (K.int
  IntKind.i64).slice s.snd.snd.fst, SV.data (K.flt Go.FloatKind.f64).slice s.snd.snd.snd.fst, SV.val (Go.Value.int IntKind.i64 s.snd.snd.snd.snd.fst), SV.val (Go.Value.int
  IntKind.i64 s.snd.snd.snd.snd.snd)], HObj.dead, HObj.dead, HObj.row Md.rw (5 : Nat) (K.int IntKind.u8) [IntKind.u8.wrap n], HObj.dead, HObj.dead, HObj.dead, HObj.dead, HObj.row
  Md.rw (23 : Nat) (K.int IntKind.i64).slice [s.snd.fst, s.snd.snd.fst], HObj.dead, HObj.dead] [HObj.box Md.rw (25 : Nat) [SV.data (K.flt Go.FloatKind.f64).slice s.fst, SV.data
  (K.int IntKind.i64).slice s.snd.fst, SV.data (K.int IntKind.i64).slice s.snd.snd.fst, SV.data (K.flt Go.FloatKind.f64).slice s.snd.snd.snd.fst, SV.val (Go.Value.int IntKind.i64
  s.snd.snd.snd.snd.fst), SV.val (Go.Value.int IntKind.i64 s.snd.snd.snd.snd.snd)], HObj.dead, HObj.dead, HObj.row Md.rw (5 : Nat) (K.int IntKind.u8) [IntKind.u8.wrap n], HObj.dead,
  HObj.dead, HObj.dead, HObj.dead, HObj.row Md.rw (23 : Nat) (K.int IntKind.i64).slice [s.snd.fst, s.snd.snd.fst], HObj.dead, HObj.dead] ∧ I (x.fst ++ [IntKind.u8.wrap x.snd.fst],
  x.snd.fst.fdiv ((2 : Int) ^ Min.min (Int.toNat (8 : Int)) IntKind.u64.bits), IntKind.i64.wrap (x.snd.snd.fst + (1 : Int)), ()) () ∧ μ (x.fst ++ [IntKind.u8.wrap x.snd.fst],
  x.snd.fst.fdiv ((2 : Int) ^ Min.min (Int.toNat (8 : Int)) IntKind.u64.bits), IntKind.i64.wrap (x.snd.snd.fst + (1 : Int)), ()) () < μ x y) (post (List.take x.fst.length (List.drop
  (0 : Nat) x.fst), (0 : Int), ()))))))))
theorem Lx_save_Encode (ty0 ty1 ty2 : Nat) (n : Int) (s : (List Nat) × (List Int) × (List Int) × (List Nat) × Int × Int) (h : WCheck n s) (w : KS.wf [.int .i64, kSea] (n, s, ())) : Fx_save_Encode ty0 ty1 ty2 n s (fun r => r = enR n s) := by
  have eta : (s.1, s.2.1, s.2.2.1, s.2.2.2.1, s.2.2.2.2.1, s.2.2.2.2.2) = s := rfl
  refine ⟨h, ?_⟩
  rintro _ rfl
  refine Br.intro (fun e => enI_bad e) fun e => ?_
  have e : (checkI n s).2 = 0 := by
    have e : (!((checkI n s).2 == 0)) = false := e
    simpa using e
  obtain ⟨hn, hnn, l1, l2, l3, l4⟩ := sea_sizes e
  obtain ⟨hI, hW1, hW2, hW3, hW4, hW5, hW6⟩ := h
  refine ⟨hn, ?_⟩
  try rintro _ rfl
  have hsz : (sizeR n).1 = 29 + 240 * (n * n) := by show 29 + 240 * n * n = _; rw [Int.mul_assoc]
  have hnn0 : 0 ≤ n * n := Int.mul_nonneg (by omega) (by omega)
  refine ⟨⟨by decide, by omega, by omega⟩, ⟨by decide, by decide⟩, ⟨by decide, by decide⟩, ⟨rfl, rfl⟩, ?_⟩
  rw [headS]
  obtain ⟨b0, e0⟩ : ∃ b0, b0 = tarnL ++ [n % 256] := ⟨_, rfl⟩
  have z0 : b0.length = 5 := by rw [e0]; rfl
  rw [← e0]
  refine putLoop rfl rfl (by omega) (uw_rng _) ⟨⟨rfl, rfl⟩, ?_⟩
  dsimp only
  refine putLoop rfl rfl (by rw [List.length_append, le8_len]; omega) (uw_rng _) ⟨⟨rfl, rfl⟩, ?_⟩
  dsimp only
  obtain ⟨b1, e1⟩ : ∃ b1, b1 = b0 ++ le8 (IntKind.u64.wrap s.2.2.2.2.2) ++ le8 (IntKind.u64.wrap s.2.2.2.2.1) := ⟨_, rfl⟩
  have z1 : b1.length = 21 := by rw [e1, List.length_append, List.length_append, le8_len, le8_len]; omega
  rw [← e1]
  refine forPut (n := s.1.length) (f := fun k => b1 ++ leS (fun i => ((s.1.getD i 0 : Nat) : Int)) k) rfl (List.append_nil _) (by omega) (fun I μ k y hk hi hm => ?_) ?_
  · dsimp only
    refine ⟨⟨by omega, by omega⟩, trivial, ⟨rfl, rfl⟩, putLoop rfl rfl (by rw [List.length_append, leS_len]; omega) ?_ ⟨⟨rfl, rfl⟩, rfl, ?_, ?_⟩⟩
    · have := hW1 _ (getD_mem hk 0)
      unfold W64 at this
      exact ⟨Int.natCast_nonneg _, by show ((s.1.getD k 0 : Nat) : Int) < _; omega⟩
    · simp only [← leS_app] at hi; exact hi
    · simp only [← leS_app] at hm; exact hm
  dsimp only
  rw [leS_all s.1 0 (fun x : Nat => (x : Int))]
  obtain ⟨b2, e2⟩ : ∃ b2, b2 = b1 ++ leL (s.1.map fun (x : Nat) => (x : Int)) := ⟨_, rfl⟩
  have z2 : (b2.length : Int) = 21 + 8 * (6 * (n * n)) := by rw [e2, List.length_append, leL_len, List.length_map]; omega
  rw [← e2]
  refine ⟨⟨rfl, rfl⟩, ?_⟩
  refine forPut (n := 2) (f := fun k => match k with | 0 => b2 | 1 => b2 ++ leL (s.2.1.map uw) | _ => b2 ++ leL (s.2.1.map uw) ++ leL (s.2.2.1.map uw)) rfl rfl (by decide) (fun I μ k y hk hi hm => ?_) ?_
  · match k, hk, hi, hm with
    | 0, _, hi, hm =>
      dsimp only
      refine ⟨⟨by decide, by decide⟩, ⟨rfl, rfl⟩, ?_⟩
      refine forPut (n := s.2.1.length) (f := fun k => b2 ++ leS (fun i => uw (s.2.1.getD i 0)) k) rfl (List.append_nil _) (by omega) (fun I μ k y hk hi hm => ?_) ?_
      · dsimp only
        refine ⟨⟨by omega, by show (k : Int) < (s.2.1.length : Int); omega⟩, ⟨rfl, rfl⟩, putLoop rfl rfl (by rw [List.length_append, leS_len]; omega) (uw_rng _) ⟨⟨rfl, rfl⟩, rfl, ?_, ?_⟩⟩
        · simp only [← leS_app] at hi; exact hi
        · simp only [← leS_app] at hm; exact hm
      dsimp only
      rw [leS_all s.2.1 0 uw]
      exact ⟨⟨rfl, rfl⟩, rfl, hi, hm⟩
    | 1, _, hi, hm =>
      dsimp only
      refine ⟨⟨by decide, by decide⟩, ⟨rfl, rfl⟩, ?_⟩
      have z3 : ((b2 ++ leL (s.2.1.map uw)).length : Int) = 21 + 16 * (6 * (n * n)) := by rw [List.length_append, leL_len, List.length_map]; omega
      refine forPut (n := s.2.2.1.length) (f := fun k => b2 ++ leL (s.2.1.map uw) ++ leS (fun i => uw (s.2.2.1.getD i 0)) k) rfl (List.append_nil _) (by omega) (fun I μ k y hk hi hm => ?_) ?_
      · dsimp only
        refine ⟨⟨by omega, by show (k : Int) < (s.2.2.1.length : Int); omega⟩, ⟨rfl, rfl⟩, putLoop rfl rfl (by rw [List.length_append, leS_len]; omega) (uw_rng _) ⟨⟨rfl, rfl⟩, rfl, ?_, ?_⟩⟩
        · simp only [← leS_app] at hi; exact hi
        · simp only [← leS_app] at hm; exact hm
      dsimp only
      rw [leS_all s.2.2.1 0 uw]
      exact ⟨⟨rfl, rfl⟩, rfl, hi, hm⟩
  dsimp only
  obtain ⟨b4, e4⟩ : ∃ b4, b4 = b2 ++ leL (s.2.1.map uw) ++ leL (s.2.2.1.map uw) := ⟨_, rfl⟩
  have z4 : (b4.length : Int) = 21 + 24 * (6 * (n * n)) := by rw [e4, List.length_append, List.length_append, leL_len, leL_len, List.length_map, List.length_map]; omega
  rw [← e4]
  refine ⟨⟨rfl, rfl⟩, ?_⟩
  refine forPut (n := s.2.2.2.1.length) (f := fun k => b4 ++ leS (fun i => ((s.2.2.2.1.getD i 0 : Nat) : Int)) k) rfl (List.append_nil _) (by omega) (fun I μ k y hk hi hm => ?_) ?_
  · dsimp only
    refine ⟨⟨by omega, by omega⟩, trivial, ⟨rfl, rfl⟩, putLoop rfl rfl (by rw [List.length_append, leS_len]; omega) ?_ ⟨⟨rfl, rfl⟩, rfl, ?_, ?_⟩⟩
    · have := hW4 _ (getD_mem hk 0)
      unfold W64 at this
      exact ⟨Int.natCast_nonneg _, by show ((s.2.2.2.1.getD k 0 : Nat) : Int) < _; omega⟩
    · simp only [← leS_app] at hi; exact hi
    · simp only [← leS_app] at hm; exact hm
  dsimp only
  rw [leS_all s.2.2.2.1 0 (fun x : Nat => (x : Int))]
  have e5 : b4 ++ leL (s.2.2.2.1.map fun (x : Nat) => (x : Int)) = seaL n s := by
    rw [e4, e2, e1, e0]
    simp only [seaL, headL, restL, List.append_assoc]
    rfl
  have z5 : ((seaL n s).length : Int) = 21 + 40 * (6 * (n * n)) := by rw [← e5, List.length_append, leL_len, List.length_map]; omega
  have r5 : BLs (seaL n s) := by
    rw [← e5, e4, e2, e1, e0]
    exact ((((((head_rng n).app (le8_rng _)).app (le8_rng _)).app (leL_rng _)).app (leL_rng _)).app (leL_rng _)).app (leL_rng _)
  rw [e5, List.drop_zero, List.take_length]
  refine ⟨r5, ?_⟩
  rintro _ rfl
  exact ⟨⟨rfl, rfl⟩, putLoop rfl rfl (by omega) (sumR_rng _) (by dsimp only; rw [List.drop_zero, List.take_length]; exact enI_good e)⟩
end Go.Lift

set_option linter.unusedVariables false
set_option linter.unusedSimpArgs false
namespace Go.Lift
def Fx_state_between := fun (a b c : Nat) (post : Bool × Unit → Prop) => ∀ (a_1 : Bool), a_1 = fcmp Go.BinOp.geq (Go.FloatKind.f64.format.order a b) → Br a_1 (∀ (a_2 : Bool), a_2 =
  fcmp Go.BinOp.leq (Go.FloatKind.f64.format.order a c) → Br a_2 (∃ (h : True), ∀ (a_3 : Bool), a_3 = ((bitsR a).fst != (9223372036854775808 : Int)) → post (a_3, ())) (post
  (Bool.false, ()))) (post (Bool.false, ()))
theorem Lx_state_between (a : Nat) (b : Nat) (c : Nat) (h : W3 a b c) : Fx_state_between  a b c (fun r => r = betweenR a b c) := by
  have nz : ∀ x : Nat, ((x : Int) != (9223372036854775808 : Int)) = decide (x ≠ 9223372036854775808) := by
    intro x
    show (!((x : Int) == ((9223372036854775808 : Nat) : Int))) = _
    rw [beq_nat]
    by_cases q : x = 9223372036854775808
    · rw [decide_eq_true q, decide_eq_false (by simpa using q)]; rfl
    · rw [decide_eq_false q, decide_eq_true q]; rfl
  rintro _ rfl
  refine Br.intro (fun e => ?_) fun e => ?_
  · rintro _ rfl
    refine Br.intro (fun f => ?_) fun f => ?_
    · refine ⟨trivial, ?_⟩
      rintro _ rfl
      refine congrArg r1 ?_
      show ((a : Int) != (9223372036854775808 : Int)) = betweenF a b c
      unfold betweenF
      rw [nz, show fcmp .geq (Ieee.double.order a b) = true from e, show fcmp .leq (Ieee.double.order a c) = true from f]; rfl
    · exact congrArg r1 (by unfold betweenF; rw [show fcmp .leq (Ieee.double.order a c) = false from f, Bool.and_false]; rfl)
  · exact congrArg r1 (by unfold betweenF; rw [show fcmp .geq (Ieee.double.order a b) = false from e]; rfl)
def Fx_state_floats := fun (ty47 : Nat) (a : List Nat) (b : Nat) (post : Int × Unit → Prop) => HIs [HObj.box Md.rw ty47 [SV.val (Go.Value.float Go.FloatKind.f64 b)]] [HObj.box Md.rw
  ty47 [SV.val (Go.Value.float Go.FloatKind.f64 b)]] ∧ ∃ (I : Int × Unit → Unit → Prop), ∃ (μ : Int × Unit → Unit → Nat), I ((0 : Int), ()) () ∧ ∀ (x : Int × Unit) (y : Unit), I x y
  → ∀ (a_1 : Bool), a_1 = decide (x.fst < (↑a.length : Int)) → Br a_1 (∃ (h : (0 : Int) ≤ x.fst ∧ x.fst < (↑a.length : Int)), ∃ (h : W3 (a.getD x.fst.toNat (0 : Nat))
  (Go.Op.negFloat Go.FloatKind.f64 b) b), ∀ (a_2 : Bool), a_2 = (betweenR (a.getD x.fst.toNat (0 : Nat)) (Go.Op.negFloat Go.FloatKind.f64 b) b).fst → Br (!a_2) (post (x.fst, ()))
  (HIs [HObj.box Md.rw ty47 [SV.val (Go.Value.float Go.FloatKind.f64 b)]] [HObj.box Md.rw ty47 [SV.val (Go.Value.float Go.FloatKind.f64 b)]] ∧ I (IntKind.i64.wrap (x.fst + (1 :
  Int)), ()) () ∧ μ (IntKind.i64.wrap (x.fst + (1 : Int)), ()) () < μ x y)) (post ((-1 : Int), ()))
theorem Lx_state_floats (ty0 : Nat) (a : List Nat) (b : Nat) (h : WLF a b) (w : KS.wf [.slice (.flt .f64), .flt .f64] (a, b, ())) : Fx_state_floats ty0 a b (fun r => r = floatsR a b) := by
  have hl : a.length ≤ maxN := w.1.1
  unfold maxN at hl
  refine ⟨rfl, fun x _ => ∃ i : Nat, x.1 = i ∧ i ≤ a.length ∧ floatsI a b = firstI (fun x => !betweenF x (negF b) b) i (a.drop i), fun x _ => a.length - x.1.toNat, ⟨0, rfl, by omega, rfl⟩, ?_⟩
  rintro ⟨_, ⟨⟩⟩ _ ⟨i, rfl, hil, hi⟩
  dsimp only
  rintro _ rfl
  refine Br.intro (fun e => ?_) fun e => ?_
  · have e : i < a.length := by have := of_decide_eq_true e; omega
    refine ⟨⟨by omega, by omega⟩, ?_⟩
    rw [Int.toNat_natCast]
    rw [drop_step e 0, firstI_cons] at hi
    refine ⟨⟨h.1 _ (getD_mem e 0), negF_w h.2, h.2⟩, ?_⟩
    rintro _ rfl
    refine Br.intro (fun f => ?_) fun f => ?_
    · refine congrArg r1 ?_
      rw [hi]
      rw [if_pos (show (!betweenF (a.getD i 0) (negF b) b) = true from f)]
    · rw [if_neg (by rw [show (!betweenF (a.getD i 0) (negF b) b) = false from f]; decide)] at hi
      rw [wi_succ e (by omega)]
      exact ⟨rfl, ⟨i + 1, rfl, by omega, hi⟩, by omega⟩
  · have e : ¬ i < a.length := by have := of_decide_eq_false e; omega
    refine congrArg r1 ?_
    rw [hi, List.drop_eq_nil_of_le (by omega)]; rfl
def Fx_state_quanta := fun (ty2 : Nat) (a : List Int) (b : Int) (post : Int × Unit → Prop) => HIs [HObj.box Md.rw ty2 [SV.junk]] [HObj.box Md.rw ty2 [SV.junk]] ∧ ∃ (I : Int × Int ×
  Unit → Unit → Prop), ∃ (μ : Int × Int × Unit → Unit → Nat), I ((0 : Int), b, ()) () ∧ ∀ (x : Int × Int × Unit) (y : Unit), I x y → ∀ (a_1 : Bool), a_1 = decide (x.fst < (↑a.length
  : Int)) → Br a_1 (∃ (h : (0 : Int) ≤ x.fst ∧ x.fst < (↑a.length : Int)), ∀ (a_2 : Bool), a_2 = decide (a.getD x.fst.toNat (0 : Int) < (0 : Int)) → Br a_2 (post (x.fst, ())) (∀
  (a_3 : Bool), a_3 = decide (a.getD x.fst.toNat (0 : Int) > IntKind.i64.wrap ((4503599627370496 : Int) - x.snd.fst)) → Br a_3 (post (x.fst, ())) (HIs [HObj.box Md.rw ty2 [SV.junk]]
  [HObj.box Md.rw ty2 [SV.junk]] ∧ I (IntKind.i64.wrap (x.fst + (1 : Int)), IntKind.i64.wrap (x.snd.fst + a.getD x.fst.toNat (0 : Int)), ()) () ∧ μ (IntKind.i64.wrap (x.fst + (1 :
  Int)), IntKind.i64.wrap (x.snd.fst + a.getD x.fst.toNat (0 : Int)), ()) () < μ x y))) (post ((-1 : Int), ()))
theorem Lx_state_quanta (ty0 : Nat) (a : List Int) (b : Int) (h : WQuanta a b) (w : KS.wf [.slice (.int .i64), .int .i64] (a, b, ())) : Fx_state_quanta ty0 a b (fun r => r = quantaR a b) := by
  have hl : a.length ≤ maxN := w.1.1
  unfold maxN at hl
  obtain ⟨ha, hb0, hb1⟩ := h
  refine ⟨rfl, fun x _ => ∃ i : Nat, x.1 = i ∧ i ≤ a.length ∧ 0 ≤ x.2.1 ∧ x.2.1 ≤ 4503599627370496 ∧ quantaN 0 b a = quantaN i x.2.1 (a.drop i), fun x _ => a.length - x.1.toNat, ⟨0, rfl, by omega, hb0, hb1, rfl⟩, ?_⟩
  rintro ⟨_, s, ⟨⟩⟩ _ ⟨i, rfl, hil, h0, h1, hi⟩
  dsimp only at h0 h1 hi ⊢
  have ws : IntKind.i64.wrap (4503599627370496 - s) = 4503599627370496 - s := wi ⟨by omega, by omega⟩
  rintro _ rfl
  refine Br.intro (fun e => ?_) fun e => ?_
  · have e : i < a.length := by have := of_decide_eq_true e; omega
    refine ⟨⟨by omega, by omega⟩, ?_⟩
    rw [Int.toNat_natCast, ws]
    rw [drop_step e 0, quantaN_cons] at hi
    have hr := ha _ (getD_mem e 0)
    rintro _ rfl
    refine Br.intro (fun f => ?_) fun f => ?_
    · refine congrArg r1 ?_
      rw [hi]
      rw [if_pos (.inl (of_decide_eq_true f))]
    have f := of_decide_eq_false f
    rintro _ rfl
    refine Br.intro (fun g => ?_) fun g => ?_
    · refine congrArg r1 ?_
      rw [hi]
      rw [if_pos (.inr (of_decide_eq_true g))]
    · have g := of_decide_eq_false g
      rw [if_neg (by omega)] at hi
      rw [wi_succ e (by omega), wi (x := s + a.getD i 0) ⟨by omega, by omega⟩]
      exact ⟨rfl, ⟨i + 1, rfl, by omega, by omega, by omega, hi⟩, by omega⟩
  · have e : ¬ i < a.length := by have := of_decide_eq_false e; omega
    refine congrArg r1 ?_
    rw [hi, List.drop_eq_nil_of_le (by omega)]; rfl
def Fx_state_Check := fun (n : Int) (s : List Nat × List Int × List Int × List Nat × Int × Int) (post : Int × Int × Unit → Prop) => ∃ (h : I64 n), Br ((cellsR n).fst == (0 : Int))
  (post ((0 : Int), (10 : Int), ())) (∃ (h : (2 : Int) ≠ (0 : Int)), ∃ (h : (0 : Int) ≤ (0 : Int) ∧ (0 : Int) < (↑(4 : Nat) : Int)), Br ([(↑s.fst.length : Int), (↑s.snd.fst.length :
  Int), (↑s.snd.snd.fst.length : Int), IntKind.i64.wrap ((↑s.snd.snd.snd.fst.length : Int).tdiv (2 : Int))].getD (Int.toNat (0 : Int)) (0 : Int) != (cellsR n).fst) (post ((0 : Int),
  (12 : Int), ())) (∃ (h : (0 : Int) ≤ IntKind.i64.wrap ((0 : Int) + (1 : Int)) ∧ IntKind.i64.wrap ((0 : Int) + (1 : Int)) < (↑(4 : Nat) : Int)), Br ([(↑s.fst.length : Int),
  (↑s.snd.fst.length : Int), (↑s.snd.snd.fst.length : Int), IntKind.i64.wrap ((↑s.snd.snd.snd.fst.length : Int).tdiv (2 : Int))].getD (IntKind.i64.wrap ((0 : Int) + (1 :
  Int))).toNat (0 : Int) != (cellsR n).fst) (post (IntKind.i64.wrap ((0 : Int) + (1 : Int)), (12 : Int), ())) (∃ (h : (0 : Int) ≤ IntKind.i64.wrap (IntKind.i64.wrap ((0 : Int) + (1
  : Int)) + (1 : Int)) ∧ IntKind.i64.wrap (IntKind.i64.wrap ((0 : Int) + (1 : Int)) + (1 : Int)) < (↑(4 : Nat) : Int)), Br ([(↑s.fst.length : Int), (↑s.snd.fst.length : Int),
  (↑s.snd.snd.fst.length : Int), IntKind.i64.wrap ((↑s.snd.snd.snd.fst.length : Int).tdiv (2 : Int))].getD (IntKind.i64.wrap (IntKind.i64.wrap ((0 : Int) + (1 : Int)) + (1 :
  Int))).toNat (0 : Int) != (cellsR n).fst) (post (IntKind.i64.wrap (IntKind.i64.wrap ((0 : Int) + (1 : Int)) + (1 : Int)), (12 : Int), ())) (∃ (h : (0 : Int) ≤ IntKind.i64.wrap
  (IntKind.i64.wrap (IntKind.i64.wrap ((0 : Int) + (1 : Int)) + (1 : Int)) + (1 : Int)) ∧ IntKind.i64.wrap (IntKind.i64.wrap (IntKind.i64.wrap ((0 : Int) + (1 : Int)) + (1 : Int)) +
  (1 : Int)) < (↑(4 : Nat) : Int)), Br ([(↑s.fst.length : Int), (↑s.snd.fst.length : Int), (↑s.snd.snd.fst.length : Int), IntKind.i64.wrap ((↑s.snd.snd.snd.fst.length : Int).tdiv (2
  : Int))].getD (IntKind.i64.wrap (IntKind.i64.wrap (IntKind.i64.wrap ((0 : Int) + (1 : Int)) + (1 : Int)) + (1 : Int))).toNat (0 : Int) != (cellsR n).fst) (post (IntKind.i64.wrap
  (IntKind.i64.wrap (IntKind.i64.wrap ((0 : Int) + (1 : Int)) + (1 : Int)) + (1 : Int)), (12 : Int), ())) (Br ((↑s.snd.snd.snd.fst.length : Int) != IntKind.i64.wrap ((2 : Int) *
  (cellsR n).fst)) (post (IntKind.i64.wrap (IntKind.i64.wrap (IntKind.i64.wrap ((0 : Int) + (1 : Int)) + (1 : Int)) + (1 : Int)), (12 : Int), ())) (∃ (h : WLF s.fst
  (4697254411347427328 : Nat)), Br (decide ((floatsR s.fst (4697254411347427328 : Nat)).fst ≥ (0 : Int))) (post ((floatsR s.fst (4697254411347427328 : Nat)).fst, (13 : Int), ()))
  (Br (decide (s.snd.snd.snd.snd.fst < (0 : Int))) (post ((0 : Int), (17 : Int), ())) (Br (decide (s.snd.snd.snd.snd.fst > (4503599627370496 : Int))) (post ((0 : Int), (17 : Int),
  ())) (∃ (h : WQuanta s.snd.fst s.snd.snd.snd.snd.fst), Br (decide ((quantaR s.snd.fst s.snd.snd.snd.snd.fst).fst ≥ (0 : Int))) (post ((quantaR s.snd.fst
  s.snd.snd.snd.snd.fst).fst, (14 : Int), ())) (∃ (h : WQuanta s.snd.snd.fst (0 : Int)), Br (decide ((quantaR s.snd.snd.fst (0 : Int)).fst ≥ (0 : Int))) (post ((quantaR
  s.snd.snd.fst (0 : Int)).fst, (15 : Int), ())) (∃ (h : WLF s.snd.snd.snd.fst (4652218415073722368 : Nat)), Br (decide ((floatsR s.snd.snd.snd.fst (4652218415073722368 : Nat)).fst
  ≥ (0 : Int))) (post ((floatsR s.snd.snd.snd.fst (4652218415073722368 : Nat)).fst, (16 : Int), ())) (Br (decide (s.snd.snd.snd.snd.snd < (0 : Int))) (post ((0 : Int), (1 : Int),
  ())) (Br (decide (s.snd.snd.snd.snd.snd > (4611686018427387904 : Int))) (post ((0 : Int), (1 : Int), ())) (post ((0 : Int), (0 : Int), ())))))))))))))))
theorem Lx_state_Check (n : Int) (s : (List Nat) × (List Int) × (List Int) × (List Nat) × Int × Int) (h : WCheck n s) (w : KS.wf [.int .i64, kSea] (n, s, ())) : Fx_state_Check  n s (fun r => r = checkR n s) := by
  obtain ⟨hn, hb, hw, ht, hs, h4, h5⟩ := h
  have l1 : s.1.length ≤ maxN := w.2.1.1.1
  have l2 : s.2.2.2.1.length ≤ maxN := w.2.1.2.2.2.1.1
  unfold maxN at l1 l2
  obtain ⟨c0, c1⟩ := cells_rng n
  have wc : IntKind.i64.wrap (2 * cellsI n) = 2 * cellsI n := wi ⟨by omega, by omega⟩
  have td : (s.2.2.2.1.length : Int).tdiv 2 = (s.2.2.2.1.length : Int) / 2 := Int.tdiv_eq_ediv_of_nonneg (by omega)
  have wd : IntKind.i64.wrap ((s.2.2.2.1.length : Int) / 2) = (s.2.2.2.1.length : Int) / 2 := wi ⟨by omega, by omega⟩
  refine ⟨hn, Br.intro (fun e => ?_) fun e => ?_⟩
  · have e : cellsI n = 0 := eq_of_beq e
    show _ = ((checkI n s).1, (checkI n s).2, ())
    unfold checkI; rw [if_pos e]
  have e0 : ¬ cellsI n = 0 := by intro q; have e : (cellsI n == 0) = false := e; rw [q] at e; cases e
  refine ⟨by decide, ⟨by decide, by decide⟩, Br.intro (fun e => ?_) fun e => ?_⟩
  · have e : (s.1.length : Int) ≠ cellsI n := bne_int.1 e
    show _ = ((checkI n s).1, (checkI n s).2, ())
    unfold checkI; rw [if_neg e0, if_pos e]
  have e1 : (s.1.length : Int) = cellsI n := bne_int.2 e
  refine ⟨⟨by decide, by decide⟩, Br.intro (fun e => ?_) fun e => ?_⟩
  · have e : (s.2.1.length : Int) ≠ cellsI n := bne_int.1 e
    show _ = ((checkI n s).1, (checkI n s).2, ())
    unfold checkI; rw [if_neg e0, if_neg (by omega), if_pos e]; rfl
  have e2 : (s.2.1.length : Int) = cellsI n := bne_int.2 e
  refine ⟨⟨by decide, by decide⟩, Br.intro (fun e => ?_) fun e => ?_⟩
  · have e : (s.2.2.1.length : Int) ≠ cellsI n := bne_int.1 e
    show _ = ((checkI n s).1, (checkI n s).2, ())
    unfold checkI; rw [if_neg e0, if_neg (by omega), if_neg (by omega), if_pos e]; rfl
  have e3 : (s.2.2.1.length : Int) = cellsI n := bne_int.2 e
  have no3 : (s.2.2.2.1.length : Int) ≠ 2 * cellsI n → ((3 : Int), (12 : Int), ()) = checkR n s := by
    intro e
    show _ = ((checkI n s).1, (checkI n s).2, ())
    unfold checkI; rw [if_neg e0, if_neg (by omega), if_neg (by omega), if_neg (by omega), if_pos e]
  refine ⟨⟨by decide, by decide⟩, Br.intro (fun e => ?_) fun e => ?_⟩
  · have e : IntKind.i64.wrap ((s.2.2.2.1.length : Int).tdiv 2) ≠ cellsI n := bne_int.1 e
    rw [td, wd] at e
    exact no3 (by omega)
  refine Br.intro (fun e => ?_) fun e => ?_
  · have e : (s.2.2.2.1.length : Int) ≠ IntKind.i64.wrap (2 * cellsI n) := bne_int.1 e
    rw [wc] at e
    exact no3 e
  have e4 : (s.2.2.2.1.length : Int) = IntKind.i64.wrap (2 * cellsI n) := bne_int.2 e
  rw [wc] at e4
  have base : checkI n s = if 0 ≤ floatsI s.1 4697254411347427328 then (floatsI s.1 4697254411347427328, 13)
    else if s.2.2.2.2.1 < 0 ∨ s.2.2.2.2.1 > 4503599627370496 then (0, 17)
    else if 0 ≤ quantaN 0 s.2.2.2.2.1 s.2.1 then (quantaN 0 s.2.2.2.2.1 s.2.1, 14)
    else if 0 ≤ quantaN 0 0 s.2.2.1 then (quantaN 0 0 s.2.2.1, 15)
    else if 0 ≤ floatsI s.2.2.2.1 4652218415073722368 then (floatsI s.2.2.2.1 4652218415073722368, 16)
    else if s.2.2.2.2.2 < 0 ∨ s.2.2.2.2.2 > 4611686018427387904 then (0, 1)
    else (0, 0) := by
    show (if cellsI n = 0 then _ else _) = _
    rw [if_neg e0, if_neg (by omega), if_neg (by omega), if_neg (by omega), if_neg (by omega)]
  have fin : ∀ p q, checkI n s = (p, q) → (p, q, ()) = checkR n s := by intro p q e; show _ = ((checkI n s).1, (checkI n s).2, ()); rw [e]
  refine ⟨⟨hb, by unfold W64; decide⟩, Br.intro (fun e => fin _ _ ?_) fun e => ?_⟩
  · have e : 0 ≤ floatsI s.1 4697254411347427328 := of_decide_eq_true e
    rw [base, if_pos e]; rfl
  have f1 : ¬ 0 ≤ floatsI s.1 4697254411347427328 := of_decide_eq_false e
  rw [if_neg f1] at base
  refine Br.intro (fun e => fin _ _ ?_) fun e => ?_
  · rw [base, if_pos (.inl (of_decide_eq_true e))]
  have f2 := of_decide_eq_false e
  refine Br.intro (fun e => fin _ _ ?_) fun e => ?_
  · rw [base, if_pos (.inr (of_decide_eq_true e))]
  have f3 := of_decide_eq_false e
  rw [if_neg (by omega)] at base
  refine ⟨⟨hw, by omega, by omega⟩, Br.intro (fun e => fin _ _ ?_) fun e => ?_⟩
  · have e : 0 ≤ quantaN 0 s.2.2.2.2.1 s.2.1 := of_decide_eq_true e
    rw [base, if_pos e]; rfl
  have f4 : ¬ 0 ≤ quantaN 0 s.2.2.2.2.1 s.2.1 := of_decide_eq_false e
  rw [if_neg f4] at base
  refine ⟨⟨ht, by omega, by omega⟩, Br.intro (fun e => fin _ _ ?_) fun e => ?_⟩
  · have e : 0 ≤ quantaN 0 0 s.2.2.1 := of_decide_eq_true e
    rw [base, if_pos e]; rfl
  have f5 : ¬ 0 ≤ quantaN 0 0 s.2.2.1 := of_decide_eq_false e
  rw [if_neg f5] at base
  refine ⟨⟨hs, by unfold W64; decide⟩, Br.intro (fun e => fin _ _ ?_) fun e => ?_⟩
  · have e : 0 ≤ floatsI s.2.2.2.1 4652218415073722368 := of_decide_eq_true e
    rw [base, if_pos e]; rfl
  have f6 : ¬ 0 ≤ floatsI s.2.2.2.1 4652218415073722368 := of_decide_eq_false e
  rw [if_neg f6] at base
  refine Br.intro (fun e => fin _ _ ?_) fun e => ?_
  · rw [base, if_pos (.inl (of_decide_eq_true e))]
  have f7 := of_decide_eq_false e
  refine Br.intro (fun e => fin _ _ ?_) fun e => fin _ _ ?_
  · rw [base, if_pos (.inr (of_decide_eq_true e))]
  have f8 := of_decide_eq_false e
  rw [base, if_neg (by omega)]
end Go.Lift

set_option linter.unusedVariables false
set_option linter.unusedSimpArgs false
namespace Go.Lift
open Go.Proofs
def Nx_state_between : Cx := ⟨tabOf Ntab, conOf [(45, Nq_math_Float64bits)], NG⟩
theorem Nx_state_between_ok : CxOk Tryz.prog Nx_state_between := ⟨tabB_sound Ntab_ok, conOf_sound ⟨Nh_math_Float64bits, trivial⟩⟩
theorem Nat_state_between : FnAt Tryz.prog 100 Tryz.f100.ntmps Tryz.f100.results.toList (Tryz.f100.body.getD .skip) := ⟨Tryz.f100, Tryz.func100, rfl, rfl, by simp, by decide⟩
theorem Neq_state_between (a : Nat) (b : Nat) (c : Nat) (post : Bool × Unit → Prop) : fnEval Nx_state_between nHn Tryz.f100.ntmps Tryz.f100.results.toList (Tryz.f100.body.getD .skip) [.flt .f64, .flt .f64, .flt .f64] [.snap .bool] (a, b, c, ()) post = Fx_state_between  a b c post := by kernel_rfl
theorem Nh_state_between : Nq_state_between.holds Tryz.prog NG 100 :=
  detP Nx_state_between_ok Nmixed nHn Nat_state_between (F := fun x post => Fx_state_between  x.1 x.2.1 x.2.2.1 post) (fun x post => Neq_state_between x.1 x.2.1 x.2.2.1 post) fun x h _ => Lx_state_between  x.1 x.2.1 x.2.2.1 h
def Nx_state_floats : Cx := ⟨tabOf Ntab, conOf [(100, Nq_state_between)], NG⟩
theorem Nx_state_floats_ok : CxOk Tryz.prog Nx_state_floats := ⟨tabB_sound Ntab_ok, conOf_sound ⟨Nh_state_between, trivial⟩⟩
theorem Nat_state_floats : FnAt Tryz.prog 59 Tryz.f59.ntmps Tryz.f59.results.toList (Tryz.f59.body.getD .skip) := ⟨Tryz.f59, Tryz.func59, rfl, rfl, by simp, by decide⟩
theorem Neq_state_floats (a : List Nat) (b : Nat) (post : Int × Unit → Prop) : fnEvalI Nx_state_floats Nhn_state_floats (callLvl Nx_state_floats Nfns_idxF 6) Tryz.f59.ntmps Tryz.f59.results.toList (Tryz.f59.body.getD .skip) [.slice (.flt .f64), .flt .f64] [.snap (.int .i64)] (a, b, ()) post = Fx_state_floats 53 a b post := by kernel_rfl
theorem Nh_state_floats : Nq_state_floats.holds Tryz.prog NG 59 :=
  detPI Nx_state_floats_ok Nmixed Nhn_state_floats (callLvl_ok Nx_state_floats_ok Nmixed Nfns_idxF_ok 6) Nat_state_floats (F := fun x post => Fx_state_floats 53 x.1 x.2.1 post) (fun x post => Neq_state_floats x.1 x.2.1 post) fun x h w => Lx_state_floats 53 x.1 x.2.1 h w
def Nx_state_quanta : Cx := ⟨tabOf Ntab, conOf [], NG⟩
theorem Nx_state_quanta_ok : CxOk Tryz.prog Nx_state_quanta := ⟨tabB_sound Ntab_ok, fun f c h => by cases h⟩
theorem Nat_state_quanta : FnAt Tryz.prog 60 Tryz.f60.ntmps Tryz.f60.results.toList (Tryz.f60.body.getD .skip) := ⟨Tryz.f60, Tryz.func60, rfl, rfl, by simp, by decide⟩
theorem Neq_state_quanta (a : List Int) (b : Int) (post : Int × Unit → Prop) : fnEvalI Nx_state_quanta Nhn_state_quanta (callLvl Nx_state_quanta Nfns_idxI 6) Tryz.f60.ntmps Tryz.f60.results.toList (Tryz.f60.body.getD .skip) [.slice (.int .i64), .int .i64] [.snap (.int .i64)] (a, b, ()) post = Fx_state_quanta 2 a b post := by kernel_rfl
theorem Nh_state_quanta : Nq_state_quanta.holds Tryz.prog NG 60 :=
  detPI Nx_state_quanta_ok Nmixed Nhn_state_quanta (callLvl_ok Nx_state_quanta_ok Nmixed Nfns_idxI_ok 6) Nat_state_quanta (F := fun x post => Fx_state_quanta 2 x.1 x.2.1 post) (fun x post => Neq_state_quanta x.1 x.2.1 post) fun x h w => Lx_state_quanta 2 x.1 x.2.1 h w
def Nx_state_Check : Cx := ⟨tabOf Ntab, conOf [(58, Nq_cube_Cells), (59, Nq_state_floats), (60, Nq_state_quanta)], NG⟩
theorem Nx_state_Check_ok : CxOk Tryz.prog Nx_state_Check := ⟨tabB_sound Ntab_ok, conOf_sound ⟨Nh_cube_Cells, Nh_state_floats, Nh_state_quanta, trivial⟩⟩
theorem Nat_state_Check : FnAt Tryz.prog 24 Tryz.f24.ntmps Tryz.f24.results.toList (Tryz.f24.body.getD .skip) := ⟨Tryz.f24, Tryz.func24, rfl, rfl, by simp, by decide⟩
theorem Neq_state_Check (n : Int) (s : (List Nat) × (List Int) × (List Int) × (List Nat) × Int × Int) (post : Int × Int × Unit → Prop) : fnEval Nx_state_Check Nhn_state_Check Tryz.f24.ntmps Tryz.f24.results.toList (Tryz.f24.body.getD .skip) [.int .i64, kSea] [.snap (.int .i64), .snap (.int .i64)] (n, s, ()) post = Fx_state_Check  n s post := by kernel_rfl
theorem Nh_state_Check : Nq_state_Check.holds Tryz.prog NG 24 :=
  detP Nx_state_Check_ok Nmixed Nhn_state_Check Nat_state_Check (F := fun x post => Fx_state_Check  x.1 x.2.1 post) (fun x post => Neq_state_Check x.1 x.2.1 post) fun x h w => Lx_state_Check  x.1 x.2.1 h w
end Go.Lift

set_option linter.unusedVariables false
set_option linter.unusedSimpArgs false
namespace Go.Lift
def Fx_save_Sum := fun (b : List Int) (post : Int × Unit → Prop) => HIs [] [] ∧ ∃ (I : Int × Int × Unit → Unit → Prop), ∃ (μ : Int × Int × Unit → Unit → Nat), I
  ((14695981039346656037 : Int), (0 : Int), ()) () ∧ ∀ (x : Int × Int × Unit) (y : Unit), I x y → ∀ (a : Bool), a = decide (x.snd.fst < (↑b.length : Int)) → Br a (∃ (h : (0 : Int) ≤
  x.snd.fst ∧ x.snd.fst < (↑b.length : Int)), HIs [] [] ∧ I (IntKind.u64.wrap (Go.bits Go.BinOp.xor IntKind.u64 x.fst (IntKind.u64.wrap (b.getD x.snd.fst.toNat (0 : Int))) *
  (1099511628211 : Int)), IntKind.i64.wrap (x.snd.fst + (1 : Int)), ()) () ∧ μ (IntKind.u64.wrap (Go.bits Go.BinOp.xor IntKind.u64 x.fst (IntKind.u64.wrap (b.getD x.snd.fst.toNat (0
  : Int))) * (1099511628211 : Int)), IntKind.i64.wrap (x.snd.fst + (1 : Int)), ()) () < μ x y) (post (x.fst, ()))
theorem Lx_save_Sum (b : List Int) (h : BLs b) (w : KS.wf [.slice (.int .u8)] (b, ())) : Fx_save_Sum  b (fun r => r = sumR b) := by
  have hl : b.length ≤ maxN := w.1.1
  have hm : maxN ≤ 9223372036854775807 := by decide
  refine ⟨rfl, fun x _ => ∃ k : Nat, x.2.1 = k ∧ k ≤ b.length ∧ x.1 = sumF (b.take k), fun x _ => b.length - x.2.1.toNat, ⟨0, rfl, by omega, rfl⟩, ?_⟩
  rintro ⟨_, _, ⟨⟩⟩ _ ⟨k, rfl, hk, rfl⟩
  dsimp only
  rintro _ rfl
  refine Br.intro (fun e => ?_) fun e => ?_
  · have e : k < b.length := by have := of_decide_eq_true e; omega
    rw [Int.toNat_natCast, uB (getB h k), wi_succ e (by omega)]
    exact ⟨⟨by omega, by omega⟩, rfl, ⟨k + 1, rfl, by omega, (sumF_take e).symm⟩, by omega⟩
  · have e : k = b.length := by have := of_decide_eq_false e; omega
    subst e
    rw [List.take_length]; rfl
def Fx_save_size := fun (n : Int) (post : Int × Unit → Prop) => post (IntKind.i64.wrap ((29 : Int) + IntKind.i64.wrap (IntKind.i64.wrap ((240 : Int) * n) * n)), ())
theorem Lx_save_size (n : Int) (h : WSide n) : Fx_save_size  n (fun r => r = sizeR n) := by
  obtain ⟨h1, h2⟩ := h
  have a : n * n ≤ 32 * 32 := Int.mul_le_mul h2 h2 (by omega) (by omega)
  have b : 0 ≤ n * n := Int.mul_nonneg (by omega) (by omega)
  have e : 240 * n * n = 240 * (n * n) := Int.mul_assoc _ _ _
  show (IntKind.i64.wrap (29 + IntKind.i64.wrap (IntKind.i64.wrap (240 * n) * n)), ()) = sizeR n
  rw [wi (x := 240 * n) ⟨by omega, by omega⟩, e, wi (x := 240 * (n * n)) ⟨by omega, by omega⟩, wi ⟨by omega, by omega⟩]
  unfold sizeR sizeI
  rw [e]
def Fx_raw_All := fun (a b : List Nat) (post : Bool × Unit → Prop) => ∀ (a_1 : Bool), a_1 = ((↑a.length : Int) != (↑b.length : Int)) → Br a_1 (post (Bool.false, ())) (HIs [] [] ∧ ∃
  (I : Int × Unit → Unit → Prop), ∃ (μ : Int × Unit → Unit → Nat), I ((0 : Int), ()) () ∧ ∀ (x : Int × Unit) (y : Unit), I x y → ∀ (a_2 : Bool), a_2 = decide (x.fst < (↑a.length :
  Int)) → Br a_2 (∃ (h : (0 : Int) ≤ x.fst ∧ x.fst < (↑a.length : Int)), ∃ (h : (0 : Int) ≤ x.fst ∧ x.fst < (↑b.length : Int)), ∃ (h : True), ∀ (a_3 : Bool), a_3 = (sameR (a.getD
  x.fst.toNat (0 : Nat)) (b.getD x.fst.toNat (0 : Nat))).fst → Br (!a_3) (post (Bool.false, ())) (HIs [] [] ∧ I (IntKind.i64.wrap (x.fst + (1 : Int)), ()) () ∧ μ (IntKind.i64.wrap
  (x.fst + (1 : Int)), ()) () < μ x y)) (post (Bool.true, ())))
theorem Lx_raw_All (a : List Nat) (b : List Nat) (w : KS.wf [.slice (.flt .f64), .slice (.flt .f64)] (a, b, ())) : Fx_raw_All  a b (fun r => r = allR a b) := by
  have ha : a.length ≤ maxN := w.1.1
  have hm : maxN ≤ 9223372036854775807 := by decide
  rintro _ rfl
  refine Br.intro (fun e => congrArg r1 ?_) fun e => ?_
  · have e : ¬ a.length = b.length := fun q => by rw [q] at e; simp at e
    exact (beq_eq_false_iff_ne.2 fun q => e (congrArg List.length q)).symm
  have e : a.length = b.length := by
    have : ((a.length : Int) == (b.length : Int)) = true := by
      have e : (!((a.length : Int) == (b.length : Int))) = false := e
      simpa using e
    have := beq_iff_eq.1 this
    omega
  refine ⟨rfl, fun x _ => ∃ k : Nat, x.1 = k ∧ k ≤ a.length ∧ a.take k = b.take k, fun x _ => a.length - x.1.toNat, ⟨0, rfl, by omega, rfl⟩, ?_⟩
  rintro ⟨_, ⟨⟩⟩ _ ⟨k, rfl, hk, hq⟩
  dsimp only
  rintro _ rfl
  refine Br.intro (fun e1 => ?_) fun e1 => ?_
  · have e1 : k < a.length := by have := of_decide_eq_true e1; omega
    rw [Int.toNat_natCast, wi_succ e1 (by omega)]
    have ta := take_step e1 0
    have tb := take_step (l := b) (i := k) (by omega) 0
    refine ⟨⟨by omega, by omega⟩, ⟨by omega, by omega⟩, trivial, ?_⟩
    rintro _ rfl
    refine Br.intro (fun e2 => congrArg r1 ?_) fun e2 => ?_
    · have e2 : ¬ a.getD k 0 = b.getD k 0 := fun q => by
        have e2 : (!(decide (a.getD k 0 = b.getD k 0))) = true := e2
        rw [q] at e2; simp at e2
      refine (beq_eq_false_iff_ne.2 fun q => e2 ?_).symm
      rw [q]
    · have e2 : a.getD k 0 = b.getD k 0 := by
        have e2 : (!(decide (a.getD k 0 = b.getD k 0))) = false := e2
        simpa using e2
      exact ⟨rfl, ⟨k + 1, rfl, by omega, by rw [ta, tb, hq, e2]⟩, by omega⟩
  · have e1 : k = a.length := by have := of_decide_eq_false e1; omega
    subst e1
    refine congrArg r1 (beq_iff_eq.2 ?_).symm
    rw [List.take_length] at hq
    rw [hq, e, List.take_length]
def Fx_law25_ints := fun (a b : List Int) (post : Bool × Unit → Prop) => ∀ (a_1 : Bool), a_1 = ((↑a.length : Int) != (↑b.length : Int)) → Br a_1 (post (Bool.false, ())) (HIs [] [] ∧
  ∃ (I : Int × Unit → Unit → Prop), ∃ (μ : Int × Unit → Unit → Nat), I ((0 : Int), ()) () ∧ ∀ (x : Int × Unit) (y : Unit), I x y → ∀ (a_2 : Bool), a_2 = decide (x.fst < (↑a.length :
  Int)) → Br a_2 (∃ (h : (0 : Int) ≤ x.fst ∧ x.fst < (↑a.length : Int)), ∃ (h : (0 : Int) ≤ x.fst ∧ x.fst < (↑b.length : Int)), ∀ (a_3 : Bool), a_3 = (a.getD x.fst.toNat (0 : Int)
  != b.getD x.fst.toNat (0 : Int)) → Br a_3 (post (Bool.false, ())) (HIs [] [] ∧ I (IntKind.i64.wrap (x.fst + (1 : Int)), ()) () ∧ μ (IntKind.i64.wrap (x.fst + (1 : Int)), ()) () <
  μ x y)) (post (Bool.true, ())))
theorem Lx_law25_ints (a : List Int) (b : List Int) (w : KS.wf [.slice (.int .i64), .slice (.int .i64)] (a, b, ())) : Fx_law25_ints  a b (fun r => r = intsR a b) := by
  have ha : a.length ≤ maxN := w.1.1
  have hm : maxN ≤ 9223372036854775807 := by decide
  rintro _ rfl
  refine Br.intro (fun e => congrArg r1 ?_) fun e => ?_
  · have e : ¬ a.length = b.length := fun q => by rw [q] at e; simp at e
    exact (beq_eq_false_iff_ne.2 fun q => e (congrArg List.length q)).symm
  have e : a.length = b.length := by
    have : ((a.length : Int) == (b.length : Int)) = true := by
      have e : (!((a.length : Int) == (b.length : Int))) = false := e
      simpa using e
    have := beq_iff_eq.1 this
    omega
  refine ⟨rfl, fun x _ => ∃ k : Nat, x.1 = k ∧ k ≤ a.length ∧ a.take k = b.take k, fun x _ => a.length - x.1.toNat, ⟨0, rfl, by omega, rfl⟩, ?_⟩
  rintro ⟨_, ⟨⟩⟩ _ ⟨k, rfl, hk, hq⟩
  dsimp only
  rintro _ rfl
  refine Br.intro (fun e1 => ?_) fun e1 => ?_
  · have e1 : k < a.length := by have := of_decide_eq_true e1; omega
    rw [Int.toNat_natCast, wi_succ e1 (by omega)]
    have ta := take_step e1 0
    have tb := take_step (l := b) (i := k) (by omega) 0
    refine ⟨⟨by omega, by omega⟩, ⟨by omega, by omega⟩, ?_⟩
    rintro _ rfl
    refine Br.intro (fun e2 => congrArg r1 ?_) fun e2 => ?_
    · have e2 : ¬ a.getD k 0 = b.getD k 0 := bne_iff_ne.1 e2
      refine (beq_eq_false_iff_ne.2 fun q => e2 ?_).symm
      rw [q]
    · have e2 : a.getD k 0 = b.getD k 0 := by
        have e2 : (!(a.getD k 0 == b.getD k 0)) = false := e2
        simpa using e2
      exact ⟨rfl, ⟨k + 1, rfl, by omega, by rw [ta, tb, hq, e2]⟩, by omega⟩
  · have e1 : k = a.length := by have := of_decide_eq_false e1; omega
    subst e1
    refine congrArg r1 (beq_iff_eq.2 ?_).symm
    rw [List.take_length] at hq
    rw [hq, e, List.take_length]
def Fx_law25_seas := fun (a b : List Nat × List Int × List Int × List Nat × Int × Int) (post : Bool × Unit → Prop) => ∃ (h : True), ∀ (a_1 : Bool × Unit), a_1 = allR a.fst b.fst → ∀
  (a_2 : Bool), a_2 = a_1.fst → Br a_2 (∃ (h : True), ∀ (a_3 : Bool × Unit), a_3 = allR a.snd.snd.snd.fst b.snd.snd.snd.fst → ∀ (a_4 : Bool), a_4 = a_3.fst → Br a_4 (∃ (h : True), ∀
  (a_5 : Bool × Unit), a_5 = intsR a.snd.fst b.snd.fst → ∀ (a_6 : Bool), a_6 = a_5.fst → Br a_6 (∃ (h : True), ∀ (a_7 : Bool × Unit), a_7 = intsR a.snd.snd.fst b.snd.snd.fst → ∀
  (a_8 : Bool), a_8 = a_7.fst → Br a_8 (∀ (a_9 : Bool), a_9 = (a.snd.snd.snd.snd.fst == b.snd.snd.snd.snd.fst) → Br a_9 (∀ (a_10 : Bool), a_10 = (a.snd.snd.snd.snd.snd ==
  b.snd.snd.snd.snd.snd) → post (a_10, ())) (post (Bool.false, ()))) (post (Bool.false, ()))) (post (Bool.false, ()))) (post (Bool.false, ()))) (post (Bool.false, ()))
theorem Lx_law25_seas (a : (List Nat) × (List Int) × (List Int) × (List Nat) × Int × Int) (b : (List Nat) × (List Int) × (List Int) × (List Nat) × Int × Int) (w : KS.wf [kSea, kSea] (a, b, ())) : Fx_law25_seas  a b (fun r => r = seasR a b) := by
  obtain ⟨a1, a2, a3, a4, a5, a6⟩ := a
  obtain ⟨b1, b2, b3, b4, b5, b6⟩ := b
  have key : seasI (a1, a2, a3, a4, a5, a6) (b1, b2, b3, b4, b5, b6) = (a1 == b1 && (a4 == b4 && (a2 == b2 && (a3 == b3 && (a5 == b5 && a6 == b6))))) := by
    show (a1 == b1 && (a2 == b2 && (a3 == b3 && (a4 == b4 && (a5 == b5 && a6 == b6))))) = _
    cases (a1 == b1) <;> cases (a2 == b2) <;> cases (a3 == b3) <;> cases (a4 == b4) <;> rfl
  unfold seasR
  rw [key]
  refine ⟨trivial, ?_⟩
  rintro _ rfl _ rfl
  refine Br.intro (fun e1 => ?_) fun e1 => ?_
  rotate_left
  · have e1 : (a1 == b1) = false := e1
    rw [e1]; rfl
  have e1 : (a1 == b1) = true := e1
  rw [e1, Bool.true_and]
  refine ⟨trivial, ?_⟩
  rintro _ rfl _ rfl
  refine Br.intro (fun e4 => ?_) fun e4 => ?_
  rotate_left
  · have e4 : (a4 == b4) = false := e4
    rw [e4]; rfl
  have e4 : (a4 == b4) = true := e4
  rw [e4, Bool.true_and]
  refine ⟨trivial, ?_⟩
  rintro _ rfl _ rfl
  refine Br.intro (fun e2 => ?_) fun e2 => ?_
  rotate_left
  · have e2 : (a2 == b2) = false := e2
    rw [e2]; rfl
  have e2 : (a2 == b2) = true := e2
  rw [e2, Bool.true_and]
  refine ⟨trivial, ?_⟩
  rintro _ rfl _ rfl
  refine Br.intro (fun e3 => ?_) fun e3 => ?_
  rotate_left
  · have e3 : (a3 == b3) = false := e3
    rw [e3]; rfl
  have e3 : (a3 == b3) = true := e3
  rw [e3, Bool.true_and]
  rintro _ rfl
  refine Br.intro (fun e5 => ?_) fun e5 => ?_
  rotate_left
  · have e5 : (a5 == b5) = false := e5
    rw [e5]; rfl
  have e5 : (a5 == b5) = true := e5
  rw [e5, Bool.true_and]
  rintro _ rfl
  rfl
end Go.Lift

set_option linter.unusedVariables false
set_option linter.unusedSimpArgs false
namespace Go.Lift
open Go.Proofs
def Nx_save_Sum : Cx := ⟨tabOf Ntab, conOf [], NG⟩
theorem Nx_save_Sum_ok : CxOk Tryz.prog Nx_save_Sum := ⟨tabB_sound Ntab_ok, fun f c h => by cases h⟩
theorem Nat_save_Sum : FnAt Tryz.prog 22 Tryz.f22.ntmps Tryz.f22.results.toList (Tryz.f22.body.getD .skip) := ⟨Tryz.f22, Tryz.func22, rfl, rfl, by simp, by decide⟩
theorem Neq_save_Sum (b : List Int) (post : Int × Unit → Prop) : fnEval Nx_save_Sum Nhn_save_Sum Tryz.f22.ntmps Tryz.f22.results.toList (Tryz.f22.body.getD .skip) [.slice (.int .u8)] [.snap (.int .u64)] (b, ()) post = Fx_save_Sum  b post := by kernel_rfl
theorem Nh_save_Sum : Nq_save_Sum.holds Tryz.prog NG 22 :=
  nam_of_det (detP Nx_save_Sum_ok Nmixed Nhn_save_Sum Nat_save_Sum (F := fun x post => Fx_save_Sum  x.1 post) (fun x post => Neq_save_Sum x.1 post) fun x h w => Lx_save_Sum  x.1 h w)
def Nx_save_size : Cx := ⟨tabOf Ntab, conOf [], NG⟩
theorem Nx_save_size_ok : CxOk Tryz.prog Nx_save_size := ⟨tabB_sound Ntab_ok, fun f c h => by cases h⟩
theorem Nat_save_size : FnAt Tryz.prog 43 Tryz.f43.ntmps Tryz.f43.results.toList (Tryz.f43.body.getD .skip) := ⟨Tryz.f43, Tryz.func43, rfl, rfl, by simp, by decide⟩
theorem Neq_save_size (n : Int) (post : Int × Unit → Prop) : fnEval Nx_save_size nHn Tryz.f43.ntmps Tryz.f43.results.toList (Tryz.f43.body.getD .skip) [.int .i64] [.snap (.int .i64)] (n, ()) post = Fx_save_size  n post := by kernel_rfl
theorem Nh_save_size : Nq_save_size.holds Tryz.prog NG 43 :=
  nam_of_det (detP Nx_save_size_ok Nmixed nHn Nat_save_size (F := fun x post => Fx_save_size  x.1 post) (fun x post => Neq_save_size x.1 post) fun x h _ => Lx_save_size  x.1 h)
def Nx_raw_All : Cx := ⟨tabOf Ntab, conOf [(61, Nq_raw_Same)], NG⟩
theorem Nx_raw_All_ok : CxOk Tryz.prog Nx_raw_All := ⟨tabB_sound Ntab_ok, conOf_sound ⟨Nh_raw_Same, trivial⟩⟩
theorem Nat_raw_All : FnAt Tryz.prog 28 Tryz.f28.ntmps Tryz.f28.results.toList (Tryz.f28.body.getD .skip) := ⟨Tryz.f28, Tryz.func28, rfl, rfl, by simp, by decide⟩
theorem Neq_raw_All (a : List Nat) (b : List Nat) (post : Bool × Unit → Prop) : fnEval Nx_raw_All Nhn_raw_All Tryz.f28.ntmps Tryz.f28.results.toList (Tryz.f28.body.getD .skip) [.slice (.flt .f64), .slice (.flt .f64)] [.snap .bool] (a, b, ()) post = Fx_raw_All  a b post := by kernel_rfl
theorem Nh_raw_All : Nq_raw_All.holds Tryz.prog NG 28 :=
  nam_of_det (detP Nx_raw_All_ok Nmixed Nhn_raw_All Nat_raw_All (F := fun x post => Fx_raw_All  x.1 x.2.1 post) (fun x post => Neq_raw_All x.1 x.2.1 post) fun x _ w => Lx_raw_All  x.1 x.2.1 w)
def Nx_law25_ints : Cx := ⟨tabOf Ntab, conOf [], NG⟩
theorem Nx_law25_ints_ok : CxOk Tryz.prog Nx_law25_ints := ⟨tabB_sound Ntab_ok, fun f c h => by cases h⟩
theorem Nat_law25_ints : FnAt Tryz.prog 57 Tryz.f57.ntmps Tryz.f57.results.toList (Tryz.f57.body.getD .skip) := ⟨Tryz.f57, Tryz.func57, rfl, rfl, by simp, by decide⟩
theorem Neq_law25_ints (a : List Int) (b : List Int) (post : Bool × Unit → Prop) : fnEval Nx_law25_ints Nhn_law25_ints Tryz.f57.ntmps Tryz.f57.results.toList (Tryz.f57.body.getD .skip) [.slice (.int .i64), .slice (.int .i64)] [.snap .bool] (a, b, ()) post = Fx_law25_ints  a b post := by kernel_rfl
theorem Nh_law25_ints : Nq_law25_ints.holds Tryz.prog NG 57 :=
  nam_of_det (detP Nx_law25_ints_ok Nmixed Nhn_law25_ints Nat_law25_ints (F := fun x post => Fx_law25_ints  x.1 x.2.1 post) (fun x post => Neq_law25_ints x.1 x.2.1 post) fun x _ w => Lx_law25_ints  x.1 x.2.1 w)
def Nx_law25_seas : Cx := ⟨tabOf Ntab, conOf [(28, Nq_raw_All), (57, Nq_law25_ints)], NG⟩
theorem Nx_law25_seas_ok : CxOk Tryz.prog Nx_law25_seas := ⟨tabB_sound Ntab_ok, conOf_sound ⟨Nh_raw_All, Nh_law25_ints, trivial⟩⟩
theorem Nat_law25_seas : FnAt Tryz.prog 21 Tryz.f21.ntmps Tryz.f21.results.toList (Tryz.f21.body.getD .skip) := ⟨Tryz.f21, Tryz.func21, rfl, rfl, by simp, by decide⟩
theorem Neq_law25_seas (a : (List Nat) × (List Int) × (List Int) × (List Nat) × Int × Int) (b : (List Nat) × (List Int) × (List Int) × (List Nat) × Int × Int) (post : Bool × Unit → Prop) : fnEval Nx_law25_seas nHn Tryz.f21.ntmps Tryz.f21.results.toList (Tryz.f21.body.getD .skip) [kSea, kSea] [.snap .bool] (a, b, ()) post = Fx_law25_seas  a b post := by kernel_rfl
theorem Nh_law25_seas : Nq_law25_seas.holds Tryz.prog NG 21 :=
  nam_of_det (detP Nx_law25_seas_ok Nmixed nHn Nat_law25_seas (F := fun x post => Fx_law25_seas  x.1 x.2.1 post) (fun x post => Neq_law25_seas x.1 x.2.1 post) fun x _ w => Lx_law25_seas  x.1 x.2.1 w)
end Go.Lift

set_option linter.unusedVariables false
set_option linter.unusedSimpArgs false
namespace Go.Lift
end Go.Lift

set_option linter.unusedVariables false
set_option linter.unusedSimpArgs false
namespace Go.Lift
open Go.Proofs
end Go.Lift

set_option linter.unusedVariables false
set_option linter.unusedSimpArgs false
namespace Go.Lift
open Go.Proofs
def Nx_save_Encode : Cx := ⟨tabOf Ntab, conOf [(24, Nq_state_Check), (43, Nq_save_size), (45, Nq_math_Float64bits), (22, Nq_save_Sum)], NG⟩
theorem Nx_save_Encode_ok : CxOk Tryz.prog Nx_save_Encode := ⟨tabB_sound Ntab_ok, conOf_sound ⟨Nh_state_Check, Nh_save_size, Nh_math_Float64bits, Nh_save_Sum, trivial⟩⟩
theorem Nat_save_Encode : FnAt Tryz.prog 17 Tryz.f17.ntmps Tryz.f17.results.toList (Tryz.f17.body.getD .skip) := ⟨Tryz.f17, Tryz.func17, rfl, rfl, by simp, by decide⟩
theorem Neq_save_Encode (n : Int) (s : (List Nat) × (List Int) × (List Int) × (List Nat) × Int × Int) (post : (List Int) × Int × Unit → Prop) : fnEvalI Nx_save_Encode Nhn_save_Encode (callLvl Nx_save_Encode Nfns_sput 6) Tryz.f17.ntmps Tryz.f17.results.toList (Tryz.f17.body.getD .skip) [.int .i64, kSea] [.snap (.slice (.int .u8)), .snap (.int .i64)] (n, s, ()) post = Fx_save_Encode 25 5 23 n s post := by kernel_rfl
theorem Nh_save_Encode : Nq_save_Encode.holds Tryz.prog NG 17 :=
  nam_of_det (detPI Nx_save_Encode_ok Nmixed Nhn_save_Encode (callLvl_ok Nx_save_Encode_ok Nmixed Nfns_sput_ok 6) Nat_save_Encode (F := fun x post => Fx_save_Encode 25 5 23 x.1 x.2.1 post) (fun x post => Neq_save_Encode x.1 x.2.1 post) fun x h w => Lx_save_Encode 25 5 23 x.1 x.2.1 h w)
end Go.Lift

set_option linter.unusedVariables false
set_option linter.unusedSimpArgs false
namespace Go.Lift
def Fx_save_Decode := fun (ty3 ty25 ty28 ty80 : Nat) (b : List Int) (post : Int × (List Nat × List Int × List Int × List Nat × Int × Int) × Int × Unit → Prop) => ∀ (a : Bool), a =
  decide ((↑b.length : Int) ≥ (21 : Int)) → Br a (∃ (h : (0 : Int) ≤ (4 : Int) ∧ (4 : Int) < (↑b.length : Int)), ∃ (h : (0 : Int) ≤ (0 : Int) ∧ (0 : Int) ≤ (4 : Int) ∧ (4 : Int) ≤
  (↑b.length : Int)), ∀ (a : Bool), (a = if Bool.false = Bool.true then !decide (List.map byteOf (List.take ((4 : Int) - (0 : Int)).toNat (List.drop (Int.toNat (0 : Int)) b)) =
  strBytes { data := #[(84 : UInt8), (65 : UInt8), (82 : UInt8), (78 : UInt8)] }) else decide (List.map byteOf (List.take ((4 : Int) - (0 : Int)).toNat (List.drop (Int.toNat (0 :
  Int)) b)) = strBytes { data := #[(84 : UInt8), (65 : UInt8), (82 : UInt8), (78 : UInt8)] })) → Br a (∀ (a : Bool), a = decide (IntKind.i64.wrap (b.getD (Int.toNat (4 : Int)) (0 :
  Int)) ≥ (1 : Int)) → Br a (∀ (a : Bool), a = decide (IntKind.i64.wrap (b.getD (Int.toNat (4 : Int)) (0 : Int)) ≤ (32 : Int)) → Br a (∃ (h : WSide (IntKind.i64.wrap (b.getD
  (Int.toNat (4 : Int)) (0 : Int)))), ∀ (a : Int × Unit), a = sizeR (IntKind.i64.wrap (b.getD (Int.toNat (4 : Int)) (0 : Int))) → ∀ (a_1 : Bool), a_1 = decide ((↑b.length : Int) ≥
  a.fst) → Br a_1 (∃ (h : WSide (IntKind.i64.wrap (b.getD (Int.toNat (4 : Int)) (0 : Int)))), ∀ (a : Int × Unit), a = sizeR (IntKind.i64.wrap (b.getD (Int.toNat (4 : Int)) (0 :
  Int))) → ∀ (a_2 : Bool), a_2 = ((↑b.length : Int) == a.fst) → Br a_2 (∃ (h : (0 : Int) ≤ IntKind.i64.wrap ((↑b.length : Int) - (8 : Int)) ∧ IntKind.i64.wrap ((↑b.length : Int) -
  (8 : Int)) ≤ (↑b.length : Int) ∧ (↑b.length : Int) ≤ (↑b.length : Int)), ∃ (h : (0 : Int) ≤ IntKind.i64.wrap ((↑b.length : Int) - (8 : Int)) ∧ IntKind.i64.wrap ((↑b.length : Int)
  - (8 : Int)) ≤ (↑b.length : Int)), ∀ (a : Bool), a = decide ((↑(List.take ((↑b.length : Int) - IntKind.i64.wrap ((↑b.length : Int) - (8 : Int))).toNat (List.drop (IntKind.i64.wrap
  ((↑b.length : Int) - (8 : Int))).toNat b)).length : Int) < (8 : Int)) → Br a False (HIs [HObj.box Md.rw ty3 [SV.val (Go.Value.int IntKind.i64 (IntKind.i64.wrap (b.getD (Int.toNat
  (4 : Int)) (0 : Int))))], HObj.box Md.rw ty25 [SV.val (Go.Value.slice Option.none (0 : Nat) (0 : Nat)), SV.val (Go.Value.slice Option.none (0 : Nat) (0 : Nat)), SV.val
  (Go.Value.slice Option.none (0 : Nat) (0 : Nat)), SV.val (Go.Value.slice Option.none (0 : Nat) (0 : Nat)), SV.val (Go.Value.int IntKind.i64 (0 : Int)), SV.val (Go.Value.int
  IntKind.i64 (0 : Int))], HObj.box Md.rw ty28 [SV.val (Go.Value.int IntKind.i64 (0 : Int))], HObj.box Md.rw ty80 [SV.data (K.int IntKind.u8).slice (List.take ((↑b.length : Int) -
  IntKind.i64.wrap ((↑b.length : Int) - (8 : Int))).toNat (List.drop (IntKind.i64.wrap ((↑b.length : Int) - (8 : Int))).toNat b))]] [HObj.box Md.rw ty3 [SV.val (Go.Value.int
  IntKind.i64 (IntKind.i64.wrap (b.getD (Int.toNat (4 : Int)) (0 : Int))))], HObj.box Md.rw ty25 [SV.val (Go.Value.slice Option.none (0 : Nat) (0 : Nat)), SV.val (Go.Value.slice
  Option.none (0 : Nat) (0 : Nat)), SV.val (Go.Value.slice Option.none (0 : Nat) (0 : Nat)), SV.val (Go.Value.slice Option.none (0 : Nat) (0 : Nat)), SV.val (Go.Value.int
  IntKind.i64 (0 : Int)), SV.val (Go.Value.int IntKind.i64 (0 : Int))], HObj.box Md.rw ty28 [SV.val (Go.Value.int IntKind.i64 (0 : Int))], HObj.box Md.rw ty80 [SV.data (K.int
  IntKind.u8).slice (List.take ((↑b.length : Int) - IntKind.i64.wrap ((↑b.length : Int) - (8 : Int))).toNat (List.drop (IntKind.i64.wrap ((↑b.length : Int) - (8 : Int))).toNat b))]]
  ∧ ∃ (I : Int × Int × Unit → Unit → Prop), ∃ (μ : Int × Int × Unit → Unit → Nat), I ((0 : Int), (7 : Int), ()) () ∧ ∀ (x : Int × Int × Unit) (y : Unit), I x y → ∀ (a : Bool), a =
  decide (x.snd.fst ≥ (0 : Int)) → Br a (∃ (h : (0 : Int) ≤ (8 : Int)), ∃ (h : (0 : Int) ≤ x.snd.fst ∧ x.snd.fst < (↑(List.take ((↑b.length : Int) - IntKind.i64.wrap ((↑b.length :
  Int) - (8 : Int))).toNat (List.drop (IntKind.i64.wrap ((↑b.length : Int) - (8 : Int))).toNat b)).length : Int)), HIs [HObj.box Md.rw ty3 [SV.val (Go.Value.int IntKind.i64
  (IntKind.i64.wrap (b.getD (Int.toNat (4 : Int)) (0 : Int))))], HObj.box Md.rw ty25 [SV.val (Go.Value.slice Option.none (0 : Nat) (0 : Nat)), SV.val (Go.Value.slice Option.none (0
  : Nat) (0 : Nat)), SV.val (Go.Value.slice Option.none (0 : Nat) (0 : Nat)), SV.val (Go.Value.slice Option.none (0 : Nat) (0 : Nat)), SV.val (Go.Value.int IntKind.i64 (0 : Int)),
  SV.val (Go.Value.int IntKind.i64 (0 : Int))], HObj.box Md.rw ty28 [SV.val (Go.Value.int IntKind.i64 (0 : Int))], HObj.box Md.rw ty80 [SV.data (K.int IntKind.u8).slice (List.take
  ((↑b.length : Int) - IntKind.i64.wrap ((↑b.length : Int) - (8 : Int))).toNat (List.drop (IntKind.i64.wrap ((↑b.length : Int) - (8 : Int))).toNat b))]] [HObj.box Md.rw ty3 [SV.val
  (Go.Value.int IntKind.i64 (IntKind.i64.wrap (b.getD (Int.toNat (4 : Int)) (0 : Int))))], HObj.box Md.rw ty25 [SV.val (Go.Value.slice Option.none (0 : Nat) (0 : Nat)), SV.val
  (Go.Value.slice Option.none (0 : Nat) (0 : Nat)), SV.val (Go.Value.slice Option.none (0 : Nat) (0 : Nat)), SV.val (Go.Value.slice Option.none (0 : Nat) (0 : Nat)), SV.val
  (Go.Value.int IntKind.i64 (0 : Int)), SV.val (Go.Value.int IntKind.i64 (0 : Int))], HObj.box Md.rw ty28 [SV.val (Go.Value.int IntKind.i64 (0 : Int))], HObj.box Md.rw ty80 [SV.data
  (K.int IntKind.u8).slice (List.take ((↑b.length : Int) - IntKind.i64.wrap ((↑b.length : Int) - (8 : Int))).toNat (List.drop (IntKind.i64.wrap ((↑b.length : Int) - (8 :
  Int))).toNat b))]] ∧ I (Go.bits Go.BinOp.or IntKind.u64 (IntKind.u64.wrap (x.fst * (2 : Int) ^ Min.min (Int.toNat (8 : Int)) IntKind.u64.bits)) (IntKind.u64.wrap ((List.take
  ((↑b.length : Int) - IntKind.i64.wrap ((↑b.length : Int) - (8 : Int))).toNat (List.drop (IntKind.i64.wrap ((↑b.length : Int) - (8 : Int))).toNat b)).getD x.snd.fst.toNat (0 :
  Int))), IntKind.i64.wrap (x.snd.fst - (1 : Int)), ()) () ∧ μ (Go.bits Go.BinOp.or IntKind.u64 (IntKind.u64.wrap (x.fst * (2 : Int) ^ Min.min (Int.toNat (8 : Int))
  IntKind.u64.bits)) (IntKind.u64.wrap ((List.take ((↑b.length : Int) - IntKind.i64.wrap ((↑b.length : Int) - (8 : Int))).toNat (List.drop (IntKind.i64.wrap ((↑b.length : Int) - (8
  : Int))).toNat b)).getD x.snd.fst.toNat (0 : Int))), IntKind.i64.wrap (x.snd.fst - (1 : Int)), ()) () < μ x y) (∃ (h : (0 : Int) ≤ (8 : Int) ∧ (8 : Int) ≤ (↑(List.take ((↑b.length
  : Int) - IntKind.i64.wrap ((↑b.length : Int) - (8 : Int))).toNat (List.drop (IntKind.i64.wrap ((↑b.length : Int) - (8 : Int))).toNat b)).length : Int) ∧ (↑(List.take ((↑b.length :
  Int) - IntKind.i64.wrap ((↑b.length : Int) - (8 : Int))).toNat (List.drop (IntKind.i64.wrap ((↑b.length : Int) - (8 : Int))).toNat b)).length : Int) ≤ (↑(List.take ((↑b.length :
  Int) - IntKind.i64.wrap ((↑b.length : Int) - (8 : Int))).toNat (List.drop (IntKind.i64.wrap ((↑b.length : Int) - (8 : Int))).toNat b)).length : Int)), ∃ (h : BLs (List.take
  (IntKind.i64.wrap ((↑b.length : Int) - (8 : Int))).toNat b)), ∀ (a : Int × Unit), a = sumR (List.take (IntKind.i64.wrap ((↑b.length : Int) - (8 : Int))).toNat b) → ∀ (a_3 : Bool),
  a_3 = (x.fst == a.fst) → Br a_3 (∃ (h : (0 : Int) ≤ (5 : Int) ∧ (5 : Int) ≤ (↑b.length : Int) ∧ (↑b.length : Int) ≤ (↑b.length : Int)), ∀ (m : Int), m = IntKind.i64.wrap
  (IntKind.i64.wrap ((6 : Int) * IntKind.i64.wrap (b.getD (Int.toNat (4 : Int)) (0 : Int))) * IntKind.i64.wrap (b.getD (Int.toNat (4 : Int)) (0 : Int))) → ∀ (a : Bool), a = decide
  ((↑(List.take ((↑b.length : Int) - (5 : Int)).toNat (List.drop (Int.toNat (5 : Int)) b)).length : Int) < (8 : Int)) → Br a False (HIs [HObj.box Md.rw ty3 [SV.val (Go.Value.int
  IntKind.i64 (IntKind.i64.wrap (b.getD (Int.toNat (4 : Int)) (0 : Int))))], HObj.box Md.rw ty25 [SV.val (Go.Value.slice Option.none (0 : Nat) (0 : Nat)), SV.val (Go.Value.slice
  Option.none (0 : Nat) (0 : Nat)), SV.val (Go.Value.slice Option.none (0 : Nat) (0 : Nat)), SV.val (Go.Value.slice Option.none (0 : Nat) (0 : Nat)), SV.val (Go.Value.int
  IntKind.i64 (0 : Int)), SV.val (Go.Value.int IntKind.i64 (0 : Int))], HObj.box Md.rw ty28 [SV.val (Go.Value.int IntKind.i64 (0 : Int))], HObj.box Md.rw ty80 [SV.data (K.int
  IntKind.u8).slice (List.take ((↑(List.take ((↑b.length : Int) - IntKind.i64.wrap ((↑b.length : Int) - (8 : Int))).toNat (List.drop (IntKind.i64.wrap ((↑b.length : Int) - (8 :
  Int))).toNat b)).length : Int) - (8 : Int)).toNat (List.drop (Int.toNat (8 : Int)) (List.take ((↑b.length : Int) - IntKind.i64.wrap ((↑b.length : Int) - (8 : Int))).toNat
  (List.drop (IntKind.i64.wrap ((↑b.length : Int) - (8 : Int))).toNat b))))], HObj.box Md.rw ty80 [SV.data (K.int IntKind.u8).slice (List.take ((↑b.length : Int) - (5 : Int)).toNat
  (List.drop (Int.toNat (5 : Int)) b))]] [HObj.box Md.rw ty3 [SV.val (Go.Value.int IntKind.i64 (IntKind.i64.wrap (b.getD (Int.toNat (4 : Int)) (0 : Int))))], HObj.box Md.rw ty25
  [SV.val (Go.Value.slice Option.none (0 : Nat) (0 : Nat)), SV.val (Go.Value.slice Option.none (0 : Nat) (0 : Nat)), SV.val (Go.Value.slice Option.none (0 : Nat) (0 : Nat)), SV.val
  (Go.Value.slice Option.none (0 : Nat) (0 : Nat)), SV.val (Go.Value.int IntKind.i64 (0 : Int)), SV.val (Go.Value.int IntKind.i64 (0 : Int))], HObj.box Md.rw ty28 [SV.val
  (Go.Value.int IntKind.i64 (0 : Int))], HObj.box Md.rw ty80 [SV.data (K.int IntKind.u8).slice (List.take ((↑(List.take ((↑b.length : Int) - IntKind.i64.wrap ((↑b.length : Int) - (8
  : Int))).toNat (List.drop (IntKind.i64.wrap ((↑b.length : Int) - (8 : Int))).toNat b)).length : Int) - (8 : Int)).toNat (List.drop (Int.toNat (8 : Int)) (List.take ((↑b.length :
  Int) - IntKind.i64.wrap ((↑b.length : Int) - (8 : Int))).toNat (List.drop (IntKind.i64.wrap ((↑b.length : Int) - (8 : Int))).toNat b))))], HObj.box Md.rw ty80 [SV.data (K.int
  IntKind.u8).slice (List.take ((↑b.length : Int) - (5 : Int)).toNat (List.drop (Int.toNat (5 : Int)) b))]] ∧ ∃ (I : Int × Int × Unit → Unit → Prop), ∃ (μ : Int × Int × Unit → Unit
  → Nat), I ((0 : Int), (7 : Int), ()) () ∧ ∀ (x : Int × Int × Unit) (y : Unit), I x y → ∀ (a : Bool), a = decide (x.snd.fst ≥ (0 : Int)) → Br a (∃ (h : (0 : Int) ≤ (8 : Int)), ∃ (h
  : (0 : Int) ≤ x.snd.fst ∧ x.snd.fst < (↑(List.take ((↑b.length : Int) - (5 : Int)).toNat (List.drop (Int.toNat (5 : Int)) b)).length : Int)), HIs [HObj.box Md.rw ty3 [SV.val
  (Go.Value.int IntKind.i64 (IntKind.i64.wrap (b.getD (Int.toNat (4 : Int)) (0 : Int))))], HObj.box Md.rw ty25 [SV.val (Go.Value.slice Option.none (0 : Nat) (0 : Nat)), SV.val
  (Go.Value.slice Option.none (0 : Nat) (0 : Nat)), SV.val (Go.Value.slice Option.none (0 : Nat) (0 : Nat)), SV.val (Go.Value.slice Option.none (0 : Nat) (0 : Nat)), SV.val
  (Go.Value.int IntKind.i64 (0 : Int)), SV.val (Go.Value.int IntKind.i64 (0 : Int))], HObj.box Md.rw ty28 [SV.val (Go.Value.int IntKind.i64 (0 : Int))], HObj.box Md.rw ty80 [SV.data
  (K.int IntKind.u8).slice (List.take ((↑(List.take ((↑b.length : Int) - IntKind.i64.wrap ((↑b.length : Int) - (8 : Int))).toNat (List.drop (IntKind.i64.wrap ((↑b.length : Int) - (8
  : Int))).toNat b)).length : Int) - (8 : Int)).toNat (List.drop (Int.toNat (8 : Int)) (List.take ((↑b.length : Int) - IntKind.i64.wrap ((↑b.length : Int) - (8 : Int))).toNat
  (List.drop (IntKind.i64.wrap ((↑b.length : Int) - (8 : Int))).toNat b))))], HObj.box Md.rw ty80 [SV.data (K.int IntKind.u8).slice (List.take ((↑b.length : Int) - (5 : Int)).toNat
  (List.drop (Int.toNat (5 : Int)) b))]] [HObj.box Md.rw ty3 [SV.val (Go.Value.int IntKind.i64 (IntKind.i64.wrap (b.getD (Int.toNat (4 : Int)) (0 : Int))))], HObj.box Md.rw ty25
  [SV.val (Go.Value.slice Option.none (0 : Nat) (0 : Nat)), SV.val (Go.Value.slice Option.none (0 : Nat) (0 : Nat)), SV.val (Go.Value.slice Option.none (0 : Nat) (0 : Nat)), SV.val
  (Go.Value.slice Option.none (0 : Nat) (0 : Nat)), SV.val (Go.Value.int IntKind.i64 (0 : Int)), SV.val (Go.Value.int IntKind.i64 (0 : Int))], HObj.box Md.rw ty28 [SV.val
  (Go.Value.int IntKind.i64 (0 : Int))], HObj.box Md.rw ty80 [SV.data (K.int IntKind.u8).slice (List.take ((↑(List.take ((↑b.length : Int) - IntKind.i64.wrap ((↑b.length : Int) - (8
  : Int))).toNat (List.drop (IntKind.i64.wrap ((↑b.length : Int) - (8 : Int))).toNat b)).length : Int) - (8 : Int)).toNat (List.drop (Int.toNat (8 : Int)) (List.take ((↑b.length :
  Int) - IntKind.i64.wrap ((↑b.length : Int) - (8 : Int))).toNat (List.drop (IntKind.i64.wrap ((↑b.length : Int) - (8 : Int))).toNat b))))], HObj.box Md.rw ty80 [SV.data (K.int
  IntKind.u8).slice (List.take ((↑b.length : Int) - (5 : Int)).toNat (List.drop (Int.toNat (5 : Int)) b))]] ∧ I (Go.bits Go.BinOp.or IntKind.u64 (IntKind.u64.wrap (x.fst * (2 : Int)
  ^ Min.min (Int.toNat (8 : Int)) IntKind.u64.bits)) (IntKind.u64.wrap ((List.take ((↑b.length : Int) - (5 : Int)).toNat (List.drop (Int.toNat (5 : Int)) b)).getD x.snd.fst.toNat (0
  : Int))), IntKind.i64.wrap (x.snd.fst - (1 : Int)), ()) () ∧ μ (Go.bits Go.BinOp.or IntKind.u64 (IntKind.u64.wrap (x.fst * (2 : Int) ^ Min.min (Int.toNat (8 : Int))
  IntKind.u64.bits)) (IntKind.u64.wrap ((List.take ((↑b.length : Int) - (5 : Int)).toNat (List.drop (Int.toNat (5 : Int)) b)).getD x.snd.fst.toNat (0 : Int))), IntKind.i64.wrap
  (x.snd.fst - (1 : Int)), ()) () < μ x y) (∃ (h : (0 : Int) ≤ (8 : Int) ∧ (8 : Int) ≤ (↑(List.take ((↑b.length : Int) - (5 : Int)).toNat (List.drop (Int.toNat (5 : Int)) b)).length
  : Int) ∧ (↑(List.take ((↑b.length : Int) - (5 : Int)).toNat (List.drop (Int.toNat (5 : Int)) b)).length : Int) ≤ (↑(List.take ((↑b.length : Int) - (5 : Int)).toNat (List.drop
  (Int.toNat (5 : Int)) b)).length : Int)), ∀ (a : Bool), a = decide ((↑(List.take ((↑(List.take ((↑b.length : Int) - (5 : Int)).toNat (List.drop (Int.toNat (5 : Int)) b)).length :
  Int) - (8 : Int)).toNat (List.drop (Int.toNat (8 : Int)) (List.take ((↑b.length : Int) - (5 : Int)).toNat (List.drop (Int.toNat (5 : Int)) b)))).length : Int) < (8 : Int)) → Br a
  False (HIs [HObj.box Md.rw ty3 [SV.val (Go.Value.int IntKind.i64 (IntKind.i64.wrap (b.getD (Int.toNat (4 : Int)) (0 : Int))))], HObj.box Md.rw (25 : Nat) [SV.val (Go.Value.slice
  Option.none (0 : Nat) (0 : Nat)), SV.val (Go.Value.slice Option.none (0 : Nat) (0 : Nat)), SV.val (Go.Value.slice Option.none (0 : Nat) (0 : Nat)), SV.val (Go.Value.slice
  Option.none (0 : Nat) (0 : Nat)), SV.val (Go.Value.int IntKind.i64 (0 : Int)), SV.val (Go.Value.int IntKind.i64 (IntKind.i64.wrap x.fst))], HObj.box Md.rw (28 : Nat) [SV.val
  (Go.Value.int IntKind.i64 (0 : Int))], HObj.box Md.rw (80 : Nat) [SV.data (K.int IntKind.u8).slice (List.take ((↑(List.take ((↑b.length : Int) - IntKind.i64.wrap ((↑b.length :
  Int) - (8 : Int))).toNat (List.drop (IntKind.i64.wrap ((↑b.length : Int) - (8 : Int))).toNat b)).length : Int) - (8 : Int)).toNat (List.drop (Int.toNat (8 : Int)) (List.take
  ((↑b.length : Int) - IntKind.i64.wrap ((↑b.length : Int) - (8 : Int))).toNat (List.drop (IntKind.i64.wrap ((↑b.length : Int) - (8 : Int))).toNat b))))], HObj.box Md.rw (80 : Nat)
  [SV.data (K.int IntKind.u8).slice (List.take ((↑(List.take ((↑b.length : Int) - (5 : Int)).toNat (List.drop (Int.toNat (5 : Int)) b)).length : Int) - (8 : Int)).toNat (List.drop
  (Int.toNat (8 : Int)) (List.take ((↑b.length : Int) - (5 : Int)).toNat (List.drop (Int.toNat (5 : Int)) b))))]] [HObj.box Md.rw ty3 [SV.val (Go.Value.int IntKind.i64
  (IntKind.i64.wrap (b.getD (Int.toNat (4 : Int)) (0 : Int))))], HObj.box Md.rw (25 : Nat) [SV.val (Go.Value.slice Option.none (0 : Nat) (0 : Nat)), SV.val (Go.Value.slice
  Option.none (0 : Nat) (0 : Nat)), SV.val (Go.Value.slice Option.none (0 : Nat) (0 : Nat)), SV.val (Go.Value.slice Option.none (0 : Nat) (0 : Nat)), SV.val (Go.Value.int
  IntKind.i64 (0 : Int)), SV.val (Go.Value.int IntKind.i64 (IntKind.i64.wrap x.fst))], HObj.box Md.rw (28 : Nat) [SV.val (Go.Value.int IntKind.i64 (0 : Int))], HObj.box Md.rw (80 :
  Nat) [SV.data (K.int IntKind.u8).slice (List.take ((↑(List.take ((↑b.length : Int) - IntKind.i64.wrap ((↑b.length : Int) - (8 : Int))).toNat (List.drop (IntKind.i64.wrap
  ((↑b.length : Int) - (8 : Int))).toNat b)).length : Int) - (8 : Int)).toNat (List.drop (Int.toNat (8 : Int)) (List.take ((↑b.length : Int) - IntKind.i64.wrap ((↑b.length : Int) -
  (8 : Int))).toNat (List.drop (IntKind.i64.wrap ((↑b.length : Int) - (8 : Int))).toNat b))))], HObj.box Md.rw (80 : Nat) [SV.data (K.int IntKind.u8).slice (List.take ((↑(List.take
  ((↑b.length : Int) - (5 : Int)).toNat (List.drop (Int.toNat (5 : Int)) b)).length : Int) - (8 : Int)).toNat (List.drop (Int.toNat (8 : Int)) (List.take ((↑b.length : Int) - (5 :
  Int)).toNat (List.drop (Int.toNat (5 : Int)) b))))]] ∧ ∃ (I : Int × Int × Unit → Unit → Prop), ∃ (μ : Int × Int × Unit → Unit → Nat), I ((0 : Int), (7 : Int), ()) () ∧ ∀ (x_7 :
  Int × Int × Unit) (y : Unit), I x_7 y → ∀ (a : Bool), a = decide (x_7.snd.fst ≥ (0 : Int)) → Br a (∃ (h : (0 : Int) ≤ (8 : Int)), ∃ (h : (0 : Int) ≤ x_7.snd.fst ∧ x_7.snd.fst <
  (↑(List.take ((↑(List.take ((↑b.length : Int) - (5 : Int)).toNat (List.drop (Int.toNat (5 : Int)) b)).length : Int) - (8 : Int)).toNat (List.drop (Int.toNat (8 : Int)) (List.take
  ((↑b.length : Int) - (5 : Int)).toNat (List.drop (Int.toNat (5 : Int)) b)))).length : Int)), HIs [HObj.box Md.rw (3 : Nat) [SV.val (Go.Value.int IntKind.i64 (IntKind.i64.wrap
  (b.getD (Int.toNat (4 : Int)) (0 : Int))))], HObj.box Md.rw (25 : Nat) [SV.val (Go.Value.slice Option.none (0 : Nat) (0 : Nat)), SV.val (Go.Value.slice Option.none (0 : Nat) (0 :
  Nat)), SV.val (Go.Value.slice Option.none (0 : Nat) (0 : Nat)), SV.val (Go.Value.slice Option.none (0 : Nat) (0 : Nat)), SV.val (Go.Value.int IntKind.i64 (0 : Int)), SV.val
  (Go.Value.int IntKind.i64 (IntKind.i64.wrap x.fst))], HObj.box Md.rw (28 : Nat) [SV.val (Go.Value.int IntKind.i64 (0 : Int))], HObj.box Md.rw (80 : Nat) [SV.data (K.int
  IntKind.u8).slice (List.take ((↑(List.take ((↑b.length : Int) - IntKind.i64.wrap ((↑b.length : Int) - (8 : Int))).toNat (List.drop (IntKind.i64.wrap ((↑b.length : Int) - (8 :
  Int))).toNat b)).length : Int) - (8 : Int)).toNat (List.drop (Int.toNat (8 : Int)) (List.take ((↑b.length : Int) - IntKind.i64.wrap ((↑b.length : Int) - (8 : Int))).toNat
  (List.drop (IntKind.i64.wrap ((↑b.length : Int) - (8 : Int))).toNat b))))], HObj.box Md.rw (80 : Nat) [SV.data (K.int IntKind.u8).slice (List.take ((↑(List.take ((↑b.length : Int)
  - (5 : Int)).toNat (List.drop (Int.toNat (5 : Int)) b)).length : Int) - (8 : Int)).toNat (List.drop (Int.toNat (8 : Int)) (List.take ((↑b.length : Int) - (5 : Int)).toNat
  (List.drop (Int.toNat (5 : Int)) b))))]] [HObj.box Md.rw (3 : Nat) [SV.val (Go.Value.int IntKind.i64 (IntKind.i64.wrap (b.getD (Int.toNat (4 : Int)) (0 : Int))))], HObj.box Md.rw
  (25 : Nat) [SV.val (Go.Value.slice Option.none (0 : Nat) (0 : Nat)), SV.val (Go.Value.slice Option.none (0 : Nat) (0 : Nat)), SV.val (Go.Value.slice Option.none (0 : Nat) (0 :
  Nat)), SV.val (Go.Value.slice Option.none (0 : Nat) (0 : Nat)), SV.val (Go.Value.int IntKind.i64 (0 : Int)), SV.val (Go.Value.int IntKind.i64 (IntKind.i64.wrap x.fst))], HObj.box
  Md.rw (28 : Nat) [SV.val (Go.Value.int IntKind.i64 (0 : Int))], HObj.box Md.rw (80 : Nat) [SV.data (K.int IntKind.u8).slice (List.take ((↑(List.take ((↑b.length : Int) -
  IntKind.i64.wrap ((↑b.length : Int) - (8 : Int))).toNat (List.drop (IntKind.i64.wrap ((↑b.length : Int) - (8 : Int))).toNat b)).length : Int) - (8 : Int)).toNat (List.drop
  (Int.toNat (8 : Int)) (List.take ((↑b.length : Int) - IntKind.i64.wrap ((↑b.length : Int) - (8 : Int))).toNat (List.drop (IntKind.i64.wrap ((↑b.length : Int) - (8 : Int))).toNat
  b))))], HObj.box Md.rw (80 : Nat) [SV.data (K.int IntKind.u8).slice (List.take ((↑(List.take ((↑b.length : Int) - (5 : Int)).toNat (List.drop (Int.toNat (5 : Int)) b)).length :
  Int) - (8 : Int)).toNat (List.drop (Int.toNat (8 : Int)) (List.take ((↑b.length : Int) - (5 : Int)).toNat (List.drop (Int.toNat (5 : Int)) b))))]] ∧ I (Go.bits Go.BinOp.or
  IntKind.u64 (IntKind.u64.wrap (x_7.fst * (2 : Int) ^ Min.min (Int.toNat (8 : Int)) IntKind.u64.bits)) (IntKind.u64.wrap ((List.take ((↑(List.take ((↑b.length : Int) - (5 :
  Int)).toNat (List.drop (Int.toNat (5 : Int)) b)).length : Int) - (8 : Int)).toNat (List.drop (Int.toNat (8 : Int)) (List.take ((↑b.length : Int) - (5 : Int)).toNat (List.drop
  (Int.toNat (5 : Int)) b)))).getD x_7.snd.fst.toNat (0 : Int))), IntKind.i64.wrap (x_7.snd.fst - (1 : Int)), ()) () ∧ μ (Go.bits Go.BinOp.or IntKind.u64 (IntKind.u64.wrap (x_7.fst
  * (2 : Int) ^ Min.min (Int.toNat (8 : Int)) IntKind.u64.bits)) (IntKind.u64.wrap ((List.take ((↑(List.take ((↑b.length : Int) - (5 : Int)).toNat (List.drop (Int.toNat (5 : Int))
  b)).length : Int) - (8 : Int)).toNat (List.drop (Int.toNat (8 : Int)) (List.take ((↑b.length : Int) - (5 : Int)).toNat (List.drop (Int.toNat (5 : Int)) b)))).getD
  x_7.snd.fst.toNat (0 : Int))), IntKind.i64.wrap (x_7.snd.fst - (1 : Int)), ()) () < μ x_7 y) (∃ (h : (0 : Int) ≤ (8 : Int) ∧ (8 : Int) ≤ (↑(List.take ((↑(List.take ((↑b.length :
  Int) - (5 : Int)).toNat (List.drop (Int.toNat (5 : Int)) b)).length : Int) - (8 : Int)).toNat (List.drop (Int.toNat (8 : Int)) (List.take ((↑b.length : Int) - (5 : Int)).toNat
  (List.drop (Int.toNat (5 : Int)) b)))).length : Int) ∧ (↑(List.take ((↑(List.take ((↑b.length : Int) - (5 : Int)).toNat (List.drop (Int.toNat (5 : Int)) b)).length : Int) - (8 :
  Int)).toNat (List.drop (Int.toNat (8 : Int)) (List.take ((↑b.length : Int) - (5 : Int)).toNat (List.drop (Int.toNat (5 : Int)) b)))).length : Int) ≤ (↑(List.take ((↑(List.take
  ((↑b.length : Int) - (5 : Int)).toNat (List.drop (Int.toNat (5 : Int)) b)).length : Int) - (8 : Int)).toNat (List.drop (Int.toNat (8 : Int)) (List.take ((↑b.length : Int) - (5 :
  Int)).toNat (List.drop (Int.toNat (5 : Int)) b)))).length : Int)), ∃ (h : (0 : Int) ≤ m ∧ m ≤ m ∧ m * (↑(8 : Nat) : Int) ≤ (281474976710656 : Int)), ((0 : Nat) = (0 : Nat) ∧
  m.toNat = (List.replicate m.toNat (0 : Nat)).length) ∧ HIs [HObj.box Md.rw (3 : Nat) [SV.val (Go.Value.int IntKind.i64 (IntKind.i64.wrap (b.getD (Int.toNat (4 : Int)) (0 :
  Int))))], HObj.box Md.rw (25 : Nat) [SV.val (Go.Value.slice Option.none (0 : Nat) (0 : Nat)), SV.val (Go.Value.slice Option.none (0 : Nat) (0 : Nat)), SV.val (Go.Value.slice
  Option.none (0 : Nat) (0 : Nat)), SV.val (Go.Value.slice Option.none (0 : Nat) (0 : Nat)), SV.val (Go.Value.int IntKind.i64 (IntKind.i64.wrap x_7.fst)), SV.val (Go.Value.int
  IntKind.i64 (IntKind.i64.wrap x.fst))], HObj.box Md.rw (28 : Nat) [SV.val (Go.Value.int IntKind.i64 (0 : Int))], HObj.box Md.rw (80 : Nat) [SV.data (K.int IntKind.u8).slice
  (List.take ((↑(List.take ((↑b.length : Int) - IntKind.i64.wrap ((↑b.length : Int) - (8 : Int))).toNat (List.drop (IntKind.i64.wrap ((↑b.length : Int) - (8 : Int))).toNat
  b)).length : Int) - (8 : Int)).toNat (List.drop (Int.toNat (8 : Int)) (List.take ((↑b.length : Int) - IntKind.i64.wrap ((↑b.length : Int) - (8 : Int))).toNat (List.drop
  (IntKind.i64.wrap ((↑b.length : Int) - (8 : Int))).toNat b))))], HObj.box Md.rw (80 : Nat) [SV.junk], HObj.dead] [HObj.box Md.rw (3 : Nat) [SV.val (Go.Value.int IntKind.i64
  (IntKind.i64.wrap (b.getD (Int.toNat (4 : Int)) (0 : Int))))], HObj.box Md.rw (25 : Nat) [SV.val (Go.Value.slice Option.none (0 : Nat) (0 : Nat)), SV.val (Go.Value.slice
  Option.none (0 : Nat) (0 : Nat)), SV.val (Go.Value.slice Option.none (0 : Nat) (0 : Nat)), SV.val (Go.Value.slice Option.none (0 : Nat) (0 : Nat)), SV.val (Go.Value.int
  IntKind.i64 (IntKind.i64.wrap x_7.fst)), SV.val (Go.Value.int IntKind.i64 (IntKind.i64.wrap x.fst))], HObj.box Md.rw (28 : Nat) [SV.val (Go.Value.int IntKind.i64 (0 : Int))],
  HObj.box Md.rw (80 : Nat) [SV.data (K.int IntKind.u8).slice (List.take ((↑(List.take ((↑b.length : Int) - IntKind.i64.wrap ((↑b.length : Int) - (8 : Int))).toNat (List.drop
  (IntKind.i64.wrap ((↑b.length : Int) - (8 : Int))).toNat b)).length : Int) - (8 : Int)).toNat (List.drop (Int.toNat (8 : Int)) (List.take ((↑b.length : Int) - IntKind.i64.wrap
  ((↑b.length : Int) - (8 : Int))).toNat (List.drop (IntKind.i64.wrap ((↑b.length : Int) - (8 : Int))).toNat b))))], HObj.box Md.rw (80 : Nat) [SV.junk], HObj.dead] ∧ ∃ (I : List
  Nat × Int × List Int × Unit → Unit → Prop), ∃ (μ : List Nat × Int × List Int × Unit → Unit → Nat), I (List.replicate m.toNat (0 : Nat), (0 : Int), List.take ((↑(List.take
  ((↑(List.take ((↑b.length : Int) - (5 : Int)).toNat (List.drop (Int.toNat (5 : Int)) b)).length : Int) - (8 : Int)).toNat (List.drop (Int.toNat (8 : Int)) (List.take ((↑b.length :
  Int) - (5 : Int)).toNat (List.drop (Int.toNat (5 : Int)) b)))).length : Int) - (8 : Int)).toNat (List.drop (Int.toNat (8 : Int)) (List.take ((↑(List.take ((↑b.length : Int) - (5 :
  Int)).toNat (List.drop (Int.toNat (5 : Int)) b)).length : Int) - (8 : Int)).toNat (List.drop (Int.toNat (8 : Int)) (List.take ((↑b.length : Int) - (5 : Int)).toNat (List.drop
  (Int.toNat (5 : Int)) b))))), ()) () ∧ ∀ (x_10 : List Nat × Int × List Int × Unit) (y : Unit), I x_10 y → ∀ (a : Bool), a = decide (x_10.snd.fst < (↑m.toNat : Int)) → Br a (∀ (a :
  Bool), a = decide ((↑x_10.snd.snd.fst.length : Int) < (8 : Int)) → Br a False (HIs [HObj.box Md.rw (3 : Nat) [SV.val (Go.Value.int IntKind.i64 (IntKind.i64.wrap (b.getD (Int.toNat
  (4 : Int)) (0 : Int))))], HObj.box Md.rw (25 : Nat) [SV.val (Go.Value.slice Option.none (0 : Nat) (0 : Nat)), SV.val (Go.Value.slice Option.none (0 : Nat) (0 : Nat)), SV.val
  (Go.Value.slice Option.none (0 : Nat) (0 : Nat)), SV.val (Go.Value.slice Option.none (0 : Nat) (0 : Nat)), SV.val (Go.Value.int IntKind.i64 (IntKind.i64.wrap x_7.fst)), SV.val
  (Go.Value.int IntKind.i64 (IntKind.i64.wrap x.fst))], HObj.box Md.rw (28 : Nat) [SV.val (Go.Value.int IntKind.i64 (0 : Int))], HObj.box Md.rw (80 : Nat) [SV.data (K.int
  IntKind.u8).slice (List.take ((↑(List.take ((↑b.length : Int) - IntKind.i64.wrap ((↑b.length : Int) - (8 : Int))).toNat (List.drop (IntKind.i64.wrap ((↑b.length : Int) - (8 :
  Int))).toNat b)).length : Int) - (8 : Int)).toNat (List.drop (Int.toNat (8 : Int)) (List.take ((↑b.length : Int) - IntKind.i64.wrap ((↑b.length : Int) - (8 : Int))).toNat
  (List.drop (IntKind.i64.wrap ((↑b.length : Int) - (8 : Int))).toNat b))))], HObj.box Md.rw (80 : Nat) [SV.data (K.int IntKind.u8).slice x_10.snd.snd.fst], HObj.dead, HObj.row
  Md.rw (53 : Nat) (K.flt Go.FloatKind.f64) x_10.fst] [HObj.box Md.rw (3 : Nat) [SV.val (Go.Value.int IntKind.i64 (IntKind.i64.wrap (b.getD (Int.toNat (4 : Int)) (0 : Int))))],
  HObj.box Md.rw (25 : Nat) [SV.val (Go.Value.slice Option.none (0 : Nat) (0 : Nat)), SV.val (Go.Value.slice Option.none (0 : Nat) (0 : Nat)), SV.val (Go.Value.slice Option.none (0
  : Nat) (0 : Nat)), SV.val (Go.Value.slice Option.none (0 : Nat) (0 : Nat)), SV.val (Go.Value.int IntKind.i64 (IntKind.i64.wrap x_7.fst)), SV.val (Go.Value.int IntKind.i64
  (IntKind.i64.wrap x.fst))], HObj.box Md.rw (28 : Nat) [SV.val (Go.Value.int IntKind.i64 (0 : Int))], HObj.box Md.rw (80 : Nat) [SV.data (K.int IntKind.u8).slice (List.take
  ((↑(List.take ((↑b.length : Int) - IntKind.i64.wrap ((↑b.length : Int) - (8 : Int))).toNat (List.drop (IntKind.i64.wrap ((↑b.length : Int) - (8 : Int))).toNat b)).length : Int) -
  (8 : Int)).toNat (List.drop (Int.toNat (8 : Int)) (List.take ((↑b.length : Int) - IntKind.i64.wrap ((↑b.length : Int) - (8 : Int))).toNat (List.drop (IntKind.i64.wrap ((↑b.length
  : Int) - (8 : Int))).toNat b))))], HObj.box Md.rw (80 : Nat) [SV.data (K.int IntKind.u8).slice x_10.snd.snd.fst], HObj.dead, HObj.row Md.rw (53 : Nat) (K.flt Go.FloatKind.f64)
  x_10.fst] ∧ ∃ (I_1 : Int × Int × Unit → Unit → Prop), ∃ (μ_1 : Int × Int × Unit → Unit → Nat), I_1 ((0 : Int), (7 : Int), ()) () ∧ ∀ (x_14 : Int × Int × Unit) (y_1 : Unit), I_1
  x_14 y_1 → ∀ (a : Bool), a = decide (x_14.snd.fst ≥ (0 : Int)) → Br a (∃ (h : (0 : Int) ≤ (8 : Int)), ∃ (h : (0 : Int) ≤ x_14.snd.fst ∧ x_14.snd.fst < (↑x_10.snd.snd.fst.length :
  Int)), HIs [HObj.box Md.rw (3 : Nat) [SV.val (Go.Value.int IntKind.i64 (IntKind.i64.wrap (b.getD (Int.toNat (4 : Int)) (0 : Int))))], HObj.box Md.rw (25 : Nat) [SV.val
  (Go.Value.slice Option.none (0 : Nat) (0 : Nat)), SV.val (Go.Value.slice Option.none (0 : Nat) (0 : Nat)), SV.val (Go.Value.slice Option.none (0 : Nat) (0 : Nat)), SV.val
  (Go.Value.slice Option.none (0 : Nat) (0 : Nat)), SV.val (Go.Value.int IntKind.i64 (IntKind.i64.wrap x_7.fst)), SV.val (Go.Value.int IntKind.i64 (IntKind.i64.wrap x.fst))],
  HObj.box Md.rw (28 : Nat) [SV.val (Go.Value.int IntKind.i64 (0 : Int))], HObj.box Md.rw (80 : Nat) [SV.data (K.int IntKind.u8).slice (List.take ((↑(List.take ((↑b.length : Int) -
  IntKind.i64.wrap ((↑b.length : Int) - (8 : Int))).toNat (List.drop (IntKind.i64.wrap ((↑b.length : Int) - (8 : Int))).toNat b)).length : Int) - (8 : Int)).toNat (List.drop
  (Int.toNat (8 : Int)) (List.take ((↑b.length : Int) - IntKind.i64.wrap ((↑b.length : Int) - (8 : Int))).toNat (List.drop (IntKind.i64.wrap ((↑b.length : Int) - (8 : Int))).toNat
  b))))], HObj.box Md.rw (80 : Nat) [SV.data (K.int IntKind.u8).slice x_10.snd.snd.fst], HObj.dead, HObj.row Md.rw (53 : Nat) (K.flt Go.FloatKind.f64) x_10.fst] [HObj.box Md.rw (3 :
  Nat) [SV.val (Go.Value.int IntKind.i64 (IntKind.i64.wrap (b.getD (Int.toNat (4 : Int)) (0 : Int))))], HObj.box Md.rw (25 : Nat) [SV.val (Go.Value.slice Option.none (0 : Nat) (0 :
  Nat)), SV.val (Go.Value.slice Option.none (0 : Nat) (0 : Nat)), SV.val (Go.Value.slice Option.none (0 : Nat) (0 : Nat)), SV.val (Go.Value.slice Option.none (0 : Nat) (0 : Nat)),
  SV.val (Go.Value.int IntKind.i64 (IntKind.i64.wrap x_7.fst)), SV.val (Go.Value.int IntKind.i64 (IntKind.i64.wrap x.fst))], HObj.box Md.rw (28 : Nat) [SV.val (Go.Value.int
  IntKind.i64 (0 : Int))], HObj.box Md.rw (80 : Nat) [SV.data (K.int IntKind.u8).slice (List.take ((↑(List.take ((↑b.length : Int) - IntKind.i64.wrap ((↑b.length : Int) - (8 :
  Int))).toNat (List.drop (IntKind.i64.wrap ((↑b.length : Int) - (8 : Int))).toNat b)).length : Int) - (8 : Int)).toNat (List.drop (Int.toNat (8 : Int)) (List.take ((↑b.length :
  Int) - IntKind.i64.wrap ((↑b.length : Int) - (8 : Int))).toNat (List.drop (IntKind.i64.wrap ((↑b.length : Int) - (8 : Int))).toNat b))))], HObj.box Md.rw (80 : Nat) [SV.data
  (K.int IntKind.u8).slice x_10.snd.snd.fst], HObj.dead, HObj.row Md.rw (53 : Nat) (K.flt Go.FloatKind.f64) x_10.fst] ∧ I_1 (Go.bits Go.BinOp.or IntKind.u64 (IntKind.u64.wrap
  (x_14.fst * (2 : Int) ^ Min.min (Int.toNat (8 : Int)) IntKind.u64.bits)) (IntKind.u64.wrap (x_10.snd.snd.fst.getD x_14.snd.fst.toNat (0 : Int))), IntKind.i64.wrap (x_14.snd.fst -
  (1 : Int)), ()) () ∧ μ_1 (Go.bits Go.BinOp.or IntKind.u64 (IntKind.u64.wrap (x_14.fst * (2 : Int) ^ Min.min (Int.toNat (8 : Int)) IntKind.u64.bits)) (IntKind.u64.wrap
  (x_10.snd.snd.fst.getD x_14.snd.fst.toNat (0 : Int))), IntKind.i64.wrap (x_14.snd.fst - (1 : Int)), ()) () < μ_1 x_14 y_1) (∃ (h : (0 : Int) ≤ (8 : Int) ∧ (8 : Int) ≤
  (↑x_10.snd.snd.fst.length : Int) ∧ (↑x_10.snd.snd.fst.length : Int) ≤ (↑x_10.snd.snd.fst.length : Int)), ∃ (h : True), ∃ (h : (0 : Int) ≤ x_10.snd.fst ∧ x_10.snd.fst <
  (↑x_10.fst.length : Int)), ((0 : Nat) = (0 : Nat) ∧ x_10.fst.length = (x_10.fst.set ((0 : Nat) + x_10.snd.fst.toNat) (fromR x_14.fst).fst).length) ∧ HIs [HObj.box Md.rw (3 : Nat)
  [SV.val (Go.Value.int IntKind.i64 (IntKind.i64.wrap (b.getD (Int.toNat (4 : Int)) (0 : Int))))], HObj.box Md.rw (25 : Nat) [SV.val (Go.Value.slice Option.none (0 : Nat) (0 :
  Nat)), SV.val (Go.Value.slice Option.none (0 : Nat) (0 : Nat)), SV.val (Go.Value.slice Option.none (0 : Nat) (0 : Nat)), SV.val (Go.Value.slice Option.none (0 : Nat) (0 : Nat)),
  SV.val (Go.Value.int IntKind.i64 (IntKind.i64.wrap x_7.fst)), SV.val (Go.Value.int IntKind.i64 (IntKind.i64.wrap x.fst))], HObj.box Md.rw (28 : Nat) [SV.val (Go.Value.int
  IntKind.i64 (0 : Int))], HObj.box Md.rw (80 : Nat) [SV.data (K.int IntKind.u8).slice (List.take ((↑(List.take ((↑b.length : Int) - IntKind.i64.wrap ((↑b.length : Int) - (8 :
  Int))).toNat (List.drop (IntKind.i64.wrap ((↑b.length : Int) - (8 : Int))).toNat b)).length : Int) - (8 : Int)).toNat (List.drop (Int.toNat (8 : Int)) (List.take ((↑b.length :
  Int) - IntKind.i64.wrap ((↑b.length : Int) - (8 : Int))).toNat (List.drop (IntKind.i64.wrap ((↑b.length : Int) - (8 : Int))).toNat b))))], HObj.box Md.rw (80 : Nat) [SV.junk],
  HObj.dead] [HObj.box Md.rw (3 : Nat) [SV.val (Go.Value.int IntKind.i64 (IntKind.i64.wrap (b.getD (Int.toNat (4 : Int)) (0 : Int))))], HObj.box Md.rw (25 : Nat) [SV.val
  (Go.Value.slice Option.none (0 : Nat) (0 : Nat)), SV.val (Go.Value.slice Option.none (0 : Nat) (0 : Nat)), SV.val (Go.Value.slice Option.none (0 : Nat) (0 : Nat)), SV.val
  (Go.Value.slice Option.none (0 : Nat) (0 : Nat)), SV.val (Go.Value.int IntKind.i64 (IntKind.i64.wrap x_7.fst)), SV.val (Go.Value.int IntKind.i64 (IntKind.i64.wrap x.fst))],
  HObj.box Md.rw (28 : Nat) [SV.val (Go.Value.int IntKind.i64 (0 : Int))], HObj.box Md.rw (80 : Nat) [SV.data (K.int IntKind.u8).slice (List.take ((↑(List.take ((↑b.length : Int) -
  IntKind.i64.wrap ((↑b.length : Int) - (8 : Int))).toNat (List.drop (IntKind.i64.wrap ((↑b.length : Int) - (8 : Int))).toNat b)).length : Int) - (8 : Int)).toNat (List.drop
  (Int.toNat (8 : Int)) (List.take ((↑b.length : Int) - IntKind.i64.wrap ((↑b.length : Int) - (8 : Int))).toNat (List.drop (IntKind.i64.wrap ((↑b.length : Int) - (8 : Int))).toNat
  b))))], HObj.box Md.rw (80 : Nat) [SV.junk], HObj.dead] ∧ I (x_10.fst.set ((0 : Nat) + x_10.snd.fst.toNat) (fromR x_14.fst).fst, IntKind.i64.wrap (x_10.snd.fst + (1 : Int)),
  List.take ((↑x_10.snd.snd.fst.length : Int) - (8 : Int)).toNat (List.drop (Int.toNat (8 : Int)) x_10.snd.snd.fst), ()) () ∧ μ (x_10.fst.set ((0 : Nat) + x_10.snd.fst.toNat) (fromR
  x_14.fst).fst, IntKind.i64.wrap (x_10.snd.fst + (1 : Int)), List.take ((↑x_10.snd.snd.fst.length : Int) - (8 : Int)).toNat (List.drop (Int.toNat (8 : Int)) x_10.snd.snd.fst), ())
  () < μ x_10 y))) (∃ (h : (0 : Int) ≤ m ∧ m ≤ m ∧ m * (↑(8 : Nat) : Int) ≤ (281474976710656 : Int)), ((0 : Nat) = (0 : Nat) ∧ m.toNat = (List.replicate m.toNat (0 : Int)).length) ∧
  HIs [HObj.box Md.rw (3 : Nat) [SV.val (Go.Value.int IntKind.i64 (IntKind.i64.wrap (b.getD (Int.toNat (4 : Int)) (0 : Int))))], HObj.box Md.rw (25 : Nat) [SV.osl (6 : Nat) (0 :
  Nat) x_10.fst.length, SV.val (Go.Value.slice Option.none (0 : Nat) (0 : Nat)), SV.val (Go.Value.slice Option.none (0 : Nat) (0 : Nat)), SV.val (Go.Value.slice Option.none (0 :
  Nat) (0 : Nat)), SV.val (Go.Value.int IntKind.i64 (IntKind.i64.wrap x_7.fst)), SV.val (Go.Value.int IntKind.i64 (IntKind.i64.wrap x.fst))], HObj.box Md.rw (28 : Nat) [SV.val
  (Go.Value.int IntKind.i64 (0 : Int))], HObj.box Md.rw (80 : Nat) [SV.data (K.int IntKind.u8).slice (List.take ((↑(List.take ((↑b.length : Int) - IntKind.i64.wrap ((↑b.length :
  Int) - (8 : Int))).toNat (List.drop (IntKind.i64.wrap ((↑b.length : Int) - (8 : Int))).toNat b)).length : Int) - (8 : Int)).toNat (List.drop (Int.toNat (8 : Int)) (List.take
  ((↑b.length : Int) - IntKind.i64.wrap ((↑b.length : Int) - (8 : Int))).toNat (List.drop (IntKind.i64.wrap ((↑b.length : Int) - (8 : Int))).toNat b))))], HObj.box Md.rw (80 : Nat)
  [SV.junk], HObj.dead, HObj.row Md.rw (53 : Nat) (K.flt Go.FloatKind.f64) x_10.fst, HObj.dead] [HObj.box Md.rw (3 : Nat) [SV.val (Go.Value.int IntKind.i64 (IntKind.i64.wrap (b.getD
  (Int.toNat (4 : Int)) (0 : Int))))], HObj.box Md.rw (25 : Nat) [SV.osl (6 : Nat) (0 : Nat) x_10.fst.length, SV.val (Go.Value.slice Option.none (0 : Nat) (0 : Nat)), SV.val
  (Go.Value.slice Option.none (0 : Nat) (0 : Nat)), SV.val (Go.Value.slice Option.none (0 : Nat) (0 : Nat)), SV.val (Go.Value.int IntKind.i64 (IntKind.i64.wrap x_7.fst)), SV.val
  (Go.Value.int IntKind.i64 (IntKind.i64.wrap x.fst))], HObj.box Md.rw (28 : Nat) [SV.val (Go.Value.int IntKind.i64 (0 : Int))], HObj.box Md.rw (80 : Nat) [SV.data (K.int
  IntKind.u8).slice (List.take ((↑(List.take ((↑b.length : Int) - IntKind.i64.wrap ((↑b.length : Int) - (8 : Int))).toNat (List.drop (IntKind.i64.wrap ((↑b.length : Int) - (8 :
  Int))).toNat b)).length : Int) - (8 : Int)).toNat (List.drop (Int.toNat (8 : Int)) (List.take ((↑b.length : Int) - IntKind.i64.wrap ((↑b.length : Int) - (8 : Int))).toNat
  (List.drop (IntKind.i64.wrap ((↑b.length : Int) - (8 : Int))).toNat b))))], HObj.box Md.rw (80 : Nat) [SV.junk], HObj.dead, HObj.row Md.rw (53 : Nat) (K.flt Go.FloatKind.f64)
  x_10.fst, HObj.dead] ∧ ∃ (I : List Int × Int × List Int × Unit → Unit → Prop), ∃ (μ : List Int × Int × List Int × Unit → Unit → Nat), I (List.replicate m.toNat (0 : Int), (0 :
  Int), x_10.snd.snd.fst, ()) () ∧ ∀ (x_13 : List Int × Int × List Int × Unit) (y : Unit), I x_13 y → ∀ (a : Bool), a = decide (x_13.snd.fst < (↑m.toNat : Int)) → Br a (∀ (a :
  Bool), a = decide ((↑x_13.snd.snd.fst.length : Int) < (8 : Int)) → Br a False (HIs [HObj.box Md.rw (3 : Nat) [SV.val (Go.Value.int IntKind.i64 (IntKind.i64.wrap (b.getD (Int.toNat
  (4 : Int)) (0 : Int))))], HObj.box Md.rw (25 : Nat) [SV.osl (6 : Nat) (0 : Nat) x_10.fst.length, SV.val (Go.Value.slice Option.none (0 : Nat) (0 : Nat)), SV.val (Go.Value.slice
  Option.none (0 : Nat) (0 : Nat)), SV.val (Go.Value.slice Option.none (0 : Nat) (0 : Nat)), SV.val (Go.Value.int IntKind.i64 (IntKind.i64.wrap x_7.fst)), SV.val (Go.Value.int
  IntKind.i64 (IntKind.i64.wrap x.fst))], HObj.box Md.rw (28 : Nat) [SV.val (Go.Value.int IntKind.i64 (0 : Int))], HObj.box Md.rw (80 : Nat) [SV.data (K.int IntKind.u8).slice
  (List.take ((↑(List.take ((↑b.length : Int) - IntKind.i64.wrap ((↑b.length : Int) - (8 : Int))).toNat (List.drop (IntKind.i64.wrap ((↑b.length : Int) - (8 : Int))).toNat
  b)).length : Int) - (8 : Int)).toNat (List.drop (Int.toNat (8 : Int)) (List.take ((↑b.length : Int) - IntKind.i64.wrap ((↑b.length : Int) - (8 : Int))).toNat (List.drop
  (IntKind.i64.wrap ((↑b.length : Int) - (8 : Int))).toNat b))))], HObj.box Md.rw (80 : Nat) [SV.data (K.int IntKind.u8).slice x_13.snd.snd.fst], HObj.dead, HObj.row Md.rw (53 :
  Nat) (K.flt Go.FloatKind.f64) x_10.fst, HObj.dead, HObj.row Md.rw (2 : Nat) (K.int IntKind.i64) x_13.fst] [HObj.box Md.rw (3 : Nat) [SV.val (Go.Value.int IntKind.i64
  (IntKind.i64.wrap (b.getD (Int.toNat (4 : Int)) (0 : Int))))], HObj.box Md.rw (25 : Nat) [SV.osl (6 : Nat) (0 : Nat) x_10.fst.length, SV.val (Go.Value.slice Option.none (0 : Nat)
  (0 : Nat)), SV.val (Go.Value.slice Option.none (0 : Nat) (0 : Nat)), SV.val (Go.Value.slice Option.none (0 : Nat) (0 : Nat)), SV.val (Go.Value.int IntKind.i64 (IntKind.i64.wrap
  x_7.fst)), SV.val (Go.Value.int IntKind.i64 (IntKind.i64.wrap x.fst))], HObj.box Md.rw (28 : Nat) [SV.val (Go.Value.int IntKind.i64 (0 : Int))], HObj.box Md.rw (80 : Nat) [SV.data
  (K.int IntKind.u8).slice (List.take ((↑(List.take ((↑b.length : Int) - IntKind.i64.wrap ((↑b.length : Int) - (8 : Int))).toNat (List.drop (IntKind.i64.wrap ((↑b.length : Int) - (8
  : Int))).toNat b)).length : Int) - (8 : Int)).toNat (List.drop (Int.toNat (8 : Int)) (List.take ((↑b.length : Int) - IntKind.i64.wrap ((↑b.length : Int) - (8 : Int))).toNat
  (List.drop (IntKind.i64.wrap ((↑b.length : Int) - (8 : Int))).toNat b))))], HObj.box Md.rw (80 : Nat) [SV.data (K.int IntKind.u8).slice x_13.snd.snd.fst], HObj.dead, HObj.row
  Md.rw (53 : Nat) (K.flt Go.FloatKind.f64) x_10.fst, HObj.dead, HObj.row Md.rw (2 : Nat) (K.int IntKind.i64) x_13.fst] ∧ ∃ (I_1 : Int × Int × Unit → Unit → Prop), ∃ (μ_1 : Int ×
  Int × Unit → Unit → Nat), I_1 ((0 : Int), (7 : Int), ()) () ∧ ∀ (x_17 : Int × Int × Unit) (y_1 : Unit), I_1 x_17 y_1 → ∀ (a : Bool), a = decide (x_17.snd.fst ≥ (0 : Int)) → Br a
  (∃ (h : (0 : Int) ≤ (8 : Int)), ∃ (h : (0 : Int) ≤ x_17.snd.fst ∧ x_17.snd.fst < (↑x_13.snd.snd.fst.length : Int)), HIs [HObj.box Md.rw (3 : Nat) [SV.val (Go.Value.int IntKind.i64
  (IntKind.i64.wrap (b.getD (Int.toNat (4 : Int)) (0 : Int))))], HObj.box Md.rw (25 : Nat) [SV.osl (6 : Nat) (0 : Nat) x_10.fst.length, SV.val (Go.Value.slice Option.none (0 : Nat)
  (0 : Nat)), SV.val (Go.Value.slice Option.none (0 : Nat) (0 : Nat)), SV.val (Go.Value.slice Option.none (0 : Nat) (0 : Nat)), SV.val (Go.Value.int IntKind.i64 (IntKind.i64.wrap
  x_7.fst)), SV.val (Go.Value.int IntKind.i64 (IntKind.i64.wrap x.fst))], HObj.box Md.rw (28 : Nat) [SV.val (Go.Value.int IntKind.i64 (0 : Int))], HObj.box Md.rw (80 : Nat) [SV.data
  (K.int IntKind.u8).slice (List.take ((↑(List.take ((↑b.length : Int) - IntKind.i64.wrap ((↑b.length : Int) - (8 : Int))).toNat (List.drop (IntKind.i64.wrap ((↑b.length : Int) - (8
  : Int))).toNat b)).length : Int) - (8 : Int)).toNat (List.drop (Int.toNat (8 : Int)) (List.take ((↑b.length : Int) - IntKind.i64.wrap ((↑b.length : Int) - (8 : Int))).toNat
  (List.drop (IntKind.i64.wrap ((↑b.length : Int) - (8 : Int))).toNat b))))], HObj.box Md.rw (80 : Nat) [SV.data (K.int IntKind.u8).slice x_13.snd.snd.fst], HObj.dead, HObj.row
  Md.rw (53 : Nat) (K.flt Go.FloatKind.f64) x_10.fst, HObj.dead, HObj.row Md.rw (2 : Nat) (K.int IntKind.i64) x_13.fst] [HObj.box Md.rw (3 : Nat) [SV.val (Go.Value.int IntKind.i64
  (IntKind.i64.wrap (b.getD (Int.toNat (4 : Int)) (0 : Int))))], HObj.box Md.rw (25 : Nat) [SV.osl (6 : Nat) (0 : Nat) x_10.fst.length, SV.val (Go.Value.slice Option.none (0 : Nat)
  (0 : Nat)), SV.val (Go.Value.slice Option.none (0 : Nat) (0 : Nat)), SV.val (Go.Value.slice Option.none (0 : Nat) (0 : Nat)), SV.val (Go.Value.int IntKind.i64 (IntKind.i64.wrap
  x_7.fst)), SV.val (Go.Value.int IntKind.i64 (IntKind.i64.wrap x.fst))], HObj.box Md.rw (28 : Nat) [SV.val (Go.Value.int IntKind.i64 (0 : Int))], HObj.box Md.rw (80 : Nat) [SV.data
  (K.int IntKind.u8).slice (List.take ((↑(List.take ((↑b.length : Int) - IntKind.i64.wrap ((↑b.length : Int) - (8 : Int))).toNat (List.drop (IntKind.i64.wrap ((↑b.length : Int) - (8
  : Int))).toNat b)).length : Int) - (8 : Int)).toNat (List.drop (Int.toNat (8 : Int)) (List.take ((↑b.length : Int) - IntKind.i64.wrap ((↑b.length : Int) - (8 : Int))).toNat
  (List.drop (IntKind.i64.wrap ((↑b.length : Int) - (8 : Int))).toNat b))))], HObj.box Md.rw (80 : Nat) [SV.data (K.int IntKind.u8).slice x_13.snd.snd.fst], HObj.dead, HObj.row
  Md.rw (53 : Nat) (K.flt Go.FloatKind.f64) x_10.fst, HObj.dead, HObj.row Md.rw (2 : Nat) (K.int IntKind.i64) x_13.fst] ∧ I_1 (Go.bits Go.BinOp.or IntKind.u64 (IntKind.u64.wrap
  (x_17.fst * (2 : Int) ^ Min.min (Int.toNat (8 : Int)) IntKind.u64.bits)) (IntKind.u64.wrap (x_13.snd.snd.fst.getD x_17.snd.fst.toNat (0 : Int))), IntKind.i64.wrap (x_17.snd.fst -
  (1 : Int)), ()) () ∧ μ_1 (Go.bits Go.BinOp.or IntKind.u64 (IntKind.u64.wrap (x_17.fst * (2 : Int) ^ Min.min (Int.toNat (8 : Int)) IntKind.u64.bits)) (IntKind.u64.wrap
  (x_13.snd.snd.fst.getD x_17.snd.fst.toNat (0 : Int))), IntKind.i64.wrap (x_17.snd.fst - (1 : Int)), ()) () < μ_1 x_17 y_1) (∃ (h : (0 : Int) ≤ (8 : Int) ∧ (8 : Int) ≤
  (↑x_13.snd.snd.fst.length : Int) ∧ (↑x_13.snd.snd.fst.length : Int) ≤ (↑x_13.snd.snd.fst.length : Int)), ∃ (h : (0 : Int) ≤ x_13.snd.fst ∧ x_13.snd.fst < (↑x_13.fst.length :
  Int)), ((0 : Nat) = (0 : Nat) ∧ x_13.fst.length = (x_13.fst.set ((0 : Nat) + x_13.snd.fst.toNat) (IntKind.i64.wrap x_17.fst)).length) ∧ HIs [HObj.box Md.rw (3 : Nat) [SV.val
  (Go.Value.int IntKind.i64 (IntKind.i64.wrap (b.getD (Int.toNat (4 : Int)) (0 : Int))))], HObj.box Md.rw (25 : Nat) [SV.osl (6 : Nat) (0 : Nat) x_10.fst.length, SV.val
  (Go.Value.slice Option.none (0 : Nat) (0 : Nat)), SV.val (Go.Value.slice Option.none (0 : Nat) (0 : Nat)), SV.val (Go.Value.slice Option.none (0 : Nat) (0 : Nat)), SV.val
  (Go.Value.int IntKind.i64 (IntKind.i64.wrap x_7.fst)), SV.val (Go.Value.int IntKind.i64 (IntKind.i64.wrap x.fst))], HObj.box Md.rw (28 : Nat) [SV.val (Go.Value.int IntKind.i64 (0
  : Int))], HObj.box Md.rw (80 : Nat) [SV.data (K.int IntKind.u8).slice (List.take ((↑(List.take ((↑b.length : Int) - IntKind.i64.wrap ((↑b.length : Int) - (8 : Int))).toNat
  (List.drop (IntKind.i64.wrap ((↑b.length : Int) - (8 : Int))).toNat b)).length : Int) - (8 : Int)).toNat (List.drop (Int.toNat (8 : Int)) (List.take ((↑b.length : Int) -
  IntKind.i64.wrap ((↑b.length : Int) - (8 : Int))).toNat (List.drop (IntKind.i64.wrap ((↑b.length : Int) - (8 : Int))).toNat b))))], HObj.box Md.rw (80 : Nat) [SV.junk], HObj.dead,
  HObj.row Md.rw (53 : Nat) (K.flt Go.FloatKind.f64) x_10.fst, HObj.dead] [HObj.box Md.rw (3 : Nat) [SV.val (Go.Value.int IntKind.i64 (IntKind.i64.wrap (b.getD (Int.toNat (4 : Int))
  (0 : Int))))], HObj.box Md.rw (25 : Nat) [SV.osl (6 : Nat) (0 : Nat) x_10.fst.length, SV.val (Go.Value.slice Option.none (0 : Nat) (0 : Nat)), SV.val (Go.Value.slice Option.none
  (0 : Nat) (0 : Nat)), SV.val (Go.Value.slice Option.none (0 : Nat) (0 : Nat)), SV.val (Go.Value.int IntKind.i64 (IntKind.i64.wrap x_7.fst)), SV.val (Go.Value.int IntKind.i64
  (IntKind.i64.wrap x.fst))], HObj.box Md.rw (28 : Nat) [SV.val (Go.Value.int IntKind.i64 (0 : Int))], HObj.box Md.rw (80 : Nat) [SV.data (K.int IntKind.u8).slice (List.take
  ((↑(List.take ((↑b.length : Int) - IntKind.i64.wrap ((↑b.length : Int) - (8 : Int))).toNat (List.drop (IntKind.i64.wrap ((↑b.length : Int) - (8 : Int))).toNat b)).length : Int) -
  (8 : Int)).toNat (List.drop (Int.toNat (8 : Int)) (List.take ((↑b.length : Int) - IntKind.i64.wrap ((↑b.length : Int) - (8 : Int))).toNat (List.drop (IntKind.i64.wrap ((↑b.length
  : Int) - (8 : Int))).toNat b))))], HObj.box Md.rw (80 : Nat) [SV.junk], HObj.dead, HObj.row Md.rw (53 : Nat) (K.flt Go.FloatKind.f64) x_10.fst, HObj.dead] ∧ I (x_13.fst.set ((0 :
  Nat) + x_13.snd.fst.toNat) (IntKind.i64.wrap x_17.fst), IntKind.i64.wrap (x_13.snd.fst + (1 : Int)), List.take ((↑x_13.snd.snd.fst.length : Int) - (8 : Int)).toNat (List.drop
  (Int.toNat (8 : Int)) x_13.snd.snd.fst), ()) () ∧ μ (x_13.fst.set ((0 : Nat) + x_13.snd.fst.toNat) (IntKind.i64.wrap x_17.fst), IntKind.i64.wrap (x_13.snd.fst + (1 : Int)),
  List.take ((↑x_13.snd.snd.fst.length : Int) - (8 : Int)).toNat (List.drop (Int.toNat (8 : Int)) x_13.snd.snd.fst), ()) () < μ x_13 y))) (∃ (h : (0 : Int) ≤ m ∧ m ≤ m ∧ m * (↑(8 :
  Nat) : Int) ≤ (281474976710656 : Int)), ((0 : Nat) = (0 : Nat) ∧ m.toNat = (List.replicate m.toNat (0 : Int)).length) ∧ HIs [HObj.box Md.rw (3 : Nat) [SV.val (Go.Value.int
  IntKind.i64 (IntKind.i64.wrap (b.getD (Int.toNat (4 : Int)) (0 : Int))))], HObj.box Md.rw (25 : Nat) [SV.osl (6 : Nat) (0 : Nat) x_10.fst.length, SV.osl (8 : Nat) (0 : Nat)
  x_13.fst.length, SV.val (Go.Value.slice Option.none (0 : Nat) (0 : Nat)), SV.val (Go.Value.slice Option.none (0 : Nat) (0 : Nat)), SV.val (Go.Value.int IntKind.i64
  (IntKind.i64.wrap x_7.fst)), SV.val (Go.Value.int IntKind.i64 (IntKind.i64.wrap x.fst))], HObj.box Md.rw (28 : Nat) [SV.val (Go.Value.int IntKind.i64 (0 : Int))], HObj.box Md.rw
  (80 : Nat) [SV.data (K.int IntKind.u8).slice (List.take ((↑(List.take ((↑b.length : Int) - IntKind.i64.wrap ((↑b.length : Int) - (8 : Int))).toNat (List.drop (IntKind.i64.wrap
  ((↑b.length : Int) - (8 : Int))).toNat b)).length : Int) - (8 : Int)).toNat (List.drop (Int.toNat (8 : Int)) (List.take ((↑b.length : Int) - IntKind.i64.wrap ((↑b.length : Int) -
  (8 : Int))).toNat (List.drop (IntKind.i64.wrap ((↑b.length : Int) - (8 : Int))).toNat b))))], HObj.box Md.rw (80 : Nat) [SV.junk], HObj.dead, HObj.row Md.rw (53 : Nat) (K.flt
  Go.FloatKind.f64) x_10.fst, HObj.dead, HObj.row Md.rw (2 : Nat) (K.int IntKind.i64) x_13.fst, HObj.dead] [HObj.box Md.rw (3 : Nat) [SV.val (Go.Value.int IntKind.i64
  (IntKind.i64.wrap (b.getD (Int.toNat (4 : Int)) (0 : Int))))], HObj.box Md.rw (25 : Nat) [SV.osl (6 : Nat) (0 : Nat) x_10.fst.length, SV.osl (8 : Nat) (0 : Nat) x_13.fst.length,
  SV.val (Go.Value.slice Option.none (0 : Nat) (0 : Nat)), SV.val (Go.Value.slice Option.none (0 : Nat) (0 : Nat)), SV.val (Go.Value.int IntKind.i64 (IntKind.i64.wrap x_7.fst)),
  SV.val (Go.Value.int IntKind.i64 (IntKind.i64.wrap x.fst))], HObj.box Md.rw (28 : Nat) [SV.val (Go.Value.int IntKind.i64 (0 : Int))], HObj.box Md.rw (80 : Nat) [SV.data (K.int
  IntKind.u8).slice (List.take ((↑(List.take ((↑b.length : Int) - IntKind.i64.wrap ((↑b.length : Int) - (8 : Int))).toNat (List.drop (IntKind.i64.wrap ((↑b.length : Int) - (8 :
  Int))).toNat b)).length : Int) - (8 : Int)).toNat (List.drop (Int.toNat (8 : Int)) (List.take ((↑b.length : Int) - IntKind.i64.wrap ((↑b.length : Int) - (8 : Int))).toNat
  (List.drop (IntKind.i64.wrap ((↑b.length : Int) - (8 : Int))).toNat b))))], HObj.box Md.rw (80 : Nat) [SV.junk], HObj.dead, HObj.row Md.rw (53 : Nat) (K.flt Go.FloatKind.f64)
  x_10.fst, HObj.dead, HObj.row Md.rw (2 : Nat) (K.int IntKind.i64) x_13.fst, HObj.dead] ∧ ∃ (I : List Int × Int × List Int × Unit → Unit → Prop), ∃ (μ : List Int × Int × List Int ×
  Unit → Unit → Nat), I (List.replicate m.toNat (0 : Int), (0 : Int), x_13.snd.snd.fst, ()) () ∧ ∀ (x_16 : List Int × Int × List Int × Unit) (y : Unit), I x_16 y → ∀ (a : Bool), a =
  decide (x_16.snd.fst < (↑m.toNat : Int)) → Br a (∀ (a : Bool), a = decide ((↑x_16.snd.snd.fst.length : Int) < (8 : Int)) → Br a False (HIs [HObj.box Md.rw (3 : Nat) [SV.val
  (Go.Value.int IntKind.i64 (IntKind.i64.wrap (b.getD (Int.toNat (4 : Int)) (0 : Int))))], HObj.box Md.rw (25 : Nat) [SV.osl (6 : Nat) (0 : Nat) x_10.fst.length, SV.osl (8 : Nat) (0
  : Nat) x_13.fst.length, SV.val (Go.Value.slice Option.none (0 : Nat) (0 : Nat)), SV.val (Go.Value.slice Option.none (0 : Nat) (0 : Nat)), SV.val (Go.Value.int IntKind.i64
  (IntKind.i64.wrap x_7.fst)), SV.val (Go.Value.int IntKind.i64 (IntKind.i64.wrap x.fst))], HObj.box Md.rw (28 : Nat) [SV.val (Go.Value.int IntKind.i64 (0 : Int))], HObj.box Md.rw
  (80 : Nat) [SV.data (K.int IntKind.u8).slice (List.take ((↑(List.take ((↑b.length : Int) - IntKind.i64.wrap ((↑b.length : Int) - (8 : Int))).toNat (List.drop (IntKind.i64.wrap
  ((↑b.length : Int) - (8 : Int))).toNat b)).length : Int) - (8 : Int)).toNat (List.drop (Int.toNat (8 : Int)) (List.take ((↑b.length : Int) - IntKind.i64.wrap ((↑b.length : Int) -
  (8 : Int))).toNat (List.drop (IntKind.i64.wrap ((↑b.length : Int) - (8 : Int))).toNat b))))], HObj.box Md.rw (80 : Nat) [SV.data (K.int IntKind.u8).slice x_16.snd.snd.fst],
  HObj.dead, HObj.row Md.rw (53 : Nat) (K.flt Go.FloatKind.f64) x_10.fst, HObj.dead, HObj.row Md.rw (2 : Nat) (K.int IntKind.i64) x_13.fst, HObj.dead, HObj.row Md.rw (2 : Nat)
  (K.int IntKind.i64) x_16.fst] [HObj.box Md.rw (3 : Nat) [SV.val (Go.Value.int IntKind.i64 (IntKind.i64.wrap (b.getD (Int.toNat (4 : Int)) (0 : Int))))], HObj.box Md.rw (25 : Nat)
  [SV.osl (6 : Nat) (0 : Nat) x_10.fst.length, SV.osl (8 : Nat) (0 : Nat) x_13.fst.length, SV.val (Go.Value.slice Option.none (0 : Nat) (0 : Nat)), SV.val (Go.Value.slice
  Option.none (0 : Nat) (0 : Nat)), SV.val (Go.Value.int IntKind.i64 (IntKind.i64.wrap x_7.fst)), SV.val (Go.Value.int IntKind.i64 (IntKind.i64.wrap x.fst))], HObj.box Md.rw (28 :
  Nat) [SV.val (Go.Value.int IntKind.i64 (0 : Int))], HObj.box Md.rw (80 : Nat) [SV.data (K.int IntKind.u8).slice (List.take ((↑(List.take ((↑b.length : Int) - IntKind.i64.wrap
  ((↑b.length : Int) - (8 : Int))).toNat (List.drop (IntKind.i64.wrap ((↑b.length : Int) - (8 : Int))).toNat b)).length : Int) - (8 : Int)).toNat (List.drop (Int.toNat (8 : Int))
  (List.take ((↑b.length : Int) - IntKind.i64.wrap ((↑b.length : Int) - (8 : Int))).toNat (List.drop (IntKind.i64.wrap ((↑b.length : Int) - (8 : Int))).toNat b))))], HObj.box Md.rw
  (80 : Nat) [SV.data (K.int IntKind.u8).slice x_16.snd.snd.fst], HObj.dead, HObj.row Md.rw (53 : Nat) (K.flt Go.FloatKind.f64) x_10.fst, HObj.dead, HObj.row Md.rw (2 : Nat) (K.int
  IntKind.i64) x_13.fst, HObj.dead, HObj.row Md.rw (2 : Nat) (K.int IntKind.i64) x_16.fst] ∧ ∃ (I_1 : Int × Int × Unit → Unit → Prop), ∃ (μ_1 : Int × Int × Unit → Unit → Nat), I_1
  ((0 : Int), (7 : Int), ()) () ∧ ∀ (x_20 : Int × Int × Unit) (y_1 : Unit), I_1 x_20 y_1 → ∀ (a : Bool), a = decide (x_20.snd.fst ≥ (0 : Int)) → Br a (∃ (h : (0 : Int) ≤ (8 : Int)),
  ∃ (h : (0 : Int) ≤ x_20.snd.fst ∧ x_20.snd.fst < (↑x_16.snd.snd.fst.length : Int)), HIs [HObj.box Md.rw (3 : Nat) [SV.val (Go.Value.int IntKind.i64 (IntKind.i64.wrap (b.getD
  (Int.toNat (4 : Int)) (0 : Int))))], HObj.box Md.rw (25 : Nat) [SV.osl (6 : Nat) (0 : Nat) x_10.fst.length, SV.osl (8 : Nat) (0 : Nat) x_13.fst.length, SV.val (Go.Value.slice
  Option.none (0 : Nat) (0 : Nat)), SV.val (Go.Value.slice Option.none (0 : Nat) (0 : Nat)), SV.val (Go.Value.int IntKind.i64 (IntKind.i64.wrap x_7.fst)), SV.val (Go.Value.int
  IntKind.i64 (IntKind.i64.wrap x.fst))], HObj.box Md.rw (28 : Nat) [SV.val (Go.Value.int IntKind.i64 (0 : Int))], HObj.box Md.rw (80 : Nat) [SV.data (K.int IntKind.u8).slice
  (List.take ((↑(List.take ((↑b.length : Int) - IntKind.i64.wrap ((↑b.length : Int) - (8 : Int))).toNat (List.drop (IntKind.i64.wrap ((↑b.length : Int) - (8 : Int))).toNat
  b)).length : Int) - (8 : Int)).toNat (List.drop (Int.toNat (8 : Int)) (List.take ((↑b.length : Int) - IntKind.i64.wrap ((↑b.length : Int) - (8 : Int))).toNat (List.drop
  (IntKind.i64.wrap ((↑b.length : Int) - (8 : Int))).toNat b))))], HObj.box Md.rw (80 : Nat) [SV.data (K.int IntKind.u8).slice x_16.snd.snd.fst], HObj.dead, HObj.row Md.rw (53 :
  Nat) (K.flt Go.FloatKind.f64) x_10.fst, HObj.dead, HObj.row Md.rw (2 : Nat) (K.int IntKind.i64) x_13.fst, HObj.dead, HObj.row Md.rw (2 : Nat) (K.int IntKind.i64) x_16.fst]
  [HObj.box Md.rw (3 : Nat) [SV.val (Go.Value.int IntKind.i64 (IntKind.i64.wrap (b.getD (Int.toNat (4 : Int)) (0 : Int))))], HObj.box Md.rw (25 : Nat) [SV.osl (6 : Nat) (0 : Nat)
  x_10.fst.length, SV.osl (8 : Nat) (0 : Nat) x_13.fst.length, SV.val (Go.Value.slice Option.none (0 : Nat) (0 : Nat)), SV.val (Go.Value.slice Option.none (0 : Nat) (0 : Nat)),
  SV.val (Go.Value.int IntKind.i64 (IntKind.i64.wrap x_7.fst)), SV.val (Go.Value.int IntKind.i64 (IntKind.i64.wrap x.fst))], HObj.box Md.rw (28 : Nat) [SV.val (Go.Value.int
  IntKind.i64 (0 : Int))], HObj.box Md.rw (80 : Nat) [SV.data (K.int IntKind.u8).slice (List.take ((↑(List.take ((↑b.length : Int) - IntKind.i64.wrap ((↑b.length : Int) - (8 :
  Int))).toNat (List.drop (IntKind.i64.wrap ((↑b.length : Int) - (8 : Int))).toNat b)).length : Int) - (8 : Int)).toNat (List.drop (Int.toNat (8 : Int)) (List.take ((↑b.length :
  Int) - IntKind.i64.wrap ((↑b.length : Int) - (8 : Int))).toNat (List.drop (IntKind.i64.wrap ((↑b.length : Int) - (8 : Int))).toNat b))))], HObj.box Md.rw (80 : Nat) [SV.data
  (K.int IntKind.u8).slice x_16.snd.snd.fst], HObj.dead, HObj.row Md.rw (53 : Nat) (K.flt Go.FloatKind.f64) x_10.fst, HObj.dead, HObj.row Md.rw (2 : Nat) (K.int IntKind.i64)
  x_13.fst, HObj.dead, HObj.row Md.rw (2 : Nat) (K.int IntKind.i64) x_16.fst] ∧ I_1 (Go.bits Go.BinOp.or IntKind.u64 (IntKind.u64.wrap (x_20.fst * (2 : Int) ^ Min.min (Int.toNat (8
  : Int)) IntKind.u64.bits)) (IntKind.u64.wrap (x_16.snd.snd.fst.getD x_20.snd.fst.toNat (0 : Int))), IntKind.i64.wrap (x_20.snd.fst - (1 : Int)), ()) () ∧ μ_1 (Go.bits Go.BinOp.or
  IntKind.u64 (IntKind.u64.wrap (x_20.fst * (2 : Int) ^ Min.min (Int.toNat (8 : Int)) IntKind.u64.bits)) (IntKind.u64.wrap (x_16.snd.snd.fst.getD x_20.snd.fst.toNat (0 : Int))),
  IntKind.i64.wrap (x_20.snd.fst - (1 : Int)), ()) () < μ_1 x_20 y_1) (∃ (h : (0 : Int) ≤ (8 : Int) ∧ (8 : Int) ≤ (↑x_16.snd.snd.fst.length : Int) ∧ (↑x_16.snd.snd.fst.length : Int)
  ≤ (↑x_16.snd.snd.fst.length : Int)), ∃ (h : (0 : Int) ≤ x_16.snd.fst ∧ x_16.snd.fst < (↑x_16.fst.length : Int)), ((0 : Nat) = (0 : Nat) ∧ x_16.fst.length = (x_16.fst.set ((0 :
  Nat) + x_16.snd.fst.toNat) (IntKind.i64.wrap x_20.fst)).length) ∧ HIs [HObj.box Md.rw (3 : Nat) [SV.val (Go.Value.int IntKind.i64 (IntKind.i64.wrap (b.getD (Int.toNat (4 : Int))
  (0 : Int))))], HObj.box Md.rw (25 : Nat) [SV.osl (6 : Nat) (0 : Nat) x_10.fst.length, SV.osl (8 : Nat) (0 : Nat) x_13.fst.length, SV.val (Go.Value.slice Option.none (0 : Nat) (0 :
  Nat)), SV.val (Go.Value.slice Option.none (0 : Nat) (0 : Nat)), SV.val (Go.Value.int IntKind.i64 (IntKind.i64.wrap x_7.fst)), SV.val (Go.Value.int IntKind.i64 (IntKind.i64.wrap
  x.fst))], HObj.box Md.rw (28 : Nat) [SV.val (Go.Value.int IntKind.i64 (0 : Int))], HObj.box Md.rw (80 : Nat) [SV.data (K.int IntKind.u8).slice (List.take ((↑(List.take ((↑b.length
  : Int) - IntKind.i64.wrap ((↑b.length : Int) - (8 : Int))).toNat (List.drop (IntKind.i64.wrap ((↑b.length : Int) - (8 : Int))).toNat b)).length : Int) - (8 : Int)).toNat
  (List.drop (Int.toNat (8 : Int)) (List.take ((↑b.length : Int) - IntKind.i64.wrap ((↑b.length : Int) - (8 : Int))).toNat (List.drop (IntKind.i64.wrap ((↑b.length : Int) - (8 :
  Int))).toNat b))))], HObj.box Md.rw (80 : Nat) [SV.junk], HObj.dead, HObj.row Md.rw (53 : Nat) (K.flt Go.FloatKind.f64) x_10.fst, HObj.dead, HObj.row Md.rw (2 : Nat) (K.int
  IntKind.i64) x_13.fst, HObj.dead] [HObj.box Md.rw (3 : Nat) [SV.val (Go.Value.int IntKind.i64 (IntKind.i64.wrap (b.getD (Int.toNat (4 : Int)) (0 : Int))))], HObj.box Md.rw (25 :
  Nat) [SV.osl (6 : Nat) (0 : Nat) x_10.fst.length, SV.osl (8 : Nat) (0 : Nat) x_13.fst.length, SV.val (Go.Value.slice Option.none (0 : Nat) (0 : Nat)), SV.val (Go.Value.slice
  Option.none (0 : Nat) (0 : Nat)), SV.val (Go.Value.int IntKind.i64 (IntKind.i64.wrap x_7.fst)), SV.val (Go.Value.int IntKind.i64 (IntKind.i64.wrap x.fst))], HObj.box Md.rw (28 :
  Nat) [SV.val (Go.Value.int IntKind.i64 (0 : Int))], HObj.box Md.rw (80 : Nat) [SV.data (K.int IntKind.u8).slice (List.take ((↑(List.take ((↑b.length : Int) - IntKind.i64.wrap
  ((↑b.length : Int) - (8 : Int))).toNat (List.drop (IntKind.i64.wrap ((↑b.length : Int) - (8 : Int))).toNat b)).length : Int) - (8 : Int)).toNat (List.drop (Int.toNat (8 : Int))
  (List.take ((↑b.length : Int) - IntKind.i64.wrap ((↑b.length : Int) - (8 : Int))).toNat (List.drop (IntKind.i64.wrap ((↑b.length : Int) - (8 : Int))).toNat b))))], HObj.box Md.rw
  (80 : Nat) [SV.junk], HObj.dead, HObj.row Md.rw (53 : Nat) (K.flt Go.FloatKind.f64) x_10.fst, HObj.dead, HObj.row Md.rw (2 : Nat) (K.int IntKind.i64) x_13.fst, HObj.dead] ∧ I
  (x_16.fst.set ((0 : Nat) + x_16.snd.fst.toNat) (IntKind.i64.wrap x_20.fst), IntKind.i64.wrap (x_16.snd.fst + (1 : Int)), List.take ((↑x_16.snd.snd.fst.length : Int) - (8 :
  Int)).toNat (List.drop (Int.toNat (8 : Int)) x_16.snd.snd.fst), ()) () ∧ μ (x_16.fst.set ((0 : Nat) + x_16.snd.fst.toNat) (IntKind.i64.wrap x_20.fst), IntKind.i64.wrap
  (x_16.snd.fst + (1 : Int)), List.take ((↑x_16.snd.snd.fst.length : Int) - (8 : Int)).toNat (List.drop (Int.toNat (8 : Int)) x_16.snd.snd.fst), ()) () < μ x_16 y))) (∃ (h : (0 :
  Int) ≤ IntKind.i64.wrap ((2 : Int) * m) ∧ IntKind.i64.wrap ((2 : Int) * m) ≤ IntKind.i64.wrap ((2 : Int) * m) ∧ IntKind.i64.wrap ((2 : Int) * m) * (↑(8 : Nat) : Int) ≤
  (281474976710656 : Int)), ((0 : Nat) = (0 : Nat) ∧ (IntKind.i64.wrap ((2 : Int) * m)).toNat = (List.replicate (IntKind.i64.wrap ((2 : Int) * m)).toNat (0 : Nat)).length) ∧ HIs
  [HObj.box Md.rw (3 : Nat) [SV.val (Go.Value.int IntKind.i64 (IntKind.i64.wrap (b.getD (Int.toNat (4 : Int)) (0 : Int))))], HObj.box Md.rw (25 : Nat) [SV.osl (6 : Nat) (0 : Nat)
  x_10.fst.length, SV.osl (8 : Nat) (0 : Nat) x_13.fst.length, SV.osl (10 : Nat) (0 : Nat) x_16.fst.length, SV.val (Go.Value.slice Option.none (0 : Nat) (0 : Nat)), SV.val
  (Go.Value.int IntKind.i64 (IntKind.i64.wrap x_7.fst)), SV.val (Go.Value.int IntKind.i64 (IntKind.i64.wrap x.fst))], HObj.box Md.rw (28 : Nat) [SV.val (Go.Value.int IntKind.i64 (0
  : Int))], HObj.box Md.rw (80 : Nat) [SV.data (K.int IntKind.u8).slice (List.take ((↑(List.take ((↑b.length : Int) - IntKind.i64.wrap ((↑b.length : Int) - (8 : Int))).toNat
  (List.drop (IntKind.i64.wrap ((↑b.length : Int) - (8 : Int))).toNat b)).length : Int) - (8 : Int)).toNat (List.drop (Int.toNat (8 : Int)) (List.take ((↑b.length : Int) -
  IntKind.i64.wrap ((↑b.length : Int) - (8 : Int))).toNat (List.drop (IntKind.i64.wrap ((↑b.length : Int) - (8 : Int))).toNat b))))], HObj.box Md.rw (80 : Nat) [SV.junk], HObj.dead,
  HObj.row Md.rw (53 : Nat) (K.flt Go.FloatKind.f64) x_10.fst, HObj.dead, HObj.row Md.rw (2 : Nat) (K.int IntKind.i64) x_13.fst, HObj.dead, HObj.row Md.rw (2 : Nat) (K.int
  IntKind.i64) x_16.fst, HObj.dead] [HObj.box Md.rw (3 : Nat) [SV.val (Go.Value.int IntKind.i64 (IntKind.i64.wrap (b.getD (Int.toNat (4 : Int)) (0 : Int))))], HObj.box Md.rw (25 :
  Nat) [SV.osl (6 : Nat) (0 : Nat) x_10.fst.length, SV.osl (8 : Nat) (0 : Nat) x_13.fst.length, SV.osl (10 : Nat) (0 : Nat) x_16.fst.length, SV.val (Go.Value.slice Option.none (0 :
  Nat) (0 : Nat)), SV.val (Go.Value.int IntKind.i64 (IntKind.i64.wrap x_7.fst)), SV.val (Go.Value.int IntKind.i64 (IntKind.i64.wrap x.fst))], HObj.box Md.rw (28 : Nat) [SV.val
  (Go.Value.int IntKind.i64 (0 : Int))], HObj.box Md.rw (80 : Nat) [SV.data (K.int IntKind.u8).slice (List.take ((↑(List.take ((↑b.length : Int) - IntKind.i64.wrap ((↑b.length :
  Int) - (8 : Int))).toNat (List.drop (IntKind.i64.wrap ((↑b.length : Int) - (8 : Int))).toNat b)).length : Int) - (8 : Int)).toNat (List.drop (Int.toNat (8 : Int)) (List.take
  ((↑b.length : Int) - IntKind.i64.wrap ((↑b.length : Int) - (8 : Int))).toNat (List.drop (IntKind.i64.wrap ((↑b.length : Int) - (8 : Int))).toNat b))))], HObj.box Md.rw (80 : Nat)
  [SV.junk], HObj.dead, HObj.row Md.rw (53 : Nat) (K.flt Go.FloatKind.f64) x_10.fst, HObj.dead, HObj.row Md.rw (2 : Nat) (K.int IntKind.i64) x_13.fst, HObj.dead, HObj.row Md.rw (2 :
  Nat) (K.int IntKind.i64) x_16.fst, HObj.dead] ∧ ∃ (I : List Nat × Int × List Int × Unit → Unit → Prop), ∃ (μ : List Nat × Int × List Int × Unit → Unit → Nat), I (List.replicate
  (IntKind.i64.wrap ((2 : Int) * m)).toNat (0 : Nat), (0 : Int), x_16.snd.snd.fst, ()) () ∧ ∀ (x_19 : List Nat × Int × List Int × Unit) (y : Unit), I x_19 y → ∀ (a : Bool), a =
  decide (x_19.snd.fst < (↑(IntKind.i64.wrap ((2 : Int) * m)).toNat : Int)) → Br a (∀ (a : Bool), a = decide ((↑x_19.snd.snd.fst.length : Int) < (8 : Int)) → Br a False (HIs
  [HObj.box Md.rw (3 : Nat) [SV.val (Go.Value.int IntKind.i64 (IntKind.i64.wrap (b.getD (Int.toNat (4 : Int)) (0 : Int))))], HObj.box Md.rw (25 : Nat) [SV.osl (6 : Nat) (0 : Nat)
  x_10.fst.length, SV.osl (8 : Nat) (0 : Nat) x_13.fst.length, SV.osl (10 : Nat) (0 : Nat) x_16.fst.length, SV.val (Go.Value.slice Option.none (0 : Nat) (0 : Nat)), SV.val
  (Go.Value.int IntKind.i64 (IntKind.i64.wrap x_7.fst)), SV.val (Go.Value.int IntKind.i64 (IntKind.i64.wrap x.fst))], HObj.box Md.rw (28 : Nat) [SV.val (Go.Value.int IntKind.i64 (0
  : Int))], HObj.box Md.rw (80 : Nat) [SV.data (K.int IntKind.u8).slice (List.take ((↑(List.take ((↑b.length : Int) - IntKind.i64.wrap ((↑b.length : Int) - (8 : Int))).toNat
  (List.drop (IntKind.i64.wrap ((↑b.length : Int) - (8 : Int))).toNat b)).length : Int) - (8 : Int)).toNat (List.drop (Int.toNat (8 : Int)) (List.take ((↑b.length : Int) -
  IntKind.i64.wrap ((↑b.length : Int) - (8 : Int))).toNat (List.drop (IntKind.i64.wrap ((↑b.length : Int) - (8 : Int))).toNat b))))], HObj.box Md.rw (80 : Nat) [SV.data (K.int
  IntKind.u8).slice x_19.snd.snd.fst], HObj.dead, HObj.row Md.rw (53 : Nat) (K.flt Go.FloatKind.f64) x_10.fst, HObj.dead, HObj.row Md.rw (2 : Nat) (K.int IntKind.i64) x_13.fst,
  HObj.dead, HObj.row Md.rw (2 : Nat) (K.int IntKind.i64) x_16.fst, HObj.dead, HObj.row Md.rw (53 : Nat) (K.flt Go.FloatKind.f64) x_19.fst] [HObj.box Md.rw (3 : Nat) [SV.val
  (Go.Value.int IntKind.i64 (IntKind.i64.wrap (b.getD (Int.toNat (4 : Int)) (0 : Int))))], HObj.box Md.rw (25 : Nat) [SV.osl (6 : Nat) (0 : Nat) x_10.fst.length, SV.osl (8 : Nat) (0
  : Nat) x_13.fst.length, SV.osl (10 : Nat) (0 : Nat) x_16.fst.length, SV.val (Go.Value.slice Option.none (0 : Nat) (0 : Nat)), SV.val (Go.Value.int IntKind.i64 (IntKind.i64.wrap
  x_7.fst)), SV.val (Go.Value.int IntKind.i64 (IntKind.i64.wrap x.fst))], HObj.box Md.rw (28 : Nat) [SV.val (Go.Value.int IntKind.i64 (0 : Int))], HObj.box Md.rw (80 : Nat) [SV.data
  (K.int IntKind.u8).slice (List.take ((↑(List.take ((↑b.length : Int) - IntKind.i64.wrap ((↑b.length : Int) - (8 : Int))).toNat (List.drop (IntKind.i64.wrap ((↑b.length : Int) - (8
  : Int))).toNat b)).length : Int) - (8 : Int)).toNat (List.drop (Int.toNat (8 : Int)) (List.take ((↑b.length : Int) - IntKind.i64.wrap ((↑b.length : Int) - (8 : Int))).toNat
  (List.drop (IntKind.i64.wrap ((↑b.length : Int) - (8 : Int))).toNat b))))], HObj.box Md.rw (80 : Nat) [SV.data (K.int IntKind.u8).slice x_19.snd.snd.fst], HObj.dead, HObj.row
  Md.rw (53 : Nat) (K.flt Go.FloatKind.f64) x_10.fst, HObj.dead, HObj.row Md.rw (2 : Nat) (K.int IntKind.i64) x_13.fst, HObj.dead, HObj.row Md.rw (2 : Nat) (K.int IntKind.i64)
  x_16.fst, HObj.dead, HObj.row Md.rw (53 : Nat) (K.flt Go.FloatKind.f64) x_19.fst] ∧ ∃ (I_1 : Int × Int × Unit → Unit → Prop), ∃ (μ_1 : Int × Int × Unit → Unit → Nat), I_1 ((0 :
  Int), (7 : Int), ()) () ∧ ∀ (x_23 : Int × Int × Unit) (y_1 : Unit), I_1 x_23 y_1 → ∀ (a : Bool), a = decide (x_23.snd.fst ≥ (0 : Int)) → Br a (∃ (h : (0 : Int) ≤ (8 : Int)), ∃ (h
  : (0 : Int) ≤ x_23.snd.fst ∧ x_23.snd.fst < (↑x_19.snd.snd.fst.length : Int)), HIs [HObj.box Md.rw (3 : Nat) [SV.val (Go.Value.int IntKind.i64 (IntKind.i64.wrap (b.getD (Int.toNat
  (4 : Int)) (0 : Int))))], HObj.box Md.rw (25 : Nat) [SV.osl (6 : Nat) (0 : Nat) x_10.fst.length, SV.osl (8 : Nat) (0 : Nat) x_13.fst.length, SV.osl (10 : Nat) (0 : Nat)
  x_16.fst.length, SV.val (Go.Value.slice Option.none (0 : Nat) (0 : Nat)), SV.val (Go.Value.int IntKind.i64 (IntKind.i64.wrap x_7.fst)), SV.val (Go.Value.int IntKind.i64
  (IntKind.i64.wrap x.fst))], HObj.box Md.rw (28 : Nat) [SV.val (Go.Value.int IntKind.i64 (0 : Int))], HObj.box Md.rw (80 : Nat) [SV.data (K.int IntKind.u8).slice (List.take
  ((↑(List.take ((↑b.length : Int) - IntKind.i64.wrap ((↑b.length : Int) - (8 : Int))).toNat (List.drop (IntKind.i64.wrap ((↑b.length : Int) - (8 : Int))).toNat b)).length : Int) -
  (8 : Int)).toNat (List.drop (Int.toNat (8 : Int)) (List.take ((↑b.length : Int) - IntKind.i64.wrap ((↑b.length : Int) - (8 : Int))).toNat (List.drop (IntKind.i64.wrap ((↑b.length
  : Int) - (8 : Int))).toNat b))))], HObj.box Md.rw (80 : Nat) [SV.data (K.int IntKind.u8).slice x_19.snd.snd.fst], HObj.dead, HObj.row Md.rw (53 : Nat) (K.flt Go.FloatKind.f64)
  x_10.fst, HObj.dead, HObj.row Md.rw (2 : Nat) (K.int IntKind.i64) x_13.fst, HObj.dead, HObj.row Md.rw (2 : Nat) (K.int IntKind.i64) x_16.fst, HObj.dead, HObj.row Md.rw (53 : Nat)
  (K.flt Go.FloatKind.f64) x_19.fst] [HObj.box Md.rw (3 : Nat) [SV.val (Go.Value.int IntKind.i64 (IntKind.i64.wrap (b.getD (Int.toNat (4 : Int)) (0 : Int))))], HObj.box Md.rw (25 :
  Nat) [SV.osl (6 : Nat) (0 : Nat) x_10.fst.length, SV.osl (8 : Nat) (0 : Nat) x_13.fst.length, SV.osl (10 : Nat) (0 : Nat) x_16.fst.length, SV.val (Go.Value.slice Option.none (0 :
  Nat) (0 : Nat)), SV.val (Go.Value.int IntKind.i64 (IntKind.i64.wrap x_7.fst)), SV.val (Go.Value.int IntKind.i64 (IntKind.i64.wrap x.fst))], HObj.box Md.rw (28 : Nat) [SV.val
  (Go.Value.int IntKind.i64 (0 : Int))], HObj.box Md.rw (80 : Nat) [SV.data (K.int IntKind.u8).slice (List.take ((↑(List.take ((↑b.length : Int) - IntKind.i64.wrap ((↑b.length :
  Int) - (8 : Int))).toNat (List.drop (IntKind.i64.wrap ((↑b.length : Int) - (8 : Int))).toNat b)).length : Int) - (8 : Int)).toNat (List.drop (Int.toNat (8 : Int)) (List.take
  ((↑b.length : Int) - IntKind.i64.wrap ((↑b.length : Int) - (8 : Int))).toNat (List.drop (IntKind.i64.wrap ((↑b.length : Int) - (8 : Int))).toNat b))))], HObj.box Md.rw (80 : Nat)
  [SV.data (K.int IntKind.u8).slice x_19.snd.snd.fst], HObj.dead, HObj.row Md.rw (53 : Nat) (K.flt Go.FloatKind.f64) x_10.fst, HObj.dead, HObj.row Md.rw (2 : Nat) (K.int
  IntKind.i64) x_13.fst, HObj.dead, HObj.row Md.rw (2 : Nat) (K.int IntKind.i64) x_16.fst, HObj.dead, HObj.row Md.rw (53 : Nat) (K.flt Go.FloatKind.f64) x_19.fst] ∧ I_1 (Go.bits
  Go.BinOp.or IntKind.u64 (IntKind.u64.wrap (x_23.fst * (2 : Int) ^ Min.min (Int.toNat (8 : Int)) IntKind.u64.bits)) (IntKind.u64.wrap (x_19.snd.snd.fst.getD x_23.snd.fst.toNat (0 :
  Int))), IntKind.i64.wrap (x_23.snd.fst - (1 : Int)), ()) () ∧ μ_1 (Go.bits Go.BinOp.or IntKind.u64 (IntKind.u64.wrap (x_23.fst * (2 : Int) ^ Min.min (Int.toNat (8 : Int))
  IntKind.u64.bits)) (IntKind.u64.wrap (x_19.snd.snd.fst.getD x_23.snd.fst.toNat (0 : Int))), IntKind.i64.wrap (x_23.snd.fst - (1 : Int)), ()) () < μ_1 x_23 y_1) (∃ (h : (0 : Int) ≤
  (8 : Int) ∧ (8 : Int) ≤ (↑x_19.snd.snd.fst.length : Int) ∧ (↑x_19.snd.snd.fst.length : Int) ≤ (↑x_19.snd.snd.fst.length : Int)), ∃ (h : True), ∃ (h : (0 : Int) ≤ x_19.snd.fst ∧
  x_19.snd.fst < (↑x_19.fst.length : Int)), ((0 : Nat) = (0 : Nat) ∧ x_19.fst.length = (x_19.fst.set ((0 : Nat) + x_19.snd.fst.toNat) (fromR x_23.fst).fst).length) ∧ HIs [HObj.box
  Md.rw (3 : Nat) [SV.val (Go.Value.int IntKind.i64 (IntKind.i64.wrap (b.getD (Int.toNat (4 : Int)) (0 : Int))))], HObj.box Md.rw (25 : Nat) [SV.osl (6 : Nat) (0 : Nat)
  x_10.fst.length, SV.osl (8 : Nat) (0 : Nat) x_13.fst.length, SV.osl (10 : Nat) (0 : Nat) x_16.fst.length, SV.val (Go.Value.slice Option.none (0 : Nat) (0 : Nat)), SV.val
  (Go.Value.int IntKind.i64 (IntKind.i64.wrap x_7.fst)), SV.val (Go.Value.int IntKind.i64 (IntKind.i64.wrap x.fst))], HObj.box Md.rw (28 : Nat) [SV.val (Go.Value.int IntKind.i64 (0
  : Int))], HObj.box Md.rw (80 : Nat) [SV.data (K.int IntKind.u8).slice (List.take ((↑(List.take ((↑b.length : Int) - IntKind.i64.wrap ((↑b.length : Int) - (8 : Int))).toNat
  (List.drop (IntKind.i64.wrap ((↑b.length : Int) - (8 : Int))).toNat b)).length : Int) - (8 : Int)).toNat (List.drop (Int.toNat (8 : Int)) (List.take ((↑b.length : Int) -
  IntKind.i64.wrap ((↑b.length : Int) - (8 : Int))).toNat (List.drop (IntKind.i64.wrap ((↑b.length : Int) - (8 : Int))).toNat b))))], HObj.box Md.rw (80 : Nat) [SV.junk], HObj.dead,
  HObj.row Md.rw (53 : Nat) (K.flt Go.FloatKind.f64) x_10.fst, HObj.dead, HObj.row Md.rw (2 : Nat) (K.int IntKind.i64) x_13.fst, HObj.dead, HObj.row Md.rw (2 : Nat) (K.int
  IntKind.i64) x_16.fst, HObj.dead] [HObj.box Md.rw (3 : Nat) [SV.val (Go.Value.int IntKind.i64 (IntKind.i64.wrap (b.getD (Int.toNat (4 : Int)) (0 : Int))))], HObj.box Md.rw (25 :
  Nat) [SV.osl (6 : Nat) (0 : Nat) x_10.fst.length, SV.osl (8 : Nat) (0 : Nat) x_13.fst.length, SV.osl (10 : Nat) (0 : Nat) x_16.fst.length, SV.val (Go.Value.slice Option.none (0 :
  Nat) (0 : Nat)), SV.val (Go.Value.int IntKind.i64 (IntKind.i64.wrap x_7.fst)), SV.val (Go.Value.int IntKind.i64 (IntKind.i64.wrap x.fst))], HObj.box Md.rw (28 : Nat) [SV.val
  (Go.Value.int IntKind.i64 (0 : Int))], HObj.box Md.rw (80 : Nat) [SV.data (K.int IntKind.u8).slice (List.take ((↑(List.take ((↑b.length : Int) - IntKind.i64.wrap ((↑b.length :
  Int) - (8 : Int))).toNat (List.drop (IntKind.i64.wrap ((↑b.length : Int) - (8 : Int))).toNat b)).length : Int) - (8 : Int)).toNat (List.drop (Int.toNat (8 : Int)) (List.take
  ((↑b.length : Int) - IntKind.i64.wrap ((↑b.length : Int) - (8 : Int))).toNat (List.drop (IntKind.i64.wrap ((↑b.length : Int) - (8 : Int))).toNat b))))], HObj.box Md.rw (80 : Nat)
  [SV.junk], HObj.dead, HObj.row Md.rw (53 : Nat) (K.flt Go.FloatKind.f64) x_10.fst, HObj.dead, HObj.row Md.rw (2 : Nat) (K.int IntKind.i64) x_13.fst, HObj.dead, HObj.row Md.rw (2 :
  Nat) (K.int IntKind.i64) x_16.fst, HObj.dead] ∧ I (x_19.fst.set ((0 : Nat) + x_19.snd.fst.toNat) (fromR x_23.fst).fst, IntKind.i64.wrap (x_19.snd.fst + (1 : Int)), List.take
  ((↑x_19.snd.snd.fst.length : Int) - (8 : Int)).toNat (List.drop (Int.toNat (8 : Int)) x_19.snd.snd.fst), ()) () ∧ μ (x_19.fst.set ((0 : Nat) + x_19.snd.fst.toNat) (fromR
  x_23.fst).fst, IntKind.i64.wrap (x_19.snd.fst + (1 : Int)), List.take ((↑x_19.snd.snd.fst.length : Int) - (8 : Int)).toNat (List.drop (Int.toNat (8 : Int)) x_19.snd.snd.fst), ())
  () < μ x_19 y))) (∃ (h : WCheck (IntKind.i64.wrap (b.getD (Int.toNat (4 : Int)) (0 : Int))) (List.take x_10.fst.length (List.drop (0 : Nat) x_10.fst), List.take x_13.fst.length
  (List.drop (0 : Nat) x_13.fst), List.take x_16.fst.length (List.drop (0 : Nat) x_16.fst), List.take x_19.fst.length (List.drop (0 : Nat) x_19.fst), IntKind.i64.wrap x_7.fst,
  IntKind.i64.wrap x.fst)), ∀ (a : Bool), a = ((checkR (IntKind.i64.wrap (b.getD (Int.toNat (4 : Int)) (0 : Int))) (List.take x_10.fst.length (List.drop (0 : Nat) x_10.fst),
  List.take x_13.fst.length (List.drop (0 : Nat) x_13.fst), List.take x_16.fst.length (List.drop (0 : Nat) x_16.fst), List.take x_19.fst.length (List.drop (0 : Nat) x_19.fst),
  IntKind.i64.wrap x_7.fst, IntKind.i64.wrap x.fst)).snd.fst == (0 : Int)) → Br a ((post (IntKind.i64.wrap (b.getD (Int.toNat (4 : Int)) (0 : Int)), (List.take x_10.fst.length
  (List.drop (0 : Nat) x_10.fst), List.take x_13.fst.length (List.drop (0 : Nat) x_13.fst), List.take x_16.fst.length (List.drop (0 : Nat) x_16.fst), List.take x_19.fst.length
  (List.drop (0 : Nat) x_19.fst), IntKind.i64.wrap x_7.fst, IntKind.i64.wrap x.fst), (0 : Int), ()) ∧ post (IntKind.i64.wrap (b.getD (Int.toNat (4 : Int)) (0 : Int)), (List.take
  x_10.fst.length (List.drop (0 : Nat) x_10.fst), List.take x_13.fst.length (List.drop (0 : Nat) x_13.fst), List.take x_16.fst.length (List.drop (0 : Nat) x_16.fst), List.take
  x_19.fst.length (List.drop (0 : Nat) x_19.fst), IntKind.i64.wrap x_7.fst, IntKind.i64.wrap x.fst), (0 : Int), ())) ∧ post (IntKind.i64.wrap (b.getD (Int.toNat (4 : Int)) (0 :
  Int)), (List.take x_10.fst.length (List.drop (0 : Nat) x_10.fst), List.take x_13.fst.length (List.drop (0 : Nat) x_13.fst), List.take x_16.fst.length (List.drop (0 : Nat)
  x_16.fst), List.take x_19.fst.length (List.drop (0 : Nat) x_19.fst), IntKind.i64.wrap x_7.fst, IntKind.i64.wrap x.fst), (0 : Int), ())) (post ((0 : Int), ([], [], [], [], (0 :
  Int), (0 : Int)), (checkR (IntKind.i64.wrap (b.getD (Int.toNat (4 : Int)) (0 : Int))) (List.take x_10.fst.length (List.drop (0 : Nat) x_10.fst), List.take x_13.fst.length
  (List.drop (0 : Nat) x_13.fst), List.take x_16.fst.length (List.drop (0 : Nat) x_16.fst), List.take x_19.fst.length (List.drop (0 : Nat) x_19.fst), IntKind.i64.wrap x_7.fst,
  IntKind.i64.wrap x.fst)).snd.fst, ()) ∧ post ((0 : Int), ([], [], [], [], (0 : Int), (0 : Int)), (checkR (IntKind.i64.wrap (b.getD (Int.toNat (4 : Int)) (0 : Int))) (List.take
  x_10.fst.length (List.drop (0 : Nat) x_10.fst), List.take x_13.fst.length (List.drop (0 : Nat) x_13.fst), List.take x_16.fst.length (List.drop (0 : Nat) x_16.fst), List.take
  x_19.fst.length (List.drop (0 : Nat) x_19.fst), IntKind.i64.wrap x_7.fst, IntKind.i64.wrap x.fst)).snd.fst, ()) ∧ post ((0 : Int), ([], [], [], [], (0 : Int), (0 : Int)), (checkR
  (IntKind.i64.wrap (b.getD (Int.toNat (4 : Int)) (0 : Int))) (List.take x_10.fst.length (List.drop (0 : Nat) x_10.fst), List.take x_13.fst.length (List.drop (0 : Nat) x_13.fst),
  List.take x_16.fst.length (List.drop (0 : Nat) x_16.fst), List.take x_19.fst.length (List.drop (0 : Nat) x_19.fst), IntKind.i64.wrap x_7.fst, IntKind.i64.wrap x.fst)).snd.fst,
  ()))))))))))) (post ((0 : Int), ([], [], [], [], (0 : Int), (0 : Int)), (32 : Int), ()) ∧ post ((0 : Int), ([], [], [], [], (0 : Int), (0 : Int)), (32 : Int), ()) ∧ post ((0 :
  Int), ([], [], [], [], (0 : Int), (0 : Int)), (32 : Int), ()))))) (post ((0 : Int), ([], [], [], [], (0 : Int), (0 : Int)), (30 : Int), ()) ∧ post ((0 : Int), ([], [], [], [], (0
  : Int), (0 : Int)), (30 : Int), ()) ∧ post ((0 : Int), ([], [], [], [], (0 : Int), (0 : Int)), (30 : Int), ()))) (post ((0 : Int), ([], [], [], [], (0 : Int), (0 : Int)), (31 :
  Int), ()) ∧ post ((0 : Int), ([], [], [], [], (0 : Int), (0 : Int)), (31 : Int), ()) ∧ post ((0 : Int), ([], [], [], [], (0 : Int), (0 : Int)), (31 : Int), ()))) (post ((0 : Int),
  ([], [], [], [], (0 : Int), (0 : Int)), (30 : Int), ()) ∧ post ((0 : Int), ([], [], [], [], (0 : Int), (0 : Int)), (30 : Int), ()) ∧ post ((0 : Int), ([], [], [], [], (0 : Int),
  (0 : Int)), (30 : Int), ()))) (post ((0 : Int), ([], [], [], [], (0 : Int), (0 : Int)), (30 : Int), ()) ∧ post ((0 : Int), ([], [], [], [], (0 : Int), (0 : Int)), (30 : Int), ())
  ∧ post ((0 : Int), ([], [], [], [], (0 : Int), (0 : Int)), (30 : Int), ()))) (post ((0 : Int), ([], [], [], [], (0 : Int), (0 : Int)), (30 : Int), ()) ∧ post ((0 : Int), ([], [],
  [], [], (0 : Int), (0 : Int)), (30 : Int), ()) ∧ post ((0 : Int), ([], [], [], [], (0 : Int), (0 : Int)), (30 : Int), ()))) (post ((0 : Int), ([], [], [], [], (0 : Int), (0 :
  Int)), (31 : Int), ()) ∧ post ((0 : Int), ([], [], [], [], (0 : Int), (0 : Int)), (31 : Int), ()) ∧ post ((0 : Int), ([], [], [], [], (0 : Int), (0 : Int)), (31 : Int), ()))
theorem Lx_save_Decode (ty0 ty1 ty2 ty3 : Nat) (b : List Int) (h : BLs b) (w : KS.wf [.slice (.int .u8)] (b, ())) : Fx_save_Decode ty0 ty1 ty2 ty3 b (fun r => r = deR b) := by
  have hl : b.length ≤ maxN := w.1.1
  have hm : maxN ≤ 281474976710656 := by decide
  have three : ∀ {P : Prop}, P → P ∧ P ∧ P := fun q => ⟨q, q, q⟩
  rintro _ rfl
  refine Br.intro (fun e => ?_) fun e => three (de_bad (form_31 (by have := of_decide_eq_false e; omega)) (by decide))
  have h21 : ¬ b.length < 21 := by have := of_decide_eq_true e; omega
  refine ⟨⟨by decide, by omega⟩, ⟨by decide, by decide, by omega⟩, ?_⟩
  rintro _ rfl
  show Br (decide _) _ _
  have wd : IntKind.i64.wrap (b.getD (Int.toNat (4 : Int)) (0 : Int)) = sideA b := iB (getB h 4)
  rw [headT h, wd]
  refine Br.intro (fun e1 => ?_) fun e => three (de_bad (form_30 h21 (.inl (by simpa using e))) (by decide))
  have t1 : b.take 4 = tarnL := by simpa using e1
  rintro _ rfl
  refine Br.intro (fun e => ?_) fun e => three (de_bad (form_30 h21 (.inr (.inl (by have := of_decide_eq_false e; omega)))) (by decide))
  have d1 := of_decide_eq_true e
  rintro _ rfl
  refine Br.intro (fun e => ?_) fun e => three (de_bad (form_30 h21 (.inr (.inr (by have := of_decide_eq_false e; omega)))) (by decide))
  have d2 := of_decide_eq_true e
  have good : ¬ (b.take 4 ≠ tarnL ∨ sideA b < 1 ∨ sideA b > 32) := by
    rintro (q | q | q)
    · exact q t1
    · omega
    · omega
  obtain ⟨N, hN, hNi, hN2, wN, sN⟩ := side_nums (d := sideA b) (by omega) (by omega)
  rw [wN]
  have hz : sizeR (sideA b) = (29 + 40 * (N : Int), ()) := by unfold sizeR; rw [sN]
  refine ⟨⟨by omega, by omega⟩, ?_⟩
  rw [hz]
  rintro _ rfl _ rfl
  refine Br.intro (fun e3 => ?_) fun e => three (de_bad (form_31b h21 good (by have e := of_decide_eq_false e; dsimp only at e; omega)) (by decide))
  have e3 := of_decide_eq_true e3
  dsimp only at e3
  refine ⟨⟨by omega, by omega⟩, ?_⟩
  rintro _ rfl _ rfl
  refine Br.intro (fun e4 => ?_) fun e => three (de_bad (form_30b h21 good (by omega) (fun q => by rw [q, sN] at e; simp at e)) (by decide))
  have e4 : (b.length : Int) = 29 + 40 * (N : Int) := beq_iff_eq.1 e4
  have hlen : b.length = 29 + 40 * N := by omega
  have w8 : IntKind.i64.wrap ((b.length : Int) - (8 : Int)) = (b.length : Int) - 8 := wi ⟨by omega, by omega⟩
  have t8 : ((b.length : Int) - 8).toNat = b.length - 8 := by omega
  rw [w8, restE (by omega) rfl, t8]
  have r0 : (b.drop (b.length - 8)).length = 8 := by rw [List.length_drop]; omega
  refine ⟨⟨by omega, by omega, by omega⟩, ⟨by omega, by omega⟩, ?_⟩
  rintro _ rfl
  refine Br.intro (fun e => ?_) fun e => ?_
  · have := of_decide_eq_true e; omega
  refine orLoop rfl rfl (h.drop _) (by omega) ⟨⟨by decide, by omega, by omega⟩, h.take _, ?_⟩
  rintro _ rfl
  rw [sumR_fst]
  rintro _ rfl
  refine Br.intro (fun e5 => ?_) fun e => three (de_bad (form_32 h21 good (by omega) (fun q => by
    have e : (unA b (b.length - 8) == sumF (b.take (b.length - 8))) = false := e
    rw [q] at e; simp at e)) (by decide))
  have f0 : formI b = 0 := form_0 h21 good (by omega) (beq_iff_eq.1 e5)
  refine ⟨⟨by decide, by omega, by omega⟩, ?_⟩
  rintro _ rfl
  have w6 : IntKind.i64.wrap ((2 : Int) * (N : Int)) = ((2 * N : Nat) : Int) := by rw [wi ⟨by omega, by omega⟩]; omega
  rw [w6, rest5, restD b 5, restD b (5 + 8), Int.toNat_natCast, Int.toNat_natCast]
  have r5 : (b.drop 5).length = b.length - 5 := List.length_drop
  have r13 : (b.drop (5 + 8)).length = b.length - 13 := List.length_drop
  rintro _ rfl
  refine Br.intro (fun e => ?_) fun e => ?_
  · have := of_decide_eq_true e; omega
  refine orLoop rfl rfl (h.drop _) (by omega) ⟨⟨by decide, by omega, by omega⟩, ?_⟩
  rintro _ rfl
  refine Br.intro (fun e => ?_) fun e => ?_
  · have := of_decide_eq_true e; omega
  refine orLoop rfl rfl (h.drop _) (by omega) ⟨⟨by decide, by omega, by omega⟩, ⟨by omega, by omega, by omega⟩, ⟨rfl, by rw [List.length_replicate]⟩, ?_⟩
  refine forS (n := N) (F := fun k => (realsA b (21) k ++ List.replicate (N - k) 0, (k : Int), b.drop (21 + 8 * k), ())) (ix := fun x => x.2.1) rfl ?_ (fun k => rfl) (fun I μ k y hk hi hm => ?_) ?_
  · show ([] ++ List.replicate (N - 0) 0, _, b.drop _, _) = _
    rw [List.nil_append, Nat.sub_zero]
    rfl
  · dsimp only at hi hm ⊢
    have rk : (b.drop (21 + 8 * k)).length = b.length - (21 + 8 * k) := List.length_drop
    rintro _ rfl
    refine Br.intro (fun e => ?_) fun e => ?_
    · have := of_decide_eq_true e; omega
    have xl : (realsA b (21) k ++ List.replicate (N - k) 0).length = N := by rw [List.length_append, realsA_len, List.length_replicate]; omega
    refine orLoop rfl rfl (h.drop _) (by omega) ⟨⟨by decide, by omega, by omega⟩, trivial, ⟨by omega, by rw [xl]; omega⟩, ⟨rfl, by rw [List.length_set]⟩, rfl, ?_⟩
    rw [restD, wi_succ hk (by omega), Int.toNat_natCast, set_fill (realsA_len b (21) k) hk]
    rw [realsA_succ] at hi hm
    exact ⟨hi, hm⟩
  dsimp only
  rw [Nat.sub_self, List.replicate_zero, List.append_nil]
  refine ⟨⟨by omega, by omega, by omega⟩, ⟨rfl, by rw [List.length_replicate]⟩, ?_⟩
  refine forS (n := N) (F := fun k => (wholesA b (21 + 8 * N) k ++ List.replicate (N - k) 0, (k : Int), b.drop (21 + 8 * N + 8 * k), ())) (ix := fun x => x.2.1) rfl ?_ (fun k => rfl) (fun I μ k y hk hi hm => ?_) ?_
  · show ([] ++ List.replicate (N - 0) 0, _, b.drop _, _) = _
    rw [List.nil_append, Nat.sub_zero]
    rfl
  · dsimp only at hi hm ⊢
    have rk : (b.drop (21 + 8 * N + 8 * k)).length = b.length - (21 + 8 * N + 8 * k) := List.length_drop
    rintro _ rfl
    refine Br.intro (fun e => ?_) fun e => ?_
    · have := of_decide_eq_true e; omega
    have xl : (wholesA b (21 + 8 * N) k ++ List.replicate (N - k) 0).length = N := by rw [List.length_append, wholesA_len, List.length_replicate]; omega
    refine orLoop rfl rfl (h.drop _) (by omega) ⟨⟨by decide, by omega, by omega⟩, ⟨by omega, by rw [xl]; omega⟩, ⟨rfl, by rw [List.length_set]⟩, rfl, ?_⟩
    rw [restD, wi_succ hk (by omega), Int.toNat_natCast, set_fill (wholesA_len b (21 + 8 * N) k) hk]
    rw [wholesA_succ] at hi hm
    exact ⟨hi, hm⟩
  dsimp only
  rw [Nat.sub_self, List.replicate_zero, List.append_nil]
  refine ⟨⟨by omega, by omega, by omega⟩, ⟨rfl, by rw [List.length_replicate]⟩, ?_⟩
  refine forS (n := N) (F := fun k => (wholesA b (21 + 8 * N + 8 * N) k ++ List.replicate (N - k) 0, (k : Int), b.drop (21 + 8 * N + 8 * N + 8 * k), ())) (ix := fun x => x.2.1) rfl ?_ (fun k => rfl) (fun I μ k y hk hi hm => ?_) ?_
  · show ([] ++ List.replicate (N - 0) 0, _, b.drop _, _) = _
    rw [List.nil_append, Nat.sub_zero]
    rfl
  · dsimp only at hi hm ⊢
    have rk : (b.drop (21 + 8 * N + 8 * N + 8 * k)).length = b.length - (21 + 8 * N + 8 * N + 8 * k) := List.length_drop
    rintro _ rfl
    refine Br.intro (fun e => ?_) fun e => ?_
    · have := of_decide_eq_true e; omega
    have xl : (wholesA b (21 + 8 * N + 8 * N) k ++ List.replicate (N - k) 0).length = N := by rw [List.length_append, wholesA_len, List.length_replicate]; omega
    refine orLoop rfl rfl (h.drop _) (by omega) ⟨⟨by decide, by omega, by omega⟩, ⟨by omega, by rw [xl]; omega⟩, ⟨rfl, by rw [List.length_set]⟩, rfl, ?_⟩
    rw [restD, wi_succ hk (by omega), Int.toNat_natCast, set_fill (wholesA_len b (21 + 8 * N + 8 * N) k) hk]
    rw [wholesA_succ] at hi hm
    exact ⟨hi, hm⟩
  dsimp only
  rw [Nat.sub_self, List.replicate_zero, List.append_nil]
  refine ⟨⟨by omega, by omega, by omega⟩, ⟨rfl, by rw [List.length_replicate]⟩, ?_⟩
  refine forS (n := (2 * N)) (F := fun k => (realsA b (21 + 8 * N + 8 * N + 8 * N) k ++ List.replicate ((2 * N) - k) 0, (k : Int), b.drop (21 + 8 * N + 8 * N + 8 * N + 8 * k), ())) (ix := fun x => x.2.1) rfl ?_ (fun k => rfl) (fun I μ k y hk hi hm => ?_) ?_
  · show ([] ++ List.replicate ((2 * N) - 0) 0, _, b.drop _, _) = _
    rw [List.nil_append, Nat.sub_zero]
    rfl
  · dsimp only at hi hm ⊢
    have rk : (b.drop (21 + 8 * N + 8 * N + 8 * N + 8 * k)).length = b.length - (21 + 8 * N + 8 * N + 8 * N + 8 * k) := List.length_drop
    rintro _ rfl
    refine Br.intro (fun e => ?_) fun e => ?_
    · have := of_decide_eq_true e; omega
    have xl : (realsA b (21 + 8 * N + 8 * N + 8 * N) k ++ List.replicate ((2 * N) - k) 0).length = (2 * N) := by rw [List.length_append, realsA_len, List.length_replicate]; omega
    refine orLoop rfl rfl (h.drop _) (by omega) ⟨⟨by decide, by omega, by omega⟩, trivial, ⟨by omega, by rw [xl]; omega⟩, ⟨rfl, by rw [List.length_set]⟩, rfl, ?_⟩
    rw [restD, wi_succ hk (by omega), Int.toNat_natCast, set_fill (realsA_len b (21 + 8 * N + 8 * N + 8 * N) k) hk]
    rw [realsA_succ] at hi hm
    exact ⟨hi, hm⟩
  dsimp only
  rw [Nat.sub_self, List.replicate_zero, List.append_nil]
  rw [List.drop_zero, List.take_length, List.drop_zero, List.take_length, List.drop_zero, List.take_length, List.drop_zero, List.take_length]
  have hS : (realsA b 21 N, wholesA b (21 + 8 * N) N, wholesA b (21 + 8 * N + 8 * N) N, realsA b (21 + 8 * N + 8 * N + 8 * N) (2 * N), IntKind.i64.wrap (unL ((b.drop (5 + 8)).take 8)), IntKind.i64.wrap (unL ((b.drop 5).take 8))) = seaB b := by
    unfold seaB
    rw [← hN, show 21 + 8 * N + 8 * N = 21 + 16 * N by omega, show 21 + 16 * N + 8 * N = 21 + 24 * N by omega]; rfl
  rw [hS]
  have hok : SeaOk (seaB b) := by unfold seaB; rw [← hN]; exact seaA_ok h hlen
  refine ⟨⟨⟨by omega, by omega⟩, hok⟩, ?_⟩
  rintro _ rfl
  refine Br.intro (fun e => have q := de_good f0 rfl rfl (beq_iff_eq.1 e); ⟨⟨q, q⟩, q⟩) fun e => three (de_bad2 f0 rfl rfl (fun q => ?_))
  have e : ((checkI (sideA b) (seaB b)).2 == 0) = false := e
  rw [q] at e; simp at e
end Go.Lift

set_option linter.unusedVariables false
set_option linter.unusedSimpArgs false
namespace Go.Lift
open Go.Proofs
def Nx_save_Decode : Cx := ⟨tabOf Ntab, conOf [(43, Nq_save_size), (22, Nq_save_Sum), (24, Nq_state_Check), (95, Nq_math_Float64frombits)], NG⟩
theorem Nx_save_Decode_ok : CxOk Tryz.prog Nx_save_Decode := ⟨tabB_sound Ntab_ok, conOf_sound ⟨Nh_save_size, Nh_save_Sum, Nh_state_Check, Nh_math_Float64frombits, trivial⟩⟩
theorem Nat_save_Decode : FnAt Tryz.prog 19 Tryz.f19.ntmps Tryz.f19.results.toList (Tryz.f19.body.getD .skip) := ⟨Tryz.f19, Tryz.func19, rfl, rfl, by simp, by decide⟩
theorem Neq_save_Decode (b : List Int) (post : Int × ((List Nat) × (List Int) × (List Int) × (List Nat) × Int × Int) × Int × Unit → Prop) : fnEvalD Nx_save_Decode Nhn_save_Decode (callLvl Nx_save_Decode Nfns_reader 6) Ntk_save_Decode 50 49 ⟨4, 3, 28, 25, 75, 20, 76⟩ Tryz.f19.ntmps Tryz.f19.results.toList (Tryz.f19.body.getD .skip) [.slice (.int .u8)] [.snap (.int .i64), .snap kSea, .snap (.int .i64)] (b, ()) post = Fx_save_Decode 3 25 28 80 b post := by kernel_rfl
theorem Nmust_save_Decode : MustOk Tryz.prog 50 (faultV ⟨4, 3, 28, 25, 75, 20, 76⟩) :=
  must_ok (y := ⟨4, 3, 28, 25, 75, 20, 76⟩) Nx_save_Decode_ok.1 (fn := Tryz.f50) Tryz.func50 rfl rfl rfl (by decide) rfl rfl
theorem Nh_save_Decode : Nq_save_Decode.holds Tryz.prog NG 19 :=
  nam_of_det (detD Nx_save_Decode_ok Nmixed Nhn_save_Decode (callLvl_ok Nx_save_Decode_ok Nmixed Nfns_reader_ok 6) Nmust_save_Decode (fd := Tryz.f49) Tryz.func49 rfl rfl rfl (by decide) (by kernel_rfl) rfl Nat_save_Decode (F := fun x post => Fx_save_Decode 3 25 28 80 x.1 post) (fun x post => Neq_save_Decode x.1 post) fun x h w => Lx_save_Decode 3 25 28 80 x.1 h w)
end Go.Lift

set_option linter.unusedVariables false
set_option linter.unusedSimpArgs false
namespace Go.Lift
open Go.Proofs
def Nx_law25_lake : Cx := ⟨tabOf Ntab, conOf [(91, Nq_grid_Grid_Cells), (92, Nq_grid_Grid_Edges), (93, Nq_grid_Grid_Area)], NG⟩
theorem Nx_law25_lake_ok : CxOk Tryz.prog Nx_law25_lake := ⟨tabB_sound Ntab_ok, conOf_sound ⟨Nh_grid_Grid_Cells, Nh_grid_Grid_Edges, Nh_grid_Grid_Area, trivial⟩⟩
theorem Nat_law25_lake : FnAt Tryz.prog 42 Tryz.f42.ntmps Tryz.f42.results.toList (Tryz.f42.body.getD .skip) := ⟨Tryz.f42, Tryz.func42, rfl, rfl, by simp, by decide⟩
theorem Neq_law25_lake_0  (post : ((List Nat) × (List Int) × (List Int) × (List Nat) × Int × Int) × Unit → Prop) : fnEval Nx_law25_lake Nhn_law25_lake Tryz.f42.ntmps Tryz.f42.results.toList (Tryz.f42.body.getD .skip) [.ptr kGrid] [.snap kSea] (none, ()) post = Fx_law25_lake_0 25 53 2  post := by kernel_rfl
theorem Neq_law25_lake_1 (g : Int × (List (Int × Int × Int × Int)) × (List ((Int × Int) × Int)) × (List (List Int)) × (List Int) × (List Nat) × List Nat) (post : ((List Nat) × (List Int) × (List Int) × (List Nat) × Int × Int) × Unit → Prop) : fnEval Nx_law25_lake Nhn_law25_lake Tryz.f42.ntmps Tryz.f42.results.toList (Tryz.f42.body.getD .skip) [.ptr kGrid] [.snap kSea] ((some g), ()) post = Fx_law25_lake_1 25 53 2 g post := by kernel_rfl
def NF_law25_lake (x : KS [.ptr kGrid]) (post : RS [.snap kSea] → Prop) : Prop := match x with
  | (none, y) => Fx_law25_lake_0 25 53 2  post
  | (some g, y) => Fx_law25_lake_1 25 53 2 g post
theorem Nh_law25_lake : Nq_law25_lake.holds Tryz.prog NG 42 :=
  nam_of_det (detP Nx_law25_lake_ok Nmixed Nhn_law25_lake Nat_law25_lake (F := NF_law25_lake) (fun x post => match x with
    | (none, y) => Neq_law25_lake_0  post
    | (some g, y) => Neq_law25_lake_1 g post) fun x h w => match x, h, w with
    | (none, y), h, w => Lx_law25_lake_0 25 53 2  w
    | (some g, y), h, w => Lx_law25_lake_1 25 53 2 g w)
def Nx_law25_lives : Cx := ⟨tabOf Ntab, conOf [(41, Nq_grid_New), (42, Nq_law25_lake), (17, Nq_save_Encode), (19, Nq_save_Decode), (21, Nq_law25_seas), (22, Nq_save_Sum)], NG⟩
theorem Nx_law25_lives_ok : CxOk Tryz.prog Nx_law25_lives := ⟨tabB_sound Ntab_ok, conOf_sound ⟨Nh_grid_New, Nh_law25_lake, Nh_save_Encode, Nh_save_Decode, Nh_law25_seas, Nh_save_Sum, trivial⟩⟩
theorem Nat_law25_lives : FnAt Tryz.prog 16 Tryz.f16.ntmps Tryz.f16.results.toList (Tryz.f16.body.getD .skip) := ⟨Tryz.f16, Tryz.func16, rfl, rfl, by simp, by decide⟩
theorem Neq_law25_lives  (post : Bool × Unit → Prop) : fnEval Nx_law25_lives Nhn_law25_lives Tryz.f16.ntmps Tryz.f16.results.toList (Tryz.f16.body.getD .skip) [] [.snap .bool] (()) post = Fx_law25_lives   post := by kernel_rfl
theorem Nh_law25_lives : Nq_law25_lives.holds Tryz.prog NG 16 :=
  nam_of_det (detP Nx_law25_lives_ok Nmixed Nhn_law25_lives Nat_law25_lives (F := fun x post => Fx_law25_lives   post) (fun x post => Neq_law25_lives  post) fun x _ _ => Lx_law25_lives  )
end Go.Lift

set_option linter.unusedVariables false
set_option linter.unusedSimpArgs false
namespace Go.Lift
open Go.Proofs
def Nx_law25_SaveFloats : Cx := ⟨tabOf Ntab, conOf [(16, Nq_law25_lives), (17, Nq_save_Encode), (21, Nq_law25_seas)], NG⟩
theorem Nx_law25_SaveFloats_ok : CxOk Tryz.prog Nx_law25_SaveFloats := ⟨tabB_sound Ntab_ok, conOf_sound ⟨Nh_law25_lives, Nh_save_Encode, Nh_law25_seas, trivial⟩⟩
theorem Nat_law25_SaveFloats : FnAt Tryz.prog 10 Tryz.f10.ntmps Tryz.f10.results.toList (Tryz.f10.body.getD .skip) := ⟨Tryz.f10, Tryz.func10, rfl, rfl, by simp, by decide⟩
theorem Neq_law25_SaveFloats (n : Int) (s : (List Nat) × (List Int) × (List Int) × (List Nat) × Int × Int) (t : (List Nat) × (List Int) × (List Int) × (List Nat) × Int × Int) (post : Bool × Unit → Prop) : fnEval Nx_law25_SaveFloats Nhn_law25_SaveFloats Tryz.f10.ntmps Tryz.f10.results.toList (Tryz.f10.body.getD .skip) [.int .i64, kSea, kSea] [.snap .bool] (n, s, t, ()) post = Fx_law25_SaveFloats  n s t post := by kernel_rfl
theorem Nh_law25_SaveFloats : Nq_law25_SaveFloats.holds Tryz.prog NG 10 :=
  detP Nx_law25_SaveFloats_ok Nmixed Nhn_law25_SaveFloats Nat_law25_SaveFloats (F := fun x post => Fx_law25_SaveFloats  x.1 x.2.1 x.2.2.1 post) (fun x post => Neq_law25_SaveFloats x.1 x.2.1 x.2.2.1 post) fun x h w => Lx_law25_SaveFloats  x.1 x.2.1 x.2.2.1 h w
end Go.Lift

namespace Go.Proofs.YtomopcclgokehaaGreatDoor
open Go.Lift
theorem saveFloats_law : LawSpec Rows.saveFloatsSpec 3 := ⟨rfl, fun H ds h => by
  match ds, h with
  | [d1, d2, d3], _ => rfl⟩
set_option maxRecDepth 100000 in
theorem saveFloats_lifted (os : Os) (started : os.Started) (H : Type) (enc : TypeId × Value → H) :
    ReturnsInHanded {} Tryz.checked os 10 .any (fun w args => (Rows.saveFloatsSpec.pre enc Tryz.prog Tryz.f10 [] false w args ∧ laidMetH Tryz.prog laidL w) ∧ sizedMet enc Tryz.prog Tryz.f10 (OpenSpec.ofChange Rows.saveFloatsSpec) false w args) (Rows.saveFloatsSpec.post enc Tryz.prog Tryz.f10 false true false false) :=
  law_laid (C := Tryz.checked) (X := fun w _ => laidMetH Tryz.prog laidL w) (fun _ _ _ hh h => h.of_heap hh) (fun w _ h => laid_globs w h) own started (by kernel_rfl) Tryz.func10 rfl (by decide)
    (ChangeSpec.witness_shaped (enc := enc) (C := Tryz.checked) (os := os) (X := fun w _ => laidMetH Tryz.prog laidL w) false (World.doorLaid Tryz.prog 400 os) #[.int .i64 0, .agg #[.slice none 0 0, .slice none 0 0, .slice none 0 0, .slice none 0 0, .int .i64 0, .int .i64 0], .agg #[.slice none 0 0, .slice none 0 0, .slice none 0 0, .slice none 0 0, .int .i64 0, .int .i64 0]] 12 rfl (World.shaped_of_RefB (by kernel_rfl) (by kernel_rfl)) (by kernel_rfl) (by kernel_rfl) (by kernel_rfl) (door_met os _))
    laidOut (ktsB_sound _ [.int .i64, kSea, kSea] (by kernel_rfl)) (by decide +kernel) rfl (by kernel_rfl) saveFloats_law Nh_law25_SaveFloats (fun x h w => ⟨rngI h.1, rngSe h.2.1, rngSe h.2.2.1⟩)
theorem saveFloats_holds : Rows.SaveFloatsSaid :=
  OpenClaim.holds_of_wide 10 Tryz.f10 rfl rfl rfl rfl rfl rfl rfl ⟨rfl, rfl, rfl, rfl, rfl⟩ rfl rfl rfl rfl rfl (by kernel_rfl) Tryz.func10 (by kernel_rfl)
    (of_decide_eq_true (by kernel_rfl)) (by unfold Func.isWrapper; first | (rw [if_pos (by decide +kernel)]; kernel_rfl) | (rw [if_neg (by decide +kernel)]; exact ⟨rfl, rfl⟩))
    (fun os started H enc _ => saveFloats_lifted os started H enc)
theorem saveFloats_card : Rows.SaveFloatsCardSaid :=
  Claim7.holds_tied_plain_at .later [] [.wider, .data] true (true, "2273f09aaa9b9b1a38ee314dd1dcc464b3e9af4b3fa99a5ece1fa69518c1ab6d") true
    saveFloats_holds (fun _ h => by cases h) (by kernel_rfl) (fun _ h => by cases h) saveFloats_row_tie rfl ⟨rfl, rfl⟩ (by kernel_rfl) rfl
    (fun f fn hf hfn => by
      obtain rfl : f = 10 := Option.some.inj ((show Tryz.prog.funcNamed "tarn/tarnlaw25.SaveFloats" = some 10 by kernel_rfl).symm.trans hf) |>.symm
      obtain rfl : fn = Tryz.f10 := (Option.some.inj (Tryz.func10.symm.trans hfn)).symm
      exact ⟨by kernel_rfl, fun j t ht => by
        rw [Tryz.params10] at ht
        have hm : t ∈ [3, 25, 25] := by simpa using Array.mem_of_getElem? ht
        have hall : ([3, 25, 25].all fun u => !Tryz.prog.wantsStandIn u) = true := by kernel_rfl
        exact (show Tryz.prog.wantsStandIn t = false by simpa using List.all_eq_true.1 hall t hm)⟩)
    (by kernel_rfl)
end Go.Proofs.YtomopcclgokehaaGreatDoor
