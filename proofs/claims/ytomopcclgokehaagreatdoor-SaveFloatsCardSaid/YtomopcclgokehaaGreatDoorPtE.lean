/- A part of the proof of SaveFloatsCard: an own lifter of code into plain terms, and plain laws. -/
import Derived.Laws.Externs
import Derived.Test.YtomopcclgokehaaGreatDoorPtD
set_option linter.unusedVariables false
set_option linter.unusedSimpArgs false
set_option linter.unusedSectionVars false
set_option linter.unusedVariables false
set_option linter.unusedSimpArgs false
namespace Go.Lift
theorem mul_bd {a b m n : Int} (h1 : -m ≤ a) (h2 : a ≤ m) (h3 : -n ≤ b) (h4 : b ≤ n) : -(m * n) ≤ a * b ∧ a * b ≤ m * n := by
  have e : (a * b).natAbs ≤ m.natAbs * n.natAbs := by
    rw [Int.natAbs_mul]; exact Nat.mul_le_mul (by omega) (by omega)
  have hm : ((m.natAbs * n.natAbs : Nat) : Int) = m * n := by
    rw [Int.natCast_mul, Int.natAbs_of_nonneg (by omega), Int.natAbs_of_nonneg (by omega)]
  omega
theorem bd_mem {m : Int} {w : List Int} (h0 : 0 ≤ m) (h : ∀ x ∈ w, -m ≤ x ∧ x ≤ m) : Bd m w := by
  intro i
  rcases Nat.lt_or_ge i w.length with g | g
  · exact h _ (getD_mem g 0)
  · rw [List.getD_eq_getElem?_getD, List.getElem?_eq_none g]; exact ⟨by show -m ≤ 0; omega, h0⟩
theorem bd3 {m x y z : Int} (hx : -m ≤ x ∧ x ≤ m) (hy : -m ≤ y ∧ y ≤ m) (hz : -m ≤ z ∧ z ≤ m) : Bd m [x, y, z] := by
  refine bd_mem (by omega) fun a ha => ?_
  simp only [List.mem_cons, List.not_mem_nil, or_false] at ha
  rcases ha with rfl | rfl | rfl
  · exact hx
  · exact hy
  · exact hz
theorem Bd.mono {m m' : Int} {w : List Int} (h : Bd m w) (hm : m ≤ m') : Bd m' w := fun i => by have := h i; omega
theorem times_bd {m q k : Int} {w : List Int} (h : Bd m w) (k1 : -q ≤ k) (k2 : k ≤ q) : Bd (q * m) (timesW w k) :=
  bd3 (mul_bd k1 k2 (h 0).1 (h 0).2) (mul_bd k1 k2 (h 1).1 (h 1).2) (mul_bd k1 k2 (h 2).1 (h 2).2)
theorem plus_bd {a b : Int} {w v : List Int} (h : Bd a w) (k : Bd b v) : Bd (a + b) (plusW w v) := by
  have h0 := h 0; have h1 := h 1; have h2 := h 2; have k0 := k 0; have k1 := k 1; have k2 := k 2
  exact bd3 (by omega) (by omega) (by omega)
theorem dot_bd {a b : Int} {w v : List Int} (h : Bd a w) (k : Bd b v) : -(3 * (a * b)) ≤ dotW w v ∧ dotW w v ≤ 3 * (a * b) := by
  have e0 := mul_bd (h 0).1 (h 0).2 (k 0).1 (k 0).2
  have e1 := mul_bd (h 1).1 (h 1).2 (k 1).1 (k 1).2
  have e2 := mul_bd (h 2).1 (h 2).2 (k 2).1 (k 2).2
  unfold dotW
  omega
theorem face_cases {f : Int} (h0 : 0 ≤ f) (h5 : f ≤ 5) : f = 0 ∨ f = 1 ∨ f = 2 ∨ f = 3 ∨ f = 4 ∨ f = 5 := by omega
theorem side_cases {o : Int} (h0 : 0 ≤ o) (h4 : o < 4) : o = 0 ∨ o = 1 ∨ o = 2 ∨ o = 3 := by omega
theorem frame_bd {f : Int} (h0 : 0 ≤ f) (h5 : f ≤ 5) (i : Nat) : Bd 1 (wayAt (frameL f) i) := by
  refine bd_mem (by decide) ?_
  have d : ∀ x ∈ ([0, 0, 0] : List Int), -1 ≤ x ∧ x ≤ 1 := by decide
  rcases face_cases h0 h5 with rfl | rfl | rfl | rfl | rfl | rfl <;>
    (match i with
     | 0 => decide
     | 1 => decide
     | 2 => decide
     | i + 3 => exact d)
theorem frame_len {f : Int} (h0 : 0 ≤ f) (h5 : f ≤ 5) : (frameL f).length = 3 := by
  rcases face_cases h0 h5 with rfl | rfl | rfl | rfl | rfl | rfl <;> decide
theorem out_bd {f : Int} (h0 : 0 ≤ f) (h5 : f ≤ 5) (s : Int) : Bd 1 (outF (frameL f) s) := by
  unfold outF
  split
  · exact frame_bd h0 h5 1
  · split
    · exact frame_bd h0 h5 2
    · split
      · exact (times_bd (q := 1) (frame_bd h0 h5 1) (by omega) (by omega)).mono (by decide)
      · exact (times_bd (q := 1) (frame_bd h0 h5 2) (by omega) (by omega)).mono (by decide)
theorem face_at {f o : Int} (h0 : 0 ≤ f) (h5 : f ≤ 5) (o0 : 0 ≤ o) (o4 : o < 4) : 0 ≤ faceAtI (outF (frameL f) o) ∧ faceAtI (outF (frameL f) o) ≤ 5 := by
  rcases face_cases h0 h5 with rfl | rfl | rfl | rfl | rfl | rfl <;> rcases side_cases o0 o4 with rfl | rfl | rfl | rfl <;> decide
theorem middle_bd {n f i j : Int} (h : WMiddle n f i j) : Bd 96 (middleI n f i j) := by
  obtain ⟨n1, n2, f0, f5, i0, i1, j0, j1⟩ := h
  have a := times_bd (q := 32) (frame_bd f0 f5 0) (k := n) (by omega) (by omega)
  have b := times_bd (q := 32) (frame_bd f0 f5 1) (k := 2 * i + 1 - n) (by omega) (by omega)
  have c := times_bd (q := 32) (frame_bd f0 f5 2) (k := 2 * j + 1 - n) (by omega) (by omega)
  exact (plus_bd (plus_bd a b) c).mono (by decide)
theorem index_rng {n a : Int} (h1 : 1 ≤ n) : 0 ≤ indexI n a ∧ indexI n a ≤ n - 1 := by
  unfold indexI imin imax
  split <;> split <;> omega
theorem place_mid {n c : Int} (h : placeOk n c = true) : WMiddle n (c / (n * n)) (c % n) (c / n % n) := by
  obtain ⟨f1, f2, f3, f4, f5, f6⟩ := place_facts h
  obtain ⟨g1, g2, g3, g4, g5, g6⟩ := place_rng h
  exact ⟨f1, f2, g1, g2, g3, g4, g5, g6⟩
theorem place_eq {n c : Int} (h : placeOk n c = true) : placeR4 n c = (c / (n * n), c % n, c / n % n, true, ()) := by unfold placeR4; rw [if_pos h]
theorem place_no {n c : Int} (h : ¬ placeOk n c = true) : placeR4 n c = (0, 0, 0, false, ()) := by unfold placeR4; rw [if_neg h]
theorem corner_at {n c : Int} (h : placeOk n c = true) {i : Int} (i0 : 0 ≤ i) (i3 : i ≤ 3) (d : Nat × Nat × Nat) : (cornersR n c).1.getD i.toNat d = cornA n c i := by
  have hs : cornersR n c = ([cornerC n c 0 0, cornerC n c 1 0, cornerC n c 1 1, cornerC n c 0 1], true, ()) := by
    unfold cornersR; rw [if_pos h]; unfold cornerC; rw [Int.add_zero, Int.add_zero]
  rw [hs]
  have : i = 0 ∨ i = 1 ∨ i = 2 ∨ i = 3 := by omega
  rcases this with rfl | rfl | rfl | rfl <;> rfl
theorem cornA_w (n c i : Int) : WV (cornA n c i) := by
  unfold cornA
  (repeat' split) <;> exact cornerQ_w _ _ _ _
theorem middleQ_w (n c : Int) : WV (middleQ n c) := unitV_w _
theorem cell_rng {n f i j : Int} (h : cellOk n f i j = true) : 0 ≤ cellI n f i j ∧ cellI n f i j < 6 * (n * n) ∧ 1 ≤ n ∧ n ≤ 32 := by
  unfold cellOk at h
  simp only [Bool.and_eq_true, decide_eq_true_eq] at h
  obtain ⟨⟨⟨⟨⟨⟨hg, f0⟩, f6⟩, i0⟩, i1⟩, j0⟩, j1⟩ := h
  obtain ⟨n1, n2⟩ := goodC_iff.1 hg
  have hok : cellOk n f i j = true := by
    unfold cellOk; rw [hg, decide_eq_true f0, decide_eq_true f6, decide_eq_true i0, decide_eq_true i1, decide_eq_true j0, decide_eq_true j1]; rfl
  unfold cellI
  rw [if_pos hok]
  have a1 : (f * n + j) * n = f * (n * n) + j * n := by rw [Int.add_mul, Int.mul_assoc]
  have a2 : f * (n * n) ≤ 5 * (n * n) := Int.mul_le_mul_of_nonneg_right (by omega) (Int.mul_nonneg (by omega) (by omega))
  have a3 : j * n ≤ (n - 1) * n := Int.mul_le_mul_of_nonneg_right (by omega) (by omega)
  have a4 : 0 ≤ f * (n * n) := Int.mul_nonneg f0 (Int.mul_nonneg (by omega) (by omega))
  have a5 : 0 ≤ j * n := Int.mul_nonneg j0 (by omega)
  have a6 : (n - 1) * n = n * n - n := by rw [Int.sub_mul, Int.one_mul]
  omega
theorem cell_all (n f i j : Int) : -1 ≤ cellI n f i j ∧ cellI n f i j < 6144 := by
  by_cases h : cellOk n f i j = true
  · obtain ⟨a, b, c, d⟩ := cell_rng h
    have := sq_bd c d
    omega
  · unfold cellI; rw [if_neg h]; omega
theorem beside_rng (n c o : Int) : -1 ≤ (besideI n c o).1 ∧ (besideI n c o).1 < 6144 ∧ 0 ≤ (besideI n c o).2 ∧ (besideI n c o).2 ≤ 3 := by
  have ht : besideOk n c o = true → 0 ≤ Int.tmod (o + 2) 4 ∧ Int.tmod (o + 2) 4 ≤ 3 := by
    intro h
    unfold besideOk at h
    simp only [Bool.and_eq_true, decide_eq_true_eq] at h
    rw [Int.tmod_eq_emod_of_nonneg (by omega)]; omega
  have hb : ∀ (g : List (List Int)) (w : List Int) (q : Int) (f k : Nat), k + f ≤ 4 → -1 ≤ q → q < 6144 → -1 ≤ (backN g w q f k).1 ∧ (backN g w q f k).1 < 6144 ∧ 0 ≤ (backN g w q f k).2 ∧ (backN g w q f k).2 ≤ 3 := by
    intro g w q f
    induction f with
    | zero => intro k _ h1 h2; exact ⟨by show (-1 : Int) ≤ -1; omega, by show (-1 : Int) < 6144; omega, by show (0 : Int) ≤ 0; omega, by show (0 : Int) ≤ 3; omega⟩
    | succ f ih =>
      intro k hk h1 h2
      unfold backN
      split
      · exact ⟨h1, h2, by dsimp only; omega, by dsimp only; omega⟩
      · exact ih (k + 1) (by omega) h1 h2
  unfold besideI
  split
  · rename_i h
    split
    · have := cell_all n (c / (n * n)) (c % n + dxI o) (c / n % n + dyI o)
      have := ht h
      exact ⟨by dsimp only; omega, by dsimp only; omega, by dsimp only; omega, by dsimp only; omega⟩
    · unfold overI
      have := cell_all n (faceAtI (outF (frameL (c / (n * n))) o)) (indexI n (dotW (plusW (middleI n (c / (n * n)) (c % n) (c / n % n)) (outF (frameL (c / (n * n))) o)) (wayAt (frameL (faceAtI (outF (frameL (c / (n * n))) o))) 1))) (indexI n (dotW (plusW (middleI n (c / (n * n)) (c % n) (c / n % n)) (outF (frameL (c / (n * n))) o)) (wayAt (frameL (faceAtI (outF (frameL (c / (n * n))) o))) 2)))
      exact hb _ _ _ 4 0 (by omega) this.1 this.2
  · exact ⟨by dsimp only; omega, by dsimp only; omega, by dsimp only; omega, by dsimp only; omega⟩
def EdOk (e : Ed) : Prop := 0 ≤ e.1 ∧ e.1 < 6144 ∧ 0 ≤ e.2.1 ∧ e.2.1 ≤ 3 ∧ 0 ≤ e.2.2.1 ∧ e.2.2.1 < 6144 ∧ 0 ≤ e.2.2.2 ∧ e.2.2.2 ≤ 3
theorem addE_ok {n c o : Int} {s : List Ed × Nm} (c0 : 0 ≤ c) (c1 : c < 6144) (o0 : 0 ≤ o) (o3 : o ≤ 3) (h : ∀ e ∈ s.1, EdOk e) : (∀ e ∈ (addE n c o s).1, EdOk e) ∧ (addE n c o s).1.length ≤ s.1.length + 1 := by
  unfold addE
  split
  · exact ⟨h, by omega⟩
  · rename_i q
    have b := beside_rng n c o
    refine ⟨fun e he => ?_, by rw [List.length_append]; exact Nat.le_refl _⟩
    rcases List.mem_append.1 he with he | he
    · exact h e he
    · obtain rfl := List.mem_singleton.1 he
      exact ⟨c0, c1, o0, o3, by dsimp only; omega, by dsimp only; omega, by dsimp only; omega, by dsimp only; omega⟩
theorem addN_ok {n c : Int} {s : List Ed × Nm} (c0 : 0 ≤ c) (c1 : c < 6144) (h : ∀ e ∈ s.1, EdOk e) : ∀ k, k ≤ 4 → (∀ e ∈ (addN n c s k).1, EdOk e) ∧ (addN n c s k).1.length ≤ s.1.length + k
  | 0, _ => ⟨h, Nat.le_refl _⟩
  | k + 1, hk => by
    obtain ⟨a, b⟩ := addN_ok c0 c1 h k (by omega)
    obtain ⟨d, e⟩ := addE_ok (n := n) (o := k) c0 c1 (by omega) (by omega) a
    exact ⟨d, by show (addE n c k (addN n c s k)).1.length ≤ _; omega⟩
theorem netN_ok (n : Int) : ∀ k, k ≤ 6144 → (∀ e ∈ (netN n k).1, EdOk e) ∧ (netN n k).1.length ≤ 4 * k
  | 0, _ => ⟨fun e he => (by cases he), Nat.le_refl _⟩
  | k + 1, hk => by
    obtain ⟨a, b⟩ := netN_ok n k (by omega)
    obtain ⟨d, e⟩ := addN_ok (n := n) (c := k) (by omega) (by omega) a 4 (Nat.le_refl _)
    exact ⟨d, by show (addN n k (netN n k) 4).1.length ≤ _; omega⟩
theorem i64_wrap (x : Int) : I64 (IntKind.i64.wrap x) := by
  have h : IntKind.i64.wrap x = if 9223372036854775808 ≤ x % 18446744073709551616 then x % 18446744073709551616 - 18446744073709551616 else x % 18446744073709551616 := by
    simp [IntKind.wrap, IntKind.bits, IntKind.signed]
  rw [h]; unfold I64; split <;> omega
theorem dx_get {o : Int} (o0 : 0 ≤ o) (o4 : o < 4) : List.getD ([[(1 : Int), 0], [0, 1], [-1, 0], [0, -1]].getD o.toNat [0, 0]) 0 0 = dxI o := by
  rcases side_cases o0 o4 with rfl | rfl | rfl | rfl <;> rfl
theorem dy_get {o : Int} (o0 : 0 ≤ o) (o4 : o < 4) : List.getD ([[(1 : Int), 0], [0, 1], [-1, 0], [0, -1]].getD o.toNat [0, 0]) 1 0 = dyI o := by
  rcases side_cases o0 o4 with rfl | rfl | rfl | rfl <;> rfl
theorem dxy {o : Int} : -1 ≤ dxI o ∧ dxI o ≤ 1 ∧ -1 ≤ dyI o ∧ dyI o ≤ 1 := by
  unfold dxI dyI; (repeat' split) <;> omega
end Go.Lift

set_option linter.unusedVariables false
set_option linter.unusedSimpArgs false
namespace Go.Lift
def Fx_grid_Grid_Cells_0 := fun (post : Int × Unit → Prop) => post ((0 : Int), ())
theorem Lx_grid_Grid_Cells_0  (w : KS.wf [.ptr kGrid] (none, ())) : Fx_grid_Grid_Cells_0   (fun r => r = nCellsR none) := by
  exact rfl
def Fx_grid_Grid_Cells_1 := fun (g : Int × List (Int × Int × Int × Int) × List ((Int × Int) × Int) × List (List Int) × List Int × List Nat × List Nat) (post : Int × Unit → Prop) =>
  ∃ (h : Option.some g ≠ Option.none), post ((↑g.snd.snd.snd.snd.fst.length : Int), ())
theorem Lx_grid_Grid_Cells_1 (g : Int × (List (Int × Int × Int × Int)) × (List ((Int × Int) × Int)) × (List (List Int)) × (List Int) × (List Nat) × List Nat) (w : KS.wf [.ptr kGrid] ((some g), ())) : Fx_grid_Grid_Cells_1  g (fun r => r = nCellsR (some g)) := by
  exact ⟨by simp, rfl⟩
def Fx_grid_Grid_Edges_0 := fun (post : Int × Unit → Prop) => post ((0 : Int), ())
theorem Lx_grid_Grid_Edges_0  (w : KS.wf [.ptr kGrid] (none, ())) : Fx_grid_Grid_Edges_0   (fun r => r = nEdgesR none) := by
  exact rfl
def Fx_grid_Grid_Edges_1 := fun (g : Int × List (Int × Int × Int × Int) × List ((Int × Int) × Int) × List (List Int) × List Int × List Nat × List Nat) (post : Int × Unit → Prop) =>
  ∃ (h : Option.some g ≠ Option.none), post ((↑g.snd.fst.length : Int), ())
theorem Lx_grid_Grid_Edges_1 (g : Int × (List (Int × Int × Int × Int)) × (List ((Int × Int) × Int)) × (List (List Int)) × (List Int) × (List Nat) × List Nat) (w : KS.wf [.ptr kGrid] ((some g), ())) : Fx_grid_Grid_Edges_1  g (fun r => r = nEdgesR (some g)) := by
  exact ⟨by simp, rfl⟩
def Fx_grid_Grid_Area_0 := fun (c : Int) (post : Int × Unit → Prop) => post ((0 : Int), ())
theorem Lx_grid_Grid_Area_0 (c : Int) (w : KS.wf [.ptr kGrid, .int .i64] (none, c, ())) : Fx_grid_Grid_Area_0  c (fun r => r = nAreaR none c) := by
  exact rfl
def Fx_grid_Grid_Area_1 := fun (g : Int × List (Int × Int × Int × Int) × List ((Int × Int) × Int) × List (List Int) × List Int × List Nat × List Nat) (c : Int) (post : Int × Unit →
  Prop) => ∀ (a : Bool), a = decide (c < (0 : Int)) → Br a (post ((0 : Int), ())) (∃ (h : Option.some g ≠ Option.none), ∀ (a : Bool), a = decide (c ≥ (↑g.snd.snd.snd.snd.fst.length
  : Int)) → Br a (post ((0 : Int), ())) (∃ (h : Option.some g ≠ Option.none), ∃ (h : (0 : Int) ≤ c ∧ c < (↑g.snd.snd.snd.snd.fst.length : Int)), post (g.snd.snd.snd.snd.fst.getD
  c.toNat (0 : Int), ())))
theorem Lx_grid_Grid_Area_1 (g : Int × (List (Int × Int × Int × Int)) × (List ((Int × Int) × Int)) × (List (List Int)) × (List Int) × (List Nat) × List Nat) (c : Int) (w : KS.wf [.ptr kGrid, .int .i64] ((some g), c, ())) : Fx_grid_Grid_Area_1  g c (fun r => r = nAreaR (some g) c) := by
  rintro _ rfl
  refine Br.intro (fun e => congrArg r1 ?_) fun e => ?_
  · have e := of_decide_eq_true e
    show (0 : Int) = if 0 ≤ c ∧ c < (g.2.2.2.2.1.length : Nat) then g.2.2.2.2.1.getD c.toNat 0 else 0
    rw [if_neg (by omega)]
  have e := of_decide_eq_false e
  refine ⟨by simp, ?_⟩
  rintro _ rfl
  refine Br.intro (fun f => congrArg r1 ?_) fun f => ?_
  · have f := of_decide_eq_true f
    show (0 : Int) = if 0 ≤ c ∧ c < (g.2.2.2.2.1.length : Nat) then g.2.2.2.2.1.getD c.toNat 0 else 0
    rw [if_neg (by omega)]
  have f := of_decide_eq_false f
  refine ⟨by simp, ⟨by omega, by omega⟩, congrArg r1 ?_⟩
  show g.2.2.2.2.1.getD c.toNat 0 = if 0 ≤ c ∧ c < (g.2.2.2.2.1.length : Nat) then g.2.2.2.2.1.getD c.toNat 0 else 0
  rw [if_pos ⟨by omega, by omega⟩]
end Go.Lift

set_option linter.unusedVariables false
set_option linter.unusedSimpArgs false
namespace Go.Lift
theorem ResRep.one {w w' : World} {k : K} {x : k.T} {v : Value} {ok : Nat → Prop} (h : ∀ fr, KRep w' fr k x v) : ResRep w w' ok [.snap k] (x, ()) v :=
  ⟨[v], [], rfl, fun i j b h => by simp at h, v, [], [], [], rfl, rfl, ⟨rfl, h _⟩, rfl, rfl⟩
section
variable {P : Program} {G : Globs} {f : FuncId} {fn : Func} (hf : P.funcs[f]? = some fn) (hname : (fn.name == "runtime.NumGoroutine") = false) (hb : fn.body.isNone = true) (hn : Extern.findNext fn = none)
include hf hname hb hn
theorem ext_bits64 (he : Extern.find fn = some Extern.MathFloatBits.float64bits) : (Con.det [.flt .f64] [.snap (.int .u64)] (fun _ => True) (fun x => bitsR x.1)).holds P G f := by
  have main : ∀ (w : World) (ok : Nat → Prop) (b : Nat) (vs : List Value), vs = [.float .f64 b] → CallSpec P f vs.toArray w fun v w' => Grows w w' ∧ ResRep w w' ok [.snap (.int .u64)] (bitsR b) v := by
    rintro w ok b _ rfl
    refine .inl ⟨.int .u64 b, w, ?_, Grows.refl w, ResRep.one fun _ => rfl⟩
    rw [run_callFunc_extern hf hname hb hn he]; rfl
  rintro w ok _ ⟨b, ⟨⟩⟩ vs ⟨v, r, rfl, h1, rfl⟩ _ _
  exact main w ok b _ h1
theorem ext_from64 (he : Extern.find fn = some Extern.MathFloatBits.float64frombits) : (Con.det [.int .u64] [.snap (.flt .f64)] (fun _ => True) (fun x => fromR x.1)).holds P G f := by
  have main : ∀ (w : World) (ok : Nat → Prop) (b : Int) (vs : List Value), vs = [.int .u64 b] → CallSpec P f vs.toArray w fun v w' => Grows w w' ∧ ResRep w w' ok [.snap (.flt .f64)] (fromR b) v := by
    rintro w ok b _ rfl
    refine .inl ⟨.float .f64 b.toNat, w, ?_, Grows.refl w, ResRep.one fun _ => rfl⟩
    rw [run_callFunc_extern hf hname hb hn he]; rfl
  rintro w ok _ ⟨b, ⟨⟩⟩ vs ⟨v, r, rfl, h1, rfl⟩ _ _
  exact main w ok b _ h1
theorem ext_sqrt (he : Extern.find fn = some Extern.MathSqrt.sqrt) {ne} : (Con.rel [.flt .f64] [.snap (.flt .f64)] (fun _ => True) (fun x r => sqrtP x.1 r) ne).holds P G f := by
  have main : ∀ (w : World) (ok : Nat → Prop) (b : Nat) (vs : List Value), vs = [.float .f64 b] → CallSpec P f vs.toArray w fun v w' => ∃ r : RS [.snap (.flt .f64)], sqrtP b r ∧ Grows w w' ∧ ResRep w w' ok [.snap (.flt .f64)] r v := by
    rintro w ok b _ rfl
    have e : Extern.MathSqrt.sqrt [Value.float .f64 b].toArray = (match FloatKind.f64.format.sqrt b with
      | some r => pure (.float .f64 r)
      | none => do pure (.float .f64 (← choose (.nanBits .f64 b b)))) := rfl
    have key : ∀ (r : Nat) (w' : World), FRes .f64 (FloatKind.f64.format.sqrt b) r → Grows w w' → (Extern.MathSqrt.sqrt [Value.float .f64 b].toArray).run P w = .ok (.float .f64 r) w' →
        CallSpec P f [Value.float .f64 b].toArray w fun v w' => ∃ r : RS [.snap (.flt .f64)], sqrtP b r ∧ Grows w w' ∧ ResRep w w' ok [.snap (.flt .f64)] r v := by
      intro r w' hr hg hrun
      refine .inl ⟨.float .f64 r, w', ?_, (r, ()), fsqrt hr, hg, ResRep.one fun _ => rfl⟩
      rw [run_callFunc_extern hf hname hb hn he, hrun]; rfl
    cases hs : FloatKind.f64.format.sqrt b with
    | some r => exact key r w (by rw [hs]; rfl) (Grows.refl w) (by rw [e, hs]; rfl)
    | none =>
      refine key ((Question.nanBits .f64 b b).cut (w.tape w.drawn (.nanBits .f64 b b))) w.drew (by rw [hs]; exact nan_cut _ _ _ _) (Grows.drew w) ?_
      have hq : (Question.nanBits .f64 b b).forced = false := rfl
      rw [e, hs]
      simp [hq]
  rintro w ok _ ⟨b, ⟨⟩⟩ vs ⟨v, r, rfl, h1, rfl⟩ _ _
  exact main w ok b _ h1
end
end Go.Lift

set_option linter.unusedVariables false
set_option linter.unusedSimpArgs false
namespace Go.Lift
section
variable {P : Program} {G : Globs} {f : FuncId} {fn : Func} (hf : P.funcs[f]? = some fn) (hname : (fn.name == "runtime.NumGoroutine") = false) (hb : fn.body.isNone = true) (hn : Extern.findNext fn = none)
include hf hname hb hn
theorem ext_floor (he : Extern.find fn = some (Extern.MathFloor.toIntegral "math.archFloor" .down)) : (Con.det [.flt .f64] [.snap (.flt .f64)] (fun x => WNum x.1) (fun x => floorR x.1)).holds P G f := by
  have main : ∀ (w : World) (ok : Nat → Prop) (b : Nat) (vs : List Value), vs = [.float .f64 b] → WNum b → CallSpec P f vs.toArray w fun v w' => Grows w w' ∧ ResRep w w' ok [.snap (.flt .f64)] (floorR b) v := by
    rintro w ok b _ rfl hq
    refine .inl ⟨.float .f64 (floorF b), w, ?_, Grows.refl w, ResRep.one fun _ => rfl⟩
    rw [run_callFunc_extern hf hname hb hn he]
    have e : Extern.MathFloor.toIntegral "math.archFloor" .down [Value.float .f64 b].toArray = pure (.float .f64 (floorF b)) := by
      show (match Ieee.double.read b with
        | .nan s t => _
        | d => pure (Value.float .f64 (FloatKind.f64.encode (d.integral .down)))) = _
      have : (Ieee.double.read b).isNaN = false := (isN_eq b).trans hq.2
      unfold floorF
      cases h : Ieee.double.read b with
      | nan s t => rw [h] at this; cases this
      | number s m e => rfl
      | infinity s => rfl
    rw [e]; rfl
  rintro w ok _ ⟨b, ⟨⟩⟩ vs ⟨v, r, rfl, h1, rfl⟩ _ hp
  exact main w ok b _ h1 hp
end
end Go.Lift

set_option linter.unusedVariables false
set_option linter.unusedSimpArgs false
namespace Go.Lift
open Go.Proofs
def Nx_grid_Grid_Cells : Cx := ⟨tabOf Ntab, conOf [], NG⟩
theorem Nx_grid_Grid_Cells_ok : CxOk Tryz.prog Nx_grid_Grid_Cells := ⟨tabB_sound Ntab_ok, fun f c h => by cases h⟩
theorem Nat_grid_Grid_Cells : FnAt Tryz.prog 91 Tryz.f91.ntmps Tryz.f91.results.toList (Tryz.f91.body.getD .skip) := ⟨Tryz.f91, Tryz.func91, rfl, rfl, by simp, by decide⟩
theorem Neq_grid_Grid_Cells_0  (post : Int × Unit → Prop) : fnEval Nx_grid_Grid_Cells nHn Tryz.f91.ntmps Tryz.f91.results.toList (Tryz.f91.body.getD .skip) [.ptr kGrid] [.snap (.int .i64)] (none, ()) post = Fx_grid_Grid_Cells_0   post := by kernel_rfl
theorem Neq_grid_Grid_Cells_1 (g : Int × (List (Int × Int × Int × Int)) × (List ((Int × Int) × Int)) × (List (List Int)) × (List Int) × (List Nat) × List Nat) (post : Int × Unit → Prop) : fnEval Nx_grid_Grid_Cells nHn Tryz.f91.ntmps Tryz.f91.results.toList (Tryz.f91.body.getD .skip) [.ptr kGrid] [.snap (.int .i64)] ((some g), ()) post = Fx_grid_Grid_Cells_1  g post := by kernel_rfl
def NF_grid_Grid_Cells (x : KS [.ptr kGrid]) (post : RS [.snap (.int .i64)] → Prop) : Prop := match x with
  | (none, y) => Fx_grid_Grid_Cells_0   post
  | (some g, y) => Fx_grid_Grid_Cells_1  g post
theorem Nh_grid_Grid_Cells : Nq_grid_Grid_Cells.holds Tryz.prog NG 91 :=
  detP Nx_grid_Grid_Cells_ok Nmixed nHn Nat_grid_Grid_Cells (F := NF_grid_Grid_Cells) (fun x post => match x with
    | (none, y) => Neq_grid_Grid_Cells_0  post
    | (some g, y) => Neq_grid_Grid_Cells_1 g post) fun x h w => match x, h, w with
    | (none, y), h, w => Lx_grid_Grid_Cells_0   w
    | (some g, y), h, w => Lx_grid_Grid_Cells_1  g w
def Nx_grid_Grid_Edges : Cx := ⟨tabOf Ntab, conOf [], NG⟩
theorem Nx_grid_Grid_Edges_ok : CxOk Tryz.prog Nx_grid_Grid_Edges := ⟨tabB_sound Ntab_ok, fun f c h => by cases h⟩
theorem Nat_grid_Grid_Edges : FnAt Tryz.prog 92 Tryz.f92.ntmps Tryz.f92.results.toList (Tryz.f92.body.getD .skip) := ⟨Tryz.f92, Tryz.func92, rfl, rfl, by simp, by decide⟩
theorem Neq_grid_Grid_Edges_0  (post : Int × Unit → Prop) : fnEval Nx_grid_Grid_Edges nHn Tryz.f92.ntmps Tryz.f92.results.toList (Tryz.f92.body.getD .skip) [.ptr kGrid] [.snap (.int .i64)] (none, ()) post = Fx_grid_Grid_Edges_0   post := by kernel_rfl
theorem Neq_grid_Grid_Edges_1 (g : Int × (List (Int × Int × Int × Int)) × (List ((Int × Int) × Int)) × (List (List Int)) × (List Int) × (List Nat) × List Nat) (post : Int × Unit → Prop) : fnEval Nx_grid_Grid_Edges nHn Tryz.f92.ntmps Tryz.f92.results.toList (Tryz.f92.body.getD .skip) [.ptr kGrid] [.snap (.int .i64)] ((some g), ()) post = Fx_grid_Grid_Edges_1  g post := by kernel_rfl
def NF_grid_Grid_Edges (x : KS [.ptr kGrid]) (post : RS [.snap (.int .i64)] → Prop) : Prop := match x with
  | (none, y) => Fx_grid_Grid_Edges_0   post
  | (some g, y) => Fx_grid_Grid_Edges_1  g post
theorem Nh_grid_Grid_Edges : Nq_grid_Grid_Edges.holds Tryz.prog NG 92 :=
  detP Nx_grid_Grid_Edges_ok Nmixed nHn Nat_grid_Grid_Edges (F := NF_grid_Grid_Edges) (fun x post => match x with
    | (none, y) => Neq_grid_Grid_Edges_0  post
    | (some g, y) => Neq_grid_Grid_Edges_1 g post) fun x h w => match x, h, w with
    | (none, y), h, w => Lx_grid_Grid_Edges_0   w
    | (some g, y), h, w => Lx_grid_Grid_Edges_1  g w
def Nx_grid_Grid_Area : Cx := ⟨tabOf Ntab, conOf [], NG⟩
theorem Nx_grid_Grid_Area_ok : CxOk Tryz.prog Nx_grid_Grid_Area := ⟨tabB_sound Ntab_ok, fun f c h => by cases h⟩
theorem Nat_grid_Grid_Area : FnAt Tryz.prog 93 Tryz.f93.ntmps Tryz.f93.results.toList (Tryz.f93.body.getD .skip) := ⟨Tryz.f93, Tryz.func93, rfl, rfl, by simp, by decide⟩
theorem Neq_grid_Grid_Area_0 (c : Int) (post : Int × Unit → Prop) : fnEval Nx_grid_Grid_Area Nhn_grid_Grid_Area Tryz.f93.ntmps Tryz.f93.results.toList (Tryz.f93.body.getD .skip) [.ptr kGrid, .int .i64] [.snap (.int .i64)] (none, c, ()) post = Fx_grid_Grid_Area_0  c post := by kernel_rfl
theorem Neq_grid_Grid_Area_1 (g : Int × (List (Int × Int × Int × Int)) × (List ((Int × Int) × Int)) × (List (List Int)) × (List Int) × (List Nat) × List Nat) (c : Int) (post : Int × Unit → Prop) : fnEval Nx_grid_Grid_Area Nhn_grid_Grid_Area Tryz.f93.ntmps Tryz.f93.results.toList (Tryz.f93.body.getD .skip) [.ptr kGrid, .int .i64] [.snap (.int .i64)] ((some g), c, ()) post = Fx_grid_Grid_Area_1  g c post := by kernel_rfl
def NF_grid_Grid_Area (x : KS [.ptr kGrid, .int .i64]) (post : RS [.snap (.int .i64)] → Prop) : Prop := match x with
  | (none, y) => Fx_grid_Grid_Area_0  y.1 post
  | (some g, y) => Fx_grid_Grid_Area_1  g y.1 post
theorem Nh_grid_Grid_Area : Nq_grid_Grid_Area.holds Tryz.prog NG 93 :=
  detP Nx_grid_Grid_Area_ok Nmixed Nhn_grid_Grid_Area Nat_grid_Grid_Area (F := NF_grid_Grid_Area) (fun x post => match x with
    | (none, y) => Neq_grid_Grid_Area_0 y.1 post
    | (some g, y) => Neq_grid_Grid_Area_1 g y.1 post) fun x h w => match x, h, w with
    | (none, y), h, w => Lx_grid_Grid_Area_0  y.1 w
    | (some g, y), h, w => Lx_grid_Grid_Area_1  g y.1 w
end Go.Lift

set_option linter.unusedVariables false
set_option linter.unusedSimpArgs false
namespace Go.Lift
def Fx_grid_New := fun (ty122 ty123 ty2 ty126 fn86 fn87 : Nat) (n : Int) (post : Option (Int × List (Int × Int × Int × Int) × List ((Int × Int) × Int) × List (List Int) × List Int ×
  List Nat × List Nat) × Int × Unit → Prop) => ∃ (h : I64 n), Br ((cellsR n).fst == (0 : Int)) (post (Option.none, (10 : Int), ())) (∃ (h : (0 : Int) ≤ (0 : Int) ∧ (0 : Int) < (↑(2
  : Nat) : Int)), HIs [HObj.mp Md.rw ((K.int IntKind.i64).pair (K.int IntKind.i64)) (K.int IntKind.i64) [], HObj.box Md.rw ty122 [SV.val (Go.Value.int IntKind.i64 n), SV.junk,
  SV.mref (0 : Nat), SV.val (Go.Value.slice Option.none (0 : Nat) (0 : Nat)), SV.junk, SV.val (Go.Value.slice Option.none (0 : Nat) (0 : Nat)), SV.val (Go.Value.slice Option.none (0
  : Nat) (0 : Nat))], HObj.box Md.rw ty123 [SV.clo fn86 [LV.ref (1 : Nat) (0 : Nat)] [], SV.clo fn87 [LV.ref (1 : Nat) (0 : Nat)] []]] [HObj.mp Md.rw ((K.int IntKind.i64).pair
  (K.int IntKind.i64)) (K.int IntKind.i64) [], HObj.box Md.rw ty122 [SV.val (Go.Value.int IntKind.i64 n), SV.junk, SV.mref (0 : Nat), SV.val (Go.Value.slice Option.none (0 : Nat) (0
  : Nat)), SV.junk, SV.val (Go.Value.slice Option.none (0 : Nat) (0 : Nat)), SV.val (Go.Value.slice Option.none (0 : Nat) (0 : Nat))], HObj.box Md.rw ty123 [SV.clo fn86 [LV.ref (1 :
  Nat) (0 : Nat)] [], SV.clo fn87 [LV.ref (1 : Nat) (0 : Nat)] []]] ∧ ∃ (I : Int × List (Int × Int × Int × Int) × List Int × Unit → List ((Int × Int) × Int) × Unit → Prop), ∃ (μ :
  Int × List (Int × Int × Int × Int) × List Int × Unit → List ((Int × Int) × Int) × Unit → Nat), I ((0 : Int), [], [], ()) ([], ()) ∧ ∀ (x : Int × List (Int × Int × Int × Int) ×
  List Int × Unit) (y : List ((Int × Int) × Int) × Unit), I x y → Br (decide (x.fst < (cellsR n).fst)) (((0 : Nat) = (0 : Nat) ∧ x.snd.fst.length = x.snd.fst.length) ∧ HIs [HObj.mp
  Md.rw ((K.int IntKind.i64).pair (K.int IntKind.i64)) (K.int IntKind.i64) y.fst, HObj.box Md.rw ty122 [SV.val (Go.Value.int IntKind.i64 n), SV.junk, SV.mref (0 : Nat), SV.val
  (Go.Value.slice Option.none (0 : Nat) (0 : Nat)), SV.osl (4 : Nat) (0 : Nat) x.snd.snd.fst.length, SV.val (Go.Value.slice Option.none (0 : Nat) (0 : Nat)), SV.val (Go.Value.slice
  Option.none (0 : Nat) (0 : Nat))], HObj.box Md.rw ty123 [SV.clo fn86 [LV.ref (1 : Nat) (0 : Nat)] [], SV.clo fn87 [LV.ref (1 : Nat) (0 : Nat)] []], HObj.dead, HObj.row Md.rw ty2
  (K.int IntKind.i64) x.snd.snd.fst] [HObj.mp Md.rw ((K.int IntKind.i64).pair (K.int IntKind.i64)) (K.int IntKind.i64) y.fst, HObj.box Md.rw ty122 [SV.val (Go.Value.int IntKind.i64
  n), SV.junk, SV.mref (0 : Nat), SV.val (Go.Value.slice Option.none (0 : Nat) (0 : Nat)), SV.osl (4 : Nat) (0 : Nat) x.snd.snd.fst.length, SV.val (Go.Value.slice Option.none (0 :
  Nat) (0 : Nat)), SV.val (Go.Value.slice Option.none (0 : Nat) (0 : Nat))], HObj.box Md.rw ty123 [SV.clo fn86 [LV.ref (1 : Nat) (0 : Nat)] [], SV.clo fn87 [LV.ref (1 : Nat) (0 :
  Nat)] []], HObj.dead, HObj.row Md.rw ty2 (K.int IntKind.i64) x.snd.snd.fst] ∧ ∃ (I_1 : Int × List (Int × Int × Int × Int) × Unit → List ((Int × Int) × Int) × Unit → Prop), ∃ (μ_1
  : Int × List (Int × Int × Int × Int) × Unit → List ((Int × Int) × Int) × Unit → Nat), I_1 ((0 : Int), x.snd.fst, ()) (y.fst, ()) ∧ ∀ (x_2 : Int × List (Int × Int × Int × Int) ×
  Unit) (y_1 : List ((Int × Int) × Int) × Unit), I_1 x_2 y_1 → Br (decide (x_2.fst < (4 : Int))) (∃ (h : III n x.fst x_2.fst), ∀ (a : Int × Int × Unit), a = besideR n x.fst x_2.fst
  → Br (decide (x.fst > a.fst)) (((0 : Nat) = (0 : Nat) ∧ x_2.snd.fst.length = x_2.snd.fst.length) ∧ HIs [HObj.mp Md.rw ((K.int IntKind.i64).pair (K.int IntKind.i64)) (K.int
  IntKind.i64) y_1.fst, HObj.box Md.rw ty122 [SV.val (Go.Value.int IntKind.i64 n), SV.junk, SV.mref (0 : Nat), SV.val (Go.Value.slice Option.none (0 : Nat) (0 : Nat)), SV.osl (4 :
  Nat) (0 : Nat) x.snd.snd.fst.length, SV.val (Go.Value.slice Option.none (0 : Nat) (0 : Nat)), SV.val (Go.Value.slice Option.none (0 : Nat) (0 : Nat))], HObj.box Md.rw ty123
  [SV.clo fn86 [LV.ref (1 : Nat) (0 : Nat)] [], SV.clo fn87 [LV.ref (1 : Nat) (0 : Nat)] []], HObj.dead, HObj.row Md.rw ty2 (K.int IntKind.i64) x.snd.snd.fst] [HObj.mp Md.rw ((K.int
  IntKind.i64).pair (K.int IntKind.i64)) (K.int IntKind.i64) y_1.fst, HObj.box Md.rw ty122 [SV.val (Go.Value.int IntKind.i64 n), SV.junk, SV.mref (0 : Nat), SV.val (Go.Value.slice
  Option.none (0 : Nat) (0 : Nat)), SV.osl (4 : Nat) (0 : Nat) x.snd.snd.fst.length, SV.val (Go.Value.slice Option.none (0 : Nat) (0 : Nat)), SV.val (Go.Value.slice Option.none (0 :
  Nat) (0 : Nat))], HObj.box Md.rw ty123 [SV.clo fn86 [LV.ref (1 : Nat) (0 : Nat)] [], SV.clo fn87 [LV.ref (1 : Nat) (0 : Nat)] []], HObj.dead, HObj.row Md.rw ty2 (K.int
  IntKind.i64) x.snd.snd.fst] ∧ I_1 (IntKind.i64.wrap (x_2.fst + (1 : Int)), x_2.snd.fst, ()) (y_1.fst, ()) ∧ μ_1 (IntKind.i64.wrap (x_2.fst + (1 : Int)), x_2.snd.fst, ()) (y_1.fst,
  ()) < μ_1 x_2 y_1) (∃ (h : x_2.snd.fst.length = x_2.snd.fst.length ∧ (x_2.snd.fst.length + (1 : Nat)) * (32 : Nat) ≤ (140737488355328 : Nat)), ((0 : Nat) = (0 : Nat) ∧
  x_2.snd.fst.length + (1 : Nat) = (x_2.snd.fst ++ [(x.fst, x_2.fst, a.fst, a.snd.fst)]).length) ∧ HIs [HObj.mp Md.rw ((K.int IntKind.i64).pair (K.int IntKind.i64)) (K.int
  IntKind.i64) (mput (a.fst, a.snd.fst) (↑x_2.snd.fst.length : Int) (mput (x.fst, x_2.fst) (↑x_2.snd.fst.length : Int) y_1.fst)), HObj.box Md.rw ty122 [SV.val (Go.Value.int
  IntKind.i64 n), SV.junk, SV.mref (0 : Nat), SV.val (Go.Value.slice Option.none (0 : Nat) (0 : Nat)), SV.osl (4 : Nat) (0 : Nat) x.snd.snd.fst.length, SV.val (Go.Value.slice
  Option.none (0 : Nat) (0 : Nat)), SV.val (Go.Value.slice Option.none (0 : Nat) (0 : Nat))], HObj.box Md.rw ty123 [SV.clo fn86 [LV.ref (1 : Nat) (0 : Nat)] [], SV.clo fn87 [LV.ref
  (1 : Nat) (0 : Nat)] []], HObj.dead, HObj.row Md.rw ty2 (K.int IntKind.i64) x.snd.snd.fst] [HObj.mp Md.rw ((K.int IntKind.i64).pair (K.int IntKind.i64)) (K.int IntKind.i64) (mput
  (a.fst, a.snd.fst) (↑x_2.snd.fst.length : Int) (mput (x.fst, x_2.fst) (↑x_2.snd.fst.length : Int) y_1.fst)), HObj.box Md.rw ty122 [SV.val (Go.Value.int IntKind.i64 n), SV.junk,
  SV.mref (0 : Nat), SV.val (Go.Value.slice Option.none (0 : Nat) (0 : Nat)), SV.osl (4 : Nat) (0 : Nat) x.snd.snd.fst.length, SV.val (Go.Value.slice Option.none (0 : Nat) (0 :
  Nat)), SV.val (Go.Value.slice Option.none (0 : Nat) (0 : Nat))], HObj.box Md.rw ty123 [SV.clo fn86 [LV.ref (1 : Nat) (0 : Nat)] [], SV.clo fn87 [LV.ref (1 : Nat) (0 : Nat)] []],
  HObj.dead, HObj.row Md.rw ty2 (K.int IntKind.i64) x.snd.snd.fst] ∧ I_1 (IntKind.i64.wrap (x_2.fst + (1 : Int)), x_2.snd.fst ++ [(x.fst, x_2.fst, a.fst, a.snd.fst)], ()) (mput
  (a.fst, a.snd.fst) (↑x_2.snd.fst.length : Int) (mput (x.fst, x_2.fst) (↑x_2.snd.fst.length : Int) y_1.fst), ()) ∧ μ_1 (IntKind.i64.wrap (x_2.fst + (1 : Int)), x_2.snd.fst ++
  [(x.fst, x_2.fst, a.fst, a.snd.fst)], ()) (mput (a.fst, a.snd.fst) (↑x_2.snd.fst.length : Int) (mput (x.fst, x_2.fst) (↑x_2.snd.fst.length : Int) y_1.fst), ()) < μ_1 x_2 y_1))
  (((0 : Nat) = (0 : Nat) ∧ x_2.snd.fst.length = x_2.snd.fst.length) ∧ ((0 : Nat) = (0 : Nat) ∧ x.snd.snd.fst.length = x.snd.snd.fst.length) ∧ HIs [HObj.mp Md.rw ((K.int
  IntKind.i64).pair (K.int IntKind.i64)) (K.int IntKind.i64) y_1.fst, HObj.box Md.rw ty122 [SV.val (Go.Value.int IntKind.i64 n), SV.junk, SV.mref (0 : Nat), SV.val (Go.Value.slice
  Option.none (0 : Nat) (0 : Nat)), SV.junk, SV.val (Go.Value.slice Option.none (0 : Nat) (0 : Nat)), SV.val (Go.Value.slice Option.none (0 : Nat) (0 : Nat))], HObj.box Md.rw ty123
  [SV.clo fn86 [LV.ref (1 : Nat) (0 : Nat)] [], SV.clo fn87 [LV.ref (1 : Nat) (0 : Nat)] []]] [HObj.mp Md.rw ((K.int IntKind.i64).pair (K.int IntKind.i64)) (K.int IntKind.i64)
  y_1.fst, HObj.box Md.rw ty122 [SV.val (Go.Value.int IntKind.i64 n), SV.junk, SV.mref (0 : Nat), SV.val (Go.Value.slice Option.none (0 : Nat) (0 : Nat)), SV.junk, SV.val
  (Go.Value.slice Option.none (0 : Nat) (0 : Nat)), SV.val (Go.Value.slice Option.none (0 : Nat) (0 : Nat))], HObj.box Md.rw ty123 [SV.clo fn86 [LV.ref (1 : Nat) (0 : Nat)] [],
  SV.clo fn87 [LV.ref (1 : Nat) (0 : Nat)] []]] ∧ I (IntKind.i64.wrap (x.fst + (1 : Int)), x_2.snd.fst, x.snd.snd.fst, ()) (y_1.fst, ()) ∧ μ (IntKind.i64.wrap (x.fst + (1 : Int)),
  x_2.snd.fst, x.snd.snd.fst, ()) (y_1.fst, ()) < μ x y)) (∃ (h : (0 : Int) ≤ IntKind.i64.wrap ((0 : Int) + (1 : Int)) ∧ IntKind.i64.wrap ((0 : Int) + (1 : Int)) < (↑(2 : Nat) :
  Int)), ((0 : Nat) = (0 : Nat) ∧ x.snd.fst.length = x.snd.fst.length) ∧ ((0 : Nat) = (0 : Nat) ∧ x.snd.snd.fst.length = x.snd.snd.fst.length) ∧ HIs [HObj.mp Md.rw ((K.int
  IntKind.i64).pair (K.int IntKind.i64)) (K.int IntKind.i64) y.fst, HObj.box Md.rw ty122 [SV.val (Go.Value.int IntKind.i64 n), SV.junk, SV.mref (0 : Nat), SV.val (Go.Value.slice
  Option.none (0 : Nat) (0 : Nat)), SV.junk, SV.val (Go.Value.slice Option.none (0 : Nat) (0 : Nat)), SV.val (Go.Value.slice Option.none (0 : Nat) (0 : Nat))], HObj.box Md.rw ty123
  [SV.clo fn86 [LV.ref (1 : Nat) (0 : Nat)] [], SV.clo fn87 [LV.ref (1 : Nat) (0 : Nat)] []], HObj.dead, HObj.dead] [HObj.mp Md.rw ((K.int IntKind.i64).pair (K.int IntKind.i64))
  (K.int IntKind.i64) y.fst, HObj.box Md.rw ty122 [SV.val (Go.Value.int IntKind.i64 n), SV.junk, SV.mref (0 : Nat), SV.val (Go.Value.slice Option.none (0 : Nat) (0 : Nat)), SV.junk,
  SV.val (Go.Value.slice Option.none (0 : Nat) (0 : Nat)), SV.val (Go.Value.slice Option.none (0 : Nat) (0 : Nat))], HObj.box Md.rw ty123 [SV.clo fn86 [LV.ref (1 : Nat) (0 : Nat)]
  [], SV.clo fn87 [LV.ref (1 : Nat) (0 : Nat)] []], HObj.dead, HObj.dead] ∧ ∃ (I : Int × List (Int × Int × Int × Int) × List Int × Unit → List ((Int × Int) × Int) × Unit → Prop), ∃
  (μ : Int × List (Int × Int × Int × Int) × List Int × Unit → List ((Int × Int) × Int) × Unit → Nat), I ((0 : Int), x.snd.fst, x.snd.snd.fst, ()) (y.fst, ()) ∧ ∀ (x : Int × List
  (Int × Int × Int × Int) × List Int × Unit) (y : List ((Int × Int) × Int) × Unit), I x y → Br (decide (x.fst < (cellsR n).fst)) (∃ (h : II n x.fst), ∃ (h : x.snd.snd.fst.length =
  x.snd.snd.fst.length ∧ (x.snd.snd.fst.length + (1 : Nat)) * (8 : Nat) ≤ (140737488355328 : Nat)), ((0 : Nat) = (0 : Nat) ∧ x.snd.fst.length = x.snd.fst.length) ∧ ((0 : Nat) = (0 :
  Nat) ∧ x.snd.snd.fst.length + (1 : Nat) = (x.snd.snd.fst ++ [(areaR n x.fst).fst]).length) ∧ HIs [HObj.mp Md.rw ((K.int IntKind.i64).pair (K.int IntKind.i64)) (K.int IntKind.i64)
  y.fst, HObj.box Md.rw ty122 [SV.val (Go.Value.int IntKind.i64 n), SV.junk, SV.mref (0 : Nat), SV.val (Go.Value.slice Option.none (0 : Nat) (0 : Nat)), SV.junk, SV.val
  (Go.Value.slice Option.none (0 : Nat) (0 : Nat)), SV.val (Go.Value.slice Option.none (0 : Nat) (0 : Nat))], HObj.box Md.rw ty123 [SV.clo fn86 [LV.ref (1 : Nat) (0 : Nat)] [],
  SV.clo fn87 [LV.ref (1 : Nat) (0 : Nat)] []], HObj.dead, HObj.dead] [HObj.mp Md.rw ((K.int IntKind.i64).pair (K.int IntKind.i64)) (K.int IntKind.i64) y.fst, HObj.box Md.rw ty122
  [SV.val (Go.Value.int IntKind.i64 n), SV.junk, SV.mref (0 : Nat), SV.val (Go.Value.slice Option.none (0 : Nat) (0 : Nat)), SV.junk, SV.val (Go.Value.slice Option.none (0 : Nat) (0
  : Nat)), SV.val (Go.Value.slice Option.none (0 : Nat) (0 : Nat))], HObj.box Md.rw ty123 [SV.clo fn86 [LV.ref (1 : Nat) (0 : Nat)] [], SV.clo fn87 [LV.ref (1 : Nat) (0 : Nat)] []],
  HObj.dead, HObj.dead] ∧ I (IntKind.i64.wrap (x.fst + (1 : Int)), x.snd.fst, x.snd.snd.fst ++ [(areaR n x.fst).fst], ()) (y.fst, ()) ∧ μ (IntKind.i64.wrap (x.fst + (1 : Int)),
  x.snd.fst, x.snd.snd.fst ++ [(areaR n x.fst).fst], ()) (y.fst, ()) < μ x y) (HIs [HObj.mp Md.rw ((K.int IntKind.i64).pair (K.int IntKind.i64)) (K.int IntKind.i64) y.fst, HObj.box
  Md.rw ty122 [SV.val (Go.Value.int IntKind.i64 n), SV.osl (5 : Nat) (0 : Nat) x.snd.fst.length, SV.mref (0 : Nat), SV.junk, SV.osl (6 : Nat) (0 : Nat) x.snd.snd.fst.length,
  SV.junk, SV.junk], HObj.box Md.rw ty123 [SV.clo fn86 [LV.ref (1 : Nat) (0 : Nat)] [], SV.clo fn87 [LV.ref (1 : Nat) (0 : Nat)] []], HObj.dead, HObj.dead, HObj.row Md.rw ty126
  ((K.int IntKind.i64).pair ((K.int IntKind.i64).pair ((K.int IntKind.i64).pair (K.int IntKind.i64)))) x.snd.fst, HObj.row Md.rw ty2 (K.int IntKind.i64) x.snd.snd.fst] [HObj.mp
  Md.rw ((K.int IntKind.i64).pair (K.int IntKind.i64)) (K.int IntKind.i64) y.fst, HObj.box Md.rw ty122 [SV.val (Go.Value.int IntKind.i64 n), SV.osl (5 : Nat) (0 : Nat)
  x.snd.fst.length, SV.mref (0 : Nat), SV.junk, SV.osl (6 : Nat) (0 : Nat) x.snd.snd.fst.length, SV.junk, SV.junk], HObj.box Md.rw ty123 [SV.clo fn86 [LV.ref (1 : Nat) (0 : Nat)]
  [], SV.clo fn87 [LV.ref (1 : Nat) (0 : Nat)] []], HObj.dead, HObj.dead, HObj.row Md.rw ty126 ((K.int IntKind.i64).pair ((K.int IntKind.i64).pair ((K.int IntKind.i64).pair (K.int
  IntKind.i64)))) x.snd.fst, HObj.row Md.rw ty2 (K.int IntKind.i64) x.snd.snd.fst] ∧ ∃ (I : Int × List (List Int) × List Nat × List Nat × Unit → Unit → Prop), ∃ (μ : Int × List
  (List Int) × List Nat × List Nat × Unit → Unit → Nat), I ((0 : Int), [], [], [], ()) () ∧ ∀ (x_3 : Int × List (List Int) × List Nat × List Nat × Unit) (y_1 : Unit), I x_3 y_1 → Br
  (decide (x_3.fst < (↑x.snd.fst.length : Int))) (∃ (h : (0 : Int) ≤ x_3.fst ∧ x_3.fst < (↑x.snd.fst.length : Int)), ∃ (h : (4 : Int) ≠ (0 : Int)), ∃ (h : III n (x.snd.fst.getD ((0
  : Nat) + x_3.fst.toNat) kEdge.dflt).fst ((IntKind.i64.wrap ((x.snd.fst.getD ((0 : Nat) + x_3.fst.toNat) kEdge.dflt).snd.fst + (2 : Int))).tmod (4 : Int))), ∀ (a : Int × Int ×
  Unit), a = besideR n (x.snd.fst.getD ((0 : Nat) + x_3.fst.toNat) kEdge.dflt).fst ((IntKind.i64.wrap ((x.snd.fst.getD ((0 : Nat) + x_3.fst.toNat) kEdge.dflt).snd.fst + (2 :
  Int))).tmod (4 : Int)) → ∃ (h : (4 : Int) ≠ (0 : Int)), ∃ (h : III n (x.snd.fst.getD ((0 : Nat) + x_3.fst.toNat) kEdge.dflt).snd.snd.fst ((IntKind.i64.wrap ((x.snd.fst.getD ((0 :
  Nat) + x_3.fst.toNat) kEdge.dflt).snd.snd.snd + (2 : Int))).tmod (4 : Int))), ∀ (a_1 : Int × Int × Unit), a_1 = besideR n (x.snd.fst.getD ((0 : Nat) + x_3.fst.toNat)
  kEdge.dflt).snd.snd.fst ((IntKind.i64.wrap ((x.snd.fst.getD ((0 : Nat) + x_3.fst.toNat) kEdge.dflt).snd.snd.snd + (2 : Int))).tmod (4 : Int)) → ∃ (h : x_3.snd.fst.length =
  x_3.snd.fst.length ∧ (x_3.snd.fst.length + (1 : Nat)) * (16 : Nat) ≤ (140737488355328 : Nat)), ∃ (h : III n (x.snd.fst.getD ((0 : Nat) + x_3.fst.toNat) kEdge.dflt).fst
  (x.snd.fst.getD ((0 : Nat) + x_3.fst.toNat) kEdge.dflt).snd.fst), ∀ (a_2 : Nat × Unit), a_2 = lengthGR n (x.snd.fst.getD ((0 : Nat) + x_3.fst.toNat) kEdge.dflt).fst
  (x.snd.fst.getD ((0 : Nat) + x_3.fst.toNat) kEdge.dflt).snd.fst → ∃ (h : x_3.snd.snd.fst.length = x_3.snd.snd.fst.length ∧ (x_3.snd.snd.fst.length + (1 : Nat)) * (8 : Nat) ≤
  (140737488355328 : Nat)), ∃ (h : III n (x.snd.fst.getD ((0 : Nat) + x_3.fst.toNat) kEdge.dflt).fst (x.snd.fst.getD ((0 : Nat) + x_3.fst.toNat) kEdge.dflt).snd.fst), ∀ (a_3 : Nat ×
  Unit), a_3 = gapGR n (x.snd.fst.getD ((0 : Nat) + x_3.fst.toNat) kEdge.dflt).fst (x.snd.fst.getD ((0 : Nat) + x_3.fst.toNat) kEdge.dflt).snd.fst → ∃ (h :
  x_3.snd.snd.snd.fst.length = x_3.snd.snd.snd.fst.length ∧ (x_3.snd.snd.snd.fst.length + (1 : Nat)) * (8 : Nat) ≤ (140737488355328 : Nat)), ((0 : Nat) = (0 : Nat) ∧
  x_3.snd.fst.length + (1 : Nat) = (x_3.snd.fst ++ [[a.fst, a_1.fst]]).length) ∧ ((0 : Nat) = (0 : Nat) ∧ x_3.snd.snd.fst.length + (1 : Nat) = (x_3.snd.snd.fst ++ [a_2.fst]).length)
  ∧ ((0 : Nat) = (0 : Nat) ∧ x_3.snd.snd.snd.fst.length + (1 : Nat) = (x_3.snd.snd.snd.fst ++ [a_3.fst]).length) ∧ HIs [HObj.mp Md.rw ((K.int IntKind.i64).pair (K.int IntKind.i64))
  (K.int IntKind.i64) y.fst, HObj.box Md.rw ty122 [SV.val (Go.Value.int IntKind.i64 n), SV.osl (5 : Nat) (0 : Nat) x.snd.fst.length, SV.mref (0 : Nat), SV.junk, SV.osl (6 : Nat) (0
  : Nat) x.snd.snd.fst.length, SV.junk, SV.junk], HObj.box Md.rw ty123 [SV.clo fn86 [LV.ref (1 : Nat) (0 : Nat)] [], SV.clo fn87 [LV.ref (1 : Nat) (0 : Nat)] []], HObj.dead,
  HObj.dead, HObj.row Md.rw ty126 ((K.int IntKind.i64).pair ((K.int IntKind.i64).pair ((K.int IntKind.i64).pair (K.int IntKind.i64)))) x.snd.fst, HObj.row Md.rw ty2 (K.int
  IntKind.i64) x.snd.snd.fst] [HObj.mp Md.rw ((K.int IntKind.i64).pair (K.int IntKind.i64)) (K.int IntKind.i64) y.fst, HObj.box Md.rw ty122 [SV.val (Go.Value.int IntKind.i64 n),
  SV.osl (5 : Nat) (0 : Nat) x.snd.fst.length, SV.mref (0 : Nat), SV.junk, SV.osl (6 : Nat) (0 : Nat) x.snd.snd.fst.length, SV.junk, SV.junk], HObj.box Md.rw ty123 [SV.clo fn86
  [LV.ref (1 : Nat) (0 : Nat)] [], SV.clo fn87 [LV.ref (1 : Nat) (0 : Nat)] []], HObj.dead, HObj.dead, HObj.row Md.rw ty126 ((K.int IntKind.i64).pair ((K.int IntKind.i64).pair
  ((K.int IntKind.i64).pair (K.int IntKind.i64)))) x.snd.fst, HObj.row Md.rw ty2 (K.int IntKind.i64) x.snd.snd.fst] ∧ I (IntKind.i64.wrap (x_3.fst + (1 : Int)), x_3.snd.fst ++
  [[a.fst, a_1.fst]], x_3.snd.snd.fst ++ [a_2.fst], x_3.snd.snd.snd.fst ++ [a_3.fst], ()) () ∧ μ (IntKind.i64.wrap (x_3.fst + (1 : Int)), x_3.snd.fst ++ [[a.fst, a_1.fst]],
  x_3.snd.snd.fst ++ [a_2.fst], x_3.snd.snd.snd.fst ++ [a_3.fst], ()) () < μ x_3 y_1) (post (Option.some (n, List.take x.snd.fst.length (List.drop (0 : Nat) x.snd.fst), y.fst,
  List.take x_3.snd.fst.length (List.drop (0 : Nat) x_3.snd.fst), List.take x.snd.snd.fst.length (List.drop (0 : Nat) x.snd.snd.fst), List.take x_3.snd.snd.fst.length (List.drop (0
  : Nat) x_3.snd.snd.fst), List.take x_3.snd.snd.snd.fst.length (List.drop (0 : Nat) x_3.snd.snd.snd.fst)), (0 : Int), ())))))
theorem Lx_grid_New (ty0 ty1 ty2 ty3 ty4 ty5 : Nat) (n : Int) (h : I64 n) : Fx_grid_New ty0 ty1 ty2 ty3 ty4 ty5 n (fun r => r = newR n) := by
  have cr := cells_rng n
  obtain ⟨N, hN⟩ : ∃ N, (cellsI n).toNat = N := ⟨_, rfl⟩
  have hc : cellsI n = (N : Int) := by omega
  have hc' : (cellsR n).fst = (N : Int) := hc
  have hN1 : N ≤ 6144 := by omega
  have nk := fun k => netN_ok n k
  have i6 : ∀ {z : Int}, 0 ≤ z → z ≤ 6144 → I64 z := fun {z} a b => ⟨by omega, by omega⟩
  refine ⟨h, ?_⟩
  rw [hc']
  refine Br.intro (fun e => ?_) fun e => ?_
  · have e : (N : Int) = 0 := beq_iff_eq.1 e
    show _ = newR n
    unfold newR; rw [if_pos (by omega)]
  have e : ¬ (N : Int) = 0 := fun q => by rw [q] at e; cases e
  have hnew : newR n = (some (netG n), 0, ()) := by unfold newR; rw [if_neg (by omega)]
  refine ⟨⟨by decide, by decide⟩, rfl, fun x y => ∃ k : Nat, x.1 = k ∧ k ≤ N ∧ x.2.1 = (netN n k).1 ∧ x.2.2.1 = [] ∧ y.1 = (netN n k).2, fun x _ => N - x.1.toNat, ⟨0, rfl, by omega, rfl, rfl, rfl⟩, ?_⟩
  rintro ⟨_, _, _, ⟨⟩⟩ ⟨_, ⟨⟩⟩ ⟨k, rfl, hk, rfl, rfl, rfl⟩
  dsimp only
  refine Br.intro (fun e1 => ?_) fun e1 => ?_
  · have e1 : k < N := by have := of_decide_eq_true e1; omega
    refine ⟨⟨rfl, rfl⟩, rfl, fun x y => ∃ j : Nat, x.1 = j ∧ j ≤ 4 ∧ x.2.1 = (addN n k (netN n k) j).1 ∧ y.1 = (addN n k (netN n k) j).2, fun x _ => 4 - x.1.toNat, ⟨0, rfl, by omega, rfl, rfl⟩, ?_⟩
    rintro ⟨_, _, ⟨⟩⟩ ⟨_, ⟨⟩⟩ ⟨j, rfl, hj, rfl, rfl⟩
    dsimp only
    have hlen := (addN_ok (n := n) (c := k) (by omega) (by omega) (nk k (by omega)).1 j hj).2
    have hlk := (nk k (by omega)).2
    refine Br.intro (fun e2 => ?_) fun e2 => ?_
    · have e2 : j < 4 := by have e2 : (j : Int) < 4 := of_decide_eq_true e2; omega
      refine ⟨⟨h, i6 (by omega) (by omega), i6 (by omega) (by omega)⟩, ?_⟩
      rintro ⟨b, q, ⟨⟩⟩ hb
      have hb : (b, q, ()) = besideR n k j := hb
      have eb : b = (besideI n k j).1 := congrArg Prod.fst hb
      have eq : q = (besideI n k j).2 := congrArg (fun z => z.2.1) hb
      rw [wi_succ e2 (by omega)]
      refine Br.intro (fun g => ?_) fun g => ?_
      · have g : (k : Int) > b := of_decide_eq_true g
        have hst : addN n k (netN n k) (j + 1) = addN n k (netN n k) j := by
          show addE n k j (addN n k (netN n k) j) = _
          unfold addE; rw [if_pos (by omega)]
        exact ⟨⟨rfl, rfl⟩, rfl, ⟨j + 1, rfl, by omega, by rw [hst], by rw [hst]⟩, by omega⟩
      · have g : ¬ (k : Int) > b := of_decide_eq_false g
        have hst : addN n k (netN n k) (j + 1) = ((addN n k (netN n k) j).1 ++ [((k : Int), (j : Int), b, q)], mput (b, q) (addN n k (netN n k) j).1.length (mput ((k : Int), (j : Int)) (addN n k (netN n k) j).1.length (addN n k (netN n k) j).2)) := by
          show addE n k j (addN n k (netN n k) j) = _
          unfold addE; rw [if_neg (by omega), eb, eq]
        exact ⟨⟨rfl, by omega⟩, ⟨rfl, by rw [List.length_append]; rfl⟩, rfl, ⟨j + 1, rfl, by omega, by rw [hst], by rw [hst]⟩, by omega⟩
    · have e2 : j = 4 := by have e2 : ¬ (j : Int) < 4 := of_decide_eq_false e2; omega
      subst e2
      rw [wi_succ e1 (by omega)]
      exact ⟨⟨rfl, rfl⟩, ⟨rfl, rfl⟩, rfl, ⟨k + 1, rfl, by omega, rfl, rfl, rfl⟩, by omega⟩
  have e1 : k = N := by have := of_decide_eq_false e1; omega
  subst e1
  obtain ⟨eok, elen⟩ := nk k hN1
  have hE : netE n = netN n k := by unfold netE; rw [hN]
  generalize netN n k = E at *
  refine ⟨⟨by decide, by decide⟩, ⟨rfl, rfl⟩, ⟨rfl, rfl⟩, rfl, fun x y => ∃ m : Nat, x.1 = m ∧ m ≤ k ∧ x.2.1 = E.1 ∧ x.2.2.1 = ((List.range m).map fun q : Nat => areaI n (q : Int)) ∧ y.1 = E.2, fun x _ => k - x.1.toNat, ⟨0, rfl, by omega, rfl, rfl, rfl⟩, ?_⟩
  rintro ⟨_, _, _, ⟨⟩⟩ ⟨_, ⟨⟩⟩ ⟨m, rfl, hm, rfl, rfl, rfl⟩
  dsimp only
  have hml : ((List.range m).map fun q : Nat => areaI n (q : Int)).length = m := by rw [List.length_map, List.length_range]
  refine Br.intro (fun e1 => ?_) fun e1 => ?_
  · have e1 : m < k := by have := of_decide_eq_true e1; omega
    rw [wi_succ e1 (by omega)]
    exact ⟨⟨h, i6 (by omega) (by omega)⟩, ⟨rfl, by rw [hml]; omega⟩, ⟨rfl, rfl⟩, ⟨rfl, by rw [List.length_append]; rfl⟩, rfl, ⟨m + 1, rfl, by omega, rfl, (range_map_succ (fun q : Nat => areaI n (q : Int)) m).symm, rfl⟩, by omega⟩
  have e1 : m = k := by have := of_decide_eq_false e1; omega
  subst e1
  refine ⟨rfl, fun x _ => ∃ q : Nat, x.1 = q ∧ q ≤ E.1.length ∧ x.2.1 = (E.1.take q).map (behindE n) ∧ x.2.2.1 = (E.1.take q).map (fun e => lengthG n e.1 e.2.1) ∧ x.2.2.2.1 = (E.1.take q).map (fun e => gapG n e.1 e.2.1), fun x _ => E.1.length - x.1.toNat, ⟨0, rfl, by omega, rfl, rfl, rfl⟩, ?_⟩
  rintro ⟨_, _, _, _, ⟨⟩⟩ _ ⟨q, rfl, hq, rfl, rfl, rfl⟩
  dsimp only
  have hl : ∀ {α : Type} (f : Ed → α), ((E.1.take q).map f).length = q := fun {α} f => by rw [List.length_map, List.length_take]; omega
  refine Br.intro (fun e1 => ?_) fun e1 => ?_
  · have e1 : q < E.1.length := by have := of_decide_eq_true e1; omega
    rw [Int.toNat_natCast, Nat.zero_add, wi_succ e1 (by omega)]
    obtain ⟨d, hd⟩ : ∃ d, E.1.getD q kEdge.dflt = d := ⟨_, rfl⟩
    have dm : d ∈ E.1 := by rw [← hd]; exact getD_mem e1 _
    have ts : E.1.take (q + 1) = E.1.take q ++ [d] := by rw [take_step e1 kEdge.dflt, hd]
    rw [hd]
    obtain ⟨d1, d2, d3, d4, d5, d6, d7, d8⟩ := eok d dm
    have w1 : IntKind.i64.wrap (d.2.1 + 2) = d.2.1 + 2 := wi ⟨by omega, by omega⟩
    have w2 : IntKind.i64.wrap (d.2.2.2 + 2) = d.2.2.2 + 2 := wi ⟨by omega, by omega⟩
    rw [w1, w2]
    have t1 : I64 (Int.tmod (d.2.1 + 2) 4) := by rw [Int.tmod_eq_emod_of_nonneg (by omega)]; exact i6 (by omega) (by omega)
    have t2 : I64 (Int.tmod (d.2.2.2 + 2) 4) := by rw [Int.tmod_eq_emod_of_nonneg (by omega)]; exact i6 (by omega) (by omega)
    refine ⟨⟨by omega, by omega⟩, by decide, ⟨h, i6 d1 (by omega), t1⟩, ?_⟩
    rintro ⟨a1, a2, ⟨⟩⟩ ha
    have ea : a1 = (besideI n d.1 (Int.tmod (d.2.1 + 2) 4)).1 := congrArg Prod.fst ha
    refine ⟨by decide, ⟨h, i6 d5 (by omega), t2⟩, ?_⟩
    rintro ⟨b1, b2, ⟨⟩⟩ hb
    have eb : b1 = (besideI n d.2.2.1 (Int.tmod (d.2.2.2 + 2) 4)).1 := congrArg Prod.fst hb
    refine ⟨⟨rfl, by rw [hl]; omega⟩, ⟨h, i6 d1 (by omega), i6 d3 (by omega)⟩, ?_⟩
    rintro ⟨l1, ⟨⟩⟩ hl1
    have el : l1 = lengthG n d.1 d.2.1 := congrArg Prod.fst hl1
    refine ⟨⟨rfl, by rw [hl]; omega⟩, ⟨h, i6 d1 (by omega), i6 d3 (by omega)⟩, ?_⟩
    rintro ⟨g1, ⟨⟩⟩ hg1
    have eg : g1 = gapG n d.1 d.2.1 := congrArg Prod.fst hg1
    refine ⟨⟨rfl, by rw [hl]; omega⟩, ⟨rfl, by rw [List.length_append]; rfl⟩, ⟨rfl, by rw [List.length_append]; rfl⟩, ⟨rfl, by rw [List.length_append]; rfl⟩, rfl, ⟨q + 1, rfl, by omega, ?_, ?_, ?_⟩, by omega⟩
    · rw [ts, List.map_append]; dsimp only; rw [ea, eb]; rfl
    · rw [ts, List.map_append]; dsimp only; rw [el]; rfl
    · rw [ts, List.map_append]; dsimp only; rw [eg]; rfl
  · have e1 : q = E.1.length := by have := of_decide_eq_false e1; omega
    subst e1
    show _ = newR n
    rw [hnew]
    unfold netG areasL
    rw [hE, hN, List.take_length]
    simp only [List.drop_zero, List.take_length]
end Go.Lift

set_option linter.unusedVariables false
set_option linter.unusedSimpArgs false
namespace Go.Lift
def Fx_cube_good := fun (a : Int) (post : Bool × Unit → Prop) => ∀ (a_1 : Bool), a_1 = decide (a ≥ (1 : Int)) → Br a_1 (∀ (a_2 : Bool), a_2 = decide (a ≤ (32 : Int)) → post (a_2,
  ())) (post (Bool.false, ()))
theorem Lx_cube_good (a : Int) : Fx_cube_good  a (fun r => r = goodCR a) := by
  rintro _ rfl
  refine Br.intro (fun e => ?_) fun e => ?_
  · rintro _ rfl
    refine congrArg r1 ?_
    show _ = goodC a
    unfold goodC
    rw [show decide ((1 : Int) ≤ a) = true from e, Bool.true_and]
  · refine congrArg r1 ?_
    show _ = goodC a
    unfold goodC
    rw [show decide ((1 : Int) ≤ a) = false from e, Bool.false_and]
def Fx_cube_Cells := fun (a : Int) (post : Int × Unit → Prop) => ∃ (h : True), ∀ (a_1 : Bool), a_1 = (goodCR a).fst → Br (!a_1) (post ((0 : Int), ())) (post (IntKind.i64.wrap
  (IntKind.i64.wrap ((6 : Int) * a) * a), ()))
theorem Lx_cube_Cells (a : Int) (h : I64 a) : Fx_cube_Cells  a (fun r => r = cellsR a) := by
  refine ⟨trivial, ?_⟩
  rintro _ rfl
  refine Br.intro (fun e => ?_) fun e => ?_
  · have e : (!goodC a) = true := e
    exact congrArg r1 (cells_bad (by simpa using e)).symm
  · have e : (!goodC a) = false := e
    exact congrArg r1 (cells_wrap (by simpa using e))
def Fx_cube_Place := fun (n c : Int) (post : Int × Int × Int × Bool × Unit → Prop) => ∀ (a : Bool), a = decide (c < (0 : Int)) → Br a (post ((0 : Int), (0 : Int), (0 : Int),
  Bool.false, ())) (∃ (h : I64 n), ∀ (a : Bool), a = decide (c ≥ (cellsR n).fst) → Br a (post ((0 : Int), (0 : Int), (0 : Int), Bool.false, ())) (∃ (h : IntKind.i64.wrap (n * n) ≠
  (0 : Int)), ∃ (h : n ≠ (0 : Int)), ∃ (h : n ≠ (0 : Int)), ∃ (h : n ≠ (0 : Int)), post (IntKind.i64.wrap (c.tdiv (IntKind.i64.wrap (n * n))), c.tmod n, (IntKind.i64.wrap (c.tdiv
  n)).tmod n, Bool.true, ())))
theorem Lx_cube_Place (n : Int) (c : Int) (h : II n c) : Fx_cube_Place  n c (fun r => r = placeR4 n c) := by
  have bad : placeOk n c = false → ((0 : Int), (0 : Int), (0 : Int), false, ()) = placeR4 n c := by
    intro e; unfold placeR4; rw [if_neg (by rw [e]; decide)]
  rintro _ rfl
  refine Br.intro (fun e => ?_) fun e => ?_
  · have e := of_decide_eq_true e
    exact bad (by unfold placeOk; rw [decide_eq_false (by omega), Bool.false_and])
  · have e := of_decide_eq_false e
    refine ⟨h.1, ?_⟩
    rintro _ rfl
    refine Br.intro (fun f => ?_) fun f => ?_
    · have f : cellsI n ≤ c := of_decide_eq_true f
      exact bad (by unfold placeOk; rw [decide_eq_false (p := c < cellsI n) (by omega), Bool.and_false])
    · have f : ¬ c ≥ cellsI n := of_decide_eq_false f
      have ok : placeOk n c = true := by unfold placeOk; rw [decide_eq_true (by omega), decide_eq_true (by omega)]; rfl
      obtain ⟨h1, h2, h3, h4, h5, h6⟩ := place_facts ok
      obtain ⟨r1, r2, r3, r4, r5, r6⟩ := place_rng ok
      have w1 : IntKind.i64.wrap (n * n) = n * n := wi ⟨by omega, by omega⟩
      have d1 : c.tdiv (n * n) = c / (n * n) := Int.tdiv_eq_ediv_of_nonneg h3
      have d2 : c.tdiv n = c / n := Int.tdiv_eq_ediv_of_nonneg h3
      have d3 : 0 ≤ c / n ∧ c / n ≤ c := ⟨Int.ediv_nonneg h3 (by omega), Int.ediv_le_self _ h3⟩
      have w2 : IntKind.i64.wrap (c / n) = c / n := wi ⟨by omega, by have := h.2; unfold I64 at this; omega⟩
      have w3 : IntKind.i64.wrap (c / (n * n)) = c / (n * n) := wi ⟨by omega, by omega⟩
      refine ⟨by rw [w1]; omega, by omega, by omega, by omega, ?_⟩
      rw [w1, d1, w3, d2, w2, Int.tmod_eq_emod_of_nonneg h3, Int.tmod_eq_emod_of_nonneg d3.1]
      unfold placeR4; rw [if_pos ok]
end Go.Lift

set_option linter.unusedVariables false
set_option linter.unusedSimpArgs false
namespace Go.Lift
open Go.Proofs
def Nx_cube_good : Cx := ⟨tabOf Ntab, conOf [], NG⟩
theorem Nx_cube_good_ok : CxOk Tryz.prog Nx_cube_good := ⟨tabB_sound Ntab_ok, fun f c h => by cases h⟩
theorem Nat_cube_good : FnAt Tryz.prog 97 Tryz.f97.ntmps Tryz.f97.results.toList (Tryz.f97.body.getD .skip) := ⟨Tryz.f97, Tryz.func97, rfl, rfl, by simp, by decide⟩
theorem Neq_cube_good (a : Int) (post : Bool × Unit → Prop) : fnEval Nx_cube_good nHn Tryz.f97.ntmps Tryz.f97.results.toList (Tryz.f97.body.getD .skip) [.int .i64] [.snap .bool] (a, ()) post = Fx_cube_good  a post := by kernel_rfl
theorem Nh_cube_good : Nq_cube_good.holds Tryz.prog NG 97 :=
  detP Nx_cube_good_ok Nmixed nHn Nat_cube_good (F := fun x post => Fx_cube_good  x.1 post) (fun x post => Neq_cube_good x.1 post) fun x _ _ => Lx_cube_good  x.1
def Nx_cube_Cells : Cx := ⟨tabOf Ntab, conOf [(97, Nq_cube_good)], NG⟩
theorem Nx_cube_Cells_ok : CxOk Tryz.prog Nx_cube_Cells := ⟨tabB_sound Ntab_ok, conOf_sound ⟨Nh_cube_good, trivial⟩⟩
theorem Nat_cube_Cells : FnAt Tryz.prog 58 Tryz.f58.ntmps Tryz.f58.results.toList (Tryz.f58.body.getD .skip) := ⟨Tryz.f58, Tryz.func58, rfl, rfl, by simp, by decide⟩
theorem Neq_cube_Cells (a : Int) (post : Int × Unit → Prop) : fnEval Nx_cube_Cells nHn Tryz.f58.ntmps Tryz.f58.results.toList (Tryz.f58.body.getD .skip) [.int .i64] [.snap (.int .i64)] (a, ()) post = Fx_cube_Cells  a post := by kernel_rfl
theorem Nh_cube_Cells : Nq_cube_Cells.holds Tryz.prog NG 58 :=
  detP Nx_cube_Cells_ok Nmixed nHn Nat_cube_Cells (F := fun x post => Fx_cube_Cells  x.1 post) (fun x post => Neq_cube_Cells x.1 post) fun x h _ => Lx_cube_Cells  x.1 h
def Nx_cube_Place : Cx := ⟨tabOf Ntab, conOf [(58, Nq_cube_Cells)], NG⟩
theorem Nx_cube_Place_ok : CxOk Tryz.prog Nx_cube_Place := ⟨tabB_sound Ntab_ok, conOf_sound ⟨Nh_cube_Cells, trivial⟩⟩
theorem Nat_cube_Place : FnAt Tryz.prog 103 Tryz.f103.ntmps Tryz.f103.results.toList (Tryz.f103.body.getD .skip) := ⟨Tryz.f103, Tryz.func103, rfl, rfl, by simp, by decide⟩
theorem Neq_cube_Place (n : Int) (c : Int) (post : Int × Int × Int × Bool × Unit → Prop) : fnEval Nx_cube_Place nHn Tryz.f103.ntmps Tryz.f103.results.toList (Tryz.f103.body.getD .skip) [.int .i64, .int .i64] [.snap (.int .i64), .snap (.int .i64), .snap (.int .i64), .snap .bool] (n, c, ()) post = Fx_cube_Place  n c post := by kernel_rfl
theorem Nh_cube_Place : Nq_cube_Place.holds Tryz.prog NG 103 :=
  detP Nx_cube_Place_ok Nmixed nHn Nat_cube_Place (F := fun x post => Fx_cube_Place  x.1 x.2.1 post) (fun x post => Neq_cube_Place x.1 x.2.1 post) fun x h _ => Lx_cube_Place  x.1 x.2.1 h
end Go.Lift

set_option linter.unusedVariables false
set_option linter.unusedSimpArgs false
namespace Go.Lift
def Fx_cube_Beside := fun (ty139 ty156 ty154 : Nat) (n c o : Int) (post : Int × Int × Unit → Prop) => ∃ (h : II n c), Br (!(placeR4 n c).snd.snd.snd.fst) (post ((-1 : Int), (0 :
  Int), ())) (∀ (a : Bool), a = decide (o < (0 : Int)) → Br a (post ((-1 : Int), (0 : Int), ())) (∀ (a : Bool), a = decide (o ≥ (4 : Int)) → Br a (post ((-1 : Int), (0 : Int), ()))
  (∃ (h : (List.replicate (4 : Nat) (K.arr (2 : Nat) (K.int IntKind.i64)).dflt).length = (4 : Nat) ∧ (4 : Nat) = (4 : Nat)), ∃ (h : (0 : Int) ≤ o ∧ o < (↑(4 : Nat) : Int) ∧ (4 :
  Nat) ≤ (4 : Nat)), ∃ (h : (0 : Int) ≤ (0 : Int) ∧ (0 : Int) < (↑(2 : Nat) : Int)), ∃ (h : (0 : Int) ≤ o ∧ o < (↑(4 : Nat) : Int) ∧ (4 : Nat) ≤ (4 : Nat)), ∃ (h : (0 : Int) ≤ (1 :
  Int) ∧ (1 : Int) < (↑(2 : Nat) : Int)), ∃ (h : IIII n (placeR4 n c).fst (IntKind.i64.wrap ((placeR4 n c).snd.fst + List.getD ([[(1 : Int), (0 : Int)], [(0 : Int), (1 : Int)], [(-1
  : Int), (0 : Int)], [(0 : Int), (-1 : Int)]].getD o.toNat (K.arr (2 : Nat) (K.int IntKind.i64)).dflt) (0 : Nat) (0 : Int))) (IntKind.i64.wrap ((placeR4 n c).snd.snd.fst +
  List.getD ([[(1 : Int), (0 : Int)], [(0 : Int), (1 : Int)], [(-1 : Int), (0 : Int)], [(0 : Int), (-1 : Int)]].getD o.toNat (K.arr (2 : Nat) (K.int IntKind.i64)).dflt) ((nat_lit 0
  + (1 : Nat)) / (K.int IntKind.i64).sz) (0 : Int)))), ∀ (a : Int × Unit), a = cellR n (placeR4 n c).fst (IntKind.i64.wrap ((placeR4 n c).snd.fst + List.getD ([[(1 : Int), (0 :
  Int)], [(0 : Int), (1 : Int)], [(-1 : Int), (0 : Int)], [(0 : Int), (-1 : Int)]].getD o.toNat (K.arr (2 : Nat) (K.int IntKind.i64)).dflt) (0 : Nat) (0 : Int))) (IntKind.i64.wrap
  ((placeR4 n c).snd.snd.fst + List.getD ([[(1 : Int), (0 : Int)], [(0 : Int), (1 : Int)], [(-1 : Int), (0 : Int)], [(0 : Int), (-1 : Int)]].getD o.toNat (K.arr (2 : Nat) (K.int
  IntKind.i64)).dflt) ((nat_lit 0 + (1 : Nat)) / (K.int IntKind.i64).sz) (0 : Int))) → ∀ (a_1 : Bool), a_1 = decide (a.fst ≥ (0 : Int)) → Br a_1 (∃ (h : (4 : Int) ≠ (0 : Int)), post
  (a.fst, (IntKind.i64.wrap (o + (2 : Int))).tmod (4 : Int), ())) (∃ (h : (0 : Int) ≤ (placeR4 n c).fst ∧ (placeR4 n c).fst < (↑(6 : Nat) : Int)), ∃ (h : WOut (framesL.getD (placeR4
  n c).fst.toNat (K.arr (3 : Nat) (K.arr (3 : Nat) (K.int IntKind.i64))).dflt) o), ∀ (a : List Int × Unit), a = outR (framesL.getD (placeR4 n c).fst.toNat (K.arr (3 : Nat) (K.arr (3
  : Nat) (K.int IntKind.i64))).dflt) o → ∃ (h : True), ∀ (a_2 : Int × Unit), a_2 = faceAtR a.fst → ∃ (h : (0 : Int) ≤ a_2.fst ∧ a_2.fst < (↑(6 : Nat) : Int)), ∃ (h : (List.replicate
  (3 : Nat) (K.arr (3 : Nat) (K.int IntKind.i64)).dflt).length = (3 : Nat) ∧ List.length (framesL.getD a_2.fst.toNat (K.arr (3 : Nat) (K.arr (3 : Nat) (K.int IntKind.i64))).dflt) =
  (3 : Nat)), ∃ (h : WMiddle n (placeR4 n c).fst (placeR4 n c).snd.fst (placeR4 n c).snd.snd.fst), ∀ (a : List Int × Unit), a = middleR' n (placeR4 n c).fst (placeR4 n c).snd.fst
  (placeR4 n c).snd.snd.fst → ∃ (h : (0 : Int) ≤ (placeR4 n c).fst ∧ (placeR4 n c).fst < (↑(6 : Nat) : Int)), ∃ (h : WOut (framesL.getD (placeR4 n c).fst.toNat (K.arr (3 : Nat)
  (K.arr (3 : Nat) (K.int IntKind.i64))).dflt) o), ∀ (a_3 : List Int × Unit), a_3 = outR (framesL.getD (placeR4 n c).fst.toNat (K.arr (3 : Nat) (K.arr (3 : Nat) (K.int
  IntKind.i64))).dflt) o → ∃ (h : WPlus a.fst a_3.fst), ∀ (a_4 : List Int × Unit), a_4 = plusR a.fst a_3.fst → ∃ (h : (List.replicate (3 : Nat) (0 : Int)).length = (3 : Nat) ∧
  a_4.fst.length = (3 : Nat)), ∃ (h : a_4.fst.length = (3 : Nat)), ∃ (h : (0 : Int) ≤ (1 : Int) ∧ (1 : Int) < (↑(3 : Nat) : Int) ∧ (3 : Nat) ≤ List.length (framesL.getD
  a_2.fst.toNat (K.arr (3 : Nat) (K.arr (3 : Nat) (K.int IntKind.i64))).dflt)), ∃ (h : WDot a_4.fst (List.getD (framesL.getD a_2.fst.toNat (K.arr (3 : Nat) (K.arr (3 : Nat) (K.int
  IntKind.i64))).dflt) (Int.toNat (1 : Int)) (K.arr (3 : Nat) (K.int IntKind.i64)).dflt)), ∀ (a : Int × Unit), a = dotR a_4.fst (List.getD (framesL.getD a_2.fst.toNat (K.arr (3 :
  Nat) (K.arr (3 : Nat) (K.int IntKind.i64))).dflt) (Int.toNat (1 : Int)) (K.arr (3 : Nat) (K.int IntKind.i64)).dflt) → ∃ (h : WIndex n a.fst), ∀ (a_5 : Int × Unit), a_5 = indexR n
  a.fst → ∃ (h : a_4.fst.length = (3 : Nat)), ∃ (h : (0 : Int) ≤ (2 : Int) ∧ (2 : Int) < (↑(3 : Nat) : Int) ∧ (3 : Nat) ≤ List.length (framesL.getD a_2.fst.toNat (K.arr (3 : Nat)
  (K.arr (3 : Nat) (K.int IntKind.i64))).dflt)), ∃ (h : WDot a_4.fst (List.getD (framesL.getD a_2.fst.toNat (K.arr (3 : Nat) (K.arr (3 : Nat) (K.int IntKind.i64))).dflt) (Int.toNat
  (2 : Int)) (K.arr (3 : Nat) (K.int IntKind.i64)).dflt)), ∀ (a : Int × Unit), a = dotR a_4.fst (List.getD (framesL.getD a_2.fst.toNat (K.arr (3 : Nat) (K.arr (3 : Nat) (K.int
  IntKind.i64))).dflt) (Int.toNat (2 : Int)) (K.arr (3 : Nat) (K.int IntKind.i64)).dflt) → ∃ (h : WIndex n a.fst), ∀ (a_6 : Int × Unit), a_6 = indexR n a.fst → ∃ (h : IIII n a_2.fst
  a_5.fst a_6.fst), ∀ (a : Int × Unit), a = cellR n a_2.fst a_5.fst a_6.fst → HIs [HObj.row Md.rw ty139 (K.arr (2 : Nat) (K.int IntKind.i64)) [[(1 : Int), (0 : Int)], [(0 : Int), (1
  : Int)], [(-1 : Int), (0 : Int)], [(0 : Int), (-1 : Int)]], HObj.row Md.rw ty156 (K.arr (3 : Nat) (K.int IntKind.i64)) (framesL.getD a_2.fst.toNat (K.arr (3 : Nat) (K.arr (3 :
  Nat) (K.int IntKind.i64))).dflt), HObj.row Md.rw ty154 (K.int IntKind.i64) a_4.fst] [HObj.row Md.rw ty139 (K.arr (2 : Nat) (K.int IntKind.i64)) [[(1 : Int), (0 : Int)], [(0 :
  Int), (1 : Int)], [(-1 : Int), (0 : Int)], [(0 : Int), (-1 : Int)]], HObj.row Md.rw ty156 (K.arr (3 : Nat) (K.int IntKind.i64)) (framesL.getD a_2.fst.toNat (K.arr (3 : Nat) (K.arr
  (3 : Nat) (K.int IntKind.i64))).dflt), HObj.row Md.rw ty154 (K.int IntKind.i64) a_4.fst] ∧ ∃ (I : Int × Unit → Unit → Prop), ∃ (μ : Int × Unit → Unit → Nat), I ((0 : Int), ()) ()
  ∧ ∀ (x : Int × Unit) (y : Unit), I x y → ∀ (a_7 : Bool), a_7 = decide (x.fst < (4 : Int)) → Br a_7 (∃ (h : List.length (framesL.getD a_2.fst.toNat (K.arr (3 : Nat) (K.arr (3 :
  Nat) (K.int IntKind.i64))).dflt) = (3 : Nat)), ∃ (h : WOut (framesL.getD a_2.fst.toNat (K.arr (3 : Nat) (K.arr (3 : Nat) (K.int IntKind.i64))).dflt) x.fst), ∀ (a_8 : List Int ×
  Unit), a_8 = outR (framesL.getD a_2.fst.toNat (K.arr (3 : Nat) (K.arr (3 : Nat) (K.int IntKind.i64))).dflt) x.fst → ∃ (h : (0 : Int) ≤ (placeR4 n c).fst ∧ (placeR4 n c).fst < (↑(6
  : Nat) : Int)), ∃ (h : (0 : Int) ≤ (0 : Int) ∧ (0 : Int) < (↑(3 : Nat) : Int)), ∀ (a_9 : Bool), a_9 = eqL a_8.fst (List.getD (framesL.getD (placeR4 n c).fst.toNat (K.arr (3 : Nat)
  (K.arr (3 : Nat) (K.int IntKind.i64))).dflt) (Int.toNat (0 : Int)) (K.arr (3 : Nat) (K.int IntKind.i64)).dflt) → Br a_9 (post (a.fst, x.fst, ())) (HIs [HObj.row Md.rw (139 : Nat)
  (K.arr (2 : Nat) (K.int IntKind.i64)) [[(1 : Int), (0 : Int)], [(0 : Int), (1 : Int)], [(-1 : Int), (0 : Int)], [(0 : Int), (-1 : Int)]], HObj.row Md.rw (156 : Nat) (K.arr (3 :
  Nat) (K.int IntKind.i64)) (framesL.getD a_2.fst.toNat (K.arr (3 : Nat) (K.arr (3 : Nat) (K.int IntKind.i64))).dflt), HObj.row Md.rw (154 : Nat) (K.int IntKind.i64) a_4.fst]
  [HObj.row Md.rw (139 : Nat) (K.arr (2 : Nat) (K.int IntKind.i64)) [[(1 : Int), (0 : Int)], [(0 : Int), (1 : Int)], [(-1 : Int), (0 : Int)], [(0 : Int), (-1 : Int)]], HObj.row
  Md.rw (156 : Nat) (K.arr (3 : Nat) (K.int IntKind.i64)) (framesL.getD a_2.fst.toNat (K.arr (3 : Nat) (K.arr (3 : Nat) (K.int IntKind.i64))).dflt), HObj.row Md.rw (154 : Nat)
  (K.int IntKind.i64) a_4.fst] ∧ I (IntKind.i64.wrap (x.fst + (1 : Int)), ()) () ∧ μ (IntKind.i64.wrap (x.fst + (1 : Int)), ()) () < μ x y)) (post ((-1 : Int), (0 : Int), ()))))))
theorem Lx_cube_Beside (ty0 ty1 ty2 : Nat) (n : Int) (c : Int) (o : Int) (h : III n c o) : Fx_cube_Beside ty0 ty1 ty2 n c o (fun r => r = besideR n c o) := by
  refine ⟨⟨h.1, h.2.1⟩, ?_⟩
  have no : besideOk n c o = false → ((-1 : Int), (0 : Int), ()) = besideR n c o := by
    intro q
    have : besideI n c o = (-1, 0) := by unfold besideI; rw [if_neg (by rw [q]; decide)]
    unfold besideR; rw [this]
  by_cases ok : placeOk n c = true
  · rw [place_eq ok]
    have hm := place_mid ok
    have hh := hm
    obtain ⟨n1, n2, f0, f5, i0, i1, j0, j1⟩ := hh
    dsimp only
    refine Br.intro (fun e => absurd e (by decide)) fun _ => ?_
    rintro _ rfl
    refine Br.intro (fun e => no ?_) fun e => ?_
    · have e := of_decide_eq_true e
      unfold besideOk; rw [decide_eq_false (p := 0 ≤ o) (by omega)]; simp
    have o0 := of_decide_eq_false e
    rintro _ rfl
    refine Br.intro (fun e => no ?_) fun e => ?_
    · have e := of_decide_eq_true e
      unfold besideOk; rw [decide_eq_false (p := o < 4) (by omega)]; simp
    have o4 := of_decide_eq_false e
    have o0 : 0 ≤ o := by omega
    have o4 : o < 4 := by omega
    have okb : besideOk n c o = true := by unfold besideOk; rw [ok, decide_eq_true o0, decide_eq_true o4]; rfl
    have d := dxy (o := o)
    obtain ⟨F, hF⟩ : ∃ F, c / (n * n) = F := ⟨_, rfl⟩
    obtain ⟨i, hi0⟩ : ∃ i, c % n = i := ⟨_, rfl⟩
    obtain ⟨j, hj0⟩ : ∃ j, c / n % n = j := ⟨_, rfl⟩
    have hb : besideI n c o = if 0 ≤ cellI n F (i + dxI o) (j + dyI o) then (cellI n F (i + dxI o) (j + dyI o), Int.tmod (o + 2) 4) else overI n F i j o := by
      unfold besideI; rw [if_pos okb, hF, hi0, hj0]
    rw [hF, hi0, hj0]
    rw [hF] at hm f0 f5
    rw [hi0] at hm i0 i1
    rw [hj0] at hm j0 j1
    have w1 : IntKind.i64.wrap (i + dxI o) = i + dxI o := wi ⟨by omega, by omega⟩
    have w2 : IntKind.i64.wrap (j + dyI o) = j + dyI o := wi ⟨by omega, by omega⟩
    have i6 : ∀ {z : Int}, -1 ≤ z → z ≤ 6144 → I64 z := fun {z} a b => ⟨by omega, by omega⟩
    have fb := frame_bd f0 f5
    have wo : ∀ q, WOut (frameL F) q := fun q => ⟨(fb 1).mono (by decide), (fb 2).mono (by decide)⟩
    refine ⟨⟨rfl, rfl⟩, ⟨o0, o4, Nat.le_refl _⟩, ⟨by decide, by decide⟩, ⟨o0, o4, Nat.le_refl _⟩, ⟨by decide, by decide⟩, ⟨h.1, i6 (by omega) (by omega), i64_wrap _, i64_wrap _⟩, ?_⟩
    intro a ha
    have ha : a = cellR n F (IntKind.i64.wrap (i + dxI o)) (IntKind.i64.wrap (j + dyI o)) := ha.trans (by rw [← dx_get o0 o4, ← dy_get o0 o4]; rfl)
    rw [w1, w2] at ha
    obtain ⟨a, ⟨⟩⟩ := a
    have ha : a = cellI n F (i + dxI o) (j + dyI o) := congrArg Prod.fst ha
    rw [← ha] at hb
    rintro _ rfl
    refine Br.intro (fun e => ?_) fun e => ?_
    · have e : a ≥ 0 := of_decide_eq_true e
      rw [if_pos e] at hb
      refine ⟨by decide, ?_⟩
      have : IntKind.i64.wrap (o + 2) = o + 2 := wi ⟨by omega, by omega⟩
      rw [this]
      unfold besideR; rw [hb]
    have e : ¬ 0 ≤ a := of_decide_eq_false e
    rw [if_neg e] at hb
    refine ⟨⟨f0, by show F < 6; omega⟩, wo o, ?_⟩
    rintro ⟨v1, ⟨⟩⟩ hv1
    have e1 : v1 = outF (frameL F) o := congrArg Prod.fst hv1
    refine ⟨trivial, ?_⟩
    rintro ⟨t, ⟨⟩⟩ ht
    have et : t = faceAtI (outF (frameL F) o) := by rw [← e1]; exact congrArg Prod.fst ht
    obtain ⟨t0, t5⟩ := face_at f0 f5 o0 o4
    rw [← et] at t0 t5
    have fl := frame_len t0 t5
    have tb := frame_bd t0 t5
    refine ⟨⟨t0, by show t < 6; omega⟩, ⟨rfl, fl⟩, hm, ?_⟩
    rintro ⟨p, ⟨⟩⟩ hp
    have ep : p = middleI n F i j := congrArg Prod.fst hp
    have pb : Bd 96 p := by rw [ep]; exact middle_bd hm
    refine ⟨⟨f0, by show F < 6; omega⟩, wo o, ?_⟩
    rintro ⟨v2, ⟨⟩⟩ hv2
    have e2 : v2 = outF (frameL F) o := congrArg Prod.fst hv2
    have vb : Bd 1 v2 := by rw [e2]; exact out_bd f0 f5 o
    refine ⟨⟨pb.mono (by decide), vb.mono (by decide)⟩, ?_⟩
    rintro ⟨q, ⟨⟩⟩ hq
    have eq : q = plusW p v2 := congrArg Prod.fst hq
    have ql : q.length = 3 := by rw [eq]; rfl
    have qb : Bd 97 q := by rw [eq]; exact plus_bd pb vb
    refine ⟨⟨rfl, ql⟩, ql, ⟨by decide, by decide, Nat.le_of_eq fl.symm⟩, ⟨qb.mono (by decide), (tb 1).mono (by decide)⟩, ?_⟩
    rintro ⟨d1, ⟨⟩⟩ hd1
    have ed1 : d1 = dotW q (wayAt (frameL t) 1) := congrArg Prod.fst hd1
    have db1 := dot_bd qb (tb 1)
    rw [← ed1] at db1
    refine ⟨⟨n1, n2, by omega, by omega⟩, ?_⟩
    rintro ⟨x1, ⟨⟩⟩ hx1
    have ex1 : x1 = indexI n d1 := congrArg Prod.fst hx1
    have xb1 := index_rng (a := d1) n1
    rw [← ex1] at xb1
    refine ⟨ql, ⟨by decide, by decide, Nat.le_of_eq fl.symm⟩, ⟨qb.mono (by decide), (tb 2).mono (by decide)⟩, ?_⟩
    rintro ⟨d2, ⟨⟩⟩ hd2
    have ed2 : d2 = dotW q (wayAt (frameL t) 2) := congrArg Prod.fst hd2
    have db2 := dot_bd qb (tb 2)
    rw [← ed2] at db2
    refine ⟨⟨n1, n2, by omega, by omega⟩, ?_⟩
    rintro ⟨x2, ⟨⟩⟩ hx2
    have ex2 : x2 = indexI n d2 := congrArg Prod.fst hx2
    have xb2 := index_rng (a := d2) n1
    rw [← ex2] at xb2
    refine ⟨⟨h.1, i6 (by omega) (by omega), i6 (by omega) (by omega), i6 (by omega) (by omega)⟩, ?_⟩
    rintro ⟨cc, ⟨⟩⟩ hcc
    have ecc : cc = cellI n t x1 x2 := congrArg Prod.fst hcc
    have hov : besideI n c o = backN (frameL t) (wayAt (frameL F) 0) cc 4 0 := by
      rw [hb, ecc, ex1, ex2, ed1, ed2, eq, ep, e2, et]; rfl
    refine ⟨rfl, fun x _ => ∃ k : Nat, x.1 = k ∧ k ≤ 4 ∧ besideI n c o = backN (frameL t) (wayAt (frameL F) 0) cc (4 - k) k, fun x _ => 4 - x.1.toNat, ⟨0, rfl, by omega, hov⟩, ?_⟩
    rintro ⟨_, ⟨⟩⟩ _ ⟨k, rfl, hk, hi⟩
    dsimp only
    rintro _ rfl
    refine Br.intro (fun g => ?_) fun g => ?_
    · have g : k < 4 := by have g : (k : Int) < 4 := of_decide_eq_true g; omega
      refine ⟨fl, ⟨(tb 1).mono (by decide), (tb 2).mono (by decide)⟩, ?_⟩
      rintro ⟨v3, ⟨⟩⟩ hv3
      have e3 : v3 = outF (frameL t) k := congrArg Prod.fst hv3
      refine ⟨⟨f0, by show F < 6; omega⟩, ⟨by decide, by decide⟩, ?_⟩
      intro z hz
      have hz : z = decide (outF (frameL t) k = wayAt (frameL F) 0) := by rw [← e3]; exact hz
      obtain ⟨r, hr⟩ : ∃ r, 4 - k = r + 1 := ⟨3 - k, by omega⟩
      rw [hr] at hi
      unfold backN at hi
      rw [hz, wi_succ g (by omega)]
      refine Br.intro (fun y => ?_) fun y => ?_
      · rw [if_pos (of_decide_eq_true y)] at hi
        unfold besideR; rw [hi]
      · rw [if_neg (of_decide_eq_false y)] at hi
        exact ⟨rfl, ⟨k + 1, rfl, by omega, by rw [show 4 - (k + 1) = r by omega]; exact hi⟩, by omega⟩
    · have g : k = 4 := by have g : ¬ (k : Int) < 4 := of_decide_eq_false g; omega
      subst g
      have hi : besideI n c o = (-1, 0) := hi
      unfold besideR; rw [hi]
  · rw [place_no ok]
    refine Br.intro (fun _ => no ?_) fun e => absurd e (by decide)
    unfold besideOk; rw [show placeOk n c = false by simpa using ok]; rfl
end Go.Lift

set_option linter.unusedVariables false
set_option linter.unusedSimpArgs false
namespace Go.Lift
def Fx_cube_way_times := fun (a : List Int) (k : Int) (post : List Int × Unit → Prop) => ∃ (h : (0 : Int) ≤ (0 : Int) ∧ (0 : Int) < (↑(3 : Nat) : Int) ∧ (3 : Nat) ≤ a.length), ∃ (h
  : (0 : Int) ≤ (1 : Int) ∧ (1 : Int) < (↑(3 : Nat) : Int) ∧ (3 : Nat) ≤ a.length), ∃ (h : (0 : Int) ≤ (2 : Int) ∧ (2 : Int) < (↑(3 : Nat) : Int) ∧ (3 : Nat) ≤ a.length), ∃ (h :
  (List.replicate (3 : Nat) (0 : Int)).length = (3 : Nat) ∧ (3 : Nat) = (3 : Nat)), ∃ (h : (3 : Nat) = (3 : Nat)), post ([IntKind.i64.wrap (k * a.getD (Int.toNat (0 : Int)) (0 :
  Int)), IntKind.i64.wrap (k * a.getD (Int.toNat (1 : Int)) (0 : Int)), IntKind.i64.wrap (k * a.getD (Int.toNat (2 : Int)) (0 : Int))], ())
theorem Lx_cube_way_times (a : List Int) (k : Int) (h : WTimes a k) (w : KS.wf [kWay, .int .i64] (a, k, ())) : Fx_cube_way_times  a k (fun r => r = timesR a k) := by
  have hl : a.length = 3 := w.1.1
  obtain ⟨hb, k1, k2⟩ := h
  have W : ∀ i : Nat, IntKind.i64.wrap (k * a.getD i 0) = k * a.getD i 0 := fun i => by
    have := mul_bd k1 k2 (hb i).1 (hb i).2
    exact wi ⟨by omega, by omega⟩
  refine ⟨⟨by decide, by decide, by omega⟩, ⟨by decide, by decide, by omega⟩, ⟨by decide, by decide, by omega⟩, ⟨rfl, rfl⟩, rfl, ?_⟩
  show ([IntKind.i64.wrap (k * a.getD 0 0), IntKind.i64.wrap (k * a.getD 1 0), IntKind.i64.wrap (k * a.getD 2 0)], ()) = timesR a k
  rw [W, W, W]; rfl
def Fx_cube_way_plus := fun (a b : List Int) (post : List Int × Unit → Prop) => ∃ (h : (0 : Int) ≤ (0 : Int) ∧ (0 : Int) < (↑(3 : Nat) : Int) ∧ (3 : Nat) ≤ a.length), ∃ (h : (0 :
  Int) ≤ (0 : Int) ∧ (0 : Int) < (↑(3 : Nat) : Int) ∧ (3 : Nat) ≤ b.length), ∃ (h : (0 : Int) ≤ (1 : Int) ∧ (1 : Int) < (↑(3 : Nat) : Int) ∧ (3 : Nat) ≤ a.length), ∃ (h : (0 : Int)
  ≤ (1 : Int) ∧ (1 : Int) < (↑(3 : Nat) : Int) ∧ (3 : Nat) ≤ b.length), ∃ (h : (0 : Int) ≤ (2 : Int) ∧ (2 : Int) < (↑(3 : Nat) : Int) ∧ (3 : Nat) ≤ a.length), ∃ (h : (0 : Int) ≤ (2
  : Int) ∧ (2 : Int) < (↑(3 : Nat) : Int) ∧ (3 : Nat) ≤ b.length), ∃ (h : (List.replicate (3 : Nat) (0 : Int)).length = (3 : Nat) ∧ (3 : Nat) = (3 : Nat)), ∃ (h : (3 : Nat) = (3 :
  Nat)), post ([IntKind.i64.wrap (a.getD (Int.toNat (0 : Int)) (0 : Int) + b.getD (Int.toNat (0 : Int)) (0 : Int)), IntKind.i64.wrap (a.getD (Int.toNat (1 : Int)) (0 : Int) + b.getD
  (Int.toNat (1 : Int)) (0 : Int)), IntKind.i64.wrap (a.getD (Int.toNat (2 : Int)) (0 : Int) + b.getD (Int.toNat (2 : Int)) (0 : Int))], ())
theorem Lx_cube_way_plus (a : List Int) (b : List Int) (h : WPlus a b) (w : KS.wf [kWay, kWay] (a, b, ())) : Fx_cube_way_plus  a b (fun r => r = plusR a b) := by
  have hl : a.length = 3 := w.1.1
  have hm : b.length = 3 := w.2.1.1
  obtain ⟨ha, hb⟩ := h
  have W : ∀ i : Nat, IntKind.i64.wrap (a.getD i 0 + b.getD i 0) = a.getD i 0 + b.getD i 0 := fun i => by
    have := ha i; have := hb i
    exact wi ⟨by omega, by omega⟩
  refine ⟨⟨by decide, by decide, by omega⟩, ⟨by decide, by decide, by omega⟩, ⟨by decide, by decide, by omega⟩, ⟨by decide, by decide, by omega⟩, ⟨by decide, by decide, by omega⟩, ⟨by decide, by decide, by omega⟩, ⟨rfl, rfl⟩, rfl, ?_⟩
  show ([IntKind.i64.wrap (a.getD 0 0 + b.getD 0 0), IntKind.i64.wrap (a.getD 1 0 + b.getD 1 0), IntKind.i64.wrap (a.getD 2 0 + b.getD 2 0)], ()) = plusR a b
  rw [W, W, W]; rfl
def Fx_cube_way_dot := fun (a b : List Int) (post : Int × Unit → Prop) => ∃ (h : (0 : Int) ≤ (0 : Int) ∧ (0 : Int) < (↑(3 : Nat) : Int) ∧ (3 : Nat) ≤ a.length), ∃ (h : (0 : Int) ≤
  (0 : Int) ∧ (0 : Int) < (↑(3 : Nat) : Int) ∧ (3 : Nat) ≤ b.length), ∃ (h : (0 : Int) ≤ (1 : Int) ∧ (1 : Int) < (↑(3 : Nat) : Int) ∧ (3 : Nat) ≤ a.length), ∃ (h : (0 : Int) ≤ (1 :
  Int) ∧ (1 : Int) < (↑(3 : Nat) : Int) ∧ (3 : Nat) ≤ b.length), ∃ (h : (0 : Int) ≤ (2 : Int) ∧ (2 : Int) < (↑(3 : Nat) : Int) ∧ (3 : Nat) ≤ a.length), ∃ (h : (0 : Int) ≤ (2 : Int)
  ∧ (2 : Int) < (↑(3 : Nat) : Int) ∧ (3 : Nat) ≤ b.length), post (IntKind.i64.wrap (IntKind.i64.wrap (IntKind.i64.wrap (a.getD (Int.toNat (0 : Int)) (0 : Int) * b.getD (Int.toNat (0
  : Int)) (0 : Int)) + IntKind.i64.wrap (a.getD (Int.toNat (1 : Int)) (0 : Int) * b.getD (Int.toNat (1 : Int)) (0 : Int))) + IntKind.i64.wrap (a.getD (Int.toNat (2 : Int)) (0 : Int)
  * b.getD (Int.toNat (2 : Int)) (0 : Int))), ())
theorem Lx_cube_way_dot (a : List Int) (b : List Int) (h : WDot a b) (w : KS.wf [kWay, kWay] (a, b, ())) : Fx_cube_way_dot  a b (fun r => r = dotR a b) := by
  have hl : a.length = 3 := w.1.1
  have hm : b.length = 3 := w.2.1.1
  obtain ⟨ha, hb⟩ := h
  have M : ∀ i : Nat, -(1048576 * 1048576) ≤ a.getD i 0 * b.getD i 0 ∧ a.getD i 0 * b.getD i 0 ≤ 1048576 * 1048576 := fun i => mul_bd (ha i).1 (ha i).2 (hb i).1 (hb i).2
  have m0 := M 0
  have m1 := M 1
  have m2 := M 2
  refine ⟨⟨by decide, by decide, by omega⟩, ⟨by decide, by decide, by omega⟩, ⟨by decide, by decide, by omega⟩, ⟨by decide, by decide, by omega⟩, ⟨by decide, by decide, by omega⟩, ⟨by decide, by decide, by omega⟩, ?_⟩
  show (IntKind.i64.wrap (IntKind.i64.wrap (IntKind.i64.wrap (a.getD 0 0 * b.getD 0 0) + IntKind.i64.wrap (a.getD 1 0 * b.getD 1 0)) + IntKind.i64.wrap (a.getD 2 0 * b.getD 2 0)), ()) = dotR a b
  rw [wi (x := a.getD 0 0 * b.getD 0 0) ⟨by omega, by omega⟩, wi (x := a.getD 1 0 * b.getD 1 0) ⟨by omega, by omega⟩, wi (x := a.getD 2 0 * b.getD 2 0) ⟨by omega, by omega⟩, wi (x := a.getD 0 0 * b.getD 0 0 + a.getD 1 0 * b.getD 1 0) ⟨by omega, by omega⟩, wi ⟨by omega, by omega⟩]
  rfl
def Fx_cube_frame_out := fun (f : List (List Int)) (s : Int) (post : List Int × Unit → Prop) => ∀ (a : Bool), a = (s == (0 : Int)) → Br a (∃ (h : (0 : Int) ≤ (1 : Int) ∧ (1 : Int) <
  (↑(3 : Nat) : Int) ∧ (3 : Nat) ≤ f.length), ∃ (h : (List.replicate (3 : Nat) (0 : Int)).length = (3 : Nat) ∧ List.length (f.getD (Int.toNat (1 : Int)) (K.arr (3 : Nat) (K.int
  IntKind.i64)).dflt) = (3 : Nat)), ∃ (h : List.length (f.getD (Int.toNat (1 : Int)) (K.arr (3 : Nat) (K.int IntKind.i64)).dflt) = (3 : Nat)), post (f.getD (Int.toNat (1 : Int))
  (K.arr (3 : Nat) (K.int IntKind.i64)).dflt, ())) (∀ (a : Bool), a = (s == (1 : Int)) → Br a (∃ (h : (0 : Int) ≤ (2 : Int) ∧ (2 : Int) < (↑(3 : Nat) : Int) ∧ (3 : Nat) ≤ f.length),
  ∃ (h : (List.replicate (3 : Nat) (0 : Int)).length = (3 : Nat) ∧ List.length (f.getD (Int.toNat (2 : Int)) (K.arr (3 : Nat) (K.int IntKind.i64)).dflt) = (3 : Nat)), ∃ (h :
  List.length (f.getD (Int.toNat (2 : Int)) (K.arr (3 : Nat) (K.int IntKind.i64)).dflt) = (3 : Nat)), post (f.getD (Int.toNat (2 : Int)) (K.arr (3 : Nat) (K.int IntKind.i64)).dflt,
  ())) (∀ (a : Bool), a = (s == (2 : Int)) → Br a (∃ (h : (0 : Int) ≤ (1 : Int) ∧ (1 : Int) < (↑(3 : Nat) : Int) ∧ (3 : Nat) ≤ f.length), ∃ (h : WTimes (f.getD (Int.toNat (1 : Int))
  (K.arr (3 : Nat) (K.int IntKind.i64)).dflt) (-1 : Int)), ∀ (a : List Int × Unit), a = timesR (f.getD (Int.toNat (1 : Int)) (K.arr (3 : Nat) (K.int IntKind.i64)).dflt) (-1 : Int) →
  ∃ (h : (List.replicate (3 : Nat) (0 : Int)).length = (3 : Nat) ∧ a.fst.length = (3 : Nat)), ∃ (h : a.fst.length = (3 : Nat)), post (a.fst, ())) (∃ (h : (0 : Int) ≤ (2 : Int) ∧ (2
  : Int) < (↑(3 : Nat) : Int) ∧ (3 : Nat) ≤ f.length), ∃ (h : WTimes (f.getD (Int.toNat (2 : Int)) (K.arr (3 : Nat) (K.int IntKind.i64)).dflt) (-1 : Int)), ∀ (a : List Int × Unit),
  a = timesR (f.getD (Int.toNat (2 : Int)) (K.arr (3 : Nat) (K.int IntKind.i64)).dflt) (-1 : Int) → ∃ (h : (List.replicate (3 : Nat) (0 : Int)).length = (3 : Nat) ∧ a.fst.length =
  (3 : Nat)), ∃ (h : a.fst.length = (3 : Nat)), post (a.fst, ()))))
theorem Lx_cube_frame_out (f : List (List Int)) (s : Int) (h : WOut f s) (w : KS.wf [kFrame, .int .i64] (f, s, ())) : Fx_cube_frame_out  f s (fun r => r = outR f s) := by
  have hl : f.length = 3 := w.1.1
  have hm : ∀ i, (wayAt f i).length = 3 := fun i => by
    unfold wayAt
    rcases Nat.lt_or_ge i f.length with g | g
    · exact (w.1.2 _ (getD_mem g [0, 0, 0])).1
    · rw [List.getD_eq_getElem?_getD, List.getElem?_eq_none g]; rfl
  obtain ⟨h1, h2⟩ := h
  have t1 : WTimes (wayAt f 1) (-1) := ⟨h1, by decide, by decide⟩
  have t2 : WTimes (wayAt f 2) (-1) := ⟨h2, by decide, by decide⟩
  rintro _ rfl
  refine Br.intro (fun e => ?_) fun e => ?_
  · have e : s = 0 := beq_iff_eq.1 e
    exact ⟨⟨by decide, by decide, by omega⟩, ⟨rfl, hm 1⟩, hm 1, congrArg r1 (by unfold outF; rw [if_pos e]; rfl)⟩
  have e : ¬ s = 0 := fun q => by rw [q] at e; cases e
  rintro _ rfl
  refine Br.intro (fun g => ?_) fun g => ?_
  · have g : s = 1 := beq_iff_eq.1 g
    exact ⟨⟨by decide, by decide, by omega⟩, ⟨rfl, hm 2⟩, hm 2, congrArg r1 (by unfold outF; rw [if_neg e, if_pos g]; rfl)⟩
  have g : ¬ s = 1 := fun q => by rw [q] at g; cases g
  rintro _ rfl
  refine Br.intro (fun j => ?_) fun j => ?_
  · have j : s = 2 := beq_iff_eq.1 j
    refine ⟨⟨by decide, by decide, by omega⟩, t1, ?_⟩
    rintro _ rfl
    exact ⟨⟨rfl, rfl⟩, rfl, congrArg r1 (by unfold outF; rw [if_neg e, if_neg g, if_pos j]; rfl)⟩
  have j : ¬ s = 2 := fun q => by rw [q] at j; cases j
  refine ⟨⟨by decide, by decide, by omega⟩, t2, ?_⟩
  rintro _ rfl
  exact ⟨⟨rfl, rfl⟩, rfl, congrArg r1 (by unfold outF; rw [if_neg e, if_neg g, if_neg j]; rfl)⟩
def Fx_cube_faceAt := fun (ty154 : Nat) (c : List Int) (post : Int × Unit → Prop) => HIs [HObj.row Md.rw ty154 (K.int IntKind.i64) c] [HObj.row Md.rw ty154 (K.int IntKind.i64) c] ∧
  ∃ (I : Int × Unit → Unit → Prop), ∃ (μ : Int × Unit → Unit → Nat), I ((0 : Int), ()) () ∧ ∀ (x : Int × Unit) (y : Unit), I x y → ∀ (a : Bool), a = decide (x.fst < (6 : Int)) → Br
  a (∃ (h : (0 : Int) ≤ x.fst ∧ x.fst < (↑(6 : Nat) : Int)), ∃ (h : (0 : Int) ≤ (0 : Int) ∧ (0 : Int) < (↑(3 : Nat) : Int)), ∃ (h : c.length = (3 : Nat)), ∀ (a : Bool), a = eqL
  (List.getD (framesL.getD x.fst.toNat (K.arr (3 : Nat) (K.arr (3 : Nat) (K.int IntKind.i64))).dflt) (Int.toNat (0 : Int)) (K.arr (3 : Nat) (K.int IntKind.i64)).dflt) c → Br a (post
  (x.fst, ())) (HIs [HObj.row Md.rw ty154 (K.int IntKind.i64) c] [HObj.row Md.rw ty154 (K.int IntKind.i64) c] ∧ I (IntKind.i64.wrap (x.fst + (1 : Int)), ()) () ∧ μ (IntKind.i64.wrap
  (x.fst + (1 : Int)), ()) () < μ x y)) (post ((-1 : Int), ()))
theorem Lx_cube_faceAt (ty0 : Nat) (c : List Int) (w : KS.wf [kWay] (c, ())) : Fx_cube_faceAt ty0 c (fun r => r = faceAtR c) := by
  have hl : c.length = 3 := w.1.1
  refine ⟨rfl, fun x _ => ∃ k : Nat, x.1 = k ∧ k ≤ 6 ∧ faceAtI c = firstI (fun fr => decide (wayAt fr 0 = c)) k (framesL.drop k), fun x _ => 6 - x.1.toNat, ⟨0, rfl, by omega, rfl⟩, ?_⟩
  rintro ⟨_, ⟨⟩⟩ _ ⟨k, rfl, hk, hi⟩
  dsimp only
  rintro _ rfl
  refine Br.intro (fun e => ?_) fun e => ?_
  · have e : k < 6 := by have e : (k : Int) < 6 := of_decide_eq_true e; omega
    refine ⟨⟨by omega, by show (k : Int) < 6; omega⟩, ⟨by decide, by decide⟩, hl, ?_⟩
    rw [drop_step (l := framesL) (i := k) e [[0, 0, 0], [0, 0, 0], [0, 0, 0]], firstI_cons] at hi
    rw [Int.toNat_natCast, wi_succ e (by omega)]
    intro z hz
    have hz : z = decide (wayAt (framesL.getD k [[0, 0, 0], [0, 0, 0], [0, 0, 0]]) 0 = c) := hz
    rw [hz]
    refine Br.intro (fun g => ?_) fun g => ?_
    · rw [if_pos g] at hi
      exact congrArg r1 hi.symm
    · rw [if_neg (by rw [g]; decide)] at hi
      exact ⟨rfl, ⟨k + 1, rfl, by omega, hi⟩, by omega⟩
  · have e : k = 6 := by have e : ¬ (k : Int) < 6 := of_decide_eq_false e; omega
    subst e
    exact congrArg r1 (by rw [hi]; rfl)
def Fx_cube_Cell := fun (n f i j : Int) (post : Int × Unit → Prop) => ∃ (h : True), ∀ (a : Bool), a = (goodCR n).fst → Br (!a) (post ((-1 : Int), ())) (∀ (a : Bool), a = decide (f <
  (0 : Int)) → Br a (post ((-1 : Int), ())) (∀ (a : Bool), a = decide (f ≥ (6 : Int)) → Br a (post ((-1 : Int), ())) (∀ (a : Bool), a = decide (i < (0 : Int)) → Br a (post ((-1 :
  Int), ())) (∀ (a : Bool), a = decide (i ≥ n) → Br a (post ((-1 : Int), ())) (∀ (a : Bool), a = decide (j < (0 : Int)) → Br a (post ((-1 : Int), ())) (∀ (a : Bool), a = decide (j ≥
  n) → Br a (post ((-1 : Int), ())) (post (IntKind.i64.wrap (IntKind.i64.wrap (IntKind.i64.wrap (IntKind.i64.wrap (f * n) + j) * n) + i), ()))))))))
theorem Lx_cube_Cell (n : Int) (f : Int) (i : Int) (j : Int) (h : IIII n f i j) : Fx_cube_Cell  n f i j (fun r => r = cellR n f i j) := by
  obtain ⟨hn, hf, hi, hj⟩ := h
  have no : cellOk n f i j = false → ((-1 : Int), ()) = cellR n f i j := fun q => congrArg r1 (by unfold cellI; rw [if_neg (by rw [q]; decide)])
  have ok : ∀ p, (goodC n && decide (0 ≤ f) && decide (f < 6) && decide (0 ≤ i) && decide (i < n) && decide (0 ≤ j) && decide (j < n)) = p → cellOk n f i j = p := fun p q => q
  refine ⟨trivial, ?_⟩
  intro g hg
  have hg : g = goodC n := hg
  rw [hg]
  refine Br.intro (fun e => no (ok _ ?_)) fun e => ?_
  · have e : goodC n = false := by simpa using e
    rw [e]; rfl
  have e : goodC n = true := by simpa using e
  rintro _ rfl
  refine Br.intro (fun q => no (ok _ ?_)) fun q => ?_
  · rw [decide_eq_false (p := 0 ≤ f) (by have := of_decide_eq_true q; omega)]; simp
  have q1 := of_decide_eq_false q
  rintro _ rfl
  refine Br.intro (fun q => no (ok _ ?_)) fun q => ?_
  · rw [decide_eq_false (p := f < 6) (by have := of_decide_eq_true q; omega)]; simp
  have q2 := of_decide_eq_false q
  rintro _ rfl
  refine Br.intro (fun q => no (ok _ ?_)) fun q => ?_
  · rw [decide_eq_false (p := 0 ≤ i) (by have := of_decide_eq_true q; omega)]; simp
  have q3 := of_decide_eq_false q
  rintro _ rfl
  refine Br.intro (fun q => no (ok _ ?_)) fun q => ?_
  · rw [decide_eq_false (p := i < n) (by have := of_decide_eq_true q; omega)]; simp
  have q4 := of_decide_eq_false q
  rintro _ rfl
  refine Br.intro (fun q => no (ok _ ?_)) fun q => ?_
  · rw [decide_eq_false (p := 0 ≤ j) (by have := of_decide_eq_true q; omega)]; simp
  have q5 := of_decide_eq_false q
  rintro _ rfl
  refine Br.intro (fun q => no (ok _ ?_)) fun q => ?_
  · rw [decide_eq_false (p := j < n) (by have := of_decide_eq_true q; omega)]; simp
  have q6 := of_decide_eq_false q
  have hok : cellOk n f i j = true := by
    unfold cellOk
    rw [e, decide_eq_true (p := 0 ≤ f) (by omega), decide_eq_true (p := f < 6) (by omega), decide_eq_true (p := 0 ≤ i) (by omega), decide_eq_true (p := i < n) (by omega), decide_eq_true (p := 0 ≤ j) (by omega), decide_eq_true (p := j < n) (by omega)]; rfl
  obtain ⟨r0, r1', n1, n2⟩ := cell_rng hok
  have hv : cellI n f i j = (f * n + j) * n + i := by unfold cellI; rw [if_pos hok]
  rw [hv] at r0 r1'
  have sq := sq_bd n1 n2
  have b1 : 0 ≤ f * n := Int.mul_nonneg (by omega) (by omega)
  have b2 : f * n ≤ 5 * n := Int.mul_le_mul_of_nonneg_right (by omega) (by omega)
  have b3 : 0 ≤ (f * n + j) * n := Int.mul_nonneg (by omega) (by omega)
  rw [wi (x := f * n) ⟨by omega, by omega⟩, wi (x := f * n + j) ⟨by omega, by omega⟩, wi (x := (f * n + j) * n) ⟨by omega, by omega⟩, wi (x := (f * n + j) * n + i) ⟨by omega, by omega⟩]
  exact congrArg r1 hv.symm
def Fx_cube_middle := fun (n f i j : Int) (post : List Int × Unit → Prop) => ∃ (h : (0 : Int) ≤ f ∧ f < (↑(6 : Nat) : Int)), ∃ (h : (List.replicate (3 : Nat) (K.arr (3 : Nat) (K.int
  IntKind.i64)).dflt).length = (3 : Nat) ∧ List.length (framesL.getD f.toNat (K.arr (3 : Nat) (K.arr (3 : Nat) (K.int IntKind.i64))).dflt) = (3 : Nat)), ∃ (h : (0 : Int) ≤ (0 : Int)
  ∧ (0 : Int) < (↑(3 : Nat) : Int) ∧ (3 : Nat) ≤ List.length (framesL.getD f.toNat (K.arr (3 : Nat) (K.arr (3 : Nat) (K.int IntKind.i64))).dflt)), ∃ (h : WTimes (List.getD
  (framesL.getD f.toNat (K.arr (3 : Nat) (K.arr (3 : Nat) (K.int IntKind.i64))).dflt) (Int.toNat (0 : Int)) (K.arr (3 : Nat) (K.int IntKind.i64)).dflt) n), ∀ (a : List Int × Unit),
  a = timesR (List.getD (framesL.getD f.toNat (K.arr (3 : Nat) (K.arr (3 : Nat) (K.int IntKind.i64))).dflt) (Int.toNat (0 : Int)) (K.arr (3 : Nat) (K.int IntKind.i64)).dflt) n → ∃
  (h : (0 : Int) ≤ (1 : Int) ∧ (1 : Int) < (↑(3 : Nat) : Int) ∧ (3 : Nat) ≤ List.length (framesL.getD f.toNat (K.arr (3 : Nat) (K.arr (3 : Nat) (K.int IntKind.i64))).dflt)), ∃ (h :
  WTimes (List.getD (framesL.getD f.toNat (K.arr (3 : Nat) (K.arr (3 : Nat) (K.int IntKind.i64))).dflt) (Int.toNat (1 : Int)) (K.arr (3 : Nat) (K.int IntKind.i64)).dflt)
  (IntKind.i64.wrap (IntKind.i64.wrap (IntKind.i64.wrap ((2 : Int) * i) + (1 : Int)) - n))), ∀ (a_1 : List Int × Unit), a_1 = timesR (List.getD (framesL.getD f.toNat (K.arr (3 :
  Nat) (K.arr (3 : Nat) (K.int IntKind.i64))).dflt) (Int.toNat (1 : Int)) (K.arr (3 : Nat) (K.int IntKind.i64)).dflt) (IntKind.i64.wrap (IntKind.i64.wrap (IntKind.i64.wrap ((2 :
  Int) * i) + (1 : Int)) - n)) → ∃ (h : WPlus a.fst a_1.fst), ∀ (a_2 : List Int × Unit), a_2 = plusR a.fst a_1.fst → ∃ (h : (0 : Int) ≤ (2 : Int) ∧ (2 : Int) < (↑(3 : Nat) : Int) ∧
  (3 : Nat) ≤ List.length (framesL.getD f.toNat (K.arr (3 : Nat) (K.arr (3 : Nat) (K.int IntKind.i64))).dflt)), ∃ (h : WTimes (List.getD (framesL.getD f.toNat (K.arr (3 : Nat)
  (K.arr (3 : Nat) (K.int IntKind.i64))).dflt) (Int.toNat (2 : Int)) (K.arr (3 : Nat) (K.int IntKind.i64)).dflt) (IntKind.i64.wrap (IntKind.i64.wrap (IntKind.i64.wrap ((2 : Int) *
  j) + (1 : Int)) - n))), ∀ (a : List Int × Unit), a = timesR (List.getD (framesL.getD f.toNat (K.arr (3 : Nat) (K.arr (3 : Nat) (K.int IntKind.i64))).dflt) (Int.toNat (2 : Int))
  (K.arr (3 : Nat) (K.int IntKind.i64)).dflt) (IntKind.i64.wrap (IntKind.i64.wrap (IntKind.i64.wrap ((2 : Int) * j) + (1 : Int)) - n)) → ∃ (h : WPlus a_2.fst a.fst), ∀ (a_3 : List
  Int × Unit), a_3 = plusR a_2.fst a.fst → ∃ (h : (List.replicate (3 : Nat) (0 : Int)).length = (3 : Nat) ∧ a_3.fst.length = (3 : Nat)), ∃ (h : a_3.fst.length = (3 : Nat)), post
  (a_3.fst, ())
theorem Lx_cube_middle (n : Int) (f : Int) (i : Int) (j : Int) (h : WMiddle n f i j) : Fx_cube_middle  n f i j (fun r => r = middleR' n f i j) := by
  have hh := h
  obtain ⟨n1, n2, f0, f5, i0, i1, j0, j1⟩ := h
  have fl : (framesL.getD f.toNat (K.arr (3 : Nat) (K.arr (3 : Nat) (K.int IntKind.i64))).dflt).length = 3 := frame_len f0 f5
  have b := frame_bd f0 f5
  have t0 : WTimes (wayAt (frameL f) 0) n := ⟨(b 0).mono (by decide), by omega, by omega⟩
  have w1 : IntKind.i64.wrap (IntKind.i64.wrap (IntKind.i64.wrap (2 * i) + 1) - n) = 2 * i + 1 - n := by
    rw [wi (x := 2 * i) ⟨by omega, by omega⟩, wi (x := 2 * i + 1) ⟨by omega, by omega⟩, wi ⟨by omega, by omega⟩]
  have w2 : IntKind.i64.wrap (IntKind.i64.wrap (IntKind.i64.wrap (2 * j) + 1) - n) = 2 * j + 1 - n := by
    rw [wi (x := 2 * j) ⟨by omega, by omega⟩, wi (x := 2 * j + 1) ⟨by omega, by omega⟩, wi ⟨by omega, by omega⟩]
  unfold Fx_cube_middle
  rw [w1, w2]
  have t1 : WTimes (wayAt (frameL f) 1) (2 * i + 1 - n) := ⟨(b 1).mono (by decide), by omega, by omega⟩
  have t2 : WTimes (wayAt (frameL f) 2) (2 * j + 1 - n) := ⟨(b 2).mono (by decide), by omega, by omega⟩
  have c0 := times_bd (q := 32) (b 0) (k := n) (by omega) (by omega)
  have c1 := times_bd (q := 32) (b 1) (k := 2 * i + 1 - n) (by omega) (by omega)
  have c2 := times_bd (q := 32) (b 2) (k := 2 * j + 1 - n) (by omega) (by omega)
  have p1 := plus_bd c0 c1
  refine ⟨⟨f0, by show f < 6; omega⟩, ⟨rfl, fl⟩, ⟨by decide, by decide, by omega⟩, t0, ?_⟩
  rintro _ rfl
  refine ⟨⟨by decide, by decide, by omega⟩, t1, ?_⟩
  rintro _ rfl
  refine ⟨⟨c0.mono (by decide), c1.mono (by decide)⟩, ?_⟩
  rintro _ rfl
  refine ⟨⟨by decide, by decide, by omega⟩, t2, ?_⟩
  rintro _ rfl
  refine ⟨⟨p1.mono (by decide), c2.mono (by decide)⟩, ?_⟩
  rintro _ rfl
  exact ⟨⟨rfl, rfl⟩, rfl, rfl⟩
def Fx_cube_index := fun (n a : Int) (post : Int × Unit → Prop) => ∃ (h : (2 : Int) ≠ (0 : Int)), post (imin (imax (IntKind.i64.wrap ((IntKind.i64.wrap (IntKind.i64.wrap (a + n) -
  (1 : Int))).tdiv (2 : Int))) (0 : Int)) (IntKind.i64.wrap (n - (1 : Int))), ())
theorem Lx_cube_index (n : Int) (a : Int) (h : WIndex n a) : Fx_cube_index  n a (fun r => r = indexR n a) := by
  obtain ⟨n1, n2, a1, a2⟩ := h
  have w1 : IntKind.i64.wrap (IntKind.i64.wrap (a + n) - 1) = a + n - 1 := by
    rw [wi (x := a + n) ⟨by omega, by omega⟩, wi ⟨by omega, by omega⟩]
  have w2 : IntKind.i64.wrap (n - 1) = n - 1 := wi ⟨by omega, by omega⟩
  have w3 : IntKind.i64.wrap (Int.tdiv (a + n - 1) 2) = Int.tdiv (a + n - 1) 2 := by
    have : (Int.tdiv (a + n - 1) 2).natAbs ≤ (a + n - 1).natAbs := by rw [Int.natAbs_tdiv]; exact Nat.div_le_self _ _
    exact wi ⟨by omega, by omega⟩
  exact ⟨by decide, by rw [w1, w2, w3]; rfl⟩
end Go.Lift

set_option linter.unusedVariables false
set_option linter.unusedSimpArgs false
namespace Go.Lift
open Go.Proofs
def Nx_cube_way_times : Cx := ⟨tabOf Ntab, conOf [], NG⟩
theorem Nx_cube_way_times_ok : CxOk Tryz.prog Nx_cube_way_times := ⟨tabB_sound Ntab_ok, fun f c h => by cases h⟩
theorem Nat_cube_way_times : FnAt Tryz.prog 152 Tryz.f152.ntmps Tryz.f152.results.toList (Tryz.f152.body.getD .skip) := ⟨Tryz.f152, Tryz.func152, rfl, rfl, by simp, by decide⟩
theorem Neq_cube_way_times (a : List Int) (k : Int) (post : (List Int) × Unit → Prop) : fnEval Nx_cube_way_times nHn Tryz.f152.ntmps Tryz.f152.results.toList (Tryz.f152.body.getD .skip) [kWay, .int .i64] [.snap kWay] (a, k, ()) post = Fx_cube_way_times  a k post := by kernel_rfl
theorem Nh_cube_way_times : Nq_cube_way_times.holds Tryz.prog NG 152 :=
  nam_of_det (detP Nx_cube_way_times_ok Nmixed nHn Nat_cube_way_times (F := fun x post => Fx_cube_way_times  x.1 x.2.1 post) (fun x post => Neq_cube_way_times x.1 x.2.1 post) fun x h w => Lx_cube_way_times  x.1 x.2.1 h w)
def Nx_cube_way_plus : Cx := ⟨tabOf Ntab, conOf [], NG⟩
theorem Nx_cube_way_plus_ok : CxOk Tryz.prog Nx_cube_way_plus := ⟨tabB_sound Ntab_ok, fun f c h => by cases h⟩
theorem Nat_cube_way_plus : FnAt Tryz.prog 127 Tryz.f127.ntmps Tryz.f127.results.toList (Tryz.f127.body.getD .skip) := ⟨Tryz.f127, Tryz.func127, rfl, rfl, by simp, by decide⟩
theorem Neq_cube_way_plus (a : List Int) (b : List Int) (post : (List Int) × Unit → Prop) : fnEval Nx_cube_way_plus nHn Tryz.f127.ntmps Tryz.f127.results.toList (Tryz.f127.body.getD .skip) [kWay, kWay] [.snap kWay] (a, b, ()) post = Fx_cube_way_plus  a b post := by kernel_rfl
theorem Nh_cube_way_plus : Nq_cube_way_plus.holds Tryz.prog NG 127 :=
  nam_of_det (detP Nx_cube_way_plus_ok Nmixed nHn Nat_cube_way_plus (F := fun x post => Fx_cube_way_plus  x.1 x.2.1 post) (fun x post => Neq_cube_way_plus x.1 x.2.1 post) fun x h w => Lx_cube_way_plus  x.1 x.2.1 h w)
def Nx_cube_way_dot : Cx := ⟨tabOf Ntab, conOf [], NG⟩
theorem Nx_cube_way_dot_ok : CxOk Tryz.prog Nx_cube_way_dot := ⟨tabB_sound Ntab_ok, fun f c h => by cases h⟩
theorem Nat_cube_way_dot : FnAt Tryz.prog 129 Tryz.f129.ntmps Tryz.f129.results.toList (Tryz.f129.body.getD .skip) := ⟨Tryz.f129, Tryz.func129, rfl, rfl, by simp, by decide⟩
theorem Neq_cube_way_dot (a : List Int) (b : List Int) (post : Int × Unit → Prop) : fnEval Nx_cube_way_dot nHn Tryz.f129.ntmps Tryz.f129.results.toList (Tryz.f129.body.getD .skip) [kWay, kWay] [.snap (.int .i64)] (a, b, ()) post = Fx_cube_way_dot  a b post := by kernel_rfl
theorem Nh_cube_way_dot : Nq_cube_way_dot.holds Tryz.prog NG 129 :=
  nam_of_det (detP Nx_cube_way_dot_ok Nmixed nHn Nat_cube_way_dot (F := fun x post => Fx_cube_way_dot  x.1 x.2.1 post) (fun x post => Neq_cube_way_dot x.1 x.2.1 post) fun x h w => Lx_cube_way_dot  x.1 x.2.1 h w)
def Nx_cube_frame_out : Cx := ⟨tabOf Ntab, conOf [(152, Nq_cube_way_times)], NG⟩
theorem Nx_cube_frame_out_ok : CxOk Tryz.prog Nx_cube_frame_out := ⟨tabB_sound Ntab_ok, conOf_sound ⟨Nh_cube_way_times, trivial⟩⟩
theorem Nat_cube_frame_out : FnAt Tryz.prog 125 Tryz.f125.ntmps Tryz.f125.results.toList (Tryz.f125.body.getD .skip) := ⟨Tryz.f125, Tryz.func125, rfl, rfl, by simp, by decide⟩
theorem Neq_cube_frame_out (f : List (List Int)) (s : Int) (post : (List Int) × Unit → Prop) : fnEval Nx_cube_frame_out nHn Tryz.f125.ntmps Tryz.f125.results.toList (Tryz.f125.body.getD .skip) [kFrame, .int .i64] [.snap kWay] (f, s, ()) post = Fx_cube_frame_out  f s post := by kernel_rfl
theorem Nh_cube_frame_out : Nq_cube_frame_out.holds Tryz.prog NG 125 :=
  nam_of_det (detP Nx_cube_frame_out_ok Nmixed nHn Nat_cube_frame_out (F := fun x post => Fx_cube_frame_out  x.1 x.2.1 post) (fun x post => Neq_cube_frame_out x.1 x.2.1 post) fun x h w => Lx_cube_frame_out  x.1 x.2.1 h w)
def Nx_cube_faceAt : Cx := ⟨tabOf Ntab, conOf [], NG⟩
theorem Nx_cube_faceAt_ok : CxOk Tryz.prog Nx_cube_faceAt := ⟨tabB_sound Ntab_ok, fun f c h => by cases h⟩
theorem Nat_cube_faceAt : FnAt Tryz.prog 124 Tryz.f124.ntmps Tryz.f124.results.toList (Tryz.f124.body.getD .skip) := ⟨Tryz.f124, Tryz.func124, rfl, rfl, by simp, by decide⟩
theorem Neq_cube_faceAt (c : List Int) (post : Int × Unit → Prop) : fnEval Nx_cube_faceAt Nhn_cube_faceAt Tryz.f124.ntmps Tryz.f124.results.toList (Tryz.f124.body.getD .skip) [kWay] [.snap (.int .i64)] (c, ()) post = Fx_cube_faceAt 154 c post := by kernel_rfl
theorem Nh_cube_faceAt : Nq_cube_faceAt.holds Tryz.prog NG 124 :=
  nam_of_det (detP Nx_cube_faceAt_ok Nmixed Nhn_cube_faceAt Nat_cube_faceAt (F := fun x post => Fx_cube_faceAt 154 x.1 post) (fun x post => Neq_cube_faceAt x.1 post) fun x _ w => Lx_cube_faceAt 154 x.1 w)
def Nx_cube_Cell : Cx := ⟨tabOf Ntab, conOf [(97, Nq_cube_good)], NG⟩
theorem Nx_cube_Cell_ok : CxOk Tryz.prog Nx_cube_Cell := ⟨tabB_sound Ntab_ok, conOf_sound ⟨Nh_cube_good, trivial⟩⟩
theorem Nat_cube_Cell : FnAt Tryz.prog 123 Tryz.f123.ntmps Tryz.f123.results.toList (Tryz.f123.body.getD .skip) := ⟨Tryz.f123, Tryz.func123, rfl, rfl, by simp, by decide⟩
theorem Neq_cube_Cell (n : Int) (f : Int) (i : Int) (j : Int) (post : Int × Unit → Prop) : fnEval Nx_cube_Cell Nhn_cube_Cell Tryz.f123.ntmps Tryz.f123.results.toList (Tryz.f123.body.getD .skip) [.int .i64, .int .i64, .int .i64, .int .i64] [.snap (.int .i64)] (n, f, i, j, ()) post = Fx_cube_Cell  n f i j post := by kernel_rfl
theorem Nh_cube_Cell : Nq_cube_Cell.holds Tryz.prog NG 123 :=
  nam_of_det (detP Nx_cube_Cell_ok Nmixed Nhn_cube_Cell Nat_cube_Cell (F := fun x post => Fx_cube_Cell  x.1 x.2.1 x.2.2.1 x.2.2.2.1 post) (fun x post => Neq_cube_Cell x.1 x.2.1 x.2.2.1 x.2.2.2.1 post) fun x h _ => Lx_cube_Cell  x.1 x.2.1 x.2.2.1 x.2.2.2.1 h)
def Nx_cube_middle : Cx := ⟨tabOf Ntab, conOf [(152, Nq_cube_way_times), (127, Nq_cube_way_plus)], NG⟩
theorem Nx_cube_middle_ok : CxOk Tryz.prog Nx_cube_middle := ⟨tabB_sound Ntab_ok, conOf_sound ⟨Nh_cube_way_times, Nh_cube_way_plus, trivial⟩⟩
theorem Nat_cube_middle : FnAt Tryz.prog 126 Tryz.f126.ntmps Tryz.f126.results.toList (Tryz.f126.body.getD .skip) := ⟨Tryz.f126, Tryz.func126, rfl, rfl, by simp, by decide⟩
theorem Neq_cube_middle (n : Int) (f : Int) (i : Int) (j : Int) (post : (List Int) × Unit → Prop) : fnEval Nx_cube_middle nHn Tryz.f126.ntmps Tryz.f126.results.toList (Tryz.f126.body.getD .skip) [.int .i64, .int .i64, .int .i64, .int .i64] [.snap kWay] (n, f, i, j, ()) post = Fx_cube_middle  n f i j post := by kernel_rfl
theorem Nh_cube_middle : Nq_cube_middle.holds Tryz.prog NG 126 :=
  nam_of_det (detP Nx_cube_middle_ok Nmixed nHn Nat_cube_middle (F := fun x post => Fx_cube_middle  x.1 x.2.1 x.2.2.1 x.2.2.2.1 post) (fun x post => Neq_cube_middle x.1 x.2.1 x.2.2.1 x.2.2.2.1 post) fun x h _ => Lx_cube_middle  x.1 x.2.1 x.2.2.1 x.2.2.2.1 h)
def Nx_cube_index : Cx := ⟨tabOf Ntab, conOf [], NG⟩
theorem Nx_cube_index_ok : CxOk Tryz.prog Nx_cube_index := ⟨tabB_sound Ntab_ok, fun f c h => by cases h⟩
theorem Nat_cube_index : FnAt Tryz.prog 128 Tryz.f128.ntmps Tryz.f128.results.toList (Tryz.f128.body.getD .skip) := ⟨Tryz.f128, Tryz.func128, rfl, rfl, by simp, by decide⟩
theorem Neq_cube_index (n : Int) (a : Int) (post : Int × Unit → Prop) : fnEval Nx_cube_index nHn Tryz.f128.ntmps Tryz.f128.results.toList (Tryz.f128.body.getD .skip) [.int .i64, .int .i64] [.snap (.int .i64)] (n, a, ()) post = Fx_cube_index  n a post := by kernel_rfl
theorem Nh_cube_index : Nq_cube_index.holds Tryz.prog NG 128 :=
  nam_of_det (detP Nx_cube_index_ok Nmixed nHn Nat_cube_index (F := fun x post => Fx_cube_index  x.1 x.2.1 post) (fun x post => Neq_cube_index x.1 x.2.1 post) fun x h _ => Lx_cube_index  x.1 x.2.1 h)
end Go.Lift

set_option linter.unusedVariables false
set_option linter.unusedSimpArgs false
namespace Go.Lift
open Go.Proofs
def Nx_cube_Beside : Cx := ⟨tabOf Ntab, conOf [(103, Nq_cube_Place), (123, Nq_cube_Cell), (125, Nq_cube_frame_out), (124, Nq_cube_faceAt), (126, Nq_cube_middle), (127, Nq_cube_way_plus), (129, Nq_cube_way_dot), (128, Nq_cube_index)], NG⟩
theorem Nx_cube_Beside_ok : CxOk Tryz.prog Nx_cube_Beside := ⟨tabB_sound Ntab_ok, conOf_sound ⟨Nh_cube_Place, Nh_cube_Cell, Nh_cube_frame_out, Nh_cube_faceAt, Nh_cube_middle, Nh_cube_way_plus, Nh_cube_way_dot, Nh_cube_index, trivial⟩⟩
theorem Nat_cube_Beside : FnAt Tryz.prog 88 Tryz.f88.ntmps Tryz.f88.results.toList (Tryz.f88.body.getD .skip) := ⟨Tryz.f88, Tryz.func88, rfl, rfl, by simp, by decide⟩
theorem Neq_cube_Beside (n : Int) (c : Int) (o : Int) (post : Int × Int × Unit → Prop) : fnEval Nx_cube_Beside Nhn_cube_Beside Tryz.f88.ntmps Tryz.f88.results.toList (Tryz.f88.body.getD .skip) [.int .i64, .int .i64, .int .i64] [.snap (.int .i64), .snap (.int .i64)] (n, c, o, ()) post = Fx_cube_Beside 139 156 154 n c o post := by kernel_rfl
theorem Nh_cube_Beside : Nq_cube_Beside.holds Tryz.prog NG 88 :=
  nam_of_det (detP Nx_cube_Beside_ok Nmixed Nhn_cube_Beside Nat_cube_Beside (F := fun x post => Fx_cube_Beside 139 156 154 x.1 x.2.1 x.2.2.1 post) (fun x post => Neq_cube_Beside x.1 x.2.1 x.2.2.1 post) fun x h _ => Lx_cube_Beside 139 156 154 x.1 x.2.1 x.2.2.1 h)
end Go.Lift

set_option linter.unusedVariables false
set_option linter.unusedSimpArgs false
namespace Go.Lift
def Fx_geom_Middle := fun (n c : Int) (post : (Nat × Nat × Nat) × Bool × Unit → Prop) => ∃ (h : II n c), Br (!(placeR4 n c).snd.snd.snd.fst) (post (((0 : Nat), (0 : Nat), (0 :
  Nat)), Bool.false, ())) (∃ (h : WRatio (IntKind.i64.wrap (IntKind.i64.wrap (IntKind.i64.wrap ((2 : Int) * (placeR4 n c).snd.fst) + (1 : Int)) - n)) n), ∃ (h : WRatio
  (IntKind.i64.wrap (IntKind.i64.wrap (IntKind.i64.wrap ((2 : Int) * (placeR4 n c).snd.snd.fst) + (1 : Int)) - n)) n), ∃ (h : WPoint (placeR4 n c).fst (ratioR (IntKind.i64.wrap
  (IntKind.i64.wrap (IntKind.i64.wrap ((2 : Int) * (placeR4 n c).snd.fst) + (1 : Int)) - n)) n).fst (ratioR (IntKind.i64.wrap (IntKind.i64.wrap (IntKind.i64.wrap ((2 : Int) *
  (placeR4 n c).snd.snd.fst) + (1 : Int)) - n)) n).fst), post (((pointR (placeR4 n c).fst (ratioR (IntKind.i64.wrap (IntKind.i64.wrap (IntKind.i64.wrap ((2 : Int) * (placeR4 n
  c).snd.fst) + (1 : Int)) - n)) n).fst (ratioR (IntKind.i64.wrap (IntKind.i64.wrap (IntKind.i64.wrap ((2 : Int) * (placeR4 n c).snd.snd.fst) + (1 : Int)) - n)) n).fst).fst.fst,
  (pointR (placeR4 n c).fst (ratioR (IntKind.i64.wrap (IntKind.i64.wrap (IntKind.i64.wrap ((2 : Int) * (placeR4 n c).snd.fst) + (1 : Int)) - n)) n).fst (ratioR (IntKind.i64.wrap
  (IntKind.i64.wrap (IntKind.i64.wrap ((2 : Int) * (placeR4 n c).snd.snd.fst) + (1 : Int)) - n)) n).fst).fst.snd.fst, (pointR (placeR4 n c).fst (ratioR (IntKind.i64.wrap
  (IntKind.i64.wrap (IntKind.i64.wrap ((2 : Int) * (placeR4 n c).snd.fst) + (1 : Int)) - n)) n).fst (ratioR (IntKind.i64.wrap (IntKind.i64.wrap (IntKind.i64.wrap ((2 : Int) *
  (placeR4 n c).snd.snd.fst) + (1 : Int)) - n)) n).fst).fst.snd.snd), Bool.true, ()))
theorem Lx_geom_Middle (n : Int) (c : Int) (h : II n c) : Fx_geom_Middle  n c (fun r => r = middleR n c) := by
  refine ⟨h, ?_⟩
  by_cases ok : placeOk n c = true
  · rw [place_eq ok]
    obtain ⟨n1, n2, f0, f5, i0, i1, j0, j1⟩ := place_mid ok
    dsimp only
    refine Br.intro (fun e => absurd e (by decide)) fun _ => ?_
    have w1 : IntKind.i64.wrap (IntKind.i64.wrap (IntKind.i64.wrap (2 * (c % n)) + 1) - n) = 2 * (c % n) + 1 - n := by
      rw [wi (x := 2 * (c % n)) ⟨by omega, by omega⟩, wi (x := 2 * (c % n) + 1) ⟨by omega, by omega⟩, wi ⟨by omega, by omega⟩]
    have w2 : IntKind.i64.wrap (IntKind.i64.wrap (IntKind.i64.wrap (2 * (c / n % n)) + 1) - n) = 2 * (c / n % n) + 1 - n := by
      rw [wi (x := 2 * (c / n % n)) ⟨by omega, by omega⟩, wi (x := 2 * (c / n % n) + 1) ⟨by omega, by omega⟩, wi ⟨by omega, by omega⟩]
    rw [w1, w2]
    refine ⟨⟨⟨by omega, by omega⟩, n1, h.1⟩, ⟨⟨by omega, by omega⟩, n1, h.1⟩, ⟨f0, f5, divQF_w _ _, divQF_w _ _⟩, ?_⟩
    unfold middleR; rw [if_pos ok]; rfl
  · rw [place_no ok]
    refine Br.intro (fun _ => ?_) fun e => absurd e (by decide)
    unfold middleR; rw [if_neg ok]
def Fx_geom_Length := fun (n c o : Int) (post : Nat × Unit → Prop) => ∃ (h : II n c), ∃ (h : (List.replicate (4 : Nat) ((K.flt Go.FloatKind.f64).pair ((K.flt Go.FloatKind.f64).pair
  (K.flt Go.FloatKind.f64))).dflt).length = (4 : Nat) ∧ (cornersR n c).fst.length = (4 : Nat)), Br (!(cornersR n c).snd.fst) (post ((0 : Nat), ())) (∀ (a : Bool), a = decide (o < (0
  : Int)) → Br a (post ((0 : Nat), ())) (∀ (a : Bool), a = decide (o > (3 : Int)) → Br a (post ((0 : Nat), ())) (∃ (h : (0 : Int) ≤ o ∧ o < (↑(4 : Nat) : Int)), ∃ (h :
  (List.replicate (2 : Nat) (0 : Int)).length = (2 : Nat) ∧ List.length ([[(1 : Int), (2 : Int)], [(3 : Int), (2 : Int)], [(0 : Int), (3 : Int)], [(0 : Int), (1 : Int)]].getD
  o.toNat (K.arr (2 : Nat) (K.int IntKind.i64)).dflt) = (2 : Nat)), ∃ (h : (0 : Int) ≤ (0 : Int) ∧ (0 : Int) < (↑(2 : Nat) : Int) ∧ (2 : Nat) ≤ List.length ([[(1 : Int), (2 : Int)],
  [(3 : Int), (2 : Int)], [(0 : Int), (3 : Int)], [(0 : Int), (1 : Int)]].getD o.toNat (K.arr (2 : Nat) (K.int IntKind.i64)).dflt)), ∃ (h : (0 : Int) ≤ List.getD ([[(1 : Int), (2 :
  Int)], [(3 : Int), (2 : Int)], [(0 : Int), (3 : Int)], [(0 : Int), (1 : Int)]].getD o.toNat (K.arr (2 : Nat) (K.int IntKind.i64)).dflt) (Int.toNat (0 : Int)) (0 : Int) ∧ List.getD
  ([[(1 : Int), (2 : Int)], [(3 : Int), (2 : Int)], [(0 : Int), (3 : Int)], [(0 : Int), (1 : Int)]].getD o.toNat (K.arr (2 : Nat) (K.int IntKind.i64)).dflt) (Int.toNat (0 : Int)) (0
  : Int) < (↑(4 : Nat) : Int) ∧ (4 : Nat) ≤ (cornersR n c).fst.length), ∃ (h : (0 : Int) ≤ (1 : Int) ∧ (1 : Int) < (↑(2 : Nat) : Int) ∧ (2 : Nat) ≤ List.length ([[(1 : Int), (2 :
  Int)], [(3 : Int), (2 : Int)], [(0 : Int), (3 : Int)], [(0 : Int), (1 : Int)]].getD o.toNat (K.arr (2 : Nat) (K.int IntKind.i64)).dflt)), ∃ (h : (0 : Int) ≤ List.getD ([[(1 :
  Int), (2 : Int)], [(3 : Int), (2 : Int)], [(0 : Int), (3 : Int)], [(0 : Int), (1 : Int)]].getD o.toNat (K.arr (2 : Nat) (K.int IntKind.i64)).dflt) (Int.toNat (1 : Int)) (0 : Int)
  ∧ List.getD ([[(1 : Int), (2 : Int)], [(3 : Int), (2 : Int)], [(0 : Int), (3 : Int)], [(0 : Int), (1 : Int)]].getD o.toNat (K.arr (2 : Nat) (K.int IntKind.i64)).dflt) (Int.toNat
  (1 : Int)) (0 : Int) < (↑(4 : Nat) : Int) ∧ (4 : Nat) ≤ (cornersR n c).fst.length), ∃ (h : WV2 ((cornersR n c).fst.getD (Int.toNat (List.getD ([[(1 : Int), (2 : Int)], [(3 : Int),
  (2 : Int)], [(0 : Int), (3 : Int)], [(0 : Int), (1 : Int)]].getD o.toNat (K.arr (2 : Nat) (K.int IntKind.i64)).dflt) (Int.toNat (0 : Int)) (0 : Int))) ((K.flt
  Go.FloatKind.f64).pair ((K.flt Go.FloatKind.f64).pair (K.flt Go.FloatKind.f64))).dflt) ((cornersR n c).fst.getD (Int.toNat (List.getD ([[(1 : Int), (2 : Int)], [(3 : Int), (2 :
  Int)], [(0 : Int), (3 : Int)], [(0 : Int), (1 : Int)]].getD o.toNat (K.arr (2 : Nat) (K.int IntKind.i64)).dflt) (Int.toNat (1 : Int)) (0 : Int))) ((K.flt Go.FloatKind.f64).pair
  ((K.flt Go.FloatKind.f64).pair (K.flt Go.FloatKind.f64))).dflt)), post ((gapR ((cornersR n c).fst.getD (Int.toNat (List.getD ([[(1 : Int), (2 : Int)], [(3 : Int), (2 : Int)], [(0
  : Int), (3 : Int)], [(0 : Int), (1 : Int)]].getD o.toNat (K.arr (2 : Nat) (K.int IntKind.i64)).dflt) (Int.toNat (0 : Int)) (0 : Int))) ((K.flt Go.FloatKind.f64).pair ((K.flt
  Go.FloatKind.f64).pair (K.flt Go.FloatKind.f64))).dflt) ((cornersR n c).fst.getD (Int.toNat (List.getD ([[(1 : Int), (2 : Int)], [(3 : Int), (2 : Int)], [(0 : Int), (3 : Int)],
  [(0 : Int), (1 : Int)]].getD o.toNat (K.arr (2 : Nat) (K.int IntKind.i64)).dflt) (Int.toNat (1 : Int)) (0 : Int))) ((K.flt Go.FloatKind.f64).pair ((K.flt Go.FloatKind.f64).pair
  (K.flt Go.FloatKind.f64))).dflt)).fst, ()))))
theorem Lx_geom_Length (n : Int) (c : Int) (o : Int) (h : III n c o) : Fx_geom_Length  n c o (fun r => r = lengthGR n c o) := by
  have cl := corners_len n c
  refine ⟨⟨h.1, h.2.1⟩, ⟨rfl, cl⟩, ?_⟩
  have no : besideOk n c o = false → ((0 : Nat), ()) = lengthGR n c o := fun q => congrArg r1 (by unfold lengthG; rw [if_neg (by rw [q]; decide)])
  rw [corners_ok]
  refine Br.intro (fun e => no ?_) fun e => ?_
  · unfold besideOk; rw [show placeOk n c = false by simpa using e]; rfl
  have ok : placeOk n c = true := by simpa using e
  rintro _ rfl
  refine Br.intro (fun e => no ?_) fun e => ?_
  · have e := of_decide_eq_true e
    unfold besideOk; rw [decide_eq_false (p := 0 ≤ o) (by omega)]; simp
  have o0 := of_decide_eq_false e
  rintro _ rfl
  refine Br.intro (fun e => no ?_) fun e => ?_
  · have e := of_decide_eq_true e
    unfold besideOk; rw [decide_eq_false (p := o < 4) (by omega)]; simp
  have o4 := of_decide_eq_false e
  have o0 : 0 ≤ o := by omega
  have o4 : o < 4 := by omega
  have okb : besideOk n c o = true := by unfold besideOk; rw [ok, decide_eq_true o0, decide_eq_true o4]; rfl
  have hc : ∀ i : Int, 0 ≤ i → i ≤ 3 → (cornersR n c).1.getD i.toNat ((K.flt Go.FloatKind.f64).pair ((K.flt Go.FloatKind.f64).pair (K.flt Go.FloatKind.f64))).dflt = cornA n c i := fun i a b => corner_at ok a b _
  have c0 := hc 0 (by decide) (by decide)
  have c1 := hc 1 (by decide) (by decide)
  have c2 := hc 2 (by decide) (by decide)
  have c3 := hc 3 (by decide) (by decide)
  have fin : ∀ A B : Nat × Nat × Nat, A = cornA n c (endA o) → B = cornA n c (endB o) → (gapQ A B, ()) = lengthGR n c o := by
    intro A B hA hB
    rw [hA, hB]; exact congrArg r1 (by unfold lengthG; rw [if_pos okb])
  have wA : ∀ i, WV (cornA n c i) := cornA_w n c
  generalize hQ : (cornersR n c).fst = Q at *
  rcases side_cases o0 o4 with rfl | rfl | rfl | rfl
  · exact ⟨⟨by decide, by decide⟩, ⟨rfl, rfl⟩, ⟨by decide, by decide, by decide⟩, ⟨by decide, by decide, Nat.le_of_eq cl.symm⟩, ⟨by decide, by decide, by decide⟩, ⟨by decide, by decide, Nat.le_of_eq cl.symm⟩, ⟨c1 ▸ wA 1, c2 ▸ wA 2⟩, fin _ _ c1 c2⟩
  · exact ⟨⟨by decide, by decide⟩, ⟨rfl, rfl⟩, ⟨by decide, by decide, by decide⟩, ⟨by decide, by decide, Nat.le_of_eq cl.symm⟩, ⟨by decide, by decide, by decide⟩, ⟨by decide, by decide, Nat.le_of_eq cl.symm⟩, ⟨c3 ▸ wA 3, c2 ▸ wA 2⟩, fin _ _ c3 c2⟩
  · exact ⟨⟨by decide, by decide⟩, ⟨rfl, rfl⟩, ⟨by decide, by decide, by decide⟩, ⟨by decide, by decide, Nat.le_of_eq cl.symm⟩, ⟨by decide, by decide, by decide⟩, ⟨by decide, by decide, Nat.le_of_eq cl.symm⟩, ⟨c0 ▸ wA 0, c3 ▸ wA 3⟩, fin _ _ c0 c3⟩
  · exact ⟨⟨by decide, by decide⟩, ⟨rfl, rfl⟩, ⟨by decide, by decide, by decide⟩, ⟨by decide, by decide, Nat.le_of_eq cl.symm⟩, ⟨by decide, by decide, by decide⟩, ⟨by decide, by decide, Nat.le_of_eq cl.symm⟩, ⟨c0 ▸ wA 0, c1 ▸ wA 1⟩, fin _ _ c0 c1⟩
def Fx_geom_Gap := fun (n c o : Int) (post : Nat × Unit → Prop) => ∃ (h : III n c o), ∀ (a : Int × Int × Unit), a = besideR n c o → ∃ (h : II n c), ∀ (a_1 : (Nat × Nat × Nat) × Bool
  × Unit), a_1 = middleR n c → ∃ (h : II n a.fst), ∀ (a_2 : (Nat × Nat × Nat) × Bool × Unit), a_2 = middleR n a.fst → Br (!a_1.snd.fst) (post ((0 : Nat), ())) (Br (!a_2.snd.fst)
  (post ((0 : Nat), ())) (∃ (h : WV2 (a_1.fst.fst, a_1.fst.snd.fst, a_1.fst.snd.snd) (a_2.fst.fst, a_2.fst.snd.fst, a_2.fst.snd.snd)), post ((gapR (a_1.fst.fst, a_1.fst.snd.fst,
  a_1.fst.snd.snd) (a_2.fst.fst, a_2.fst.snd.fst, a_2.fst.snd.snd)).fst, ())))
theorem Lx_geom_Gap (n : Int) (c : Int) (o : Int) (h : III n c o) : Fx_geom_Gap  n c o (fun r => r = gapGR n c o) := by
  have br := beside_rng n c o
  refine ⟨h, ?_⟩
  rintro ⟨b, q, ⟨⟩⟩ hb
  have eb : b = (besideI n c o).1 := congrArg Prod.fst hb
  rw [← eb] at br
  refine ⟨⟨h.1, h.2.1⟩, ?_⟩
  rintro ⟨⟨A1, A2, A3⟩, p, ⟨⟩⟩ hA
  refine ⟨⟨h.1, by omega, by omega⟩, ?_⟩
  rintro ⟨⟨B1, B2, B3⟩, r, ⟨⟩⟩ hB
  have hA : ((A1, A2, A3), p, ()) = middleR n c := hA
  have hB : ((B1, B2, B3), r, ()) = middleR n b := hB
  have key : ∀ z, middleR n z = if placeOk n z then (middleQ n z, true, ()) else ((0, 0, 0), false, ()) := fun z => rfl
  have bt : ∀ {z : Bool}, z = true → ¬ (!z) = true := fun {z} e => by rw [e]; decide
  have bf : ∀ {z : Bool}, z = false → ¬ (!z) = false := fun {z} e => by rw [e]; decide
  by_cases o1 : placeOk n c = true
  · rw [key, if_pos o1] at hA
    obtain ⟨eA, e1⟩ := Prod.mk.inj hA
    have ep : p = true := congrArg Prod.fst e1
    refine Br.intro (fun e => absurd e (bt ep)) fun _ => ?_
    by_cases o2 : placeOk n b = true
    · rw [key, if_pos o2] at hB
      obtain ⟨eB, e2⟩ := Prod.mk.inj hB
      have er : r = true := congrArg Prod.fst e2
      refine Br.intro (fun e => absurd e (bt er)) fun _ => ?_
      have hw : WV2 (A1, A2, A3) (B1, B2, B3) := ⟨by rw [eA]; exact middleQ_w _ _, by rw [eB]; exact middleQ_w _ _⟩
      have hg : gapQ (A1, A2, A3) (B1, B2, B3) = gapG n c o := by
        rw [eA, eB]; unfold gapG; rw [← eb, o1, o2, if_pos (by decide)]
      exact ⟨hw, congrArg r1 hg⟩
    · rw [key, if_neg o2] at hB
      obtain ⟨eB, e2⟩ := Prod.mk.inj hB
      have er : r = false := congrArg Prod.fst e2
      refine Br.intro (fun _ => congrArg r1 ?_) fun e => absurd e (bf er)
      unfold gapG; rw [← eb, o1, show placeOk n b = false by simpa using o2]; rfl
  · rw [key, if_neg o1] at hA
    obtain ⟨eA, e1⟩ := Prod.mk.inj hA
    have ep : p = false := congrArg Prod.fst e1
    refine Br.intro (fun _ => congrArg r1 ?_) fun e => absurd e (bf ep)
    unfold gapG; rw [show placeOk n c = false by simpa using o1]; rfl
end Go.Lift

set_option linter.unusedVariables false
set_option linter.unusedSimpArgs false
namespace Go.Lift
def Fx_geom_ratio := fun (a b : Int) (post : Nat × Unit → Prop) => ∀ (a_1 : Nat), FRes Go.FloatKind.f64 (Go.FloatKind.f64.format.div (Go.FloatKind.f64.nearest a)
  (Go.FloatKind.f64.nearest b)) a_1 → post (a_1, ())
theorem Lx_geom_ratio (a : Int) (b : Int) (h : WRatio a b) : Fx_geom_ratio  a b (fun r => r = ratioR a b) := by
  intro r hr
  exact congrArg r1 (div_ofI h.1 h.2.1 h.2.2 hr)
def Fx_geom_point := fun (ty72 ty98 : Nat) (f : Int) (s t : Nat) (post : (Nat × Nat × Nat) × Unit → Prop) => ∃ (post_1 : Unit → List Nat × Unit → Prop), (∃ (h : (0 : Int) ≤ (0 :
  Int) ∧ (0 : Int) < (↑(3 : Nat) : Int)), ∃ (h : (0 : Int) ≤ f ∧ f < (↑(6 : Nat) : Int)), ∃ (h : (0 : Int) ≤ (0 : Int) ∧ (0 : Int) < (↑(3 : Nat) : Int)), ∃ (h : (0 : Int) ≤ (0 :
  Int) ∧ (0 : Int) < (↑(3 : Nat) : Int)), Br (List.getD (List.getD (framesL.getD f.toNat (K.arr (3 : Nat) (K.arr (3 : Nat) (K.int IntKind.i64))).dflt) (Int.toNat (0 : Int)) (K.arr
  (3 : Nat) (K.int IntKind.i64)).dflt) (Int.toNat (0 : Int)) (0 : Int) == (1 : Int)) (∃ (h : True), ∃ (h : (0 : Int) ≤ (0 : Int) ∧ (0 : Int) < (↑(3 : Nat) : Int) ∧ (3 : Nat) ≤
  (List.replicate (3 : Nat) (0 : Nat)).length), HIs [HObj.box Md.rw ty72 [SV.val (Go.Value.float Go.FloatKind.f64 (0 : Nat)), SV.val (Go.Value.float Go.FloatKind.f64 (0 : Nat)),
  SV.val (Go.Value.float Go.FloatKind.f64 (0 : Nat))], HObj.row Md.rw ty98 (K.flt Go.FloatKind.f64) ((List.replicate (3 : Nat) (0 : Nat)).set (Int.toNat (0 : Int)) (canonR
  ([(4607182418800017408 : Nat), s, t].getD (Int.toNat (0 : Int)) (0 : Nat))).fst)] [HObj.box Md.rw ty72 [SV.val (Go.Value.float Go.FloatKind.f64 (0 : Nat)), SV.val (Go.Value.float
  Go.FloatKind.f64 (0 : Nat)), SV.val (Go.Value.float Go.FloatKind.f64 (0 : Nat))], HObj.row Md.rw ty98 (K.flt Go.FloatKind.f64) ((List.replicate (3 : Nat) (0 : Nat)).set (Int.toNat
  (0 : Int)) (canonR ([(4607182418800017408 : Nat), s, t].getD (Int.toNat (0 : Int)) (0 : Nat))).fst)] ∧ post_1 () ((List.replicate (3 : Nat) (0 : Nat)).set (Int.toNat (0 : Int))
  (canonR ([(4607182418800017408 : Nat), s, t].getD (Int.toNat (0 : Int)) (0 : Nat))).fst, ())) (Br (List.getD (List.getD (framesL.getD f.toNat (K.arr (3 : Nat) (K.arr (3 : Nat)
  (K.int IntKind.i64))).dflt) (Int.toNat (0 : Int)) (K.arr (3 : Nat) (K.int IntKind.i64)).dflt) (Int.toNat (0 : Int)) (0 : Int) == (-1 : Int)) (∃ (h : True), ∃ (h : (0 : Int) ≤ (0 :
  Int) ∧ (0 : Int) < (↑(3 : Nat) : Int) ∧ (3 : Nat) ≤ (List.replicate (3 : Nat) (0 : Nat)).length), HIs [HObj.box Md.rw ty72 [SV.val (Go.Value.float Go.FloatKind.f64 (0 : Nat)),
  SV.val (Go.Value.float Go.FloatKind.f64 (0 : Nat)), SV.val (Go.Value.float Go.FloatKind.f64 (0 : Nat))], HObj.row Md.rw ty98 (K.flt Go.FloatKind.f64) ((List.replicate (3 : Nat) (0
  : Nat)).set (Int.toNat (0 : Int)) (canonR (Go.Op.negFloat Go.FloatKind.f64 ([(4607182418800017408 : Nat), s, t].getD (Int.toNat (0 : Int)) (0 : Nat)))).fst)] [HObj.box Md.rw ty72
  [SV.val (Go.Value.float Go.FloatKind.f64 (0 : Nat)), SV.val (Go.Value.float Go.FloatKind.f64 (0 : Nat)), SV.val (Go.Value.float Go.FloatKind.f64 (0 : Nat))], HObj.row Md.rw ty98
  (K.flt Go.FloatKind.f64) ((List.replicate (3 : Nat) (0 : Nat)).set (Int.toNat (0 : Int)) (canonR (Go.Op.negFloat Go.FloatKind.f64 ([(4607182418800017408 : Nat), s, t].getD
  (Int.toNat (0 : Int)) (0 : Nat)))).fst)] ∧ post_1 () ((List.replicate (3 : Nat) (0 : Nat)).set (Int.toNat (0 : Int)) (canonR (Go.Op.negFloat Go.FloatKind.f64
  ([(4607182418800017408 : Nat), s, t].getD (Int.toNat (0 : Int)) (0 : Nat)))).fst, ())) (HIs [HObj.box Md.rw ty72 [SV.val (Go.Value.float Go.FloatKind.f64 (0 : Nat)), SV.val
  (Go.Value.float Go.FloatKind.f64 (0 : Nat)), SV.val (Go.Value.float Go.FloatKind.f64 (0 : Nat))], HObj.row Md.rw ty98 (K.flt Go.FloatKind.f64) (List.replicate (3 : Nat) (0 :
  Nat))] [HObj.box Md.rw ty72 [SV.val (Go.Value.float Go.FloatKind.f64 (0 : Nat)), SV.val (Go.Value.float Go.FloatKind.f64 (0 : Nat)), SV.val (Go.Value.float Go.FloatKind.f64 (0 :
  Nat))], HObj.row Md.rw ty98 (K.flt Go.FloatKind.f64) (List.replicate (3 : Nat) (0 : Nat))] ∧ post_1 () (List.replicate (3 : Nat) (0 : Nat), ())))) ∧ ∀ (x : Unit) (y : List Nat ×
  Unit), post_1 x y → ∃ (post_2 : Unit → List Nat × Unit → Prop), (∃ (h : (0 : Int) ≤ IntKind.i64.wrap ((0 : Int) + (1 : Int)) ∧ IntKind.i64.wrap ((0 : Int) + (1 : Int)) < (↑(3 :
  Nat) : Int)), ∃ (h : (0 : Int) ≤ f ∧ f < (↑(6 : Nat) : Int)), ∃ (h : (0 : Int) ≤ IntKind.i64.wrap ((0 : Int) + (1 : Int)) ∧ IntKind.i64.wrap ((0 : Int) + (1 : Int)) < (↑(3 : Nat)
  : Int)), ∃ (h : (0 : Int) ≤ (0 : Int) ∧ (0 : Int) < (↑(3 : Nat) : Int)), Br (List.getD (List.getD (framesL.getD f.toNat (K.arr (3 : Nat) (K.arr (3 : Nat) (K.int
  IntKind.i64))).dflt) (IntKind.i64.wrap ((0 : Int) + (1 : Int))).toNat (K.arr (3 : Nat) (K.int IntKind.i64)).dflt) (Int.toNat (0 : Int)) (0 : Int) == (1 : Int)) (∃ (h : True), ∃ (h
  : (0 : Int) ≤ (0 : Int) ∧ (0 : Int) < (↑(3 : Nat) : Int) ∧ (3 : Nat) ≤ y.fst.length), HIs [HObj.box Md.rw ty72 [SV.val (Go.Value.float Go.FloatKind.f64 (0 : Nat)), SV.val
  (Go.Value.float Go.FloatKind.f64 (0 : Nat)), SV.val (Go.Value.float Go.FloatKind.f64 (0 : Nat))], HObj.row Md.rw ty98 (K.flt Go.FloatKind.f64) (y.fst.set (Int.toNat (0 : Int))
  (canonR ([(4607182418800017408 : Nat), s, t].getD (IntKind.i64.wrap ((0 : Int) + (1 : Int))).toNat (0 : Nat))).fst)] [HObj.box Md.rw ty72 [SV.val (Go.Value.float Go.FloatKind.f64
  (0 : Nat)), SV.val (Go.Value.float Go.FloatKind.f64 (0 : Nat)), SV.val (Go.Value.float Go.FloatKind.f64 (0 : Nat))], HObj.row Md.rw ty98 (K.flt Go.FloatKind.f64) (y.fst.set
  (Int.toNat (0 : Int)) (canonR ([(4607182418800017408 : Nat), s, t].getD (IntKind.i64.wrap ((0 : Int) + (1 : Int))).toNat (0 : Nat))).fst)] ∧ post_2 () (y.fst.set (Int.toNat (0 :
  Int)) (canonR ([(4607182418800017408 : Nat), s, t].getD (IntKind.i64.wrap ((0 : Int) + (1 : Int))).toNat (0 : Nat))).fst, ())) (Br (List.getD (List.getD (framesL.getD f.toNat
  (K.arr (3 : Nat) (K.arr (3 : Nat) (K.int IntKind.i64))).dflt) (IntKind.i64.wrap ((0 : Int) + (1 : Int))).toNat (K.arr (3 : Nat) (K.int IntKind.i64)).dflt) (Int.toNat (0 : Int)) (0
  : Int) == (-1 : Int)) (∃ (h : True), ∃ (h : (0 : Int) ≤ (0 : Int) ∧ (0 : Int) < (↑(3 : Nat) : Int) ∧ (3 : Nat) ≤ y.fst.length), HIs [HObj.box Md.rw ty72 [SV.val (Go.Value.float
  Go.FloatKind.f64 (0 : Nat)), SV.val (Go.Value.float Go.FloatKind.f64 (0 : Nat)), SV.val (Go.Value.float Go.FloatKind.f64 (0 : Nat))], HObj.row Md.rw ty98 (K.flt Go.FloatKind.f64)
  (y.fst.set (Int.toNat (0 : Int)) (canonR (Go.Op.negFloat Go.FloatKind.f64 ([(4607182418800017408 : Nat), s, t].getD (IntKind.i64.wrap ((0 : Int) + (1 : Int))).toNat (0 :
  Nat)))).fst)] [HObj.box Md.rw ty72 [SV.val (Go.Value.float Go.FloatKind.f64 (0 : Nat)), SV.val (Go.Value.float Go.FloatKind.f64 (0 : Nat)), SV.val (Go.Value.float Go.FloatKind.f64
  (0 : Nat))], HObj.row Md.rw ty98 (K.flt Go.FloatKind.f64) (y.fst.set (Int.toNat (0 : Int)) (canonR (Go.Op.negFloat Go.FloatKind.f64 ([(4607182418800017408 : Nat), s, t].getD
  (IntKind.i64.wrap ((0 : Int) + (1 : Int))).toNat (0 : Nat)))).fst)] ∧ post_2 () (y.fst.set (Int.toNat (0 : Int)) (canonR (Go.Op.negFloat Go.FloatKind.f64 ([(4607182418800017408 :
  Nat), s, t].getD (IntKind.i64.wrap ((0 : Int) + (1 : Int))).toNat (0 : Nat)))).fst, ())) (HIs [HObj.box Md.rw ty72 [SV.val (Go.Value.float Go.FloatKind.f64 (0 : Nat)), SV.val
  (Go.Value.float Go.FloatKind.f64 (0 : Nat)), SV.val (Go.Value.float Go.FloatKind.f64 (0 : Nat))], HObj.row Md.rw ty98 (K.flt Go.FloatKind.f64) y.fst] [HObj.box Md.rw ty72 [SV.val
  (Go.Value.float Go.FloatKind.f64 (0 : Nat)), SV.val (Go.Value.float Go.FloatKind.f64 (0 : Nat)), SV.val (Go.Value.float Go.FloatKind.f64 (0 : Nat))], HObj.row Md.rw ty98 (K.flt
  Go.FloatKind.f64) y.fst] ∧ post_2 () (y.fst, ())))) ∧ ∀ (x : Unit) (y : List Nat × Unit), post_2 x y → ∃ (post_3 : Unit → List Nat × Unit → Prop), (∃ (h : (0 : Int) ≤
  IntKind.i64.wrap (IntKind.i64.wrap ((0 : Int) + (1 : Int)) + (1 : Int)) ∧ IntKind.i64.wrap (IntKind.i64.wrap ((0 : Int) + (1 : Int)) + (1 : Int)) < (↑(3 : Nat) : Int)), ∃ (h : (0
  : Int) ≤ f ∧ f < (↑(6 : Nat) : Int)), ∃ (h : (0 : Int) ≤ IntKind.i64.wrap (IntKind.i64.wrap ((0 : Int) + (1 : Int)) + (1 : Int)) ∧ IntKind.i64.wrap (IntKind.i64.wrap ((0 : Int) +
  (1 : Int)) + (1 : Int)) < (↑(3 : Nat) : Int)), ∃ (h : (0 : Int) ≤ (0 : Int) ∧ (0 : Int) < (↑(3 : Nat) : Int)), Br (List.getD (List.getD (framesL.getD f.toNat (K.arr (3 : Nat)
  (K.arr (3 : Nat) (K.int IntKind.i64))).dflt) (IntKind.i64.wrap (IntKind.i64.wrap ((0 : Int) + (1 : Int)) + (1 : Int))).toNat (K.arr (3 : Nat) (K.int IntKind.i64)).dflt) (Int.toNat
  (0 : Int)) (0 : Int) == (1 : Int)) (∃ (h : True), ∃ (h : (0 : Int) ≤ (0 : Int) ∧ (0 : Int) < (↑(3 : Nat) : Int) ∧ (3 : Nat) ≤ y.fst.length), HIs [HObj.box Md.rw ty72 [SV.val
  (Go.Value.float Go.FloatKind.f64 (0 : Nat)), SV.val (Go.Value.float Go.FloatKind.f64 (0 : Nat)), SV.val (Go.Value.float Go.FloatKind.f64 (0 : Nat))], HObj.row Md.rw ty98 (K.flt
  Go.FloatKind.f64) (y.fst.set (Int.toNat (0 : Int)) (canonR ([(4607182418800017408 : Nat), s, t].getD (IntKind.i64.wrap (IntKind.i64.wrap ((0 : Int) + (1 : Int)) + (1 :
  Int))).toNat (0 : Nat))).fst)] [HObj.box Md.rw ty72 [SV.val (Go.Value.float Go.FloatKind.f64 (0 : Nat)), SV.val (Go.Value.float Go.FloatKind.f64 (0 : Nat)), SV.val (Go.Value.float
  Go.FloatKind.f64 (0 : Nat))], HObj.row Md.rw ty98 (K.flt Go.FloatKind.f64) (y.fst.set (Int.toNat (0 : Int)) (canonR ([(4607182418800017408 : Nat), s, t].getD (IntKind.i64.wrap
  (IntKind.i64.wrap ((0 : Int) + (1 : Int)) + (1 : Int))).toNat (0 : Nat))).fst)] ∧ post_3 () (y.fst.set (Int.toNat (0 : Int)) (canonR ([(4607182418800017408 : Nat), s, t].getD
  (IntKind.i64.wrap (IntKind.i64.wrap ((0 : Int) + (1 : Int)) + (1 : Int))).toNat (0 : Nat))).fst, ())) (Br (List.getD (List.getD (framesL.getD f.toNat (K.arr (3 : Nat) (K.arr (3 :
  Nat) (K.int IntKind.i64))).dflt) (IntKind.i64.wrap (IntKind.i64.wrap ((0 : Int) + (1 : Int)) + (1 : Int))).toNat (K.arr (3 : Nat) (K.int IntKind.i64)).dflt) (Int.toNat (0 : Int))
  (0 : Int) == (-1 : Int)) (∃ (h : True), ∃ (h : (0 : Int) ≤ (0 : Int) ∧ (0 : Int) < (↑(3 : Nat) : Int) ∧ (3 : Nat) ≤ y.fst.length), HIs [HObj.box Md.rw ty72 [SV.val (Go.Value.float
  Go.FloatKind.f64 (0 : Nat)), SV.val (Go.Value.float Go.FloatKind.f64 (0 : Nat)), SV.val (Go.Value.float Go.FloatKind.f64 (0 : Nat))], HObj.row Md.rw ty98 (K.flt Go.FloatKind.f64)
  (y.fst.set (Int.toNat (0 : Int)) (canonR (Go.Op.negFloat Go.FloatKind.f64 ([(4607182418800017408 : Nat), s, t].getD (IntKind.i64.wrap (IntKind.i64.wrap ((0 : Int) + (1 : Int)) +
  (1 : Int))).toNat (0 : Nat)))).fst)] [HObj.box Md.rw ty72 [SV.val (Go.Value.float Go.FloatKind.f64 (0 : Nat)), SV.val (Go.Value.float Go.FloatKind.f64 (0 : Nat)), SV.val
  (Go.Value.float Go.FloatKind.f64 (0 : Nat))], HObj.row Md.rw ty98 (K.flt Go.FloatKind.f64) (y.fst.set (Int.toNat (0 : Int)) (canonR (Go.Op.negFloat Go.FloatKind.f64
  ([(4607182418800017408 : Nat), s, t].getD (IntKind.i64.wrap (IntKind.i64.wrap ((0 : Int) + (1 : Int)) + (1 : Int))).toNat (0 : Nat)))).fst)] ∧ post_3 () (y.fst.set (Int.toNat (0 :
  Int)) (canonR (Go.Op.negFloat Go.FloatKind.f64 ([(4607182418800017408 : Nat), s, t].getD (IntKind.i64.wrap (IntKind.i64.wrap ((0 : Int) + (1 : Int)) + (1 : Int))).toNat (0 :
  Nat)))).fst, ())) (HIs [HObj.box Md.rw ty72 [SV.val (Go.Value.float Go.FloatKind.f64 (0 : Nat)), SV.val (Go.Value.float Go.FloatKind.f64 (0 : Nat)), SV.val (Go.Value.float
  Go.FloatKind.f64 (0 : Nat))], HObj.row Md.rw ty98 (K.flt Go.FloatKind.f64) y.fst] [HObj.box Md.rw ty72 [SV.val (Go.Value.float Go.FloatKind.f64 (0 : Nat)), SV.val (Go.Value.float
  Go.FloatKind.f64 (0 : Nat)), SV.val (Go.Value.float Go.FloatKind.f64 (0 : Nat))], HObj.row Md.rw ty98 (K.flt Go.FloatKind.f64) y.fst] ∧ post_3 () (y.fst, ())))) ∧ ∀ (x : Unit) (y
  : List Nat × Unit), post_3 x y → ∃ (post_4 : Unit → List Nat × Unit → Prop), (∃ (h : (0 : Int) ≤ (0 : Int) ∧ (0 : Int) < (↑(3 : Nat) : Int)), ∃ (h : (0 : Int) ≤ f ∧ f < (↑(6 :
  Nat) : Int)), ∃ (h : (0 : Int) ≤ (0 : Int) ∧ (0 : Int) < (↑(3 : Nat) : Int)), ∃ (h : (0 : Int) ≤ IntKind.i64.wrap ((0 : Int) + (1 : Int)) ∧ IntKind.i64.wrap ((0 : Int) + (1 :
  Int)) < (↑(3 : Nat) : Int)), Br (List.getD (List.getD (framesL.getD f.toNat (K.arr (3 : Nat) (K.arr (3 : Nat) (K.int IntKind.i64))).dflt) (Int.toNat (0 : Int)) (K.arr (3 : Nat)
  (K.int IntKind.i64)).dflt) (IntKind.i64.wrap ((0 : Int) + (1 : Int))).toNat (0 : Int) == (1 : Int)) (∃ (h : True), ∃ (h : (0 : Int) ≤ IntKind.i64.wrap ((0 : Int) + (1 : Int)) ∧
  IntKind.i64.wrap ((0 : Int) + (1 : Int)) < (↑(3 : Nat) : Int) ∧ (3 : Nat) ≤ y.fst.length), HIs [HObj.box Md.rw ty72 [SV.val (Go.Value.float Go.FloatKind.f64 (0 : Nat)), SV.val
  (Go.Value.float Go.FloatKind.f64 (0 : Nat)), SV.val (Go.Value.float Go.FloatKind.f64 (0 : Nat))], HObj.row Md.rw ty98 (K.flt Go.FloatKind.f64) (y.fst.set (IntKind.i64.wrap ((0 :
  Int) + (1 : Int))).toNat (canonR ([(4607182418800017408 : Nat), s, t].getD (Int.toNat (0 : Int)) (0 : Nat))).fst)] [HObj.box Md.rw ty72 [SV.val (Go.Value.float Go.FloatKind.f64 (0
  : Nat)), SV.val (Go.Value.float Go.FloatKind.f64 (0 : Nat)), SV.val (Go.Value.float Go.FloatKind.f64 (0 : Nat))], HObj.row Md.rw ty98 (K.flt Go.FloatKind.f64) (y.fst.set
  (IntKind.i64.wrap ((0 : Int) + (1 : Int))).toNat (canonR ([(4607182418800017408 : Nat), s, t].getD (Int.toNat (0 : Int)) (0 : Nat))).fst)] ∧ post_4 () (y.fst.set (IntKind.i64.wrap
  ((0 : Int) + (1 : Int))).toNat (canonR ([(4607182418800017408 : Nat), s, t].getD (Int.toNat (0 : Int)) (0 : Nat))).fst, ())) (Br (List.getD (List.getD (framesL.getD f.toNat (K.arr
  (3 : Nat) (K.arr (3 : Nat) (K.int IntKind.i64))).dflt) (Int.toNat (0 : Int)) (K.arr (3 : Nat) (K.int IntKind.i64)).dflt) (IntKind.i64.wrap ((0 : Int) + (1 : Int))).toNat (0 : Int)
  == (-1 : Int)) (∃ (h : True), ∃ (h : (0 : Int) ≤ IntKind.i64.wrap ((0 : Int) + (1 : Int)) ∧ IntKind.i64.wrap ((0 : Int) + (1 : Int)) < (↑(3 : Nat) : Int) ∧ (3 : Nat) ≤
  y.fst.length), HIs [HObj.box Md.rw ty72 [SV.val (Go.Value.float Go.FloatKind.f64 (0 : Nat)), SV.val (Go.Value.float Go.FloatKind.f64 (0 : Nat)), SV.val (Go.Value.float
  Go.FloatKind.f64 (0 : Nat))], HObj.row Md.rw ty98 (K.flt Go.FloatKind.f64) (y.fst.set (IntKind.i64.wrap ((0 : Int) + (1 : Int))).toNat (canonR (Go.Op.negFloat Go.FloatKind.f64
  ([(4607182418800017408 : Nat), s, t].getD (Int.toNat (0 : Int)) (0 : Nat)))).fst)] [HObj.box Md.rw ty72 [SV.val (Go.Value.float Go.FloatKind.f64 (0 : Nat)), SV.val (Go.Value.float
  Go.FloatKind.f64 (0 : Nat)), SV.val (Go.Value.float Go.FloatKind.f64 (0 : Nat))], HObj.row Md.rw ty98 (K.flt Go.FloatKind.f64) (y.fst.set (IntKind.i64.wrap ((0 : Int) + (1 :
  Int))).toNat (canonR (Go.Op.negFloat Go.FloatKind.f64 ([(4607182418800017408 : Nat), s, t].getD (Int.toNat (0 : Int)) (0 : Nat)))).fst)] ∧ post_4 () (y.fst.set (IntKind.i64.wrap
  ((0 : Int) + (1 : Int))).toNat (canonR (Go.Op.negFloat Go.FloatKind.f64 ([(4607182418800017408 : Nat), s, t].getD (Int.toNat (0 : Int)) (0 : Nat)))).fst, ())) (HIs [HObj.box Md.rw
  ty72 [SV.val (Go.Value.float Go.FloatKind.f64 (0 : Nat)), SV.val (Go.Value.float Go.FloatKind.f64 (0 : Nat)), SV.val (Go.Value.float Go.FloatKind.f64 (0 : Nat))], HObj.row Md.rw
  ty98 (K.flt Go.FloatKind.f64) y.fst] [HObj.box Md.rw ty72 [SV.val (Go.Value.float Go.FloatKind.f64 (0 : Nat)), SV.val (Go.Value.float Go.FloatKind.f64 (0 : Nat)), SV.val
  (Go.Value.float Go.FloatKind.f64 (0 : Nat))], HObj.row Md.rw ty98 (K.flt Go.FloatKind.f64) y.fst] ∧ post_4 () (y.fst, ())))) ∧ ∀ (x : Unit) (y : List Nat × Unit), post_4 x y → ∃
  (post_5 : Unit → List Nat × Unit → Prop), (∃ (h : (0 : Int) ≤ IntKind.i64.wrap ((0 : Int) + (1 : Int)) ∧ IntKind.i64.wrap ((0 : Int) + (1 : Int)) < (↑(3 : Nat) : Int)), ∃ (h : (0
  : Int) ≤ f ∧ f < (↑(6 : Nat) : Int)), ∃ (h : (0 : Int) ≤ IntKind.i64.wrap ((0 : Int) + (1 : Int)) ∧ IntKind.i64.wrap ((0 : Int) + (1 : Int)) < (↑(3 : Nat) : Int)), ∃ (h : (0 :
  Int) ≤ IntKind.i64.wrap ((0 : Int) + (1 : Int)) ∧ IntKind.i64.wrap ((0 : Int) + (1 : Int)) < (↑(3 : Nat) : Int)), Br (List.getD (List.getD (framesL.getD f.toNat (K.arr (3 : Nat)
  (K.arr (3 : Nat) (K.int IntKind.i64))).dflt) (IntKind.i64.wrap ((0 : Int) + (1 : Int))).toNat (K.arr (3 : Nat) (K.int IntKind.i64)).dflt) (IntKind.i64.wrap ((0 : Int) + (1 :
  Int))).toNat (0 : Int) == (1 : Int)) (∃ (h : True), ∃ (h : (0 : Int) ≤ IntKind.i64.wrap ((0 : Int) + (1 : Int)) ∧ IntKind.i64.wrap ((0 : Int) + (1 : Int)) < (↑(3 : Nat) : Int) ∧
  (3 : Nat) ≤ y.fst.length), HIs [HObj.box Md.rw ty72 [SV.val (Go.Value.float Go.FloatKind.f64 (0 : Nat)), SV.val (Go.Value.float Go.FloatKind.f64 (0 : Nat)), SV.val (Go.Value.float
  Go.FloatKind.f64 (0 : Nat))], HObj.row Md.rw ty98 (K.flt Go.FloatKind.f64) (y.fst.set (IntKind.i64.wrap ((0 : Int) + (1 : Int))).toNat (canonR ([(4607182418800017408 : Nat), s,
  t].getD (IntKind.i64.wrap ((0 : Int) + (1 : Int))).toNat (0 : Nat))).fst)] [HObj.box Md.rw ty72 [SV.val (Go.Value.float Go.FloatKind.f64 (0 : Nat)), SV.val (Go.Value.float
  Go.FloatKind.f64 (0 : Nat)), SV.val (Go.Value.float Go.FloatKind.f64 (0 : Nat))], HObj.row Md.rw ty98 (K.flt Go.FloatKind.f64) (y.fst.set (IntKind.i64.wrap ((0 : Int) + (1 :
  Int))).toNat (canonR ([(4607182418800017408 : Nat), s, t].getD (IntKind.i64.wrap ((0 : Int) + (1 : Int))).toNat (0 : Nat))).fst)] ∧ post_5 () (y.fst.set (IntKind.i64.wrap ((0 :
  Int) + (1 : Int))).toNat (canonR ([(4607182418800017408 : Nat), s, t].getD (IntKind.i64.wrap ((0 : Int) + (1 : Int))).toNat (0 : Nat))).fst, ())) (Br (List.getD (List.getD
  (framesL.getD f.toNat (K.arr (3 : Nat) (K.arr (3 : Nat) (K.int IntKind.i64))).dflt) (IntKind.i64.wrap ((0 : Int) + (1 : Int))).toNat (K.arr (3 : Nat) (K.int IntKind.i64)).dflt)
  (IntKind.i64.wrap ((0 : Int) + (1 : Int))).toNat (0 : Int) == (-1 : Int)) (∃ (h : True), ∃ (h : (0 : Int) ≤ IntKind.i64.wrap ((0 : Int) + (1 : Int)) ∧ IntKind.i64.wrap ((0 : Int)
  + (1 : Int)) < (↑(3 : Nat) : Int) ∧ (3 : Nat) ≤ y.fst.length), HIs [HObj.box Md.rw ty72 [SV.val (Go.Value.float Go.FloatKind.f64 (0 : Nat)), SV.val (Go.Value.float
  Go.FloatKind.f64 (0 : Nat)), SV.val (Go.Value.float Go.FloatKind.f64 (0 : Nat))], HObj.row Md.rw ty98 (K.flt Go.FloatKind.f64) (y.fst.set (IntKind.i64.wrap ((0 : Int) + (1 :
  Int))).toNat (canonR (Go.Op.negFloat Go.FloatKind.f64 ([(4607182418800017408 : Nat), s, t].getD (IntKind.i64.wrap ((0 : Int) + (1 : Int))).toNat (0 : Nat)))).fst)] [HObj.box Md.rw
  ty72 [SV.val (Go.Value.float Go.FloatKind.f64 (0 : Nat)), SV.val (Go.Value.float Go.FloatKind.f64 (0 : Nat)), SV.val (Go.Value.float Go.FloatKind.f64 (0 : Nat))], HObj.row Md.rw
  ty98 (K.flt Go.FloatKind.f64) (y.fst.set (IntKind.i64.wrap ((0 : Int) + (1 : Int))).toNat (canonR (Go.Op.negFloat Go.FloatKind.f64 ([(4607182418800017408 : Nat), s, t].getD
  (IntKind.i64.wrap ((0 : Int) + (1 : Int))).toNat (0 : Nat)))).fst)] ∧ post_5 () (y.fst.set (IntKind.i64.wrap ((0 : Int) + (1 : Int))).toNat (canonR (Go.Op.negFloat
  Go.FloatKind.f64 ([(4607182418800017408 : Nat), s, t].getD (IntKind.i64.wrap ((0 : Int) + (1 : Int))).toNat (0 : Nat)))).fst, ())) (HIs [HObj.box Md.rw ty72 [SV.val
  (Go.Value.float Go.FloatKind.f64 (0 : Nat)), SV.val (Go.Value.float Go.FloatKind.f64 (0 : Nat)), SV.val (Go.Value.float Go.FloatKind.f64 (0 : Nat))], HObj.row Md.rw ty98 (K.flt
  Go.FloatKind.f64) y.fst] [HObj.box Md.rw ty72 [SV.val (Go.Value.float Go.FloatKind.f64 (0 : Nat)), SV.val (Go.Value.float Go.FloatKind.f64 (0 : Nat)), SV.val (Go.Value.float
  Go.FloatKind.f64 (0 : Nat))], HObj.row Md.rw ty98 (K.flt Go.FloatKind.f64) y.fst] ∧ post_5 () (y.fst, ())))) ∧ ∀ (x : Unit) (y : List Nat × Unit), post_5 x y → ∃ (post_6 : Unit →
  List Nat × Unit → Prop), (∃ (h : (0 : Int) ≤ IntKind.i64.wrap (IntKind.i64.wrap ((0 : Int) + (1 : Int)) + (1 : Int)) ∧ IntKind.i64.wrap (IntKind.i64.wrap ((0 : Int) + (1 : Int)) +
  (1 : Int)) < (↑(3 : Nat) : Int)), ∃ (h : (0 : Int) ≤ f ∧ f < (↑(6 : Nat) : Int)), ∃ (h : (0 : Int) ≤ IntKind.i64.wrap (IntKind.i64.wrap ((0 : Int) + (1 : Int)) + (1 : Int)) ∧
  IntKind.i64.wrap (IntKind.i64.wrap ((0 : Int) + (1 : Int)) + (1 : Int)) < (↑(3 : Nat) : Int)), ∃ (h : (0 : Int) ≤ IntKind.i64.wrap ((0 : Int) + (1 : Int)) ∧ IntKind.i64.wrap ((0 :
  Int) + (1 : Int)) < (↑(3 : Nat) : Int)), Br (List.getD (List.getD (framesL.getD f.toNat (K.arr (3 : Nat) (K.arr (3 : Nat) (K.int IntKind.i64))).dflt) (IntKind.i64.wrap
  (IntKind.i64.wrap ((0 : Int) + (1 : Int)) + (1 : Int))).toNat (K.arr (3 : Nat) (K.int IntKind.i64)).dflt) (IntKind.i64.wrap ((0 : Int) + (1 : Int))).toNat (0 : Int) == (1 : Int))
  (∃ (h : True), ∃ (h : (0 : Int) ≤ IntKind.i64.wrap ((0 : Int) + (1 : Int)) ∧ IntKind.i64.wrap ((0 : Int) + (1 : Int)) < (↑(3 : Nat) : Int) ∧ (3 : Nat) ≤ y.fst.length), HIs
  [HObj.box Md.rw ty72 [SV.val (Go.Value.float Go.FloatKind.f64 (0 : Nat)), SV.val (Go.Value.float Go.FloatKind.f64 (0 : Nat)), SV.val (Go.Value.float Go.FloatKind.f64 (0 : Nat))],
  HObj.row Md.rw ty98 (K.flt Go.FloatKind.f64) (y.fst.set (IntKind.i64.wrap ((0 : Int) + (1 : Int))).toNat (canonR ([(4607182418800017408 : Nat), s, t].getD (IntKind.i64.wrap
  (IntKind.i64.wrap ((0 : Int) + (1 : Int)) + (1 : Int))).toNat (0 : Nat))).fst)] [HObj.box Md.rw ty72 [SV.val (Go.Value.float Go.FloatKind.f64 (0 : Nat)), SV.val (Go.Value.float
  Go.FloatKind.f64 (0 : Nat)), SV.val (Go.Value.float Go.FloatKind.f64 (0 : Nat))], HObj.row Md.rw ty98 (K.flt Go.FloatKind.f64) (y.fst.set (IntKind.i64.wrap ((0 : Int) + (1 :
  Int))).toNat (canonR ([(4607182418800017408 : Nat), s, t].getD (IntKind.i64.wrap (IntKind.i64.wrap ((0 : Int) + (1 : Int)) + (1 : Int))).toNat (0 : Nat))).fst)] ∧ post_6 ()
  (y.fst.set (IntKind.i64.wrap ((0 : Int) + (1 : Int))).toNat (canonR ([(4607182418800017408 : Nat), s, t].getD (IntKind.i64.wrap (IntKind.i64.wrap ((0 : Int) + (1 : Int)) + (1 :
  Int))).toNat (0 : Nat))).fst, ())) (Br (List.getD (List.getD (framesL.getD f.toNat (K.arr (3 : Nat) (K.arr (3 : Nat) (K.int IntKind.i64))).dflt) (IntKind.i64.wrap
  (IntKind.i64.wrap ((0 : Int) + (1 : Int)) + (1 : Int))).toNat (K.arr (3 : Nat) (K.int IntKind.i64)).dflt) (IntKind.i64.wrap ((0 : Int) + (1 : Int))).toNat (0 : Int) == (-1 : Int))
  (∃ (h : True), ∃ (h : (0 : Int) ≤ IntKind.i64.wrap ((0 : Int) + (1 : Int)) ∧ IntKind.i64.wrap ((0 : Int) + (1 : Int)) < (↑(3 : Nat) : Int) ∧ (3 : Nat) ≤ y.fst.length), HIs
  [HObj.box Md.rw ty72 [SV.val (Go.Value.float Go.FloatKind.f64 (0 : Nat)), SV.val (Go.Value.float Go.FloatKind.f64 (0 : Nat)), SV.val (Go.Value.float Go.FloatKind.f64 (0 : Nat))],
  HObj.row Md.rw ty98 (K.flt Go.FloatKind.f64) (y.fst.set (IntKind.i64.wrap ((0 : Int) + (1 : Int))).toNat (canonR (Go.Op.negFloat Go.FloatKind.f64 ([(4607182418800017408 : Nat), s,
  t].getD (IntKind.i64.wrap (IntKind.i64.wrap ((0 : Int) + (1 : Int)) + (1 : Int))).toNat (0 : Nat)))).fst)] [HObj.box Md.rw ty72 [SV.val (Go.Value.float Go.FloatKind.f64 (0 :
  Nat)), SV.val (Go.Value.float Go.FloatKind.f64 (0 : Nat)), SV.val (Go.Value.float Go.FloatKind.f64 (0 : Nat))], HObj.row Md.rw ty98 (K.flt Go.FloatKind.f64) (y.fst.set
  (IntKind.i64.wrap ((0 : Int) + (1 : Int))).toNat (canonR (Go.Op.negFloat Go.FloatKind.f64 ([(4607182418800017408 : Nat), s, t].getD (IntKind.i64.wrap (IntKind.i64.wrap ((0 : Int)
  + (1 : Int)) + (1 : Int))).toNat (0 : Nat)))).fst)] ∧ post_6 () (y.fst.set (IntKind.i64.wrap ((0 : Int) + (1 : Int))).toNat (canonR (Go.Op.negFloat Go.FloatKind.f64
  ([(4607182418800017408 : Nat), s, t].getD (IntKind.i64.wrap (IntKind.i64.wrap ((0 : Int) + (1 : Int)) + (1 : Int))).toNat (0 : Nat)))).fst, ())) (HIs [HObj.box Md.rw ty72 [SV.val
  (Go.Value.float Go.FloatKind.f64 (0 : Nat)), SV.val (Go.Value.float Go.FloatKind.f64 (0 : Nat)), SV.val (Go.Value.float Go.FloatKind.f64 (0 : Nat))], HObj.row Md.rw ty98 (K.flt
  Go.FloatKind.f64) y.fst] [HObj.box Md.rw ty72 [SV.val (Go.Value.float Go.FloatKind.f64 (0 : Nat)), SV.val (Go.Value.float Go.FloatKind.f64 (0 : Nat)), SV.val (Go.Value.float
  Go.FloatKind.f64 (0 : Nat))], HObj.row Md.rw ty98 (K.flt Go.FloatKind.f64) y.fst] ∧ post_6 () (y.fst, ())))) ∧ ∀ (x : Unit) (y : List Nat × Unit), post_6 x y → ∃ (post_7 : Unit →
  List Nat × Unit → Prop), (∃ (h : (0 : Int) ≤ (0 : Int) ∧ (0 : Int) < (↑(3 : Nat) : Int)), ∃ (h : (0 : Int) ≤ f ∧ f < (↑(6 : Nat) : Int)), ∃ (h : (0 : Int) ≤ (0 : Int) ∧ (0 : Int)
  < (↑(3 : Nat) : Int)), ∃ (h : (0 : Int) ≤ IntKind.i64.wrap (IntKind.i64.wrap ((0 : Int) + (1 : Int)) + (1 : Int)) ∧ IntKind.i64.wrap (IntKind.i64.wrap ((0 : Int) + (1 : Int)) + (1
  : Int)) < (↑(3 : Nat) : Int)), Br (List.getD (List.getD (framesL.getD f.toNat (K.arr (3 : Nat) (K.arr (3 : Nat) (K.int IntKind.i64))).dflt) (Int.toNat (0 : Int)) (K.arr (3 : Nat)
  (K.int IntKind.i64)).dflt) (IntKind.i64.wrap (IntKind.i64.wrap ((0 : Int) + (1 : Int)) + (1 : Int))).toNat (0 : Int) == (1 : Int)) (∃ (h : True), ∃ (h : (0 : Int) ≤
  IntKind.i64.wrap (IntKind.i64.wrap ((0 : Int) + (1 : Int)) + (1 : Int)) ∧ IntKind.i64.wrap (IntKind.i64.wrap ((0 : Int) + (1 : Int)) + (1 : Int)) < (↑(3 : Nat) : Int) ∧ (3 : Nat)
  ≤ y.fst.length), HIs [HObj.box Md.rw ty72 [SV.val (Go.Value.float Go.FloatKind.f64 (0 : Nat)), SV.val (Go.Value.float Go.FloatKind.f64 (0 : Nat)), SV.val (Go.Value.float
  Go.FloatKind.f64 (0 : Nat))], HObj.row Md.rw ty98 (K.flt Go.FloatKind.f64) (y.fst.set (IntKind.i64.wrap (IntKind.i64.wrap ((0 : Int) + (1 : Int)) + (1 : Int))).toNat (canonR
  ([(4607182418800017408 : Nat), s, t].getD (Int.toNat (0 : Int)) (0 : Nat))).fst)] [HObj.box Md.rw ty72 [SV.val (Go.Value.float Go.FloatKind.f64 (0 : Nat)), SV.val (Go.Value.float
  Go.FloatKind.f64 (0 : Nat)), SV.val (Go.Value.float Go.FloatKind.f64 (0 : Nat))], HObj.row Md.rw ty98 (K.flt Go.FloatKind.f64) (y.fst.set (IntKind.i64.wrap (IntKind.i64.wrap ((0 :
  Int) + (1 : Int)) + (1 : Int))).toNat (canonR ([(4607182418800017408 : Nat), s, t].getD (Int.toNat (0 : Int)) (0 : Nat))).fst)] ∧ post_7 () (y.fst.set (IntKind.i64.wrap
  (IntKind.i64.wrap ((0 : Int) + (1 : Int)) + (1 : Int))).toNat (canonR ([(4607182418800017408 : Nat), s, t].getD (Int.toNat (0 : Int)) (0 : Nat))).fst, ())) (Br (List.getD
  (List.getD (framesL.getD f.toNat (K.arr (3 : Nat) (K.arr (3 : Nat) (K.int IntKind.i64))).dflt) (Int.toNat (0 : Int)) (K.arr (3 : Nat) (K.int IntKind.i64)).dflt) (IntKind.i64.wrap
  (IntKind.i64.wrap ((0 : Int) + (1 : Int)) + (1 : Int))).toNat (0 : Int) == (-1 : Int)) (∃ (h : True), ∃ (h : (0 : Int) ≤ IntKind.i64.wrap (IntKind.i64.wrap ((0 : Int) + (1 : Int))
  + (1 : Int)) ∧ IntKind.i64.wrap (IntKind.i64.wrap ((0 : Int) + (1 : Int)) + (1 : Int)) < (↑(3 : Nat) : Int) ∧ (3 : Nat) ≤ y.fst.length), HIs [HObj.box Md.rw ty72 [SV.val
  (Go.Value.float Go.FloatKind.f64 (0 : Nat)), SV.val (Go.Value.float Go.FloatKind.f64 (0 : Nat)), SV.val (Go.Value.float Go.FloatKind.f64 (0 : Nat))], HObj.row Md.rw ty98 (K.flt
  Go.FloatKind.f64) (y.fst.set (IntKind.i64.wrap (IntKind.i64.wrap ((0 : Int) + (1 : Int)) + (1 : Int))).toNat (canonR (Go.Op.negFloat Go.FloatKind.f64 ([(4607182418800017408 :
  Nat), s, t].getD (Int.toNat (0 : Int)) (0 : Nat)))).fst)] [HObj.box Md.rw ty72 [SV.val (Go.Value.float Go.FloatKind.f64 (0 : Nat)), SV.val (Go.Value.float Go.FloatKind.f64 (0 :
  Nat)), SV.val (Go.Value.float Go.FloatKind.f64 (0 : Nat))], HObj.row Md.rw ty98 (K.flt Go.FloatKind.f64) (y.fst.set (IntKind.i64.wrap (IntKind.i64.wrap ((0 : Int) + (1 : Int)) +
  (1 : Int))).toNat (canonR (Go.Op.negFloat Go.FloatKind.f64 ([(4607182418800017408 : Nat), s, t].getD (Int.toNat (0 : Int)) (0 : Nat)))).fst)] ∧ post_7 () (y.fst.set
  (IntKind.i64.wrap (IntKind.i64.wrap ((0 : Int) + (1 : Int)) + (1 : Int))).toNat (canonR (Go.Op.negFloat Go.FloatKind.f64 ([(4607182418800017408 : Nat), s, t].getD (Int.toNat (0 :
  Int)) (0 : Nat)))).fst, ())) (HIs [HObj.box Md.rw ty72 [SV.val (Go.Value.float Go.FloatKind.f64 (0 : Nat)), SV.val (Go.Value.float Go.FloatKind.f64 (0 : Nat)), SV.val
  (Go.Value.float Go.FloatKind.f64 (0 : Nat))], HObj.row Md.rw ty98 (K.flt Go.FloatKind.f64) y.fst] [HObj.box Md.rw ty72 [SV.val (Go.Value.float Go.FloatKind.f64 (0 : Nat)), SV.val
  (Go.Value.float Go.FloatKind.f64 (0 : Nat)), SV.val (Go.Value.float Go.FloatKind.f64 (0 : Nat))], HObj.row Md.rw ty98 (K.flt Go.FloatKind.f64) y.fst] ∧ post_7 () (y.fst, ())))) ∧
  ∀ (x : Unit) (y : List Nat × Unit), post_7 x y → ∃ (post_8 : Unit → List Nat × Unit → Prop), (∃ (h : (0 : Int) ≤ IntKind.i64.wrap ((0 : Int) + (1 : Int)) ∧ IntKind.i64.wrap ((0 :
  Int) + (1 : Int)) < (↑(3 : Nat) : Int)), ∃ (h : (0 : Int) ≤ f ∧ f < (↑(6 : Nat) : Int)), ∃ (h : (0 : Int) ≤ IntKind.i64.wrap ((0 : Int) + (1 : Int)) ∧ IntKind.i64.wrap ((0 : Int)
  + (1 : Int)) < (↑(3 : Nat) : Int)), ∃ (h : (0 : Int) ≤ IntKind.i64.wrap (IntKind.i64.wrap ((0 : Int) + (1 : Int)) + (1 : Int)) ∧ IntKind.i64.wrap (IntKind.i64.wrap ((0 : Int) + (1
  : Int)) + (1 : Int)) < (↑(3 : Nat) : Int)), Br (List.getD (List.getD (framesL.getD f.toNat (K.arr (3 : Nat) (K.arr (3 : Nat) (K.int IntKind.i64))).dflt) (IntKind.i64.wrap ((0 :
  Int) + (1 : Int))).toNat (K.arr (3 : Nat) (K.int IntKind.i64)).dflt) (IntKind.i64.wrap (IntKind.i64.wrap ((0 : Int) + (1 : Int)) + (1 : Int))).toNat (0 : Int) == (1 : Int)) (∃ (h
  : True), ∃ (h : (0 : Int) ≤ IntKind.i64.wrap (IntKind.i64.wrap ((0 : Int) + (1 : Int)) + (1 : Int)) ∧ IntKind.i64.wrap (IntKind.i64.wrap ((0 : Int) + (1 : Int)) + (1 : Int)) <
  (↑(3 : Nat) : Int) ∧ (3 : Nat) ≤ y.fst.length), HIs [HObj.box Md.rw ty72 [SV.val (Go.Value.float Go.FloatKind.f64 (0 : Nat)), SV.val (Go.Value.float Go.FloatKind.f64 (0 : Nat)),
  SV.val (Go.Value.float Go.FloatKind.f64 (0 : Nat))], HObj.row Md.rw ty98 (K.flt Go.FloatKind.f64) (y.fst.set (IntKind.i64.wrap (IntKind.i64.wrap ((0 : Int) + (1 : Int)) + (1 :
  Int))).toNat (canonR ([(4607182418800017408 : Nat), s, t].getD (IntKind.i64.wrap ((0 : Int) + (1 : Int))).toNat (0 : Nat))).fst)] [HObj.box Md.rw ty72 [SV.val (Go.Value.float
  Go.FloatKind.f64 (0 : Nat)), SV.val (Go.Value.float Go.FloatKind.f64 (0 : Nat)), SV.val (Go.Value.float Go.FloatKind.f64 (0 : Nat))], HObj.row Md.rw ty98 (K.flt Go.FloatKind.f64)
  (y.fst.set (IntKind.i64.wrap (IntKind.i64.wrap ((0 : Int) + (1 : Int)) + (1 : Int))).toNat (canonR ([(4607182418800017408 : Nat), s, t].getD (IntKind.i64.wrap ((0 : Int) + (1 :
  Int))).toNat (0 : Nat))).fst)] ∧ post_8 () (y.fst.set (IntKind.i64.wrap (IntKind.i64.wrap ((0 : Int) + (1 : Int)) + (1 : Int))).toNat (canonR ([(4607182418800017408 : Nat), s,
  t].getD (IntKind.i64.wrap ((0 : Int) + (1 : Int))).toNat (0 : Nat))).fst, ())) (Br (List.getD (List.getD (framesL.getD f.toNat (K.arr (3 : Nat) (K.arr (3 : Nat) (K.int
  IntKind.i64))).dflt) (IntKind.i64.wrap ((0 : Int) + (1 : Int))).toNat (K.arr (3 : Nat) (K.int IntKind.i64)).dflt) (IntKind.i64.wrap (IntKind.i64.wrap ((0 : Int) + (1 : Int)) + (1
  : Int))).toNat (0 : Int) == (-1 : Int)) (∃ (h : True), ∃ (h : (0 : Int) ≤ IntKind.i64.wrap (IntKind.i64.wrap ((0 : Int) + (1 : Int)) + (1 : Int)) ∧ IntKind.i64.wrap
  (IntKind.i64.wrap ((0 : Int) + (1 : Int)) + (1 : Int)) < (↑(3 : Nat) : Int) ∧ (3 : Nat) ≤ y.fst.length), HIs [HObj.box Md.rw ty72 [SV.val (Go.Value.float Go.FloatKind.f64 (0 :
  Nat)), SV.val (Go.Value.float Go.FloatKind.f64 (0 : Nat)), SV.val (Go.Value.float Go.FloatKind.f64 (0 : Nat))], HObj.row Md.rw ty98 (K.flt Go.FloatKind.f64) (y.fst.set
  (IntKind.i64.wrap (IntKind.i64.wrap ((0 : Int) + (1 : Int)) + (1 : Int))).toNat (canonR (Go.Op.negFloat Go.FloatKind.f64 ([(4607182418800017408 : Nat), s, t].getD
  (IntKind.i64.wrap ((0 : Int) + (1 : Int))).toNat (0 : Nat)))).fst)] [HObj.box Md.rw ty72 [SV.val (Go.Value.float Go.FloatKind.f64 (0 : Nat)), SV.val (Go.Value.float
  Go.FloatKind.f64 (0 : Nat)), SV.val (Go.Value.float Go.FloatKind.f64 (0 : Nat))], HObj.row Md.rw ty98 (K.flt Go.FloatKind.f64) (y.fst.set (IntKind.i64.wrap (IntKind.i64.wrap ((0 :
  Int) + (1 : Int)) + (1 : Int))).toNat (canonR (Go.Op.negFloat Go.FloatKind.f64 ([(4607182418800017408 : Nat), s, t].getD (IntKind.i64.wrap ((0 : Int) + (1 : Int))).toNat (0 :
  Nat)))).fst)] ∧ post_8 () (y.fst.set (IntKind.i64.wrap (IntKind.i64.wrap ((0 : Int) + (1 : Int)) + (1 : Int))).toNat (canonR (Go.Op.negFloat Go.FloatKind.f64
  ([(4607182418800017408 : Nat), s, t].getD (IntKind.i64.wrap ((0 : Int) + (1 : Int))).toNat (0 : Nat)))).fst, ())) (HIs [HObj.box Md.rw ty72 [SV.val (Go.Value.float
  Go.FloatKind.f64 (0 : Nat)), SV.val (Go.Value.float Go.FloatKind.f64 (0 : Nat)), SV.val (Go.Value.float Go.FloatKind.f64 (0 : Nat))], HObj.row Md.rw ty98 (K.flt Go.FloatKind.f64)
  y.fst] [HObj.box Md.rw ty72 [SV.val (Go.Value.float Go.FloatKind.f64 (0 : Nat)), SV.val (Go.Value.float Go.FloatKind.f64 (0 : Nat)), SV.val (Go.Value.float Go.FloatKind.f64 (0 :
  Nat))], HObj.row Md.rw ty98 (K.flt Go.FloatKind.f64) y.fst] ∧ post_8 () (y.fst, ())))) ∧ ∀ (x : Unit) (y : List Nat × Unit), post_8 x y → ∃ (post_9 : Unit → List Nat × Unit →
  Prop), (∃ (h : (0 : Int) ≤ IntKind.i64.wrap (IntKind.i64.wrap ((0 : Int) + (1 : Int)) + (1 : Int)) ∧ IntKind.i64.wrap (IntKind.i64.wrap ((0 : Int) + (1 : Int)) + (1 : Int)) < (↑(3
  : Nat) : Int)), ∃ (h : (0 : Int) ≤ f ∧ f < (↑(6 : Nat) : Int)), ∃ (h : (0 : Int) ≤ IntKind.i64.wrap (IntKind.i64.wrap ((0 : Int) + (1 : Int)) + (1 : Int)) ∧ IntKind.i64.wrap
  (IntKind.i64.wrap ((0 : Int) + (1 : Int)) + (1 : Int)) < (↑(3 : Nat) : Int)), ∃ (h : (0 : Int) ≤ IntKind.i64.wrap (IntKind.i64.wrap ((0 : Int) + (1 : Int)) + (1 : Int)) ∧
  IntKind.i64.wrap (IntKind.i64.wrap ((0 : Int) + (1 : Int)) + (1 : Int)) < (↑(3 : Nat) : Int)), Br (List.getD (List.getD (framesL.getD f.toNat (K.arr (3 : Nat) (K.arr (3 : Nat)
  (K.int IntKind.i64))).dflt) (IntKind.i64.wrap (IntKind.i64.wrap ((0 : Int) + (1 : Int)) + (1 : Int))).toNat (K.arr (3 : Nat) (K.int IntKind.i64)).dflt) (IntKind.i64.wrap
  (IntKind.i64.wrap ((0 : Int) + (1 : Int)) + (1 : Int))).toNat (0 : Int) == (1 : Int)) (∃ (h : True), ∃ (h : (0 : Int) ≤ IntKind.i64.wrap (IntKind.i64.wrap ((0 : Int) + (1 : Int))
  + (1 : Int)) ∧ IntKind.i64.wrap (IntKind.i64.wrap ((0 : Int) + (1 : Int)) + (1 : Int)) < (↑(3 : Nat) : Int) ∧ (3 : Nat) ≤ y.fst.length), HIs [HObj.box Md.rw ty72 [SV.val
  (Go.Value.float Go.FloatKind.f64 (0 : Nat)), SV.val (Go.Value.float Go.FloatKind.f64 (0 : Nat)), SV.val (Go.Value.float Go.FloatKind.f64 (0 : Nat))], HObj.row Md.rw ty98 (K.flt
  Go.FloatKind.f64) (y.fst.set (IntKind.i64.wrap (IntKind.i64.wrap ((0 : Int) + (1 : Int)) + (1 : Int))).toNat (canonR ([(4607182418800017408 : Nat), s, t].getD (IntKind.i64.wrap
  (IntKind.i64.wrap ((0 : Int) + (1 : Int)) + (1 : Int))).toNat (0 : Nat))).fst)] [HObj.box Md.rw ty72 [SV.val (Go.Value.float Go.FloatKind.f64 (0 : Nat)), SV.val (Go.Value.float
  Go.FloatKind.f64 (0 : Nat)), SV.val (Go.Value.float Go.FloatKind.f64 (0 : Nat))], HObj.row Md.rw ty98 (K.flt Go.FloatKind.f64) (y.fst.set (IntKind.i64.wrap (IntKind.i64.wrap ((0 :
  Int) + (1 : Int)) + (1 : Int))).toNat (canonR ([(4607182418800017408 : Nat), s, t].getD (IntKind.i64.wrap (IntKind.i64.wrap ((0 : Int) + (1 : Int)) + (1 : Int))).toNat (0 :
  Nat))).fst)] ∧ post_9 () (y.fst.set (IntKind.i64.wrap (IntKind.i64.wrap ((0 : Int) + (1 : Int)) + (1 : Int))).toNat (canonR ([(4607182418800017408 : Nat), s, t].getD
  (IntKind.i64.wrap (IntKind.i64.wrap ((0 : Int) + (1 : Int)) + (1 : Int))).toNat (0 : Nat))).fst, ())) (Br (List.getD (List.getD (framesL.getD f.toNat (K.arr (3 : Nat) (K.arr (3 :
  Nat) (K.int IntKind.i64))).dflt) (IntKind.i64.wrap (IntKind.i64.wrap ((0 : Int) + (1 : Int)) + (1 : Int))).toNat (K.arr (3 : Nat) (K.int IntKind.i64)).dflt) (IntKind.i64.wrap
  (IntKind.i64.wrap ((0 : Int) + (1 : Int)) + (1 : Int))).toNat (0 : Int) == (-1 : Int)) (∃ (h : True), ∃ (h : (0 : Int) ≤ IntKind.i64.wrap (IntKind.i64.wrap ((0 : Int) + (1 : Int))
  + (1 : Int)) ∧ IntKind.i64.wrap (IntKind.i64.wrap ((0 : Int) + (1 : Int)) + (1 : Int)) < (↑(3 : Nat) : Int) ∧ (3 : Nat) ≤ y.fst.length), HIs [HObj.box Md.rw ty72 [SV.val
  (Go.Value.float Go.FloatKind.f64 (0 : Nat)), SV.val (Go.Value.float Go.FloatKind.f64 (0 : Nat)), SV.val (Go.Value.float Go.FloatKind.f64 (0 : Nat))], HObj.row Md.rw ty98 (K.flt
  Go.FloatKind.f64) (y.fst.set (IntKind.i64.wrap (IntKind.i64.wrap ((0 : Int) + (1 : Int)) + (1 : Int))).toNat (canonR (Go.Op.negFloat Go.FloatKind.f64 ([(4607182418800017408 :
  Nat), s, t].getD (IntKind.i64.wrap (IntKind.i64.wrap ((0 : Int) + (1 : Int)) + (1 : Int))).toNat (0 : Nat)))).fst)] [HObj.box Md.rw ty72 [SV.val (Go.Value.float Go.FloatKind.f64
  (0 : Nat)), SV.val (Go.Value.float Go.FloatKind.f64 (0 : Nat)), SV.val (Go.Value.float Go.FloatKind.f64 (0 : Nat))], HObj.row Md.rw ty98 (K.flt Go.FloatKind.f64) (y.fst.set
  (IntKind.i64.wrap (IntKind.i64.wrap ((0 : Int) + (1 : Int)) + (1 : Int))).toNat (canonR (Go.Op.negFloat Go.FloatKind.f64 ([(4607182418800017408 : Nat), s, t].getD
  (IntKind.i64.wrap (IntKind.i64.wrap ((0 : Int) + (1 : Int)) + (1 : Int))).toNat (0 : Nat)))).fst)] ∧ post_9 () (y.fst.set (IntKind.i64.wrap (IntKind.i64.wrap ((0 : Int) + (1 :
  Int)) + (1 : Int))).toNat (canonR (Go.Op.negFloat Go.FloatKind.f64 ([(4607182418800017408 : Nat), s, t].getD (IntKind.i64.wrap (IntKind.i64.wrap ((0 : Int) + (1 : Int)) + (1 :
  Int))).toNat (0 : Nat)))).fst, ())) (HIs [HObj.box Md.rw ty72 [SV.val (Go.Value.float Go.FloatKind.f64 (0 : Nat)), SV.val (Go.Value.float Go.FloatKind.f64 (0 : Nat)), SV.val
  (Go.Value.float Go.FloatKind.f64 (0 : Nat))], HObj.row Md.rw ty98 (K.flt Go.FloatKind.f64) y.fst] [HObj.box Md.rw ty72 [SV.val (Go.Value.float Go.FloatKind.f64 (0 : Nat)), SV.val
  (Go.Value.float Go.FloatKind.f64 (0 : Nat)), SV.val (Go.Value.float Go.FloatKind.f64 (0 : Nat))], HObj.row Md.rw ty98 (K.flt Go.FloatKind.f64) y.fst] ∧ post_9 () (y.fst, ())))) ∧
  ∀ (x : Unit) (y : List Nat × Unit), post_9 x y → ∃ (h : (0 : Int) ≤ (0 : Int) ∧ (0 : Int) < (↑(3 : Nat) : Int) ∧ (3 : Nat) ≤ y.fst.length), ∃ (h : (0 : Int) ≤ (1 : Int) ∧ (1 :
  Int) < (↑(3 : Nat) : Int) ∧ (3 : Nat) ≤ y.fst.length), ∃ (h : (0 : Int) ≤ (2 : Int) ∧ (2 : Int) < (↑(3 : Nat) : Int) ∧ (3 : Nat) ≤ y.fst.length), ∃ (h : WV (y.fst.getD (Int.toNat
  (0 : Int)) (0 : Nat), y.fst.getD (Int.toNat (1 : Int)) (0 : Nat), y.fst.getD (Int.toNat (2 : Int)) (0 : Nat))), post (((unitR (y.fst.getD (Int.toNat (0 : Int)) (0 : Nat),
  y.fst.getD (Int.toNat (1 : Int)) (0 : Nat), y.fst.getD (Int.toNat (2 : Int)) (0 : Nat))).fst.fst, (unitR (y.fst.getD (Int.toNat (0 : Int)) (0 : Nat), y.fst.getD (Int.toNat (1 :
  Int)) (0 : Nat), y.fst.getD (Int.toNat (2 : Int)) (0 : Nat))).fst.snd.fst, (unitR (y.fst.getD (Int.toNat (0 : Int)) (0 : Nat), y.fst.getD (Int.toNat (1 : Int)) (0 : Nat),
  y.fst.getD (Int.toNat (2 : Int)) (0 : Nat))).fst.snd.snd), ())
theorem Lx_geom_point (ty0 ty1 : Nat) (f : Int) (s : Nat) (t : Nat) (h : WPoint f s t) : Fx_geom_point ty0 ty1 f s t (fun r => r = pointR f s t) := by
  obtain ⟨f0, f5, hs, ht⟩ := h
  have hfb : 0 ≤ f ∧ f < ((6 : Nat) : Int) := ⟨f0, by omega⟩
  refine ⟨fun _ y => y.1 = [(axisF (frameI f 0 0) (List.getD [(4607182418800017408 : Nat), s, t] (Int.toNat (0 : Int)) (0 : Nat)) 0), 0, 0], ⟨by decide, hfb, by decide, by decide, br_axis (m := (frameI f 0 0)) (v := (List.getD [(4607182418800017408 : Nat), s, t] (Int.toNat (0 : Int)) (0 : Nat))) (c := 0) (P := fun z => [z, 0, 0] = [(axisF (frameI f 0 0) (List.getD [(4607182418800017408 : Nat), s, t] (Int.toNat (0 : Int)) (0 : Nat)) 0), 0, 0]) rfl (fun e => ⟨trivial, ⟨by decide, by decide, Nat.le_refl 3⟩, rfl, e⟩) (fun e => ⟨trivial, ⟨by decide, by decide, Nat.le_refl 3⟩, rfl, e⟩) (fun e => ⟨rfl, e⟩)⟩, ?_⟩
  rintro ⟨⟩ ⟨_, ⟨⟩⟩ rfl
  refine ⟨fun _ y => y.1 = [(axisF (frameI f 1 0) s (axisF (frameI f 0 0) (List.getD [(4607182418800017408 : Nat), s, t] (Int.toNat (0 : Int)) (0 : Nat)) 0)), 0, 0], ⟨by decide, hfb, by decide, by decide, br_axis (m := (frameI f 1 0)) (v := s) (c := (axisF (frameI f 0 0) (List.getD [(4607182418800017408 : Nat), s, t] (Int.toNat (0 : Int)) (0 : Nat)) 0)) (P := fun z => [z, 0, 0] = [(axisF (frameI f 1 0) s (axisF (frameI f 0 0) (List.getD [(4607182418800017408 : Nat), s, t] (Int.toNat (0 : Int)) (0 : Nat)) 0)), 0, 0]) rfl (fun e => ⟨trivial, ⟨by decide, by decide, Nat.le_refl 3⟩, rfl, e⟩) (fun e => ⟨trivial, ⟨by decide, by decide, Nat.le_refl 3⟩, rfl, e⟩) (fun e => ⟨rfl, e⟩)⟩, ?_⟩
  rintro ⟨⟩ ⟨_, ⟨⟩⟩ rfl
  refine ⟨fun _ y => y.1 = [(axisF (frameI f 2 0) t (axisF (frameI f 1 0) s (axisF (frameI f 0 0) (List.getD [(4607182418800017408 : Nat), s, t] (Int.toNat (0 : Int)) (0 : Nat)) 0))), 0, 0], ⟨by decide, hfb, by decide, by decide, br_axis (m := (frameI f 2 0)) (v := t) (c := (axisF (frameI f 1 0) s (axisF (frameI f 0 0) (List.getD [(4607182418800017408 : Nat), s, t] (Int.toNat (0 : Int)) (0 : Nat)) 0))) (P := fun z => [z, 0, 0] = [(axisF (frameI f 2 0) t (axisF (frameI f 1 0) s (axisF (frameI f 0 0) (List.getD [(4607182418800017408 : Nat), s, t] (Int.toNat (0 : Int)) (0 : Nat)) 0))), 0, 0]) rfl (fun e => ⟨trivial, ⟨by decide, by decide, Nat.le_refl 3⟩, rfl, e⟩) (fun e => ⟨trivial, ⟨by decide, by decide, Nat.le_refl 3⟩, rfl, e⟩) (fun e => ⟨rfl, e⟩)⟩, ?_⟩
  rintro ⟨⟩ ⟨_, ⟨⟩⟩ rfl
  refine ⟨fun _ y => y.1 = [(axisF (frameI f 2 0) t (axisF (frameI f 1 0) s (axisF (frameI f 0 0) (List.getD [(4607182418800017408 : Nat), s, t] (Int.toNat (0 : Int)) (0 : Nat)) 0))), (axisF (frameI f 0 1) (List.getD [(4607182418800017408 : Nat), s, t] (Int.toNat (0 : Int)) (0 : Nat)) 0), 0], ⟨by decide, hfb, by decide, by decide, br_axis (m := (frameI f 0 1)) (v := (List.getD [(4607182418800017408 : Nat), s, t] (Int.toNat (0 : Int)) (0 : Nat))) (c := 0) (P := fun z => [(axisF (frameI f 2 0) t (axisF (frameI f 1 0) s (axisF (frameI f 0 0) (List.getD [(4607182418800017408 : Nat), s, t] (Int.toNat (0 : Int)) (0 : Nat)) 0))), z, 0] = [(axisF (frameI f 2 0) t (axisF (frameI f 1 0) s (axisF (frameI f 0 0) (List.getD [(4607182418800017408 : Nat), s, t] (Int.toNat (0 : Int)) (0 : Nat)) 0))), (axisF (frameI f 0 1) (List.getD [(4607182418800017408 : Nat), s, t] (Int.toNat (0 : Int)) (0 : Nat)) 0), 0]) rfl (fun e => ⟨trivial, ⟨by decide, by decide, Nat.le_refl 3⟩, rfl, e⟩) (fun e => ⟨trivial, ⟨by decide, by decide, Nat.le_refl 3⟩, rfl, e⟩) (fun e => ⟨rfl, e⟩)⟩, ?_⟩
  rintro ⟨⟩ ⟨_, ⟨⟩⟩ rfl
  refine ⟨fun _ y => y.1 = [(axisF (frameI f 2 0) t (axisF (frameI f 1 0) s (axisF (frameI f 0 0) (List.getD [(4607182418800017408 : Nat), s, t] (Int.toNat (0 : Int)) (0 : Nat)) 0))), (axisF (frameI f 1 1) s (axisF (frameI f 0 1) (List.getD [(4607182418800017408 : Nat), s, t] (Int.toNat (0 : Int)) (0 : Nat)) 0)), 0], ⟨by decide, hfb, by decide, by decide, br_axis (m := (frameI f 1 1)) (v := s) (c := (axisF (frameI f 0 1) (List.getD [(4607182418800017408 : Nat), s, t] (Int.toNat (0 : Int)) (0 : Nat)) 0)) (P := fun z => [(axisF (frameI f 2 0) t (axisF (frameI f 1 0) s (axisF (frameI f 0 0) (List.getD [(4607182418800017408 : Nat), s, t] (Int.toNat (0 : Int)) (0 : Nat)) 0))), z, 0] = [(axisF (frameI f 2 0) t (axisF (frameI f 1 0) s (axisF (frameI f 0 0) (List.getD [(4607182418800017408 : Nat), s, t] (Int.toNat (0 : Int)) (0 : Nat)) 0))), (axisF (frameI f 1 1) s (axisF (frameI f 0 1) (List.getD [(4607182418800017408 : Nat), s, t] (Int.toNat (0 : Int)) (0 : Nat)) 0)), 0]) rfl (fun e => ⟨trivial, ⟨by decide, by decide, Nat.le_refl 3⟩, rfl, e⟩) (fun e => ⟨trivial, ⟨by decide, by decide, Nat.le_refl 3⟩, rfl, e⟩) (fun e => ⟨rfl, e⟩)⟩, ?_⟩
  rintro ⟨⟩ ⟨_, ⟨⟩⟩ rfl
  refine ⟨fun _ y => y.1 = [(axisF (frameI f 2 0) t (axisF (frameI f 1 0) s (axisF (frameI f 0 0) (List.getD [(4607182418800017408 : Nat), s, t] (Int.toNat (0 : Int)) (0 : Nat)) 0))), (axisF (frameI f 2 1) t (axisF (frameI f 1 1) s (axisF (frameI f 0 1) (List.getD [(4607182418800017408 : Nat), s, t] (Int.toNat (0 : Int)) (0 : Nat)) 0))), 0], ⟨by decide, hfb, by decide, by decide, br_axis (m := (frameI f 2 1)) (v := t) (c := (axisF (frameI f 1 1) s (axisF (frameI f 0 1) (List.getD [(4607182418800017408 : Nat), s, t] (Int.toNat (0 : Int)) (0 : Nat)) 0))) (P := fun z => [(axisF (frameI f 2 0) t (axisF (frameI f 1 0) s (axisF (frameI f 0 0) (List.getD [(4607182418800017408 : Nat), s, t] (Int.toNat (0 : Int)) (0 : Nat)) 0))), z, 0] = [(axisF (frameI f 2 0) t (axisF (frameI f 1 0) s (axisF (frameI f 0 0) (List.getD [(4607182418800017408 : Nat), s, t] (Int.toNat (0 : Int)) (0 : Nat)) 0))), (axisF (frameI f 2 1) t (axisF (frameI f 1 1) s (axisF (frameI f 0 1) (List.getD [(4607182418800017408 : Nat), s, t] (Int.toNat (0 : Int)) (0 : Nat)) 0))), 0]) rfl (fun e => ⟨trivial, ⟨by decide, by decide, Nat.le_refl 3⟩, rfl, e⟩) (fun e => ⟨trivial, ⟨by decide, by decide, Nat.le_refl 3⟩, rfl, e⟩) (fun e => ⟨rfl, e⟩)⟩, ?_⟩
  rintro ⟨⟩ ⟨_, ⟨⟩⟩ rfl
  refine ⟨fun _ y => y.1 = [(axisF (frameI f 2 0) t (axisF (frameI f 1 0) s (axisF (frameI f 0 0) (List.getD [(4607182418800017408 : Nat), s, t] (Int.toNat (0 : Int)) (0 : Nat)) 0))), (axisF (frameI f 2 1) t (axisF (frameI f 1 1) s (axisF (frameI f 0 1) (List.getD [(4607182418800017408 : Nat), s, t] (Int.toNat (0 : Int)) (0 : Nat)) 0))), (axisF (frameI f 0 2) (List.getD [(4607182418800017408 : Nat), s, t] (Int.toNat (0 : Int)) (0 : Nat)) 0)], ⟨by decide, hfb, by decide, by decide, br_axis (m := (frameI f 0 2)) (v := (List.getD [(4607182418800017408 : Nat), s, t] (Int.toNat (0 : Int)) (0 : Nat))) (c := 0) (P := fun z => [(axisF (frameI f 2 0) t (axisF (frameI f 1 0) s (axisF (frameI f 0 0) (List.getD [(4607182418800017408 : Nat), s, t] (Int.toNat (0 : Int)) (0 : Nat)) 0))), (axisF (frameI f 2 1) t (axisF (frameI f 1 1) s (axisF (frameI f 0 1) (List.getD [(4607182418800017408 : Nat), s, t] (Int.toNat (0 : Int)) (0 : Nat)) 0))), z] = [(axisF (frameI f 2 0) t (axisF (frameI f 1 0) s (axisF (frameI f 0 0) (List.getD [(4607182418800017408 : Nat), s, t] (Int.toNat (0 : Int)) (0 : Nat)) 0))), (axisF (frameI f 2 1) t (axisF (frameI f 1 1) s (axisF (frameI f 0 1) (List.getD [(4607182418800017408 : Nat), s, t] (Int.toNat (0 : Int)) (0 : Nat)) 0))), (axisF (frameI f 0 2) (List.getD [(4607182418800017408 : Nat), s, t] (Int.toNat (0 : Int)) (0 : Nat)) 0)]) rfl (fun e => ⟨trivial, ⟨by decide, by decide, Nat.le_refl 3⟩, rfl, e⟩) (fun e => ⟨trivial, ⟨by decide, by decide, Nat.le_refl 3⟩, rfl, e⟩) (fun e => ⟨rfl, e⟩)⟩, ?_⟩
  rintro ⟨⟩ ⟨_, ⟨⟩⟩ rfl
  refine ⟨fun _ y => y.1 = [(axisF (frameI f 2 0) t (axisF (frameI f 1 0) s (axisF (frameI f 0 0) (List.getD [(4607182418800017408 : Nat), s, t] (Int.toNat (0 : Int)) (0 : Nat)) 0))), (axisF (frameI f 2 1) t (axisF (frameI f 1 1) s (axisF (frameI f 0 1) (List.getD [(4607182418800017408 : Nat), s, t] (Int.toNat (0 : Int)) (0 : Nat)) 0))), (axisF (frameI f 1 2) s (axisF (frameI f 0 2) (List.getD [(4607182418800017408 : Nat), s, t] (Int.toNat (0 : Int)) (0 : Nat)) 0))], ⟨by decide, hfb, by decide, by decide, br_axis (m := (frameI f 1 2)) (v := s) (c := (axisF (frameI f 0 2) (List.getD [(4607182418800017408 : Nat), s, t] (Int.toNat (0 : Int)) (0 : Nat)) 0)) (P := fun z => [(axisF (frameI f 2 0) t (axisF (frameI f 1 0) s (axisF (frameI f 0 0) (List.getD [(4607182418800017408 : Nat), s, t] (Int.toNat (0 : Int)) (0 : Nat)) 0))), (axisF (frameI f 2 1) t (axisF (frameI f 1 1) s (axisF (frameI f 0 1) (List.getD [(4607182418800017408 : Nat), s, t] (Int.toNat (0 : Int)) (0 : Nat)) 0))), z] = [(axisF (frameI f 2 0) t (axisF (frameI f 1 0) s (axisF (frameI f 0 0) (List.getD [(4607182418800017408 : Nat), s, t] (Int.toNat (0 : Int)) (0 : Nat)) 0))), (axisF (frameI f 2 1) t (axisF (frameI f 1 1) s (axisF (frameI f 0 1) (List.getD [(4607182418800017408 : Nat), s, t] (Int.toNat (0 : Int)) (0 : Nat)) 0))), (axisF (frameI f 1 2) s (axisF (frameI f 0 2) (List.getD [(4607182418800017408 : Nat), s, t] (Int.toNat (0 : Int)) (0 : Nat)) 0))]) rfl (fun e => ⟨trivial, ⟨by decide, by decide, Nat.le_refl 3⟩, rfl, e⟩) (fun e => ⟨trivial, ⟨by decide, by decide, Nat.le_refl 3⟩, rfl, e⟩) (fun e => ⟨rfl, e⟩)⟩, ?_⟩
  rintro ⟨⟩ ⟨_, ⟨⟩⟩ rfl
  refine ⟨fun _ y => y.1 = [(axisF (frameI f 2 0) t (axisF (frameI f 1 0) s (axisF (frameI f 0 0) (List.getD [(4607182418800017408 : Nat), s, t] (Int.toNat (0 : Int)) (0 : Nat)) 0))), (axisF (frameI f 2 1) t (axisF (frameI f 1 1) s (axisF (frameI f 0 1) (List.getD [(4607182418800017408 : Nat), s, t] (Int.toNat (0 : Int)) (0 : Nat)) 0))), (axisF (frameI f 2 2) t (axisF (frameI f 1 2) s (axisF (frameI f 0 2) (List.getD [(4607182418800017408 : Nat), s, t] (Int.toNat (0 : Int)) (0 : Nat)) 0)))], ⟨by decide, hfb, by decide, by decide, br_axis (m := (frameI f 2 2)) (v := t) (c := (axisF (frameI f 1 2) s (axisF (frameI f 0 2) (List.getD [(4607182418800017408 : Nat), s, t] (Int.toNat (0 : Int)) (0 : Nat)) 0))) (P := fun z => [(axisF (frameI f 2 0) t (axisF (frameI f 1 0) s (axisF (frameI f 0 0) (List.getD [(4607182418800017408 : Nat), s, t] (Int.toNat (0 : Int)) (0 : Nat)) 0))), (axisF (frameI f 2 1) t (axisF (frameI f 1 1) s (axisF (frameI f 0 1) (List.getD [(4607182418800017408 : Nat), s, t] (Int.toNat (0 : Int)) (0 : Nat)) 0))), z] = [(axisF (frameI f 2 0) t (axisF (frameI f 1 0) s (axisF (frameI f 0 0) (List.getD [(4607182418800017408 : Nat), s, t] (Int.toNat (0 : Int)) (0 : Nat)) 0))), (axisF (frameI f 2 1) t (axisF (frameI f 1 1) s (axisF (frameI f 0 1) (List.getD [(4607182418800017408 : Nat), s, t] (Int.toNat (0 : Int)) (0 : Nat)) 0))), (axisF (frameI f 2 2) t (axisF (frameI f 1 2) s (axisF (frameI f 0 2) (List.getD [(4607182418800017408 : Nat), s, t] (Int.toNat (0 : Int)) (0 : Nat)) 0)))]) rfl (fun e => ⟨trivial, ⟨by decide, by decide, Nat.le_refl 3⟩, rfl, e⟩) (fun e => ⟨trivial, ⟨by decide, by decide, Nat.le_refl 3⟩, rfl, e⟩) (fun e => ⟨rfl, e⟩)⟩, ?_⟩
  rintro ⟨⟩ ⟨_, ⟨⟩⟩ rfl
  refine ⟨⟨by decide, by decide, Nat.le_refl 3⟩, ⟨by decide, by decide, Nat.le_refl 3⟩, ⟨by decide, by decide, Nat.le_refl 3⟩, ⟨axisP_w f hs ht 0, axisP_w f hs ht 1, axisP_w f hs ht 2⟩, rfl⟩
def Fx_geom_Corner := fun (n f i j : Int) (post : (Nat × Nat × Nat) × Bool × Unit → Prop) => ∃ (h : I64 n), ∀ (a : Bool), a = ((cellsR n).fst == (0 : Int)) → Br a (post (((0 : Nat),
  (0 : Nat), (0 : Nat)), Bool.false, ())) (∀ (a : Bool), a = decide (f < (0 : Int)) → Br a (post (((0 : Nat), (0 : Nat), (0 : Nat)), Bool.false, ())) (∀ (a : Bool), a = decide (f >
  (5 : Int)) → Br a (post (((0 : Nat), (0 : Nat), (0 : Nat)), Bool.false, ())) (∀ (a : Bool), a = decide (i < (0 : Int)) → Br a (post (((0 : Nat), (0 : Nat), (0 : Nat)), Bool.false,
  ())) (∀ (a : Bool), a = decide (i > n) → Br a (post (((0 : Nat), (0 : Nat), (0 : Nat)), Bool.false, ())) (∀ (a : Bool), a = decide (j < (0 : Int)) → Br a (post (((0 : Nat), (0 :
  Nat), (0 : Nat)), Bool.false, ())) (∀ (a : Bool), a = decide (j > n) → Br a (post (((0 : Nat), (0 : Nat), (0 : Nat)), Bool.false, ())) (∃ (h : WRatio (IntKind.i64.wrap
  (IntKind.i64.wrap ((2 : Int) * i) - n)) n), ∃ (h : WRatio (IntKind.i64.wrap (IntKind.i64.wrap ((2 : Int) * j) - n)) n), ∃ (h : WPoint f (ratioR (IntKind.i64.wrap (IntKind.i64.wrap
  ((2 : Int) * i) - n)) n).fst (ratioR (IntKind.i64.wrap (IntKind.i64.wrap ((2 : Int) * j) - n)) n).fst), post (((pointR f (ratioR (IntKind.i64.wrap (IntKind.i64.wrap ((2 : Int) *
  i) - n)) n).fst (ratioR (IntKind.i64.wrap (IntKind.i64.wrap ((2 : Int) * j) - n)) n).fst).fst.fst, (pointR f (ratioR (IntKind.i64.wrap (IntKind.i64.wrap ((2 : Int) * i) - n))
  n).fst (ratioR (IntKind.i64.wrap (IntKind.i64.wrap ((2 : Int) * j) - n)) n).fst).fst.snd.fst, (pointR f (ratioR (IntKind.i64.wrap (IntKind.i64.wrap ((2 : Int) * i) - n)) n).fst
  (ratioR (IntKind.i64.wrap (IntKind.i64.wrap ((2 : Int) * j) - n)) n).fst).fst.snd.snd), Bool.true, ()))))))))
theorem Lx_geom_Corner (n : Int) (f : Int) (i : Int) (j : Int) (h : IIII n f i j) : Fx_geom_Corner  n f i j (fun r => r = cornerR n f i j) := by
  obtain ⟨hn, hf, hi, hj⟩ := h
  have bad : cornerOk n f i j = false → (((0 : Nat), (0 : Nat), (0 : Nat)), false, ()) = cornerR n f i j := by
    intro e; unfold cornerR; rw [if_neg (by rw [e]; decide)]
  refine ⟨hn, ?_⟩
  rintro _ rfl
  refine Br.intro (fun e => ?_) fun e0 => ?_
  · have e : cellsI n = 0 := by have e : (cellsI n == 0) = true := e; simpa using e
    refine bad ?_
    cases hg : goodC n with
    | false => unfold cornerOk; rw [hg]; rfl
    | true => rw [cells_good hg] at e; have := sq_bd (goodC_iff.1 hg).1 (goodC_iff.1 hg).2; omega
  have e0 : ¬ cellsI n = 0 := by have e : (cellsI n == 0) = false := e0; simpa using e
  have hg : goodC n = true := by
    cases hg : goodC n with
    | false => exact absurd (cells_bad hg) e0
    | true => rfl
  obtain ⟨n1, n2⟩ := goodC_iff.1 hg
  have no : ¬ (0 ≤ f ∧ f ≤ 5 ∧ 0 ≤ i ∧ i ≤ n ∧ 0 ≤ j ∧ j ≤ n) → cornerOk n f i j = false := by
    intro q
    rw [Bool.eq_false_iff]
    intro w
    unfold cornerOk at w
    simp only [Bool.and_eq_true, decide_eq_true_eq] at w
    omega
  rintro _ rfl
  refine Br.intro (fun e => bad (no (by have e := of_decide_eq_true e; omega))) fun e1 => ?_
  have e1 := of_decide_eq_false e1
  rintro _ rfl
  refine Br.intro (fun e => bad (no (by have e := of_decide_eq_true e; omega))) fun e2 => ?_
  have e2 := of_decide_eq_false e2
  rintro _ rfl
  refine Br.intro (fun e => bad (no (by have e := of_decide_eq_true e; omega))) fun e3 => ?_
  have e3 := of_decide_eq_false e3
  rintro _ rfl
  refine Br.intro (fun e => bad (no (by have e := of_decide_eq_true e; omega))) fun e4 => ?_
  have e4 := of_decide_eq_false e4
  rintro _ rfl
  refine Br.intro (fun e => bad (no (by have e := of_decide_eq_true e; omega))) fun e5 => ?_
  have e5 := of_decide_eq_false e5
  rintro _ rfl
  refine Br.intro (fun e => bad (no (by have e := of_decide_eq_true e; omega))) fun e6 => ?_
  have e6 := of_decide_eq_false e6
  obtain ⟨w1, w2⟩ := ratio_wrap n1 n2 (i := i) (by omega) (by omega)
  obtain ⟨w3, w4⟩ := ratio_wrap n1 n2 (i := j) (by omega) (by omega)
  rw [w1, w3]
  refine ⟨w2, w4, ⟨by omega, by omega, divQF_w _ _, divQF_w _ _⟩, ?_⟩
  have ok : cornerOk n f i j = true := by
    unfold cornerOk
    rw [hg, decide_eq_true (by omega), decide_eq_true (by omega), decide_eq_true (by omega), decide_eq_true (by omega), decide_eq_true (by omega), decide_eq_true (by omega)]
    rfl
  unfold cornerR; rw [if_pos ok]; rfl
def Fx_geom_corners := fun (n c : Int) (post : List (Nat × Nat × Nat) × Bool × Unit → Prop) => ∃ (h : II n c), Br (!(placeR4 n c).snd.snd.snd.fst) (∃ (h : (List.replicate (4 : Nat)
  ((K.flt Go.FloatKind.f64).pair ((K.flt Go.FloatKind.f64).pair (K.flt Go.FloatKind.f64))).dflt).length = (4 : Nat) ∧ (4 : Nat) = (4 : Nat)), ∃ (h : (4 : Nat) = (4 : Nat)), post
  ([((0 : Nat), (0 : Nat), (0 : Nat)), ((0 : Nat), (0 : Nat), (0 : Nat)), ((0 : Nat), (0 : Nat), (0 : Nat)), ((0 : Nat), (0 : Nat), (0 : Nat))], Bool.false, ())) (∃ (h : (0 : Int) ≤
  (0 : Int) ∧ (0 : Int) < (↑(4 : Nat) : Int)), ∃ (h : (List.replicate (2 : Nat) (0 : Int)).length = (2 : Nat) ∧ List.length ([[(0 : Int), (0 : Int)], [(1 : Int), (0 : Int)], [(1 :
  Int), (1 : Int)], [(0 : Int), (1 : Int)]].getD (Int.toNat (0 : Int)) (K.arr (2 : Nat) (K.int IntKind.i64)).dflt) = (2 : Nat)), ∃ (h : (0 : Int) ≤ (0 : Int) ∧ (0 : Int) < (↑(2 :
  Nat) : Int) ∧ (2 : Nat) ≤ List.length ([[(0 : Int), (0 : Int)], [(1 : Int), (0 : Int)], [(1 : Int), (1 : Int)], [(0 : Int), (1 : Int)]].getD (Int.toNat (0 : Int)) (K.arr (2 : Nat)
  (K.int IntKind.i64)).dflt)), ∃ (h : (0 : Int) ≤ (1 : Int) ∧ (1 : Int) < (↑(2 : Nat) : Int) ∧ (2 : Nat) ≤ List.length ([[(0 : Int), (0 : Int)], [(1 : Int), (0 : Int)], [(1 : Int),
  (1 : Int)], [(0 : Int), (1 : Int)]].getD (Int.toNat (0 : Int)) (K.arr (2 : Nat) (K.int IntKind.i64)).dflt)), ∃ (h : IIII n (placeR4 n c).fst (IntKind.i64.wrap ((placeR4 n
  c).snd.fst + List.getD ([[(0 : Int), (0 : Int)], [(1 : Int), (0 : Int)], [(1 : Int), (1 : Int)], [(0 : Int), (1 : Int)]].getD (Int.toNat (0 : Int)) (K.arr (2 : Nat) (K.int
  IntKind.i64)).dflt) (Int.toNat (0 : Int)) (0 : Int))) (IntKind.i64.wrap ((placeR4 n c).snd.snd.fst + List.getD ([[(0 : Int), (0 : Int)], [(1 : Int), (0 : Int)], [(1 : Int), (1 :
  Int)], [(0 : Int), (1 : Int)]].getD (Int.toNat (0 : Int)) (K.arr (2 : Nat) (K.int IntKind.i64)).dflt) (Int.toNat (1 : Int)) (0 : Int)))), ∃ (h : (0 : Int) ≤ (0 : Int) ∧ (0 : Int)
  < (↑(4 : Nat) : Int) ∧ (4 : Nat) ≤ (List.replicate (4 : Nat) ((K.flt Go.FloatKind.f64).pair ((K.flt Go.FloatKind.f64).pair (K.flt Go.FloatKind.f64))).dflt).length), ∃ (h : (0 :
  Int) ≤ IntKind.i64.wrap ((0 : Int) + (1 : Int)) ∧ IntKind.i64.wrap ((0 : Int) + (1 : Int)) < (↑(4 : Nat) : Int)), ∃ (h : (List.replicate (2 : Nat) (0 : Int)).length = (2 : Nat) ∧
  List.length ([[(0 : Int), (0 : Int)], [(1 : Int), (0 : Int)], [(1 : Int), (1 : Int)], [(0 : Int), (1 : Int)]].getD (IntKind.i64.wrap ((0 : Int) + (1 : Int))).toNat (K.arr (2 :
  Nat) (K.int IntKind.i64)).dflt) = (2 : Nat)), ∃ (h : (0 : Int) ≤ (0 : Int) ∧ (0 : Int) < (↑(2 : Nat) : Int) ∧ (2 : Nat) ≤ List.length ([[(0 : Int), (0 : Int)], [(1 : Int), (0 :
  Int)], [(1 : Int), (1 : Int)], [(0 : Int), (1 : Int)]].getD (IntKind.i64.wrap ((0 : Int) + (1 : Int))).toNat (K.arr (2 : Nat) (K.int IntKind.i64)).dflt)), ∃ (h : (0 : Int) ≤ (1 :
  Int) ∧ (1 : Int) < (↑(2 : Nat) : Int) ∧ (2 : Nat) ≤ List.length ([[(0 : Int), (0 : Int)], [(1 : Int), (0 : Int)], [(1 : Int), (1 : Int)], [(0 : Int), (1 : Int)]].getD
  (IntKind.i64.wrap ((0 : Int) + (1 : Int))).toNat (K.arr (2 : Nat) (K.int IntKind.i64)).dflt)), ∃ (h : IIII n (placeR4 n c).fst (IntKind.i64.wrap ((placeR4 n c).snd.fst + List.getD
  ([[(0 : Int), (0 : Int)], [(1 : Int), (0 : Int)], [(1 : Int), (1 : Int)], [(0 : Int), (1 : Int)]].getD (IntKind.i64.wrap ((0 : Int) + (1 : Int))).toNat (K.arr (2 : Nat) (K.int
  IntKind.i64)).dflt) (Int.toNat (0 : Int)) (0 : Int))) (IntKind.i64.wrap ((placeR4 n c).snd.snd.fst + List.getD ([[(0 : Int), (0 : Int)], [(1 : Int), (0 : Int)], [(1 : Int), (1 :
  Int)], [(0 : Int), (1 : Int)]].getD (IntKind.i64.wrap ((0 : Int) + (1 : Int))).toNat (K.arr (2 : Nat) (K.int IntKind.i64)).dflt) (Int.toNat (1 : Int)) (0 : Int)))), ∃ (h : (0 :
  Int) ≤ IntKind.i64.wrap ((0 : Int) + (1 : Int)) ∧ IntKind.i64.wrap ((0 : Int) + (1 : Int)) < (↑(4 : Nat) : Int) ∧ (4 : Nat) ≤ ((List.replicate (4 : Nat) ((K.flt
  Go.FloatKind.f64).pair ((K.flt Go.FloatKind.f64).pair (K.flt Go.FloatKind.f64))).dflt).set (Int.toNat (0 : Int)) (cornerR n (placeR4 n c).fst (IntKind.i64.wrap ((placeR4 n
  c).snd.fst + List.getD ([[(0 : Int), (0 : Int)], [(1 : Int), (0 : Int)], [(1 : Int), (1 : Int)], [(0 : Int), (1 : Int)]].getD (Int.toNat (0 : Int)) (K.arr (2 : Nat) (K.int
  IntKind.i64)).dflt) (Int.toNat (0 : Int)) (0 : Int))) (IntKind.i64.wrap ((placeR4 n c).snd.snd.fst + List.getD ([[(0 : Int), (0 : Int)], [(1 : Int), (0 : Int)], [(1 : Int), (1 :
  Int)], [(0 : Int), (1 : Int)]].getD (Int.toNat (0 : Int)) (K.arr (2 : Nat) (K.int IntKind.i64)).dflt) (Int.toNat (1 : Int)) (0 : Int)))).fst).length), ∃ (h : (0 : Int) ≤
  IntKind.i64.wrap (IntKind.i64.wrap ((0 : Int) + (1 : Int)) + (1 : Int)) ∧ IntKind.i64.wrap (IntKind.i64.wrap ((0 : Int) + (1 : Int)) + (1 : Int)) < (↑(4 : Nat) : Int)), ∃ (h :
  (List.replicate (2 : Nat) (0 : Int)).length = (2 : Nat) ∧ List.length ([[(0 : Int), (0 : Int)], [(1 : Int), (0 : Int)], [(1 : Int), (1 : Int)], [(0 : Int), (1 : Int)]].getD
  (IntKind.i64.wrap (IntKind.i64.wrap ((0 : Int) + (1 : Int)) + (1 : Int))).toNat (K.arr (2 : Nat) (K.int IntKind.i64)).dflt) = (2 : Nat)), ∃ (h : (0 : Int) ≤ (0 : Int) ∧ (0 : Int)
  < (↑(2 : Nat) : Int) ∧ (2 : Nat) ≤ List.length ([[(0 : Int), (0 : Int)], [(1 : Int), (0 : Int)], [(1 : Int), (1 : Int)], [(0 : Int), (1 : Int)]].getD (IntKind.i64.wrap
  (IntKind.i64.wrap ((0 : Int) + (1 : Int)) + (1 : Int))).toNat (K.arr (2 : Nat) (K.int IntKind.i64)).dflt)), ∃ (h : (0 : Int) ≤ (1 : Int) ∧ (1 : Int) < (↑(2 : Nat) : Int) ∧ (2 :
  Nat) ≤ List.length ([[(0 : Int), (0 : Int)], [(1 : Int), (0 : Int)], [(1 : Int), (1 : Int)], [(0 : Int), (1 : Int)]].getD (IntKind.i64.wrap (IntKind.i64.wrap ((0 : Int) + (1 :
  Int)) + (1 : Int))).toNat (K.arr (2 : Nat) (K.int IntKind.i64)).dflt)), ∃ (h : IIII n (placeR4 n c).fst (IntKind.i64.wrap ((placeR4 n c).snd.fst + List.getD ([[(0 : Int), (0 :
  Int)], [(1 : Int), (0 : Int)], [(1 : Int), (1 : Int)], [(0 : Int), (1 : Int)]].getD (IntKind.i64.wrap (IntKind.i64.wrap ((0 : Int) + (1 : Int)) + (1 : Int))).toNat (K.arr (2 :
  Nat) (K.int IntKind.i64)).dflt) (Int.toNat (0 : Int)) (0 : Int))) (IntKind.i64.wrap ((placeR4 n c).snd.snd.fst + List.getD ([[(0 : Int), (0 : Int)], [(1 : Int), (0 : Int)], [(1 :
  Int), (1 : Int)], [(0 : Int), (1 : Int)]].getD (IntKind.i64.wrap (IntKind.i64.wrap ((0 : Int) + (1 : Int)) + (1 : Int))).toNat (K.arr (2 : Nat) (K.int IntKind.i64)).dflt)
  (Int.toNat (1 : Int)) (0 : Int)))), ∃ (h : (0 : Int) ≤ IntKind.i64.wrap (IntKind.i64.wrap ((0 : Int) + (1 : Int)) + (1 : Int)) ∧ IntKind.i64.wrap (IntKind.i64.wrap ((0 : Int) + (1
  : Int)) + (1 : Int)) < (↑(4 : Nat) : Int) ∧ (4 : Nat) ≤ (((List.replicate (4 : Nat) ((K.flt Go.FloatKind.f64).pair ((K.flt Go.FloatKind.f64).pair (K.flt
  Go.FloatKind.f64))).dflt).set (Int.toNat (0 : Int)) (cornerR n (placeR4 n c).fst (IntKind.i64.wrap ((placeR4 n c).snd.fst + List.getD ([[(0 : Int), (0 : Int)], [(1 : Int), (0 :
  Int)], [(1 : Int), (1 : Int)], [(0 : Int), (1 : Int)]].getD (Int.toNat (0 : Int)) (K.arr (2 : Nat) (K.int IntKind.i64)).dflt) (Int.toNat (0 : Int)) (0 : Int))) (IntKind.i64.wrap
  ((placeR4 n c).snd.snd.fst + List.getD ([[(0 : Int), (0 : Int)], [(1 : Int), (0 : Int)], [(1 : Int), (1 : Int)], [(0 : Int), (1 : Int)]].getD (Int.toNat (0 : Int)) (K.arr (2 :
  Nat) (K.int IntKind.i64)).dflt) (Int.toNat (1 : Int)) (0 : Int)))).fst).set (IntKind.i64.wrap ((0 : Int) + (1 : Int))).toNat (cornerR n (placeR4 n c).fst (IntKind.i64.wrap
  ((placeR4 n c).snd.fst + List.getD ([[(0 : Int), (0 : Int)], [(1 : Int), (0 : Int)], [(1 : Int), (1 : Int)], [(0 : Int), (1 : Int)]].getD (IntKind.i64.wrap ((0 : Int) + (1 :
  Int))).toNat (K.arr (2 : Nat) (K.int IntKind.i64)).dflt) (Int.toNat (0 : Int)) (0 : Int))) (IntKind.i64.wrap ((placeR4 n c).snd.snd.fst + List.getD ([[(0 : Int), (0 : Int)], [(1 :
  Int), (0 : Int)], [(1 : Int), (1 : Int)], [(0 : Int), (1 : Int)]].getD (IntKind.i64.wrap ((0 : Int) + (1 : Int))).toNat (K.arr (2 : Nat) (K.int IntKind.i64)).dflt) (Int.toNat (1 :
  Int)) (0 : Int)))).fst).length), ∃ (h : (0 : Int) ≤ IntKind.i64.wrap (IntKind.i64.wrap (IntKind.i64.wrap ((0 : Int) + (1 : Int)) + (1 : Int)) + (1 : Int)) ∧ IntKind.i64.wrap
  (IntKind.i64.wrap (IntKind.i64.wrap ((0 : Int) + (1 : Int)) + (1 : Int)) + (1 : Int)) < (↑(4 : Nat) : Int)), ∃ (h : (List.replicate (2 : Nat) (0 : Int)).length = (2 : Nat) ∧
  List.length ([[(0 : Int), (0 : Int)], [(1 : Int), (0 : Int)], [(1 : Int), (1 : Int)], [(0 : Int), (1 : Int)]].getD (IntKind.i64.wrap (IntKind.i64.wrap (IntKind.i64.wrap ((0 : Int)
  + (1 : Int)) + (1 : Int)) + (1 : Int))).toNat (K.arr (2 : Nat) (K.int IntKind.i64)).dflt) = (2 : Nat)), ∃ (h : (0 : Int) ≤ (0 : Int) ∧ (0 : Int) < (↑(2 : Nat) : Int) ∧ (2 : Nat) ≤
  List.length ([[(0 : Int), (0 : Int)], [(1 : Int), (0 : Int)], [(1 : Int), (1 : Int)], [(0 : Int), (1 : Int)]].getD (IntKind.i64.wrap (IntKind.i64.wrap (IntKind.i64.wrap ((0 : Int)
  + (1 : Int)) + (1 : Int)) + (1 : Int))).toNat (K.arr (2 : Nat) (K.int IntKind.i64)).dflt)), ∃ (h : (0 : Int) ≤ (1 : Int) ∧ (1 : Int) < (↑(2 : Nat) : Int) ∧ (2 : Nat) ≤ List.length
  ([[(0 : Int), (0 : Int)], [(1 : Int), (0 : Int)], [(1 : Int), (1 : Int)], [(0 : Int), (1 : Int)]].getD (IntKind.i64.wrap (IntKind.i64.wrap (IntKind.i64.wrap ((0 : Int) + (1 :
  Int)) + (1 : Int)) + (1 : Int))).toNat (K.arr (2 : Nat) (K.int IntKind.i64)).dflt)), ∃ (h : IIII n (placeR4 n c).fst (IntKind.i64.wrap ((placeR4 n c).snd.fst + List.getD ([[(0 :
  Int), (0 : Int)], [(1 : Int), (0 : Int)], [(1 : Int), (1 : Int)], [(0 : Int), (1 : Int)]].getD (IntKind.i64.wrap (IntKind.i64.wrap (IntKind.i64.wrap ((0 : Int) + (1 : Int)) + (1 :
  Int)) + (1 : Int))).toNat (K.arr (2 : Nat) (K.int IntKind.i64)).dflt) (Int.toNat (0 : Int)) (0 : Int))) (IntKind.i64.wrap ((placeR4 n c).snd.snd.fst + List.getD ([[(0 : Int), (0 :
  Int)], [(1 : Int), (0 : Int)], [(1 : Int), (1 : Int)], [(0 : Int), (1 : Int)]].getD (IntKind.i64.wrap (IntKind.i64.wrap (IntKind.i64.wrap ((0 : Int) + (1 : Int)) + (1 : Int)) + (1
  : Int))).toNat (K.arr (2 : Nat) (K.int IntKind.i64)).dflt) (Int.toNat (1 : Int)) (0 : Int)))), ∃ (h : (0 : Int) ≤ IntKind.i64.wrap (IntKind.i64.wrap (IntKind.i64.wrap ((0 : Int) +
  (1 : Int)) + (1 : Int)) + (1 : Int)) ∧ IntKind.i64.wrap (IntKind.i64.wrap (IntKind.i64.wrap ((0 : Int) + (1 : Int)) + (1 : Int)) + (1 : Int)) < (↑(4 : Nat) : Int) ∧ (4 : Nat) ≤
  ((((List.replicate (4 : Nat) ((K.flt Go.FloatKind.f64).pair ((K.flt Go.FloatKind.f64).pair (K.flt Go.FloatKind.f64))).dflt).set (Int.toNat (0 : Int)) (cornerR n (placeR4 n c).fst
  (IntKind.i64.wrap ((placeR4 n c).snd.fst + List.getD ([[(0 : Int), (0 : Int)], [(1 : Int), (0 : Int)], [(1 : Int), (1 : Int)], [(0 : Int), (1 : Int)]].getD (Int.toNat (0 : Int))
  (K.arr (2 : Nat) (K.int IntKind.i64)).dflt) (Int.toNat (0 : Int)) (0 : Int))) (IntKind.i64.wrap ((placeR4 n c).snd.snd.fst + List.getD ([[(0 : Int), (0 : Int)], [(1 : Int), (0 :
  Int)], [(1 : Int), (1 : Int)], [(0 : Int), (1 : Int)]].getD (Int.toNat (0 : Int)) (K.arr (2 : Nat) (K.int IntKind.i64)).dflt) (Int.toNat (1 : Int)) (0 : Int)))).fst).set
  (IntKind.i64.wrap ((0 : Int) + (1 : Int))).toNat (cornerR n (placeR4 n c).fst (IntKind.i64.wrap ((placeR4 n c).snd.fst + List.getD ([[(0 : Int), (0 : Int)], [(1 : Int), (0 :
  Int)], [(1 : Int), (1 : Int)], [(0 : Int), (1 : Int)]].getD (IntKind.i64.wrap ((0 : Int) + (1 : Int))).toNat (K.arr (2 : Nat) (K.int IntKind.i64)).dflt) (Int.toNat (0 : Int)) (0 :
  Int))) (IntKind.i64.wrap ((placeR4 n c).snd.snd.fst + List.getD ([[(0 : Int), (0 : Int)], [(1 : Int), (0 : Int)], [(1 : Int), (1 : Int)], [(0 : Int), (1 : Int)]].getD
  (IntKind.i64.wrap ((0 : Int) + (1 : Int))).toNat (K.arr (2 : Nat) (K.int IntKind.i64)).dflt) (Int.toNat (1 : Int)) (0 : Int)))).fst).set (IntKind.i64.wrap (IntKind.i64.wrap ((0 :
  Int) + (1 : Int)) + (1 : Int))).toNat (cornerR n (placeR4 n c).fst (IntKind.i64.wrap ((placeR4 n c).snd.fst + List.getD ([[(0 : Int), (0 : Int)], [(1 : Int), (0 : Int)], [(1 :
  Int), (1 : Int)], [(0 : Int), (1 : Int)]].getD (IntKind.i64.wrap (IntKind.i64.wrap ((0 : Int) + (1 : Int)) + (1 : Int))).toNat (K.arr (2 : Nat) (K.int IntKind.i64)).dflt)
  (Int.toNat (0 : Int)) (0 : Int))) (IntKind.i64.wrap ((placeR4 n c).snd.snd.fst + List.getD ([[(0 : Int), (0 : Int)], [(1 : Int), (0 : Int)], [(1 : Int), (1 : Int)], [(0 : Int), (1
  : Int)]].getD (IntKind.i64.wrap (IntKind.i64.wrap ((0 : Int) + (1 : Int)) + (1 : Int))).toNat (K.arr (2 : Nat) (K.int IntKind.i64)).dflt) (Int.toNat (1 : Int)) (0 :
  Int)))).fst).length), ∃ (h : (((((List.replicate (4 : Nat) ((K.flt Go.FloatKind.f64).pair ((K.flt Go.FloatKind.f64).pair (K.flt Go.FloatKind.f64))).dflt).set (Int.toNat (0 : Int))
  (cornerR n (placeR4 n c).fst (IntKind.i64.wrap ((placeR4 n c).snd.fst + List.getD ([[(0 : Int), (0 : Int)], [(1 : Int), (0 : Int)], [(1 : Int), (1 : Int)], [(0 : Int), (1 :
  Int)]].getD (Int.toNat (0 : Int)) (K.arr (2 : Nat) (K.int IntKind.i64)).dflt) (Int.toNat (0 : Int)) (0 : Int))) (IntKind.i64.wrap ((placeR4 n c).snd.snd.fst + List.getD ([[(0 :
  Int), (0 : Int)], [(1 : Int), (0 : Int)], [(1 : Int), (1 : Int)], [(0 : Int), (1 : Int)]].getD (Int.toNat (0 : Int)) (K.arr (2 : Nat) (K.int IntKind.i64)).dflt) (Int.toNat (1 :
  Int)) (0 : Int)))).fst).set (IntKind.i64.wrap ((0 : Int) + (1 : Int))).toNat (cornerR n (placeR4 n c).fst (IntKind.i64.wrap ((placeR4 n c).snd.fst + List.getD ([[(0 : Int), (0 :
  Int)], [(1 : Int), (0 : Int)], [(1 : Int), (1 : Int)], [(0 : Int), (1 : Int)]].getD (IntKind.i64.wrap ((0 : Int) + (1 : Int))).toNat (K.arr (2 : Nat) (K.int IntKind.i64)).dflt)
  (Int.toNat (0 : Int)) (0 : Int))) (IntKind.i64.wrap ((placeR4 n c).snd.snd.fst + List.getD ([[(0 : Int), (0 : Int)], [(1 : Int), (0 : Int)], [(1 : Int), (1 : Int)], [(0 : Int), (1
  : Int)]].getD (IntKind.i64.wrap ((0 : Int) + (1 : Int))).toNat (K.arr (2 : Nat) (K.int IntKind.i64)).dflt) (Int.toNat (1 : Int)) (0 : Int)))).fst).set (IntKind.i64.wrap
  (IntKind.i64.wrap ((0 : Int) + (1 : Int)) + (1 : Int))).toNat (cornerR n (placeR4 n c).fst (IntKind.i64.wrap ((placeR4 n c).snd.fst + List.getD ([[(0 : Int), (0 : Int)], [(1 :
  Int), (0 : Int)], [(1 : Int), (1 : Int)], [(0 : Int), (1 : Int)]].getD (IntKind.i64.wrap (IntKind.i64.wrap ((0 : Int) + (1 : Int)) + (1 : Int))).toNat (K.arr (2 : Nat) (K.int
  IntKind.i64)).dflt) (Int.toNat (0 : Int)) (0 : Int))) (IntKind.i64.wrap ((placeR4 n c).snd.snd.fst + List.getD ([[(0 : Int), (0 : Int)], [(1 : Int), (0 : Int)], [(1 : Int), (1 :
  Int)], [(0 : Int), (1 : Int)]].getD (IntKind.i64.wrap (IntKind.i64.wrap ((0 : Int) + (1 : Int)) + (1 : Int))).toNat (K.arr (2 : Nat) (K.int IntKind.i64)).dflt) (Int.toNat (1 :
  Int)) (0 : Int)))).fst).set (IntKind.i64.wrap (IntKind.i64.wrap (IntKind.i64.wrap ((0 : Int) + (1 : Int)) + (1 : Int)) + (1 : Int))).toNat (cornerR n (placeR4 n c).fst
  (IntKind.i64.wrap ((placeR4 n c).snd.fst + List.getD ([[(0 : Int), (0 : Int)], [(1 : Int), (0 : Int)], [(1 : Int), (1 : Int)], [(0 : Int), (1 : Int)]].getD (IntKind.i64.wrap
  (IntKind.i64.wrap (IntKind.i64.wrap ((0 : Int) + (1 : Int)) + (1 : Int)) + (1 : Int))).toNat (K.arr (2 : Nat) (K.int IntKind.i64)).dflt) (Int.toNat (0 : Int)) (0 : Int)))
  (IntKind.i64.wrap ((placeR4 n c).snd.snd.fst + List.getD ([[(0 : Int), (0 : Int)], [(1 : Int), (0 : Int)], [(1 : Int), (1 : Int)], [(0 : Int), (1 : Int)]].getD (IntKind.i64.wrap
  (IntKind.i64.wrap (IntKind.i64.wrap ((0 : Int) + (1 : Int)) + (1 : Int)) + (1 : Int))).toNat (K.arr (2 : Nat) (K.int IntKind.i64)).dflt) (Int.toNat (1 : Int)) (0 :
  Int)))).fst).length = (4 : Nat)), ∃ (h : (List.replicate (4 : Nat) ((K.flt Go.FloatKind.f64).pair ((K.flt Go.FloatKind.f64).pair (K.flt Go.FloatKind.f64))).dflt).length = (4 :
  Nat) ∧ (((((List.replicate (4 : Nat) ((K.flt Go.FloatKind.f64).pair ((K.flt Go.FloatKind.f64).pair (K.flt Go.FloatKind.f64))).dflt).set (Int.toNat (0 : Int)) (cornerR n (placeR4 n
  c).fst (IntKind.i64.wrap ((placeR4 n c).snd.fst + List.getD ([[(0 : Int), (0 : Int)], [(1 : Int), (0 : Int)], [(1 : Int), (1 : Int)], [(0 : Int), (1 : Int)]].getD (Int.toNat (0 :
  Int)) (K.arr (2 : Nat) (K.int IntKind.i64)).dflt) (Int.toNat (0 : Int)) (0 : Int))) (IntKind.i64.wrap ((placeR4 n c).snd.snd.fst + List.getD ([[(0 : Int), (0 : Int)], [(1 : Int),
  (0 : Int)], [(1 : Int), (1 : Int)], [(0 : Int), (1 : Int)]].getD (Int.toNat (0 : Int)) (K.arr (2 : Nat) (K.int IntKind.i64)).dflt) (Int.toNat (1 : Int)) (0 : Int)))).fst).set
  (IntKind.i64.wrap ((0 : Int) + (1 : Int))).toNat (cornerR n (placeR4 n c).fst (IntKind.i64.wrap ((placeR4 n c).snd.fst + List.getD ([[(0 : Int), (0 : Int)], [(1 : Int), (0 :
  Int)], [(1 : Int), (1 : Int)], [(0 : Int), (1 : Int)]].getD (IntKind.i64.wrap ((0 : Int) + (1 : Int))).toNat (K.arr (2 : Nat) (K.int IntKind.i64)).dflt) (Int.toNat (0 : Int)) (0 :
  Int))) (IntKind.i64.wrap ((placeR4 n c).snd.snd.fst + List.getD ([[(0 : Int), (0 : Int)], [(1 : Int), (0 : Int)], [(1 : Int), (1 : Int)], [(0 : Int), (1 : Int)]].getD
  (IntKind.i64.wrap ((0 : Int) + (1 : Int))).toNat (K.arr (2 : Nat) (K.int IntKind.i64)).dflt) (Int.toNat (1 : Int)) (0 : Int)))).fst).set (IntKind.i64.wrap (IntKind.i64.wrap ((0 :
  Int) + (1 : Int)) + (1 : Int))).toNat (cornerR n (placeR4 n c).fst (IntKind.i64.wrap ((placeR4 n c).snd.fst + List.getD ([[(0 : Int), (0 : Int)], [(1 : Int), (0 : Int)], [(1 :
  Int), (1 : Int)], [(0 : Int), (1 : Int)]].getD (IntKind.i64.wrap (IntKind.i64.wrap ((0 : Int) + (1 : Int)) + (1 : Int))).toNat (K.arr (2 : Nat) (K.int IntKind.i64)).dflt)
  (Int.toNat (0 : Int)) (0 : Int))) (IntKind.i64.wrap ((placeR4 n c).snd.snd.fst + List.getD ([[(0 : Int), (0 : Int)], [(1 : Int), (0 : Int)], [(1 : Int), (1 : Int)], [(0 : Int), (1
  : Int)]].getD (IntKind.i64.wrap (IntKind.i64.wrap ((0 : Int) + (1 : Int)) + (1 : Int))).toNat (K.arr (2 : Nat) (K.int IntKind.i64)).dflt) (Int.toNat (1 : Int)) (0 :
  Int)))).fst).set (IntKind.i64.wrap (IntKind.i64.wrap (IntKind.i64.wrap ((0 : Int) + (1 : Int)) + (1 : Int)) + (1 : Int))).toNat (cornerR n (placeR4 n c).fst (IntKind.i64.wrap
  ((placeR4 n c).snd.fst + List.getD ([[(0 : Int), (0 : Int)], [(1 : Int), (0 : Int)], [(1 : Int), (1 : Int)], [(0 : Int), (1 : Int)]].getD (IntKind.i64.wrap (IntKind.i64.wrap
  (IntKind.i64.wrap ((0 : Int) + (1 : Int)) + (1 : Int)) + (1 : Int))).toNat (K.arr (2 : Nat) (K.int IntKind.i64)).dflt) (Int.toNat (0 : Int)) (0 : Int))) (IntKind.i64.wrap
  ((placeR4 n c).snd.snd.fst + List.getD ([[(0 : Int), (0 : Int)], [(1 : Int), (0 : Int)], [(1 : Int), (1 : Int)], [(0 : Int), (1 : Int)]].getD (IntKind.i64.wrap (IntKind.i64.wrap
  (IntKind.i64.wrap ((0 : Int) + (1 : Int)) + (1 : Int)) + (1 : Int))).toNat (K.arr (2 : Nat) (K.int IntKind.i64)).dflt) (Int.toNat (1 : Int)) (0 : Int)))).fst).length = (4 : Nat)),
  ∃ (h : (((((List.replicate (4 : Nat) ((K.flt Go.FloatKind.f64).pair ((K.flt Go.FloatKind.f64).pair (K.flt Go.FloatKind.f64))).dflt).set (Int.toNat (0 : Int)) (cornerR n (placeR4 n
  c).fst (IntKind.i64.wrap ((placeR4 n c).snd.fst + List.getD ([[(0 : Int), (0 : Int)], [(1 : Int), (0 : Int)], [(1 : Int), (1 : Int)], [(0 : Int), (1 : Int)]].getD (Int.toNat (0 :
  Int)) (K.arr (2 : Nat) (K.int IntKind.i64)).dflt) (Int.toNat (0 : Int)) (0 : Int))) (IntKind.i64.wrap ((placeR4 n c).snd.snd.fst + List.getD ([[(0 : Int), (0 : Int)], [(1 : Int),
  (0 : Int)], [(1 : Int), (1 : Int)], [(0 : Int), (1 : Int)]].getD (Int.toNat (0 : Int)) (K.arr (2 : Nat) (K.int IntKind.i64)).dflt) (Int.toNat (1 : Int)) (0 : Int)))).fst).set
  (IntKind.i64.wrap ((0 : Int) + (1 : Int))).toNat (cornerR n (placeR4 n c).fst (IntKind.i64.wrap ((placeR4 n c).snd.fst + List.getD ([[(0 : Int), (0 : Int)], [(1 : Int), (0 :
  Int)], [(1 : Int), (1 : Int)], [(0 : Int), (1 : Int)]].getD (IntKind.i64.wrap ((0 : Int) + (1 : Int))).toNat (K.arr (2 : Nat) (K.int IntKind.i64)).dflt) (Int.toNat (0 : Int)) (0 :
  Int))) (IntKind.i64.wrap ((placeR4 n c).snd.snd.fst + List.getD ([[(0 : Int), (0 : Int)], [(1 : Int), (0 : Int)], [(1 : Int), (1 : Int)], [(0 : Int), (1 : Int)]].getD
  (IntKind.i64.wrap ((0 : Int) + (1 : Int))).toNat (K.arr (2 : Nat) (K.int IntKind.i64)).dflt) (Int.toNat (1 : Int)) (0 : Int)))).fst).set (IntKind.i64.wrap (IntKind.i64.wrap ((0 :
  Int) + (1 : Int)) + (1 : Int))).toNat (cornerR n (placeR4 n c).fst (IntKind.i64.wrap ((placeR4 n c).snd.fst + List.getD ([[(0 : Int), (0 : Int)], [(1 : Int), (0 : Int)], [(1 :
  Int), (1 : Int)], [(0 : Int), (1 : Int)]].getD (IntKind.i64.wrap (IntKind.i64.wrap ((0 : Int) + (1 : Int)) + (1 : Int))).toNat (K.arr (2 : Nat) (K.int IntKind.i64)).dflt)
  (Int.toNat (0 : Int)) (0 : Int))) (IntKind.i64.wrap ((placeR4 n c).snd.snd.fst + List.getD ([[(0 : Int), (0 : Int)], [(1 : Int), (0 : Int)], [(1 : Int), (1 : Int)], [(0 : Int), (1
  : Int)]].getD (IntKind.i64.wrap (IntKind.i64.wrap ((0 : Int) + (1 : Int)) + (1 : Int))).toNat (K.arr (2 : Nat) (K.int IntKind.i64)).dflt) (Int.toNat (1 : Int)) (0 :
  Int)))).fst).set (IntKind.i64.wrap (IntKind.i64.wrap (IntKind.i64.wrap ((0 : Int) + (1 : Int)) + (1 : Int)) + (1 : Int))).toNat (cornerR n (placeR4 n c).fst (IntKind.i64.wrap
  ((placeR4 n c).snd.fst + List.getD ([[(0 : Int), (0 : Int)], [(1 : Int), (0 : Int)], [(1 : Int), (1 : Int)], [(0 : Int), (1 : Int)]].getD (IntKind.i64.wrap (IntKind.i64.wrap
  (IntKind.i64.wrap ((0 : Int) + (1 : Int)) + (1 : Int)) + (1 : Int))).toNat (K.arr (2 : Nat) (K.int IntKind.i64)).dflt) (Int.toNat (0 : Int)) (0 : Int))) (IntKind.i64.wrap
  ((placeR4 n c).snd.snd.fst + List.getD ([[(0 : Int), (0 : Int)], [(1 : Int), (0 : Int)], [(1 : Int), (1 : Int)], [(0 : Int), (1 : Int)]].getD (IntKind.i64.wrap (IntKind.i64.wrap
  (IntKind.i64.wrap ((0 : Int) + (1 : Int)) + (1 : Int)) + (1 : Int))).toNat (K.arr (2 : Nat) (K.int IntKind.i64)).dflt) (Int.toNat (1 : Int)) (0 : Int)))).fst).length = (4 : Nat)),
  post (((((List.replicate (4 : Nat) ((K.flt Go.FloatKind.f64).pair ((K.flt Go.FloatKind.f64).pair (K.flt Go.FloatKind.f64))).dflt).set (Int.toNat (0 : Int)) (cornerR n (placeR4 n
  c).fst (IntKind.i64.wrap ((placeR4 n c).snd.fst + List.getD ([[(0 : Int), (0 : Int)], [(1 : Int), (0 : Int)], [(1 : Int), (1 : Int)], [(0 : Int), (1 : Int)]].getD (Int.toNat (0 :
  Int)) (K.arr (2 : Nat) (K.int IntKind.i64)).dflt) (Int.toNat (0 : Int)) (0 : Int))) (IntKind.i64.wrap ((placeR4 n c).snd.snd.fst + List.getD ([[(0 : Int), (0 : Int)], [(1 : Int),
  (0 : Int)], [(1 : Int), (1 : Int)], [(0 : Int), (1 : Int)]].getD (Int.toNat (0 : Int)) (K.arr (2 : Nat) (K.int IntKind.i64)).dflt) (Int.toNat (1 : Int)) (0 : Int)))).fst).set
  (IntKind.i64.wrap ((0 : Int) + (1 : Int))).toNat (cornerR n (placeR4 n c).fst (IntKind.i64.wrap ((placeR4 n c).snd.fst + List.getD ([[(0 : Int), (0 : Int)], [(1 : Int), (0 :
  Int)], [(1 : Int), (1 : Int)], [(0 : Int), (1 : Int)]].getD (IntKind.i64.wrap ((0 : Int) + (1 : Int))).toNat (K.arr (2 : Nat) (K.int IntKind.i64)).dflt) (Int.toNat (0 : Int)) (0 :
  Int))) (IntKind.i64.wrap ((placeR4 n c).snd.snd.fst + List.getD ([[(0 : Int), (0 : Int)], [(1 : Int), (0 : Int)], [(1 : Int), (1 : Int)], [(0 : Int), (1 : Int)]].getD
  (IntKind.i64.wrap ((0 : Int) + (1 : Int))).toNat (K.arr (2 : Nat) (K.int IntKind.i64)).dflt) (Int.toNat (1 : Int)) (0 : Int)))).fst).set (IntKind.i64.wrap (IntKind.i64.wrap ((0 :
  Int) + (1 : Int)) + (1 : Int))).toNat (cornerR n (placeR4 n c).fst (IntKind.i64.wrap ((placeR4 n c).snd.fst + List.getD ([[(0 : Int), (0 : Int)], [(1 : Int), (0 : Int)], [(1 :
  Int), (1 : Int)], [(0 : Int), (1 : Int)]].getD (IntKind.i64.wrap (IntKind.i64.wrap ((0 : Int) + (1 : Int)) + (1 : Int))).toNat (K.arr (2 : Nat) (K.int IntKind.i64)).dflt)
  (Int.toNat (0 : Int)) (0 : Int))) (IntKind.i64.wrap ((placeR4 n c).snd.snd.fst + List.getD ([[(0 : Int), (0 : Int)], [(1 : Int), (0 : Int)], [(1 : Int), (1 : Int)], [(0 : Int), (1
  : Int)]].getD (IntKind.i64.wrap (IntKind.i64.wrap ((0 : Int) + (1 : Int)) + (1 : Int))).toNat (K.arr (2 : Nat) (K.int IntKind.i64)).dflt) (Int.toNat (1 : Int)) (0 :
  Int)))).fst).set (IntKind.i64.wrap (IntKind.i64.wrap (IntKind.i64.wrap ((0 : Int) + (1 : Int)) + (1 : Int)) + (1 : Int))).toNat (cornerR n (placeR4 n c).fst (IntKind.i64.wrap
  ((placeR4 n c).snd.fst + List.getD ([[(0 : Int), (0 : Int)], [(1 : Int), (0 : Int)], [(1 : Int), (1 : Int)], [(0 : Int), (1 : Int)]].getD (IntKind.i64.wrap (IntKind.i64.wrap
  (IntKind.i64.wrap ((0 : Int) + (1 : Int)) + (1 : Int)) + (1 : Int))).toNat (K.arr (2 : Nat) (K.int IntKind.i64)).dflt) (Int.toNat (0 : Int)) (0 : Int))) (IntKind.i64.wrap
  ((placeR4 n c).snd.snd.fst + List.getD ([[(0 : Int), (0 : Int)], [(1 : Int), (0 : Int)], [(1 : Int), (1 : Int)], [(0 : Int), (1 : Int)]].getD (IntKind.i64.wrap (IntKind.i64.wrap
  (IntKind.i64.wrap ((0 : Int) + (1 : Int)) + (1 : Int)) + (1 : Int))).toNat (K.arr (2 : Nat) (K.int IntKind.i64)).dflt) (Int.toNat (1 : Int)) (0 : Int)))).fst, Bool.true, ()))
theorem Lx_geom_corners (n : Int) (c : Int) (h : II n c) : Fx_geom_corners  n c (fun r => r = cornersR n c) := by
  obtain ⟨hn, hc⟩ := h
  refine ⟨⟨hn, hc⟩, Br.intro (fun e => ?_) fun e => ?_⟩
  · refine ⟨⟨by decide, by decide⟩, by decide, ?_⟩
    have ok : placeOk n c = false := by
      cases q : placeOk n c with
      | false => rfl
      | true => unfold placeR4 at e; rw [if_pos q] at e; cases e
    unfold cornersR; rw [if_neg (by rw [ok]; decide)]
  have ok : placeOk n c = true := by
    cases q : placeOk n c with
    | true => rfl
    | false => unfold placeR4 at e; rw [if_neg (by rw [q]; decide)] at e; cases e
  obtain ⟨h1, h2, h3, h4, h5, h6⟩ := place_facts ok
  obtain ⟨r1, r2, r3, r4, r5, r6⟩ := place_rng ok
  have hp : placeR4 n c = (c / (n * n), c % n, c / n % n, true, ()) := by unfold placeR4; rw [if_pos ok]
  have hf : I64 (c / (n * n)) := ⟨by omega, by omega⟩
  have ho : ∀ x, 0 ≤ x → x ≤ 33 → I64 x := fun x a b => ⟨by omega, by omega⟩
  have w0 : ∀ x, 0 ≤ x → x ≤ 33 → IntKind.i64.wrap (x + 0) = x := fun x a b => by rw [Int.add_zero, wi (ho x a b)]
  have w1 : ∀ x, 0 ≤ x → x ≤ 32 → IntKind.i64.wrap (x + 1) = x + 1 := fun x a b => wi (ho _ (by omega) (by omega))
  have hC : ∀ i j, 0 ≤ i → i ≤ n → 0 ≤ j → j ≤ n → cornerR n (c / (n * n)) i j = (cornerQ n (c / (n * n)) i j, true, ()) := by
    intro i j a1 a2 a3 a4
    unfold cornerR
    rw [if_pos]
    unfold cornerOk
    rw [goodC_iff.2 ⟨h1, h2⟩, decide_eq_true (by omega), decide_eq_true (by omega), decide_eq_true (by omega), decide_eq_true (by omega), decide_eq_true (by omega), decide_eq_true (by omega)]
    rfl
  have a0 := w0 (c % n) (by omega) (by omega)
  have a1 := w1 (c % n) (by omega) (by omega)
  have b0 := w0 (c / n % n) (by omega) (by omega)
  have b1 := w1 (c / n % n) (by omega) (by omega)
  have A0 : I64 (IntKind.i64.wrap (c % n + 0)) := by rw [a0]; exact ho _ (by omega) (by omega)
  have A1 : I64 (IntKind.i64.wrap (c % n + 1)) := by rw [a1]; exact ho _ (by omega) (by omega)
  have B0 : I64 (IntKind.i64.wrap (c / n % n + 0)) := by rw [b0]; exact ho _ (by omega) (by omega)
  have B1 : I64 (IntKind.i64.wrap (c / n % n + 1)) := by rw [b1]; exact ho _ (by omega) (by omega)
  rw [hp]
  refine ⟨by decide, ⟨by decide, by decide⟩, ⟨by decide, by decide, by decide⟩, ⟨by decide, by decide, by decide⟩, ⟨hn, hf, A0, B0⟩, ⟨by decide, by decide, Nat.le_refl 4⟩,
    by decide, ⟨by decide, by decide⟩, ⟨by decide, by decide, by decide⟩, ⟨by decide, by decide, by decide⟩, ⟨hn, hf, A1, B0⟩, ⟨by decide, by decide, Nat.le_refl 4⟩,
    by decide, ⟨by decide, by decide⟩, ⟨by decide, by decide, by decide⟩, ⟨by decide, by decide, by decide⟩, ⟨hn, hf, A1, B1⟩, ⟨by decide, by decide, Nat.le_refl 4⟩,
    by decide, ⟨by decide, by decide⟩, ⟨by decide, by decide, by decide⟩, ⟨by decide, by decide, by decide⟩, ⟨hn, hf, A0, B1⟩, ⟨by decide, by decide, Nat.le_refl 4⟩, rfl, ⟨rfl, rfl⟩, rfl, ?_⟩
  show ([(cornerR n (c / (n * n)) (IntKind.i64.wrap (c % n + 0)) (IntKind.i64.wrap (c / n % n + 0))).1, (cornerR n (c / (n * n)) (IntKind.i64.wrap (c % n + 1)) (IntKind.i64.wrap (c / n % n + 0))).1, (cornerR n (c / (n * n)) (IntKind.i64.wrap (c % n + 1)) (IntKind.i64.wrap (c / n % n + 1))).1, (cornerR n (c / (n * n)) (IntKind.i64.wrap (c % n + 0)) (IntKind.i64.wrap (c / n % n + 1))).1], true, ()) = _
  rw [a0, a1, b0, b1, hC _ _ (by omega) (by omega) (by omega) (by omega), hC _ _ (by omega) (by omega) (by omega) (by omega), hC _ _ (by omega) (by omega) (by omega) (by omega), hC _ _ (by omega) (by omega) (by omega) (by omega)]
  unfold cornersR; rw [if_pos ok]
def Fx_geom_Area := fun (n c : Int) (post : Int × Unit → Prop) => ∃ (h : II n c), ∃ (h : (List.replicate (4 : Nat) ((K.flt Go.FloatKind.f64).pair ((K.flt Go.FloatKind.f64).pair
  (K.flt Go.FloatKind.f64))).dflt).length = (4 : Nat) ∧ (cornersR n c).fst.length = (4 : Nat)), Br (!(cornersR n c).snd.fst) (post ((0 : Int), ())) (∃ (h : (0 : Int) ≤ (2 : Int) ∧
  (2 : Int) < (↑(4 : Nat) : Int) ∧ (4 : Nat) ≤ (cornersR n c).fst.length), ∃ (h : (0 : Int) ≤ (0 : Int) ∧ (0 : Int) < (↑(4 : Nat) : Int) ∧ (4 : Nat) ≤ (cornersR n c).fst.length), ∃
  (h : WV2 ((cornersR n c).fst.getD (Int.toNat (2 : Int)) ((K.flt Go.FloatKind.f64).pair ((K.flt Go.FloatKind.f64).pair (K.flt Go.FloatKind.f64))).dflt) ((cornersR n c).fst.getD
  (Int.toNat (0 : Int)) ((K.flt Go.FloatKind.f64).pair ((K.flt Go.FloatKind.f64).pair (K.flt Go.FloatKind.f64))).dflt)), ∃ (h : (0 : Int) ≤ (3 : Int) ∧ (3 : Int) < (↑(4 : Nat) :
  Int) ∧ (4 : Nat) ≤ (cornersR n c).fst.length), ∃ (h : (0 : Int) ≤ (1 : Int) ∧ (1 : Int) < (↑(4 : Nat) : Int) ∧ (4 : Nat) ≤ (cornersR n c).fst.length), ∃ (h : WV2 ((cornersR n
  c).fst.getD (Int.toNat (3 : Int)) ((K.flt Go.FloatKind.f64).pair ((K.flt Go.FloatKind.f64).pair (K.flt Go.FloatKind.f64))).dflt) ((cornersR n c).fst.getD (Int.toNat (1 : Int))
  ((K.flt Go.FloatKind.f64).pair ((K.flt Go.FloatKind.f64).pair (K.flt Go.FloatKind.f64))).dflt)), ∃ (h : True), ∃ (h : WV (crossR (minusR ((cornersR n c).fst.getD (Int.toNat (2 :
  Int)) ((K.flt Go.FloatKind.f64).pair ((K.flt Go.FloatKind.f64).pair (K.flt Go.FloatKind.f64))).dflt) ((cornersR n c).fst.getD (Int.toNat (0 : Int)) ((K.flt Go.FloatKind.f64).pair
  ((K.flt Go.FloatKind.f64).pair (K.flt Go.FloatKind.f64))).dflt)).fst (minusR ((cornersR n c).fst.getD (Int.toNat (3 : Int)) ((K.flt Go.FloatKind.f64).pair ((K.flt
  Go.FloatKind.f64).pair (K.flt Go.FloatKind.f64))).dflt) ((cornersR n c).fst.getD (Int.toNat (1 : Int)) ((K.flt Go.FloatKind.f64).pair ((K.flt Go.FloatKind.f64).pair (K.flt
  Go.FloatKind.f64))).dflt)).fst).fst), ∀ (a : Nat), FRes Go.FloatKind.f64 (Go.FloatKind.f64.format.mul (lengthR (crossR (minusR ((cornersR n c).fst.getD (Int.toNat (2 : Int))
  ((K.flt Go.FloatKind.f64).pair ((K.flt Go.FloatKind.f64).pair (K.flt Go.FloatKind.f64))).dflt) ((cornersR n c).fst.getD (Int.toNat (0 : Int)) ((K.flt Go.FloatKind.f64).pair
  ((K.flt Go.FloatKind.f64).pair (K.flt Go.FloatKind.f64))).dflt)).fst (minusR ((cornersR n c).fst.getD (Int.toNat (3 : Int)) ((K.flt Go.FloatKind.f64).pair ((K.flt
  Go.FloatKind.f64).pair (K.flt Go.FloatKind.f64))).dflt) ((cornersR n c).fst.getD (Int.toNat (1 : Int)) ((K.flt Go.FloatKind.f64).pair ((K.flt Go.FloatKind.f64).pair (K.flt
  Go.FloatKind.f64))).dflt)).fst).fst).fst (4602678819172646912 : Nat)) a → ∀ (a_1 : Nat), FRes Go.FloatKind.f64 (Go.FloatKind.f64.format.mul a (4742290407621132288 : Nat)) a_1 → ∃
  (h : W64 a_1), post (imax (roundR a_1).fst (1 : Int), ()))
theorem Lx_geom_Area (n : Int) (c : Int) (h : II n c) : Fx_geom_Area  n c (fun r => r = areaR n c) := by
  have g0 : ∀ i : Nat, WV ((cornersR n c).fst.getD i ((K.flt Go.FloatKind.f64).pair ((K.flt Go.FloatKind.f64).pair (K.flt Go.FloatKind.f64))).dflt) := corners_w n c
  have hl := corners_len n c
  refine ⟨h, ⟨by decide, hl⟩, ?_⟩
  rw [hl]
  refine Br.intro (fun e => ?_) fun e => ?_
  · rw [corners_ok] at e
    exact congrArg r1 (by unfold areaI; rw [if_neg (by intro q; rw [q] at e; cases e)])
  rw [corners_ok] at e
  have ok : placeOk n c = true := by simpa using e
  refine ⟨⟨by decide, by decide, Nat.le_refl 4⟩, ⟨by decide, by decide, Nat.le_refl 4⟩, ⟨g0 2, g0 0⟩, ⟨by decide, by decide, Nat.le_refl 4⟩, ⟨by decide, by decide, Nat.le_refl 4⟩, ⟨g0 3, g0 1⟩, trivial, crossV_w _ _, ?_⟩
  intro x hx y hy
  obtain ⟨x1, x2⟩ := fmul hx
  obtain ⟨y1, y2⟩ := fmul hy
  refine ⟨y2, congrArg r1 ?_⟩
  have hs : cornersR n c = ([cornerC n c 0 0, cornerC n c 1 0, cornerC n c 1 1, cornerC n c 0 1], true, ()) := by
    unfold cornersR; rw [if_pos ok]; unfold cornerC; rw [Int.add_zero, Int.add_zero]
  have hq : [cornerC n c 0 0, cornerC n c 1 0, cornerC n c 1 1, cornerC n c 0 1] = (cornersR n c).1 := by rw [hs]
  have hx1 : quietF x = mulQ (spanQ n c) halfR := by
    rw [x1]
    exact congrArg (fun z => mulQ z 4602678819172646912) (span_l (z := (0, 0, 0)) hq.symm)
  have hy1 : quietF y = mulQ (mulQ (spanQ n c) halfR) unitArea := by
    rw [y1]
    have u : quietF x = quietF (mulQ (spanQ n c) halfR) := by rw [hx1, mulQ_q]
    exact mulQ_congr u rfl
  show imax (roundI y).1 1 = areaI n c
  unfold areaI
  rw [if_pos ok, round_quiet y2, hy1]
end Go.Lift

set_option linter.unusedVariables false
set_option linter.unusedSimpArgs false
namespace Go.Lift
def Fx_raw_Same := fun (a b : Nat) (post : Bool × Unit → Prop) => ∃ (h : True), ∃ (h : True), ∀ (a_1 : Bool), a_1 = ((bitsR a).fst == (bitsR b).fst) → post (a_1, ())
theorem Lx_raw_Same (a : Nat) (b : Nat) : Fx_raw_Same  a b (fun r => r = sameR a b) := by
  refine ⟨trivial, trivial, ?_⟩
  rintro _ rfl
  exact congrArg r1 (beq_nat a b)
def Fx_bits_quiet := fun (post : Nat × Unit → Prop) => ∃ (h : True), post ((fromR (9221120237041090561 : Int)).fst, ())
theorem Lx_bits_quiet  : Fx_bits_quiet   (fun r => r = qnR) := by
  exact ⟨trivial, rfl⟩
def Fx_math_Abs := fun (a : Nat) (post : Nat × Unit → Prop) => ∃ (h : True), ∃ (h : True), post ((fromR (Go.bits Go.BinOp.andNot IntKind.u64 (bitsR a).fst (9223372036854775808 :
  Int))).fst, ())
theorem Lx_math_Abs (a : Nat) (h : W64 a) : Fx_math_Abs  a (fun r => r = absR a) := by
  refine ⟨trivial, trivial, ?_⟩
  show r1 (Go.bits .andNot .u64 (a : Int) 9223372036854775808).toNat = _
  rw [andNot_sign h]; rfl
def Fx_math_IsNaN := fun (a : Nat) (post : Bool × Unit → Prop) => ∀ (a_1 : Bool), a_1 = fcmp Go.BinOp.neq (Go.FloatKind.f64.format.order a a) → post (a_1, ())
theorem Lx_math_IsNaN (a : Nat) : Fx_math_IsNaN  a (fun r => r = nanR a) := by
  rintro _ rfl
  exact congrArg r1 (neq_self a)
def Fx_bits_Canon := fun (a : Nat) (post : Nat × Unit → Prop) => ∀ (a_1 : Bool), a_1 = fcmp Go.BinOp.neq (Go.FloatKind.f64.format.order a a) → Br a_1 (∃ (h : True), post (qnR.fst,
  ())) (∀ (a_2 : Bool), a_2 = fcmp Go.BinOp.eql (Go.FloatKind.f64.format.order a (0 : Nat)) → Br a_2 (post ((0 : Nat), ())) (post (a, ())))
theorem Lx_bits_Canon (a : Nat) : Fx_bits_Canon  a (fun r => r = canonR a) := by
  rintro _ rfl
  refine Br.intro (fun e => ⟨trivial, ?_⟩) fun e => ?_
  · have e : isN a = true := (neq_self a).symm.trans e
    exact congrArg r1 (by unfold canonF; rw [if_pos e]; rfl)
  · have e : isN a = false := (neq_self a).symm.trans e
    rintro _ rfl
    refine Br.intro (fun z => ?_) fun z => ?_
    · have z := (eql_zero a).symm.trans z
      rw [e] at z
      exact congrArg r1 (by unfold canonF; rw [e, if_neg (by simp), if_pos (by simpa using z)])
    · have z := (eql_zero a).symm.trans z
      rw [e] at z
      exact congrArg r1 (by unfold canonF; rw [e, if_neg (by simp), if_neg (by simpa using z)])
def Fx_sum_quiet := fun (a : Nat) (post : Nat × Unit → Prop) => ∃ (h : True), ∀ (a_1 : Bool), a_1 = (nanR a).fst → Br a_1 (∃ (h : True), post ((fromR (9221120237041090561 :
  Int)).fst, ())) (post (a, ()))
theorem Lx_sum_quiet (a : Nat) : Fx_sum_quiet  a (fun r => r = quietR a) := by
  refine ⟨trivial, ?_⟩
  rintro _ rfl
  refine Br.intro (fun e => ⟨trivial, ?_⟩) fun e => ?_
  · have e : isN a = true := e
    exact congrArg r1 (by unfold quietF; rw [if_pos e]; rfl)
  · have e : isN a = false := e
    exact congrArg r1 (by unfold quietF; rw [e]; rfl)
def Fx_sum_magnitude := fun (a : Nat) (post : Int × Unit → Prop) => ∃ (h : True), ∃ (h : (0 : Int) ≤ (1 : Int)), post (IntKind.u64.wrap ((bitsR a).fst * (2 : Int) ^ Min.min
  (Int.toNat (1 : Int)) IntKind.u64.bits), ())
theorem Lx_sum_magnitude (a : Nat) (h : W64 a) : Fx_sum_magnitude  a (fun r => r = mag2R a) := by
  refine ⟨trivial, by decide, ?_⟩
  refine congrArg r1 ?_
  show IntKind.u64.wrap ((a : Int) * 2 ^ 1) = _
  rw [IntKind.wrap_u64]; unfold mag2 magI rungOf sw; omega
def Fx_bits_place := fun (a : Nat) (post : Int × Unit → Prop) => ∃ (h : True), ∀ (a_1 : Bool), a_1 = decide ((bitsR a).fst ≥ (9223372036854775808 : Int)) → Br a_1 (post (Go.bits
  Go.BinOp.xor IntKind.u64 (if IntKind.u64.signed = Bool.true then (-1 : Int) else IntKind.u64.max) (bitsR a).fst, ())) (post (Go.bits Go.BinOp.or IntKind.u64 (bitsR a).fst
  (9223372036854775808 : Int), ()))
theorem Lx_bits_place (a : Nat) (h : W64 a) : Fx_bits_place  a (fun r => r = placeR a) := by
  refine ⟨trivial, ?_⟩
  rintro _ rfl
  refine Br.intro (fun e => ?_) fun e => ?_
  · have e : 9223372036854775808 ≤ a := by have := of_decide_eq_true e; dsimp only [bitsR, r1] at this; omega
    refine congrArg r1 ?_
    show Go.bits .xor .u64 _ (a : Int) = _
    unfold placeI; rw [if_pos ((sgn_iff h).2 e)]
    exact xor_ones h
  · have e : a < 9223372036854775808 := by have := of_decide_eq_false e; dsimp only [bitsR, r1] at this; omega
    refine congrArg r1 ?_
    show Go.bits .or .u64 (a : Int) 9223372036854775808 = _
    unfold placeI; rw [if_neg (by rw [sgn_iff h]; omega)]
    exact or_sign e
def Fx_cmp_isNaN_uint64 := fun (a : Int) (post : Bool × Unit → Prop) => ∀ (a_1 : Bool), a_1 = (a != a) → post (a_1, ())
theorem Lx_cmp_isNaN_uint64 (a : Int) : Fx_cmp_isNaN_uint64  a (fun r => r = noR a) := by
  rintro _ rfl
  exact congrArg r1 (by simp)
def Fx_cmp_Compare_uint64 := fun (a b : Int) (post : Int × Unit → Prop) => ∃ (h : True), ∀ (a_1 : Bool), a_1 = (noR a).fst → ∃ (h : True), ∀ (a_2 : Bool), a_2 = (noR b).fst → Br a_1
  (Br a_2 (post ((0 : Int), ())) (post ((-1 : Int), ()))) (Br a_2 (post ((1 : Int), ())) (∀ (a_3 : Bool), a_3 = decide (a < b) → Br a_3 (post ((-1 : Int), ())) (∀ (a_4 : Bool), a_4
  = decide (a > b) → Br a_4 (post ((1 : Int), ())) (post ((0 : Int), ())))))
theorem Lx_cmp_Compare_uint64 (a : Int) (b : Int) : Fx_cmp_Compare_uint64  a b (fun r => r = cmpR a b) := by
  refine ⟨trivial, ?_⟩
  rintro _ rfl
  refine ⟨trivial, ?_⟩
  rintro _ rfl
  refine Br.intro (fun e => by cases e) fun _ => Br.intro (fun e => by cases e) fun _ => ?_
  rintro _ rfl
  refine Br.intro (fun e => ?_) fun e => ?_
  · exact congrArg r1 (by unfold cmpI; rw [if_pos (of_decide_eq_true e)])
  · rintro _ rfl
    refine Br.intro (fun f => ?_) fun f => ?_
    · exact congrArg r1 (by unfold cmpI; rw [if_neg (of_decide_eq_false e), if_pos (of_decide_eq_true f)])
    · exact congrArg r1 (by unfold cmpI; rw [if_neg (of_decide_eq_false e), if_neg (of_decide_eq_false f)])
def Fx_bits_Order := fun (a b : Nat) (post : Int × Unit → Prop) => ∃ (h : W64 a), ∃ (h : W64 b), ∃ (h : True), post ((cmpR (placeR a).fst (placeR b).fst).fst, ())
theorem Lx_bits_Order (a : Nat) (b : Nat) (h : W2 a b) : Fx_bits_Order  a b (fun r => r = ordR a b) := by
  exact ⟨h.1, h.2, trivial, rfl⟩
def Fx_cmp_Or_int := fun (a : List Int) (post : Int × Unit → Prop) => HIs [] [] ∧ ∃ (I : Int × Unit → Unit → Prop), ∃ (μ : Int × Unit → Unit → Nat), I ((0 : Int), ()) () ∧ ∀ (x :
  Int × Unit) (y : Unit), I x y → ∀ (a_1 : Bool), a_1 = decide (x.fst < (↑a.length : Int)) → Br a_1 (∃ (h : (0 : Int) ≤ x.fst ∧ x.fst < (↑a.length : Int)), ∀ (a_2 : Bool), a_2 =
  (a.getD x.fst.toNat (0 : Int) != (0 : Int)) → Br a_2 (post (a.getD x.fst.toNat (0 : Int), ())) (HIs [] [] ∧ I (IntKind.i64.wrap (x.fst + (1 : Int)), ()) () ∧ μ (IntKind.i64.wrap
  (x.fst + (1 : Int)), ()) () < μ x y)) (post ((0 : Int), ()))
theorem Lx_cmp_Or_int (a : List Int) (w : KS.wf [.slice (.int .i64)] (a, ())) : Fx_cmp_Or_int  a (fun r => r = orR a) := by
  have hl : a.length ≤ maxN := w.1.1
  unfold maxN at hl
  refine ⟨rfl, fun x _ => ∃ i : Nat, x.1 = i ∧ i ≤ a.length ∧ firstNZ (a.drop i) = firstNZ a, fun x _ => a.length - x.1.toNat, ⟨0, rfl, by omega, rfl⟩, ?_⟩
  rintro ⟨_, ⟨⟩⟩ _ ⟨i, hi, hil, hn⟩
  dsimp only at hi
  subst hi
  rintro _ rfl
  refine Br.intro (fun e => ?_) fun e => ?_
  · have e : i < a.length := by have := of_decide_eq_true e; dsimp only at this; omega
    have hd : a.drop i = a.getD i 0 :: a.drop (i + 1) := by
      rw [List.drop_eq_getElem_cons e, List.getD_eq_getElem?_getD, List.getElem?_eq_getElem e]; rfl
    rw [hd] at hn
    simp only [Int.toNat_natCast]
    refine ⟨⟨by omega, by omega⟩, ?_⟩
    rintro _ rfl
    refine Br.intro (fun z => ?_) fun z => ⟨rfl, ⟨i + 1, ?_, by omega, ?_⟩, ?_⟩
    · have z : a.getD i 0 ≠ 0 := by simpa using z
      refine congrArg r1 ?_
      rw [← hn]; unfold firstNZ; rw [if_pos z]
    · rw [wi ⟨by omega, by omega⟩]; omega
    · have z : a.getD i 0 = 0 := by simpa using z
      rw [← hn, z]; rfl
    · rw [wi ⟨by omega, by omega⟩]; omega
  · have e : a.length ≤ i := by have := of_decide_eq_false e; dsimp only at this; omega
    refine congrArg r1 ?_
    rw [← hn, List.drop_eq_nil_of_le e]; rfl
def Fx_sum_Three_c1 := fun (a b : Nat) (post : Int × Unit → Prop) => ∃ (h : W64 a), ∃ (h : W64 b), ∃ (h : True), ∃ (h : W2 a b), ∃ (h : True), post ((orR [(cmpR (mag2R a).fst (mag2R
  b).fst).fst, (ordR a b).fst]).fst, ())
theorem Lx_sum_Three_c1 (a : Nat) (b : Nat) (h : W2 a b) : Fx_sum_Three_c1  a b (fun r => r = cmpMR a b) := by
  refine ⟨h.1, h.2, trivial, h, trivial, ?_⟩
  refine congrArg r1 ?_
  unfold cmpM
  show firstNZ [cmpI (mag2 a) (mag2 b), ordF a b] = _
  simp only [firstNZ]
  split
  · rfl
  · split
    · rfl
    · rename_i z; simpa using (by simpa using z : ordF a b = 0).symm
def Fx_math_IsInf := fun (a : Nat) (b : Int) (post : Bool × Unit → Prop) => ∀ (a_1 : Bool), a_1 = (b == (0 : Int)) → Br a_1 (∃ (h : W64 a), ∀ (a_2 : Bool), a_2 = fcmp Go.BinOp.gtr
  (Go.FloatKind.f64.format.order (absR a).fst (9218868437227405311 : Nat)) → post (a_2, ())) (∀ (a_2 : Bool), a_2 = decide (b < (0 : Int)) → Br a_2 (∀ (a_3 : Bool), a_3 = fcmp
  Go.BinOp.gtr (Go.FloatKind.f64.format.order (Go.Op.negFloat Go.FloatKind.f64 a) (9218868437227405311 : Nat)) → post (a_3, ())) (∀ (a_3 : Bool), a_3 = fcmp Go.BinOp.gtr
  (Go.FloatKind.f64.format.order a (9218868437227405311 : Nat)) → post (a_3, ())))
theorem Lx_math_IsInf (a : Nat) (b : Int) (h : WI a b) : Fx_math_IsInf  a b (fun r => r = infSR a b) := by
  have h : W64 a := h
  rintro _ rfl
  refine Br.intro (fun e => ⟨h, ?_⟩) fun e => ?_
  · have e : b = 0 := by simpa using e
    rintro _ rfl
    refine congrArg r1 ?_
    show fcmp .gtr (Ieee.double.order (rungOf a) 9218868437227405311) = _
    unfold infS; rw [if_pos e, gt_max]
    have := rung_lt a
    have e1 : rungOf (rungOf a) = rungOf a := rung_lo this
    have e2 : sgn (rungOf a) = false := by rw [sgn_dec (by unfold W64; omega)]; simp; omega
    rw [e1, e2]; simp
  · have e : b ≠ 0 := by simpa using e
    rintro _ rfl
    refine Br.intro (fun f => ?_) fun f => ?_
    · have f : b < 0 := of_decide_eq_true f
      rintro _ rfl
      refine congrArg r1 ?_
      show fcmp .gtr (Ieee.double.order (negF a) 9218868437227405311) = _
      unfold infS; rw [if_neg e, if_pos f, gt_max, (rung_negF h).1, sgn_negF h]; simp
    · have f : ¬ b < 0 := of_decide_eq_false f
      rintro _ rfl
      refine congrArg r1 ?_
      show fcmp .gtr (Ieee.double.order a 9218868437227405311) = _
      unfold infS; rw [if_neg e, if_neg f, gt_max]
end Go.Lift

set_option linter.unusedVariables false
set_option linter.unusedSimpArgs false
namespace Go.Lift
open Go.Proofs
theorem Nh_math_Float64bits : Nq_math_Float64bits.holds Tryz.prog NG 45 := by
  refine ext_bits64 (fn := Tryz.f45) Tryz.func45 (by decide) rfl rfl (by kernel_rfl)
theorem Nh_math_Float64frombits : Nq_math_Float64frombits.holds Tryz.prog NG 95 := by
  refine ext_from64 (fn := Tryz.f95) Tryz.func95 (by decide) rfl rfl (by kernel_rfl)
theorem Nh_math_sqrt : Nq_math_sqrt.holds Tryz.prog NG 135 := by
  refine ext_sqrt (fn := Tryz.f135) Tryz.func135 (by decide) rfl rfl (by kernel_rfl)
def Nx_raw_Same : Cx := ⟨tabOf Ntab, conOf [(45, Nq_math_Float64bits)], NG⟩
theorem Nx_raw_Same_ok : CxOk Tryz.prog Nx_raw_Same := ⟨tabB_sound Ntab_ok, conOf_sound ⟨Nh_math_Float64bits, trivial⟩⟩
theorem Nat_raw_Same : FnAt Tryz.prog 61 Tryz.f61.ntmps Tryz.f61.results.toList (Tryz.f61.body.getD .skip) := ⟨Tryz.f61, Tryz.func61, rfl, rfl, by simp, by decide⟩
theorem Neq_raw_Same (a : Nat) (b : Nat) (post : Bool × Unit → Prop) : fnEval Nx_raw_Same nHn Tryz.f61.ntmps Tryz.f61.results.toList (Tryz.f61.body.getD .skip) [.flt .f64, .flt .f64] [.snap .bool] (a, b, ()) post = Fx_raw_Same  a b post := by kernel_rfl
theorem Nh_raw_Same : Nq_raw_Same.holds Tryz.prog NG 61 :=
  detP Nx_raw_Same_ok Nmixed nHn Nat_raw_Same (F := fun x post => Fx_raw_Same  x.1 x.2.1 post) (fun x post => Neq_raw_Same x.1 x.2.1 post) fun x _ _ => Lx_raw_Same  x.1 x.2.1
def Nx_bits_quiet : Cx := ⟨tabOf Ntab, conOf [(95, Nq_math_Float64frombits)], NG⟩
theorem Nx_bits_quiet_ok : CxOk Tryz.prog Nx_bits_quiet := ⟨tabB_sound Ntab_ok, conOf_sound ⟨Nh_math_Float64frombits, trivial⟩⟩
theorem Nat_bits_quiet : FnAt Tryz.prog 134 Tryz.f134.ntmps Tryz.f134.results.toList (Tryz.f134.body.getD .skip) := ⟨Tryz.f134, Tryz.func134, rfl, rfl, by simp, by decide⟩
theorem Neq_bits_quiet  (post : Nat × Unit → Prop) : fnEval Nx_bits_quiet nHn Tryz.f134.ntmps Tryz.f134.results.toList (Tryz.f134.body.getD .skip) [] [.snap (.flt .f64)] (()) post = Fx_bits_quiet   post := by kernel_rfl
theorem Nh_bits_quiet : Nq_bits_quiet.holds Tryz.prog NG 134 :=
  detP Nx_bits_quiet_ok Nmixed nHn Nat_bits_quiet (F := fun x post => Fx_bits_quiet   post) (fun x post => Neq_bits_quiet  post) fun x _ _ => Lx_bits_quiet
def Nx_math_Abs : Cx := ⟨tabOf Ntab, conOf [(45, Nq_math_Float64bits), (95, Nq_math_Float64frombits)], NG⟩
theorem Nx_math_Abs_ok : CxOk Tryz.prog Nx_math_Abs := ⟨tabB_sound Ntab_ok, conOf_sound ⟨Nh_math_Float64bits, Nh_math_Float64frombits, trivial⟩⟩
theorem Nat_math_Abs : FnAt Tryz.prog 66 Tryz.f66.ntmps Tryz.f66.results.toList (Tryz.f66.body.getD .skip) := ⟨Tryz.f66, Tryz.func66, rfl, rfl, by simp, by decide⟩
theorem Neq_math_Abs (a : Nat) (post : Nat × Unit → Prop) : fnEval Nx_math_Abs nHn Tryz.f66.ntmps Tryz.f66.results.toList (Tryz.f66.body.getD .skip) [.flt .f64] [.snap (.flt .f64)] (a, ()) post = Fx_math_Abs  a post := by kernel_rfl
theorem Nh_math_Abs : Nq_math_Abs.holds Tryz.prog NG 66 :=
  detP Nx_math_Abs_ok Nmixed nHn Nat_math_Abs (F := fun x post => Fx_math_Abs  x.1 post) (fun x post => Neq_math_Abs x.1 post) fun x h _ => Lx_math_Abs  x.1 h
def Nx_math_IsNaN : Cx := ⟨tabOf Ntab, conOf [], NG⟩
theorem Nx_math_IsNaN_ok : CxOk Tryz.prog Nx_math_IsNaN := ⟨tabB_sound Ntab_ok, fun f c h => by cases h⟩
theorem Nat_math_IsNaN : FnAt Tryz.prog 67 Tryz.f67.ntmps Tryz.f67.results.toList (Tryz.f67.body.getD .skip) := ⟨Tryz.f67, Tryz.func67, rfl, rfl, by simp, by decide⟩
theorem Neq_math_IsNaN (a : Nat) (post : Bool × Unit → Prop) : fnEval Nx_math_IsNaN nHn Tryz.f67.ntmps Tryz.f67.results.toList (Tryz.f67.body.getD .skip) [.flt .f64] [.snap .bool] (a, ()) post = Fx_math_IsNaN  a post := by kernel_rfl
theorem Nh_math_IsNaN : Nq_math_IsNaN.holds Tryz.prog NG 67 :=
  detP Nx_math_IsNaN_ok Nmixed nHn Nat_math_IsNaN (F := fun x post => Fx_math_IsNaN  x.1 post) (fun x post => Neq_math_IsNaN x.1 post) fun x _ _ => Lx_math_IsNaN  x.1
def Nx_bits_Canon : Cx := ⟨tabOf Ntab, conOf [(134, Nq_bits_quiet)], NG⟩
theorem Nx_bits_Canon_ok : CxOk Tryz.prog Nx_bits_Canon := ⟨tabB_sound Ntab_ok, conOf_sound ⟨Nh_bits_quiet, trivial⟩⟩
theorem Nat_bits_Canon : FnAt Tryz.prog 105 Tryz.f105.ntmps Tryz.f105.results.toList (Tryz.f105.body.getD .skip) := ⟨Tryz.f105, Tryz.func105, rfl, rfl, by simp, by decide⟩
theorem Neq_bits_Canon (a : Nat) (post : Nat × Unit → Prop) : fnEval Nx_bits_Canon nHn Tryz.f105.ntmps Tryz.f105.results.toList (Tryz.f105.body.getD .skip) [.flt .f64] [.snap (.flt .f64)] (a, ()) post = Fx_bits_Canon  a post := by kernel_rfl
theorem Nh_bits_Canon : Nq_bits_Canon.holds Tryz.prog NG 105 :=
  detP Nx_bits_Canon_ok Nmixed nHn Nat_bits_Canon (F := fun x post => Fx_bits_Canon  x.1 post) (fun x post => Neq_bits_Canon x.1 post) fun x _ _ => Lx_bits_Canon  x.1
def Nx_sum_quiet : Cx := ⟨tabOf Ntab, conOf [(67, Nq_math_IsNaN), (95, Nq_math_Float64frombits)], NG⟩
theorem Nx_sum_quiet_ok : CxOk Tryz.prog Nx_sum_quiet := ⟨tabB_sound Ntab_ok, conOf_sound ⟨Nh_math_IsNaN, Nh_math_Float64frombits, trivial⟩⟩
theorem Nat_sum_quiet : FnAt Tryz.prog 158 Tryz.f158.ntmps Tryz.f158.results.toList (Tryz.f158.body.getD .skip) := ⟨Tryz.f158, Tryz.func158, rfl, rfl, by simp, by decide⟩
theorem Neq_sum_quiet (a : Nat) (post : Nat × Unit → Prop) : fnEval Nx_sum_quiet nHn Tryz.f158.ntmps Tryz.f158.results.toList (Tryz.f158.body.getD .skip) [.flt .f64] [.snap (.flt .f64)] (a, ()) post = Fx_sum_quiet  a post := by kernel_rfl
theorem Nh_sum_quiet : Nq_sum_quiet.holds Tryz.prog NG 158 :=
  detP Nx_sum_quiet_ok Nmixed nHn Nat_sum_quiet (F := fun x post => Fx_sum_quiet  x.1 post) (fun x post => Neq_sum_quiet x.1 post) fun x _ _ => Lx_sum_quiet  x.1
def Nx_sum_magnitude : Cx := ⟨tabOf Ntab, conOf [(45, Nq_math_Float64bits)], NG⟩
theorem Nx_sum_magnitude_ok : CxOk Tryz.prog Nx_sum_magnitude := ⟨tabB_sound Ntab_ok, conOf_sound ⟨Nh_math_Float64bits, trivial⟩⟩
theorem Nat_sum_magnitude : FnAt Tryz.prog 140 Tryz.f140.ntmps Tryz.f140.results.toList (Tryz.f140.body.getD .skip) := ⟨Tryz.f140, Tryz.func140, rfl, rfl, by simp, by decide⟩
theorem Neq_sum_magnitude (a : Nat) (post : Int × Unit → Prop) : fnEval Nx_sum_magnitude nHn Tryz.f140.ntmps Tryz.f140.results.toList (Tryz.f140.body.getD .skip) [.flt .f64] [.snap (.int .u64)] (a, ()) post = Fx_sum_magnitude  a post := by kernel_rfl
theorem Nh_sum_magnitude : Nq_sum_magnitude.holds Tryz.prog NG 140 :=
  detP Nx_sum_magnitude_ok Nmixed nHn Nat_sum_magnitude (F := fun x post => Fx_sum_magnitude  x.1 post) (fun x post => Neq_sum_magnitude x.1 post) fun x h _ => Lx_sum_magnitude  x.1 h
def Nx_bits_place : Cx := ⟨tabOf Ntab, conOf [(45, Nq_math_Float64bits)], NG⟩
theorem Nx_bits_place_ok : CxOk Tryz.prog Nx_bits_place := ⟨tabB_sound Ntab_ok, conOf_sound ⟨Nh_math_Float64bits, trivial⟩⟩
theorem Nat_bits_place : FnAt Tryz.prog 157 Tryz.f157.ntmps Tryz.f157.results.toList (Tryz.f157.body.getD .skip) := ⟨Tryz.f157, Tryz.func157, rfl, rfl, by simp, by decide⟩
theorem Neq_bits_place (a : Nat) (post : Int × Unit → Prop) : fnEval Nx_bits_place nHn Tryz.f157.ntmps Tryz.f157.results.toList (Tryz.f157.body.getD .skip) [.flt .f64] [.snap (.int .u64)] (a, ()) post = Fx_bits_place  a post := by kernel_rfl
theorem Nh_bits_place : Nq_bits_place.holds Tryz.prog NG 157 :=
  detP Nx_bits_place_ok Nmixed nHn Nat_bits_place (F := fun x post => Fx_bits_place  x.1 post) (fun x post => Neq_bits_place x.1 post) fun x h _ => Lx_bits_place  x.1 h
def Nx_cmp_isNaN_uint64 : Cx := ⟨tabOf Ntab, conOf [], NG⟩
theorem Nx_cmp_isNaN_uint64_ok : CxOk Tryz.prog Nx_cmp_isNaN_uint64 := ⟨tabB_sound Ntab_ok, fun f c h => by cases h⟩
theorem Nat_cmp_isNaN_uint64 : FnAt Tryz.prog 156 Tryz.f156.ntmps Tryz.f156.results.toList (Tryz.f156.body.getD .skip) := ⟨Tryz.f156, Tryz.func156, rfl, rfl, by simp, by decide⟩
theorem Neq_cmp_isNaN_uint64 (a : Int) (post : Bool × Unit → Prop) : fnEval Nx_cmp_isNaN_uint64 nHn Tryz.f156.ntmps Tryz.f156.results.toList (Tryz.f156.body.getD .skip) [.int .u64] [.snap .bool] (a, ()) post = Fx_cmp_isNaN_uint64  a post := by kernel_rfl
theorem Nh_cmp_isNaN_uint64 : Nq_cmp_isNaN_uint64.holds Tryz.prog NG 156 :=
  detP Nx_cmp_isNaN_uint64_ok Nmixed nHn Nat_cmp_isNaN_uint64 (F := fun x post => Fx_cmp_isNaN_uint64  x.1 post) (fun x post => Neq_cmp_isNaN_uint64 x.1 post) fun x _ _ => Lx_cmp_isNaN_uint64  x.1
def Nx_cmp_Compare_uint64 : Cx := ⟨tabOf Ntab, conOf [(156, Nq_cmp_isNaN_uint64)], NG⟩
theorem Nx_cmp_Compare_uint64_ok : CxOk Tryz.prog Nx_cmp_Compare_uint64 := ⟨tabB_sound Ntab_ok, conOf_sound ⟨Nh_cmp_isNaN_uint64, trivial⟩⟩
theorem Nat_cmp_Compare_uint64 : FnAt Tryz.prog 139 Tryz.f139.ntmps Tryz.f139.results.toList (Tryz.f139.body.getD .skip) := ⟨Tryz.f139, Tryz.func139, rfl, rfl, by simp, by decide⟩
theorem Neq_cmp_Compare_uint64 (a : Int) (b : Int) (post : Int × Unit → Prop) : fnEval Nx_cmp_Compare_uint64 nHn Tryz.f139.ntmps Tryz.f139.results.toList (Tryz.f139.body.getD .skip) [.int .u64, .int .u64] [.snap (.int .i64)] (a, b, ()) post = Fx_cmp_Compare_uint64  a b post := by kernel_rfl
theorem Nh_cmp_Compare_uint64 : Nq_cmp_Compare_uint64.holds Tryz.prog NG 139 :=
  detP Nx_cmp_Compare_uint64_ok Nmixed nHn Nat_cmp_Compare_uint64 (F := fun x post => Fx_cmp_Compare_uint64  x.1 x.2.1 post) (fun x post => Neq_cmp_Compare_uint64 x.1 x.2.1 post) fun x _ _ => Lx_cmp_Compare_uint64  x.1 x.2.1
def Nx_bits_Order : Cx := ⟨tabOf Ntab, conOf [(157, Nq_bits_place), (139, Nq_cmp_Compare_uint64)], NG⟩
theorem Nx_bits_Order_ok : CxOk Tryz.prog Nx_bits_Order := ⟨tabB_sound Ntab_ok, conOf_sound ⟨Nh_bits_place, Nh_cmp_Compare_uint64, trivial⟩⟩
theorem Nat_bits_Order : FnAt Tryz.prog 141 Tryz.f141.ntmps Tryz.f141.results.toList (Tryz.f141.body.getD .skip) := ⟨Tryz.f141, Tryz.func141, rfl, rfl, by simp, by decide⟩
theorem Neq_bits_Order (a : Nat) (b : Nat) (post : Int × Unit → Prop) : fnEval Nx_bits_Order nHn Tryz.f141.ntmps Tryz.f141.results.toList (Tryz.f141.body.getD .skip) [.flt .f64, .flt .f64] [.snap (.int .i64)] (a, b, ()) post = Fx_bits_Order  a b post := by kernel_rfl
theorem Nh_bits_Order : Nq_bits_Order.holds Tryz.prog NG 141 :=
  detP Nx_bits_Order_ok Nmixed nHn Nat_bits_Order (F := fun x post => Fx_bits_Order  x.1 x.2.1 post) (fun x post => Neq_bits_Order x.1 x.2.1 post) fun x h _ => Lx_bits_Order  x.1 x.2.1 h
def Nx_cmp_Or_int : Cx := ⟨tabOf Ntab, conOf [], NG⟩
theorem Nx_cmp_Or_int_ok : CxOk Tryz.prog Nx_cmp_Or_int := ⟨tabB_sound Ntab_ok, fun f c h => by cases h⟩
theorem Nat_cmp_Or_int : FnAt Tryz.prog 138 Tryz.f138.ntmps Tryz.f138.results.toList (Tryz.f138.body.getD .skip) := ⟨Tryz.f138, Tryz.func138, rfl, rfl, by simp, by decide⟩
theorem Neq_cmp_Or_int (a : List Int) (post : Int × Unit → Prop) : fnEval Nx_cmp_Or_int Nhn_cmp_Or_int Tryz.f138.ntmps Tryz.f138.results.toList (Tryz.f138.body.getD .skip) [.slice (.int .i64)] [.snap (.int .i64)] (a, ()) post = Fx_cmp_Or_int  a post := by kernel_rfl
theorem Nh_cmp_Or_int : Nq_cmp_Or_int.holds Tryz.prog NG 138 :=
  detP Nx_cmp_Or_int_ok Nmixed Nhn_cmp_Or_int Nat_cmp_Or_int (F := fun x post => Fx_cmp_Or_int  x.1 post) (fun x post => Neq_cmp_Or_int x.1 post) fun x _ w => Lx_cmp_Or_int  x.1 w
def Nx_sum_Three_c1 : Cx := ⟨tabOf Ntab, conOf [(140, Nq_sum_magnitude), (139, Nq_cmp_Compare_uint64), (141, Nq_bits_Order), (138, Nq_cmp_Or_int)], NG⟩
theorem Nx_sum_Three_c1_ok : CxOk Tryz.prog Nx_sum_Three_c1 := ⟨tabB_sound Ntab_ok, conOf_sound ⟨Nh_sum_magnitude, Nh_cmp_Compare_uint64, Nh_bits_Order, Nh_cmp_Or_int, trivial⟩⟩
theorem Nat_sum_Three_c1 : FnAt Tryz.prog 137 Tryz.f137.ntmps Tryz.f137.results.toList (Tryz.f137.body.getD .skip) := ⟨Tryz.f137, Tryz.func137, rfl, rfl, by simp, by decide⟩
theorem Neq_sum_Three_c1 (a : Nat) (b : Nat) (post : Int × Unit → Prop) : fnEval Nx_sum_Three_c1 nHn Tryz.f137.ntmps Tryz.f137.results.toList (Tryz.f137.body.getD .skip) [.flt .f64, .flt .f64] [.snap (.int .i64)] (a, b, ()) post = Fx_sum_Three_c1  a b post := by kernel_rfl
theorem Nh_sum_Three_c1 : Nq_sum_Three_c1.holds Tryz.prog NG 137 :=
  detP Nx_sum_Three_c1_ok Nmixed nHn Nat_sum_Three_c1 (F := fun x post => Fx_sum_Three_c1  x.1 x.2.1 post) (fun x post => Neq_sum_Three_c1 x.1 x.2.1 post) fun x h _ => Lx_sum_Three_c1  x.1 x.2.1 h
def Nx_math_IsInf : Cx := ⟨tabOf Ntab, conOf [(66, Nq_math_Abs)], NG⟩
theorem Nx_math_IsInf_ok : CxOk Tryz.prog Nx_math_IsInf := ⟨tabB_sound Ntab_ok, conOf_sound ⟨Nh_math_Abs, trivial⟩⟩
theorem Nat_math_IsInf : FnAt Tryz.prog 165 Tryz.f165.ntmps Tryz.f165.results.toList (Tryz.f165.body.getD .skip) := ⟨Tryz.f165, Tryz.func165, rfl, rfl, by simp, by decide⟩
theorem Neq_math_IsInf (a : Nat) (b : Int) (post : Bool × Unit → Prop) : fnEval Nx_math_IsInf nHn Tryz.f165.ntmps Tryz.f165.results.toList (Tryz.f165.body.getD .skip) [.flt .f64, .int .i64] [.snap .bool] (a, b, ()) post = Fx_math_IsInf  a b post := by kernel_rfl
theorem Nh_math_IsInf : Nq_math_IsInf.holds Tryz.prog NG 165 :=
  detP Nx_math_IsInf_ok Nmixed nHn Nat_math_IsInf (F := fun x post => Fx_math_IsInf  x.1 x.2.1 post) (fun x post => Neq_math_IsInf x.1 x.2.1 post) fun x h _ => Lx_math_IsInf  x.1 x.2.1 h
end Go.Lift

set_option linter.unusedVariables false
set_option linter.unusedSimpArgs false
namespace Go.Lift
def Fx_vec_canon := fun (a b c : Nat) (post : (Nat × Nat × Nat) × Unit → Prop) => ∃ (h : True), ∃ (h : True), ∃ (h : True), post (((canonR a).fst, (canonR b).fst, (canonR c).fst),
  ())
theorem Lx_vec_canon (a : Nat) (b : Nat) (c : Nat) : Fx_vec_canon  a b c (fun r => r = canonVR a b c) := by
  exact ⟨trivial, trivial, trivial, rfl⟩
def Fx_vec_Minus := fun (a b : Nat × Nat × Nat) (post : (Nat × Nat × Nat) × Unit → Prop) => ∀ (a_1 : Nat), FRes Go.FloatKind.f64 (Go.FloatKind.f64.format.sub a.fst b.fst) a_1 → ∀
  (a_2 : Nat), FRes Go.FloatKind.f64 (Go.FloatKind.f64.format.sub a.snd.fst b.snd.fst) a_2 → ∀ (a_3 : Nat), FRes Go.FloatKind.f64 (Go.FloatKind.f64.format.sub a.snd.snd b.snd.snd)
  a_3 → ∃ (h : True), post (((canonVR a_1 a_2 a_3).fst.fst, (canonVR a_1 a_2 a_3).fst.snd.fst, (canonVR a_1 a_2 a_3).fst.snd.snd), ())
theorem Lx_vec_Minus (a : Nat × Nat × Nat) (b : Nat × Nat × Nat) (h : WV2 a b) : Fx_vec_Minus  a b (fun r => r = minusR a b) := by
  intro x hx y hy z hz
  exact ⟨trivial, congrArg r1 (canonV_congr (fsub hx).1 (fsub hy).1 (fsub hz).1)⟩
def Fx_vec_Cross := fun (a b : Nat × Nat × Nat) (post : (Nat × Nat × Nat) × Unit → Prop) => ∀ (a_1 : Nat), FRes Go.FloatKind.f64 (Go.FloatKind.f64.format.mul a.snd.fst b.snd.snd)
  a_1 → ∀ (a_2 : Nat), FRes Go.FloatKind.f64 (Go.FloatKind.f64.format.mul a.snd.snd b.snd.fst) a_2 → ∀ (a_3 : Nat), FRes Go.FloatKind.f64 (Go.FloatKind.f64.format.sub a_1 a_2) a_3 →
  ∀ (a_4 : Nat), FRes Go.FloatKind.f64 (Go.FloatKind.f64.format.mul a.snd.snd b.fst) a_4 → ∀ (a_5 : Nat), FRes Go.FloatKind.f64 (Go.FloatKind.f64.format.mul a.fst b.snd.snd) a_5 → ∀
  (a_6 : Nat), FRes Go.FloatKind.f64 (Go.FloatKind.f64.format.sub a_4 a_5) a_6 → ∀ (a_7 : Nat), FRes Go.FloatKind.f64 (Go.FloatKind.f64.format.mul a.fst b.snd.fst) a_7 → ∀ (a_8 :
  Nat), FRes Go.FloatKind.f64 (Go.FloatKind.f64.format.mul a.snd.fst b.fst) a_8 → ∀ (a : Nat), FRes Go.FloatKind.f64 (Go.FloatKind.f64.format.sub a_7 a_8) a → ∃ (h : True), post
  (((canonVR a_3 a_6 a).fst.fst, (canonVR a_3 a_6 a).fst.snd.fst, (canonVR a_3 a_6 a).fst.snd.snd), ())
theorem Lx_vec_Cross (a : Nat × Nat × Nat) (b : Nat × Nat × Nat) : Fx_vec_Cross  a b (fun r => r = crossR a b) := by
  intro x1 h1 x2 h2 x3 h3 x4 h4 x5 h5 x6 h6 x7 h7 x8 h8 x9 h9
  exact ⟨trivial, congrArg r1 (canonV_congr (less_eq (fmul h1).1 (fmul h2).1 (fsub h3).1) (less_eq (fmul h4).1 (fmul h5).1 (fsub h6).1) (less_eq (fmul h7).1 (fmul h8).1 (fsub h9).1))⟩
def Fx_math_Sqrt := fun (a : Nat) (post : Nat × Unit → Prop) => ∃ (h : True), ∀ (a_1 : Nat × Unit), sqrtP a a_1 → post (a_1.fst, ())
theorem Lx_math_Sqrt (a : Nat) : Fx_math_Sqrt  a (fun r => sqrtP a r) := by
  exact ⟨trivial, fun x hx => hx⟩
def Fx_vec_Length := fun (a : Nat × Nat × Nat) (post : Nat × Unit → Prop) => ∀ (a_1 : Nat), FRes Go.FloatKind.f64 (Go.FloatKind.f64.format.mul a.fst a.fst) a_1 → ∀ (a_2 : Nat), FRes
  Go.FloatKind.f64 (Go.FloatKind.f64.format.mul a.snd.fst a.snd.fst) a_2 → ∀ (a_3 : Nat), FRes Go.FloatKind.f64 (Go.FloatKind.f64.format.mul a.snd.snd a.snd.snd) a_3 → ∃ (h : W3 a_1
  a_2 a_3), ∃ (h : True), ∀ (a : Nat × Unit), sqrtP (threeR a_1 a_2 a_3).fst a → ∃ (h : True), post ((canonR a.fst).fst, ())
theorem Lx_vec_Length (a : Nat × Nat × Nat) (h : WV a) : Fx_vec_Length  a (fun r => r = lengthR a) := by
  intro x hx y hy z hz
  exact ⟨⟨(fmul hx).2, (fmul hy).2, (fmul hz).2⟩, trivial, fun w hw => ⟨trivial, congrArg r1 (length_eq (fmul hx).1 (fmul hy).1 (fmul hz).1 hw.1)⟩⟩
def Fx_vec_Gap := fun (a b : Nat × Nat × Nat) (post : Nat × Unit → Prop) => ∃ (h : WV2 (a.fst, a.snd.fst, a.snd.snd) (b.fst, b.snd.fst, b.snd.snd)), ∃ (h : WV (minusR (a.fst,
  a.snd.fst, a.snd.snd) (b.fst, b.snd.fst, b.snd.snd)).fst), post ((lengthR (minusR (a.fst, a.snd.fst, a.snd.snd) (b.fst, b.snd.fst, b.snd.snd)).fst).fst, ())
theorem Lx_vec_Gap (a : Nat × Nat × Nat) (b : Nat × Nat × Nat) (h : WV2 a b) : Fx_vec_Gap  a b (fun r => r = gapR a b) := by
  exact ⟨h, minusV_w _ _, rfl⟩
def Fx_vec_Unit := fun (a : Nat × Nat × Nat) (post : (Nat × Nat × Nat) × Unit → Prop) => ∃ (h : WV (a.fst, a.snd.fst, a.snd.snd)), ∀ (a_1 : Bool), a_1 = fcmp Go.BinOp.gtr
  (Go.FloatKind.f64.format.order (lengthR (a.fst, a.snd.fst, a.snd.snd)).fst (0 : Nat)) → Br (!a_1) (post (((0 : Nat), (0 : Nat), (0 : Nat)), ())) (∃ (h : WI (lengthR (a.fst,
  a.snd.fst, a.snd.snd)).fst (1 : Int)), ∀ (a_2 : Bool), a_2 = (infSR (lengthR (a.fst, a.snd.fst, a.snd.snd)).fst (1 : Int)).fst → Br a_2 (post (((0 : Nat), (0 : Nat), (0 : Nat)),
  ())) (∀ (a_3 : Nat), FRes Go.FloatKind.f64 (Go.FloatKind.f64.format.div a.fst (lengthR (a.fst, a.snd.fst, a.snd.snd)).fst) a_3 → ∀ (a_4 : Nat), FRes Go.FloatKind.f64
  (Go.FloatKind.f64.format.div a.snd.fst (lengthR (a.fst, a.snd.fst, a.snd.snd)).fst) a_4 → ∀ (a_5 : Nat), FRes Go.FloatKind.f64 (Go.FloatKind.f64.format.div a.snd.snd (lengthR
  (a.fst, a.snd.fst, a.snd.snd)).fst) a_5 → ∃ (h : True), post (((canonVR a_3 a_4 a_5).fst.fst, (canonVR a_3 a_4 a_5).fst.snd.fst, (canonVR a_3 a_4 a_5).fst.snd.snd), ())))
theorem Lx_vec_Unit (a : Nat × Nat × Nat) (h : WV a) : Fx_vec_Unit  a (fun r => r = unitR a) := by
  refine ⟨h, ?_⟩
  have hs := lengthQ_sgn a
  have hg := gt_zero hs
  rintro _ rfl
  refine Br.intro (fun e => ?_) fun e => ⟨lengthQ_w a, ?_⟩
  · have e : (!fcmp .gtr (Ieee.double.order (lengthQ a) 0)) = true := e
    rw [hg] at e
    refine (congrArg r1 (unit_zero ?_)).symm
    rw [class12]
    rintro ⟨h1, h2⟩
    have : isN (lengthQ a) = false := by unfold isN; simp; omega
    rw [this] at e
    simp [h1] at e
  · have e : (!fcmp .gtr (Ieee.double.order (lengthQ a) 0)) = false := e
    rw [hg] at e
    have e : isN (lengthQ a) = false ∧ rungOf (lengthQ a) ≠ 0 := by simpa using e
    have hi : infS (lengthQ a) 1 = decide (rungOf (lengthQ a) = infR) := by unfold infS; rw [if_neg (by decide), if_neg (by decide), hs]; simp
    rintro _ rfl
    refine Br.intro (fun f => ?_) fun f => ?_
    · have f : infS (lengthQ a) 1 = true := f
      rw [hi] at f
      have f := of_decide_eq_true f
      exact (congrArg r1 (unit_zero (by rw [class12]; rintro ⟨h1, h2⟩; omega))).symm
    · have f : infS (lengthQ a) 1 = false := f
      rw [hi] at f
      have f := of_decide_eq_false f
      have g : rungOf (lengthQ a) ≤ infR := by have := e.1; unfold isN at this; simpa using this
      intro x hx y hy z hz
      exact ⟨trivial, congrArg r1 (unit_some ((class12 _).2 ⟨e.2, by omega⟩) (fdiv hx).1 (fdiv hy).1 (fdiv hz).1)⟩
end Go.Lift
