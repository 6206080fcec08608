/- A part of the proof of TracerFlowsCard: an own lifter of code into plain terms, and plain laws. -/
import Derived.LaidMore
import Derived.MakeChecks
import Derived.Test.YtplhligfkbgllaaGreatDoorRows
import Derived.ProofKit
import Derived.SevenTiedAt
import Derived.Laws.Externs
import Derived.Test.YtplhligfkbgllaaGreatDoorPtD
set_option linter.unusedVariables false
set_option linter.unusedSimpArgs false
set_option linter.unusedSectionVars false
set_option linter.unusedVariables false
set_option linter.unusedSimpArgs false
namespace Go.Lift
open Go.ChangeShapes Go.WideShapes Go.RowKit
mutual
def K.ofD : (k : K) → DataW Unit → Option k.T
  | .int ik, .lit (.int jk n) => if jk = ik then some n else none
  | .arr n e, .agg ds => match ofDs e ds with
    | some xs => if xs.length = n then some xs else none
    | none => none
  | _, _ => none
def ofDs : (e : K) → List (DataW Unit) → Option (List e.T)
  | _, [] => some []
  | e, d :: ds => match K.ofD e d with
    | some x => match ofDs e ds with
      | some xs => some (x :: xs)
      | none => none
    | none => none
end
theorem rows_by {α : Type} {R : α → List Value → Prop} {s : Nat} : ∀ {ys : List α} {cs : List Value}, cs.length = ys.length * s → (∀ (i : Nat) (y : α), ys[i]? = some y → R y ((cs.drop (i * s)).take s)) → Rows R ys cs
  | [], cs, h, _ => List.eq_nil_of_length_eq_zero (by simpa using h)
  | y :: ys, cs, h, hr => by
    rw [List.length_cons, Nat.add_mul, Nat.one_mul] at h
    refine ⟨cs.take s, cs.drop s, (List.take_append_drop s cs).symm, by simpa using hr 0 y rfl, rows_by (s := s) (by rw [List.length_drop]; omega) fun i z hz => ?_⟩
    have := hr (i + 1) z (by simpa using hz)
    rwa [Nat.add_mul, Nat.one_mul, Nat.add_comm, ← List.drop_drop] at this
theorem ofDs_get : ∀ {e : K} {ds : List (DataW Unit)} {xs : List e.T}, ofDs e ds = some xs → xs.length = ds.length ∧ ∀ (i : Nat) (x : e.T), xs[i]? = some x → ∃ d, ds[i]? = some d ∧ K.ofD e d = some x
  | e, [], xs, h => by simp only [ofDs, Option.some.injEq] at h; subst h; exact ⟨rfl, fun i x hx => by simp at hx⟩
  | e, d :: ds, xs, h => by
    simp only [ofDs] at h
    split at h
    · rename_i x hx
      split at h
      · rename_i ys hys
        cases h
        obtain ⟨h1, h2⟩ := ofDs_get hys
        refine ⟨by simp [h1], fun i z hz => ?_⟩
        cases i with
        | zero => simp at hz; subst hz; exact ⟨d, rfl, hx⟩
        | succ i => simpa using h2 i z (by simpa using hz)
      · cases h
    · cases h
theorem trod_ofD {P : Program} {w : World} {ok : Nat → Prop} : ∀ {k : K} {t : TypeId}, KT P t k → ∀ {fuel : Nat} {cs : List Value} {x : DataW Unit × List MemPlace} {y : k.T}, DataW.trod (fun _ => ()) P w 0 (fun _ => true) false fuel t cs = some x → K.ofD k x.1 = some y → k.rep w ok y cs := by
  intro k
  induction k with
  | int ik =>
    intro t hk fuel cs x y h hy
    cases hk with
    | int ht =>
      obtain ⟨n, h1, h2, _⟩ := DataW.trod_int ht h
      rw [h2] at hy
      simp only [K.ofD, if_true] at hy
      obtain rfl := Option.some.inj hy
      exact h1
  | arr n e ih =>
    intro t hk fuel cs x y h hy
    cases hk with
    | arr ht hc hs he =>
      obtain ⟨xs, m, rfl, rfl, h1, h2, h3⟩ := DataW.trod_array ht h
      simp only [K.ofD] at hy
      split at hy
      · rename_i ys hys
        split at hy
        · rename_i hl
          cases hy
          obtain ⟨g1, g2⟩ := ofDs_get hys
          refine ⟨hl, rows_by (s := e.sz) (by rw [h1, hs, hl]) fun i z hz => ?_⟩
          obtain ⟨d, hd, hz2⟩ := g2 i z hz
          have hi : i < n := by rw [← hl]; exact (List.getElem?_eq_some_iff.1 hz).1
          have h4 := h3 i hi
          rw [hc] at h4
          rw [List.getElem?_map] at hd
          cases hx : xs[i]? with
          | none => rw [hx] at hd; cases hd
          | some q =>
            rw [hx] at hd h4
            cases hd
            exact ih he h4 hz2
        · cases hy
      · cases hy
  | _ => intro t hk fuel cs x y h hy; simp [K.ofD] at hy
theorem laid_mem {P : Program} {w : World} {n : String} {d : DataW Unit} : ∀ {l : List (String × DataW Unit)} {ps : List MemPlace}, DataW.LaidVars P w l ps → (n, d) ∈ l →
    ∃ g t cs fuel p, P.globalNamed n = some g ∧ (P.globals[g]?).map (·.type) = some t ∧ w.var? P n = some cs ∧ DataW.trod (fun _ => ()) P w 0 (fun _ => true) false fuel t cs.toList = some (d, p)
  | [], ps, _, h => by cases h
  | (m, e) :: l, ps, ⟨g, t, cs, fuel, p, q, h1, h2, h3, h4, h5, _⟩, h => by
    rcases List.mem_cons.1 h with h | h
    · cases h; exact ⟨g, t, cs, fuel, p, h1, h2, h3, h4⟩
    · exact laid_mem h5 h
theorem laid_rep {P : Program} {w : World} {l : List (String × DataW Unit)} (h : laidMet P l w) {n : String} {d : DataW Unit} (hm : (n, d) ∈ l) {g : Nat} {t : TypeId} (hg : P.globalNamed n = some g) (ht : (P.globals[g]?).map (·.type) = some t) {k : K} (hk : KT P t k) {x : k.T} (hx : K.ofD k d = some x) :
    (K.ptr k).rep w (fun b => b < w.heap.size) (some x) [.pointer (some ⟨g, 0, none⟩)] := by
  obtain ⟨ps, h1, _, _⟩ := h
  obtain ⟨g', t', cs, fuel, p, h2, h3, h4, h5⟩ := laid_mem h1 hm
  rw [hg] at h2; cases h2
  rw [ht] at h3; cases h3
  have hlt : g < w.heap.size := by
    simp only [World.var?, hg, Option.bind_some] at h4
    split at h4
    · rename_i hh; exact lt_of_some hh
    · cases h4
  refine .inr ⟨x, g, 0, cs.toList, rfl, rfl, hlt, trod_ofD hk h5 hx, fun j v hj => ?_⟩
  rw [Nat.zero_add, World.var?_cell hg h4 j]
  simpa using hj
section
variable {H : Type} {enc : TypeId × Value → H}
theorem law_laid {C : Checked} {os : Os} {f : FuncId} {fn : Func} {s : ChangeSpec} {ks : List K} {pre : KS ks → Prop} {tb : TypeId} {G : Globs} {X : World → Array Value → Prop} (hX : ∀ (w w' : World) (args : Array Value), w.heap = w'.heap → X w args → X w' args) (hG : ∀ (w : World) (args : Array Value), X w args → GW G w (fun b => b < w.heap.size))
    (own : ownKnob C.prog.godebug = none) (started : os.Started) (noInit : C.prog.inits.idxOf? f = none)
    (hfn : C.prog.funcs[f]? = some fn) (hbody : fn.body.isSome = true) (hname : (fn.name == "runtime.NumGoroutine") = false)
    (witness : ∃ (w : World) (tape : Tape) (i : Input), w.os = os ∧ (w.forCall tape i).Shaped C.prog ∧ i.vars = [] ∧ Input.okWide C.prog (w.forCall tape i) .any w.heap.size f i ∧
      ((s.pre enc C.prog fn [] false (w.forCall tape i).memory i.args ∧ X (w.forCall tape i).memory i.args) ∧ sizedMet enc C.prog fn (OpenSpec.ofChange s) false (w.forCall tape i).memory i.args) ∧ ({} : Assume).holds C.prog (lone (Frame.enter C.prog f i.args .normal) [] (w.forCall tape i)))
    (hl : laidOutB C.prog = true) (hks : All2 (KT C.prog) fn.params.toList ks) (hread : ∀ t ∈ fn.params.toList, C.prog.readableRec t = true ∧ t < C.prog.types.size)
    (hres : fn.resultTypes = #[tb]) (htb : C.prog.underlying tb = some .bool) (hs : LawSpec s ks.length)
    (hcon : (Con.det ks [.snap .bool] pre (fun _ => (true, ()))).holds C.prog G f) (hpre : ∀ x, KS.rng ks x → KS.wf ks x → pre x) :
    ReturnsInHanded {} C os f .any (fun w args => (s.pre enc C.prog fn [] false w args ∧ X w args) ∧ sizedMet enc C.prog fn (OpenSpec.ofChange s) false w args) (s.post enc C.prog fn false true false false) := by
  refine returnsInHanded_of_calls own started noInit witness ?_
  intro w tape i _ _ _ hok hp hholds
  obtain ⟨_, _, _, fn', hfn', _, _, _, _, hval⟩ := hok
  have e : fn' = fn := Option.some.inj (hfn'.symm.trans hfn)
  subst e
  obtain ⟨⟨⟨ds, gs, before, hw, hc⟩, hx⟩, hz⟩ := hp
  have hx := hX _ (w.forCall tape i) _ (by rfl) hx
  have hW := DataW.Whole.of_heap (w' := w.forCall tape i) (by rfl) hw
  have hwt := hz.weights hw
  generalize w.forCall tape i = W at *
  have hlt : ∀ p ∈ before, p.block < W.heap.size := fun p hp => hW.lt p hp
  obtain ⟨p, q, hA, hV, rfl, hfz, hnd⟩ := id hW
  rw [hs.1] at hV
  obtain ⟨rfl, rfl⟩ := trodVars_none hV
  have hvt : (OpenSpec.ofChange s).bare.plain.varTypes C.prog = [] := by
    show (s.plain.varTypes C.prog) = []
    unfold DataSpec.varTypes
    show s.vars.filterMap _ = []
    rw [hs.1]; rfl
  simp only [List.append_nil] at hwt hW hlt
  rw [hvt, List.append_nil, List.all_eq_true] at hwt
  obtain ⟨x, h1, h2, h3⟩ := args_rep hks hA (fun j t v ht hv => hval j t v (by simpa using ht) (by simpa using hv)) (fun m hm => by simpa using hwt m hm)
  have hspec := hcon W (fun b => b < W.heap.size) (fun _ h => h) x i.args.toList h1 (hG W _ hx) (hpre x h2 h1.wf)
  obtain ⟨code, hcode⟩ := Option.isSome_iff_exists.1 hbody
  have hcalls : Calls C.prog f i.args W fun e w' => ∃ v, e = .returned v ∧ Grows W w' ∧ ResRep W w' (fun b => b < W.heap.size) [.snap .bool] (true, ()) v := by
    rcases hspec with ⟨v, w', g1, _⟩ | ⟨_, g2⟩
    · have := callFunc_run hfn hcode hname i.args.toList.toArray W
      rw [this] at g1; cases g1
    · simpa using g2
  refine hcalls.mono fun e W' ⟨v, he, hg, hr⟩ => ?_
  subst he
  refine ChangeSpec.post_blind ?_
  have hv : v = .bool true := by
    obtain ⟨vs, obs, hv, _, v0, vr, o1, o2, rfl, _, ⟨_, h5⟩, rfl, _⟩ := hr
    rw [hv]
    exact (List.cons.inj h5).1
  subst hv
  have hds := hs.2 H ds h3
  have hb : Below W.heap.size W W' := ⟨hg.os, hg.tape, hg.output, hg.size, hg.keep⟩
  refine ⟨ds, [], p, [], p, [], hW, ?_, ?_, ?_, World.keptBut_mono (fun p hp => ⟨hp, .inr (.inl hp)⟩) (hb.frame (· ∈ p)), fun h => by cases h⟩
  · rw [List.append_nil, hds, hres]
    exact trodAll_mk1 (RowKit.shut_bool htb true)
  · rw [List.append_nil, hds]
    exact args_keep hl hg hread hA hlt (fun x hx => by simpa using hlt x hx)
  · rw [List.append_nil, hds, hs.1]
    rfl
end
end Go.Lift

set_option linter.unusedVariables false
set_option linter.unusedSimpArgs false
namespace Go.Lift
theorem rngI {n : Int} (h : K.rng (.int .i64) n) : I64 n := by
  have h' : (decide (IntKind.i64.min ≤ n) && decide (n ≤ IntKind.i64.max)) = true := h
  simp [IntKind.min, IntKind.max, IntKind.bits, IntKind.signed] at h'
  unfold I64; omega
end Go.Lift

namespace Go.Proofs.YtplhligfkbgllaaGreatDoor
open Go.Lift
theorem own : ownKnob Tryz.checked.prog.godebug = none := by kernel_rfl
theorem laidOut : laidOutB Tryz.checked.prog = true := by kernel_rfl
theorem gFr : Tryz.prog.globalNamed "tarn/geom.frames" = some 4 := by kernel_rfl
theorem tFr : (Tryz.prog.globals[4]?).map (·.type) = some 171 := by kernel_rfl
theorem gFc : Tryz.prog.globalNamed "tarn/cube.frames" = some 0 := by kernel_rfl
theorem tFc : (Tryz.prog.globals[0]?).map (·.type) = some 112 := by kernel_rfl
def laidL : List (String × DataW Unit) := [("tarn/cube.frames", Rows.laid_tarn_cube_frames), ("tarn/geom.frames", Rows.laid_tarn_geom_frames)]
theorem door_met (os : Os) (args : Array Value) : laidMetH Tryz.prog laidL ((World.doorLaid Tryz.prog 400 os).forCall (fun _ _ => 0) ⟨#[], args, []⟩).memory :=
  laidMetH_of_parts3 (fuel := 8) (laidMet_of_run' 8 (by kernel_rfl) (by kernel_rfl)) (by kernel_rfl) (by kernel_rfl)
theorem laid_globs (w : World) (h : laidMetH Tryz.prog laidL w) : GW RbG w (fun b => b < w.heap.size) := by
  rw [MakeChecks.laidMetH_plain _ _ _ (by kernel_rfl)] at h
  intro g k x hg
  unfold RbG at hg
  split at hg
  · cases hg
    exact laid_rep h (n := "tarn/cube.frames") List.mem_cons_self gFc tFc (ktB_sound 9 112 _ (by kernel_rfl)) (by kernel_rfl)
  · cases hg
    exact laid_rep h (n := "tarn/geom.frames") (List.mem_cons_of_mem _ List.mem_cons_self) gFr tFr (ktB_sound 9 171 _ (by kernel_rfl)) (by kernel_rfl)
  · cases hg
end Go.Proofs.YtplhligfkbgllaaGreatDoor

set_option linter.unusedVariables false
set_option linter.unusedSimpArgs false
namespace Go.Lift
theorem takesF_neg1 {a b : Int} {c : List Int} (h : a < 0) : takesF a b c = ([], 1) := by unfold takesF; rw [if_pos h]
theorem takesF_neg2 {a b : Int} {c : List Int} (h : b < 0) : takesF a b c = ([], 1) := by unfold takesF; split <;> simp [h]
theorem takesF_bad {a b : Int} {c : List Int} {i : Nat} (hi : i < c.length) (h : ¬ (0 ≤ c.getD i 0 ∧ psum c (i + 1) ≤ a)) : takesF a b c = ([], 1) := by
  have : takesOk a c = false := by
    rw [Bool.eq_false_iff]; intro e; exact h ((takesOk_iff a c).1 e i hi)
  unfold takesF; split
  · rfl
  · split
    · rfl
    · simp [this]
theorem takesF_ok {a b : Int} {c : List Int} (ha : 0 ≤ a) (hb : 0 ≤ b) (h : okTo a c c.length) : takesF a b c = (takesOut a b c, 0) := by
  unfold takesF; rw [if_neg (by omega), if_neg (by omega), if_pos ((takesOk_iff a c).2 h)]
theorem div_add_or (x y z : Int) (hz : 0 < z) : (x + y) / z = x / z + y / z ∨ (x + y) / z = x / z + y / z + 1 := by
  have h1 := Int.mul_ediv_add_emod x z
  have h2 := Int.mul_ediv_add_emod y z
  have a1 := Int.emod_nonneg x (show z ≠ 0 by omega)
  have a2 := Int.emod_lt_of_pos x hz
  have b1 := Int.emod_nonneg y (show z ≠ 0 by omega)
  have b2 := Int.emod_lt_of_pos y hz
  have e : x + y = (x % z + y % z) + z * (x / z + y / z) := by rw [Int.mul_add]; omega
  rw [e, Int.add_mul_ediv_left _ _ (by omega)]
  by_cases h : x % z + y % z < z
  · left; rw [Int.ediv_eq_zero_of_lt (by omega) h]; omega
  · right
    have : (x % z + y % z) / z = 1 := by
      have : x % z + y % z = (x % z + y % z - z) + z * 1 := by omega
      rw [this, Int.add_mul_ediv_left _ _ (by omega), Int.ediv_eq_zero_of_lt (by omega) (by omega)]; rfl
    omega
section takes
variable {a b : Int} {c : List Int}
theorem take_one (ha : 0 ≤ a) (hb : 0 ≤ b) (hb2 : I64 b) {i : Nat} (hi : i < c.length) (hok : okTo a c (i + 1)) :
    0 ≤ part b (psum c (i + 1)) a - part b (psum c i) a ∧
    (part b (psum c (i + 1)) a - part b (psum c i) a = part b (c.getD i 0) a ∨ part b (psum c (i + 1)) a - part b (psum c i) a = part b (c.getD i 0) a + 1) ∧
    (c.getD i 0 = 0 → part b (psum c (i + 1)) a - part b (psum c i) a = 0) ∧ (b = a → part b (psum c (i + 1)) a - part b (psum c i) a = c.getD i 0) := by
  have hok' : okTo a c i := fun j hj => hok j (by omega)
  have s0 := psum_nonneg hok' (by omega)
  have s1 := psum_le ha hok
  have hs := psum_succ c i hi
  have hx := (hok i (by omega)).1
  have s2 := psum_le ha hok'
  by_cases h0 : a = 0
  · have z : ∀ s, part b s a = 0 := fun s => by
      unfold part; split
      · rfl
      · split
        · rfl
        · rw [if_pos (by omega)]
    simp only [z]
    refine ⟨by omega, .inl (by omega), fun _ => by omega, fun _ => by omega⟩
  · have ha1 : 1 ≤ a := by omega
    have p1 := (part_le hb hb2 (show 0 ≤ psum c (i + 1) by omega) ha1 s1).1
    have p2 := (part_le hb hb2 s0 ha1 s2).1
    have p3 := (part_le hb hb2 hx ha1 (show c.getD i 0 ≤ a by omega)).1
    rw [p1, p2, p3, hs, Int.mul_add]
    have hd := div_add_or (b * psum c i) (b * c.getD i 0) a (by omega)
    have n3 : 0 ≤ b * c.getD i 0 / a := Int.ediv_nonneg (Int.mul_nonneg hb hx) ha
    refine ⟨by omega, by omega, fun e => by rw [e]; simp, fun e => ?_⟩
    subst e
    rw [← Int.mul_add, Int.mul_ediv_cancel_left _ h0, Int.mul_ediv_cancel_left _ h0]; omega
end takes
section cuts
variable {a : Int} {c : List Int}
end cuts
theorem allStep {l : List Int} {p : Int → Bool} {k : Nat} (h : k < l.length) : (l.drop k).all p = (p (l.getD k 0) && (l.drop (k + 1)).all p) := by
  rw [drop_step h 0]; rfl
theorem imax_pos {v : Int} (h : v > 0) : imax 0 v = v := by unfold imax; rw [if_pos h]
theorem imax_neg {v : Int} (h : ¬ v > 0) : imax 0 v = 0 := by unfold imax; rw [if_neg h]
theorem out_nonneg (ar : Ar) (f : List Int) (c o : Int) : 0 ≤ outN ar f c o := by unfold outN imax; split <;> omega
theorem flowOk_iff {f : Int} : FlowOk f = true ↔ -4503599627370496 ≤ f ∧ f ≤ 4503599627370496 := by unfold FlowOk; simp
theorem flow_get {f : List Int} (hf : ∀ x ∈ f, FlowOk x = true) (i : Nat) : -4503599627370496 ≤ f.getD i 0 ∧ f.getD i 0 ≤ 4503599627370496 := by
  rcases Nat.lt_or_ge i f.length with h | h
  · exact flowOk_iff.1 (hf _ (getD_mem h 0))
  · rw [List.getD_eq_getElem?_getD, List.getElem?_eq_none h]; exact ⟨by decide, by decide⟩
structure ArOk (n : Int) (ar : Ar) : Prop where
  side : ∀ c o, besideOk n c o = true → ∃ k : Nat, k < (netE n).1.length ∧ ar c o = ((k : Int), sgnE n c o) ∧ mget (c, o) (netE n).2 = some (k : Int) ∧
    ((c < (besideI n c o).1 ∧ (netE n).1[k]? = some (c, o, besideI n c o)) ∨ ((besideI n c o).1 < c ∧ (netE n).1[k]? = some ((besideI n c o).1, (besideI n c o).2, c, o)))
theorem arOk_n (n : Int) : ArOk n (nAround (some (netG n))) := ⟨fun c o ok => by
  obtain ⟨k, hk, h1, _, h3⟩ := around_net ok
  refine ⟨k, hk, h1, ?_, h3⟩
  rcases h3 with ⟨_, h⟩ | ⟨_, h⟩
  · exact (net_num h).1
  · exact (net_num h).2⟩
theorem arOk_r (n : Int) : ArOk n (rAround (some (rnetG n))) := ⟨fun c o ok => by
  obtain ⟨k, hk, _, h1, h3⟩ := around_net ok
  refine ⟨k, hk, h1, ?_, h3⟩
  rcases h3 with ⟨_, h⟩ | ⟨_, h⟩
  · exact (net_num h).1
  · exact (net_num h).2⟩
theorem sgn_or (n c o : Int) : sgnE n c o = 1 ∨ sgnE n c o = -1 := by unfold sgnE; split <;> simp
section
variable {n : Int} {ar : Ar} (A : ArOk n ar) {f : List Int} (hf : ∀ x ∈ f, FlowOk x = true) (hl : f.length = (netE n).1.length)
include A hf hl
theorem side_facts {c o : Int} (ok : besideOk n c o = true) : 0 ≤ (ar c o).1 ∧ (ar c o).1 < (f.length : Int) ∧ ((ar c o).2 = 1 ∨ (ar c o).2 = -1) ∧
    -4503599627370496 ≤ f.getD (ar c o).1.toNat 0 * (ar c o).2 ∧ f.getD (ar c o).1.toNat 0 * (ar c o).2 ≤ 4503599627370496 := by
  obtain ⟨k, hk, h1, _⟩ := A.side c o ok
  rw [h1]
  have := flow_get hf (k : Int).toNat
  rcases sgn_or n c o with e | e <;> rw [e] <;> exact ⟨by dsimp only; omega, by dsimp only; omega, by simp, by dsimp only; omega, by dsimp only; omega⟩
omit hl in
theorem out_le {c o : Int} (ok : besideOk n c o = true) : outN ar f c o ≤ 4503599627370496 := by
  obtain ⟨k, hk, h1, _⟩ := A.side c o ok
  have := flow_get hf (k : Int).toNat
  unfold outN imax
  rw [h1]
  rcases sgn_or n c o with e | e <;> rw [e] <;> dsimp only <;> split <;> omega
end
def gvV (ar : Ar) (f : List Int) (gv : Nat → List Int) (c o : Int) : Int := if 0 < outN ar f c o then (gv c.toNat).getD o.toNat 0 * (ar c o).2 else 0
def visV (ar : Ar) (f : List Int) (gv : Nat → List Int) (T c o : Int) : Int := if 4 * c + o < T then gvV ar f gv c o else 0
def LaidTo (n : Int) (ar : Ar) (f : List Int) (gv : Nat → List Int) (T : Int) (all : List Int) : Prop :=
  all.length = (netE n).1.length ∧ ∀ (k : Nat) (e : Ed), (netE n).1[k]? = some e → all[k]? = some (visV ar f gv T e.1 e.2.1 + visV ar f gv T e.2.2.1 e.2.2.2)
theorem vis_next {ar : Ar} {f : List Int} {gv : Nat → List Int} {c o c' o' : Int} (o0 : 0 ≤ o) (o4 : o < 4) (o0' : 0 ≤ o') (o4' : o' < 4) (h : ¬ (c' = c ∧ o' = o)) : visV ar f gv (4 * c + o + 1) c' o' = visV ar f gv (4 * c + o) c' o' := by
  unfold visV
  by_cases q : 4 * c' + o' < 4 * c + o
  · rw [if_pos q, if_pos (by omega)]
  · rw [if_neg q, if_neg (by omega)]
section
variable {n : Int} {ar : Ar} (A : ArOk n ar) {f : List Int} {gv : Nat → List Int}
include A
theorem two_sides {c o : Int} (ok : besideOk n c o = true) : 0 < outN ar f c o → gvV ar f gv (besideI n c o).1 (besideI n c o).2 = 0 := by
  intro h
  obtain ⟨b1, b2, b3, b4, b5⟩ := beside_back ok
  have okb : besideOk n (besideI n c o).1 (besideI n c o).2 = true := besideOk_iff.2 ⟨b1, b3, b4⟩
  obtain ⟨k, hk, h1, h2, _⟩ := A.side c o ok
  obtain ⟨k', hk', h1', h2', _⟩ := A.side _ _ okb
  have ek : k' = k := by
    obtain ⟨q, _, _, q2, q3⟩ := A.side c o ok
    rcases q3 with ⟨_, q3⟩ | ⟨_, q3⟩
    · have := (net_num q3).2
      rw [h2'] at this
      have h4 := (net_num q3).1
      rw [h2] at h4
      have a := Option.some.inj this
      have b := Option.some.inj h4
      omega
    · have := (net_num q3).1
      rw [h2'] at this
      have h4 := (net_num q3).2
      rw [h2] at h4
      have a := Option.some.inj this
      have b := Option.some.inj h4
      omega
  have es : sgnE n (besideI n c o).1 (besideI n c o).2 = -sgnE n c o := by
    unfold sgnE
    rw [b5]
    dsimp only
    split <;> split <;> omega
  unfold gvV
  rw [if_neg]
  unfold outN at h ⊢
  rw [h1] at h
  rw [h1', ek, es]
  dsimp only at h ⊢
  generalize f.getD (k : Int).toNat 0 = v at h ⊢
  rcases sgn_or n c o with e | e <;> rw [e] at h ⊢ <;> unfold imax at h ⊢ <;> (split at h <;> split <;> omega)
theorem laid_step {c o : Int} (ok : besideOk n c o = true) {all all' : List Int} (h : LaidTo n ar f gv (4 * c + o) all) (h1 : 0 < outN ar f c o → all' = all.set (ar c o).1.toNat ((gv c.toNat).getD o.toNat 0 * (ar c o).2) ∨ (all' = all ∧ (gv c.toNat).getD o.toNat 0 = 0))
    (h2 : ¬ 0 < outN ar f c o → all' = all) : LaidTo n ar f gv (4 * c + o + 1) all' := by
  obtain ⟨hp, o0, o4⟩ := besideOk_iff.1 ok
  obtain ⟨b1, b2, b3, b4, b5⟩ := beside_back ok
  obtain ⟨k0, hk0, ha, hg, hE⟩ := A.side c o ok
  obtain ⟨hl, hv⟩ := h
  have vis_now : visV ar f gv (4 * c + o + 1) c o = gvV ar f gv c o := by unfold visV; rw [if_pos (by omega)]
  have vis_was : visV ar f gv (4 * c + o) c o = 0 := by unfold visV; rw [if_neg (by omega)]
  have this0 : ∀ (T : Int) (e : Ed), (netE n).1[k0]? = some e → visV ar f gv T e.1 e.2.1 + visV ar f gv T e.2.2.1 e.2.2.2 = visV ar f gv T c o + visV ar f gv T (besideI n c o).1 (besideI n c o).2 := by
    intro T e he
    rcases hE with ⟨_, hE⟩ | ⟨_, hE⟩
    · rw [hE] at he; obtain rfl := Option.some.inj he; rfl
    · rw [hE] at he; obtain rfl := Option.some.inj he; exact Int.add_comm _ _
  have far : visV ar f gv (4 * c + o + 1) (besideI n c o).1 (besideI n c o).2 = visV ar f gv (4 * c + o) (besideI n c o).1 (besideI n c o).2 := vis_next o0 o4 b3 b4 fun q => b2 q.1
  have others : ∀ (k : Nat) (e : Ed), (netE n).1[k]? = some e → k ≠ k0 → visV ar f gv (4 * c + o + 1) e.1 e.2.1 + visV ar f gv (4 * c + o + 1) e.2.2.1 e.2.2.2 = visV ar f gv (4 * c + o) e.1 e.2.1 + visV ar f gv (4 * c + o) e.2.2.1 e.2.2.2 := by
    intro k e he hne
    obtain ⟨a1, a2, a3⟩ := net_edge (List.mem_of_getElem? he)
    obtain ⟨m1, m2⟩ := net_num he
    obtain ⟨_, d0, d4⟩ := besideOk_iff.1 a1
    obtain ⟨_, _, d5, d6, _⟩ := beside_back a1
    rw [a2] at d5 d6
    rw [vis_next o0 o4 d0 d4 fun q => ?_, vis_next o0 o4 d5 d6 fun q => ?_]
    · have : e.2.2 = (c, o) := Prod.ext q.1 q.2
      rw [this, hg] at m2
      have := Option.some.inj m2
      omega
    · rw [q.1, q.2, hg] at m1
      have := Option.some.inj m1
      omega
  by_cases hpos : 0 < outN ar f c o
  · have hz : visV ar f gv (4 * c + o) (besideI n c o).1 (besideI n c o).2 = 0 := by
      unfold visV
      split
      · exact two_sides A ok hpos
      · rfl
    have hnow : gvV ar f gv c o = (gv c.toNat).getD o.toNat 0 * (ar c o).2 := by unfold gvV; rw [if_pos hpos]
    rcases h1 hpos with rfl | ⟨rfl, h0⟩
    · refine ⟨by rw [List.length_set]; exact hl, fun k e he => ?_⟩
      rw [List.getElem?_set]
      have e1 : (ar c o).1.toNat = k0 := by rw [ha]; rfl
      by_cases hk : k = k0
      · subst hk
        rw [if_pos e1, if_pos (by omega), this0 _ e he, vis_now, hnow, far, hz, Int.add_zero]
      · rw [if_neg (by omega), hv k e he, others k e he hk]
    · refine ⟨hl, fun k e he => ?_⟩
      rw [hv k e he]
      by_cases hk : k = k0
      · subst hk
        rw [this0 _ e he, this0 _ e he, vis_now, vis_was, hnow, far, h0, Int.zero_mul]
      · rw [others k e he hk]
  · obtain rfl := h2 hpos
    refine ⟨hl, fun k e he => ?_⟩
    rw [hv k e he]
    by_cases hk : k = k0
    · subst hk
      have hnow : gvV ar f gv c o = 0 := by unfold gvV; rw [if_neg hpos]
      rw [this0 _ e he, this0 _ e he, vis_now, vis_was, hnow, far]
    · rw [others k e he hk]
omit A in
theorem laid_zero (hl : f.length = (netE n).1.length) : LaidTo n ar f gv 0 (List.replicate f.length 0) := by
  refine ⟨by rw [List.length_replicate]; exact hl, fun k e he => ?_⟩
  have hk := (List.getElem?_eq_some_iff.1 he).1
  obtain ⟨a1, a2, a3⟩ := net_edge (List.mem_of_getElem? he)
  obtain ⟨d1, d0, d4⟩ := besideOk_iff.1 a1
  obtain ⟨d2, _, d5, d6, _⟩ := beside_back a1
  rw [a2] at d2 d5 d6
  have c0 := (place_cells d1).1
  have c1 := (place_cells d2).1
  rw [List.getElem?_replicate, if_pos (by omega)]
  unfold visV
  rw [if_neg (by omega), if_neg (by omega)]; rfl
end
theorem laid_same {n : Int} {ar : Ar} {f : List Int} {gv : Nat → List Int} {T : Int} {a b : List Int} (ha : LaidTo n ar f gv T a) (hb : LaidTo n ar f gv T b) : a = b := by
  apply List.ext_getElem?
  intro k
  rcases Nat.lt_or_ge k (netE n).1.length with h | h
  · have he : (netE n).1[k]? = some ((netE n).1[k]) := List.getElem?_eq_getElem h
    rw [ha.2 k _ he, hb.2 k _ he]
  · rw [List.getElem?_eq_none (by rw [ha.1]; exact h), List.getElem?_eq_none (by rw [hb.1]; exact h)]
end Go.Lift

set_option linter.unusedVariables false
set_option linter.unusedSimpArgs false
set_option linter.unusedSectionVars false
namespace Go.Lift
def four (g : Int → Int) : List Int := [g 0, g 1, g 2, g 3]
def fill4 (j : Nat) (g : Int → Int) : List Int := [if 0 < j then g 0 else 0, if 1 < j then g 1 else 0, if 2 < j then g 2 else 0, if 3 < j then g 3 else 0]
theorem fill4_set {j : Nat} (h : j < 4) (g : Int → Int) : (fill4 j g).set j (g (j : Int)) = fill4 (j + 1) g := by
  have : j = 0 ∨ j = 1 ∨ j = 2 ∨ j = 3 := by omega
  rcases this with rfl | rfl | rfl | rfl <;> rfl
theorem four_get {j : Nat} (h : j < 4) (g : Int → Int) : (four g).getD j 0 = g (j : Int) := by
  have : j = 0 ∨ j = 1 ∨ j = 2 ∨ j = 3 := by omega
  rcases this with rfl | rfl | rfl | rfl <;> rfl
theorem outs_four (ar : Ar) (f : List Int) (c : Int) : outsN ar f c = four (outN ar f c) := rfl
theorem four_take (g : Int → Int) : List.take (((4 : Nat) : Int) - (0 : Int)).toNat (List.drop (Int.toNat (0 : Int)) (four g)) = four g := rfl
theorem goodN_iff {N M : Int} {w f : List Int} : goodN N M w f = true ↔ (w.length : Int) = N ∧ (f.length : Int) = M ∧ (∀ x ∈ w, 0 ≤ x) ∧ ∀ x ∈ f, FlowOk x = true := by
  unfold goodN
  simp only [Bool.and_eq_true, decide_eq_true_eq, List.all_eq_true, and_assoc]
theorem outs_ok {g : Int → Int} (h : ∀ o : Nat, o < 4 → 0 ≤ g o ∧ g o ≤ 4503599627370496) : okTo 9223372036854775807 (four g) (four g).length ∧ (∀ x ∈ four g, I64 x) ∧ (four g).length ≤ 65536 := by
  have h0 := h 0 (by decide)
  have h1 := h 1 (by decide)
  have h2 := h 2 (by decide)
  have h3 := h 3 (by decide)
  have p0 : psum (four g) 0 = 0 := psum_zero _
  have p1 : psum (four g) 1 = psum (four g) 0 + g 0 := psum_succ (four g) 0 (show 0 < 4 by decide)
  have p2 : psum (four g) 2 = psum (four g) 1 + g 1 := psum_succ (four g) 1 (show 1 < 4 by decide)
  have p3 : psum (four g) 3 = psum (four g) 2 + g 2 := psum_succ (four g) 2 (show 2 < 4 by decide)
  have p4 : psum (four g) 4 = psum (four g) 3 + g 3 := psum_succ (four g) 3 (show 3 < 4 by decide)
  have h0 : 0 ≤ g 0 ∧ g 0 ≤ 4503599627370496 := h0
  have h1 : 0 ≤ g 1 ∧ g 1 ≤ 4503599627370496 := h1
  have h2 : 0 ≤ g 2 ∧ g 2 ≤ 4503599627370496 := h2
  have h3 : 0 ≤ g 3 ∧ g 3 ≤ 4503599627370496 := h3
  refine ⟨fun j hj => ?_, fun x hx => ?_, show 4 ≤ 65536 by decide⟩
  · have hj : j < 4 := hj
    rw [four_get hj]
    have : j = 0 ∨ j = 1 ∨ j = 2 ∨ j = 3 := by omega
    rcases this with rfl | rfl | rfl | rfl
    · exact ⟨h0.1, by show psum (four g) 1 ≤ _; omega⟩
    · exact ⟨h1.1, by show psum (four g) 2 ≤ _; omega⟩
    · exact ⟨h2.1, by show psum (four g) 3 ≤ _; omega⟩
    · exact ⟨h3.1, by show psum (four g) 4 ≤ _; omega⟩
  · have hx : x = g 0 ∨ x = g 1 ∨ x = g 2 ∨ x = g 3 := by simpa [four] using hx
    rcases hx with rfl | rfl | rfl | rfl <;> exact ⟨by omega, by omega⟩
section
variable {n : Int} {ar : Ar} (A : ArOk n ar) {f : List Int} (hf : ∀ x ∈ f, FlowOk x = true) (hl : f.length = (netE n).1.length)
include A hf
theorem outs_fine {c : Int} (hp : placeOk n c = true) : ∀ o : Nat, o < 4 → 0 ≤ outN ar f c o ∧ outN ar f c o ≤ 4503599627370496 := fun o ho =>
  ⟨out_nonneg _ _ _ _, out_le A hf (besideOk_iff.2 ⟨hp, by omega, by omega⟩)⟩
include hl
theorem putsP_laid {gv : Nat → List Int} {c : Nat} (hp : placeOk n (c : Int) = true) {all : List Int} (h : LaidTo n ar f gv (4 * (c : Int)) all) : ∀ j : Nat, j ≤ 4 → LaidTo n ar f gv (4 * (c : Int) + j) (putsP ar f (gv c) c all j)
  | 0, _ => by show LaidTo n ar f gv (4 * (c : Int) + 0) all; rw [Int.add_zero]; exact h
  | j + 1, hj => by
    have ih := putsP_laid hp h j (by omega)
    have := laid_step (c := (c : Int)) (o := j) A (besideOk_iff.2 ⟨hp, by omega, by omega⟩) (all' := putsP ar f (gv c) c all (j + 1)) ih (fun q => .inl (by show putP ar f (gv c) c j _ = _; unfold putP; rw [if_pos q]; rfl)) (fun q => by show putP ar f (gv c) c j _ = _; unfold putP; rw [if_neg q])
    rw [show (4 * (c : Int) + ((j + 1 : Nat) : Int)) = 4 * (c : Int) + j + 1 by omega]
    exact this
theorem putsM_laid {gv : Nat → List Int} {c : Nat} (hp : placeOk n (c : Int) = true) (hg : ∀ o : Nat, o < 4 → 0 ≤ (gv c).getD o 0 ∧ (0 < (gv c).getD o 0 → 0 < outN ar f c o)) {all : List Int} (h : LaidTo n ar f gv (4 * (c : Int)) all) : ∀ j : Nat, j ≤ 4 → LaidTo n ar f gv (4 * (c : Int) + j) (putsM ar (gv c) c all j)
  | 0, _ => by show LaidTo n ar f gv (4 * (c : Int) + 0) all; rw [Int.add_zero]; exact h
  | j + 1, hj => by
    have ih := putsM_laid hp hg h j (by omega)
    obtain ⟨g1, g2⟩ := hg j (by omega)
    have := laid_step (c := (c : Int)) (o := j) A (besideOk_iff.2 ⟨hp, by omega, by omega⟩) (all' := putsM ar (gv c) c all (j + 1)) ih
      (fun q => by
        show putM ar (gv c) c j _ = _ ∨ (putM ar (gv c) c j _ = _ ∧ _)
        unfold putM
        rw [Int.toNat_natCast, Int.toNat_natCast]
        by_cases z : 0 < (gv c).getD j 0
        · rw [if_pos z]; exact .inl rfl
        · rw [if_neg z]; exact .inr ⟨rfl, by omega⟩)
      (fun q => by
        show putM ar (gv c) c j _ = _
        unfold putM
        rw [Int.toNat_natCast, if_neg fun z => q (g2 z)])
    rw [show (4 * (c : Int) + ((j + 1 : Nat) : Int)) = 4 * (c : Int) + j + 1 by omega]
    exact this
theorem allP_laid {gv : Nat → List Int} : ∀ k : Nat, (k : Int) ≤ cellsI n → LaidTo n ar f gv (4 * (k : Int)) (allP ar f gv k)
  | 0, _ => laid_zero hl
  | k + 1, hk => by
    have := putsP_laid A hf hl (place_nat (by omega)) (allP_laid (gv := gv) k (by omega)) 4 (Nat.le_refl _)
    rw [show (4 * ((k + 1 : Nat) : Int)) = 4 * (k : Int) + (4 : Nat) by omega]
    exact this
theorem allM_laid {gv : Nat → List Int} (hg : ∀ c : Nat, (c : Int) < cellsI n → ∀ o : Nat, o < 4 → 0 ≤ (gv c).getD o 0 ∧ (0 < (gv c).getD o 0 → 0 < outN ar f c o)) : ∀ k : Nat, (k : Int) ≤ cellsI n → LaidTo n ar f gv (4 * (k : Int)) (allM ar f gv k)
  | 0, _ => laid_zero hl
  | k + 1, hk => by
    have := putsM_laid A hf hl (place_nat (by omega)) (hg k (by omega)) (allM_laid hg k (by omega)) 4 (Nat.le_refl _)
    rw [show (4 * ((k + 1 : Nat) : Int)) = 4 * (k : Int) + (4 : Nat) by omega]
    exact this
end
theorem good_net {n : Int} {s f : List Int} (h : goodN (nCells (some (netG n))) (nEdges (some (netG n))) s f = true) : (s.length : Int) = cellsI n ∧ f.length = (netE n).1.length ∧ (∀ x ∈ s, 0 ≤ x) ∧ ∀ x ∈ f, FlowOk x = true := by
  obtain ⟨a, b, c, d⟩ := goodN_iff.1 h
  rw [nCells_net] at a
  have b : (f.length : Int) = ((netE n).1.length : Nat) := b
  exact ⟨a, by omega, c, d⟩
theorem good_rnet {n : Int} {s f : List Int} (h : goodN (cellsI (rSide (some (rnetG n)))) (rEdges (some (rnetG n))) s f = true) : (s.length : Int) = cellsI n ∧ f.length = (netE n).1.length ∧ (∀ x ∈ s, 0 ≤ x) ∧ ∀ x ∈ f, FlowOk x = true := by
  obtain ⟨a, b, c, d⟩ := goodN_iff.1 h
  have a : (s.length : Int) = cellsI n := a
  have b : (f.length : Int) = ((rnetE n).1.length : Nat) := b
  rw [← (netE_both n).1] at b
  exact ⟨a, by omega, c, d⟩
theorem netP_some {g : Gr} (h : NetP (some g)) : ∃ n, goodC n = true ∧ g = netG n := by
  rcases h with h | ⟨n, gn, h⟩
  · cases h
  · exact ⟨n, gn, Option.some.inj h⟩
theorem rnetP_some {g : Rg} (h : RNetP (some g)) : ∃ n, goodC n = true ∧ g = rnetG n := by
  rcases h with h | ⟨n, gn, h⟩
  · cases h
  · exact ⟨n, gn, Option.some.inj h⟩
theorem wi_small {x : Int} (h1 : -9223372036854775808 ≤ x) (h2 : x < 9223372036854775808) : IntKind.i64.wrap x = x := wi ⟨h1, h2⟩
theorem nets_eq (n : Int) : NetEq (newR n).1 (rnewR n).1 := by
  unfold newR rnewR
  by_cases h : cellsI n = 0
  · rw [if_pos h, if_pos h]; exact .inl ⟨rfl, rfl⟩
  · rw [if_neg h, if_neg h]
    refine .inr ⟨n, ?_, rfl, rfl⟩
    cases g : goodC n with
    | true => rfl
    | false => exact absurd (cells_bad g) h
theorem netEq_n {g : Option Gr} {r : Option Rg} (h : NetEq g r) : NetP g := by
  rcases h with ⟨rfl, rfl⟩ | ⟨n, hn, rfl, rfl⟩
  · exact .inl rfl
  · exact .inr ⟨n, hn, rfl⟩
theorem netEq_r {g : Option Gr} {r : Option Rg} (h : NetEq g r) : RNetP r := by
  rcases h with ⟨rfl, rfl⟩ | ⟨n, hn, rfl, rfl⟩
  · exact .inl rfl
  · exact .inr ⟨n, hn, rfl⟩
theorem netEq_none {g : Option Gr} {r : Option Rg} (h : NetEq g r) : g.isNone = r.isNone := by
  rcases h with ⟨rfl, rfl⟩ | ⟨n, hn, rfl, rfl⟩ <;> rfl
theorem netEq_ar {g : Option Gr} {r : Option Rg} (h : NetEq g r) : nAround g = rAround r := funext fun c => funext fun o => around_same h c o
end Go.Lift

set_option linter.unusedVariables false
set_option linter.unusedSimpArgs false
set_option linter.unusedSectionVars false
namespace Go.Lift
theorem goodH_iff {N M : Int} {w h f : List Int} : goodH N M w h f = true ↔ (w.length : Int) = N ∧ (f.length : Int) = M ∧ (∀ x ∈ w, 0 ≤ x) ∧ (∀ x ∈ f, FlowOk x = true) ∧ h.length = w.length ∧ ∀ x ∈ h, 0 ≤ x := by
  unfold goodH
  simp only [Bool.and_eq_true, decide_eq_true_eq, List.all_eq_true, goodN_iff, and_assoc]
theorem mem_get {l : List Int} {x : Int} (h : x ∈ l) : ∃ j, j < l.length ∧ l.getD j 0 = x := by
  obtain ⟨j, hj, e⟩ := List.getElem_of_mem h
  exact ⟨j, hj, by rw [List.getD_eq_getElem?_getD, List.getElem?_eq_getElem hj, ← e]; rfl⟩
theorem all_get {l : List Int} {p : Int → Prop} (h : ∀ j, j < l.length → p (l.getD j 0)) : ∀ x ∈ l, p x := fun x hx => by
  obtain ⟨j, hj, rfl⟩ := mem_get hx
  exact h j hj
theorem takes_two {a b : Int} {c : List Int} : (takesF a b c).2 = 0 ∨ (takesF a b c = ([], 1)) := by
  unfold takesF
  (repeat' split) <;> first | exact .inr rfl | exact .inl rfl
theorem takes_zero {a b : Int} {c : List Int} (h : (takesF a b c).2 = 0) : 0 ≤ a ∧ 0 ≤ b ∧ okTo a c c.length ∧ takesF a b c = (takesOut a b c, 0) := by
  by_cases ha : a < 0
  · rw [takesF_neg1 ha] at h; exact absurd h (by decide)
  by_cases hb : b < 0
  · rw [takesF_neg2 hb] at h; exact absurd h (by decide)
  have hok : okTo a c c.length := by
    cases q : takesOk a c with
    | true => exact (takesOk_iff a c).1 q
    | false =>
      have : takesF a b c = ([], 1) := by unfold takesF; rw [if_neg ha, if_neg hb, if_neg (by rw [q]; decide)]
      rw [this] at h; exact absurd h (by decide)
  exact ⟨by omega, by omega, hok, takesF_ok (by omega) (by omega) hok⟩
section
variable {n : Int} {ar : Ar} (A : ArOk n ar) {f : List Int} (hf : ∀ x ∈ f, FlowOk x = true)
include A hf
theorem take_facts {w h c : Int} (hh : I64 h) (hp : placeOk n c = true) (h0 : (takesF w h (outsN ar f c)).2 = 0) : takesF w h (outsN ar f c) = (takesOut w h (outsN ar f c), 0) ∧ (takesOut w h (outsN ar f c)).length = 4 ∧
    ∀ o : Nat, o < 4 → 0 ≤ (takesOut w h (outsN ar f c)).getD o 0 ∧ (takesOut w h (outsN ar f c)).getD o 0 ≤ 9223372036854775807 ∧ (0 < (takesOut w h (outsN ar f c)).getD o 0 → 0 < outN ar f c o) := by
  obtain ⟨a, b, ok, e⟩ := takes_zero h0
  refine ⟨e, takesOut_len _ _ _, fun o ho => ?_⟩
  obtain ⟨t1, t2, t3, t4⟩ := take_one a b hh (i := o) (c := outsN ar f c) ho (fun j hj => ok j (by show j < 4; omega))
  have hg : (takesOut w h (outsN ar f c)).getD o 0 = part h (psum (outsN ar f c) (o + 1)) w - part h (psum (outsN ar f c) o) w := by
    rw [List.getD_eq_getElem?_getD, takesOut_get w h (outsN ar f c) o ho]; rfl
  have r1 := part_range h (psum (outsN ar f c) (o + 1)) w
  have r2 := part_range h (psum (outsN ar f c) o) w
  rw [hg]
  refine ⟨t1, by omega, fun q => ?_⟩
  have := out_nonneg ar f c o
  by_cases z : outN ar f c o = 0
  · have z' : (outsN ar f c).getD o 0 = 0 := by rw [outs_four, four_get ho]; exact z
    have := t3 z'
    omega
  · omega
end
section
variable {N M : Int} {ar : Ar} {w h f : List Int}
theorem flows_bad (hb : ¬ goodH N M w h f = true) : flowsA false N M ar w h f = ([], 1) := by unfold flowsA; rw [if_neg (by decide), if_neg hb]
theorem flows_err {k : Nat} (hk : k < w.length) (he : takesE ar w h f k ≠ 0) : flowsA false N M ar w h f = ([], 1) := by
  unfold flowsA
  rw [if_neg (by decide)]
  split
  · rw [if_neg]
    intro q
    have := List.all_eq_true.1 q k (List.mem_range.2 hk)
    exact he (of_decide_eq_true this)
  · rfl
theorem flows_ok (hg : goodH N M w h f = true) (he : ∀ k, k < w.length → takesE ar w h f k = 0) : flowsA false N M ar w h f = (allP ar f (takesG ar w h f) w.length, 0) := by
  unfold flowsA
  rw [if_neg (by decide), if_pos hg, if_pos]
  exact List.all_eq_true.2 fun k hk => decide_eq_true (he k (List.mem_range.1 hk))
end
end Go.Lift

set_option linter.unusedVariables false
set_option linter.unusedSimpArgs false
namespace Go.Lift
def Fx_law17_awake := fun (post : Bool × Unit → Prop) => ∃ (h : WTk (10 : Int) (5 : Int) [(3 : Int), (4 : Int), (3 : Int)]), ∃ (h : True), ∀ (a : Bool × Unit), a = intsR [part (5 :
  Int) (psum [(3 : Int), (4 : Int), (3 : Int)] (nat_lit 0 + (1 : Nat))) (10 : Int) - part (5 : Int) (psum [(3 : Int), (4 : Int), (3 : Int)] (nat_lit 0)) (10 : Int), part (5 : Int)
  (psum [(3 : Int), (4 : Int), (3 : Int)] (nat_lit 1 + (1 : Nat))) (10 : Int) - part (5 : Int) (psum [(3 : Int), (4 : Int), (3 : Int)] (nat_lit 1)) (10 : Int), part (5 : Int) (psum
  [(3 : Int), (4 : Int), (3 : Int)] (nat_lit 2 + (1 : Nat))) (10 : Int) - part (5 : Int) (psum [(3 : Int), (4 : Int), (3 : Int)] (nat_lit 2)) (10 : Int)] [(1 : Int), (2 : Int), (2 :
  Int)] → post (a.fst, ())
theorem Lx_law17_awake  : Fx_law17_awake   (fun r => r = yesR) := by
  refine ⟨⟨by unfold I64; decide, by unfold I64; decide, by unfold AllI I64; decide, by unfold ShortI; decide⟩, trivial, ?_⟩
  rintro _ rfl
  decide
def Fx_law17_nets := fun (n : Int) (post : Option (Int × List (Int × Int × Int × Int) × List ((Int × Int) × Int) × List (List Int) × List Int × List Nat × List Nat) × Option (Int ×
  List (Int × Int × Int × Int) × List Int) × Unit → Prop) => ∃ (h : (9 : Int) ≠ (0 : Int)), ∃ (h : I64 (IntKind.i64.wrap ((IntKind.u64.wrap n).tmod (9 : Int)))), ∃ (h : I64
  (IntKind.i64.wrap ((IntKind.u64.wrap n).tmod (9 : Int)))), ∀ (a : Option (Int × List (Int × Int × Int × Int) × List Int) × Int × Unit), a = rnewR (IntKind.i64.wrap
  ((IntKind.u64.wrap n).tmod (9 : Int))) → post ((newR (IntKind.i64.wrap ((IntKind.u64.wrap n).tmod (9 : Int)))).fst, a.fst, ())
theorem Lx_law17_nets (n : Int) (h : I64 n) : Fx_law17_nets  n (fun r => r = netsR n) := by
  have hn0 : 0 ≤ n % 18446744073709551616 := Int.emod_nonneg _ (by decide)
  have hn1 : n % 18446744073709551616 < 18446744073709551616 := Int.emod_lt_of_pos _ (by decide)
  have hs : IntKind.i64.wrap ((IntKind.u64.wrap n).tmod 9) = side9 n := by
    rw [IntKind.wrap_u64, Int.tmod_eq_emod_of_nonneg hn0]
    unfold side9
    have : n % 18446744073709551616 % 9 < 9 := Int.emod_lt_of_pos _ (by decide)
    have : 0 ≤ n % 18446744073709551616 % 9 := Int.emod_nonneg _ (by decide)
    exact wi_small (by omega) (by omega)
  have hi : I64 (side9 n) := by
    have : n % 18446744073709551616 % 9 < 9 := Int.emod_lt_of_pos _ (by decide)
    have : 0 ≤ n % 18446744073709551616 % 9 := Int.emod_nonneg _ (by decide)
    unfold side9
    exact ⟨by show _ ≤ n % 18446744073709551616 % 9; omega, by show n % 18446744073709551616 % 9 < _; omega⟩
  unfold Fx_law17_nets
  rw [hs]
  refine ⟨by decide, hi, hi, ?_⟩
  rintro _ rfl
  rfl
def Fx_law17_TracerFlows := fun (n : Int) (s t f : List Int) (post : Bool × Unit → Prop) => ∃ (h : True), ∀ (a : Bool), a = yesR.fst → Br (!a) (post (a, ())) (∀ (a_1 : Bool), a_1 =
  decide ((↑s.length : Int) > (65536 : Int)) → Br a_1 (post (a, ())) (∀ (a_2 : Bool), a_2 = decide ((↑t.length : Int) > (65536 : Int)) → Br a_2 (post (a, ())) (∀ (a_3 : Bool), a_3 =
  decide ((↑f.length : Int) > (65536 : Int)) → Br a_3 (post (a, ())) (∃ (h : I64 n), ∀ (a : Option (Int × List (Int × Int × Int × Int) × List ((Int × Int) × Int) × List (List Int) ×
  List Int × List Nat × List Nat) × Option (Int × List (Int × Int × Int × Int) × List Int) × Unit), a = netsR n → ∃ (h : (0 : Nat) = (0 : Nat) ∧ ((0 : Nat) + s.length) * (8 : Nat) ≤
  (140737488355328 : Nat)), ∃ (h : (0 : Nat) = (0 : Nat) ∧ ((0 : Nat) + t.length) * (8 : Nat) ≤ (140737488355328 : Nat)), ∃ (h : (0 : Nat) = (0 : Nat) ∧ ((0 : Nat) + f.length) * (8
  : Nat) ≤ (140737488355328 : Nat)), ∃ (h : WFlows a.fst (List.take ((0 : Nat) + s.length) (List.drop (0 : Nat) ([] ++ s))) (List.take ((0 : Nat) + t.length) (List.drop (0 : Nat)
  ([] ++ t))) (List.take ((0 : Nat) + f.length) (List.drop (0 : Nat) ([] ++ f)))), ∀ (a_4 : List Int × Int × Unit), a_4 = sFlowsR a.fst (List.take ((0 : Nat) + s.length) (List.drop
  (0 : Nat) ([] ++ s))) (List.take ((0 : Nat) + t.length) (List.drop (0 : Nat) ([] ++ t))) (List.take ((0 : Nat) + f.length) (List.drop (0 : Nat) ([] ++ f))) → ∃ (h : WRFlows
  a.snd.fst s t f), ∀ (a_5 : List Int × Int × Unit), a_5 = rFlowsR a.snd.fst s t f → ∀ (a : Bool), a = (a_4.snd.fst == a_5.snd.fst) → Br a (∃ (h : True), ∀ (a : Bool × Unit), a =
  intsR (List.take a_4.fst.length (List.drop (0 : Nat) a_4.fst)) (List.take a_5.fst.length (List.drop (0 : Nat) a_5.fst)) → ∀ (a_6 : Bool), a_6 = a.fst → post (a_6, ())) (post
  (Bool.false, ()))))))
theorem Lx_law17_TracerFlows (n : Int) (s : List Int) (t : List Int) (f : List Int) (h : WLaw4 n s t f) (w : KS.wf [.int .i64, .slice (.int .i64), .slice (.int .i64), .slice (.int .i64)] (n, s, t, f, ())) : Fx_law17_TracerFlows  n s t f (fun r => r = yes4 n s t f) := by
  obtain ⟨hn, hs, ht, hf⟩ := h
  refine ⟨trivial, ?_⟩
  rintro _ rfl
  refine Br.intro (fun _ => rfl) fun _ => ?_
  rintro _ rfl
  refine Br.intro (fun _ => rfl) fun e1 => ?_
  rintro _ rfl
  refine Br.intro (fun _ => rfl) fun e2 => ?_
  rintro _ rfl
  refine Br.intro (fun _ => rfl) fun e3 => ?_
  have e1 := of_decide_eq_false e1
  have e2 := of_decide_eq_false e2
  have e3 := of_decide_eq_false e3
  refine ⟨hn, ?_⟩
  rintro _ rfl
  have tk : ∀ l : List Int, List.take (0 + l.length) (List.drop 0 ([] ++ l)) = l := fun l => by rw [List.drop_zero, List.nil_append, Nat.zero_add, List.take_length]
  have hE : NetEq (netsR n).1 (netsR n).2.1 := nets_eq _
  rw [tk, tk, tk]
  refine ⟨⟨rfl, by omega⟩, ⟨rfl, by omega⟩, ⟨rfl, by omega⟩, ⟨netEq_n hE, hs, ht, hf⟩, ?_⟩
  rintro _ rfl
  refine ⟨⟨netEq_r hE, hs, ht, hf⟩, ?_⟩
  rintro _ rfl
  have hq : sFlowsR (netsR n).1 s t f = rFlowsR (netsR n).2.1 s t f := by
    unfold sFlowsR rFlowsR
    rw [netEq_none hE, cells_same hE, edges_same hE, netEq_ar hE]
  rw [hq]
  rintro _ rfl
  refine Br.intro (fun _ => ?_) fun e => ?_
  · refine ⟨trivial, ?_⟩
    rintro _ rfl
    rintro _ rfl
    have same : ∀ l : List Int, (intsR l l).1 = true := fun l => beq_self_eq_true l
    rw [same]; rfl
  · rw [beq_self_eq_true] at e; cases e
end Go.Lift

set_option linter.unusedVariables false
set_option linter.unusedSimpArgs false
namespace Go.Lift
def Fx_tracer_Takes := fun (ty2 : Nat) (a b : Int) (c : List Int) (post : List Int × Int × Unit → Prop) => Br (decide (a < (0 : Int))) (post ([], (1 : Int), ())) (Br (decide (b < (0
  : Int))) (post ([], (1 : Int), ())) (∃ (h : (0 : Int) ≤ (↑c.length : Int) ∧ (↑c.length : Int) ≤ (↑c.length : Int) ∧ (↑c.length : Int) * (↑(8 : Nat) : Int) ≤ (281474976710656 :
  Int)), HIs [HObj.row Md.rw ty2 (K.int IntKind.i64) (List.replicate c.length (0 : Int))] [HObj.row Md.rw ty2 (K.int IntKind.i64) (List.replicate c.length (0 : Int))] ∧ ∃ (I : Int ×
  Int × Int × Unit → List Int × Unit → Prop), ∃ (μ : Int × Int × Int × Unit → List Int × Unit → Nat), I ((0 : Int), (0 : Int), (0 : Int), ()) (List.replicate c.length (0 : Int), ())
  ∧ ∀ (x : Int × Int × Int × Unit) (y : List Int × Unit), I x y → Br (decide (x.snd.snd.fst < (↑c.length : Int))) (∃ (h : (0 : Int) ≤ x.snd.snd.fst ∧ x.snd.snd.fst < (↑c.length :
  Int)), Br (decide (c.getD x.snd.snd.fst.toNat (0 : Int) < (0 : Int))) (post ([], (1 : Int), ())) (Br (decide (c.getD x.snd.snd.fst.toNat (0 : Int) > IntKind.i64.wrap (a - x.fst)))
  (post ([], (1 : Int), ())) (∀ (m : Int), m = IntKind.i64.wrap (x.fst + c.getD x.snd.snd.fst.toNat (0 : Int)) → ∃ (h : III b m a), ∀ (m_1 : Int), m_1 = (prtR b m a).fst → ∃ (h : (0
  : Int) ≤ x.snd.snd.fst ∧ x.snd.snd.fst < (↑c.length : Int)), HIs [HObj.row Md.rw ty2 (K.int IntKind.i64) (y.fst.set ((0 : Nat) + x.snd.snd.fst.toNat) (IntKind.i64.wrap (m_1 -
  x.snd.fst)))] [HObj.row Md.rw ty2 (K.int IntKind.i64) (y.fst.set ((0 : Nat) + x.snd.snd.fst.toNat) (IntKind.i64.wrap (m_1 - x.snd.fst)))] ∧ I (m, m_1, IntKind.i64.wrap
  (x.snd.snd.fst + (1 : Int)), ()) (y.fst.set ((0 : Nat) + x.snd.snd.fst.toNat) (IntKind.i64.wrap (m_1 - x.snd.fst)), ()) ∧ μ (m, m_1, IntKind.i64.wrap (x.snd.snd.fst + (1 : Int)),
  ()) (y.fst.set ((0 : Nat) + x.snd.snd.fst.toNat) (IntKind.i64.wrap (m_1 - x.snd.fst)), ()) < μ x y))) (((0 : Nat) = (0 : Nat) ∧ c.length = y.fst.length) ∧ post (y.fst, (0 : Int),
  ()))))
theorem Lx_tracer_Takes (ty0 : Nat) (a : Int) (b : Int) (c : List Int) (h : WTk a b c) : Fx_tracer_Takes ty0 a b c (fun r => r = tkR a b c) := by
  obtain ⟨ha, hb, hc, hl⟩ := h
  have hl : c.length ≤ 65536 := hl
  have hc : ∀ x ∈ c, I64 x := hc
  suffices H : ∀ post : List Int × Int × Unit → Prop, post ((takesF a b c).1, (takesF a b c).2, ()) → Fx_tracer_Takes ty0 a b c post from H _ rfl
  intro post h
  unfold Fx_tracer_Takes
  refine Br.intro (fun e => ?_) fun e => Br.intro (fun f => ?_) fun f => ?_
  all_goals simp only [decide_eq_true_eq, decide_eq_false_iff_not, Int.not_lt] at *
  · rw [takesF_neg1 e] at h; exact h
  · rw [takesF_neg2 f] at h; exact h
  · refine ⟨⟨by omega, by omega, by omega⟩, rfl, fun x y => ∃ i : Nat, x.2.2.1 = i ∧ i ≤ c.length ∧ okTo a c i ∧ x.1 = psum c i ∧ x.2.1 = part b (psum c i) a ∧ y.1 = filled 0 (takesOut a b c) i,
      fun x _ => c.length - x.2.2.1.toNat, ?_, ?_⟩
    · refine ⟨0, rfl, by omega, okTo_zero a c, (psum_zero c).symm, ?_, ?_⟩
      · dsimp only; rw [psum_zero, part_zero]
      · rw [filled_zero, takesOut_len]
    · rintro ⟨gone, ahead, _, ⟨⟩⟩ ⟨y, ⟨⟩⟩ ⟨i, hi, hil, hok, hg, ha', hy⟩
      dsimp only at hi hg ha' hy ⊢
      subst hi hg ha' hy
      have p0 := psum_nonneg hok hil
      have p1 := psum_le e hok
      obtain ⟨a1, a2⟩ := ha
      refine Br.intro (fun d => ?_) fun d => ?_
      all_goals simp only [decide_eq_true_eq, decide_eq_false_iff_not, Int.not_lt] at d
      · have hlt : i < c.length := by omega
        have hs := psum_succ c i hlt
        have hx : I64 (c.getD i 0) := hc _ (mem_getD hlt)
        refine ⟨⟨by omega, d⟩, ?_⟩
        simp only [Int.toNat_natCast]
        rw [wi (x := a - psum c i) ⟨by omega, by omega⟩]
        refine Br.intro (fun g => ?_) fun g => Br.intro (fun g' => ?_) fun g' => ?_
        all_goals simp only [decide_eq_true_eq, decide_eq_false_iff_not, Int.not_lt, gt_iff_lt] at g
        · rw [takesF_bad hlt (by omega)] at h; exact h
        · simp only [decide_eq_true_eq, gt_iff_lt] at g'
          rw [takesF_bad hlt (by omega)] at h; exact h
        · simp only [decide_eq_false_iff_not, Int.not_lt, gt_iff_lt] at g'
          rintro m hm
          rw [← hs, wi (x := psum c (i + 1)) ⟨by omega, by omega⟩] at hm
          subst hm
          refine ⟨⟨hb, ⟨by omega, by omega⟩, a1, a2⟩, ?_⟩
          rintro t rfl
          have r1 := part_range b (psum c (i + 1)) a
          have r2 := part_range b (psum c i) a
          refine ⟨⟨by omega, by omega⟩, rfl, ⟨i + 1, ?_, by omega, okTo_succ hok g (by omega), rfl, rfl, ?_⟩, ?_⟩
          · rw [wi ⟨by omega, by omega⟩]; omega
          · try dsimp only
            show (filled 0 (takesOut a b c) i).set (0 + i) (IntKind.i64.wrap (part b (psum c (i + 1)) a - part b (psum c i) a)) = _
            rw [wi (x := part b (psum c (i + 1)) a - part b (psum c i) a) ⟨by omega, by omega⟩, Nat.zero_add]
            exact filled_set 0 _ i (by rw [takesOut_len]; exact hlt) (takesOut_get a b c i hlt)
          · try dsimp only
            rw [wi ⟨by omega, by omega⟩]; omega
      · have : i = c.length := by omega
        subst this
        have hlen : (filled 0 (takesOut a b c) c.length).length = c.length := by rw [filled_len _ _ _ (by rw [takesOut_len]; omega), takesOut_len]
        refine ⟨⟨by trivial, by rw [hlen]⟩, ?_⟩
        rw [takesF_ok e f hok] at h
        have e2 := filled_all 0 (takesOut a b c)
        rw [takesOut_len] at e2
        rw [e2]; exact h
def Fx_ref17_Takes := fun (a b : Int) (c : List Int) (post : List Int × Int × Unit → Prop) => Br (decide (a < (0 : Int))) (post ([], (1 : Int), ())) (Br (decide (b < (0 : Int)))
  (post ([], (1 : Int), ())) (((0 : Nat) = (0 : Nat) ∧ (0 : Nat) = (0 : Nat)) ∧ HIs [HObj.dead] [HObj.dead] ∧ ∃ (I : Int × Int × Int × List Int × Unit → Unit → Prop), ∃ (μ : Int ×
  Int × Int × List Int × Unit → Unit → Nat), I ((0 : Int), (0 : Int), (0 : Int), [], ()) () ∧ ∀ (x : Int × Int × Int × List Int × Unit) (y : Unit), I x y → Br (decide (x.snd.snd.fst
  < (↑c.length : Int))) (∃ (h : (0 : Int) ≤ x.snd.snd.fst ∧ x.snd.snd.fst < (↑c.length : Int)), Br (decide (c.getD x.snd.snd.fst.toNat (0 : Int) < (0 : Int))) (post ([], (1 : Int),
  ())) (∃ (h : (0 : Int) ≤ x.snd.snd.fst ∧ x.snd.snd.fst < (↑c.length : Int)), Br (decide (c.getD x.snd.snd.fst.toNat (0 : Int) > IntKind.i64.wrap (a - x.fst))) (post ([], (1 :
  Int), ())) (∃ (h : (0 : Int) ≤ x.snd.snd.fst ∧ x.snd.snd.fst < (↑c.length : Int)), ∀ (m : Int), m = IntKind.i64.wrap (x.fst + c.getD x.snd.snd.fst.toNat (0 : Int)) → ∃ (h : III b
  m a), ∀ (m_1 : Int), m_1 = (prtR b m a).fst → ∃ (h : x.snd.snd.snd.fst.length = x.snd.snd.snd.fst.length ∧ (x.snd.snd.snd.fst.length + (1 : Nat)) * (8 : Nat) ≤ (140737488355328 :
  Nat)), ((0 : Nat) = (0 : Nat) ∧ x.snd.snd.snd.fst.length + (1 : Nat) = (x.snd.snd.snd.fst ++ [IntKind.i64.wrap (m_1 - x.snd.fst)]).length) ∧ HIs [HObj.dead] [HObj.dead] ∧ I (m,
  m_1, IntKind.i64.wrap (x.snd.snd.fst + (1 : Int)), x.snd.snd.snd.fst ++ [IntKind.i64.wrap (m_1 - x.snd.fst)], ()) () ∧ μ (m, m_1, IntKind.i64.wrap (x.snd.snd.fst + (1 : Int)),
  x.snd.snd.snd.fst ++ [IntKind.i64.wrap (m_1 - x.snd.fst)], ()) () < μ x y))) (((0 : Nat) = (0 : Nat) ∧ x.snd.snd.snd.fst.length = x.snd.snd.snd.fst.length) ∧ post
  (x.snd.snd.snd.fst, (0 : Int), ()))))
theorem Lx_ref17_Takes (a : Int) (b : Int) (c : List Int) (h : WTk a b c) : Fx_ref17_Takes  a b c (fun r => r = tkR a b c) := by
  obtain ⟨ha, hb, hc, hl⟩ := h
  have hl : c.length ≤ 65536 := hl
  have hc : ∀ x ∈ c, I64 x := hc
  suffices H : ∀ post : List Int × Int × Unit → Prop, post ((takesF a b c).1, (takesF a b c).2, ()) → Fx_ref17_Takes a b c post from H _ rfl
  intro post h
  unfold Fx_ref17_Takes
  refine Br.intro (fun e => ?_) fun e => Br.intro (fun f => ?_) fun f => ?_
  all_goals simp only [decide_eq_true_eq, decide_eq_false_iff_not, Int.not_lt] at *
  · rw [takesF_neg1 e] at h; exact h
  · rw [takesF_neg2 f] at h; exact h
  · refine ⟨⟨by trivial, by trivial⟩, rfl, fun x y => ∃ i : Nat, x.2.2.1 = i ∧ i ≤ c.length ∧ okTo a c i ∧ x.1 = psum c i ∧ x.2.1 = part b (psum c i) a ∧ x.2.2.2.1 = (takesOut a b c).take i,
      fun x _ => c.length - x.2.2.1.toNat, ?_, ?_⟩
    · refine ⟨0, rfl, by omega, okTo_zero a c, (psum_zero c).symm, ?_, ?_⟩
      · dsimp only; rw [psum_zero, part_zero]
      · simp
    · rintro ⟨gone, ahead, _, y, ⟨⟩⟩ ⟨⟩ ⟨i, hi, hil, hok, hg, ha', hy⟩
      dsimp only at hi hg ha' hy ⊢
      subst hi hg ha' hy
      have p0 := psum_nonneg hok hil
      have p1 := psum_le e hok
      obtain ⟨a1, a2⟩ := ha
      have hlen : ((takesOut a b c).take i).length = i := by rw [List.length_take, takesOut_len]; omega
      refine Br.intro (fun d => ?_) fun d => ?_
      all_goals simp only [decide_eq_true_eq, decide_eq_false_iff_not, Int.not_lt] at d
      · have hlt : i < c.length := by omega
        have hs := psum_succ c i hlt
        have hx : I64 (c.getD i 0) := hc _ (mem_getD hlt)
        have q0 : (0 : Int) ≤ i ∧ (i : Int) < c.length := ⟨by omega, d⟩
        refine ⟨q0, ?_⟩
        simp only [Int.toNat_natCast]
        rw [wi (x := a - psum c i) ⟨by omega, by omega⟩]
        refine Br.intro (fun g => ?_) fun g => ⟨q0, Br.intro (fun g' => ?_) fun g' => ⟨q0, ?_⟩⟩
        all_goals simp only [decide_eq_true_eq, decide_eq_false_iff_not, Int.not_lt, gt_iff_lt] at g
        · rw [takesF_bad hlt (by omega)] at h; exact h
        · simp only [decide_eq_true_eq, gt_iff_lt] at g'
          rw [takesF_bad hlt (by omega)] at h; exact h
        · simp only [decide_eq_false_iff_not, Int.not_lt, gt_iff_lt] at g'
          rintro m hm
          rw [← hs, wi (x := psum c (i + 1)) ⟨by omega, by omega⟩] at hm
          subst hm
          refine ⟨⟨hb, ⟨by omega, by omega⟩, a1, a2⟩, ?_⟩
          rintro t rfl
          have r1 := part_range b (psum c (i + 1)) a
          have r2 := part_range b (psum c i) a
          rw [show (prtR b (psum c (i + 1)) a).fst = part b (psum c (i + 1)) a from rfl, wi (x := part b (psum c (i + 1)) a - part b (psum c i) a) ⟨by omega, by omega⟩]
          rw [take_next _ i (takesOut_get a b c i hlt)]
          refine ⟨⟨by trivial, by rw [hlen]; omega⟩, ⟨by trivial, by rw [hlen, List.length_take, takesOut_len]; omega⟩, rfl, ⟨i + 1, ?_, by omega, okTo_succ hok g (by omega), rfl, rfl, rfl⟩, ?_⟩
          · rw [wi ⟨by omega, by omega⟩]; omega
          · try dsimp only
            rw [wi ⟨by omega, by omega⟩]; omega
      · have : i = c.length := by omega
        subst this
        refine ⟨⟨by trivial, by trivial⟩, ?_⟩
        rw [takesF_ok e f hok] at h
        rw [List.take_of_length_le (by rw [takesOut_len]; omega)]; exact h
end Go.Lift

set_option linter.unusedVariables false
set_option linter.unusedSimpArgs false
namespace Go.Lift
def Fx_mbits_Mul64 := F18
theorem Lx_mbits_Mul64 (a : Int) (b : Int) (h : WU2 a b) : Fx_mbits_Mul64  a b (fun r => r = mulR2 a b) := by
  exact mul64_eval h.1.1 h.1.2 h.2.1 h.2.2 rfl
def Fx_ref14_product := F20
theorem Lx_ref14_product (a : Int) (b : Int) (h : WU2 a b) : Fx_ref14_product  a b (fun r => r = mulR2 a b) := by
  exact product_eval h.1.1 h.1.2 h.2.1 h.2.2 rfl
def Fx_mbits_Div64 := F19
theorem Lx_mbits_Div64 (a : Int) (b : Int) (c : Int) (h : WDiv a b c) : Fx_mbits_Div64  a b c (fun r => r = divR2 a b c) := by
  obtain ⟨ha, hb, hc, hac⟩ := h
  have hc0 : (0 : Int) < c := Int.lt_of_le_of_lt ha.1 hac
  obtain ⟨s0, s1, s2, s3⟩ := lz_norm hc0 hc.2
  exact div64_eval (a := a) (b := b) (c := c) rfl hc s0 s1 s2 s3 ha.1 hac hb.1 hb.2 rfl
def Fx_share_Part := F12
theorem Lx_share_Part (a : Int) (b : Int) (c : Int) (h : III a b c) : Fx_share_Part  a b c (fun r => r = prtR a b c) := by
  exact part_eval h.1 h.2.1 h.2.2 rfl
def Fx_ref14_Part := F14
theorem Lx_ref14_Part (a : Int) (b : Int) (c : Int) (h : III a b c) : Fx_ref14_Part  a b c (fun r => r = prtR a b c) := by
  exact part14_eval h.1 h.2.1 h.2.2 rfl
end Go.Lift

set_option linter.unusedVariables false
set_option linter.unusedSimpArgs false
namespace Go.Lift
def Fx_sum_row := fun (a : List Nat) (post : Nat × Unit → Prop) => ∀ (a_1 : Bool), a_1 = ((↑a.length : Int) == (0 : Int)) → Br a_1 (post ((0 : Nat), ())) (∃ (h : (0 : Int) ≤ (0 :
  Int) ∧ (0 : Int) < (↑a.length : Int)), ∃ (h : (0 : Int) ≤ (1 : Int) ∧ (1 : Int) ≤ (↑a.length : Int) ∧ (↑a.length : Int) ≤ (↑a.length : Int)), HIs [] [] ∧ ∃ (I : Nat × Int × Unit →
  Unit → Prop), ∃ (μ : Nat × Int × Unit → Unit → Nat), I (a.getD (Int.toNat (0 : Int)) (0 : Nat), (0 : Int), ()) () ∧ ∀ (x : Nat × Int × Unit) (y : Unit), I x y → ∀ (a_2 : Bool),
  a_2 = decide (x.snd.fst < (↑(List.take ((↑a.length : Int) - (1 : Int)).toNat (List.drop (Int.toNat (1 : Int)) a)).length : Int)) → Br a_2 (∃ (h : (0 : Int) ≤ x.snd.fst ∧ x.snd.fst
  < (↑(List.take ((↑a.length : Int) - (1 : Int)).toNat (List.drop (Int.toNat (1 : Int)) a)).length : Int)), ∀ (a_3 : Nat), FRes Go.FloatKind.f64 (Go.FloatKind.f64.format.add x.fst
  ((List.take ((↑a.length : Int) - (1 : Int)).toNat (List.drop (Int.toNat (1 : Int)) a)).getD x.snd.fst.toNat (0 : Nat))) a_3 → HIs [] [] ∧ I (a_3, IntKind.i64.wrap (x.snd.fst + (1
  : Int)), ()) () ∧ μ (a_3, IntKind.i64.wrap (x.snd.fst + (1 : Int)), ()) () < μ x y) (∃ (h : True), post ((quietR x.fst).fst, ())))
theorem Lx_sum_row (a : List Nat) (h : WL a) (w : KS.wf [.slice (.flt .f64)] (a, ())) : Fx_sum_row  a (fun r => r = rowR a) := by
  have hl : a.length ≤ maxN := w.1.1
  unfold maxN at hl
  rintro _ rfl
  refine Br.intro (fun e => ?_) fun e => ?_
  · have e : a.length = 0 := by have := eq_of_beq e; omega
    have : a = [] := List.eq_nil_of_length_eq_zero e
    subst this; rfl
  · have e : 0 < a.length := by
      rcases Nat.eq_zero_or_pos a.length with z | z
      · rw [z] at e; cases e
      · exact z
    refine ⟨⟨by omega, by omega⟩, ⟨by omega, by omega, by omega⟩, rfl, fun x _ => ∃ i : Nat, x.2.1 = i ∧ i + 1 ≤ a.length ∧ W64 x.1 ∧ quietF x.1 = rowQ (a.take (i + 1)), fun x _ => a.length - x.2.1.toNat, ⟨0, rfl, by omega, WL_getD h 0, (rowQ_one e).symm⟩, ?_⟩
    have ht : List.take ((a.length : Int) - 1).toNat (List.drop (Int.toNat 1) a) = a.drop 1 := by
      show List.take ((a.length : Int) - 1).toNat (List.drop 1 a) = a.drop 1
      apply List.take_of_length_le; rw [List.length_drop]; omega
    rw [ht]
    have hd : ∀ i, (a.drop 1).getD i 0 = a.getD (i + 1) 0 := by
      intro i; rw [List.getD_eq_getElem?_getD, List.getD_eq_getElem?_getD, List.getElem?_drop, Nat.add_comm]
    rintro ⟨acc, _, ⟨⟩⟩ _ ⟨i, hi, hil, hw, hq⟩
    dsimp only at hi hw hq
    subst hi
    dsimp only
    rintro _ rfl
    refine Br.intro (fun f => ?_) fun f => ?_
    · have f : i + 1 < a.length := by have := of_decide_eq_true f; rw [List.length_drop] at this; omega
      refine ⟨⟨by omega, by rw [List.length_drop]; omega⟩, fun r hr => ?_⟩
      rw [Int.toNat_natCast, hd] at hr
      obtain ⟨q1, q2⟩ := fadd hr
      refine ⟨rfl, ⟨i + 1, ?_, by omega, q2, ?_⟩, ?_⟩
      · rw [wi ⟨by omega, by omega⟩]; omega
      · show quietF r = _
        rw [q1, rowQ_at f (by omega), addQ_congr (x' := rowQ (a.take (i + 1))) (by rw [hq, rowQ_q]) rfl]
      · rw [wi ⟨by omega, by omega⟩]; omega
    · have f : a.length ≤ i + 1 := by have := of_decide_eq_false f; rw [List.length_drop] at this; omega
      refine ⟨trivial, congrArg r1 ?_⟩
      show quietF acc = _
      rw [hq, List.take_of_length_le f]
def Fx_sum_Three := fun (a b c : Nat) (post : Nat × Unit → Prop) => ∃ (h : (List.replicate (3 : Nat) (0 : Nat)).length = (3 : Nat) ∧ (3 : Nat) = (3 : Nat)), ∃ (h : (0 : Int) ≤ (0 :
  Int) ∧ (0 : Int) ≤ (3 : Int) ∧ (3 : Int) ≤ (3 : Int) ∧ (3 : Nat) = (3 : Nat)), ∃ (h : IsThree (3 : Int)), ∃ (h : (0 : Int) ≤ (1 : Int) ∧ (1 : Int) < (3 : Int)), ∃ (h : (0 : Int) ≤
  (0 : Int) ∧ (0 : Int) < (3 : Int)), ∃ (h : W2 b a), Br (decide ((cmpMR b a).fst < (0 : Int))) (∃ (h : (0 : Int) ≤ (0 : Int) ∧ (0 : Int) < (3 : Int)), ∃ (h : (0 : Int) ≤ (1 : Int)
  ∧ (1 : Int) < (3 : Int)), ∃ (h : (0 : Int) ≤ (1 : Int) ∧ (1 : Int) < (3 : Int)), ∃ (h : (0 : Int) ≤ (0 : Int) ∧ (0 : Int) < (3 : Int)), ∃ (h : (0 : Int) ≤ (2 : Int) ∧ (2 : Int) <
  (3 : Int)), ∃ (h : (0 : Int) ≤ (1 : Int) ∧ (1 : Int) < (3 : Int)), ∃ (h : W2 c a), Br (decide ((cmpMR c a).fst < (0 : Int))) (∃ (h : (0 : Int) ≤ (1 : Int) ∧ (1 : Int) < (3 :
  Int)), ∃ (h : (0 : Int) ≤ (2 : Int) ∧ (2 : Int) < (3 : Int)), ∃ (h : (0 : Int) ≤ (2 : Int) ∧ (2 : Int) < (3 : Int)), ∃ (h : (0 : Int) ≤ (1 : Int) ∧ (1 : Int) < (3 : Int)), ∃ (h :
  (0 : Int) ≤ (1 : Int) ∧ (1 : Int) < (3 : Int)), ∃ (h : (0 : Int) ≤ (0 : Int) ∧ (0 : Int) < (3 : Int)), ∃ (h : W2 c b), Br (decide ((cmpMR c b).fst < (0 : Int))) (∃ (h : (0 : Int)
  ≤ (0 : Int) ∧ (0 : Int) < (3 : Int)), ∃ (h : (0 : Int) ≤ (1 : Int) ∧ (1 : Int) < (3 : Int)), ∃ (h : (0 : Int) ≤ (1 : Int) ∧ (1 : Int) < (3 : Int)), ∃ (h : (0 : Int) ≤ (0 : Int) ∧
  (0 : Int) < (3 : Int)), ∃ (h : (0 : Int) ≤ (0 : Int) ∧ (0 : Int) ≤ (3 : Int) ∧ (3 : Int) ≤ (3 : Int) ∧ (3 : Nat) = [c, b, a].length), ∃ (h : WL [c, b, a]), post ((rowR [c, b,
  a]).fst, ())) (∃ (h : (0 : Int) ≤ (0 : Int) ∧ (0 : Int) ≤ (3 : Int) ∧ (3 : Int) ≤ (3 : Int) ∧ (3 : Nat) = [b, c, a].length), ∃ (h : WL [b, c, a]), post ((rowR [b, c, a]).fst,
  ()))) (∃ (h : (0 : Int) ≤ (0 : Int) ∧ (0 : Int) ≤ (3 : Int) ∧ (3 : Int) ≤ (3 : Int) ∧ (3 : Nat) = [b, a, c].length), ∃ (h : WL [b, a, c]), post ((rowR [b, a, c]).fst, ()))) (∃ (h
  : (0 : Int) ≤ (2 : Int) ∧ (2 : Int) < (3 : Int)), ∃ (h : (0 : Int) ≤ (1 : Int) ∧ (1 : Int) < (3 : Int)), ∃ (h : W2 c b), Br (decide ((cmpMR c b).fst < (0 : Int))) (∃ (h : (0 :
  Int) ≤ (1 : Int) ∧ (1 : Int) < (3 : Int)), ∃ (h : (0 : Int) ≤ (2 : Int) ∧ (2 : Int) < (3 : Int)), ∃ (h : (0 : Int) ≤ (2 : Int) ∧ (2 : Int) < (3 : Int)), ∃ (h : (0 : Int) ≤ (1 :
  Int) ∧ (1 : Int) < (3 : Int)), ∃ (h : (0 : Int) ≤ (1 : Int) ∧ (1 : Int) < (3 : Int)), ∃ (h : (0 : Int) ≤ (0 : Int) ∧ (0 : Int) < (3 : Int)), ∃ (h : W2 c a), Br (decide ((cmpMR c
  a).fst < (0 : Int))) (∃ (h : (0 : Int) ≤ (0 : Int) ∧ (0 : Int) < (3 : Int)), ∃ (h : (0 : Int) ≤ (1 : Int) ∧ (1 : Int) < (3 : Int)), ∃ (h : (0 : Int) ≤ (1 : Int) ∧ (1 : Int) < (3 :
  Int)), ∃ (h : (0 : Int) ≤ (0 : Int) ∧ (0 : Int) < (3 : Int)), ∃ (h : (0 : Int) ≤ (0 : Int) ∧ (0 : Int) ≤ (3 : Int) ∧ (3 : Int) ≤ (3 : Int) ∧ (3 : Nat) = [c, a, b].length), ∃ (h :
  WL [c, a, b]), post ((rowR [c, a, b]).fst, ())) (∃ (h : (0 : Int) ≤ (0 : Int) ∧ (0 : Int) ≤ (3 : Int) ∧ (3 : Int) ≤ (3 : Int) ∧ (3 : Nat) = [a, c, b].length), ∃ (h : WL [a, c,
  b]), post ((rowR [a, c, b]).fst, ()))) (∃ (h : (0 : Int) ≤ (0 : Int) ∧ (0 : Int) ≤ (3 : Int) ∧ (3 : Int) ≤ (3 : Int) ∧ (3 : Nat) = (3 : Nat)), ∃ (h : WL [a, b, c]), post ((rowR
  [a, b, c]).fst, ())))
theorem Lx_sum_Three (a : Nat) (b : Nat) (c : Nat) (h : W3 a b c) : Fx_sum_Three  a b c (fun r => r = threeR a b c) := by
  obtain ⟨ha, hb, hc⟩ := h
  have leaf : ∀ l, sort3 a b c = l → ((rowR l).fst, ()) = threeR a b c := by rintro _ rfl; rfl
  refine ⟨⟨rfl, rfl⟩, ⟨by decide, by decide, by decide, rfl⟩, rfl, by decide, by decide, ⟨hb, ha⟩, Br.intro (fun e => ⟨by decide, by decide, by decide, by decide, by decide, by decide, ⟨hc, ha⟩, Br.intro (fun f => ⟨by decide, by decide, by decide, by decide, by decide, by decide, ⟨hc, hb⟩, Br.intro (fun g => ⟨by decide, by decide, by decide, by decide, ⟨by decide, by decide, by decide, rfl⟩, WL3 hc hb ha, leaf _ ?_⟩) fun g => ⟨⟨by decide, by decide, by decide, rfl⟩, WL3 hb hc ha, leaf _ ?_⟩⟩) fun f => ⟨⟨by decide, by decide, by decide, rfl⟩, WL3 hb ha hc, leaf _ ?_⟩⟩) fun e => ⟨by decide, by decide, ⟨hc, hb⟩, Br.intro (fun f => ⟨by decide, by decide, by decide, by decide, by decide, by decide, ⟨hc, ha⟩, Br.intro (fun g => ⟨by decide, by decide, by decide, by decide, ⟨by decide, by decide, by decide, rfl⟩, WL3 hc ha hb, leaf _ ?_⟩) fun g => ⟨⟨by decide, by decide, by decide, rfl⟩, WL3 ha hc hb, leaf _ ?_⟩⟩) fun f => ⟨⟨by decide, by decide, by decide, rfl⟩, WL3 ha hb hc, leaf _ ?_⟩⟩⟩
  · have e : ltM b a = true := e
    have f : ltM c a = true := f
    have g : ltM c b = true := g
    unfold sort3; rw [e, f, g]; rfl
  · have e : ltM b a = true := e
    have f : ltM c a = true := f
    have g : ltM c b = false := g
    unfold sort3; rw [e, f, g]; rfl
  · have e : ltM b a = true := e
    have f : ltM c a = false := f
    unfold sort3; rw [e, f]; rfl
  · have e : ltM b a = false := e
    have f : ltM c b = true := f
    have g : ltM c a = true := g
    unfold sort3; rw [e, f, g]; rfl
  · have e : ltM b a = false := e
    have f : ltM c b = true := f
    have g : ltM c a = false := g
    unfold sort3; rw [e, f, g]; rfl
  · have e : ltM b a = false := e
    have f : ltM c b = false := f
    unfold sort3; rw [e, f]; rfl
end Go.Lift

set_option linter.unusedVariables false
set_option linter.unusedSimpArgs false
namespace Go.Lift
def Fx_bits_quiet := fun (post : Nat × Unit → Prop) => ∃ (h : True), post ((fromR (9221120237041090561 : Int)).fst, ())
theorem Lx_bits_quiet  : Fx_bits_quiet   (fun r => r = qnR) := by
  exact ⟨trivial, rfl⟩
def Fx_math_Abs := fun (a : Nat) (post : Nat × Unit → Prop) => ∃ (h : True), ∃ (h : True), post ((fromR (Go.bits Go.BinOp.andNot IntKind.u64 (bitsR a).fst (9223372036854775808 :
  Int))).fst, ())
theorem Lx_math_Abs (a : Nat) (h : W64 a) : Fx_math_Abs  a (fun r => r = absR a) := by
  refine ⟨trivial, trivial, ?_⟩
  show r1 (Go.bits .andNot .u64 (a : Int) 9223372036854775808).toNat = _
  rw [andNot_sign h]; rfl
def Fx_math_IsNaN := fun (a : Nat) (post : Bool × Unit → Prop) => ∀ (a_1 : Bool), a_1 = fcmp Go.BinOp.neq (Go.FloatKind.f64.format.order a a) → post (a_1, ())
theorem Lx_math_IsNaN (a : Nat) : Fx_math_IsNaN  a (fun r => r = nanR a) := by
  rintro _ rfl
  exact congrArg r1 (neq_self a)
def Fx_bits_Canon := fun (a : Nat) (post : Nat × Unit → Prop) => ∀ (a_1 : Bool), a_1 = fcmp Go.BinOp.neq (Go.FloatKind.f64.format.order a a) → Br a_1 (∃ (h : True), post (qnR.fst,
  ())) (∀ (a_2 : Bool), a_2 = fcmp Go.BinOp.eql (Go.FloatKind.f64.format.order a (0 : Nat)) → Br a_2 (post ((0 : Nat), ())) (post (a, ())))
theorem Lx_bits_Canon (a : Nat) : Fx_bits_Canon  a (fun r => r = canonR a) := by
  rintro _ rfl
  refine Br.intro (fun e => ⟨trivial, ?_⟩) fun e => ?_
  · have e : isN a = true := (neq_self a).symm.trans e
    exact congrArg r1 (by unfold canonF; rw [if_pos e]; rfl)
  · have e : isN a = false := (neq_self a).symm.trans e
    rintro _ rfl
    refine Br.intro (fun z => ?_) fun z => ?_
    · have z := (eql_zero a).symm.trans z
      rw [e] at z
      exact congrArg r1 (by unfold canonF; rw [e, if_neg (by simp), if_pos (by simpa using z)])
    · have z := (eql_zero a).symm.trans z
      rw [e] at z
      exact congrArg r1 (by unfold canonF; rw [e, if_neg (by simp), if_neg (by simpa using z)])
def Fx_sum_quiet := fun (a : Nat) (post : Nat × Unit → Prop) => ∃ (h : True), ∀ (a_1 : Bool), a_1 = (nanR a).fst → Br a_1 (∃ (h : True), post ((fromR (9221120237041090561 :
  Int)).fst, ())) (post (a, ()))
theorem Lx_sum_quiet (a : Nat) : Fx_sum_quiet  a (fun r => r = quietR a) := by
  refine ⟨trivial, ?_⟩
  rintro _ rfl
  refine Br.intro (fun e => ⟨trivial, ?_⟩) fun e => ?_
  · have e : isN a = true := e
    exact congrArg r1 (by unfold quietF; rw [if_pos e]; rfl)
  · have e : isN a = false := e
    exact congrArg r1 (by unfold quietF; rw [e]; rfl)
def Fx_sum_magnitude := fun (a : Nat) (post : Int × Unit → Prop) => ∃ (h : True), ∃ (h : (0 : Int) ≤ (1 : Int)), post (IntKind.u64.wrap ((bitsR a).fst * (2 : Int) ^ Min.min
  (Int.toNat (1 : Int)) IntKind.u64.bits), ())
theorem Lx_sum_magnitude (a : Nat) (h : W64 a) : Fx_sum_magnitude  a (fun r => r = mag2R a) := by
  refine ⟨trivial, by decide, ?_⟩
  refine congrArg r1 ?_
  show IntKind.u64.wrap ((a : Int) * 2 ^ 1) = _
  rw [IntKind.wrap_u64]; unfold mag2 magI rungOf sw; omega
def Fx_bits_place := fun (a : Nat) (post : Int × Unit → Prop) => ∃ (h : True), ∀ (a_1 : Bool), a_1 = decide ((bitsR a).fst ≥ (9223372036854775808 : Int)) → Br a_1 (post (Go.bits
  Go.BinOp.xor IntKind.u64 (if IntKind.u64.signed = Bool.true then (-1 : Int) else IntKind.u64.max) (bitsR a).fst, ())) (post (Go.bits Go.BinOp.or IntKind.u64 (bitsR a).fst
  (9223372036854775808 : Int), ()))
theorem Lx_bits_place (a : Nat) (h : W64 a) : Fx_bits_place  a (fun r => r = placeR a) := by
  refine ⟨trivial, ?_⟩
  rintro _ rfl
  refine Br.intro (fun e => ?_) fun e => ?_
  · have e : 9223372036854775808 ≤ a := by have := of_decide_eq_true e; dsimp only [bitsR, r1] at this; omega
    refine congrArg r1 ?_
    show Go.bits .xor .u64 _ (a : Int) = _
    unfold placeI; rw [if_pos ((sgn_iff h).2 e)]
    exact xor_ones h
  · have e : a < 9223372036854775808 := by have := of_decide_eq_false e; dsimp only [bitsR, r1] at this; omega
    refine congrArg r1 ?_
    show Go.bits .or .u64 (a : Int) 9223372036854775808 = _
    unfold placeI; rw [if_neg (by rw [sgn_iff h]; omega)]
    exact or_sign e
def Fx_cmp_isNaN_uint64 := fun (a : Int) (post : Bool × Unit → Prop) => ∀ (a_1 : Bool), a_1 = (a != a) → post (a_1, ())
theorem Lx_cmp_isNaN_uint64 (a : Int) : Fx_cmp_isNaN_uint64  a (fun r => r = noR a) := by
  rintro _ rfl
  exact congrArg r1 (by simp)
def Fx_cmp_Compare_uint64 := fun (a b : Int) (post : Int × Unit → Prop) => ∃ (h : True), ∀ (a_1 : Bool), a_1 = (noR a).fst → ∃ (h : True), ∀ (a_2 : Bool), a_2 = (noR b).fst → Br a_1
  (Br a_2 (post ((0 : Int), ())) (post ((-1 : Int), ()))) (Br a_2 (post ((1 : Int), ())) (∀ (a_3 : Bool), a_3 = decide (a < b) → Br a_3 (post ((-1 : Int), ())) (∀ (a_4 : Bool), a_4
  = decide (a > b) → Br a_4 (post ((1 : Int), ())) (post ((0 : Int), ())))))
theorem Lx_cmp_Compare_uint64 (a : Int) (b : Int) : Fx_cmp_Compare_uint64  a b (fun r => r = cmpR a b) := by
  refine ⟨trivial, ?_⟩
  rintro _ rfl
  refine ⟨trivial, ?_⟩
  rintro _ rfl
  refine Br.intro (fun e => by cases e) fun _ => Br.intro (fun e => by cases e) fun _ => ?_
  rintro _ rfl
  refine Br.intro (fun e => ?_) fun e => ?_
  · exact congrArg r1 (by unfold cmpI; rw [if_pos (of_decide_eq_true e)])
  · rintro _ rfl
    refine Br.intro (fun f => ?_) fun f => ?_
    · exact congrArg r1 (by unfold cmpI; rw [if_neg (of_decide_eq_false e), if_pos (of_decide_eq_true f)])
    · exact congrArg r1 (by unfold cmpI; rw [if_neg (of_decide_eq_false e), if_neg (of_decide_eq_false f)])
def Fx_bits_Order := fun (a b : Nat) (post : Int × Unit → Prop) => ∃ (h : W64 a), ∃ (h : W64 b), ∃ (h : True), post ((cmpR (placeR a).fst (placeR b).fst).fst, ())
theorem Lx_bits_Order (a : Nat) (b : Nat) (h : W2 a b) : Fx_bits_Order  a b (fun r => r = ordR a b) := by
  exact ⟨h.1, h.2, trivial, rfl⟩
def Fx_cmp_Or_int := fun (a : List Int) (post : Int × Unit → Prop) => HIs [] [] ∧ ∃ (I : Int × Unit → Unit → Prop), ∃ (μ : Int × Unit → Unit → Nat), I ((0 : Int), ()) () ∧ ∀ (x :
  Int × Unit) (y : Unit), I x y → ∀ (a_1 : Bool), a_1 = decide (x.fst < (↑a.length : Int)) → Br a_1 (∃ (h : (0 : Int) ≤ x.fst ∧ x.fst < (↑a.length : Int)), ∀ (a_2 : Bool), a_2 =
  (a.getD x.fst.toNat (0 : Int) != (0 : Int)) → Br a_2 (post (a.getD x.fst.toNat (0 : Int), ())) (HIs [] [] ∧ I (IntKind.i64.wrap (x.fst + (1 : Int)), ()) () ∧ μ (IntKind.i64.wrap
  (x.fst + (1 : Int)), ()) () < μ x y)) (post ((0 : Int), ()))
theorem Lx_cmp_Or_int (a : List Int) (w : KS.wf [.slice (.int .i64)] (a, ())) : Fx_cmp_Or_int  a (fun r => r = orR a) := by
  have hl : a.length ≤ maxN := w.1.1
  unfold maxN at hl
  refine ⟨rfl, fun x _ => ∃ i : Nat, x.1 = i ∧ i ≤ a.length ∧ firstNZ (a.drop i) = firstNZ a, fun x _ => a.length - x.1.toNat, ⟨0, rfl, by omega, rfl⟩, ?_⟩
  rintro ⟨_, ⟨⟩⟩ _ ⟨i, hi, hil, hn⟩
  dsimp only at hi
  subst hi
  rintro _ rfl
  refine Br.intro (fun e => ?_) fun e => ?_
  · have e : i < a.length := by have := of_decide_eq_true e; dsimp only at this; omega
    have hd : a.drop i = a.getD i 0 :: a.drop (i + 1) := by
      rw [List.drop_eq_getElem_cons e, List.getD_eq_getElem?_getD, List.getElem?_eq_getElem e]; rfl
    rw [hd] at hn
    simp only [Int.toNat_natCast]
    refine ⟨⟨by omega, by omega⟩, ?_⟩
    rintro _ rfl
    refine Br.intro (fun z => ?_) fun z => ⟨rfl, ⟨i + 1, ?_, by omega, ?_⟩, ?_⟩
    · have z : a.getD i 0 ≠ 0 := by simpa using z
      refine congrArg r1 ?_
      rw [← hn]; unfold firstNZ; rw [if_pos z]
    · rw [wi ⟨by omega, by omega⟩]; omega
    · have z : a.getD i 0 = 0 := by simpa using z
      rw [← hn, z]; rfl
    · rw [wi ⟨by omega, by omega⟩]; omega
  · have e : a.length ≤ i := by have := of_decide_eq_false e; dsimp only at this; omega
    refine congrArg r1 ?_
    rw [← hn, List.drop_eq_nil_of_le e]; rfl
def Fx_sum_Three_c1 := fun (a b : Nat) (post : Int × Unit → Prop) => ∃ (h : W64 a), ∃ (h : W64 b), ∃ (h : True), ∃ (h : W2 a b), ∃ (h : True), post ((orR [(cmpR (mag2R a).fst (mag2R
  b).fst).fst, (ordR a b).fst]).fst, ())
theorem Lx_sum_Three_c1 (a : Nat) (b : Nat) (h : W2 a b) : Fx_sum_Three_c1  a b (fun r => r = cmpMR a b) := by
  refine ⟨h.1, h.2, trivial, h, trivial, ?_⟩
  refine congrArg r1 ?_
  unfold cmpM
  show firstNZ [cmpI (mag2 a) (mag2 b), ordF a b] = _
  simp only [firstNZ]
  split
  · rfl
  · split
    · rfl
    · rename_i z; simpa using (by simpa using z : ordF a b = 0).symm
def Fx_math_IsInf := fun (a : Nat) (b : Int) (post : Bool × Unit → Prop) => ∀ (a_1 : Bool), a_1 = (b == (0 : Int)) → Br a_1 (∃ (h : W64 a), ∀ (a_2 : Bool), a_2 = fcmp Go.BinOp.gtr
  (Go.FloatKind.f64.format.order (absR a).fst (9218868437227405311 : Nat)) → post (a_2, ())) (∀ (a_2 : Bool), a_2 = decide (b < (0 : Int)) → Br a_2 (∀ (a_3 : Bool), a_3 = fcmp
  Go.BinOp.gtr (Go.FloatKind.f64.format.order (Go.Op.negFloat Go.FloatKind.f64 a) (9218868437227405311 : Nat)) → post (a_3, ())) (∀ (a_3 : Bool), a_3 = fcmp Go.BinOp.gtr
  (Go.FloatKind.f64.format.order a (9218868437227405311 : Nat)) → post (a_3, ())))
theorem Lx_math_IsInf (a : Nat) (b : Int) (h : WI a b) : Fx_math_IsInf  a b (fun r => r = infSR a b) := by
  have h : W64 a := h
  rintro _ rfl
  refine Br.intro (fun e => ⟨h, ?_⟩) fun e => ?_
  · have e : b = 0 := by simpa using e
    rintro _ rfl
    refine congrArg r1 ?_
    show fcmp .gtr (Ieee.double.order (rungOf a) 9218868437227405311) = _
    unfold infS; rw [if_pos e, gt_max]
    have := rung_lt a
    have e1 : rungOf (rungOf a) = rungOf a := rung_lo this
    have e2 : sgn (rungOf a) = false := by rw [sgn_dec (by unfold W64; omega)]; simp; omega
    rw [e1, e2]; simp
  · have e : b ≠ 0 := by simpa using e
    rintro _ rfl
    refine Br.intro (fun f => ?_) fun f => ?_
    · have f : b < 0 := of_decide_eq_true f
      rintro _ rfl
      refine congrArg r1 ?_
      show fcmp .gtr (Ieee.double.order (negF a) 9218868437227405311) = _
      unfold infS; rw [if_neg e, if_pos f, gt_max, (rung_negF h).1, sgn_negF h]; simp
    · have f : ¬ b < 0 := of_decide_eq_false f
      rintro _ rfl
      refine congrArg r1 ?_
      show fcmp .gtr (Ieee.double.order a 9218868437227405311) = _
      unfold infS; rw [if_neg e, if_neg f, gt_max]
end Go.Lift

set_option linter.unusedVariables false
set_option linter.unusedSimpArgs false
namespace Go.Lift
theorem ResRep.one {w w' : World} {k : K} {x : k.T} {v : Value} {ok : Nat → Prop} (h : ∀ fr, KRep w' fr k x v) : ResRep w w' ok [.snap k] (x, ()) v :=
  ⟨[v], [], rfl, fun i j b h => by simp at h, v, [], [], [], rfl, rfl, ⟨rfl, h _⟩, rfl, rfl⟩
section
variable {P : Program} {G : Globs} {f : FuncId} {fn : Func} (hf : P.funcs[f]? = some fn) (hname : (fn.name == "runtime.NumGoroutine") = false) (hb : fn.body.isNone = true) (hn : Extern.findNext fn = none)
include hf hname hb hn
theorem ext_bits64 (he : Extern.find fn = some Extern.MathFloatBits.float64bits) : (Con.det [.flt .f64] [.snap (.int .u64)] (fun _ => True) (fun x => bitsR x.1)).holds P G f := by
  have main : ∀ (w : World) (ok : Nat → Prop) (b : Nat) (vs : List Value), vs = [.float .f64 b] → CallSpec P f vs.toArray w fun v w' => Grows w w' ∧ ResRep w w' ok [.snap (.int .u64)] (bitsR b) v := by
    rintro w ok b _ rfl
    refine .inl ⟨.int .u64 b, w, ?_, Grows.refl w, ResRep.one fun _ => rfl⟩
    rw [run_callFunc_extern hf hname hb hn he]; rfl
  rintro w ok _ ⟨b, ⟨⟩⟩ vs ⟨v, r, rfl, h1, rfl⟩ _ _
  exact main w ok b _ h1
theorem ext_from64 (he : Extern.find fn = some Extern.MathFloatBits.float64frombits) : (Con.det [.int .u64] [.snap (.flt .f64)] (fun _ => True) (fun x => fromR x.1)).holds P G f := by
  have main : ∀ (w : World) (ok : Nat → Prop) (b : Int) (vs : List Value), vs = [.int .u64 b] → CallSpec P f vs.toArray w fun v w' => Grows w w' ∧ ResRep w w' ok [.snap (.flt .f64)] (fromR b) v := by
    rintro w ok b _ rfl
    refine .inl ⟨.float .f64 b.toNat, w, ?_, Grows.refl w, ResRep.one fun _ => rfl⟩
    rw [run_callFunc_extern hf hname hb hn he]; rfl
  rintro w ok _ ⟨b, ⟨⟩⟩ vs ⟨v, r, rfl, h1, rfl⟩ _ _
  exact main w ok b _ h1
theorem ext_sqrt (he : Extern.find fn = some Extern.MathSqrt.sqrt) {ne} : (Con.rel [.flt .f64] [.snap (.flt .f64)] (fun _ => True) (fun x r => sqrtP x.1 r) ne).holds P G f := by
  have main : ∀ (w : World) (ok : Nat → Prop) (b : Nat) (vs : List Value), vs = [.float .f64 b] → CallSpec P f vs.toArray w fun v w' => ∃ r : RS [.snap (.flt .f64)], sqrtP b r ∧ Grows w w' ∧ ResRep w w' ok [.snap (.flt .f64)] r v := by
    rintro w ok b _ rfl
    have e : Extern.MathSqrt.sqrt [Value.float .f64 b].toArray = (match FloatKind.f64.format.sqrt b with
      | some r => pure (.float .f64 r)
      | none => do pure (.float .f64 (← choose (.nanBits .f64 b b)))) := rfl
    have key : ∀ (r : Nat) (w' : World), FRes .f64 (FloatKind.f64.format.sqrt b) r → Grows w w' → (Extern.MathSqrt.sqrt [Value.float .f64 b].toArray).run P w = .ok (.float .f64 r) w' →
        CallSpec P f [Value.float .f64 b].toArray w fun v w' => ∃ r : RS [.snap (.flt .f64)], sqrtP b r ∧ Grows w w' ∧ ResRep w w' ok [.snap (.flt .f64)] r v := by
      intro r w' hr hg hrun
      refine .inl ⟨.float .f64 r, w', ?_, (r, ()), fsqrt hr, hg, ResRep.one fun _ => rfl⟩
      rw [run_callFunc_extern hf hname hb hn he, hrun]; rfl
    cases hs : FloatKind.f64.format.sqrt b with
    | some r => exact key r w (by rw [hs]; rfl) (Grows.refl w) (by rw [e, hs]; rfl)
    | none =>
      refine key ((Question.nanBits .f64 b b).cut (w.tape w.drawn (.nanBits .f64 b b))) w.drew (by rw [hs]; exact nan_cut _ _ _ _) (Grows.drew w) ?_
      have hq : (Question.nanBits .f64 b b).forced = false := rfl
      rw [e, hs]
      simp [hq]
  rintro w ok _ ⟨b, ⟨⟩⟩ vs ⟨v, r, rfl, h1, rfl⟩ _ _
  exact main w ok b _ h1
end
end Go.Lift

set_option linter.unusedVariables false
set_option linter.unusedSimpArgs false
namespace Go.Lift
section
variable {P : Program} {G : Globs} {f : FuncId} {fn : Func} (hf : P.funcs[f]? = some fn) (hname : (fn.name == "runtime.NumGoroutine") = false) (hb : fn.body.isNone = true) (hn : Extern.findNext fn = none)
include hf hname hb hn
theorem ext_floor (he : Extern.find fn = some (Extern.MathFloor.toIntegral "math.archFloor" .down)) : (Con.det [.flt .f64] [.snap (.flt .f64)] (fun x => WNum x.1) (fun x => floorR x.1)).holds P G f := by
  have main : ∀ (w : World) (ok : Nat → Prop) (b : Nat) (vs : List Value), vs = [.float .f64 b] → WNum b → CallSpec P f vs.toArray w fun v w' => Grows w w' ∧ ResRep w w' ok [.snap (.flt .f64)] (floorR b) v := by
    rintro w ok b _ rfl hq
    refine .inl ⟨.float .f64 (floorF b), w, ?_, Grows.refl w, ResRep.one fun _ => rfl⟩
    rw [run_callFunc_extern hf hname hb hn he]
    have e : Extern.MathFloor.toIntegral "math.archFloor" .down [Value.float .f64 b].toArray = pure (.float .f64 (floorF b)) := by
      show (match Ieee.double.read b with
        | .nan s t => _
        | d => pure (Value.float .f64 (FloatKind.f64.encode (d.integral .down)))) = _
      have : (Ieee.double.read b).isNaN = false := (isN_eq b).trans hq.2
      unfold floorF
      cases h : Ieee.double.read b with
      | nan s t => rw [h] at this; cases this
      | number s m e => rfl
      | infinity s => rfl
    rw [e]; rfl
  rintro w ok _ ⟨b, ⟨⟩⟩ vs ⟨v, r, rfl, h1, rfl⟩ _ hp
  exact main w ok b _ h1 hp
end
end Go.Lift

set_option linter.unusedVariables false
set_option linter.unusedSimpArgs false
namespace Go.Lift
open Go.Proofs
theorem Rbh_math_Float64bits : Rbq_math_Float64bits.holds Tryz.prog RbG 120 := by
  refine ext_bits64 (fn := Tryz.f120) Tryz.func120 (by decide) rfl rfl (by kernel_rfl)
theorem Rbh_math_Float64frombits : Rbq_math_Float64frombits.holds Tryz.prog RbG 146 := by
  refine ext_from64 (fn := Tryz.f146) Tryz.func146 (by decide) rfl rfl (by kernel_rfl)
theorem Rbh_math_sqrt : Rbq_math_sqrt.holds Tryz.prog RbG 166 := by
  refine ext_sqrt (fn := Tryz.f166) Tryz.func166 (by decide) rfl rfl (by kernel_rfl)
def Rbx_bits_quiet : Cx := ⟨tabOf Rbtab, conOf [(146, Rbq_math_Float64frombits)], RbG⟩
theorem Rbx_bits_quiet_ok : CxOk Tryz.prog Rbx_bits_quiet := ⟨tabB_sound Rbtab_ok, conOf_sound ⟨Rbh_math_Float64frombits, trivial⟩⟩
theorem Rbat_bits_quiet : FnAt Tryz.prog 119 Tryz.f119.ntmps Tryz.f119.results.toList (Tryz.f119.body.getD .skip) := ⟨Tryz.f119, Tryz.func119, rfl, rfl, by simp, by decide⟩
theorem Rbeq_bits_quiet  (post : Nat × Unit → Prop) : fnEval Rbx_bits_quiet nHn Tryz.f119.ntmps Tryz.f119.results.toList (Tryz.f119.body.getD .skip) [] [.snap (.flt .f64)] (()) post = Fx_bits_quiet   post := by kernel_rfl
theorem Rbh_bits_quiet : Rbq_bits_quiet.holds Tryz.prog RbG 119 :=
  detP Rbx_bits_quiet_ok Rbmixed nHn Rbat_bits_quiet (F := fun x post => Fx_bits_quiet   post) (fun x post => Rbeq_bits_quiet  post) fun x _ _ => Lx_bits_quiet
def Rbx_math_Abs : Cx := ⟨tabOf Rbtab, conOf [(120, Rbq_math_Float64bits), (146, Rbq_math_Float64frombits)], RbG⟩
theorem Rbx_math_Abs_ok : CxOk Tryz.prog Rbx_math_Abs := ⟨tabB_sound Rbtab_ok, conOf_sound ⟨Rbh_math_Float64bits, Rbh_math_Float64frombits, trivial⟩⟩
theorem Rbat_math_Abs : FnAt Tryz.prog 151 Tryz.f151.ntmps Tryz.f151.results.toList (Tryz.f151.body.getD .skip) := ⟨Tryz.f151, Tryz.func151, rfl, rfl, by simp, by decide⟩
theorem Rbeq_math_Abs (a : Nat) (post : Nat × Unit → Prop) : fnEval Rbx_math_Abs nHn Tryz.f151.ntmps Tryz.f151.results.toList (Tryz.f151.body.getD .skip) [.flt .f64] [.snap (.flt .f64)] (a, ()) post = Fx_math_Abs  a post := by kernel_rfl
theorem Rbh_math_Abs : Rbq_math_Abs.holds Tryz.prog RbG 151 :=
  detP Rbx_math_Abs_ok Rbmixed nHn Rbat_math_Abs (F := fun x post => Fx_math_Abs  x.1 post) (fun x post => Rbeq_math_Abs x.1 post) fun x h _ => Lx_math_Abs  x.1 h
def Rbx_math_IsNaN : Cx := ⟨tabOf Rbtab, conOf [], RbG⟩
theorem Rbx_math_IsNaN_ok : CxOk Tryz.prog Rbx_math_IsNaN := ⟨tabB_sound Rbtab_ok, fun f c h => by cases h⟩
theorem Rbat_math_IsNaN : FnAt Tryz.prog 197 Tryz.f197.ntmps Tryz.f197.results.toList (Tryz.f197.body.getD .skip) := ⟨Tryz.f197, Tryz.func197, rfl, rfl, by simp, by decide⟩
theorem Rbeq_math_IsNaN (a : Nat) (post : Bool × Unit → Prop) : fnEval Rbx_math_IsNaN nHn Tryz.f197.ntmps Tryz.f197.results.toList (Tryz.f197.body.getD .skip) [.flt .f64] [.snap .bool] (a, ()) post = Fx_math_IsNaN  a post := by kernel_rfl
theorem Rbh_math_IsNaN : Rbq_math_IsNaN.holds Tryz.prog RbG 197 :=
  detP Rbx_math_IsNaN_ok Rbmixed nHn Rbat_math_IsNaN (F := fun x post => Fx_math_IsNaN  x.1 post) (fun x post => Rbeq_math_IsNaN x.1 post) fun x _ _ => Lx_math_IsNaN  x.1
def Rbx_bits_Canon : Cx := ⟨tabOf Rbtab, conOf [(119, Rbq_bits_quiet)], RbG⟩
theorem Rbx_bits_Canon_ok : CxOk Tryz.prog Rbx_bits_Canon := ⟨tabB_sound Rbtab_ok, conOf_sound ⟨Rbh_bits_quiet, trivial⟩⟩
theorem Rbat_bits_Canon : FnAt Tryz.prog 88 Tryz.f88.ntmps Tryz.f88.results.toList (Tryz.f88.body.getD .skip) := ⟨Tryz.f88, Tryz.func88, rfl, rfl, by simp, by decide⟩
theorem Rbeq_bits_Canon (a : Nat) (post : Nat × Unit → Prop) : fnEval Rbx_bits_Canon nHn Tryz.f88.ntmps Tryz.f88.results.toList (Tryz.f88.body.getD .skip) [.flt .f64] [.snap (.flt .f64)] (a, ()) post = Fx_bits_Canon  a post := by kernel_rfl
theorem Rbh_bits_Canon : Rbq_bits_Canon.holds Tryz.prog RbG 88 :=
  detP Rbx_bits_Canon_ok Rbmixed nHn Rbat_bits_Canon (F := fun x post => Fx_bits_Canon  x.1 post) (fun x post => Rbeq_bits_Canon x.1 post) fun x _ _ => Lx_bits_Canon  x.1
def Rbx_sum_quiet : Cx := ⟨tabOf Rbtab, conOf [(197, Rbq_math_IsNaN), (146, Rbq_math_Float64frombits)], RbG⟩
theorem Rbx_sum_quiet_ok : CxOk Tryz.prog Rbx_sum_quiet := ⟨tabB_sound Rbtab_ok, conOf_sound ⟨Rbh_math_IsNaN, Rbh_math_Float64frombits, trivial⟩⟩
theorem Rbat_sum_quiet : FnAt Tryz.prog 182 Tryz.f182.ntmps Tryz.f182.results.toList (Tryz.f182.body.getD .skip) := ⟨Tryz.f182, Tryz.func182, rfl, rfl, by simp, by decide⟩
theorem Rbeq_sum_quiet (a : Nat) (post : Nat × Unit → Prop) : fnEval Rbx_sum_quiet nHn Tryz.f182.ntmps Tryz.f182.results.toList (Tryz.f182.body.getD .skip) [.flt .f64] [.snap (.flt .f64)] (a, ()) post = Fx_sum_quiet  a post := by kernel_rfl
theorem Rbh_sum_quiet : Rbq_sum_quiet.holds Tryz.prog RbG 182 :=
  detP Rbx_sum_quiet_ok Rbmixed nHn Rbat_sum_quiet (F := fun x post => Fx_sum_quiet  x.1 post) (fun x post => Rbeq_sum_quiet x.1 post) fun x _ _ => Lx_sum_quiet  x.1
def Rbx_sum_magnitude : Cx := ⟨tabOf Rbtab, conOf [(120, Rbq_math_Float64bits)], RbG⟩
theorem Rbx_sum_magnitude_ok : CxOk Tryz.prog Rbx_sum_magnitude := ⟨tabB_sound Rbtab_ok, conOf_sound ⟨Rbh_math_Float64bits, trivial⟩⟩
theorem Rbat_sum_magnitude : FnAt Tryz.prog 170 Tryz.f170.ntmps Tryz.f170.results.toList (Tryz.f170.body.getD .skip) := ⟨Tryz.f170, Tryz.func170, rfl, rfl, by simp, by decide⟩
theorem Rbeq_sum_magnitude (a : Nat) (post : Int × Unit → Prop) : fnEval Rbx_sum_magnitude nHn Tryz.f170.ntmps Tryz.f170.results.toList (Tryz.f170.body.getD .skip) [.flt .f64] [.snap (.int .u64)] (a, ()) post = Fx_sum_magnitude  a post := by kernel_rfl
theorem Rbh_sum_magnitude : Rbq_sum_magnitude.holds Tryz.prog RbG 170 :=
  detP Rbx_sum_magnitude_ok Rbmixed nHn Rbat_sum_magnitude (F := fun x post => Fx_sum_magnitude  x.1 post) (fun x post => Rbeq_sum_magnitude x.1 post) fun x h _ => Lx_sum_magnitude  x.1 h
def Rbx_bits_place : Cx := ⟨tabOf Rbtab, conOf [(120, Rbq_math_Float64bits)], RbG⟩
theorem Rbx_bits_place_ok : CxOk Tryz.prog Rbx_bits_place := ⟨tabB_sound Rbtab_ok, conOf_sound ⟨Rbh_math_Float64bits, trivial⟩⟩
theorem Rbat_bits_place : FnAt Tryz.prog 118 Tryz.f118.ntmps Tryz.f118.results.toList (Tryz.f118.body.getD .skip) := ⟨Tryz.f118, Tryz.func118, rfl, rfl, by simp, by decide⟩
theorem Rbeq_bits_place (a : Nat) (post : Int × Unit → Prop) : fnEval Rbx_bits_place nHn Tryz.f118.ntmps Tryz.f118.results.toList (Tryz.f118.body.getD .skip) [.flt .f64] [.snap (.int .u64)] (a, ()) post = Fx_bits_place  a post := by kernel_rfl
theorem Rbh_bits_place : Rbq_bits_place.holds Tryz.prog RbG 118 :=
  detP Rbx_bits_place_ok Rbmixed nHn Rbat_bits_place (F := fun x post => Fx_bits_place  x.1 post) (fun x post => Rbeq_bits_place x.1 post) fun x h _ => Lx_bits_place  x.1 h
def Rbx_cmp_isNaN_uint64 : Cx := ⟨tabOf Rbtab, conOf [], RbG⟩
theorem Rbx_cmp_isNaN_uint64_ok : CxOk Tryz.prog Rbx_cmp_isNaN_uint64 := ⟨tabB_sound Rbtab_ok, fun f c h => by cases h⟩
theorem Rbat_cmp_isNaN_uint64 : FnAt Tryz.prog 145 Tryz.f145.ntmps Tryz.f145.results.toList (Tryz.f145.body.getD .skip) := ⟨Tryz.f145, Tryz.func145, rfl, rfl, by simp, by decide⟩
theorem Rbeq_cmp_isNaN_uint64 (a : Int) (post : Bool × Unit → Prop) : fnEval Rbx_cmp_isNaN_uint64 nHn Tryz.f145.ntmps Tryz.f145.results.toList (Tryz.f145.body.getD .skip) [.int .u64] [.snap .bool] (a, ()) post = Fx_cmp_isNaN_uint64  a post := by kernel_rfl
theorem Rbh_cmp_isNaN_uint64 : Rbq_cmp_isNaN_uint64.holds Tryz.prog RbG 145 :=
  detP Rbx_cmp_isNaN_uint64_ok Rbmixed nHn Rbat_cmp_isNaN_uint64 (F := fun x post => Fx_cmp_isNaN_uint64  x.1 post) (fun x post => Rbeq_cmp_isNaN_uint64 x.1 post) fun x _ _ => Lx_cmp_isNaN_uint64  x.1
def Rbx_cmp_Compare_uint64 : Cx := ⟨tabOf Rbtab, conOf [(145, Rbq_cmp_isNaN_uint64)], RbG⟩
theorem Rbx_cmp_Compare_uint64_ok : CxOk Tryz.prog Rbx_cmp_Compare_uint64 := ⟨tabB_sound Rbtab_ok, conOf_sound ⟨Rbh_cmp_isNaN_uint64, trivial⟩⟩
theorem Rbat_cmp_Compare_uint64 : FnAt Tryz.prog 117 Tryz.f117.ntmps Tryz.f117.results.toList (Tryz.f117.body.getD .skip) := ⟨Tryz.f117, Tryz.func117, rfl, rfl, by simp, by decide⟩
theorem Rbeq_cmp_Compare_uint64 (a : Int) (b : Int) (post : Int × Unit → Prop) : fnEval Rbx_cmp_Compare_uint64 nHn Tryz.f117.ntmps Tryz.f117.results.toList (Tryz.f117.body.getD .skip) [.int .u64, .int .u64] [.snap (.int .i64)] (a, b, ()) post = Fx_cmp_Compare_uint64  a b post := by kernel_rfl
theorem Rbh_cmp_Compare_uint64 : Rbq_cmp_Compare_uint64.holds Tryz.prog RbG 117 :=
  detP Rbx_cmp_Compare_uint64_ok Rbmixed nHn Rbat_cmp_Compare_uint64 (F := fun x post => Fx_cmp_Compare_uint64  x.1 x.2.1 post) (fun x post => Rbeq_cmp_Compare_uint64 x.1 x.2.1 post) fun x _ _ => Lx_cmp_Compare_uint64  x.1 x.2.1
def Rbx_bits_Order : Cx := ⟨tabOf Rbtab, conOf [(118, Rbq_bits_place), (117, Rbq_cmp_Compare_uint64)], RbG⟩
theorem Rbx_bits_Order_ok : CxOk Tryz.prog Rbx_bits_Order := ⟨tabB_sound Rbtab_ok, conOf_sound ⟨Rbh_bits_place, Rbh_cmp_Compare_uint64, trivial⟩⟩
theorem Rbat_bits_Order : FnAt Tryz.prog 87 Tryz.f87.ntmps Tryz.f87.results.toList (Tryz.f87.body.getD .skip) := ⟨Tryz.f87, Tryz.func87, rfl, rfl, by simp, by decide⟩
theorem Rbeq_bits_Order (a : Nat) (b : Nat) (post : Int × Unit → Prop) : fnEval Rbx_bits_Order nHn Tryz.f87.ntmps Tryz.f87.results.toList (Tryz.f87.body.getD .skip) [.flt .f64, .flt .f64] [.snap (.int .i64)] (a, b, ()) post = Fx_bits_Order  a b post := by kernel_rfl
theorem Rbh_bits_Order : Rbq_bits_Order.holds Tryz.prog RbG 87 :=
  detP Rbx_bits_Order_ok Rbmixed nHn Rbat_bits_Order (F := fun x post => Fx_bits_Order  x.1 x.2.1 post) (fun x post => Rbeq_bits_Order x.1 x.2.1 post) fun x h _ => Lx_bits_Order  x.1 x.2.1 h
def Rbx_cmp_Or_int : Cx := ⟨tabOf Rbtab, conOf [], RbG⟩
theorem Rbx_cmp_Or_int_ok : CxOk Tryz.prog Rbx_cmp_Or_int := ⟨tabB_sound Rbtab_ok, fun f c h => by cases h⟩
theorem Rbat_cmp_Or_int : FnAt Tryz.prog 169 Tryz.f169.ntmps Tryz.f169.results.toList (Tryz.f169.body.getD .skip) := ⟨Tryz.f169, Tryz.func169, rfl, rfl, by simp, by decide⟩
theorem Rbeq_cmp_Or_int (a : List Int) (post : Int × Unit → Prop) : fnEval Rbx_cmp_Or_int Rbhn_cmp_Or_int Tryz.f169.ntmps Tryz.f169.results.toList (Tryz.f169.body.getD .skip) [.slice (.int .i64)] [.snap (.int .i64)] (a, ()) post = Fx_cmp_Or_int  a post := by kernel_rfl
theorem Rbh_cmp_Or_int : Rbq_cmp_Or_int.holds Tryz.prog RbG 169 :=
  detP Rbx_cmp_Or_int_ok Rbmixed Rbhn_cmp_Or_int Rbat_cmp_Or_int (F := fun x post => Fx_cmp_Or_int  x.1 post) (fun x post => Rbeq_cmp_Or_int x.1 post) fun x _ w => Lx_cmp_Or_int  x.1 w
def Rbx_sum_Three_c1 : Cx := ⟨tabOf Rbtab, conOf [(170, Rbq_sum_magnitude), (117, Rbq_cmp_Compare_uint64), (87, Rbq_bits_Order), (169, Rbq_cmp_Or_int)], RbG⟩
theorem Rbx_sum_Three_c1_ok : CxOk Tryz.prog Rbx_sum_Three_c1 := ⟨tabB_sound Rbtab_ok, conOf_sound ⟨Rbh_sum_magnitude, Rbh_cmp_Compare_uint64, Rbh_bits_Order, Rbh_cmp_Or_int, trivial⟩⟩
theorem Rbat_sum_Three_c1 : FnAt Tryz.prog 168 Tryz.f168.ntmps Tryz.f168.results.toList (Tryz.f168.body.getD .skip) := ⟨Tryz.f168, Tryz.func168, rfl, rfl, by simp, by decide⟩
theorem Rbeq_sum_Three_c1 (a : Nat) (b : Nat) (post : Int × Unit → Prop) : fnEval Rbx_sum_Three_c1 nHn Tryz.f168.ntmps Tryz.f168.results.toList (Tryz.f168.body.getD .skip) [.flt .f64, .flt .f64] [.snap (.int .i64)] (a, b, ()) post = Fx_sum_Three_c1  a b post := by kernel_rfl
theorem Rbh_sum_Three_c1 : Rbq_sum_Three_c1.holds Tryz.prog RbG 168 :=
  detP Rbx_sum_Three_c1_ok Rbmixed nHn Rbat_sum_Three_c1 (F := fun x post => Fx_sum_Three_c1  x.1 x.2.1 post) (fun x post => Rbeq_sum_Three_c1 x.1 x.2.1 post) fun x h _ => Lx_sum_Three_c1  x.1 x.2.1 h
def Rbx_math_IsInf : Cx := ⟨tabOf Rbtab, conOf [(151, Rbq_math_Abs)], RbG⟩
theorem Rbx_math_IsInf_ok : CxOk Tryz.prog Rbx_math_IsInf := ⟨tabB_sound Rbtab_ok, conOf_sound ⟨Rbh_math_Abs, trivial⟩⟩
theorem Rbat_math_IsInf : FnAt Tryz.prog 173 Tryz.f173.ntmps Tryz.f173.results.toList (Tryz.f173.body.getD .skip) := ⟨Tryz.f173, Tryz.func173, rfl, rfl, by simp, by decide⟩
theorem Rbeq_math_IsInf (a : Nat) (b : Int) (post : Bool × Unit → Prop) : fnEval Rbx_math_IsInf nHn Tryz.f173.ntmps Tryz.f173.results.toList (Tryz.f173.body.getD .skip) [.flt .f64, .int .i64] [.snap .bool] (a, b, ()) post = Fx_math_IsInf  a b post := by kernel_rfl
theorem Rbh_math_IsInf : Rbq_math_IsInf.holds Tryz.prog RbG 173 :=
  detP Rbx_math_IsInf_ok Rbmixed nHn Rbat_math_IsInf (F := fun x post => Fx_math_IsInf  x.1 x.2.1 post) (fun x post => Rbeq_math_IsInf x.1 x.2.1 post) fun x h _ => Lx_math_IsInf  x.1 x.2.1 h
end Go.Lift

set_option linter.unusedVariables false
set_option linter.unusedSimpArgs false
namespace Go.Lift
open Go.Proofs
def Rbx_sum_row : Cx := ⟨tabOf Rbtab, conOf [(182, Rbq_sum_quiet)], RbG⟩
theorem Rbx_sum_row_ok : CxOk Tryz.prog Rbx_sum_row := ⟨tabB_sound Rbtab_ok, conOf_sound ⟨Rbh_sum_quiet, trivial⟩⟩
theorem Rbat_sum_row : FnAt Tryz.prog 171 Tryz.f171.ntmps Tryz.f171.results.toList (Tryz.f171.body.getD .skip) := ⟨Tryz.f171, Tryz.func171, rfl, rfl, by simp, by decide⟩
theorem Rbeq_sum_row (a : List Nat) (post : Nat × Unit → Prop) : fnEval Rbx_sum_row Rbhn_sum_row Tryz.f171.ntmps Tryz.f171.results.toList (Tryz.f171.body.getD .skip) [.slice (.flt .f64)] [.snap (.flt .f64)] (a, ()) post = Fx_sum_row  a post := by kernel_rfl
theorem Rbh_sum_row : Rbq_sum_row.holds Tryz.prog RbG 171 :=
  detP Rbx_sum_row_ok Rbmixed Rbhn_sum_row Rbat_sum_row (F := fun x post => Fx_sum_row  x.1 post) (fun x post => Rbeq_sum_row x.1 post) fun x h w => Lx_sum_row  x.1 h w
def Rbx_mbits_Len64 : Cx := ⟨tabOf Rbtab, fun _ => none, RbG⟩
theorem Rbx_mbits_Len64_ok : CxOk Tryz.prog Rbx_mbits_Len64 := ⟨tabB_sound Rbtab_ok, fun f c h => by cases h⟩
theorem Rbat_mbits_Len64 : FnAt Tryz.prog 147 Tryz.f147.ntmps Tryz.f147.results.toList (Tryz.f147.body.getD .skip) := ⟨Tryz.f147, Tryz.func147, rfl, rfl, by simp, by decide⟩
theorem Rbeq_mbits_Len64 (post : Int × Unit → Prop) : fnEval Rbx_mbits_Len64 noHn Tryz.f147.ntmps Tryz.f147.results.toList (Tryz.f147.body.getD .skip) [.int .u64] [.snap (.int .i64)] ((3 : Int), ()) post = (∃ (h : (0 : Int) ≤ (3 : Int) ∧ (3 : Int) < (256 : Int)), post ((2 : Int), ())) := by kernel_rfl
theorem Rbh_mbits_Len64 : Rbq_mbits_Len64.holds Tryz.prog RbG 147 := by
  refine det_holds Rbx_mbits_Len64_ok Rbmixed noHn Rbat_mbits_Len64 ?_
  rintro ⟨a, ⟨⟩⟩ h
  have h : a = (3 : Int) := h
  subst h
  exact (Rbeq_mbits_Len64 _).mpr ⟨by decide, rfl⟩
def Rbx_mbits_Len : Cx := ⟨tabOf Rbtab, conOf [(147, Rbq_mbits_Len64)], RbG⟩
theorem Rbx_mbits_Len_ok : CxOk Tryz.prog Rbx_mbits_Len := ⟨tabB_sound Rbtab_ok, conOf_sound ⟨Rbh_mbits_Len64, trivial⟩⟩
theorem Rbat_mbits_Len : FnAt Tryz.prog 181 Tryz.f181.ntmps Tryz.f181.results.toList (Tryz.f181.body.getD .skip) := ⟨Tryz.f181, Tryz.func181, rfl, rfl, by simp, by decide⟩
theorem Rbeq_mbits_Len (post : Int × Unit → Prop) : fnEval Rbx_mbits_Len noHn Tryz.f181.ntmps Tryz.f181.results.toList (Tryz.f181.body.getD .skip) [.int .u64] [.snap (.int .i64)] ((3 : Int), ()) post = (∃ (h : IsThree 3), post ((2 : Int), ())) := by kernel_rfl
theorem Rbh_mbits_Len : Rbq_mbits_Len.holds Tryz.prog RbG 181 := by
  refine det_holds Rbx_mbits_Len_ok Rbmixed noHn Rbat_mbits_Len ?_
  rintro ⟨a, ⟨⟩⟩ h
  have h : a = (3 : Int) := h
  subst h
  exact (Rbeq_mbits_Len _).mpr ⟨rfl, rfl⟩
def Rbx_sum_Three : Cx := ⟨tabOf Rbtab, conOf [(168, Rbq_sum_Three_c1), (171, Rbq_sum_row), (181, Rbq_mbits_Len)], RbG⟩
theorem Rbx_sum_Three_ok : CxOk Tryz.prog Rbx_sum_Three := ⟨tabB_sound Rbtab_ok, conOf_sound ⟨Rbh_sum_Three_c1, Rbh_sum_row, Rbh_mbits_Len, trivial⟩⟩
theorem Rbat_sum_Three : FnAt Tryz.prog 149 Tryz.f149.ntmps Tryz.f149.results.toList (Tryz.f149.body.getD .skip) := ⟨Tryz.f149, Tryz.func149, rfl, rfl, by simp, by decide⟩
theorem Rbeq_sum_Three (a : Nat) (b : Nat) (c : Nat) (post : Nat × Unit → Prop) : fnEvalI Rbx_sum_Three Rbhn_sum_Three (callLvl Rbx_sum_Three Rbfns_sort3 5) Tryz.f149.ntmps Tryz.f149.results.toList (Tryz.f149.body.getD .skip) [.flt .f64, .flt .f64, .flt .f64] [.snap (.flt .f64)] (a, b, c, ()) post = Fx_sum_Three  a b c post := by kernel_rfl
theorem Rbh_sum_Three : Rbq_sum_Three.holds Tryz.prog RbG 149 :=
  detPI Rbx_sum_Three_ok Rbmixed Rbhn_sum_Three (callLvl_ok Rbx_sum_Three_ok Rbmixed Rbfns_sort3_ok 5) Rbat_sum_Three (F := fun x post => Fx_sum_Three  x.1 x.2.1 x.2.2.1 post) (fun x post => Rbeq_sum_Three x.1 x.2.1 x.2.2.1 post) fun x h _ => Lx_sum_Three  x.1 x.2.1 x.2.2.1 h
end Go.Lift

set_option linter.unusedVariables false
set_option linter.unusedSimpArgs false
namespace Go.Lift
open Go.Proofs
def Rbx_mbits_Mul64 : Cx := ⟨tabOf Rbtab, conOf [], RbG⟩
theorem Rbx_mbits_Mul64_ok : CxOk Tryz.prog Rbx_mbits_Mul64 := ⟨tabB_sound Rbtab_ok, fun f c h => by cases h⟩
theorem Rbat_mbits_Mul64 : FnAt Tryz.prog 91 Tryz.f91.ntmps Tryz.f91.results.toList (Tryz.f91.body.getD .skip) := ⟨Tryz.f91, Tryz.func91, rfl, rfl, by simp, by decide⟩
theorem Rbeq_mbits_Mul64 (a : Int) (b : Int) (post : Int × Int × Unit → Prop) : fnEval Rbx_mbits_Mul64 nHn Tryz.f91.ntmps Tryz.f91.results.toList (Tryz.f91.body.getD .skip) [.int .u64, .int .u64] [.snap (.int .u64), .snap (.int .u64)] (a, b, ()) post = Fx_mbits_Mul64  a b post := by kernel_rfl
theorem Rbh_mbits_Mul64 : Rbq_mbits_Mul64.holds Tryz.prog RbG 91 :=
  detP Rbx_mbits_Mul64_ok Rbmixed nHn Rbat_mbits_Mul64 (F := fun x post => Fx_mbits_Mul64  x.1 x.2.1 post) (fun x post => Rbeq_mbits_Mul64 x.1 x.2.1 post) fun x h _ => Lx_mbits_Mul64  x.1 x.2.1 h
def Rbx_ref14_product : Cx := ⟨tabOf Rbtab, conOf [], RbG⟩
theorem Rbx_ref14_product_ok : CxOk Tryz.prog Rbx_ref14_product := ⟨tabB_sound Rbtab_ok, fun f c h => by cases h⟩
theorem Rbat_ref14_product : FnAt Tryz.prog 110 Tryz.f110.ntmps Tryz.f110.results.toList (Tryz.f110.body.getD .skip) := ⟨Tryz.f110, Tryz.func110, rfl, rfl, by simp, by decide⟩
theorem Rbeq_ref14_product (a : Int) (b : Int) (post : Int × Int × Unit → Prop) : fnEval Rbx_ref14_product nHn Tryz.f110.ntmps Tryz.f110.results.toList (Tryz.f110.body.getD .skip) [.int .u64, .int .u64] [.snap (.int .u64), .snap (.int .u64)] (a, b, ()) post = Fx_ref14_product  a b post := by kernel_rfl
theorem Rbh_ref14_product : Rbq_ref14_product.holds Tryz.prog RbG 110 :=
  detP Rbx_ref14_product_ok Rbmixed nHn Rbat_ref14_product (F := fun x post => Fx_ref14_product  x.1 x.2.1 post) (fun x post => Rbeq_ref14_product x.1 x.2.1 post) fun x h _ => Lx_ref14_product  x.1 x.2.1 h
def Rby_len : Cx := ⟨tabOf Rbtab, fun _ => none, RbG⟩
theorem Rby_len_ok : CxOk Tryz.prog Rby_len := ⟨tabB_sound Rbtab_ok, fun f c h => by cases h⟩
def Rbq_len64 : Con := .det [.int .u64] [.snap (.int .i64)] (fun x => U64 x.1) (fun x => (len64 x.1, ()))
theorem Rbat_len64 : FnAt Tryz.prog 147 Tryz.f147.ntmps Tryz.f147.results.toList (Tryz.f147.body.getD .skip) := ⟨Tryz.f147, Tryz.func147, rfl, rfl, by simp, by decide⟩
theorem Rbeq_len64 (a : Int) (post : Int × Unit → Prop) : fnEval Rby_len noHnP Tryz.f147.ntmps Tryz.f147.results.toList (Tryz.f147.body.getD .skip) [.int .u64] [.snap (.int .i64)] (a, ()) post = F22 a post := by kernel_rfl
theorem Rbh_len64 : Rbq_len64.holds Tryz.prog RbG 147 := detP Rby_len_ok Rbmixed noHnP Rbat_len64 (F := fun x post => F22 x.1 post) (fun x post => Rbeq_len64 x.1 post) fun x h _ => len64_eval h.1 h.2 rfl
def Rbx_mbits_LeadingZeros64 : Cx := ⟨tabOf Rbtab, conOf [(147, Rbq_len64)], RbG⟩
theorem Rbx_mbits_LeadingZeros64_ok : CxOk Tryz.prog Rbx_mbits_LeadingZeros64 := ⟨tabB_sound Rbtab_ok, conOf_sound ⟨Rbh_len64, trivial⟩⟩
theorem Rbat_mbits_LeadingZeros64 : FnAt Tryz.prog 121 Tryz.f121.ntmps Tryz.f121.results.toList (Tryz.f121.body.getD .skip) := ⟨Tryz.f121, Tryz.func121, rfl, rfl, by simp, by decide⟩
theorem Rbeq_mbits_LeadingZeros64 (a : Int) (post : Int × Unit → Prop) : fnEval Rbx_mbits_LeadingZeros64 noHnP Tryz.f121.ntmps Tryz.f121.results.toList (Tryz.f121.body.getD .skip) [.int .u64] [.snap (.int .i64)] (a, ()) post = F21 a post := by kernel_rfl
theorem Rbh_mbits_LeadingZeros64 : Rbq_mbits_LeadingZeros64.holds Tryz.prog RbG 121 := detP Rbx_mbits_LeadingZeros64_ok Rbmixed noHnP Rbat_mbits_LeadingZeros64 (F := fun x post => F21 x.1 post) (fun x post => Rbeq_mbits_LeadingZeros64 x.1 post) fun x h _ => lz_eval h
def Rbx_mbits_Div64 : Cx := ⟨tabOf Rbtab, conOf [(121, Rbq_mbits_LeadingZeros64)], RbG⟩
theorem Rbx_mbits_Div64_ok : CxOk Tryz.prog Rbx_mbits_Div64 := ⟨tabB_sound Rbtab_ok, conOf_sound ⟨Rbh_mbits_LeadingZeros64, trivial⟩⟩
theorem Rbat_mbits_Div64 : FnAt Tryz.prog 92 Tryz.f92.ntmps Tryz.f92.results.toList (Tryz.f92.body.getD .skip) := ⟨Tryz.f92, Tryz.func92, rfl, rfl, by simp, by decide⟩
theorem Rbeq_mbits_Div64 (a : Int) (b : Int) (c : Int) (post : Int × Int × Unit → Prop) : fnEval Rbx_mbits_Div64 Rbhn_mbits_Div64 Tryz.f92.ntmps Tryz.f92.results.toList (Tryz.f92.body.getD .skip) [.int .u64, .int .u64, .int .u64] [.snap (.int .u64), .snap (.int .u64)] (a, b, c, ()) post = Fx_mbits_Div64  a b c post := by kernel_rfl
theorem Rbh_mbits_Div64 : Rbq_mbits_Div64.holds Tryz.prog RbG 92 :=
  detP Rbx_mbits_Div64_ok Rbmixed Rbhn_mbits_Div64 Rbat_mbits_Div64 (F := fun x post => Fx_mbits_Div64  x.1 x.2.1 x.2.2.1 post) (fun x post => Rbeq_mbits_Div64 x.1 x.2.1 x.2.2.1 post) fun x h _ => Lx_mbits_Div64  x.1 x.2.1 x.2.2.1 h
def Rbx_share_Part : Cx := ⟨tabOf Rbtab, conOf [(91, Rbq_mbits_Mul64), (92, Rbq_mbits_Div64)], RbG⟩
theorem Rbx_share_Part_ok : CxOk Tryz.prog Rbx_share_Part := ⟨tabB_sound Rbtab_ok, conOf_sound ⟨Rbh_mbits_Mul64, Rbh_mbits_Div64, trivial⟩⟩
theorem Rbat_share_Part : FnAt Tryz.prog 44 Tryz.f44.ntmps Tryz.f44.results.toList (Tryz.f44.body.getD .skip) := ⟨Tryz.f44, Tryz.func44, rfl, rfl, by simp, by decide⟩
theorem Rbeq_share_Part (a : Int) (b : Int) (c : Int) (post : Int × Unit → Prop) : fnEval Rbx_share_Part Rbhn_share_Part Tryz.f44.ntmps Tryz.f44.results.toList (Tryz.f44.body.getD .skip) [.int .i64, .int .i64, .int .i64] [.snap (.int .i64)] (a, b, c, ()) post = Fx_share_Part  a b c post := by kernel_rfl
theorem Rbh_share_Part : Rbq_share_Part.holds Tryz.prog RbG 44 :=
  detP Rbx_share_Part_ok Rbmixed Rbhn_share_Part Rbat_share_Part (F := fun x post => Fx_share_Part  x.1 x.2.1 x.2.2.1 post) (fun x post => Rbeq_share_Part x.1 x.2.1 x.2.2.1 post) fun x h _ => Lx_share_Part  x.1 x.2.1 x.2.2.1 h
def Rbx_ref14_Part : Cx := ⟨tabOf Rbtab, conOf [(110, Rbq_ref14_product)], RbG⟩
theorem Rbx_ref14_Part_ok : CxOk Tryz.prog Rbx_ref14_Part := ⟨tabB_sound Rbtab_ok, conOf_sound ⟨Rbh_ref14_product, trivial⟩⟩
theorem Rbat_ref14_Part : FnAt Tryz.prog 70 Tryz.f70.ntmps Tryz.f70.results.toList (Tryz.f70.body.getD .skip) := ⟨Tryz.f70, Tryz.func70, rfl, rfl, by simp, by decide⟩
theorem Rbeq_ref14_Part (a : Int) (b : Int) (c : Int) (post : Int × Unit → Prop) : fnEval Rbx_ref14_Part Rbhn_ref14_Part Tryz.f70.ntmps Tryz.f70.results.toList (Tryz.f70.body.getD .skip) [.int .i64, .int .i64, .int .i64] [.snap (.int .i64)] (a, b, c, ()) post = Fx_ref14_Part  a b c post := by kernel_rfl
theorem Rbh_ref14_Part : Rbq_ref14_Part.holds Tryz.prog RbG 70 :=
  detP Rbx_ref14_Part_ok Rbmixed Rbhn_ref14_Part Rbat_ref14_Part (F := fun x post => Fx_ref14_Part  x.1 x.2.1 x.2.2.1 post) (fun x post => Rbeq_ref14_Part x.1 x.2.1 x.2.2.1 post) fun x h _ => Lx_ref14_Part  x.1 x.2.1 x.2.2.1 h
end Go.Lift

set_option linter.unusedVariables false
set_option linter.unusedSimpArgs false
namespace Go.Lift
open Go.Proofs
def Rbx_tracer_Takes : Cx := ⟨tabOf Rbtab, conOf [(44, Rbq_share_Part)], RbG⟩
theorem Rbx_tracer_Takes_ok : CxOk Tryz.prog Rbx_tracer_Takes := ⟨tabB_sound Rbtab_ok, conOf_sound ⟨Rbh_share_Part, trivial⟩⟩
theorem Rbat_tracer_Takes : FnAt Tryz.prog 51 Tryz.f51.ntmps Tryz.f51.results.toList (Tryz.f51.body.getD .skip) := ⟨Tryz.f51, Tryz.func51, rfl, rfl, by simp, by decide⟩
theorem Rbeq_tracer_Takes (a : Int) (b : Int) (c : List Int) (post : (List Int) × Int × Unit → Prop) : fnEval Rbx_tracer_Takes Rbhn_tracer_Takes Tryz.f51.ntmps Tryz.f51.results.toList (Tryz.f51.body.getD .skip) [.int .i64, .int .i64, .slice (.int .i64)] [.own 2 (.int .i64), .snap (.int .i64)] (a, b, c, ()) post = Fx_tracer_Takes 2 a b c post := by kernel_rfl
theorem Rbh_tracer_Takes : Rbq_tracer_Takes.holds Tryz.prog RbG 51 :=
  detP Rbx_tracer_Takes_ok Rbmixed Rbhn_tracer_Takes Rbat_tracer_Takes (F := fun x post => Fx_tracer_Takes 2 x.1 x.2.1 x.2.2.1 post) (fun x post => Rbeq_tracer_Takes x.1 x.2.1 x.2.2.1 post) fun x h _ => Lx_tracer_Takes 2 x.1 x.2.1 x.2.2.1 h
def Rbx_ref17_Takes : Cx := ⟨tabOf Rbtab, conOf [(70, Rbq_ref14_Part)], RbG⟩
theorem Rbx_ref17_Takes_ok : CxOk Tryz.prog Rbx_ref17_Takes := ⟨tabB_sound Rbtab_ok, conOf_sound ⟨Rbh_ref14_Part, trivial⟩⟩
theorem Rbat_ref17_Takes : FnAt Tryz.prog 53 Tryz.f53.ntmps Tryz.f53.results.toList (Tryz.f53.body.getD .skip) := ⟨Tryz.f53, Tryz.func53, rfl, rfl, by simp, by decide⟩
theorem Rbeq_ref17_Takes (a : Int) (b : Int) (c : List Int) (post : (List Int) × Int × Unit → Prop) : fnEval Rbx_ref17_Takes Rbhn_ref17_Takes Tryz.f53.ntmps Tryz.f53.results.toList (Tryz.f53.body.getD .skip) [.int .i64, .int .i64, .slice (.int .i64)] [.own 2 (.int .i64), .snap (.int .i64)] (a, b, c, ()) post = Fx_ref17_Takes  a b c post := by kernel_rfl
theorem Rbh_ref17_Takes : Rbq_ref17_Takes.holds Tryz.prog RbG 53 :=
  detP Rbx_ref17_Takes_ok Rbmixed Rbhn_ref17_Takes Rbat_ref17_Takes (F := fun x post => Fx_ref17_Takes  x.1 x.2.1 x.2.2.1 post) (fun x post => Rbeq_ref17_Takes x.1 x.2.1 x.2.2.1 post) fun x h _ => Lx_ref17_Takes  x.1 x.2.1 x.2.2.1 h
end Go.Lift

set_option linter.unusedVariables false
set_option linter.unusedSimpArgs false
namespace Go.Lift
def Fx_law17_same := fun (a b : List Int) (post : Bool × Unit → Prop) => ∀ (a_1 : Bool), a_1 = ((↑a.length : Int) != (↑b.length : Int)) → Br a_1 (post (Bool.false, ())) (HIs [] [] ∧
  ∃ (I : Int × Unit → Unit → Prop), ∃ (μ : Int × Unit → Unit → Nat), I ((0 : Int), ()) () ∧ ∀ (x : Int × Unit) (y : Unit), I x y → ∀ (a_2 : Bool), a_2 = decide (x.fst < (↑a.length :
  Int)) → Br a_2 (∃ (h : (0 : Int) ≤ x.fst ∧ x.fst < (↑a.length : Int)), ∃ (h : (0 : Int) ≤ x.fst ∧ x.fst < (↑b.length : Int)), ∀ (a_3 : Bool), a_3 = (a.getD x.fst.toNat (0 : Int)
  != b.getD x.fst.toNat (0 : Int)) → Br a_3 (post (Bool.false, ())) (HIs [] [] ∧ I (IntKind.i64.wrap (x.fst + (1 : Int)), ()) () ∧ μ (IntKind.i64.wrap (x.fst + (1 : Int)), ()) () <
  μ x y)) (post (Bool.true, ())))
theorem Lx_law17_same (a : List Int) (b : List Int) (w : KS.wf [.slice (.int .i64), .slice (.int .i64)] (a, b, ())) : Fx_law17_same  a b (fun r => r = intsR a b) := by
  have ha : a.length ≤ maxN := w.1.1
  have hm : maxN ≤ 9223372036854775807 := by decide
  rintro _ rfl
  refine Br.intro (fun e => congrArg r1 ?_) fun e => ?_
  · have e : ¬ a.length = b.length := fun q => by rw [q] at e; simp at e
    exact (beq_eq_false_iff_ne.2 fun q => e (congrArg List.length q)).symm
  have e : a.length = b.length := by
    have : ((a.length : Int) == (b.length : Int)) = true := by
      have e : (!((a.length : Int) == (b.length : Int))) = false := e
      simpa using e
    have := beq_iff_eq.1 this
    omega
  refine ⟨rfl, fun x _ => ∃ k : Nat, x.1 = k ∧ k ≤ a.length ∧ a.take k = b.take k, fun x _ => a.length - x.1.toNat, ⟨0, rfl, by omega, rfl⟩, ?_⟩
  rintro ⟨_, ⟨⟩⟩ _ ⟨k, rfl, hk, hq⟩
  dsimp only
  rintro _ rfl
  refine Br.intro (fun e1 => ?_) fun e1 => ?_
  · have e1 : k < a.length := by have := of_decide_eq_true e1; omega
    rw [Int.toNat_natCast, wi_succ e1 (by omega)]
    have ta := take_step e1 0
    have tb := take_step (l := b) (i := k) (by omega) 0
    refine ⟨⟨by omega, by omega⟩, ⟨by omega, by omega⟩, ?_⟩
    rintro _ rfl
    refine Br.intro (fun e2 => congrArg r1 ?_) fun e2 => ?_
    · have e2 : ¬ a.getD k 0 = b.getD k 0 := bne_iff_ne.1 e2
      refine (beq_eq_false_iff_ne.2 fun q => e2 ?_).symm
      rw [q]
    · have e2 : a.getD k 0 = b.getD k 0 := by
        have e2 : (!(a.getD k 0 == b.getD k 0)) = false := e2
        simpa using e2
      exact ⟨rfl, ⟨k + 1, rfl, by omega, by rw [ta, tb, hq, e2]⟩, by omega⟩
  · have e1 : k = a.length := by have := of_decide_eq_false e1; omega
    subst e1
    refine congrArg r1 (beq_iff_eq.2 ?_).symm
    rw [List.take_length] at hq
    rw [hq, e, List.take_length]
end Go.Lift

set_option linter.unusedVariables false
set_option linter.unusedSimpArgs false
namespace Go.Lift
open Go.Proofs
def Rbx_law17_same : Cx := ⟨tabOf Rbtab, conOf [], RbG⟩
theorem Rbx_law17_same_ok : CxOk Tryz.prog Rbx_law17_same := ⟨tabB_sound Rbtab_ok, fun f c h => by cases h⟩
theorem Rbat_law17_same : FnAt Tryz.prog 21 Tryz.f21.ntmps Tryz.f21.results.toList (Tryz.f21.body.getD .skip) := ⟨Tryz.f21, Tryz.func21, rfl, rfl, by simp, by decide⟩
theorem Rbeq_law17_same (a : List Int) (b : List Int) (post : Bool × Unit → Prop) : fnEval Rbx_law17_same Rbhn_law17_same Tryz.f21.ntmps Tryz.f21.results.toList (Tryz.f21.body.getD .skip) [.slice (.int .i64), .slice (.int .i64)] [.snap .bool] (a, b, ()) post = Fx_law17_same  a b post := by kernel_rfl
theorem Rbh_law17_same : Rbq_law17_same.holds Tryz.prog RbG 21 :=
  nam_of_det (detP Rbx_law17_same_ok Rbmixed Rbhn_law17_same Rbat_law17_same (F := fun x post => Fx_law17_same  x.1 x.2.1 post) (fun x post => Rbeq_law17_same x.1 x.2.1 post) fun x _ w => Lx_law17_same  x.1 x.2.1 w)
end Go.Lift

set_option linter.unusedVariables false
set_option linter.unusedSimpArgs false
namespace Go.Lift
def Fx_grid_New := fun (ty122 ty123 ty2 ty126 fn86 fn87 : Nat) (n : Int) (post : Option (Int × List (Int × Int × Int × Int) × List ((Int × Int) × Int) × List (List Int) × List Int ×
  List Nat × List Nat) × Int × Unit → Prop) => ∃ (h : I64 n), Br ((cellsR n).fst == (0 : Int)) (post (Option.none, (10 : Int), ())) (∃ (h : (0 : Int) ≤ (0 : Int) ∧ (0 : Int) < (↑(2
  : Nat) : Int)), HIs [HObj.mp Md.rw ((K.int IntKind.i64).pair (K.int IntKind.i64)) (K.int IntKind.i64) [], HObj.box Md.rw ty122 [SV.val (Go.Value.int IntKind.i64 n), SV.junk,
  SV.mref (0 : Nat), SV.val (Go.Value.slice Option.none (0 : Nat) (0 : Nat)), SV.junk, SV.val (Go.Value.slice Option.none (0 : Nat) (0 : Nat)), SV.val (Go.Value.slice Option.none (0
  : Nat) (0 : Nat))], HObj.box Md.rw ty123 [SV.clo fn86 [LV.ref (1 : Nat) (0 : Nat)] [], SV.clo fn87 [LV.ref (1 : Nat) (0 : Nat)] []]] [HObj.mp Md.rw ((K.int IntKind.i64).pair
  (K.int IntKind.i64)) (K.int IntKind.i64) [], HObj.box Md.rw ty122 [SV.val (Go.Value.int IntKind.i64 n), SV.junk, SV.mref (0 : Nat), SV.val (Go.Value.slice Option.none (0 : Nat) (0
  : Nat)), SV.junk, SV.val (Go.Value.slice Option.none (0 : Nat) (0 : Nat)), SV.val (Go.Value.slice Option.none (0 : Nat) (0 : Nat))], HObj.box Md.rw ty123 [SV.clo fn86 [LV.ref (1 :
  Nat) (0 : Nat)] [], SV.clo fn87 [LV.ref (1 : Nat) (0 : Nat)] []]] ∧ ∃ (I : Int × List (Int × Int × Int × Int) × List Int × Unit → List ((Int × Int) × Int) × Unit → Prop), ∃ (μ :
  Int × List (Int × Int × Int × Int) × List Int × Unit → List ((Int × Int) × Int) × Unit → Nat), I ((0 : Int), [], [], ()) ([], ()) ∧ ∀ (x : Int × List (Int × Int × Int × Int) ×
  List Int × Unit) (y : List ((Int × Int) × Int) × Unit), I x y → Br (decide (x.fst < (cellsR n).fst)) (((0 : Nat) = (0 : Nat) ∧ x.snd.fst.length = x.snd.fst.length) ∧ HIs [HObj.mp
  Md.rw ((K.int IntKind.i64).pair (K.int IntKind.i64)) (K.int IntKind.i64) y.fst, HObj.box Md.rw ty122 [SV.val (Go.Value.int IntKind.i64 n), SV.junk, SV.mref (0 : Nat), SV.val
  (Go.Value.slice Option.none (0 : Nat) (0 : Nat)), SV.osl (4 : Nat) (0 : Nat) x.snd.snd.fst.length, SV.val (Go.Value.slice Option.none (0 : Nat) (0 : Nat)), SV.val (Go.Value.slice
  Option.none (0 : Nat) (0 : Nat))], HObj.box Md.rw ty123 [SV.clo fn86 [LV.ref (1 : Nat) (0 : Nat)] [], SV.clo fn87 [LV.ref (1 : Nat) (0 : Nat)] []], HObj.dead, HObj.row Md.rw ty2
  (K.int IntKind.i64) x.snd.snd.fst] [HObj.mp Md.rw ((K.int IntKind.i64).pair (K.int IntKind.i64)) (K.int IntKind.i64) y.fst, HObj.box Md.rw ty122 [SV.val (Go.Value.int IntKind.i64
  n), SV.junk, SV.mref (0 : Nat), SV.val (Go.Value.slice Option.none (0 : Nat) (0 : Nat)), SV.osl (4 : Nat) (0 : Nat) x.snd.snd.fst.length, SV.val (Go.Value.slice Option.none (0 :
  Nat) (0 : Nat)), SV.val (Go.Value.slice Option.none (0 : Nat) (0 : Nat))], HObj.box Md.rw ty123 [SV.clo fn86 [LV.ref (1 : Nat) (0 : Nat)] [], SV.clo fn87 [LV.ref (1 : Nat) (0 :
  Nat)] []], HObj.dead, HObj.row Md.rw ty2 (K.int IntKind.i64) x.snd.snd.fst] ∧ ∃ (I_1 : Int × List (Int × Int × Int × Int) × Unit → List ((Int × Int) × Int) × Unit → Prop), ∃ (μ_1
  : Int × List (Int × Int × Int × Int) × Unit → List ((Int × Int) × Int) × Unit → Nat), I_1 ((0 : Int), x.snd.fst, ()) (y.fst, ()) ∧ ∀ (x_2 : Int × List (Int × Int × Int × Int) ×
  Unit) (y_1 : List ((Int × Int) × Int) × Unit), I_1 x_2 y_1 → Br (decide (x_2.fst < (4 : Int))) (∃ (h : III n x.fst x_2.fst), ∀ (a : Int × Int × Unit), a = besideR n x.fst x_2.fst
  → Br (decide (x.fst > a.fst)) (((0 : Nat) = (0 : Nat) ∧ x_2.snd.fst.length = x_2.snd.fst.length) ∧ HIs [HObj.mp Md.rw ((K.int IntKind.i64).pair (K.int IntKind.i64)) (K.int
  IntKind.i64) y_1.fst, HObj.box Md.rw ty122 [SV.val (Go.Value.int IntKind.i64 n), SV.junk, SV.mref (0 : Nat), SV.val (Go.Value.slice Option.none (0 : Nat) (0 : Nat)), SV.osl (4 :
  Nat) (0 : Nat) x.snd.snd.fst.length, SV.val (Go.Value.slice Option.none (0 : Nat) (0 : Nat)), SV.val (Go.Value.slice Option.none (0 : Nat) (0 : Nat))], HObj.box Md.rw ty123
  [SV.clo fn86 [LV.ref (1 : Nat) (0 : Nat)] [], SV.clo fn87 [LV.ref (1 : Nat) (0 : Nat)] []], HObj.dead, HObj.row Md.rw ty2 (K.int IntKind.i64) x.snd.snd.fst] [HObj.mp Md.rw ((K.int
  IntKind.i64).pair (K.int IntKind.i64)) (K.int IntKind.i64) y_1.fst, HObj.box Md.rw ty122 [SV.val (Go.Value.int IntKind.i64 n), SV.junk, SV.mref (0 : Nat), SV.val (Go.Value.slice
  Option.none (0 : Nat) (0 : Nat)), SV.osl (4 : Nat) (0 : Nat) x.snd.snd.fst.length, SV.val (Go.Value.slice Option.none (0 : Nat) (0 : Nat)), SV.val (Go.Value.slice Option.none (0 :
  Nat) (0 : Nat))], HObj.box Md.rw ty123 [SV.clo fn86 [LV.ref (1 : Nat) (0 : Nat)] [], SV.clo fn87 [LV.ref (1 : Nat) (0 : Nat)] []], HObj.dead, HObj.row Md.rw ty2 (K.int
  IntKind.i64) x.snd.snd.fst] ∧ I_1 (IntKind.i64.wrap (x_2.fst + (1 : Int)), x_2.snd.fst, ()) (y_1.fst, ()) ∧ μ_1 (IntKind.i64.wrap (x_2.fst + (1 : Int)), x_2.snd.fst, ()) (y_1.fst,
  ()) < μ_1 x_2 y_1) (∃ (h : x_2.snd.fst.length = x_2.snd.fst.length ∧ (x_2.snd.fst.length + (1 : Nat)) * (32 : Nat) ≤ (140737488355328 : Nat)), ((0 : Nat) = (0 : Nat) ∧
  x_2.snd.fst.length + (1 : Nat) = (x_2.snd.fst ++ [(x.fst, x_2.fst, a.fst, a.snd.fst)]).length) ∧ HIs [HObj.mp Md.rw ((K.int IntKind.i64).pair (K.int IntKind.i64)) (K.int
  IntKind.i64) (mput (a.fst, a.snd.fst) (↑x_2.snd.fst.length : Int) (mput (x.fst, x_2.fst) (↑x_2.snd.fst.length : Int) y_1.fst)), HObj.box Md.rw ty122 [SV.val (Go.Value.int
  IntKind.i64 n), SV.junk, SV.mref (0 : Nat), SV.val (Go.Value.slice Option.none (0 : Nat) (0 : Nat)), SV.osl (4 : Nat) (0 : Nat) x.snd.snd.fst.length, SV.val (Go.Value.slice
  Option.none (0 : Nat) (0 : Nat)), SV.val (Go.Value.slice Option.none (0 : Nat) (0 : Nat))], HObj.box Md.rw ty123 [SV.clo fn86 [LV.ref (1 : Nat) (0 : Nat)] [], SV.clo fn87 [LV.ref
  (1 : Nat) (0 : Nat)] []], HObj.dead, HObj.row Md.rw ty2 (K.int IntKind.i64) x.snd.snd.fst] [HObj.mp Md.rw ((K.int IntKind.i64).pair (K.int IntKind.i64)) (K.int IntKind.i64) (mput
  (a.fst, a.snd.fst) (↑x_2.snd.fst.length : Int) (mput (x.fst, x_2.fst) (↑x_2.snd.fst.length : Int) y_1.fst)), HObj.box Md.rw ty122 [SV.val (Go.Value.int IntKind.i64 n), SV.junk,
  SV.mref (0 : Nat), SV.val (Go.Value.slice Option.none (0 : Nat) (0 : Nat)), SV.osl (4 : Nat) (0 : Nat) x.snd.snd.fst.length, SV.val (Go.Value.slice Option.none (0 : Nat) (0 :
  Nat)), SV.val (Go.Value.slice Option.none (0 : Nat) (0 : Nat))], HObj.box Md.rw ty123 [SV.clo fn86 [LV.ref (1 : Nat) (0 : Nat)] [], SV.clo fn87 [LV.ref (1 : Nat) (0 : Nat)] []],
  HObj.dead, HObj.row Md.rw ty2 (K.int IntKind.i64) x.snd.snd.fst] ∧ I_1 (IntKind.i64.wrap (x_2.fst + (1 : Int)), x_2.snd.fst ++ [(x.fst, x_2.fst, a.fst, a.snd.fst)], ()) (mput
  (a.fst, a.snd.fst) (↑x_2.snd.fst.length : Int) (mput (x.fst, x_2.fst) (↑x_2.snd.fst.length : Int) y_1.fst), ()) ∧ μ_1 (IntKind.i64.wrap (x_2.fst + (1 : Int)), x_2.snd.fst ++
  [(x.fst, x_2.fst, a.fst, a.snd.fst)], ()) (mput (a.fst, a.snd.fst) (↑x_2.snd.fst.length : Int) (mput (x.fst, x_2.fst) (↑x_2.snd.fst.length : Int) y_1.fst), ()) < μ_1 x_2 y_1))
  (((0 : Nat) = (0 : Nat) ∧ x_2.snd.fst.length = x_2.snd.fst.length) ∧ ((0 : Nat) = (0 : Nat) ∧ x.snd.snd.fst.length = x.snd.snd.fst.length) ∧ HIs [HObj.mp Md.rw ((K.int
  IntKind.i64).pair (K.int IntKind.i64)) (K.int IntKind.i64) y_1.fst, HObj.box Md.rw ty122 [SV.val (Go.Value.int IntKind.i64 n), SV.junk, SV.mref (0 : Nat), SV.val (Go.Value.slice
  Option.none (0 : Nat) (0 : Nat)), SV.junk, SV.val (Go.Value.slice Option.none (0 : Nat) (0 : Nat)), SV.val (Go.Value.slice Option.none (0 : Nat) (0 : Nat))], HObj.box Md.rw ty123
  [SV.clo fn86 [LV.ref (1 : Nat) (0 : Nat)] [], SV.clo fn87 [LV.ref (1 : Nat) (0 : Nat)] []]] [HObj.mp Md.rw ((K.int IntKind.i64).pair (K.int IntKind.i64)) (K.int IntKind.i64)
  y_1.fst, HObj.box Md.rw ty122 [SV.val (Go.Value.int IntKind.i64 n), SV.junk, SV.mref (0 : Nat), SV.val (Go.Value.slice Option.none (0 : Nat) (0 : Nat)), SV.junk, SV.val
  (Go.Value.slice Option.none (0 : Nat) (0 : Nat)), SV.val (Go.Value.slice Option.none (0 : Nat) (0 : Nat))], HObj.box Md.rw ty123 [SV.clo fn86 [LV.ref (1 : Nat) (0 : Nat)] [],
  SV.clo fn87 [LV.ref (1 : Nat) (0 : Nat)] []]] ∧ I (IntKind.i64.wrap (x.fst + (1 : Int)), x_2.snd.fst, x.snd.snd.fst, ()) (y_1.fst, ()) ∧ μ (IntKind.i64.wrap (x.fst + (1 : Int)),
  x_2.snd.fst, x.snd.snd.fst, ()) (y_1.fst, ()) < μ x y)) (∃ (h : (0 : Int) ≤ IntKind.i64.wrap ((0 : Int) + (1 : Int)) ∧ IntKind.i64.wrap ((0 : Int) + (1 : Int)) < (↑(2 : Nat) :
  Int)), ((0 : Nat) = (0 : Nat) ∧ x.snd.fst.length = x.snd.fst.length) ∧ ((0 : Nat) = (0 : Nat) ∧ x.snd.snd.fst.length = x.snd.snd.fst.length) ∧ HIs [HObj.mp Md.rw ((K.int
  IntKind.i64).pair (K.int IntKind.i64)) (K.int IntKind.i64) y.fst, HObj.box Md.rw ty122 [SV.val (Go.Value.int IntKind.i64 n), SV.junk, SV.mref (0 : Nat), SV.val (Go.Value.slice
  Option.none (0 : Nat) (0 : Nat)), SV.junk, SV.val (Go.Value.slice Option.none (0 : Nat) (0 : Nat)), SV.val (Go.Value.slice Option.none (0 : Nat) (0 : Nat))], HObj.box Md.rw ty123
  [SV.clo fn86 [LV.ref (1 : Nat) (0 : Nat)] [], SV.clo fn87 [LV.ref (1 : Nat) (0 : Nat)] []], HObj.dead, HObj.dead] [HObj.mp Md.rw ((K.int IntKind.i64).pair (K.int IntKind.i64))
  (K.int IntKind.i64) y.fst, HObj.box Md.rw ty122 [SV.val (Go.Value.int IntKind.i64 n), SV.junk, SV.mref (0 : Nat), SV.val (Go.Value.slice Option.none (0 : Nat) (0 : Nat)), SV.junk,
  SV.val (Go.Value.slice Option.none (0 : Nat) (0 : Nat)), SV.val (Go.Value.slice Option.none (0 : Nat) (0 : Nat))], HObj.box Md.rw ty123 [SV.clo fn86 [LV.ref (1 : Nat) (0 : Nat)]
  [], SV.clo fn87 [LV.ref (1 : Nat) (0 : Nat)] []], HObj.dead, HObj.dead] ∧ ∃ (I : Int × List (Int × Int × Int × Int) × List Int × Unit → List ((Int × Int) × Int) × Unit → Prop), ∃
  (μ : Int × List (Int × Int × Int × Int) × List Int × Unit → List ((Int × Int) × Int) × Unit → Nat), I ((0 : Int), x.snd.fst, x.snd.snd.fst, ()) (y.fst, ()) ∧ ∀ (x : Int × List
  (Int × Int × Int × Int) × List Int × Unit) (y : List ((Int × Int) × Int) × Unit), I x y → Br (decide (x.fst < (cellsR n).fst)) (∃ (h : II n x.fst), ∃ (h : x.snd.snd.fst.length =
  x.snd.snd.fst.length ∧ (x.snd.snd.fst.length + (1 : Nat)) * (8 : Nat) ≤ (140737488355328 : Nat)), ((0 : Nat) = (0 : Nat) ∧ x.snd.fst.length = x.snd.fst.length) ∧ ((0 : Nat) = (0 :
  Nat) ∧ x.snd.snd.fst.length + (1 : Nat) = (x.snd.snd.fst ++ [(areaR n x.fst).fst]).length) ∧ HIs [HObj.mp Md.rw ((K.int IntKind.i64).pair (K.int IntKind.i64)) (K.int IntKind.i64)
  y.fst, HObj.box Md.rw ty122 [SV.val (Go.Value.int IntKind.i64 n), SV.junk, SV.mref (0 : Nat), SV.val (Go.Value.slice Option.none (0 : Nat) (0 : Nat)), SV.junk, SV.val
  (Go.Value.slice Option.none (0 : Nat) (0 : Nat)), SV.val (Go.Value.slice Option.none (0 : Nat) (0 : Nat))], HObj.box Md.rw ty123 [SV.clo fn86 [LV.ref (1 : Nat) (0 : Nat)] [],
  SV.clo fn87 [LV.ref (1 : Nat) (0 : Nat)] []], HObj.dead, HObj.dead] [HObj.mp Md.rw ((K.int IntKind.i64).pair (K.int IntKind.i64)) (K.int IntKind.i64) y.fst, HObj.box Md.rw ty122
  [SV.val (Go.Value.int IntKind.i64 n), SV.junk, SV.mref (0 : Nat), SV.val (Go.Value.slice Option.none (0 : Nat) (0 : Nat)), SV.junk, SV.val (Go.Value.slice Option.none (0 : Nat) (0
  : Nat)), SV.val (Go.Value.slice Option.none (0 : Nat) (0 : Nat))], HObj.box Md.rw ty123 [SV.clo fn86 [LV.ref (1 : Nat) (0 : Nat)] [], SV.clo fn87 [LV.ref (1 : Nat) (0 : Nat)] []],
  HObj.dead, HObj.dead] ∧ I (IntKind.i64.wrap (x.fst + (1 : Int)), x.snd.fst, x.snd.snd.fst ++ [(areaR n x.fst).fst], ()) (y.fst, ()) ∧ μ (IntKind.i64.wrap (x.fst + (1 : Int)),
  x.snd.fst, x.snd.snd.fst ++ [(areaR n x.fst).fst], ()) (y.fst, ()) < μ x y) (HIs [HObj.mp Md.rw ((K.int IntKind.i64).pair (K.int IntKind.i64)) (K.int IntKind.i64) y.fst, HObj.box
  Md.rw ty122 [SV.val (Go.Value.int IntKind.i64 n), SV.osl (5 : Nat) (0 : Nat) x.snd.fst.length, SV.mref (0 : Nat), SV.junk, SV.osl (6 : Nat) (0 : Nat) x.snd.snd.fst.length,
  SV.junk, SV.junk], HObj.box Md.rw ty123 [SV.clo fn86 [LV.ref (1 : Nat) (0 : Nat)] [], SV.clo fn87 [LV.ref (1 : Nat) (0 : Nat)] []], HObj.dead, HObj.dead, HObj.row Md.rw ty126
  ((K.int IntKind.i64).pair ((K.int IntKind.i64).pair ((K.int IntKind.i64).pair (K.int IntKind.i64)))) x.snd.fst, HObj.row Md.rw ty2 (K.int IntKind.i64) x.snd.snd.fst] [HObj.mp
  Md.rw ((K.int IntKind.i64).pair (K.int IntKind.i64)) (K.int IntKind.i64) y.fst, HObj.box Md.rw ty122 [SV.val (Go.Value.int IntKind.i64 n), SV.osl (5 : Nat) (0 : Nat)
  x.snd.fst.length, SV.mref (0 : Nat), SV.junk, SV.osl (6 : Nat) (0 : Nat) x.snd.snd.fst.length, SV.junk, SV.junk], HObj.box Md.rw ty123 [SV.clo fn86 [LV.ref (1 : Nat) (0 : Nat)]
  [], SV.clo fn87 [LV.ref (1 : Nat) (0 : Nat)] []], HObj.dead, HObj.dead, HObj.row Md.rw ty126 ((K.int IntKind.i64).pair ((K.int IntKind.i64).pair ((K.int IntKind.i64).pair (K.int
  IntKind.i64)))) x.snd.fst, HObj.row Md.rw ty2 (K.int IntKind.i64) x.snd.snd.fst] ∧ ∃ (I : Int × List (List Int) × List Nat × List Nat × Unit → Unit → Prop), ∃ (μ : Int × List
  (List Int) × List Nat × List Nat × Unit → Unit → Nat), I ((0 : Int), [], [], [], ()) () ∧ ∀ (x_3 : Int × List (List Int) × List Nat × List Nat × Unit) (y_1 : Unit), I x_3 y_1 → Br
  (decide (x_3.fst < (↑x.snd.fst.length : Int))) (∃ (h : (0 : Int) ≤ x_3.fst ∧ x_3.fst < (↑x.snd.fst.length : Int)), ∃ (h : (4 : Int) ≠ (0 : Int)), ∃ (h : III n (x.snd.fst.getD ((0
  : Nat) + x_3.fst.toNat) kEdge.dflt).fst ((IntKind.i64.wrap ((x.snd.fst.getD ((0 : Nat) + x_3.fst.toNat) kEdge.dflt).snd.fst + (2 : Int))).tmod (4 : Int))), ∀ (a : Int × Int ×
  Unit), a = besideR n (x.snd.fst.getD ((0 : Nat) + x_3.fst.toNat) kEdge.dflt).fst ((IntKind.i64.wrap ((x.snd.fst.getD ((0 : Nat) + x_3.fst.toNat) kEdge.dflt).snd.fst + (2 :
  Int))).tmod (4 : Int)) → ∃ (h : (4 : Int) ≠ (0 : Int)), ∃ (h : III n (x.snd.fst.getD ((0 : Nat) + x_3.fst.toNat) kEdge.dflt).snd.snd.fst ((IntKind.i64.wrap ((x.snd.fst.getD ((0 :
  Nat) + x_3.fst.toNat) kEdge.dflt).snd.snd.snd + (2 : Int))).tmod (4 : Int))), ∀ (a_1 : Int × Int × Unit), a_1 = besideR n (x.snd.fst.getD ((0 : Nat) + x_3.fst.toNat)
  kEdge.dflt).snd.snd.fst ((IntKind.i64.wrap ((x.snd.fst.getD ((0 : Nat) + x_3.fst.toNat) kEdge.dflt).snd.snd.snd + (2 : Int))).tmod (4 : Int)) → ∃ (h : x_3.snd.fst.length =
  x_3.snd.fst.length ∧ (x_3.snd.fst.length + (1 : Nat)) * (16 : Nat) ≤ (140737488355328 : Nat)), ∃ (h : III n (x.snd.fst.getD ((0 : Nat) + x_3.fst.toNat) kEdge.dflt).fst
  (x.snd.fst.getD ((0 : Nat) + x_3.fst.toNat) kEdge.dflt).snd.fst), ∀ (a_2 : Nat × Unit), a_2 = lengthGR n (x.snd.fst.getD ((0 : Nat) + x_3.fst.toNat) kEdge.dflt).fst
  (x.snd.fst.getD ((0 : Nat) + x_3.fst.toNat) kEdge.dflt).snd.fst → ∃ (h : x_3.snd.snd.fst.length = x_3.snd.snd.fst.length ∧ (x_3.snd.snd.fst.length + (1 : Nat)) * (8 : Nat) ≤
  (140737488355328 : Nat)), ∃ (h : III n (x.snd.fst.getD ((0 : Nat) + x_3.fst.toNat) kEdge.dflt).fst (x.snd.fst.getD ((0 : Nat) + x_3.fst.toNat) kEdge.dflt).snd.fst), ∀ (a_3 : Nat ×
  Unit), a_3 = gapGR n (x.snd.fst.getD ((0 : Nat) + x_3.fst.toNat) kEdge.dflt).fst (x.snd.fst.getD ((0 : Nat) + x_3.fst.toNat) kEdge.dflt).snd.fst → ∃ (h :
  x_3.snd.snd.snd.fst.length = x_3.snd.snd.snd.fst.length ∧ (x_3.snd.snd.snd.fst.length + (1 : Nat)) * (8 : Nat) ≤ (140737488355328 : Nat)), ((0 : Nat) = (0 : Nat) ∧
  x_3.snd.fst.length + (1 : Nat) = (x_3.snd.fst ++ [[a.fst, a_1.fst]]).length) ∧ ((0 : Nat) = (0 : Nat) ∧ x_3.snd.snd.fst.length + (1 : Nat) = (x_3.snd.snd.fst ++ [a_2.fst]).length)
  ∧ ((0 : Nat) = (0 : Nat) ∧ x_3.snd.snd.snd.fst.length + (1 : Nat) = (x_3.snd.snd.snd.fst ++ [a_3.fst]).length) ∧ HIs [HObj.mp Md.rw ((K.int IntKind.i64).pair (K.int IntKind.i64))
  (K.int IntKind.i64) y.fst, HObj.box Md.rw ty122 [SV.val (Go.Value.int IntKind.i64 n), SV.osl (5 : Nat) (0 : Nat) x.snd.fst.length, SV.mref (0 : Nat), SV.junk, SV.osl (6 : Nat) (0
  : Nat) x.snd.snd.fst.length, SV.junk, SV.junk], HObj.box Md.rw ty123 [SV.clo fn86 [LV.ref (1 : Nat) (0 : Nat)] [], SV.clo fn87 [LV.ref (1 : Nat) (0 : Nat)] []], HObj.dead,
  HObj.dead, HObj.row Md.rw ty126 ((K.int IntKind.i64).pair ((K.int IntKind.i64).pair ((K.int IntKind.i64).pair (K.int IntKind.i64)))) x.snd.fst, HObj.row Md.rw ty2 (K.int
  IntKind.i64) x.snd.snd.fst] [HObj.mp Md.rw ((K.int IntKind.i64).pair (K.int IntKind.i64)) (K.int IntKind.i64) y.fst, HObj.box Md.rw ty122 [SV.val (Go.Value.int IntKind.i64 n),
  SV.osl (5 : Nat) (0 : Nat) x.snd.fst.length, SV.mref (0 : Nat), SV.junk, SV.osl (6 : Nat) (0 : Nat) x.snd.snd.fst.length, SV.junk, SV.junk], HObj.box Md.rw ty123 [SV.clo fn86
  [LV.ref (1 : Nat) (0 : Nat)] [], SV.clo fn87 [LV.ref (1 : Nat) (0 : Nat)] []], HObj.dead, HObj.dead, HObj.row Md.rw ty126 ((K.int IntKind.i64).pair ((K.int IntKind.i64).pair
  ((K.int IntKind.i64).pair (K.int IntKind.i64)))) x.snd.fst, HObj.row Md.rw ty2 (K.int IntKind.i64) x.snd.snd.fst] ∧ I (IntKind.i64.wrap (x_3.fst + (1 : Int)), x_3.snd.fst ++
  [[a.fst, a_1.fst]], x_3.snd.snd.fst ++ [a_2.fst], x_3.snd.snd.snd.fst ++ [a_3.fst], ()) () ∧ μ (IntKind.i64.wrap (x_3.fst + (1 : Int)), x_3.snd.fst ++ [[a.fst, a_1.fst]],
  x_3.snd.snd.fst ++ [a_2.fst], x_3.snd.snd.snd.fst ++ [a_3.fst], ()) () < μ x_3 y_1) (post (Option.some (n, List.take x.snd.fst.length (List.drop (0 : Nat) x.snd.fst), y.fst,
  List.take x_3.snd.fst.length (List.drop (0 : Nat) x_3.snd.fst), List.take x.snd.snd.fst.length (List.drop (0 : Nat) x.snd.snd.fst), List.take x_3.snd.snd.fst.length (List.drop (0
  : Nat) x_3.snd.snd.fst), List.take x_3.snd.snd.snd.fst.length (List.drop (0 : Nat) x_3.snd.snd.snd.fst)), (0 : Int), ())))))
theorem Lx_grid_New (ty0 ty1 ty2 ty3 ty4 ty5 : Nat) (n : Int) (h : I64 n) : Fx_grid_New ty0 ty1 ty2 ty3 ty4 ty5 n (fun r => r = newR n) := by
  have cr := cells_rng n
  obtain ⟨N, hN⟩ : ∃ N, (cellsI n).toNat = N := ⟨_, rfl⟩
  have hc : cellsI n = (N : Int) := by omega
  have hc' : (cellsR n).fst = (N : Int) := hc
  have hN1 : N ≤ 6144 := by omega
  have nk := fun k => netN_ok n k
  have i6 : ∀ {z : Int}, 0 ≤ z → z ≤ 6144 → I64 z := fun {z} a b => ⟨by omega, by omega⟩
  refine ⟨h, ?_⟩
  rw [hc']
  refine Br.intro (fun e => ?_) fun e => ?_
  · have e : (N : Int) = 0 := beq_iff_eq.1 e
    show _ = newR n
    unfold newR; rw [if_pos (by omega)]
  have e : ¬ (N : Int) = 0 := fun q => by rw [q] at e; cases e
  have hnew : newR n = (some (netG n), 0, ()) := by unfold newR; rw [if_neg (by omega)]
  refine ⟨⟨by decide, by decide⟩, rfl, fun x y => ∃ k : Nat, x.1 = k ∧ k ≤ N ∧ x.2.1 = (netN n k).1 ∧ x.2.2.1 = [] ∧ y.1 = (netN n k).2, fun x _ => N - x.1.toNat, ⟨0, rfl, by omega, rfl, rfl, rfl⟩, ?_⟩
  rintro ⟨_, _, _, ⟨⟩⟩ ⟨_, ⟨⟩⟩ ⟨k, rfl, hk, rfl, rfl, rfl⟩
  dsimp only
  refine Br.intro (fun e1 => ?_) fun e1 => ?_
  · have e1 : k < N := by have := of_decide_eq_true e1; omega
    refine ⟨⟨rfl, rfl⟩, rfl, fun x y => ∃ j : Nat, x.1 = j ∧ j ≤ 4 ∧ x.2.1 = (addN n k (netN n k) j).1 ∧ y.1 = (addN n k (netN n k) j).2, fun x _ => 4 - x.1.toNat, ⟨0, rfl, by omega, rfl, rfl⟩, ?_⟩
    rintro ⟨_, _, ⟨⟩⟩ ⟨_, ⟨⟩⟩ ⟨j, rfl, hj, rfl, rfl⟩
    dsimp only
    have hlen := (addN_ok (n := n) (c := k) (by omega) (by omega) (nk k (by omega)).1 j hj).2
    have hlk := (nk k (by omega)).2
    refine Br.intro (fun e2 => ?_) fun e2 => ?_
    · have e2 : j < 4 := by have e2 : (j : Int) < 4 := of_decide_eq_true e2; omega
      refine ⟨⟨h, i6 (by omega) (by omega), i6 (by omega) (by omega)⟩, ?_⟩
      rintro ⟨b, q, ⟨⟩⟩ hb
      have hb : (b, q, ()) = besideR n k j := hb
      have eb : b = (besideI n k j).1 := congrArg Prod.fst hb
      have eq : q = (besideI n k j).2 := congrArg (fun z => z.2.1) hb
      rw [wi_succ e2 (by omega)]
      refine Br.intro (fun g => ?_) fun g => ?_
      · have g : (k : Int) > b := of_decide_eq_true g
        have hst : addN n k (netN n k) (j + 1) = addN n k (netN n k) j := by
          show addE n k j (addN n k (netN n k) j) = _
          unfold addE; rw [if_pos (by omega)]
        exact ⟨⟨rfl, rfl⟩, rfl, ⟨j + 1, rfl, by omega, by rw [hst], by rw [hst]⟩, by omega⟩
      · have g : ¬ (k : Int) > b := of_decide_eq_false g
        have hst : addN n k (netN n k) (j + 1) = ((addN n k (netN n k) j).1 ++ [((k : Int), (j : Int), b, q)], mput (b, q) (addN n k (netN n k) j).1.length (mput ((k : Int), (j : Int)) (addN n k (netN n k) j).1.length (addN n k (netN n k) j).2)) := by
          show addE n k j (addN n k (netN n k) j) = _
          unfold addE; rw [if_neg (by omega), eb, eq]
        exact ⟨⟨rfl, by omega⟩, ⟨rfl, by rw [List.length_append]; rfl⟩, rfl, ⟨j + 1, rfl, by omega, by rw [hst], by rw [hst]⟩, by omega⟩
    · have e2 : j = 4 := by have e2 : ¬ (j : Int) < 4 := of_decide_eq_false e2; omega
      subst e2
      rw [wi_succ e1 (by omega)]
      exact ⟨⟨rfl, rfl⟩, ⟨rfl, rfl⟩, rfl, ⟨k + 1, rfl, by omega, rfl, rfl, rfl⟩, by omega⟩
  have e1 : k = N := by have := of_decide_eq_false e1; omega
  subst e1
  obtain ⟨eok, elen⟩ := nk k hN1
  have hE : netE n = netN n k := by unfold netE; rw [hN]
  generalize netN n k = E at *
  refine ⟨⟨by decide, by decide⟩, ⟨rfl, rfl⟩, ⟨rfl, rfl⟩, rfl, fun x y => ∃ m : Nat, x.1 = m ∧ m ≤ k ∧ x.2.1 = E.1 ∧ x.2.2.1 = ((List.range m).map fun q : Nat => areaI n (q : Int)) ∧ y.1 = E.2, fun x _ => k - x.1.toNat, ⟨0, rfl, by omega, rfl, rfl, rfl⟩, ?_⟩
  rintro ⟨_, _, _, ⟨⟩⟩ ⟨_, ⟨⟩⟩ ⟨m, rfl, hm, rfl, rfl, rfl⟩
  dsimp only
  have hml : ((List.range m).map fun q : Nat => areaI n (q : Int)).length = m := by rw [List.length_map, List.length_range]
  refine Br.intro (fun e1 => ?_) fun e1 => ?_
  · have e1 : m < k := by have := of_decide_eq_true e1; omega
    rw [wi_succ e1 (by omega)]
    exact ⟨⟨h, i6 (by omega) (by omega)⟩, ⟨rfl, by rw [hml]; omega⟩, ⟨rfl, rfl⟩, ⟨rfl, by rw [List.length_append]; rfl⟩, rfl, ⟨m + 1, rfl, by omega, rfl, (range_map_succ (fun q : Nat => areaI n (q : Int)) m).symm, rfl⟩, by omega⟩
  have e1 : m = k := by have := of_decide_eq_false e1; omega
  subst e1
  refine ⟨rfl, fun x _ => ∃ q : Nat, x.1 = q ∧ q ≤ E.1.length ∧ x.2.1 = (E.1.take q).map (behindE n) ∧ x.2.2.1 = (E.1.take q).map (fun e => lengthG n e.1 e.2.1) ∧ x.2.2.2.1 = (E.1.take q).map (fun e => gapG n e.1 e.2.1), fun x _ => E.1.length - x.1.toNat, ⟨0, rfl, by omega, rfl, rfl, rfl⟩, ?_⟩
  rintro ⟨_, _, _, _, ⟨⟩⟩ _ ⟨q, rfl, hq, rfl, rfl, rfl⟩
  dsimp only
  have hl : ∀ {α : Type} (f : Ed → α), ((E.1.take q).map f).length = q := fun {α} f => by rw [List.length_map, List.length_take]; omega
  refine Br.intro (fun e1 => ?_) fun e1 => ?_
  · have e1 : q < E.1.length := by have := of_decide_eq_true e1; omega
    rw [Int.toNat_natCast, Nat.zero_add, wi_succ e1 (by omega)]
    obtain ⟨d, hd⟩ : ∃ d, E.1.getD q kEdge.dflt = d := ⟨_, rfl⟩
    have dm : d ∈ E.1 := by rw [← hd]; exact getD_mem e1 _
    have ts : E.1.take (q + 1) = E.1.take q ++ [d] := by rw [take_step e1 kEdge.dflt, hd]
    rw [hd]
    obtain ⟨d1, d2, d3, d4, d5, d6, d7, d8⟩ := eok d dm
    have w1 : IntKind.i64.wrap (d.2.1 + 2) = d.2.1 + 2 := wi ⟨by omega, by omega⟩
    have w2 : IntKind.i64.wrap (d.2.2.2 + 2) = d.2.2.2 + 2 := wi ⟨by omega, by omega⟩
    rw [w1, w2]
    have t1 : I64 (Int.tmod (d.2.1 + 2) 4) := by rw [Int.tmod_eq_emod_of_nonneg (by omega)]; exact i6 (by omega) (by omega)
    have t2 : I64 (Int.tmod (d.2.2.2 + 2) 4) := by rw [Int.tmod_eq_emod_of_nonneg (by omega)]; exact i6 (by omega) (by omega)
    refine ⟨⟨by omega, by omega⟩, by decide, ⟨h, i6 d1 (by omega), t1⟩, ?_⟩
    rintro ⟨a1, a2, ⟨⟩⟩ ha
    have ea : a1 = (besideI n d.1 (Int.tmod (d.2.1 + 2) 4)).1 := congrArg Prod.fst ha
    refine ⟨by decide, ⟨h, i6 d5 (by omega), t2⟩, ?_⟩
    rintro ⟨b1, b2, ⟨⟩⟩ hb
    have eb : b1 = (besideI n d.2.2.1 (Int.tmod (d.2.2.2 + 2) 4)).1 := congrArg Prod.fst hb
    refine ⟨⟨rfl, by rw [hl]; omega⟩, ⟨h, i6 d1 (by omega), i6 d3 (by omega)⟩, ?_⟩
    rintro ⟨l1, ⟨⟩⟩ hl1
    have el : l1 = lengthG n d.1 d.2.1 := congrArg Prod.fst hl1
    refine ⟨⟨rfl, by rw [hl]; omega⟩, ⟨h, i6 d1 (by omega), i6 d3 (by omega)⟩, ?_⟩
    rintro ⟨g1, ⟨⟩⟩ hg1
    have eg : g1 = gapG n d.1 d.2.1 := congrArg Prod.fst hg1
    refine ⟨⟨rfl, by rw [hl]; omega⟩, ⟨rfl, by rw [List.length_append]; rfl⟩, ⟨rfl, by rw [List.length_append]; rfl⟩, ⟨rfl, by rw [List.length_append]; rfl⟩, rfl, ⟨q + 1, rfl, by omega, ?_, ?_, ?_⟩, by omega⟩
    · rw [ts, List.map_append]; dsimp only; rw [ea, eb]; rfl
    · rw [ts, List.map_append]; dsimp only; rw [el]; rfl
    · rw [ts, List.map_append]; dsimp only; rw [eg]; rfl
  · have e1 : q = E.1.length := by have := of_decide_eq_false e1; omega
    subst e1
    show _ = newR n
    rw [hnew]
    unfold netG areasL
    rw [hE, hN, List.take_length]
    simp only [List.drop_zero, List.take_length]
end Go.Lift

set_option linter.unusedVariables false
set_option linter.unusedSimpArgs false
namespace Go.Lift
def Fx_cube_good := fun (a : Int) (post : Bool × Unit → Prop) => ∀ (a_1 : Bool), a_1 = decide (a ≥ (1 : Int)) → Br a_1 (∀ (a_2 : Bool), a_2 = decide (a ≤ (32 : Int)) → post (a_2,
  ())) (post (Bool.false, ()))
theorem Lx_cube_good (a : Int) : Fx_cube_good  a (fun r => r = goodCR a) := by
  rintro _ rfl
  refine Br.intro (fun e => ?_) fun e => ?_
  · rintro _ rfl
    refine congrArg r1 ?_
    show _ = goodC a
    unfold goodC
    rw [show decide ((1 : Int) ≤ a) = true from e, Bool.true_and]
  · refine congrArg r1 ?_
    show _ = goodC a
    unfold goodC
    rw [show decide ((1 : Int) ≤ a) = false from e, Bool.false_and]
def Fx_cube_Cells := fun (a : Int) (post : Int × Unit → Prop) => ∃ (h : True), ∀ (a_1 : Bool), a_1 = (goodCR a).fst → Br (!a_1) (post ((0 : Int), ())) (post (IntKind.i64.wrap
  (IntKind.i64.wrap ((6 : Int) * a) * a), ()))
theorem Lx_cube_Cells (a : Int) (h : I64 a) : Fx_cube_Cells  a (fun r => r = cellsR a) := by
  refine ⟨trivial, ?_⟩
  rintro _ rfl
  refine Br.intro (fun e => ?_) fun e => ?_
  · have e : (!goodC a) = true := e
    exact congrArg r1 (cells_bad (by simpa using e)).symm
  · have e : (!goodC a) = false := e
    exact congrArg r1 (cells_wrap (by simpa using e))
def Fx_cube_Place := fun (n c : Int) (post : Int × Int × Int × Bool × Unit → Prop) => ∀ (a : Bool), a = decide (c < (0 : Int)) → Br a (post ((0 : Int), (0 : Int), (0 : Int),
  Bool.false, ())) (∃ (h : I64 n), ∀ (a : Bool), a = decide (c ≥ (cellsR n).fst) → Br a (post ((0 : Int), (0 : Int), (0 : Int), Bool.false, ())) (∃ (h : IntKind.i64.wrap (n * n) ≠
  (0 : Int)), ∃ (h : n ≠ (0 : Int)), ∃ (h : n ≠ (0 : Int)), ∃ (h : n ≠ (0 : Int)), post (IntKind.i64.wrap (c.tdiv (IntKind.i64.wrap (n * n))), c.tmod n, (IntKind.i64.wrap (c.tdiv
  n)).tmod n, Bool.true, ())))
theorem Lx_cube_Place (n : Int) (c : Int) (h : II n c) : Fx_cube_Place  n c (fun r => r = placeR4 n c) := by
  have bad : placeOk n c = false → ((0 : Int), (0 : Int), (0 : Int), false, ()) = placeR4 n c := by
    intro e; unfold placeR4; rw [if_neg (by rw [e]; decide)]
  rintro _ rfl
  refine Br.intro (fun e => ?_) fun e => ?_
  · have e := of_decide_eq_true e
    exact bad (by unfold placeOk; rw [decide_eq_false (by omega), Bool.false_and])
  · have e := of_decide_eq_false e
    refine ⟨h.1, ?_⟩
    rintro _ rfl
    refine Br.intro (fun f => ?_) fun f => ?_
    · have f : cellsI n ≤ c := of_decide_eq_true f
      exact bad (by unfold placeOk; rw [decide_eq_false (p := c < cellsI n) (by omega), Bool.and_false])
    · have f : ¬ c ≥ cellsI n := of_decide_eq_false f
      have ok : placeOk n c = true := by unfold placeOk; rw [decide_eq_true (by omega), decide_eq_true (by omega)]; rfl
      obtain ⟨h1, h2, h3, h4, h5, h6⟩ := place_facts ok
      obtain ⟨r1, r2, r3, r4, r5, r6⟩ := place_rng ok
      have w1 : IntKind.i64.wrap (n * n) = n * n := wi ⟨by omega, by omega⟩
      have d1 : c.tdiv (n * n) = c / (n * n) := Int.tdiv_eq_ediv_of_nonneg h3
      have d2 : c.tdiv n = c / n := Int.tdiv_eq_ediv_of_nonneg h3
      have d3 : 0 ≤ c / n ∧ c / n ≤ c := ⟨Int.ediv_nonneg h3 (by omega), Int.ediv_le_self _ h3⟩
      have w2 : IntKind.i64.wrap (c / n) = c / n := wi ⟨by omega, by have := h.2; unfold I64 at this; omega⟩
      have w3 : IntKind.i64.wrap (c / (n * n)) = c / (n * n) := wi ⟨by omega, by omega⟩
      refine ⟨by rw [w1]; omega, by omega, by omega, by omega, ?_⟩
      rw [w1, d1, w3, d2, w2, Int.tmod_eq_emod_of_nonneg h3, Int.tmod_eq_emod_of_nonneg d3.1]
      unfold placeR4; rw [if_pos ok]
end Go.Lift

set_option linter.unusedVariables false
set_option linter.unusedSimpArgs false
namespace Go.Lift
open Go.Proofs
def Rbx_cube_good : Cx := ⟨tabOf Rbtab, conOf [], RbG⟩
theorem Rbx_cube_good_ok : CxOk Tryz.prog Rbx_cube_good := ⟨tabB_sound Rbtab_ok, fun f c h => by cases h⟩
theorem Rbat_cube_good : FnAt Tryz.prog 97 Tryz.f97.ntmps Tryz.f97.results.toList (Tryz.f97.body.getD .skip) := ⟨Tryz.f97, Tryz.func97, rfl, rfl, by simp, by decide⟩
theorem Rbeq_cube_good (a : Int) (post : Bool × Unit → Prop) : fnEval Rbx_cube_good nHn Tryz.f97.ntmps Tryz.f97.results.toList (Tryz.f97.body.getD .skip) [.int .i64] [.snap .bool] (a, ()) post = Fx_cube_good  a post := by kernel_rfl
theorem Rbh_cube_good : Rbq_cube_good.holds Tryz.prog RbG 97 :=
  detP Rbx_cube_good_ok Rbmixed nHn Rbat_cube_good (F := fun x post => Fx_cube_good  x.1 post) (fun x post => Rbeq_cube_good x.1 post) fun x _ _ => Lx_cube_good  x.1
def Rbx_cube_Cells : Cx := ⟨tabOf Rbtab, conOf [(97, Rbq_cube_good)], RbG⟩
theorem Rbx_cube_Cells_ok : CxOk Tryz.prog Rbx_cube_Cells := ⟨tabB_sound Rbtab_ok, conOf_sound ⟨Rbh_cube_good, trivial⟩⟩
theorem Rbat_cube_Cells : FnAt Tryz.prog 58 Tryz.f58.ntmps Tryz.f58.results.toList (Tryz.f58.body.getD .skip) := ⟨Tryz.f58, Tryz.func58, rfl, rfl, by simp, by decide⟩
theorem Rbeq_cube_Cells (a : Int) (post : Int × Unit → Prop) : fnEval Rbx_cube_Cells nHn Tryz.f58.ntmps Tryz.f58.results.toList (Tryz.f58.body.getD .skip) [.int .i64] [.snap (.int .i64)] (a, ()) post = Fx_cube_Cells  a post := by kernel_rfl
theorem Rbh_cube_Cells : Rbq_cube_Cells.holds Tryz.prog RbG 58 :=
  detP Rbx_cube_Cells_ok Rbmixed nHn Rbat_cube_Cells (F := fun x post => Fx_cube_Cells  x.1 post) (fun x post => Rbeq_cube_Cells x.1 post) fun x h _ => Lx_cube_Cells  x.1 h
def Rbx_cube_Place : Cx := ⟨tabOf Rbtab, conOf [(58, Rbq_cube_Cells)], RbG⟩
theorem Rbx_cube_Place_ok : CxOk Tryz.prog Rbx_cube_Place := ⟨tabB_sound Rbtab_ok, conOf_sound ⟨Rbh_cube_Cells, trivial⟩⟩
theorem Rbat_cube_Place : FnAt Tryz.prog 79 Tryz.f79.ntmps Tryz.f79.results.toList (Tryz.f79.body.getD .skip) := ⟨Tryz.f79, Tryz.func79, rfl, rfl, by simp, by decide⟩
theorem Rbeq_cube_Place (n : Int) (c : Int) (post : Int × Int × Int × Bool × Unit → Prop) : fnEval Rbx_cube_Place nHn Tryz.f79.ntmps Tryz.f79.results.toList (Tryz.f79.body.getD .skip) [.int .i64, .int .i64] [.snap (.int .i64), .snap (.int .i64), .snap (.int .i64), .snap .bool] (n, c, ()) post = Fx_cube_Place  n c post := by kernel_rfl
theorem Rbh_cube_Place : Rbq_cube_Place.holds Tryz.prog RbG 79 :=
  detP Rbx_cube_Place_ok Rbmixed nHn Rbat_cube_Place (F := fun x post => Fx_cube_Place  x.1 x.2.1 post) (fun x post => Rbeq_cube_Place x.1 x.2.1 post) fun x h _ => Lx_cube_Place  x.1 x.2.1 h
end Go.Lift

set_option linter.unusedVariables false
set_option linter.unusedSimpArgs false
namespace Go.Lift
def Fx_cube_Beside := fun (ty105 ty111 ty109 : Nat) (n c o : Int) (post : Int × Int × Unit → Prop) => ∃ (h : II n c), Br (!(placeR4 n c).snd.snd.snd.fst) (post ((-1 : Int), (0 :
  Int), ())) (∀ (a : Bool), a = decide (o < (0 : Int)) → Br a (post ((-1 : Int), (0 : Int), ())) (∀ (a : Bool), a = decide (o ≥ (4 : Int)) → Br a (post ((-1 : Int), (0 : Int), ()))
  (∃ (h : (List.replicate (4 : Nat) (K.arr (2 : Nat) (K.int IntKind.i64)).dflt).length = (4 : Nat) ∧ (4 : Nat) = (4 : Nat)), ∃ (h : (0 : Int) ≤ o ∧ o < (↑(4 : Nat) : Int) ∧ (4 :
  Nat) ≤ (4 : Nat)), ∃ (h : (0 : Int) ≤ (0 : Int) ∧ (0 : Int) < (↑(2 : Nat) : Int)), ∃ (h : (0 : Int) ≤ o ∧ o < (↑(4 : Nat) : Int) ∧ (4 : Nat) ≤ (4 : Nat)), ∃ (h : (0 : Int) ≤ (1 :
  Int) ∧ (1 : Int) < (↑(2 : Nat) : Int)), ∃ (h : IIII n (placeR4 n c).fst (IntKind.i64.wrap ((placeR4 n c).snd.fst + List.getD ([[(1 : Int), (0 : Int)], [(0 : Int), (1 : Int)], [(-1
  : Int), (0 : Int)], [(0 : Int), (-1 : Int)]].getD o.toNat (K.arr (2 : Nat) (K.int IntKind.i64)).dflt) (0 : Nat) (0 : Int))) (IntKind.i64.wrap ((placeR4 n c).snd.snd.fst +
  List.getD ([[(1 : Int), (0 : Int)], [(0 : Int), (1 : Int)], [(-1 : Int), (0 : Int)], [(0 : Int), (-1 : Int)]].getD o.toNat (K.arr (2 : Nat) (K.int IntKind.i64)).dflt) ((nat_lit 0
  + (1 : Nat)) / (K.int IntKind.i64).sz) (0 : Int)))), ∀ (a : Int × Unit), a = cellR n (placeR4 n c).fst (IntKind.i64.wrap ((placeR4 n c).snd.fst + List.getD ([[(1 : Int), (0 :
  Int)], [(0 : Int), (1 : Int)], [(-1 : Int), (0 : Int)], [(0 : Int), (-1 : Int)]].getD o.toNat (K.arr (2 : Nat) (K.int IntKind.i64)).dflt) (0 : Nat) (0 : Int))) (IntKind.i64.wrap
  ((placeR4 n c).snd.snd.fst + List.getD ([[(1 : Int), (0 : Int)], [(0 : Int), (1 : Int)], [(-1 : Int), (0 : Int)], [(0 : Int), (-1 : Int)]].getD o.toNat (K.arr (2 : Nat) (K.int
  IntKind.i64)).dflt) ((nat_lit 0 + (1 : Nat)) / (K.int IntKind.i64).sz) (0 : Int))) → ∀ (a_1 : Bool), a_1 = decide (a.fst ≥ (0 : Int)) → Br a_1 (∃ (h : (4 : Int) ≠ (0 : Int)), post
  (a.fst, (IntKind.i64.wrap (o + (2 : Int))).tmod (4 : Int), ())) (∃ (h : (0 : Int) ≤ (placeR4 n c).fst ∧ (placeR4 n c).fst < (↑(6 : Nat) : Int)), ∃ (h : WOut (framesL.getD (placeR4
  n c).fst.toNat (K.arr (3 : Nat) (K.arr (3 : Nat) (K.int IntKind.i64))).dflt) o), ∀ (a : List Int × Unit), a = outR (framesL.getD (placeR4 n c).fst.toNat (K.arr (3 : Nat) (K.arr (3
  : Nat) (K.int IntKind.i64))).dflt) o → ∃ (h : True), ∀ (a_2 : Int × Unit), a_2 = faceAtR a.fst → ∃ (h : (0 : Int) ≤ a_2.fst ∧ a_2.fst < (↑(6 : Nat) : Int)), ∃ (h : (List.replicate
  (3 : Nat) (K.arr (3 : Nat) (K.int IntKind.i64)).dflt).length = (3 : Nat) ∧ List.length (framesL.getD a_2.fst.toNat (K.arr (3 : Nat) (K.arr (3 : Nat) (K.int IntKind.i64))).dflt) =
  (3 : Nat)), ∃ (h : WMiddle n (placeR4 n c).fst (placeR4 n c).snd.fst (placeR4 n c).snd.snd.fst), ∀ (a : List Int × Unit), a = middleR' n (placeR4 n c).fst (placeR4 n c).snd.fst
  (placeR4 n c).snd.snd.fst → ∃ (h : (0 : Int) ≤ (placeR4 n c).fst ∧ (placeR4 n c).fst < (↑(6 : Nat) : Int)), ∃ (h : WOut (framesL.getD (placeR4 n c).fst.toNat (K.arr (3 : Nat)
  (K.arr (3 : Nat) (K.int IntKind.i64))).dflt) o), ∀ (a_3 : List Int × Unit), a_3 = outR (framesL.getD (placeR4 n c).fst.toNat (K.arr (3 : Nat) (K.arr (3 : Nat) (K.int
  IntKind.i64))).dflt) o → ∃ (h : WPlus a.fst a_3.fst), ∀ (a_4 : List Int × Unit), a_4 = plusR a.fst a_3.fst → ∃ (h : (List.replicate (3 : Nat) (0 : Int)).length = (3 : Nat) ∧
  a_4.fst.length = (3 : Nat)), ∃ (h : a_4.fst.length = (3 : Nat)), ∃ (h : (0 : Int) ≤ (1 : Int) ∧ (1 : Int) < (↑(3 : Nat) : Int) ∧ (3 : Nat) ≤ List.length (framesL.getD
  a_2.fst.toNat (K.arr (3 : Nat) (K.arr (3 : Nat) (K.int IntKind.i64))).dflt)), ∃ (h : WDot a_4.fst (List.getD (framesL.getD a_2.fst.toNat (K.arr (3 : Nat) (K.arr (3 : Nat) (K.int
  IntKind.i64))).dflt) (Int.toNat (1 : Int)) (K.arr (3 : Nat) (K.int IntKind.i64)).dflt)), ∀ (a : Int × Unit), a = dotR a_4.fst (List.getD (framesL.getD a_2.fst.toNat (K.arr (3 :
  Nat) (K.arr (3 : Nat) (K.int IntKind.i64))).dflt) (Int.toNat (1 : Int)) (K.arr (3 : Nat) (K.int IntKind.i64)).dflt) → ∃ (h : WIndex n a.fst), ∀ (a_5 : Int × Unit), a_5 = indexR n
  a.fst → ∃ (h : a_4.fst.length = (3 : Nat)), ∃ (h : (0 : Int) ≤ (2 : Int) ∧ (2 : Int) < (↑(3 : Nat) : Int) ∧ (3 : Nat) ≤ List.length (framesL.getD a_2.fst.toNat (K.arr (3 : Nat)
  (K.arr (3 : Nat) (K.int IntKind.i64))).dflt)), ∃ (h : WDot a_4.fst (List.getD (framesL.getD a_2.fst.toNat (K.arr (3 : Nat) (K.arr (3 : Nat) (K.int IntKind.i64))).dflt) (Int.toNat
  (2 : Int)) (K.arr (3 : Nat) (K.int IntKind.i64)).dflt)), ∀ (a : Int × Unit), a = dotR a_4.fst (List.getD (framesL.getD a_2.fst.toNat (K.arr (3 : Nat) (K.arr (3 : Nat) (K.int
  IntKind.i64))).dflt) (Int.toNat (2 : Int)) (K.arr (3 : Nat) (K.int IntKind.i64)).dflt) → ∃ (h : WIndex n a.fst), ∀ (a_6 : Int × Unit), a_6 = indexR n a.fst → ∃ (h : IIII n a_2.fst
  a_5.fst a_6.fst), ∀ (a : Int × Unit), a = cellR n a_2.fst a_5.fst a_6.fst → HIs [HObj.row Md.rw ty105 (K.arr (2 : Nat) (K.int IntKind.i64)) [[(1 : Int), (0 : Int)], [(0 : Int), (1
  : Int)], [(-1 : Int), (0 : Int)], [(0 : Int), (-1 : Int)]], HObj.row Md.rw ty111 (K.arr (3 : Nat) (K.int IntKind.i64)) (framesL.getD a_2.fst.toNat (K.arr (3 : Nat) (K.arr (3 :
  Nat) (K.int IntKind.i64))).dflt), HObj.row Md.rw ty109 (K.int IntKind.i64) a_4.fst] [HObj.row Md.rw ty105 (K.arr (2 : Nat) (K.int IntKind.i64)) [[(1 : Int), (0 : Int)], [(0 :
  Int), (1 : Int)], [(-1 : Int), (0 : Int)], [(0 : Int), (-1 : Int)]], HObj.row Md.rw ty111 (K.arr (3 : Nat) (K.int IntKind.i64)) (framesL.getD a_2.fst.toNat (K.arr (3 : Nat) (K.arr
  (3 : Nat) (K.int IntKind.i64))).dflt), HObj.row Md.rw ty109 (K.int IntKind.i64) a_4.fst] ∧ ∃ (I : Int × Unit → Unit → Prop), ∃ (μ : Int × Unit → Unit → Nat), I ((0 : Int), ()) ()
  ∧ ∀ (x : Int × Unit) (y : Unit), I x y → ∀ (a_7 : Bool), a_7 = decide (x.fst < (4 : Int)) → Br a_7 (∃ (h : List.length (framesL.getD a_2.fst.toNat (K.arr (3 : Nat) (K.arr (3 :
  Nat) (K.int IntKind.i64))).dflt) = (3 : Nat)), ∃ (h : WOut (framesL.getD a_2.fst.toNat (K.arr (3 : Nat) (K.arr (3 : Nat) (K.int IntKind.i64))).dflt) x.fst), ∀ (a_8 : List Int ×
  Unit), a_8 = outR (framesL.getD a_2.fst.toNat (K.arr (3 : Nat) (K.arr (3 : Nat) (K.int IntKind.i64))).dflt) x.fst → ∃ (h : (0 : Int) ≤ (placeR4 n c).fst ∧ (placeR4 n c).fst < (↑(6
  : Nat) : Int)), ∃ (h : (0 : Int) ≤ (0 : Int) ∧ (0 : Int) < (↑(3 : Nat) : Int)), ∀ (a_9 : Bool), a_9 = eqL a_8.fst (List.getD (framesL.getD (placeR4 n c).fst.toNat (K.arr (3 : Nat)
  (K.arr (3 : Nat) (K.int IntKind.i64))).dflt) (Int.toNat (0 : Int)) (K.arr (3 : Nat) (K.int IntKind.i64)).dflt) → Br a_9 (post (a.fst, x.fst, ())) (HIs [HObj.row Md.rw ty105 (K.arr
  (2 : Nat) (K.int IntKind.i64)) [[(1 : Int), (0 : Int)], [(0 : Int), (1 : Int)], [(-1 : Int), (0 : Int)], [(0 : Int), (-1 : Int)]], HObj.row Md.rw ty111 (K.arr (3 : Nat) (K.int
  IntKind.i64)) (framesL.getD a_2.fst.toNat (K.arr (3 : Nat) (K.arr (3 : Nat) (K.int IntKind.i64))).dflt), HObj.row Md.rw ty109 (K.int IntKind.i64) a_4.fst] [HObj.row Md.rw ty105
  (K.arr (2 : Nat) (K.int IntKind.i64)) [[(1 : Int), (0 : Int)], [(0 : Int), (1 : Int)], [(-1 : Int), (0 : Int)], [(0 : Int), (-1 : Int)]], HObj.row Md.rw ty111 (K.arr (3 : Nat)
  (K.int IntKind.i64)) (framesL.getD a_2.fst.toNat (K.arr (3 : Nat) (K.arr (3 : Nat) (K.int IntKind.i64))).dflt), HObj.row Md.rw ty109 (K.int IntKind.i64) a_4.fst] ∧ I
  (IntKind.i64.wrap (x.fst + (1 : Int)), ()) () ∧ μ (IntKind.i64.wrap (x.fst + (1 : Int)), ()) () < μ x y)) (post ((-1 : Int), (0 : Int), ()))))))
theorem Lx_cube_Beside (ty0 ty1 ty2 : Nat) (n : Int) (c : Int) (o : Int) (h : III n c o) : Fx_cube_Beside ty0 ty1 ty2 n c o (fun r => r = besideR n c o) := by
  refine ⟨⟨h.1, h.2.1⟩, ?_⟩
  have no : besideOk n c o = false → ((-1 : Int), (0 : Int), ()) = besideR n c o := by
    intro q
    have : besideI n c o = (-1, 0) := by unfold besideI; rw [if_neg (by rw [q]; decide)]
    unfold besideR; rw [this]
  by_cases ok : placeOk n c = true
  · rw [place_eq ok]
    have hm := place_mid ok
    have hh := hm
    obtain ⟨n1, n2, f0, f5, i0, i1, j0, j1⟩ := hh
    dsimp only
    refine Br.intro (fun e => absurd e (by decide)) fun _ => ?_
    rintro _ rfl
    refine Br.intro (fun e => no ?_) fun e => ?_
    · have e := of_decide_eq_true e
      unfold besideOk; rw [decide_eq_false (p := 0 ≤ o) (by omega)]; simp
    have o0 := of_decide_eq_false e
    rintro _ rfl
    refine Br.intro (fun e => no ?_) fun e => ?_
    · have e := of_decide_eq_true e
      unfold besideOk; rw [decide_eq_false (p := o < 4) (by omega)]; simp
    have o4 := of_decide_eq_false e
    have o0 : 0 ≤ o := by omega
    have o4 : o < 4 := by omega
    have okb : besideOk n c o = true := by unfold besideOk; rw [ok, decide_eq_true o0, decide_eq_true o4]; rfl
    have d := dxy (o := o)
    obtain ⟨F, hF⟩ : ∃ F, c / (n * n) = F := ⟨_, rfl⟩
    obtain ⟨i, hi0⟩ : ∃ i, c % n = i := ⟨_, rfl⟩
    obtain ⟨j, hj0⟩ : ∃ j, c / n % n = j := ⟨_, rfl⟩
    have hb : besideI n c o = if 0 ≤ cellI n F (i + dxI o) (j + dyI o) then (cellI n F (i + dxI o) (j + dyI o), Int.tmod (o + 2) 4) else overI n F i j o := by
      unfold besideI; rw [if_pos okb, hF, hi0, hj0]
    rw [hF, hi0, hj0]
    rw [hF] at hm f0 f5
    rw [hi0] at hm i0 i1
    rw [hj0] at hm j0 j1
    have w1 : IntKind.i64.wrap (i + dxI o) = i + dxI o := wi ⟨by omega, by omega⟩
    have w2 : IntKind.i64.wrap (j + dyI o) = j + dyI o := wi ⟨by omega, by omega⟩
    have i6 : ∀ {z : Int}, -1 ≤ z → z ≤ 6144 → I64 z := fun {z} a b => ⟨by omega, by omega⟩
    have fb := frame_bd f0 f5
    have wo : ∀ q, WOut (frameL F) q := fun q => ⟨(fb 1).mono (by decide), (fb 2).mono (by decide)⟩
    refine ⟨⟨rfl, rfl⟩, ⟨o0, o4, Nat.le_refl _⟩, ⟨by decide, by decide⟩, ⟨o0, o4, Nat.le_refl _⟩, ⟨by decide, by decide⟩, ⟨h.1, i6 (by omega) (by omega), i64_wrap _, i64_wrap _⟩, ?_⟩
    intro a ha
    have ha : a = cellR n F (IntKind.i64.wrap (i + dxI o)) (IntKind.i64.wrap (j + dyI o)) := ha.trans (by rw [← dx_get o0 o4, ← dy_get o0 o4]; rfl)
    rw [w1, w2] at ha
    obtain ⟨a, ⟨⟩⟩ := a
    have ha : a = cellI n F (i + dxI o) (j + dyI o) := congrArg Prod.fst ha
    rw [← ha] at hb
    rintro _ rfl
    refine Br.intro (fun e => ?_) fun e => ?_
    · have e : a ≥ 0 := of_decide_eq_true e
      rw [if_pos e] at hb
      refine ⟨by decide, ?_⟩
      have : IntKind.i64.wrap (o + 2) = o + 2 := wi ⟨by omega, by omega⟩
      rw [this]
      unfold besideR; rw [hb]
    have e : ¬ 0 ≤ a := of_decide_eq_false e
    rw [if_neg e] at hb
    refine ⟨⟨f0, by show F < 6; omega⟩, wo o, ?_⟩
    rintro ⟨v1, ⟨⟩⟩ hv1
    have e1 : v1 = outF (frameL F) o := congrArg Prod.fst hv1
    refine ⟨trivial, ?_⟩
    rintro ⟨t, ⟨⟩⟩ ht
    have et : t = faceAtI (outF (frameL F) o) := by rw [← e1]; exact congrArg Prod.fst ht
    obtain ⟨t0, t5⟩ := face_at f0 f5 o0 o4
    rw [← et] at t0 t5
    have fl := frame_len t0 t5
    have tb := frame_bd t0 t5
    refine ⟨⟨t0, by show t < 6; omega⟩, ⟨rfl, fl⟩, hm, ?_⟩
    rintro ⟨p, ⟨⟩⟩ hp
    have ep : p = middleI n F i j := congrArg Prod.fst hp
    have pb : Bd 96 p := by rw [ep]; exact middle_bd hm
    refine ⟨⟨f0, by show F < 6; omega⟩, wo o, ?_⟩
    rintro ⟨v2, ⟨⟩⟩ hv2
    have e2 : v2 = outF (frameL F) o := congrArg Prod.fst hv2
    have vb : Bd 1 v2 := by rw [e2]; exact out_bd f0 f5 o
    refine ⟨⟨pb.mono (by decide), vb.mono (by decide)⟩, ?_⟩
    rintro ⟨q, ⟨⟩⟩ hq
    have eq : q = plusW p v2 := congrArg Prod.fst hq
    have ql : q.length = 3 := by rw [eq]; rfl
    have qb : Bd 97 q := by rw [eq]; exact plus_bd pb vb
    refine ⟨⟨rfl, ql⟩, ql, ⟨by decide, by decide, Nat.le_of_eq fl.symm⟩, ⟨qb.mono (by decide), (tb 1).mono (by decide)⟩, ?_⟩
    rintro ⟨d1, ⟨⟩⟩ hd1
    have ed1 : d1 = dotW q (wayAt (frameL t) 1) := congrArg Prod.fst hd1
    have db1 := dot_bd qb (tb 1)
    rw [← ed1] at db1
    refine ⟨⟨n1, n2, by omega, by omega⟩, ?_⟩
    rintro ⟨x1, ⟨⟩⟩ hx1
    have ex1 : x1 = indexI n d1 := congrArg Prod.fst hx1
    have xb1 := index_rng (a := d1) n1
    rw [← ex1] at xb1
    refine ⟨ql, ⟨by decide, by decide, Nat.le_of_eq fl.symm⟩, ⟨qb.mono (by decide), (tb 2).mono (by decide)⟩, ?_⟩
    rintro ⟨d2, ⟨⟩⟩ hd2
    have ed2 : d2 = dotW q (wayAt (frameL t) 2) := congrArg Prod.fst hd2
    have db2 := dot_bd qb (tb 2)
    rw [← ed2] at db2
    refine ⟨⟨n1, n2, by omega, by omega⟩, ?_⟩
    rintro ⟨x2, ⟨⟩⟩ hx2
    have ex2 : x2 = indexI n d2 := congrArg Prod.fst hx2
    have xb2 := index_rng (a := d2) n1
    rw [← ex2] at xb2
    refine ⟨⟨h.1, i6 (by omega) (by omega), i6 (by omega) (by omega), i6 (by omega) (by omega)⟩, ?_⟩
    rintro ⟨cc, ⟨⟩⟩ hcc
    have ecc : cc = cellI n t x1 x2 := congrArg Prod.fst hcc
    have hov : besideI n c o = backN (frameL t) (wayAt (frameL F) 0) cc 4 0 := by
      rw [hb, ecc, ex1, ex2, ed1, ed2, eq, ep, e2, et]; rfl
    refine ⟨rfl, fun x _ => ∃ k : Nat, x.1 = k ∧ k ≤ 4 ∧ besideI n c o = backN (frameL t) (wayAt (frameL F) 0) cc (4 - k) k, fun x _ => 4 - x.1.toNat, ⟨0, rfl, by omega, hov⟩, ?_⟩
    rintro ⟨_, ⟨⟩⟩ _ ⟨k, rfl, hk, hi⟩
    dsimp only
    rintro _ rfl
    refine Br.intro (fun g => ?_) fun g => ?_
    · have g : k < 4 := by have g : (k : Int) < 4 := of_decide_eq_true g; omega
      refine ⟨fl, ⟨(tb 1).mono (by decide), (tb 2).mono (by decide)⟩, ?_⟩
      rintro ⟨v3, ⟨⟩⟩ hv3
      have e3 : v3 = outF (frameL t) k := congrArg Prod.fst hv3
      refine ⟨⟨f0, by show F < 6; omega⟩, ⟨by decide, by decide⟩, ?_⟩
      intro z hz
      have hz : z = decide (outF (frameL t) k = wayAt (frameL F) 0) := by rw [← e3]; exact hz
      obtain ⟨r, hr⟩ : ∃ r, 4 - k = r + 1 := ⟨3 - k, by omega⟩
      rw [hr] at hi
      unfold backN at hi
      rw [hz, wi_succ g (by omega)]
      refine Br.intro (fun y => ?_) fun y => ?_
      · rw [if_pos (of_decide_eq_true y)] at hi
        unfold besideR; rw [hi]
      · rw [if_neg (of_decide_eq_false y)] at hi
        exact ⟨rfl, ⟨k + 1, rfl, by omega, by rw [show 4 - (k + 1) = r by omega]; exact hi⟩, by omega⟩
    · have g : k = 4 := by have g : ¬ (k : Int) < 4 := of_decide_eq_false g; omega
      subst g
      have hi : besideI n c o = (-1, 0) := hi
      unfold besideR; rw [hi]
  · rw [place_no ok]
    refine Br.intro (fun _ => no ?_) fun e => absurd e (by decide)
    unfold besideOk; rw [show placeOk n c = false by simpa using ok]; rfl
end Go.Lift

set_option linter.unusedVariables false
set_option linter.unusedSimpArgs false
namespace Go.Lift
def Fx_cube_way_times := fun (a : List Int) (k : Int) (post : List Int × Unit → Prop) => ∃ (h : (0 : Int) ≤ (0 : Int) ∧ (0 : Int) < (↑(3 : Nat) : Int) ∧ (3 : Nat) ≤ a.length), ∃ (h
  : (0 : Int) ≤ (1 : Int) ∧ (1 : Int) < (↑(3 : Nat) : Int) ∧ (3 : Nat) ≤ a.length), ∃ (h : (0 : Int) ≤ (2 : Int) ∧ (2 : Int) < (↑(3 : Nat) : Int) ∧ (3 : Nat) ≤ a.length), ∃ (h :
  (List.replicate (3 : Nat) (0 : Int)).length = (3 : Nat) ∧ (3 : Nat) = (3 : Nat)), ∃ (h : (3 : Nat) = (3 : Nat)), post ([IntKind.i64.wrap (k * a.getD (Int.toNat (0 : Int)) (0 :
  Int)), IntKind.i64.wrap (k * a.getD (Int.toNat (1 : Int)) (0 : Int)), IntKind.i64.wrap (k * a.getD (Int.toNat (2 : Int)) (0 : Int))], ())
theorem Lx_cube_way_times (a : List Int) (k : Int) (h : WTimes a k) (w : KS.wf [kWay, .int .i64] (a, k, ())) : Fx_cube_way_times  a k (fun r => r = timesR a k) := by
  have hl : a.length = 3 := w.1.1
  obtain ⟨hb, k1, k2⟩ := h
  have W : ∀ i : Nat, IntKind.i64.wrap (k * a.getD i 0) = k * a.getD i 0 := fun i => by
    have := mul_bd k1 k2 (hb i).1 (hb i).2
    exact wi ⟨by omega, by omega⟩
  refine ⟨⟨by decide, by decide, by omega⟩, ⟨by decide, by decide, by omega⟩, ⟨by decide, by decide, by omega⟩, ⟨rfl, rfl⟩, rfl, ?_⟩
  show ([IntKind.i64.wrap (k * a.getD 0 0), IntKind.i64.wrap (k * a.getD 1 0), IntKind.i64.wrap (k * a.getD 2 0)], ()) = timesR a k
  rw [W, W, W]; rfl
def Fx_cube_way_plus := fun (a b : List Int) (post : List Int × Unit → Prop) => ∃ (h : (0 : Int) ≤ (0 : Int) ∧ (0 : Int) < (↑(3 : Nat) : Int) ∧ (3 : Nat) ≤ a.length), ∃ (h : (0 :
  Int) ≤ (0 : Int) ∧ (0 : Int) < (↑(3 : Nat) : Int) ∧ (3 : Nat) ≤ b.length), ∃ (h : (0 : Int) ≤ (1 : Int) ∧ (1 : Int) < (↑(3 : Nat) : Int) ∧ (3 : Nat) ≤ a.length), ∃ (h : (0 : Int)
  ≤ (1 : Int) ∧ (1 : Int) < (↑(3 : Nat) : Int) ∧ (3 : Nat) ≤ b.length), ∃ (h : (0 : Int) ≤ (2 : Int) ∧ (2 : Int) < (↑(3 : Nat) : Int) ∧ (3 : Nat) ≤ a.length), ∃ (h : (0 : Int) ≤ (2
  : Int) ∧ (2 : Int) < (↑(3 : Nat) : Int) ∧ (3 : Nat) ≤ b.length), ∃ (h : (List.replicate (3 : Nat) (0 : Int)).length = (3 : Nat) ∧ (3 : Nat) = (3 : Nat)), ∃ (h : (3 : Nat) = (3 :
  Nat)), post ([IntKind.i64.wrap (a.getD (Int.toNat (0 : Int)) (0 : Int) + b.getD (Int.toNat (0 : Int)) (0 : Int)), IntKind.i64.wrap (a.getD (Int.toNat (1 : Int)) (0 : Int) + b.getD
  (Int.toNat (1 : Int)) (0 : Int)), IntKind.i64.wrap (a.getD (Int.toNat (2 : Int)) (0 : Int) + b.getD (Int.toNat (2 : Int)) (0 : Int))], ())
theorem Lx_cube_way_plus (a : List Int) (b : List Int) (h : WPlus a b) (w : KS.wf [kWay, kWay] (a, b, ())) : Fx_cube_way_plus  a b (fun r => r = plusR a b) := by
  have hl : a.length = 3 := w.1.1
  have hm : b.length = 3 := w.2.1.1
  obtain ⟨ha, hb⟩ := h
  have W : ∀ i : Nat, IntKind.i64.wrap (a.getD i 0 + b.getD i 0) = a.getD i 0 + b.getD i 0 := fun i => by
    have := ha i; have := hb i
    exact wi ⟨by omega, by omega⟩
  refine ⟨⟨by decide, by decide, by omega⟩, ⟨by decide, by decide, by omega⟩, ⟨by decide, by decide, by omega⟩, ⟨by decide, by decide, by omega⟩, ⟨by decide, by decide, by omega⟩, ⟨by decide, by decide, by omega⟩, ⟨rfl, rfl⟩, rfl, ?_⟩
  show ([IntKind.i64.wrap (a.getD 0 0 + b.getD 0 0), IntKind.i64.wrap (a.getD 1 0 + b.getD 1 0), IntKind.i64.wrap (a.getD 2 0 + b.getD 2 0)], ()) = plusR a b
  rw [W, W, W]; rfl
def Fx_cube_way_dot := fun (a b : List Int) (post : Int × Unit → Prop) => ∃ (h : (0 : Int) ≤ (0 : Int) ∧ (0 : Int) < (↑(3 : Nat) : Int) ∧ (3 : Nat) ≤ a.length), ∃ (h : (0 : Int) ≤
  (0 : Int) ∧ (0 : Int) < (↑(3 : Nat) : Int) ∧ (3 : Nat) ≤ b.length), ∃ (h : (0 : Int) ≤ (1 : Int) ∧ (1 : Int) < (↑(3 : Nat) : Int) ∧ (3 : Nat) ≤ a.length), ∃ (h : (0 : Int) ≤ (1 :
  Int) ∧ (1 : Int) < (↑(3 : Nat) : Int) ∧ (3 : Nat) ≤ b.length), ∃ (h : (0 : Int) ≤ (2 : Int) ∧ (2 : Int) < (↑(3 : Nat) : Int) ∧ (3 : Nat) ≤ a.length), ∃ (h : (0 : Int) ≤ (2 : Int)
  ∧ (2 : Int) < (↑(3 : Nat) : Int) ∧ (3 : Nat) ≤ b.length), post (IntKind.i64.wrap (IntKind.i64.wrap (IntKind.i64.wrap (a.getD (Int.toNat (0 : Int)) (0 : Int) * b.getD (Int.toNat (0
  : Int)) (0 : Int)) + IntKind.i64.wrap (a.getD (Int.toNat (1 : Int)) (0 : Int) * b.getD (Int.toNat (1 : Int)) (0 : Int))) + IntKind.i64.wrap (a.getD (Int.toNat (2 : Int)) (0 : Int)
  * b.getD (Int.toNat (2 : Int)) (0 : Int))), ())
theorem Lx_cube_way_dot (a : List Int) (b : List Int) (h : WDot a b) (w : KS.wf [kWay, kWay] (a, b, ())) : Fx_cube_way_dot  a b (fun r => r = dotR a b) := by
  have hl : a.length = 3 := w.1.1
  have hm : b.length = 3 := w.2.1.1
  obtain ⟨ha, hb⟩ := h
  have M : ∀ i : Nat, -(1048576 * 1048576) ≤ a.getD i 0 * b.getD i 0 ∧ a.getD i 0 * b.getD i 0 ≤ 1048576 * 1048576 := fun i => mul_bd (ha i).1 (ha i).2 (hb i).1 (hb i).2
  have m0 := M 0
  have m1 := M 1
  have m2 := M 2
  refine ⟨⟨by decide, by decide, by omega⟩, ⟨by decide, by decide, by omega⟩, ⟨by decide, by decide, by omega⟩, ⟨by decide, by decide, by omega⟩, ⟨by decide, by decide, by omega⟩, ⟨by decide, by decide, by omega⟩, ?_⟩
  show (IntKind.i64.wrap (IntKind.i64.wrap (IntKind.i64.wrap (a.getD 0 0 * b.getD 0 0) + IntKind.i64.wrap (a.getD 1 0 * b.getD 1 0)) + IntKind.i64.wrap (a.getD 2 0 * b.getD 2 0)), ()) = dotR a b
  rw [wi (x := a.getD 0 0 * b.getD 0 0) ⟨by omega, by omega⟩, wi (x := a.getD 1 0 * b.getD 1 0) ⟨by omega, by omega⟩, wi (x := a.getD 2 0 * b.getD 2 0) ⟨by omega, by omega⟩, wi (x := a.getD 0 0 * b.getD 0 0 + a.getD 1 0 * b.getD 1 0) ⟨by omega, by omega⟩, wi ⟨by omega, by omega⟩]
  rfl
def Fx_cube_frame_out := fun (f : List (List Int)) (s : Int) (post : List Int × Unit → Prop) => ∀ (a : Bool), a = (s == (0 : Int)) → Br a (∃ (h : (0 : Int) ≤ (1 : Int) ∧ (1 : Int) <
  (↑(3 : Nat) : Int) ∧ (3 : Nat) ≤ f.length), ∃ (h : (List.replicate (3 : Nat) (0 : Int)).length = (3 : Nat) ∧ List.length (f.getD (Int.toNat (1 : Int)) (K.arr (3 : Nat) (K.int
  IntKind.i64)).dflt) = (3 : Nat)), ∃ (h : List.length (f.getD (Int.toNat (1 : Int)) (K.arr (3 : Nat) (K.int IntKind.i64)).dflt) = (3 : Nat)), post (f.getD (Int.toNat (1 : Int))
  (K.arr (3 : Nat) (K.int IntKind.i64)).dflt, ())) (∀ (a : Bool), a = (s == (1 : Int)) → Br a (∃ (h : (0 : Int) ≤ (2 : Int) ∧ (2 : Int) < (↑(3 : Nat) : Int) ∧ (3 : Nat) ≤ f.length),
  ∃ (h : (List.replicate (3 : Nat) (0 : Int)).length = (3 : Nat) ∧ List.length (f.getD (Int.toNat (2 : Int)) (K.arr (3 : Nat) (K.int IntKind.i64)).dflt) = (3 : Nat)), ∃ (h :
  List.length (f.getD (Int.toNat (2 : Int)) (K.arr (3 : Nat) (K.int IntKind.i64)).dflt) = (3 : Nat)), post (f.getD (Int.toNat (2 : Int)) (K.arr (3 : Nat) (K.int IntKind.i64)).dflt,
  ())) (∀ (a : Bool), a = (s == (2 : Int)) → Br a (∃ (h : (0 : Int) ≤ (1 : Int) ∧ (1 : Int) < (↑(3 : Nat) : Int) ∧ (3 : Nat) ≤ f.length), ∃ (h : WTimes (f.getD (Int.toNat (1 : Int))
  (K.arr (3 : Nat) (K.int IntKind.i64)).dflt) (-1 : Int)), ∀ (a : List Int × Unit), a = timesR (f.getD (Int.toNat (1 : Int)) (K.arr (3 : Nat) (K.int IntKind.i64)).dflt) (-1 : Int) →
  ∃ (h : (List.replicate (3 : Nat) (0 : Int)).length = (3 : Nat) ∧ a.fst.length = (3 : Nat)), ∃ (h : a.fst.length = (3 : Nat)), post (a.fst, ())) (∃ (h : (0 : Int) ≤ (2 : Int) ∧ (2
  : Int) < (↑(3 : Nat) : Int) ∧ (3 : Nat) ≤ f.length), ∃ (h : WTimes (f.getD (Int.toNat (2 : Int)) (K.arr (3 : Nat) (K.int IntKind.i64)).dflt) (-1 : Int)), ∀ (a : List Int × Unit),
  a = timesR (f.getD (Int.toNat (2 : Int)) (K.arr (3 : Nat) (K.int IntKind.i64)).dflt) (-1 : Int) → ∃ (h : (List.replicate (3 : Nat) (0 : Int)).length = (3 : Nat) ∧ a.fst.length =
  (3 : Nat)), ∃ (h : a.fst.length = (3 : Nat)), post (a.fst, ()))))
theorem Lx_cube_frame_out (f : List (List Int)) (s : Int) (h : WOut f s) (w : KS.wf [kFrame, .int .i64] (f, s, ())) : Fx_cube_frame_out  f s (fun r => r = outR f s) := by
  have hl : f.length = 3 := w.1.1
  have hm : ∀ i, (wayAt f i).length = 3 := fun i => by
    unfold wayAt
    rcases Nat.lt_or_ge i f.length with g | g
    · exact (w.1.2 _ (getD_mem g [0, 0, 0])).1
    · rw [List.getD_eq_getElem?_getD, List.getElem?_eq_none g]; rfl
  obtain ⟨h1, h2⟩ := h
  have t1 : WTimes (wayAt f 1) (-1) := ⟨h1, by decide, by decide⟩
  have t2 : WTimes (wayAt f 2) (-1) := ⟨h2, by decide, by decide⟩
  rintro _ rfl
  refine Br.intro (fun e => ?_) fun e => ?_
  · have e : s = 0 := beq_iff_eq.1 e
    exact ⟨⟨by decide, by decide, by omega⟩, ⟨rfl, hm 1⟩, hm 1, congrArg r1 (by unfold outF; rw [if_pos e]; rfl)⟩
  have e : ¬ s = 0 := fun q => by rw [q] at e; cases e
  rintro _ rfl
  refine Br.intro (fun g => ?_) fun g => ?_
  · have g : s = 1 := beq_iff_eq.1 g
    exact ⟨⟨by decide, by decide, by omega⟩, ⟨rfl, hm 2⟩, hm 2, congrArg r1 (by unfold outF; rw [if_neg e, if_pos g]; rfl)⟩
  have g : ¬ s = 1 := fun q => by rw [q] at g; cases g
  rintro _ rfl
  refine Br.intro (fun j => ?_) fun j => ?_
  · have j : s = 2 := beq_iff_eq.1 j
    refine ⟨⟨by decide, by decide, by omega⟩, t1, ?_⟩
    rintro _ rfl
    exact ⟨⟨rfl, rfl⟩, rfl, congrArg r1 (by unfold outF; rw [if_neg e, if_neg g, if_pos j]; rfl)⟩
  have j : ¬ s = 2 := fun q => by rw [q] at j; cases j
  refine ⟨⟨by decide, by decide, by omega⟩, t2, ?_⟩
  rintro _ rfl
  exact ⟨⟨rfl, rfl⟩, rfl, congrArg r1 (by unfold outF; rw [if_neg e, if_neg g, if_neg j]; rfl)⟩
def Fx_cube_faceAt := fun (ty154 : Nat) (c : List Int) (post : Int × Unit → Prop) => HIs [HObj.row Md.rw ty154 (K.int IntKind.i64) c] [HObj.row Md.rw ty154 (K.int IntKind.i64) c] ∧
  ∃ (I : Int × Unit → Unit → Prop), ∃ (μ : Int × Unit → Unit → Nat), I ((0 : Int), ()) () ∧ ∀ (x : Int × Unit) (y : Unit), I x y → ∀ (a : Bool), a = decide (x.fst < (6 : Int)) → Br
  a (∃ (h : (0 : Int) ≤ x.fst ∧ x.fst < (↑(6 : Nat) : Int)), ∃ (h : (0 : Int) ≤ (0 : Int) ∧ (0 : Int) < (↑(3 : Nat) : Int)), ∃ (h : c.length = (3 : Nat)), ∀ (a : Bool), a = eqL
  (List.getD (framesL.getD x.fst.toNat (K.arr (3 : Nat) (K.arr (3 : Nat) (K.int IntKind.i64))).dflt) (Int.toNat (0 : Int)) (K.arr (3 : Nat) (K.int IntKind.i64)).dflt) c → Br a (post
  (x.fst, ())) (HIs [HObj.row Md.rw ty154 (K.int IntKind.i64) c] [HObj.row Md.rw ty154 (K.int IntKind.i64) c] ∧ I (IntKind.i64.wrap (x.fst + (1 : Int)), ()) () ∧ μ (IntKind.i64.wrap
  (x.fst + (1 : Int)), ()) () < μ x y)) (post ((-1 : Int), ()))
theorem Lx_cube_faceAt (ty0 : Nat) (c : List Int) (w : KS.wf [kWay] (c, ())) : Fx_cube_faceAt ty0 c (fun r => r = faceAtR c) := by
  have hl : c.length = 3 := w.1.1
  refine ⟨rfl, fun x _ => ∃ k : Nat, x.1 = k ∧ k ≤ 6 ∧ faceAtI c = firstI (fun fr => decide (wayAt fr 0 = c)) k (framesL.drop k), fun x _ => 6 - x.1.toNat, ⟨0, rfl, by omega, rfl⟩, ?_⟩
  rintro ⟨_, ⟨⟩⟩ _ ⟨k, rfl, hk, hi⟩
  dsimp only
  rintro _ rfl
  refine Br.intro (fun e => ?_) fun e => ?_
  · have e : k < 6 := by have e : (k : Int) < 6 := of_decide_eq_true e; omega
    refine ⟨⟨by omega, by show (k : Int) < 6; omega⟩, ⟨by decide, by decide⟩, hl, ?_⟩
    rw [drop_step (l := framesL) (i := k) e [[0, 0, 0], [0, 0, 0], [0, 0, 0]], firstI_cons] at hi
    rw [Int.toNat_natCast, wi_succ e (by omega)]
    intro z hz
    have hz : z = decide (wayAt (framesL.getD k [[0, 0, 0], [0, 0, 0], [0, 0, 0]]) 0 = c) := hz
    rw [hz]
    refine Br.intro (fun g => ?_) fun g => ?_
    · rw [if_pos g] at hi
      exact congrArg r1 hi.symm
    · rw [if_neg (by rw [g]; decide)] at hi
      exact ⟨rfl, ⟨k + 1, rfl, by omega, hi⟩, by omega⟩
  · have e : k = 6 := by have e : ¬ (k : Int) < 6 := of_decide_eq_false e; omega
    subst e
    exact congrArg r1 (by rw [hi]; rfl)
def Fx_cube_Cell := fun (n f i j : Int) (post : Int × Unit → Prop) => ∃ (h : True), ∀ (a : Bool), a = (goodCR n).fst → Br (!a) (post ((-1 : Int), ())) (∀ (a : Bool), a = decide (f <
  (0 : Int)) → Br a (post ((-1 : Int), ())) (∀ (a : Bool), a = decide (f ≥ (6 : Int)) → Br a (post ((-1 : Int), ())) (∀ (a : Bool), a = decide (i < (0 : Int)) → Br a (post ((-1 :
  Int), ())) (∀ (a : Bool), a = decide (i ≥ n) → Br a (post ((-1 : Int), ())) (∀ (a : Bool), a = decide (j < (0 : Int)) → Br a (post ((-1 : Int), ())) (∀ (a : Bool), a = decide (j ≥
  n) → Br a (post ((-1 : Int), ())) (post (IntKind.i64.wrap (IntKind.i64.wrap (IntKind.i64.wrap (IntKind.i64.wrap (f * n) + j) * n) + i), ()))))))))
theorem Lx_cube_Cell (n : Int) (f : Int) (i : Int) (j : Int) (h : IIII n f i j) : Fx_cube_Cell  n f i j (fun r => r = cellR n f i j) := by
  obtain ⟨hn, hf, hi, hj⟩ := h
  have no : cellOk n f i j = false → ((-1 : Int), ()) = cellR n f i j := fun q => congrArg r1 (by unfold cellI; rw [if_neg (by rw [q]; decide)])
  have ok : ∀ p, (goodC n && decide (0 ≤ f) && decide (f < 6) && decide (0 ≤ i) && decide (i < n) && decide (0 ≤ j) && decide (j < n)) = p → cellOk n f i j = p := fun p q => q
  refine ⟨trivial, ?_⟩
  intro g hg
  have hg : g = goodC n := hg
  rw [hg]
  refine Br.intro (fun e => no (ok _ ?_)) fun e => ?_
  · have e : goodC n = false := by simpa using e
    rw [e]; rfl
  have e : goodC n = true := by simpa using e
  rintro _ rfl
  refine Br.intro (fun q => no (ok _ ?_)) fun q => ?_
  · rw [decide_eq_false (p := 0 ≤ f) (by have := of_decide_eq_true q; omega)]; simp
  have q1 := of_decide_eq_false q
  rintro _ rfl
  refine Br.intro (fun q => no (ok _ ?_)) fun q => ?_
  · rw [decide_eq_false (p := f < 6) (by have := of_decide_eq_true q; omega)]; simp
  have q2 := of_decide_eq_false q
  rintro _ rfl
  refine Br.intro (fun q => no (ok _ ?_)) fun q => ?_
  · rw [decide_eq_false (p := 0 ≤ i) (by have := of_decide_eq_true q; omega)]; simp
  have q3 := of_decide_eq_false q
  rintro _ rfl
  refine Br.intro (fun q => no (ok _ ?_)) fun q => ?_
  · rw [decide_eq_false (p := i < n) (by have := of_decide_eq_true q; omega)]; simp
  have q4 := of_decide_eq_false q
  rintro _ rfl
  refine Br.intro (fun q => no (ok _ ?_)) fun q => ?_
  · rw [decide_eq_false (p := 0 ≤ j) (by have := of_decide_eq_true q; omega)]; simp
  have q5 := of_decide_eq_false q
  rintro _ rfl
  refine Br.intro (fun q => no (ok _ ?_)) fun q => ?_
  · rw [decide_eq_false (p := j < n) (by have := of_decide_eq_true q; omega)]; simp
  have q6 := of_decide_eq_false q
  have hok : cellOk n f i j = true := by
    unfold cellOk
    rw [e, decide_eq_true (p := 0 ≤ f) (by omega), decide_eq_true (p := f < 6) (by omega), decide_eq_true (p := 0 ≤ i) (by omega), decide_eq_true (p := i < n) (by omega), decide_eq_true (p := 0 ≤ j) (by omega), decide_eq_true (p := j < n) (by omega)]; rfl
  obtain ⟨r0, r1', n1, n2⟩ := cell_rng hok
  have hv : cellI n f i j = (f * n + j) * n + i := by unfold cellI; rw [if_pos hok]
  rw [hv] at r0 r1'
  have sq := sq_bd n1 n2
  have b1 : 0 ≤ f * n := Int.mul_nonneg (by omega) (by omega)
  have b2 : f * n ≤ 5 * n := Int.mul_le_mul_of_nonneg_right (by omega) (by omega)
  have b3 : 0 ≤ (f * n + j) * n := Int.mul_nonneg (by omega) (by omega)
  rw [wi (x := f * n) ⟨by omega, by omega⟩, wi (x := f * n + j) ⟨by omega, by omega⟩, wi (x := (f * n + j) * n) ⟨by omega, by omega⟩, wi (x := (f * n + j) * n + i) ⟨by omega, by omega⟩]
  exact congrArg r1 hv.symm
def Fx_cube_middle := fun (n f i j : Int) (post : List Int × Unit → Prop) => ∃ (h : (0 : Int) ≤ f ∧ f < (↑(6 : Nat) : Int)), ∃ (h : (List.replicate (3 : Nat) (K.arr (3 : Nat) (K.int
  IntKind.i64)).dflt).length = (3 : Nat) ∧ List.length (framesL.getD f.toNat (K.arr (3 : Nat) (K.arr (3 : Nat) (K.int IntKind.i64))).dflt) = (3 : Nat)), ∃ (h : (0 : Int) ≤ (0 : Int)
  ∧ (0 : Int) < (↑(3 : Nat) : Int) ∧ (3 : Nat) ≤ List.length (framesL.getD f.toNat (K.arr (3 : Nat) (K.arr (3 : Nat) (K.int IntKind.i64))).dflt)), ∃ (h : WTimes (List.getD
  (framesL.getD f.toNat (K.arr (3 : Nat) (K.arr (3 : Nat) (K.int IntKind.i64))).dflt) (Int.toNat (0 : Int)) (K.arr (3 : Nat) (K.int IntKind.i64)).dflt) n), ∀ (a : List Int × Unit),
  a = timesR (List.getD (framesL.getD f.toNat (K.arr (3 : Nat) (K.arr (3 : Nat) (K.int IntKind.i64))).dflt) (Int.toNat (0 : Int)) (K.arr (3 : Nat) (K.int IntKind.i64)).dflt) n → ∃
  (h : (0 : Int) ≤ (1 : Int) ∧ (1 : Int) < (↑(3 : Nat) : Int) ∧ (3 : Nat) ≤ List.length (framesL.getD f.toNat (K.arr (3 : Nat) (K.arr (3 : Nat) (K.int IntKind.i64))).dflt)), ∃ (h :
  WTimes (List.getD (framesL.getD f.toNat (K.arr (3 : Nat) (K.arr (3 : Nat) (K.int IntKind.i64))).dflt) (Int.toNat (1 : Int)) (K.arr (3 : Nat) (K.int IntKind.i64)).dflt)
  (IntKind.i64.wrap (IntKind.i64.wrap (IntKind.i64.wrap ((2 : Int) * i) + (1 : Int)) - n))), ∀ (a_1 : List Int × Unit), a_1 = timesR (List.getD (framesL.getD f.toNat (K.arr (3 :
  Nat) (K.arr (3 : Nat) (K.int IntKind.i64))).dflt) (Int.toNat (1 : Int)) (K.arr (3 : Nat) (K.int IntKind.i64)).dflt) (IntKind.i64.wrap (IntKind.i64.wrap (IntKind.i64.wrap ((2 :
  Int) * i) + (1 : Int)) - n)) → ∃ (h : WPlus a.fst a_1.fst), ∀ (a_2 : List Int × Unit), a_2 = plusR a.fst a_1.fst → ∃ (h : (0 : Int) ≤ (2 : Int) ∧ (2 : Int) < (↑(3 : Nat) : Int) ∧
  (3 : Nat) ≤ List.length (framesL.getD f.toNat (K.arr (3 : Nat) (K.arr (3 : Nat) (K.int IntKind.i64))).dflt)), ∃ (h : WTimes (List.getD (framesL.getD f.toNat (K.arr (3 : Nat)
  (K.arr (3 : Nat) (K.int IntKind.i64))).dflt) (Int.toNat (2 : Int)) (K.arr (3 : Nat) (K.int IntKind.i64)).dflt) (IntKind.i64.wrap (IntKind.i64.wrap (IntKind.i64.wrap ((2 : Int) *
  j) + (1 : Int)) - n))), ∀ (a : List Int × Unit), a = timesR (List.getD (framesL.getD f.toNat (K.arr (3 : Nat) (K.arr (3 : Nat) (K.int IntKind.i64))).dflt) (Int.toNat (2 : Int))
  (K.arr (3 : Nat) (K.int IntKind.i64)).dflt) (IntKind.i64.wrap (IntKind.i64.wrap (IntKind.i64.wrap ((2 : Int) * j) + (1 : Int)) - n)) → ∃ (h : WPlus a_2.fst a.fst), ∀ (a_3 : List
  Int × Unit), a_3 = plusR a_2.fst a.fst → ∃ (h : (List.replicate (3 : Nat) (0 : Int)).length = (3 : Nat) ∧ a_3.fst.length = (3 : Nat)), ∃ (h : a_3.fst.length = (3 : Nat)), post
  (a_3.fst, ())
theorem Lx_cube_middle (n : Int) (f : Int) (i : Int) (j : Int) (h : WMiddle n f i j) : Fx_cube_middle  n f i j (fun r => r = middleR' n f i j) := by
  have hh := h
  obtain ⟨n1, n2, f0, f5, i0, i1, j0, j1⟩ := h
  have fl : (framesL.getD f.toNat (K.arr (3 : Nat) (K.arr (3 : Nat) (K.int IntKind.i64))).dflt).length = 3 := frame_len f0 f5
  have b := frame_bd f0 f5
  have t0 : WTimes (wayAt (frameL f) 0) n := ⟨(b 0).mono (by decide), by omega, by omega⟩
  have w1 : IntKind.i64.wrap (IntKind.i64.wrap (IntKind.i64.wrap (2 * i) + 1) - n) = 2 * i + 1 - n := by
    rw [wi (x := 2 * i) ⟨by omega, by omega⟩, wi (x := 2 * i + 1) ⟨by omega, by omega⟩, wi ⟨by omega, by omega⟩]
  have w2 : IntKind.i64.wrap (IntKind.i64.wrap (IntKind.i64.wrap (2 * j) + 1) - n) = 2 * j + 1 - n := by
    rw [wi (x := 2 * j) ⟨by omega, by omega⟩, wi (x := 2 * j + 1) ⟨by omega, by omega⟩, wi ⟨by omega, by omega⟩]
  unfold Fx_cube_middle
  rw [w1, w2]
  have t1 : WTimes (wayAt (frameL f) 1) (2 * i + 1 - n) := ⟨(b 1).mono (by decide), by omega, by omega⟩
  have t2 : WTimes (wayAt (frameL f) 2) (2 * j + 1 - n) := ⟨(b 2).mono (by decide), by omega, by omega⟩
  have c0 := times_bd (q := 32) (b 0) (k := n) (by omega) (by omega)
  have c1 := times_bd (q := 32) (b 1) (k := 2 * i + 1 - n) (by omega) (by omega)
  have c2 := times_bd (q := 32) (b 2) (k := 2 * j + 1 - n) (by omega) (by omega)
  have p1 := plus_bd c0 c1
  refine ⟨⟨f0, by show f < 6; omega⟩, ⟨rfl, fl⟩, ⟨by decide, by decide, by omega⟩, t0, ?_⟩
  rintro _ rfl
  refine ⟨⟨by decide, by decide, by omega⟩, t1, ?_⟩
  rintro _ rfl
  refine ⟨⟨c0.mono (by decide), c1.mono (by decide)⟩, ?_⟩
  rintro _ rfl
  refine ⟨⟨by decide, by decide, by omega⟩, t2, ?_⟩
  rintro _ rfl
  refine ⟨⟨p1.mono (by decide), c2.mono (by decide)⟩, ?_⟩
  rintro _ rfl
  exact ⟨⟨rfl, rfl⟩, rfl, rfl⟩
def Fx_cube_index := fun (n a : Int) (post : Int × Unit → Prop) => ∃ (h : (2 : Int) ≠ (0 : Int)), post (imin (imax (IntKind.i64.wrap ((IntKind.i64.wrap (IntKind.i64.wrap (a + n) -
  (1 : Int))).tdiv (2 : Int))) (0 : Int)) (IntKind.i64.wrap (n - (1 : Int))), ())
theorem Lx_cube_index (n : Int) (a : Int) (h : WIndex n a) : Fx_cube_index  n a (fun r => r = indexR n a) := by
  obtain ⟨n1, n2, a1, a2⟩ := h
  have w1 : IntKind.i64.wrap (IntKind.i64.wrap (a + n) - 1) = a + n - 1 := by
    rw [wi (x := a + n) ⟨by omega, by omega⟩, wi ⟨by omega, by omega⟩]
  have w2 : IntKind.i64.wrap (n - 1) = n - 1 := wi ⟨by omega, by omega⟩
  have w3 : IntKind.i64.wrap (Int.tdiv (a + n - 1) 2) = Int.tdiv (a + n - 1) 2 := by
    have : (Int.tdiv (a + n - 1) 2).natAbs ≤ (a + n - 1).natAbs := by rw [Int.natAbs_tdiv]; exact Nat.div_le_self _ _
    exact wi ⟨by omega, by omega⟩
  exact ⟨by decide, by rw [w1, w2, w3]; rfl⟩
end Go.Lift

set_option linter.unusedVariables false
set_option linter.unusedSimpArgs false
namespace Go.Lift
open Go.Proofs
def Rbx_cube_way_times : Cx := ⟨tabOf Rbtab, conOf [], RbG⟩
theorem Rbx_cube_way_times_ok : CxOk Tryz.prog Rbx_cube_way_times := ⟨tabB_sound Rbtab_ok, fun f c h => by cases h⟩
theorem Rbat_cube_way_times : FnAt Tryz.prog 116 Tryz.f116.ntmps Tryz.f116.results.toList (Tryz.f116.body.getD .skip) := ⟨Tryz.f116, Tryz.func116, rfl, rfl, by simp, by decide⟩
theorem Rbeq_cube_way_times (a : List Int) (k : Int) (post : (List Int) × Unit → Prop) : fnEval Rbx_cube_way_times nHn Tryz.f116.ntmps Tryz.f116.results.toList (Tryz.f116.body.getD .skip) [kWay, .int .i64] [.snap kWay] (a, k, ()) post = Fx_cube_way_times  a k post := by kernel_rfl
theorem Rbh_cube_way_times : Rbq_cube_way_times.holds Tryz.prog RbG 116 :=
  nam_of_det (detP Rbx_cube_way_times_ok Rbmixed nHn Rbat_cube_way_times (F := fun x post => Fx_cube_way_times  x.1 x.2.1 post) (fun x post => Rbeq_cube_way_times x.1 x.2.1 post) fun x h w => Lx_cube_way_times  x.1 x.2.1 h w)
def Rbx_cube_way_plus : Cx := ⟨tabOf Rbtab, conOf [], RbG⟩
theorem Rbx_cube_way_plus_ok : CxOk Tryz.prog Rbx_cube_way_plus := ⟨tabB_sound Rbtab_ok, fun f c h => by cases h⟩
theorem Rbat_cube_way_plus : FnAt Tryz.prog 84 Tryz.f84.ntmps Tryz.f84.results.toList (Tryz.f84.body.getD .skip) := ⟨Tryz.f84, Tryz.func84, rfl, rfl, by simp, by decide⟩
theorem Rbeq_cube_way_plus (a : List Int) (b : List Int) (post : (List Int) × Unit → Prop) : fnEval Rbx_cube_way_plus nHn Tryz.f84.ntmps Tryz.f84.results.toList (Tryz.f84.body.getD .skip) [kWay, kWay] [.snap kWay] (a, b, ()) post = Fx_cube_way_plus  a b post := by kernel_rfl
theorem Rbh_cube_way_plus : Rbq_cube_way_plus.holds Tryz.prog RbG 84 :=
  nam_of_det (detP Rbx_cube_way_plus_ok Rbmixed nHn Rbat_cube_way_plus (F := fun x post => Fx_cube_way_plus  x.1 x.2.1 post) (fun x post => Rbeq_cube_way_plus x.1 x.2.1 post) fun x h w => Lx_cube_way_plus  x.1 x.2.1 h w)
def Rbx_cube_way_dot : Cx := ⟨tabOf Rbtab, conOf [], RbG⟩
theorem Rbx_cube_way_dot_ok : CxOk Tryz.prog Rbx_cube_way_dot := ⟨tabB_sound Rbtab_ok, fun f c h => by cases h⟩
theorem Rbat_cube_way_dot : FnAt Tryz.prog 86 Tryz.f86.ntmps Tryz.f86.results.toList (Tryz.f86.body.getD .skip) := ⟨Tryz.f86, Tryz.func86, rfl, rfl, by simp, by decide⟩
theorem Rbeq_cube_way_dot (a : List Int) (b : List Int) (post : Int × Unit → Prop) : fnEval Rbx_cube_way_dot nHn Tryz.f86.ntmps Tryz.f86.results.toList (Tryz.f86.body.getD .skip) [kWay, kWay] [.snap (.int .i64)] (a, b, ()) post = Fx_cube_way_dot  a b post := by kernel_rfl
theorem Rbh_cube_way_dot : Rbq_cube_way_dot.holds Tryz.prog RbG 86 :=
  nam_of_det (detP Rbx_cube_way_dot_ok Rbmixed nHn Rbat_cube_way_dot (F := fun x post => Fx_cube_way_dot  x.1 x.2.1 post) (fun x post => Rbeq_cube_way_dot x.1 x.2.1 post) fun x h w => Lx_cube_way_dot  x.1 x.2.1 h w)
def Rbx_cube_frame_out : Cx := ⟨tabOf Rbtab, conOf [(116, Rbq_cube_way_times)], RbG⟩
theorem Rbx_cube_frame_out_ok : CxOk Tryz.prog Rbx_cube_frame_out := ⟨tabB_sound Rbtab_ok, conOf_sound ⟨Rbh_cube_way_times, trivial⟩⟩
theorem Rbat_cube_frame_out : FnAt Tryz.prog 82 Tryz.f82.ntmps Tryz.f82.results.toList (Tryz.f82.body.getD .skip) := ⟨Tryz.f82, Tryz.func82, rfl, rfl, by simp, by decide⟩
theorem Rbeq_cube_frame_out (f : List (List Int)) (s : Int) (post : (List Int) × Unit → Prop) : fnEval Rbx_cube_frame_out nHn Tryz.f82.ntmps Tryz.f82.results.toList (Tryz.f82.body.getD .skip) [kFrame, .int .i64] [.snap kWay] (f, s, ()) post = Fx_cube_frame_out  f s post := by kernel_rfl
theorem Rbh_cube_frame_out : Rbq_cube_frame_out.holds Tryz.prog RbG 82 :=
  nam_of_det (detP Rbx_cube_frame_out_ok Rbmixed nHn Rbat_cube_frame_out (F := fun x post => Fx_cube_frame_out  x.1 x.2.1 post) (fun x post => Rbeq_cube_frame_out x.1 x.2.1 post) fun x h w => Lx_cube_frame_out  x.1 x.2.1 h w)
def Rbx_cube_faceAt : Cx := ⟨tabOf Rbtab, conOf [], RbG⟩
theorem Rbx_cube_faceAt_ok : CxOk Tryz.prog Rbx_cube_faceAt := ⟨tabB_sound Rbtab_ok, fun f c h => by cases h⟩
theorem Rbat_cube_faceAt : FnAt Tryz.prog 81 Tryz.f81.ntmps Tryz.f81.results.toList (Tryz.f81.body.getD .skip) := ⟨Tryz.f81, Tryz.func81, rfl, rfl, by simp, by decide⟩
theorem Rbeq_cube_faceAt (c : List Int) (post : Int × Unit → Prop) : fnEval Rbx_cube_faceAt Rbhn_cube_faceAt Tryz.f81.ntmps Tryz.f81.results.toList (Tryz.f81.body.getD .skip) [kWay] [.snap (.int .i64)] (c, ()) post = Fx_cube_faceAt 109 c post := by kernel_rfl
theorem Rbh_cube_faceAt : Rbq_cube_faceAt.holds Tryz.prog RbG 81 :=
  nam_of_det (detP Rbx_cube_faceAt_ok Rbmixed Rbhn_cube_faceAt Rbat_cube_faceAt (F := fun x post => Fx_cube_faceAt 109 x.1 post) (fun x post => Rbeq_cube_faceAt x.1 post) fun x _ w => Lx_cube_faceAt 109 x.1 w)
def Rbx_cube_Cell : Cx := ⟨tabOf Rbtab, conOf [(97, Rbq_cube_good)], RbG⟩
theorem Rbx_cube_Cell_ok : CxOk Tryz.prog Rbx_cube_Cell := ⟨tabB_sound Rbtab_ok, conOf_sound ⟨Rbh_cube_good, trivial⟩⟩
theorem Rbat_cube_Cell : FnAt Tryz.prog 80 Tryz.f80.ntmps Tryz.f80.results.toList (Tryz.f80.body.getD .skip) := ⟨Tryz.f80, Tryz.func80, rfl, rfl, by simp, by decide⟩
theorem Rbeq_cube_Cell (n : Int) (f : Int) (i : Int) (j : Int) (post : Int × Unit → Prop) : fnEval Rbx_cube_Cell Rbhn_cube_Cell Tryz.f80.ntmps Tryz.f80.results.toList (Tryz.f80.body.getD .skip) [.int .i64, .int .i64, .int .i64, .int .i64] [.snap (.int .i64)] (n, f, i, j, ()) post = Fx_cube_Cell  n f i j post := by kernel_rfl
theorem Rbh_cube_Cell : Rbq_cube_Cell.holds Tryz.prog RbG 80 :=
  nam_of_det (detP Rbx_cube_Cell_ok Rbmixed Rbhn_cube_Cell Rbat_cube_Cell (F := fun x post => Fx_cube_Cell  x.1 x.2.1 x.2.2.1 x.2.2.2.1 post) (fun x post => Rbeq_cube_Cell x.1 x.2.1 x.2.2.1 x.2.2.2.1 post) fun x h _ => Lx_cube_Cell  x.1 x.2.1 x.2.2.1 x.2.2.2.1 h)
def Rbx_cube_middle : Cx := ⟨tabOf Rbtab, conOf [(116, Rbq_cube_way_times), (84, Rbq_cube_way_plus)], RbG⟩
theorem Rbx_cube_middle_ok : CxOk Tryz.prog Rbx_cube_middle := ⟨tabB_sound Rbtab_ok, conOf_sound ⟨Rbh_cube_way_times, Rbh_cube_way_plus, trivial⟩⟩
theorem Rbat_cube_middle : FnAt Tryz.prog 83 Tryz.f83.ntmps Tryz.f83.results.toList (Tryz.f83.body.getD .skip) := ⟨Tryz.f83, Tryz.func83, rfl, rfl, by simp, by decide⟩
theorem Rbeq_cube_middle (n : Int) (f : Int) (i : Int) (j : Int) (post : (List Int) × Unit → Prop) : fnEval Rbx_cube_middle nHn Tryz.f83.ntmps Tryz.f83.results.toList (Tryz.f83.body.getD .skip) [.int .i64, .int .i64, .int .i64, .int .i64] [.snap kWay] (n, f, i, j, ()) post = Fx_cube_middle  n f i j post := by kernel_rfl
theorem Rbh_cube_middle : Rbq_cube_middle.holds Tryz.prog RbG 83 :=
  nam_of_det (detP Rbx_cube_middle_ok Rbmixed nHn Rbat_cube_middle (F := fun x post => Fx_cube_middle  x.1 x.2.1 x.2.2.1 x.2.2.2.1 post) (fun x post => Rbeq_cube_middle x.1 x.2.1 x.2.2.1 x.2.2.2.1 post) fun x h _ => Lx_cube_middle  x.1 x.2.1 x.2.2.1 x.2.2.2.1 h)
def Rbx_cube_index : Cx := ⟨tabOf Rbtab, conOf [], RbG⟩
theorem Rbx_cube_index_ok : CxOk Tryz.prog Rbx_cube_index := ⟨tabB_sound Rbtab_ok, fun f c h => by cases h⟩
theorem Rbat_cube_index : FnAt Tryz.prog 85 Tryz.f85.ntmps Tryz.f85.results.toList (Tryz.f85.body.getD .skip) := ⟨Tryz.f85, Tryz.func85, rfl, rfl, by simp, by decide⟩
theorem Rbeq_cube_index (n : Int) (a : Int) (post : Int × Unit → Prop) : fnEval Rbx_cube_index nHn Tryz.f85.ntmps Tryz.f85.results.toList (Tryz.f85.body.getD .skip) [.int .i64, .int .i64] [.snap (.int .i64)] (n, a, ()) post = Fx_cube_index  n a post := by kernel_rfl
theorem Rbh_cube_index : Rbq_cube_index.holds Tryz.prog RbG 85 :=
  nam_of_det (detP Rbx_cube_index_ok Rbmixed nHn Rbat_cube_index (F := fun x post => Fx_cube_index  x.1 x.2.1 post) (fun x post => Rbeq_cube_index x.1 x.2.1 post) fun x h _ => Lx_cube_index  x.1 x.2.1 h)
end Go.Lift

set_option linter.unusedVariables false
set_option linter.unusedSimpArgs false
namespace Go.Lift
open Go.Proofs
def Rbx_cube_Beside : Cx := ⟨tabOf Rbtab, conOf [(79, Rbq_cube_Place), (80, Rbq_cube_Cell), (82, Rbq_cube_frame_out), (81, Rbq_cube_faceAt), (83, Rbq_cube_middle), (84, Rbq_cube_way_plus), (86, Rbq_cube_way_dot), (85, Rbq_cube_index)], RbG⟩
theorem Rbx_cube_Beside_ok : CxOk Tryz.prog Rbx_cube_Beside := ⟨tabB_sound Rbtab_ok, conOf_sound ⟨Rbh_cube_Place, Rbh_cube_Cell, Rbh_cube_frame_out, Rbh_cube_faceAt, Rbh_cube_middle, Rbh_cube_way_plus, Rbh_cube_way_dot, Rbh_cube_index, trivial⟩⟩
theorem Rbat_cube_Beside : FnAt Tryz.prog 35 Tryz.f35.ntmps Tryz.f35.results.toList (Tryz.f35.body.getD .skip) := ⟨Tryz.f35, Tryz.func35, rfl, rfl, by simp, by decide⟩
theorem Rbeq_cube_Beside (n : Int) (c : Int) (o : Int) (post : Int × Int × Unit → Prop) : fnEval Rbx_cube_Beside Rbhn_cube_Beside Tryz.f35.ntmps Tryz.f35.results.toList (Tryz.f35.body.getD .skip) [.int .i64, .int .i64, .int .i64] [.snap (.int .i64), .snap (.int .i64)] (n, c, o, ()) post = Fx_cube_Beside 105 111 109 n c o post := by kernel_rfl
theorem Rbh_cube_Beside : Rbq_cube_Beside.holds Tryz.prog RbG 35 :=
  nam_of_det (detP Rbx_cube_Beside_ok Rbmixed Rbhn_cube_Beside Rbat_cube_Beside (F := fun x post => Fx_cube_Beside 105 111 109 x.1 x.2.1 x.2.2.1 post) (fun x post => Rbeq_cube_Beside x.1 x.2.1 x.2.2.1 post) fun x h _ => Lx_cube_Beside 105 111 109 x.1 x.2.1 x.2.2.1 h)
end Go.Lift

set_option linter.unusedVariables false
set_option linter.unusedSimpArgs false
namespace Go.Lift
def Fx_geom_Middle := fun (n c : Int) (post : (Nat × Nat × Nat) × Bool × Unit → Prop) => ∃ (h : II n c), Br (!(placeR4 n c).snd.snd.snd.fst) (post (((0 : Nat), (0 : Nat), (0 :
  Nat)), Bool.false, ())) (∃ (h : WRatio (IntKind.i64.wrap (IntKind.i64.wrap (IntKind.i64.wrap ((2 : Int) * (placeR4 n c).snd.fst) + (1 : Int)) - n)) n), ∃ (h : WRatio
  (IntKind.i64.wrap (IntKind.i64.wrap (IntKind.i64.wrap ((2 : Int) * (placeR4 n c).snd.snd.fst) + (1 : Int)) - n)) n), ∃ (h : WPoint (placeR4 n c).fst (ratioR (IntKind.i64.wrap
  (IntKind.i64.wrap (IntKind.i64.wrap ((2 : Int) * (placeR4 n c).snd.fst) + (1 : Int)) - n)) n).fst (ratioR (IntKind.i64.wrap (IntKind.i64.wrap (IntKind.i64.wrap ((2 : Int) *
  (placeR4 n c).snd.snd.fst) + (1 : Int)) - n)) n).fst), post (((pointR (placeR4 n c).fst (ratioR (IntKind.i64.wrap (IntKind.i64.wrap (IntKind.i64.wrap ((2 : Int) * (placeR4 n
  c).snd.fst) + (1 : Int)) - n)) n).fst (ratioR (IntKind.i64.wrap (IntKind.i64.wrap (IntKind.i64.wrap ((2 : Int) * (placeR4 n c).snd.snd.fst) + (1 : Int)) - n)) n).fst).fst.fst,
  (pointR (placeR4 n c).fst (ratioR (IntKind.i64.wrap (IntKind.i64.wrap (IntKind.i64.wrap ((2 : Int) * (placeR4 n c).snd.fst) + (1 : Int)) - n)) n).fst (ratioR (IntKind.i64.wrap
  (IntKind.i64.wrap (IntKind.i64.wrap ((2 : Int) * (placeR4 n c).snd.snd.fst) + (1 : Int)) - n)) n).fst).fst.snd.fst, (pointR (placeR4 n c).fst (ratioR (IntKind.i64.wrap
  (IntKind.i64.wrap (IntKind.i64.wrap ((2 : Int) * (placeR4 n c).snd.fst) + (1 : Int)) - n)) n).fst (ratioR (IntKind.i64.wrap (IntKind.i64.wrap (IntKind.i64.wrap ((2 : Int) *
  (placeR4 n c).snd.snd.fst) + (1 : Int)) - n)) n).fst).fst.snd.snd), Bool.true, ()))
theorem Lx_geom_Middle (n : Int) (c : Int) (h : II n c) : Fx_geom_Middle  n c (fun r => r = middleR n c) := by
  refine ⟨h, ?_⟩
  by_cases ok : placeOk n c = true
  · rw [place_eq ok]
    obtain ⟨n1, n2, f0, f5, i0, i1, j0, j1⟩ := place_mid ok
    dsimp only
    refine Br.intro (fun e => absurd e (by decide)) fun _ => ?_
    have w1 : IntKind.i64.wrap (IntKind.i64.wrap (IntKind.i64.wrap (2 * (c % n)) + 1) - n) = 2 * (c % n) + 1 - n := by
      rw [wi (x := 2 * (c % n)) ⟨by omega, by omega⟩, wi (x := 2 * (c % n) + 1) ⟨by omega, by omega⟩, wi ⟨by omega, by omega⟩]
    have w2 : IntKind.i64.wrap (IntKind.i64.wrap (IntKind.i64.wrap (2 * (c / n % n)) + 1) - n) = 2 * (c / n % n) + 1 - n := by
      rw [wi (x := 2 * (c / n % n)) ⟨by omega, by omega⟩, wi (x := 2 * (c / n % n) + 1) ⟨by omega, by omega⟩, wi ⟨by omega, by omega⟩]
    rw [w1, w2]
    refine ⟨⟨⟨by omega, by omega⟩, n1, h.1⟩, ⟨⟨by omega, by omega⟩, n1, h.1⟩, ⟨f0, f5, divQF_w _ _, divQF_w _ _⟩, ?_⟩
    unfold middleR; rw [if_pos ok]; rfl
  · rw [place_no ok]
    refine Br.intro (fun _ => ?_) fun e => absurd e (by decide)
    unfold middleR; rw [if_neg ok]
def Fx_geom_Length := fun (n c o : Int) (post : Nat × Unit → Prop) => ∃ (h : II n c), ∃ (h : (List.replicate (4 : Nat) ((K.flt Go.FloatKind.f64).pair ((K.flt Go.FloatKind.f64).pair
  (K.flt Go.FloatKind.f64))).dflt).length = (4 : Nat) ∧ (cornersR n c).fst.length = (4 : Nat)), Br (!(cornersR n c).snd.fst) (post ((0 : Nat), ())) (∀ (a : Bool), a = decide (o < (0
  : Int)) → Br a (post ((0 : Nat), ())) (∀ (a : Bool), a = decide (o > (3 : Int)) → Br a (post ((0 : Nat), ())) (∃ (h : (0 : Int) ≤ o ∧ o < (↑(4 : Nat) : Int)), ∃ (h :
  (List.replicate (2 : Nat) (0 : Int)).length = (2 : Nat) ∧ List.length ([[(1 : Int), (2 : Int)], [(3 : Int), (2 : Int)], [(0 : Int), (3 : Int)], [(0 : Int), (1 : Int)]].getD
  o.toNat (K.arr (2 : Nat) (K.int IntKind.i64)).dflt) = (2 : Nat)), ∃ (h : (0 : Int) ≤ (0 : Int) ∧ (0 : Int) < (↑(2 : Nat) : Int) ∧ (2 : Nat) ≤ List.length ([[(1 : Int), (2 : Int)],
  [(3 : Int), (2 : Int)], [(0 : Int), (3 : Int)], [(0 : Int), (1 : Int)]].getD o.toNat (K.arr (2 : Nat) (K.int IntKind.i64)).dflt)), ∃ (h : (0 : Int) ≤ List.getD ([[(1 : Int), (2 :
  Int)], [(3 : Int), (2 : Int)], [(0 : Int), (3 : Int)], [(0 : Int), (1 : Int)]].getD o.toNat (K.arr (2 : Nat) (K.int IntKind.i64)).dflt) (Int.toNat (0 : Int)) (0 : Int) ∧ List.getD
  ([[(1 : Int), (2 : Int)], [(3 : Int), (2 : Int)], [(0 : Int), (3 : Int)], [(0 : Int), (1 : Int)]].getD o.toNat (K.arr (2 : Nat) (K.int IntKind.i64)).dflt) (Int.toNat (0 : Int)) (0
  : Int) < (↑(4 : Nat) : Int) ∧ (4 : Nat) ≤ (cornersR n c).fst.length), ∃ (h : (0 : Int) ≤ (1 : Int) ∧ (1 : Int) < (↑(2 : Nat) : Int) ∧ (2 : Nat) ≤ List.length ([[(1 : Int), (2 :
  Int)], [(3 : Int), (2 : Int)], [(0 : Int), (3 : Int)], [(0 : Int), (1 : Int)]].getD o.toNat (K.arr (2 : Nat) (K.int IntKind.i64)).dflt)), ∃ (h : (0 : Int) ≤ List.getD ([[(1 :
  Int), (2 : Int)], [(3 : Int), (2 : Int)], [(0 : Int), (3 : Int)], [(0 : Int), (1 : Int)]].getD o.toNat (K.arr (2 : Nat) (K.int IntKind.i64)).dflt) (Int.toNat (1 : Int)) (0 : Int)
  ∧ List.getD ([[(1 : Int), (2 : Int)], [(3 : Int), (2 : Int)], [(0 : Int), (3 : Int)], [(0 : Int), (1 : Int)]].getD o.toNat (K.arr (2 : Nat) (K.int IntKind.i64)).dflt) (Int.toNat
  (1 : Int)) (0 : Int) < (↑(4 : Nat) : Int) ∧ (4 : Nat) ≤ (cornersR n c).fst.length), ∃ (h : WV2 ((cornersR n c).fst.getD (Int.toNat (List.getD ([[(1 : Int), (2 : Int)], [(3 : Int),
  (2 : Int)], [(0 : Int), (3 : Int)], [(0 : Int), (1 : Int)]].getD o.toNat (K.arr (2 : Nat) (K.int IntKind.i64)).dflt) (Int.toNat (0 : Int)) (0 : Int))) ((K.flt
  Go.FloatKind.f64).pair ((K.flt Go.FloatKind.f64).pair (K.flt Go.FloatKind.f64))).dflt) ((cornersR n c).fst.getD (Int.toNat (List.getD ([[(1 : Int), (2 : Int)], [(3 : Int), (2 :
  Int)], [(0 : Int), (3 : Int)], [(0 : Int), (1 : Int)]].getD o.toNat (K.arr (2 : Nat) (K.int IntKind.i64)).dflt) (Int.toNat (1 : Int)) (0 : Int))) ((K.flt Go.FloatKind.f64).pair
  ((K.flt Go.FloatKind.f64).pair (K.flt Go.FloatKind.f64))).dflt)), post ((gapR ((cornersR n c).fst.getD (Int.toNat (List.getD ([[(1 : Int), (2 : Int)], [(3 : Int), (2 : Int)], [(0
  : Int), (3 : Int)], [(0 : Int), (1 : Int)]].getD o.toNat (K.arr (2 : Nat) (K.int IntKind.i64)).dflt) (Int.toNat (0 : Int)) (0 : Int))) ((K.flt Go.FloatKind.f64).pair ((K.flt
  Go.FloatKind.f64).pair (K.flt Go.FloatKind.f64))).dflt) ((cornersR n c).fst.getD (Int.toNat (List.getD ([[(1 : Int), (2 : Int)], [(3 : Int), (2 : Int)], [(0 : Int), (3 : Int)],
  [(0 : Int), (1 : Int)]].getD o.toNat (K.arr (2 : Nat) (K.int IntKind.i64)).dflt) (Int.toNat (1 : Int)) (0 : Int))) ((K.flt Go.FloatKind.f64).pair ((K.flt Go.FloatKind.f64).pair
  (K.flt Go.FloatKind.f64))).dflt)).fst, ()))))
theorem Lx_geom_Length (n : Int) (c : Int) (o : Int) (h : III n c o) : Fx_geom_Length  n c o (fun r => r = lengthGR n c o) := by
  have cl := corners_len n c
  refine ⟨⟨h.1, h.2.1⟩, ⟨rfl, cl⟩, ?_⟩
  have no : besideOk n c o = false → ((0 : Nat), ()) = lengthGR n c o := fun q => congrArg r1 (by unfold lengthG; rw [if_neg (by rw [q]; decide)])
  rw [corners_ok]
  refine Br.intro (fun e => no ?_) fun e => ?_
  · unfold besideOk; rw [show placeOk n c = false by simpa using e]; rfl
  have ok : placeOk n c = true := by simpa using e
  rintro _ rfl
  refine Br.intro (fun e => no ?_) fun e => ?_
  · have e := of_decide_eq_true e
    unfold besideOk; rw [decide_eq_false (p := 0 ≤ o) (by omega)]; simp
  have o0 := of_decide_eq_false e
  rintro _ rfl
  refine Br.intro (fun e => no ?_) fun e => ?_
  · have e := of_decide_eq_true e
    unfold besideOk; rw [decide_eq_false (p := o < 4) (by omega)]; simp
  have o4 := of_decide_eq_false e
  have o0 : 0 ≤ o := by omega
  have o4 : o < 4 := by omega
  have okb : besideOk n c o = true := by unfold besideOk; rw [ok, decide_eq_true o0, decide_eq_true o4]; rfl
  have hc : ∀ i : Int, 0 ≤ i → i ≤ 3 → (cornersR n c).1.getD i.toNat ((K.flt Go.FloatKind.f64).pair ((K.flt Go.FloatKind.f64).pair (K.flt Go.FloatKind.f64))).dflt = cornA n c i := fun i a b => corner_at ok a b _
  have c0 := hc 0 (by decide) (by decide)
  have c1 := hc 1 (by decide) (by decide)
  have c2 := hc 2 (by decide) (by decide)
  have c3 := hc 3 (by decide) (by decide)
  have fin : ∀ A B : Nat × Nat × Nat, A = cornA n c (endA o) → B = cornA n c (endB o) → (gapQ A B, ()) = lengthGR n c o := by
    intro A B hA hB
    rw [hA, hB]; exact congrArg r1 (by unfold lengthG; rw [if_pos okb])
  have wA : ∀ i, WV (cornA n c i) := cornA_w n c
  generalize hQ : (cornersR n c).fst = Q at *
  rcases side_cases o0 o4 with rfl | rfl | rfl | rfl
  · exact ⟨⟨by decide, by decide⟩, ⟨rfl, rfl⟩, ⟨by decide, by decide, by decide⟩, ⟨by decide, by decide, Nat.le_of_eq cl.symm⟩, ⟨by decide, by decide, by decide⟩, ⟨by decide, by decide, Nat.le_of_eq cl.symm⟩, ⟨c1 ▸ wA 1, c2 ▸ wA 2⟩, fin _ _ c1 c2⟩
  · exact ⟨⟨by decide, by decide⟩, ⟨rfl, rfl⟩, ⟨by decide, by decide, by decide⟩, ⟨by decide, by decide, Nat.le_of_eq cl.symm⟩, ⟨by decide, by decide, by decide⟩, ⟨by decide, by decide, Nat.le_of_eq cl.symm⟩, ⟨c3 ▸ wA 3, c2 ▸ wA 2⟩, fin _ _ c3 c2⟩
  · exact ⟨⟨by decide, by decide⟩, ⟨rfl, rfl⟩, ⟨by decide, by decide, by decide⟩, ⟨by decide, by decide, Nat.le_of_eq cl.symm⟩, ⟨by decide, by decide, by decide⟩, ⟨by decide, by decide, Nat.le_of_eq cl.symm⟩, ⟨c0 ▸ wA 0, c3 ▸ wA 3⟩, fin _ _ c0 c3⟩
  · exact ⟨⟨by decide, by decide⟩, ⟨rfl, rfl⟩, ⟨by decide, by decide, by decide⟩, ⟨by decide, by decide, Nat.le_of_eq cl.symm⟩, ⟨by decide, by decide, by decide⟩, ⟨by decide, by decide, Nat.le_of_eq cl.symm⟩, ⟨c0 ▸ wA 0, c1 ▸ wA 1⟩, fin _ _ c0 c1⟩
def Fx_geom_Gap := fun (n c o : Int) (post : Nat × Unit → Prop) => ∃ (h : III n c o), ∀ (a : Int × Int × Unit), a = besideR n c o → ∃ (h : II n c), ∀ (a_1 : (Nat × Nat × Nat) × Bool
  × Unit), a_1 = middleR n c → ∃ (h : II n a.fst), ∀ (a_2 : (Nat × Nat × Nat) × Bool × Unit), a_2 = middleR n a.fst → Br (!a_1.snd.fst) (post ((0 : Nat), ())) (Br (!a_2.snd.fst)
  (post ((0 : Nat), ())) (∃ (h : WV2 (a_1.fst.fst, a_1.fst.snd.fst, a_1.fst.snd.snd) (a_2.fst.fst, a_2.fst.snd.fst, a_2.fst.snd.snd)), post ((gapR (a_1.fst.fst, a_1.fst.snd.fst,
  a_1.fst.snd.snd) (a_2.fst.fst, a_2.fst.snd.fst, a_2.fst.snd.snd)).fst, ())))
theorem Lx_geom_Gap (n : Int) (c : Int) (o : Int) (h : III n c o) : Fx_geom_Gap  n c o (fun r => r = gapGR n c o) := by
  have br := beside_rng n c o
  refine ⟨h, ?_⟩
  rintro ⟨b, q, ⟨⟩⟩ hb
  have eb : b = (besideI n c o).1 := congrArg Prod.fst hb
  rw [← eb] at br
  refine ⟨⟨h.1, h.2.1⟩, ?_⟩
  rintro ⟨⟨A1, A2, A3⟩, p, ⟨⟩⟩ hA
  refine ⟨⟨h.1, by omega, by omega⟩, ?_⟩
  rintro ⟨⟨B1, B2, B3⟩, r, ⟨⟩⟩ hB
  have hA : ((A1, A2, A3), p, ()) = middleR n c := hA
  have hB : ((B1, B2, B3), r, ()) = middleR n b := hB
  have key : ∀ z, middleR n z = if placeOk n z then (middleQ n z, true, ()) else ((0, 0, 0), false, ()) := fun z => rfl
  have bt : ∀ {z : Bool}, z = true → ¬ (!z) = true := fun {z} e => by rw [e]; decide
  have bf : ∀ {z : Bool}, z = false → ¬ (!z) = false := fun {z} e => by rw [e]; decide
  by_cases o1 : placeOk n c = true
  · rw [key, if_pos o1] at hA
    obtain ⟨eA, e1⟩ := Prod.mk.inj hA
    have ep : p = true := congrArg Prod.fst e1
    refine Br.intro (fun e => absurd e (bt ep)) fun _ => ?_
    by_cases o2 : placeOk n b = true
    · rw [key, if_pos o2] at hB
      obtain ⟨eB, e2⟩ := Prod.mk.inj hB
      have er : r = true := congrArg Prod.fst e2
      refine Br.intro (fun e => absurd e (bt er)) fun _ => ?_
      have hw : WV2 (A1, A2, A3) (B1, B2, B3) := ⟨by rw [eA]; exact middleQ_w _ _, by rw [eB]; exact middleQ_w _ _⟩
      have hg : gapQ (A1, A2, A3) (B1, B2, B3) = gapG n c o := by
        rw [eA, eB]; unfold gapG; rw [← eb, o1, o2, if_pos (by decide)]
      exact ⟨hw, congrArg r1 hg⟩
    · rw [key, if_neg o2] at hB
      obtain ⟨eB, e2⟩ := Prod.mk.inj hB
      have er : r = false := congrArg Prod.fst e2
      refine Br.intro (fun _ => congrArg r1 ?_) fun e => absurd e (bf er)
      unfold gapG; rw [← eb, o1, show placeOk n b = false by simpa using o2]; rfl
  · rw [key, if_neg o1] at hA
    obtain ⟨eA, e1⟩ := Prod.mk.inj hA
    have ep : p = false := congrArg Prod.fst e1
    refine Br.intro (fun _ => congrArg r1 ?_) fun e => absurd e (bf ep)
    unfold gapG; rw [show placeOk n c = false by simpa using o1]; rfl
end Go.Lift
