/- A part of the proof of RiverDeepCard: an own lifter of code into plain terms, and plain laws. -/
import Derived.Test.YtplhligfkbgllaaGreatDoorPtD
set_option linter.unusedVariables false
set_option linter.unusedSimpArgs false
set_option linter.unusedSectionVars false
set_option linter.unusedVariables false
set_option linter.unusedSimpArgs false
set_option linter.unusedSectionVars false
namespace Go.Lift
theorem sum_set : ∀ (l : List Int) (i : Nat) (v : Int), i < l.length → (l.set i v).sum = l.sum - at0 l i + v
  | [], i, v, h => by simp at h
  | x :: l, 0, v, h => by
    rw [List.set_cons_zero, List.sum_cons, List.sum_cons]
    show v + l.sum = x + l.sum - x + v
    omega
  | x :: l, i + 1, v, h => by
    rw [List.set_cons_succ, List.sum_cons, List.sum_cons, sum_set l i v (by simpa using h)]
    show x + (l.sum - at0 l i + v) = x + l.sum - at0 l i + v
    omega
theorem lsum_nn : ∀ {l : List Int}, (∀ x ∈ l, 0 ≤ x) → 0 ≤ l.sum ∧ ∀ x ∈ l, x ≤ l.sum
  | [], _ => ⟨by simp, fun x h => by cases h⟩
  | y :: l, h => by
    obtain ⟨a, b⟩ := lsum_nn fun x hx => h x (List.mem_cons_of_mem _ hx)
    have hy := h y List.mem_cons_self
    rw [List.sum_cons]
    refine ⟨by omega, fun x hx => ?_⟩
    rcases List.mem_cons.1 hx with rfl | hx
    · omega
    · have := b x hx; omega
theorem kept_facts : ∀ {l : List Int} {s : Int}, keptF s l = true → s ≤ 4503599627370496 → (∀ x ∈ l, 0 ≤ x) ∧ s + l.sum ≤ 4503599627370496
  | [], s, _, hs => ⟨fun x h => (by cases h), by simpa using hs⟩
  | y :: l, s, h, hs => by
    rw [keptF_cons] at h
    by_cases q : y < 0 ∨ y > 4503599627370496 - s
    · rw [if_pos q] at h; cases h
    · rw [if_neg q] at h
      obtain ⟨a, b⟩ := kept_facts h (by omega)
      rw [List.sum_cons]
      refine ⟨fun x hx => ?_, by omega⟩
      rcases List.mem_cons.1 hx with rfl | hx
      · omega
      · exact a x hx
structure Pool (n : Nat) (T : Int) (l : List Int) : Prop where
  len : l.length = n
  nn : ∀ x ∈ l, 0 ≤ x
  sum : l.sum = T
theorem Pool.at {n : Nat} {T : Int} {l : List Int} (h : Pool n T l) {i : Nat} (hi : i < n) : 0 ≤ at0 l i ∧ at0 l i ≤ T := by
  have := h.len
  have m := at0_mem (xs := l) (p := i) (by omega)
  exact ⟨h.nn _ m, by rw [← h.sum]; exact (lsum_nn h.nn).2 _ m⟩
theorem Pool.mv {n : Nat} {T : Int} {l : List Int} (h : Pool n T l) {i j d : Int} (i0 : 0 ≤ i) (i1 : i < n) (j0 : 0 ≤ j) (j1 : j < n) (d0 : 0 ≤ d) (d1 : d ≤ l.getD i.toNat 0) :
    Pool n T (mvL l i j d) ∧ 0 ≤ l.getD i.toNat 0 - d ∧ l.getD i.toNat 0 - d ≤ T ∧ 0 ≤ (l.set i.toNat (l.getD i.toNat 0 - d)).getD j.toNat 0 + d ∧ (l.set i.toNat (l.getD i.toNat 0 - d)).getD j.toNat 0 + d ≤ T := by
  have hl := h.len
  have hi := h.at (i := i.toNat) (by omega)
  have hi : 0 ≤ l.getD i.toNat 0 ∧ l.getD i.toNat 0 ≤ T := hi
  have nn1 : ∀ x ∈ l.set i.toNat (l.getD i.toNat 0 - d), 0 ≤ x := fun x hx => by
    rcases List.mem_or_eq_of_mem_set hx with hx | rfl
    · exact h.nn x hx
    · omega
  have l1 : (l.set i.toNat (l.getD i.toNat 0 - d)).length = n := by rw [List.length_set]; exact hl
  have v0 := nn1 _ (getD_mem (l := l.set i.toNat (l.getD i.toNat 0 - d)) (i := j.toNat) (by omega) 0)
  have P : Pool n T (mvL l i j d) := by
    refine ⟨by unfold mvL; rw [List.length_set]; exact l1, fun x hx => ?_, ?_⟩
    · unfold mvL at hx
      rcases List.mem_or_eq_of_mem_set hx with hx | rfl
      · exact nn1 x hx
      · omega
    · unfold mvL
      rw [sum_set _ _ _ (by omega), sum_set _ _ _ (by omega), h.sum]
      show T - at0 l i.toNat + (at0 l i.toNat - d) - _ + (_ + d) = T
      unfold at0
      omega
  have hj := P.at (i := j.toNat) (by omega)
  have e : at0 (mvL l i j d) j.toNat = (l.set i.toNat (l.getD i.toNat 0 - d)).getD j.toNat 0 + d := by
    unfold mvL; rw [at0_set (by omega), if_pos rfl]
  rw [e] at hj
  exact ⟨P, by omega, by omega, hj.1, hj.2⟩
theorem part_in {a b c : Int} (ha : 0 ≤ a) (hb : 0 ≤ b) (hbc : b ≤ c) (hc : 1 ≤ c) : 0 ≤ part a b c ∧ part a b c ≤ a := by
  refine ⟨(part_range a b c).1, ?_⟩
  have k : a * b / c ≤ a := by
    refine Int.ediv_le_of_le_mul (by omega) ?_
    exact Int.mul_le_mul_of_nonneg_left hbc ha
  unfold part
  rw [if_neg (by omega), if_neg (by omega), if_neg (by omega)]
  split <;> omega
theorem runStep_ok {n : Nat} {W T : Int} {area down : Int → Int} {st : List Int × List Int} {c : Int} (h1 : Pool n W st.1) (h2 : Pool n T st.2) (c0 : 0 ≤ c) (c1 : c < n) (hd : down c < 0 ∨ (0 ≤ down c ∧ down c < n)) :
    Pool n W (runStep area down st c).1 ∧ Pool n T (runStep area down st c).2 := by
  unfold runStep
  split
  · exact ⟨h1, h2⟩
  · rename_i q
    have a1 := h2.at (i := c.toNat) (by omega)
    have a1 : 0 ≤ st.2.getD c.toNat 0 ∧ _ := a1
    have p := part_in (a := st.2.getD c.toNat 0) (b := st.1.getD c.toNat 0 / 4) (c := st.1.getD c.toNat 0) a1.1 (by omega) (by omega) (by omega)
    exact ⟨(h1.mv c0 c1 (by omega) (by omega) (by omega) (by omega)).1, (h2.mv c0 c1 (by omega) (by omega) p.1 p.2).1⟩
theorem runA_ok {n : Nat} {W T : Int} {area down : Int → Int} (hd : ∀ c : Int, 0 ≤ c → c < (n : Int) → down c < 0 ∨ (0 ≤ down c ∧ down c < (n : Int))) : ∀ (order : List Int) {st : List Int × List Int}, (∀ c ∈ order, 0 ≤ c ∧ c < (n : Int)) → Pool n W st.1 → Pool n T st.2 →
    Pool n W (runA area down order st).1 ∧ Pool n T (runA area down order st).2
  | [], st, _, h1, h2 => ⟨h1, h2⟩
  | c :: l, st, hc, h1, h2 => by
    have h0 := hc c List.mem_cons_self
    obtain ⟨a, b⟩ := runStep_ok (area := area) h1 h2 h0.1 h0.2 (hd c h0.1 h0.2)
    exact runA_ok hd l (fun x hx => hc x (List.mem_cons_of_mem _ hx)) a b
theorem runA_take {area down : Int → Int} {order : List Int} {st : List Int × List Int} {k : Nat} (hk : k < order.length) : runA area down (order.take (k + 1)) st = runStep area down (runA area down (order.take k) st) (at0 order k) := by
  unfold runA
  have e : order.take (k + 1) = order.take k ++ [at0 order k] := by rw [at0_get hk, List.take_append_getElem hk]
  rw [e, List.foldl_append]; rfl
theorem runF_bad {n m : Int} {area down : Int → Int} {s : SeaT} (h : ((fitsS n m s && keptF 0 s.2.1) && keptF 0 s.2.2.1) = false) : runF true n m area down s = ([], [], 1, ()) := by
  unfold runF; rw [if_neg (by decide), h]; rfl
theorem runF_good {n m : Int} {area down : Int → Int} {s : SeaT} (h1 : fitsS n m s = true) (h2 : keptF 0 s.2.1 = true) (h3 : keptF 0 s.2.2.1 = true) : runF true n m area down s = ((runA area down (ordL s.1) (s.2.1, s.2.2.1)).1, (runA area down (ordL s.1) (s.2.1, s.2.2.1)).2, 0, ()) := by
  unfold runF; rw [if_neg (by decide), h1, h2, h3]; rfl
theorem fitsS_iff {n m : Int} {s : SeaT} : fitsS n m s = true ↔ (s.1.length : Int) = n ∧ (s.2.1.length : Int) = n ∧ (s.2.2.1.length : Int) = n ∧ (s.2.2.2.1.length : Int) = m := by
  unfold fitsS
  simp only [Bool.and_eq_true, decide_eq_true_eq, and_assoc]
theorem downF_rng {n : Int} {bed : List Nat} (hb : (bed.length : Int) = cellsI n) (c : Int) (c0 : 0 ≤ c) (c1 : c < (bed.length : Int)) : downF true (cellsI n) n bed c < 0 ∨ (0 ≤ downF true (cellsI n) n bed c ∧ downF true (cellsI n) n bed c < (bed.length : Int)) := by
  rw [downF_ok hb c0 c1]
  have hp : placeOk n c = true := by
    obtain ⟨k, rfl⟩ : ∃ k : Nat, c = k := ⟨c.toNat, by omega⟩
    exact place_nat (by omega)
  rcases downN_rng (bed := bed) hp with q | ⟨q1, q2, _⟩
  · exact .inl (by omega)
  · exact .inr ⟨q1, by omega⟩
theorem nArea_net {n c : Int} (c0 : 0 ≤ c) (c1 : c < cellsI n) : nArea (some (netG n)) c = areaI n c := by
  have hl : (areasL n).length = (cellsI n).toNat := by unfold areasL; rw [List.length_map, List.length_range]
  show (if 0 ≤ c ∧ c < ((areasL n).length : Nat) then (areasL n).getD c.toNat 0 else 0) = _
  rw [if_pos ⟨c0, by omega⟩]
  unfold areasL
  rw [List.getD_eq_getElem?_getD, List.getElem?_map, List.getElem?_range (by omega)]
  show areaI n ((c.toNat : Nat) : Int) = _
  rw [show ((c.toNat : Nat) : Int) = c by omega]
end Go.Lift

set_option linter.unusedVariables false
set_option linter.unusedSimpArgs false
set_option linter.unusedSectionVars false
namespace Go.Lift
theorem mvL_at {l : List Int} {i j d : Int} {k : Nat} (hi : i.toNat < l.length) (hj : j.toNat < l.length) (hij : i.toNat ≠ j.toNat) : at0 (mvL l i j d) k = if k = j.toNat then at0 l k + d else if k = i.toNat then at0 l k - d else at0 l k := by
  have e1 : (l.set i.toNat (l.getD i.toNat 0 - d)).getD j.toNat 0 = at0 l j.toNat := by
    show at0 (l.set i.toNat (l.getD i.toNat 0 - d)) j.toNat = _
    rw [at0_set hi, if_neg (fun q => hij q.symm)]
  unfold mvL
  rw [e1, at0_set (by rw [List.length_set]; exact hj)]
  by_cases q : k = j.toNat
  · rw [if_pos q, if_pos q, q]
  · rw [if_neg q, if_neg q, at0_set hi]
    by_cases q2 : k = i.toNat
    · rw [if_pos q2, if_pos q2, q2]; try rfl
    · rw [if_neg q2, if_neg q2]
theorem mvL_zero {l : List Int} {i j : Int} (hi : i.toNat < l.length) (hj : j.toNat < l.length) (hij : i.toNat ≠ j.toNat) : mvL l i j 0 = l := by
  refine at0_ext (by unfold mvL; rw [List.length_set, List.length_set]) fun k _ => ?_
  rw [mvL_at hi hj hij]
  split <;> (try split) <;> omega
def Elsewhere (n : Nat) (down : Int → Int) : Prop := ∀ c : Int, 0 ≤ c → c < (n : Int) → down c < 0 ∨ (0 ≤ down c ∧ down c < (n : Int) ∧ down c ≠ c)
theorem Elsewhere.weak {n : Nat} {down : Int → Int} (h : Elsewhere n down) : ∀ c : Int, 0 ≤ c → c < (n : Int) → down c < 0 ∨ (0 ≤ down c ∧ down c < (n : Int)) := fun c a b => (h c a b).imp id fun q => ⟨q.1, q.2.1⟩
theorem runStep_at {n : Nat} {W T : Int} {area down : Int → Int} {st : List Int × List Int} {c : Int} (h1 : Pool n W st.1) (h2 : Pool n T st.2) (c0 : 0 ≤ c) (c1 : c < n) (hd : Elsewhere n down) (k : Nat) :
    (k ≠ c.toNat ∨ down c < 0 → at0 st.1 k ≤ at0 (runStep area down st c).1 k ∧ at0 st.2 k ≤ at0 (runStep area down st c).2 k) ∧ (k = c.toNat → at0 st.1 k - at0 st.1 k / 4 ≤ at0 (runStep area down st c).1 k) := by
  have hn := h1.len
  have hn2 := h2.len
  unfold runStep
  split
  · refine ⟨fun _ => ⟨Int.le_refl _, Int.le_refl _⟩, fun q => ?_⟩
    have := (h1.at (i := k) (by omega)).1
    omega
  · rename_i q
    obtain ⟨d0, d1, d2⟩ := (hd c c0 c1).resolve_left fun z => q (.inl z)
    have a1 := h2.at (i := c.toNat) (by omega)
    have a1 : 0 ≤ st.2.getD c.toNat 0 ∧ _ := a1
    have p := part_in (a := st.2.getD c.toNat 0) (b := st.1.getD c.toNat 0 / 4) (c := st.1.getD c.toNat 0) a1.1 (by omega) (by omega) (by omega)
    have g0 : 0 < st.1.getD c.toNat 0 := by omega
    have ne : c.toNat ≠ (down c).toNat := by omega
    have e : st.1.getD c.toNat 0 = at0 st.1 c.toNat := rfl
    dsimp only
    rw [mvL_at (by omega) (by omega) ne, mvL_at (by omega) (by omega) ne]
    refine ⟨fun z => ?_, fun z => ?_⟩
    · have z : k ≠ c.toNat := z.resolve_right (by omega)
      rw [if_neg z, if_neg z]
      constructor <;> split <;> omega
    · subst z
      rw [if_neg ne, if_pos rfl, e]
      omega
theorem run_keeps {n : Nat} {W T : Int} {area down : Int → Int} (hd : Elsewhere n down) (k : Nat) : ∀ (order : List Int) {st : List Int × List Int}, (∀ c ∈ order, 0 ≤ c ∧ c < (n : Int)) → (∀ c ∈ order, k ≠ c.toNat ∨ down c < 0) → Pool n W st.1 → Pool n T st.2 →
    at0 st.1 k ≤ at0 (runA area down order st).1 k ∧ at0 st.2 k ≤ at0 (runA area down order st).2 k
  | [], st, _, _, _, _ => ⟨Int.le_refl _, Int.le_refl _⟩
  | c :: l, st, hc, hk, h1, h2 => by
    have h0 := hc c List.mem_cons_self
    obtain ⟨a, b⟩ := runStep_ok (area := area) h1 h2 h0.1 h0.2 (hd.weak c h0.1 h0.2)
    obtain ⟨i1, i2⟩ := run_keeps hd k l (fun x hx => hc x (List.mem_cons_of_mem _ hx)) (fun x hx => hk x (List.mem_cons_of_mem _ hx)) a b
    obtain ⟨j1, j2⟩ := (runStep_at (area := area) h1 h2 h0.1 h0.2 hd k).1 (hk c List.mem_cons_self)
    exact ⟨Int.le_trans j1 i1, Int.le_trans j2 i2⟩
theorem run_loses {n : Nat} {W T : Int} {area down : Int → Int} (hd : Elsewhere n down) (k : Nat) (hkn : k < n) : ∀ (order : List Int) {st : List Int × List Int}, (∀ c ∈ order, 0 ≤ c ∧ c < (n : Int)) → order.Nodup → Pool n W st.1 → Pool n T st.2 →
    at0 st.1 k - at0 st.1 k / 4 ≤ at0 (runA area down order st).1 k
  | [], st, _, _, h1, h2 => by
    have := (h1.at hkn).1
    show at0 st.1 k - at0 st.1 k / 4 ≤ at0 st.1 k
    omega
  | c :: l, st, hc, hk, h1, h2 => by
    have h0 := hc c List.mem_cons_self
    obtain ⟨a, b⟩ := runStep_ok (area := area) h1 h2 h0.1 h0.2 (hd.weak c h0.1 h0.2)
    obtain ⟨j1, j2⟩ := runStep_at (area := area) h1 h2 h0.1 h0.2 hd k
    have hcl := fun x hx => hc x (List.mem_cons_of_mem _ hx)
    obtain ⟨n1, n2⟩ := List.nodup_cons.1 hk
    by_cases q : k = c.toNat
    · have := (run_keeps (area := area) hd k l hcl (fun x hx => .inl fun z => n1 (by have := (hcl x hx).1; rw [show c = x by omega]; exact hx)) a b).1
      exact Int.le_trans (j2 q) this
    · have i1 := run_loses (area := area) hd k hkn l hcl n2 a b
      have := (j1 (.inl q)).1
      refine Int.le_trans ?_ i1
      omega
theorem runStep_still {n : Nat} {area down : Int → Int} {w t : List Int} {c : Int} (hw : w.length = n) (ht : t.length = n) (c0 : 0 ≤ c) (c1 : c < n) (hd : Elsewhere n down) (h : down c < 0 ∨ w.getD c.toNat 0 < 4 ∨ shallowB (w.getD c.toNat 0) (area c) = false) (t0 : 0 ≤ t.getD c.toNat 0) : runStep area down (w, t) c = (w, t) := by
  unfold runStep
  split
  · rfl
  · rename_i q
    obtain ⟨d0, d1, d2⟩ := (hd c c0 c1).resolve_left fun z => q (.inl z)
    have ne : c.toNat ≠ (down c).toNat := by omega
    dsimp only at q ⊢
    rcases h with h | h | h
    · exact absurd (.inl h) q
    · have z : w.getD c.toNat 0 / 4 = 0 := by omega
      have zp : part (t.getD c.toNat 0) 0 (w.getD c.toNat 0) = 0 := by
        unfold part
        rw [if_neg (by omega), if_neg (by omega), if_neg (by omega), Int.mul_zero, Int.zero_ediv, if_pos (by decide)]
      rw [z, zp, mvL_zero (by omega) (by omega) ne, mvL_zero (by omega) (by omega) ne]
    · exact absurd (.inr (.inr h)) q
theorem runA_still {n : Nat} {area down : Int → Int} {w t : List Int} (hw : w.length = n) (ht : t.length = n) (hd : Elsewhere n down) (t0 : ∀ x ∈ t, 0 ≤ x) : ∀ order : List Int, (∀ c ∈ order, 0 ≤ c ∧ c < (n : Int)) → (∀ c ∈ order, down c < 0 ∨ w.getD c.toNat 0 < 4 ∨ shallowB (w.getD c.toNat 0) (area c) = false) → runA area down order (w, t) = (w, t)
  | [], _, _ => rfl
  | c :: l, hc, h => by
    have h0 := hc c List.mem_cons_self
    show runA area down l (runStep area down (w, t) c) = _
    rw [runStep_still hw ht h0.1 h0.2 hd (h c List.mem_cons_self) (t0 _ (getD_mem (by omega) 0))]
    exact runA_still hw ht hd t0 l (fun x hx => hc x (List.mem_cons_of_mem _ hx)) fun x hx => h x (List.mem_cons_of_mem _ hx)
theorem seg_nodup (a b : Int) : (seg a b).Nodup := by
  unfold seg
  refine List.pairwise_map.2 ((List.nodup_range' (s := a.toNat) (n := b.toNat - a.toNat)).imp fun h q => h ?_)
  exact Int.ofNat_inj.1 q
theorem ord_nodup (bed : List Nat) : (ordL bed).Nodup := (ordSeg_perm bed 0 bed.length).nodup_iff.2 (seg_nodup _ _)
theorem ord_mem {bed : List Nat} {x : Int} (h : x ∈ ordL bed) : 0 ≤ x ∧ x < (bed.length : Int) := by
  have := ordSeg_mem h
  omega
theorem down_else {n : Int} {bed : List Nat} (hb : (bed.length : Int) = cellsI n) : Elsewhere bed.length (downF true (cellsI n) n bed) := fun c c0 c1 => by
  rw [downF_ok hb c0 c1]
  have hp : placeOk n c = true := by
    obtain ⟨k, rfl⟩ : ∃ k : Nat, c = k := ⟨c.toNat, by omega⟩
    exact place_nat (by omega)
  rcases downN_rng (bed := bed) hp with q | ⟨q1, q2, q3, _⟩
  · exact .inl (by omega)
  · exact .inr ⟨q1, by omega, fun e => by rw [e] at q3; omega⟩
end Go.Lift

set_option linter.unusedVariables false
set_option linter.unusedSimpArgs false
namespace Go.Lift
open Go
theorem BLs.app {a b : List Int} (ha : BLs a) (hb : BLs b) : BLs (a ++ b) := fun x h => (List.mem_append.1 h).elim (ha x) (hb x)
theorem BLs.take {a : List Int} (ha : BLs a) (n : Nat) : BLs (a.take n) := fun x h => ha x (List.mem_of_mem_take h)
theorem BLs.drop {a : List Int} (ha : BLs a) (n : Nat) : BLs (a.drop n) := fun x h => ha x (List.mem_of_mem_drop h)
end Go.Lift

set_option linter.unusedVariables false
set_option linter.unusedSimpArgs false
namespace Go.Lift
open Go
theorem set_fill {α : Type} {l : List α} {k n : Nat} (hl : l.length = k) (hk : k < n) (z v : α) : (l ++ List.replicate (n - k) z).set (0 + k) v = l ++ [v] ++ List.replicate (n - (k + 1)) z := by
  obtain ⟨m, hm⟩ : ∃ m, n - k = m + 1 := ⟨n - k - 1, by omega⟩
  rw [hm, show n - (k + 1) = m by omega, List.replicate_succ, Nat.zero_add, set_mid hl, List.append_assoc]
  rfl
end Go.Lift

set_option linter.unusedVariables false
set_option linter.unusedSimpArgs false
namespace Go.Lift
open Go
end Go.Lift

set_option linter.unusedVariables false
set_option linter.unusedSimpArgs false
namespace Go.Lift
open Go
end Go.Lift

set_option linter.unusedVariables false
set_option linter.unusedSimpArgs false
namespace Go.Lift
open Go
def lakeF (g : Option Gr) (c : Nat) : Int := if c = 1 then iw (2 * nArea g c) else nArea g c
theorem set_again {l : List Int} {k : Nat} (hl : l.length = k) (a : Int) (r : List Int) : (l ++ [a] ++ r).set (0 + k) (IntKind.i64.wrap (2 * (l ++ [a] ++ r).getD (0 + k) 0)) = l ++ [iw (2 * a)] ++ r := by
  rw [Nat.zero_add, List.append_assoc, List.append_assoc]
  show (l ++ a :: r).set k (IntKind.i64.wrap (2 * (l ++ a :: r).getD k 0)) = l ++ iw (2 * a) :: r
  rw [set_mid hl]
  have : (l ++ a :: r).getD k 0 = a := by
    rw [List.getD_eq_getElem?_getD, List.getElem?_append_right (by omega), hl, Nat.sub_self]; rfl
  rw [this]; rfl
theorem new1 : newR 1 = (some (netG 1), 0, ()) := by unfold newR; rw [if_neg (by decide)]
end Go.Lift

set_option linter.unusedVariables false
set_option linter.unusedSimpArgs false
set_option linter.unusedSectionVars false
namespace Go.Lift
def liveB : List Nat := [4617315517961601024, 4616189618054758400, 4613937818241073152, 4611686018427387904, 4607182418800017408, 0]
theorem live_ord : ordL liveB = [0, 1, 2, 3, 4, 5] := (ordSeg_unique (by decide +kernel) (by decide +kernel)).symm
theorem live_ord4 : ordL [4607182418800017408, 4613937818241073152, 4611686018427387904, 4613937818241073152] = [1, 3, 2, 0] := (ordSeg_unique (by decide +kernel) (by decide +kernel)).symm
def liveR : SeaT := (liveB, [100, 0, 0, 0, 0, 0], [10, 0, 0, 0, 0, 0], [0, 0, 0, 0, 0, 0, 0, 0, 0, 0, 0, 0], 0, 0)
theorem live_runA : runA (areaI 1) (downF true 6 1 liveB) [0, 1, 2, 3, 4, 5] ([100, 0, 0, 0, 0, 0], [10, 0, 0, 0, 0, 0]) = ([75, 0, 0, 0, 0, 25], [8, 0, 0, 0, 0, 2]) := by decide +kernel
theorem live_cells : nCells (some (netG 1)) = 6 := by rw [nCells_net]; decide
theorem live_edges : nEdges (some (netG 1)) = 12 := by decide +kernel
theorem live_run : runFR (some (netG 1)) liveR = ([75, 0, 0, 0, 0, 25], [8, 0, 0, 0, 0, 2], 0, ()) := by
  show runF true (nCells (some (netG 1))) (nEdges (some (netG 1))) (areaI 1) (downF true (nCells (some (netG 1))) 1 liveR.1) liveR = _
  rw [live_cells, live_edges, runF_good (by decide) (by decide) (by decide)]
  show ((runA (areaI 1) (downF true 6 1 liveB) (ordL liveB) ([100, 0, 0, 0, 0, 0], [10, 0, 0, 0, 0, 0])).1, (runA (areaI 1) (downF true 6 1 liveB) (ordL liveB) ([100, 0, 0, 0, 0, 0], [10, 0, 0, 0, 0, 0])).2, 0, ()) = _
  rw [live_ord, live_runA]
theorem live_down0 : rvDownR (some (netG 1)) liveB 0 = (5, ()) := by
  show r1 (downF true (nCells (some (netG 1))) 1 liveB 0) = _
  rw [live_cells]; decide +kernel
theorem live_down5 : rvDownR (some (netG 1)) liveB 5 = (-1, ()) := by
  show r1 (downF true (nCells (some (netG 1))) 1 liveB 5) = _
  rw [live_cells]; decide +kernel
def liveW : Nat → List Int
  | 0 => [1431655765, 2863311530, 1431655765, 1431655765, 1431655765, 1431655765]
  | k + 1 => (liveW k).set k 0
def liveN : Nat → List Nat
  | 0 => [0, 0, 0, 0, 0, 0]
  | k + 1 => (liveN k).set k (Go.FloatKind.f64.nearest (5 - (k : Int)))
theorem liveN6 : liveN 6 = liveB := by decide +kernel
theorem liveW6 : (liveW 6).set 0 100 = [100, 0, 0, 0, 0, 0] := by decide
theorem liveB_W : AllW liveB := by unfold AllW W64 liveB; decide
theorem lakeF1 : (List.range 6).map (lakeF (some (netG 1))) = liveW 0 := by decide +kernel
theorem new_cases (n : Int) : (cellsI n = 0 ∧ newR n = (none, 10, ()) ∧ rnewR n = (none, 10, ())) ∨ (cellsI n ≠ 0 ∧ goodC n = true ∧ newR n = (some (netG n), 0, ()) ∧ rnewR n = (some (rnetG n), 0, ())) := by
  by_cases q : cellsI n = 0
  · exact .inl ⟨q, by unfold newR; rw [if_pos q], by unfold rnewR; rw [if_pos q]⟩
  · refine .inr ⟨q, ?_, by unfold newR; rw [if_neg q], by unfold rnewR; rw [if_neg q]⟩
    unfold cellsI at q
    by_cases g : goodC n = true
    · exact g
    · exact absurd (if_neg g) q
structure Ran (n : Int) (s : SeaT) (w t : List Int) : Prop where
  bed : (s.1.length : Int) = cellsI n
  wat : s.2.1.length = s.1.length
  tra : s.2.2.1.length = s.1.length
  p1 : Pool s.1.length s.2.1.sum s.2.1
  p2 : Pool s.1.length s.2.2.1.sum s.2.2.1
  b1 : s.2.1.sum ≤ 4503599627370496
  b2 : s.2.2.1.sum ≤ 4503599627370496
  run : runA (areaI n) (downF true (cellsI n) n s.1) (ordL s.1) (s.2.1, s.2.2.1) = (w, t)
  q1 : Pool s.1.length s.2.1.sum w
  q2 : Pool s.1.length s.2.2.1.sum t
theorem run_net (n : Int) (s : SeaT) : runFR (some (netG n)) s = ([], [], 1, ()) ∨ ∃ w t, runFR (some (netG n)) s = (w, t, 0, ()) ∧ Ran n s w t := by
  have e : runFR (some (netG n)) s = runF true (cellsI n) (nEdges (some (netG n))) (areaI n) (downF true (cellsI n) n s.1) s := by
    show runF true (nCells (some (netG n))) _ (areaI n) (downF true (nCells (some (netG n))) n s.1) s = _
    rw [nCells_net]
  obtain ⟨m, hm⟩ : ∃ m, nEdges (some (netG n)) = m := ⟨_, rfl⟩
  rw [e, hm]
  by_cases q : ((fitsS (cellsI n) m s && keptF 0 s.2.1) && keptF 0 s.2.2.1) = true
  · right
    rw [Bool.and_eq_true, Bool.and_eq_true] at q
    obtain ⟨⟨h1, h2⟩, h3⟩ := q
    have f := fitsS_iff.1 h1
    have k1 := kept_facts h2 (by decide)
    have k2 := kept_facts h3 (by decide)
    have p1 : Pool s.1.length s.2.1.sum s.2.1 := ⟨by omega, k1.1, rfl⟩
    have p2 : Pool s.1.length s.2.2.1.sum s.2.2.1 := ⟨by omega, k2.1, rfl⟩
    have q := runA_ok (area := areaI n) (down_else (n := n) (bed := s.1) f.1).weak (ordL s.1) (st := (s.2.1, s.2.2.1)) (fun c hc => ord_mem hc) p1 p2
    exact ⟨_, _, runF_good h1 h2 h3, ⟨f.1, by omega, by omega, p1, p2, by omega, by omega, rfl, q.1, q.2⟩⟩
  · exact .inl (runF_bad (by simpa using q))
theorem Ran.keep {n : Int} {s : SeaT} {w t : List Int} (h : Ran n s w t) {k : Nat} (hk : k < s.1.length) :
    at0 s.2.1 k - at0 s.2.1 k / 4 ≤ at0 w k ∧ (downF true (cellsI n) n s.1 k < 0 → at0 s.2.1 k ≤ at0 w k ∧ at0 s.2.2.1 k ≤ at0 t k) := by
  have he := down_else (n := n) (bed := s.1) h.bed
  constructor
  · have := run_loses (area := areaI n) he k hk (ordL s.1) (st := (s.2.1, s.2.2.1)) (fun c hc => ord_mem hc) (ord_nodup _) h.p1 h.p2
    rw [h.run] at this; exact this
  · intro hd
    have := run_keeps (area := areaI n) he k (ordL s.1) (st := (s.2.1, s.2.2.1)) (fun c hc => ord_mem hc) (fun c hc => by
      by_cases q : k = c.toNat
      · right
        have := (ord_mem hc).1
        rw [show c = (k : Int) by omega]; exact hd
      · exact .inl q) h.p1 h.p2
    rw [h.run] at this; exact this
theorem Ran.still {n : Int} {s : SeaT} {w t : List Int} (h : Ran n s w t) (hs : ∀ c : Int, 0 ≤ c → c < (s.1.length : Int) → downF true (cellsI n) n s.1 c < 0 ∨ s.2.1.getD c.toNat 0 < 4 ∨ shallowB (s.2.1.getD c.toNat 0) (areaI n c) = false) : w = s.2.1 ∧ t = s.2.2.1 := by
  have he := down_else (n := n) (bed := s.1) h.bed
  have := runA_still (area := areaI n) h.p1.len h.p2.len he h.p2.nn (ordL s.1) (fun c hc => ord_mem hc) fun c hc => hs c (ord_mem hc).1 (ord_mem hc).2
  rw [h.run] at this
  exact ⟨(Prod.mk.inj this).1, (Prod.mk.inj this).2⟩
end Go.Lift

set_option linter.unusedVariables false
set_option linter.unusedSimpArgs false
namespace Go.Lift
def Fx_law19_RiverDeep := fun (ty39 ty2 : Nat) (n : Int) (s : List Nat × List Int × List Int × List Nat × Int × Int) (post : Bool × Unit → Prop) => ∃ (h : True), ∀ (a : Bool ×
  Unit), a = yesR → ∀ (a_1 : Bool), a_1 = a.fst → Br (!a_1) (post (Bool.false, ())) (∃ (h : I64 n), ∀ (a : Bool), a = ((newR n).snd.fst != (0 : Int)) → Br a (post (Bool.true, ()))
  (∃ (h : WRun (newR n).fst (s.fst, s.snd.fst, s.snd.snd.fst, s.snd.snd.snd.fst, s.snd.snd.snd.snd.fst, s.snd.snd.snd.snd.snd)), ∀ (a : List Int × List Int × Int × Unit), a = runFR
  (newR n).fst (s.fst, s.snd.fst, s.snd.snd.fst, s.snd.snd.snd.fst, s.snd.snd.snd.snd.fst, s.snd.snd.snd.snd.snd) → ∀ (a_2 : Bool), a_2 = (a.snd.snd.fst != (0 : Int)) → Br a_2 (post
  (Bool.true, ())) (HIs [HObj.box Md.rw ty39 [SV.data (K.flt Go.FloatKind.f64).slice s.fst, SV.data (K.int IntKind.i64).slice s.snd.fst, SV.data (K.int IntKind.i64).slice
  s.snd.snd.fst, SV.data (K.flt Go.FloatKind.f64).slice s.snd.snd.snd.fst, SV.val (Go.Value.int IntKind.i64 s.snd.snd.snd.snd.fst), SV.val (Go.Value.int IntKind.i64
  s.snd.snd.snd.snd.snd)], HObj.row Md.rw ty2 (K.int IntKind.i64) a.fst, HObj.row Md.rw ty2 (K.int IntKind.i64) a.snd.fst] [HObj.box Md.rw ty39 [SV.data (K.flt
  Go.FloatKind.f64).slice s.fst, SV.data (K.int IntKind.i64).slice s.snd.fst, SV.data (K.int IntKind.i64).slice s.snd.snd.fst, SV.data (K.flt Go.FloatKind.f64).slice
  s.snd.snd.snd.fst, SV.val (Go.Value.int IntKind.i64 s.snd.snd.snd.snd.fst), SV.val (Go.Value.int IntKind.i64 s.snd.snd.snd.snd.snd)], HObj.row Md.rw ty2 (K.int IntKind.i64) a.fst,
  HObj.row Md.rw ty2 (K.int IntKind.i64) a.snd.fst] ∧ ∃ (I : Bool × Int × Unit → Unit → Prop), ∃ (μ : Bool × Int × Unit → Unit → Nat), I (Bool.true, (0 : Int), ()) () ∧ ∀ (x : Bool
  × Int × Unit) (y : Unit), I x y → ∀ (a_3 : Bool), a_3 = decide (x.snd.fst < (↑s.snd.fst.length : Int)) → Br a_3 (Br x.fst (∃ (h : (0 : Int) ≤ x.snd.fst ∧ x.snd.fst <
  (↑s.snd.fst.length : Int)), ∀ (a_4 : Bool), a_4 = decide (s.snd.fst.getD x.snd.fst.toNat (0 : Int) < (4 : Int)) → HIs [HObj.box Md.rw ty39 [SV.data (K.flt Go.FloatKind.f64).slice
  s.fst, SV.data (K.int IntKind.i64).slice s.snd.fst, SV.data (K.int IntKind.i64).slice s.snd.snd.fst, SV.data (K.flt Go.FloatKind.f64).slice s.snd.snd.snd.fst, SV.val (Go.Value.int
  IntKind.i64 s.snd.snd.snd.snd.fst), SV.val (Go.Value.int IntKind.i64 s.snd.snd.snd.snd.snd)], HObj.row Md.rw ty2 (K.int IntKind.i64) a.fst, HObj.row Md.rw ty2 (K.int IntKind.i64)
  a.snd.fst] [HObj.box Md.rw ty39 [SV.data (K.flt Go.FloatKind.f64).slice s.fst, SV.data (K.int IntKind.i64).slice s.snd.fst, SV.data (K.int IntKind.i64).slice s.snd.snd.fst,
  SV.data (K.flt Go.FloatKind.f64).slice s.snd.snd.snd.fst, SV.val (Go.Value.int IntKind.i64 s.snd.snd.snd.snd.fst), SV.val (Go.Value.int IntKind.i64 s.snd.snd.snd.snd.snd)],
  HObj.row Md.rw ty2 (K.int IntKind.i64) a.fst, HObj.row Md.rw ty2 (K.int IntKind.i64) a.snd.fst] ∧ I (a_4, IntKind.i64.wrap (x.snd.fst + (1 : Int)), ()) () ∧ μ (a_4,
  IntKind.i64.wrap (x.snd.fst + (1 : Int)), ()) () < μ x y) (HIs [HObj.box Md.rw ty39 [SV.data (K.flt Go.FloatKind.f64).slice s.fst, SV.data (K.int IntKind.i64).slice s.snd.fst,
  SV.data (K.int IntKind.i64).slice s.snd.snd.fst, SV.data (K.flt Go.FloatKind.f64).slice s.snd.snd.snd.fst, SV.val (Go.Value.int IntKind.i64 s.snd.snd.snd.snd.fst), SV.val
  (Go.Value.int IntKind.i64 s.snd.snd.snd.snd.snd)], HObj.row Md.rw ty2 (K.int IntKind.i64) a.fst, HObj.row Md.rw ty2 (K.int IntKind.i64) a.snd.fst] [HObj.box Md.rw ty39 [SV.data
  (K.flt Go.FloatKind.f64).slice s.fst, SV.data (K.int IntKind.i64).slice s.snd.fst, SV.data (K.int IntKind.i64).slice s.snd.snd.fst, SV.data (K.flt Go.FloatKind.f64).slice
  s.snd.snd.snd.fst, SV.val (Go.Value.int IntKind.i64 s.snd.snd.snd.snd.fst), SV.val (Go.Value.int IntKind.i64 s.snd.snd.snd.snd.snd)], HObj.row Md.rw ty2 (K.int IntKind.i64) a.fst,
  HObj.row Md.rw ty2 (K.int IntKind.i64) a.snd.fst] ∧ I (Bool.false, IntKind.i64.wrap (x.snd.fst + (1 : Int)), ()) () ∧ μ (Bool.false, IntKind.i64.wrap (x.snd.fst + (1 : Int)), ())
  () < μ x y)) (HIs [HObj.box Md.rw ty39 [SV.data (K.flt Go.FloatKind.f64).slice s.fst, SV.data (K.int IntKind.i64).slice s.snd.fst, SV.data (K.int IntKind.i64).slice s.snd.snd.fst,
  SV.data (K.flt Go.FloatKind.f64).slice s.snd.snd.snd.fst, SV.val (Go.Value.int IntKind.i64 s.snd.snd.snd.snd.fst), SV.val (Go.Value.int IntKind.i64 s.snd.snd.snd.snd.snd)],
  HObj.row Md.rw ty2 (K.int IntKind.i64) a.fst, HObj.row Md.rw ty2 (K.int IntKind.i64) a.snd.fst] [HObj.box Md.rw ty39 [SV.data (K.flt Go.FloatKind.f64).slice s.fst, SV.data (K.int
  IntKind.i64).slice s.snd.fst, SV.data (K.int IntKind.i64).slice s.snd.snd.fst, SV.data (K.flt Go.FloatKind.f64).slice s.snd.snd.snd.fst, SV.val (Go.Value.int IntKind.i64
  s.snd.snd.snd.snd.fst), SV.val (Go.Value.int IntKind.i64 s.snd.snd.snd.snd.snd)], HObj.row Md.rw ty2 (K.int IntKind.i64) a.fst, HObj.row Md.rw ty2 (K.int IntKind.i64) a.snd.fst] ∧
  ∃ (I : Int × Unit → Unit → Prop), ∃ (μ : Int × Unit → Unit → Nat), I ((0 : Int), ()) () ∧ ∀ (x_3 : Int × Unit) (y : Unit), I x_3 y → ∀ (a_4 : Bool), a_4 = decide (x_3.fst <
  (↑s.snd.fst.length : Int)) → Br a_4 (Br (!x.fst) (∃ (h : (0 : Int) ≤ x_3.fst ∧ x_3.fst < (↑s.snd.fst.length : Int)), ∀ (a_5 : Bool), a_5 = decide (s.snd.fst.getD x_3.fst.toNat (0
  : Int) > (0 : Int)) → Br a_5 (∃ (h : WRvDown (newR n).fst s.fst x_3.fst), ∀ (a_6 : Int × Unit), a_6 = rvDownR (newR n).fst s.fst x_3.fst → ∀ (a_7 : Bool), a_7 = decide (a_6.fst ≥
  (0 : Int)) → Br a_7 (∃ (h : (0 : Int) ≤ x_3.fst ∧ x_3.fst < (↑s.snd.fst.length : Int)), ∃ (h : True), ∃ (h : II (s.snd.fst.getD x_3.fst.toNat (0 : Int)) (nAreaR (newR n).fst
  x_3.fst).fst), ∀ (a_8 : Bool), a_8 = fcmp Go.BinOp.lss (Go.FloatKind.f64.format.order (depthR (s.snd.fst.getD x_3.fst.toNat (0 : Int)) (nAreaR (newR n).fst x_3.fst).fst).fst
  (4602678819172646912 : Nat)) → Br a_8 (post (Bool.true, ())) (HIs [HObj.box Md.rw ty39 [SV.data (K.flt Go.FloatKind.f64).slice s.fst, SV.data (K.int IntKind.i64).slice s.snd.fst,
  SV.data (K.int IntKind.i64).slice s.snd.snd.fst, SV.data (K.flt Go.FloatKind.f64).slice s.snd.snd.snd.fst, SV.val (Go.Value.int IntKind.i64 s.snd.snd.snd.snd.fst), SV.val
  (Go.Value.int IntKind.i64 s.snd.snd.snd.snd.snd)], HObj.row Md.rw ty2 (K.int IntKind.i64) a.fst, HObj.row Md.rw ty2 (K.int IntKind.i64) a.snd.fst] [HObj.box Md.rw ty39 [SV.data
  (K.flt Go.FloatKind.f64).slice s.fst, SV.data (K.int IntKind.i64).slice s.snd.fst, SV.data (K.int IntKind.i64).slice s.snd.snd.fst, SV.data (K.flt Go.FloatKind.f64).slice
  s.snd.snd.snd.fst, SV.val (Go.Value.int IntKind.i64 s.snd.snd.snd.snd.fst), SV.val (Go.Value.int IntKind.i64 s.snd.snd.snd.snd.snd)], HObj.row Md.rw ty2 (K.int IntKind.i64) a.fst,
  HObj.row Md.rw ty2 (K.int IntKind.i64) a.snd.fst] ∧ I (IntKind.i64.wrap (x_3.fst + (1 : Int)), ()) () ∧ μ (IntKind.i64.wrap (x_3.fst + (1 : Int)), ()) () < μ x_3 y)) (HIs
  [HObj.box Md.rw ty39 [SV.data (K.flt Go.FloatKind.f64).slice s.fst, SV.data (K.int IntKind.i64).slice s.snd.fst, SV.data (K.int IntKind.i64).slice s.snd.snd.fst, SV.data (K.flt
  Go.FloatKind.f64).slice s.snd.snd.snd.fst, SV.val (Go.Value.int IntKind.i64 s.snd.snd.snd.snd.fst), SV.val (Go.Value.int IntKind.i64 s.snd.snd.snd.snd.snd)], HObj.row Md.rw ty2
  (K.int IntKind.i64) a.fst, HObj.row Md.rw ty2 (K.int IntKind.i64) a.snd.fst] [HObj.box Md.rw ty39 [SV.data (K.flt Go.FloatKind.f64).slice s.fst, SV.data (K.int IntKind.i64).slice
  s.snd.fst, SV.data (K.int IntKind.i64).slice s.snd.snd.fst, SV.data (K.flt Go.FloatKind.f64).slice s.snd.snd.snd.fst, SV.val (Go.Value.int IntKind.i64 s.snd.snd.snd.snd.fst),
  SV.val (Go.Value.int IntKind.i64 s.snd.snd.snd.snd.snd)], HObj.row Md.rw ty2 (K.int IntKind.i64) a.fst, HObj.row Md.rw ty2 (K.int IntKind.i64) a.snd.fst] ∧ I (IntKind.i64.wrap
  (x_3.fst + (1 : Int)), ()) () ∧ μ (IntKind.i64.wrap (x_3.fst + (1 : Int)), ()) () < μ x_3 y)) (HIs [HObj.box Md.rw ty39 [SV.data (K.flt Go.FloatKind.f64).slice s.fst, SV.data
  (K.int IntKind.i64).slice s.snd.fst, SV.data (K.int IntKind.i64).slice s.snd.snd.fst, SV.data (K.flt Go.FloatKind.f64).slice s.snd.snd.snd.fst, SV.val (Go.Value.int IntKind.i64
  s.snd.snd.snd.snd.fst), SV.val (Go.Value.int IntKind.i64 s.snd.snd.snd.snd.snd)], HObj.row Md.rw ty2 (K.int IntKind.i64) a.fst, HObj.row Md.rw ty2 (K.int IntKind.i64) a.snd.fst]
  [HObj.box Md.rw ty39 [SV.data (K.flt Go.FloatKind.f64).slice s.fst, SV.data (K.int IntKind.i64).slice s.snd.fst, SV.data (K.int IntKind.i64).slice s.snd.snd.fst, SV.data (K.flt
  Go.FloatKind.f64).slice s.snd.snd.snd.fst, SV.val (Go.Value.int IntKind.i64 s.snd.snd.snd.snd.fst), SV.val (Go.Value.int IntKind.i64 s.snd.snd.snd.snd.snd)], HObj.row Md.rw ty2
  (K.int IntKind.i64) a.fst, HObj.row Md.rw ty2 (K.int IntKind.i64) a.snd.fst] ∧ I (IntKind.i64.wrap (x_3.fst + (1 : Int)), ()) () ∧ μ (IntKind.i64.wrap (x_3.fst + (1 : Int)), ())
  () < μ x_3 y)) (∃ (h : True), ∀ (a_5 : Bool × Unit), a_5 = intsR (List.take a.fst.length (List.drop (0 : Nat) a.fst)) s.snd.fst → ∀ (a_6 : Bool), a_6 = a_5.fst → Br a_6 (∃ (h :
  True), ∀ (a_7 : Bool × Unit), a_7 = intsR (List.take a.snd.fst.length (List.drop (0 : Nat) a.snd.fst)) s.snd.snd.fst → ∀ (a : Bool), a = a_7.fst → post (a, ())) (post (Bool.false,
  ())))) (∃ (h : True), ∀ (a_5 : Bool × Unit), a_5 = intsR (List.take a.fst.length (List.drop (0 : Nat) a.fst)) s.snd.fst → ∀ (a_6 : Bool), a_6 = a_5.fst → Br a_6 (∃ (h : True), ∀
  (a_7 : Bool × Unit), a_7 = intsR (List.take a.snd.fst.length (List.drop (0 : Nat) a.snd.fst)) s.snd.snd.fst → ∀ (a : Bool), a = a_7.fst → post (a, ())) (post (Bool.false,
  ())))))))
theorem Lx_law19_RiverDeep (ty0 ty1 : Nat) (n : Int) (s : (List Nat) × (List Int) × (List Int) × (List Nat) × Int × Int) (h : WCheck n s) (w : KS.wf [.int .i64, kSea] (n, s, ())) : Fx_law19_RiverDeep ty0 ty1 n s (fun r => r = yesS n s) := by
  obtain ⟨hn, hs⟩ := h
  have wr : ∀ {g}, NetP g → WRun g (s.1, s.2.1, s.2.2.1, s.2.2.2.1, s.2.2.2.2.1, s.2.2.2.2.2) := fun hg => ⟨hg, hs.1, hs.2.1, hs.2.2.1⟩
  have same : ∀ l : List Int, (intsR l l).1 = true := fun l => beq_self_eq_true l
  refine ⟨trivial, ?_⟩
  rintro _ rfl
  rintro _ rfl
  refine Br.intro (fun e => absurd e (by first | decide | simp)) fun _ => ?_
  refine ⟨hn, ?_⟩
  rcases new_cases n with ⟨_, e1, _⟩ | ⟨_, gn, e1, _⟩
  · rw [e1]
    rintro _ rfl
    exact Br.intro (fun _ => rfl) fun e => absurd e (by decide)
  rw [e1]
  rintro _ rfl
  refine Br.intro (fun e => absurd e (by first | decide | simp)) fun _ => ?_
  refine ⟨wr (.inr ⟨n, gn, rfl⟩), ?_⟩
  rintro _ rfl
  rcases run_net n s with e | ⟨w', t, e, R⟩
  · have e : runFR (some (netG n)) (s.1, s.2.1, s.2.2.1, s.2.2.2.1, s.2.2.2.2.1, s.2.2.2.2.2) = ([], [], 1, ()) := e
    rw [e]
    rintro _ rfl
    exact Br.intro (fun _ => rfl) fun e => absurd e (by decide)
  have e : runFR (some (netG n)) (s.1, s.2.1, s.2.2.1, s.2.2.2.1, s.2.2.2.2.1, s.2.2.2.2.2) = (w', t, 0, ()) := e
  rw [e]
  have l1 := R.q1.len
  have l2 := R.q2.len
  have l3 := R.wat
  have l4 := R.tra
  have l5 := R.bed
  have cr := cells_rng n
  have hD : ∀ c, (rvDownR (some (netG n)) s.1 c).fst = downF true (cellsI n) n s.1 c := fun c => by
    show downF true (nCells (some (netG n))) n s.1 c = _
    rw [nCells_net]
  have k1 : List.take w'.length (List.drop 0 w') = w' := by rw [List.drop_zero, List.take_length]
  have k2 : List.take t.length (List.drop 0 t) = t := by rw [List.drop_zero, List.take_length]
  rintro _ rfl
  refine Br.intro (fun e => absurd e (by first | decide | simp)) fun _ => ?_
  refine ⟨rfl, fun x _ => ∃ k : Nat, x.2.1 = k ∧ k ≤ s.1.length ∧ (x.1 = true → ∀ j, j < k → s.2.1.getD j 0 < 4), fun x _ => s.1.length - x.2.1.toNat, ⟨0, rfl, by omega, fun _ j hj => by omega⟩, ?_⟩
  rintro ⟨few, _, ⟨⟩⟩ ⟨⟩ ⟨k, rfl, hk, hf⟩
  dsimp only at hf ⊢
  rintro _ rfl
  refine Br.intro (fun e => ?_) fun e => ?_
  · have hk2 : k < s.1.length := by have := of_decide_eq_true e; omega
    rw [Int.toNat_natCast, wi_succ hk2 (by omega)]
    refine Br.intro (fun e => ?_) fun e => ⟨rfl, ⟨k + 1, rfl, by omega, fun q => by cases q⟩, by omega⟩
    refine ⟨⟨by omega, by omega⟩, ?_⟩
    rintro _ rfl
    refine ⟨rfl, ⟨k + 1, rfl, by omega, fun q j hj => ?_⟩, by omega⟩
    by_cases ej : j = k
    · subst ej; exact of_decide_eq_true q
    · exact hf e j (by omega)
  have hke : k = s.1.length := by have := of_decide_eq_false e; omega
  subst hke
  clear e
  refine ⟨rfl, fun x _ => ∃ k : Nat, x.1 = k ∧ k ≤ s.1.length ∧ ∀ j : Nat, j < k → downF true (cellsI n) n s.1 j < 0 ∨ s.2.1.getD j 0 < 4 ∨ shallowB (s.2.1.getD j 0) (areaI n j) = false, fun x _ => s.1.length - x.1.toNat, ⟨0, rfl, by omega, fun j hj => by omega⟩, ?_⟩
  rintro ⟨_, ⟨⟩⟩ ⟨⟩ ⟨k, rfl, hk, hj⟩
  have fin : (∀ j : Nat, j < s.1.length → downF true (cellsI n) n s.1 j < 0 ∨ s.2.1.getD j 0 < 4 ∨ shallowB (s.2.1.getD j 0) (areaI n j) = false) → w' = s.2.1 ∧ t = s.2.2.1 := fun q => R.still fun c c0 c1 => by
    have := q c.toNat (by omega)
    rwa [show ((c.toNat : Nat) : Int) = c by omega] at this
  dsimp only
  rintro _ rfl
  refine Br.intro (fun e => ?_) fun e => ?_
  rotate_left
  · have hke : k = s.1.length := by have := of_decide_eq_false e; omega
    subst hke
    refine ⟨trivial, ?_⟩
    rintro _ rfl
    rintro _ rfl
    obtain ⟨z1, z2⟩ := fin hj
    rw [k1, z1, same]
    refine Br.intro (fun _ => ?_) fun e => absurd e (by decide)
    refine ⟨trivial, ?_⟩
    rintro _ rfl
    rintro _ rfl
    rw [k2, z2, same]
    rfl
  have hk2 : k < s.1.length := by have := of_decide_eq_true e; omega
  refine Br.intro (fun e => ?_) fun e => ?_
  rotate_left
  · have e : few = true := by simpa using e
    refine ⟨trivial, ?_⟩
    rintro _ rfl
    rintro _ rfl
    obtain ⟨z1, z2⟩ := fin fun j hj => .inr (.inl (hf e j hj))
    rw [k1, z1, same]
    refine Br.intro (fun _ => ?_) fun e => absurd e (by decide)
    refine ⟨trivial, ?_⟩
    rintro _ rfl
    rintro _ rfl
    rw [k2, z2, same]
    rfl
  rw [Int.toNat_natCast, wi_succ hk2 (by omega)]
  have more : (downF true (cellsI n) n s.1 k < 0 ∨ s.2.1.getD k 0 < 4 ∨ shallowB (s.2.1.getD k 0) (areaI n k) = false) → ∀ j : Nat, j < k + 1 → downF true (cellsI n) n s.1 j < 0 ∨ s.2.1.getD j 0 < 4 ∨ shallowB (s.2.1.getD j 0) (areaI n j) = false := fun q j hj2 => by
    by_cases ej : j = k
    · subst ej; exact q
    · exact hj j (by omega)
  have inS : (0 : Int) ≤ (k : Int) ∧ (k : Int) < (s.2.1.length : Int) := ⟨by omega, by omega⟩
  refine ⟨inS, ?_⟩
  rintro _ rfl
  refine Br.intro (fun e1 => ?_) fun e1 => ⟨rfl, ⟨k + 1, rfl, by omega, more (.inr (.inl (by have := of_decide_eq_false e1; omega)))⟩, by omega⟩
  refine ⟨⟨.inr ⟨n, gn, rfl⟩, hs.1⟩, ?_⟩
  rintro _ rfl
  rw [hD]
  rintro _ rfl
  refine Br.intro (fun e1 => ?_) fun e1 => ⟨rfl, ⟨k + 1, rfl, by omega, more (.inl (by have := of_decide_eq_false e1; omega))⟩, by omega⟩
  have hA : (nAreaR (some (netG n)) (k : Int)).fst = areaI n k := nArea_net (by omega) (by omega)
  rw [hA]
  refine ⟨inS, trivial, ⟨hs.2.1 _ (getD_mem (by omega) 0), (area_rng _ _).1⟩, ?_⟩
  rintro _ rfl
  refine Br.intro (fun _ => rfl) fun e1 => ⟨rfl, ⟨k + 1, rfl, by omega, more (.inr (.inr e1))⟩, by omega⟩
end Go.Lift

set_option linter.unusedVariables false
set_option linter.unusedSimpArgs false
namespace Go.Lift
def Fx_law19_lives := fun (ty39 ty59 ty2 : Nat) (post : Bool × Unit → Prop) => ∃ (h : I64 (1 : Int)), ∀ (a : Bool), a = ((newR (1 : Int)).snd.fst != (0 : Int)) → Br a (post
  (Bool.false, ())) (∃ (h : True), ∀ (a : Bool), a = decide ((nCellsR (newR (1 : Int)).fst).fst < (0 : Int)) → Br a (∀ (a : Bool), a = ((0 : Int) != (6 : Int)) → Br a (post
  (Bool.false, ())) False) (∀ (a : Bool), a = decide ((nCellsR (newR (1 : Int)).fst).fst > (6144 : Int)) → Br a (∀ (a : Bool), a = ((0 : Int) != (6 : Int)) → Br a (post (Bool.false,
  ())) False) (∃ (h : True), ∀ (a : Bool), a = ((nEdgesR (newR (1 : Int)).fst).fst != IntKind.i64.wrap ((2 : Int) * (nCellsR (newR (1 : Int)).fst).fst)) → Br a (∀ (a : Bool), a =
  ((0 : Int) != (6 : Int)) → Br a (post (Bool.false, ())) False) (∃ (h : (0 : Int) ≤ (nCellsR (newR (1 : Int)).fst).fst ∧ (nCellsR (newR (1 : Int)).fst).fst ≤ (nCellsR (newR (1 :
  Int)).fst).fst ∧ (nCellsR (newR (1 : Int)).fst).fst * (↑(8 : Nat) : Int) ≤ (281474976710656 : Int)), ∃ (h : (0 : Int) ≤ (nCellsR (newR (1 : Int)).fst).fst ∧ (nCellsR (newR (1 :
  Int)).fst).fst ≤ (nCellsR (newR (1 : Int)).fst).fst ∧ (nCellsR (newR (1 : Int)).fst).fst * (↑(8 : Nat) : Int) ≤ (281474976710656 : Int)), ∃ (h : (0 : Int) ≤ (nCellsR (newR (1 :
  Int)).fst).fst ∧ (nCellsR (newR (1 : Int)).fst).fst ≤ (nCellsR (newR (1 : Int)).fst).fst ∧ (nCellsR (newR (1 : Int)).fst).fst * (↑(8 : Nat) : Int) ≤ (281474976710656 : Int)), ∃ (h
  : (0 : Int) ≤ IntKind.i64.wrap ((2 : Int) * (nCellsR (newR (1 : Int)).fst).fst) ∧ IntKind.i64.wrap ((2 : Int) * (nCellsR (newR (1 : Int)).fst).fst) ≤ IntKind.i64.wrap ((2 : Int) *
  (nCellsR (newR (1 : Int)).fst).fst) ∧ IntKind.i64.wrap ((2 : Int) * (nCellsR (newR (1 : Int)).fst).fst) * (↑(8 : Nat) : Int) ≤ (281474976710656 : Int)), HIs [HObj.pend, HObj.box
  Md.rw ty39 [SV.val (Go.Value.slice Option.none (0 : Nat) (0 : Nat)), SV.val (Go.Value.slice Option.none (0 : Nat) (0 : Nat)), SV.val (Go.Value.slice Option.none (0 : Nat) (0 :
  Nat)), SV.val (Go.Value.slice Option.none (0 : Nat) (0 : Nat)), SV.val (Go.Value.int IntKind.i64 (0 : Int)), SV.val (Go.Value.int IntKind.i64 (0 : Int))], HObj.row Md.rw ty59
  (K.flt Go.FloatKind.f64) (List.replicate (nCellsR (newR (1 : Int)).fst).fst.toNat (0 : Nat)), HObj.row Md.rw ty2 (K.int IntKind.i64) (List.replicate (nCellsR (newR (1 :
  Int)).fst).fst.toNat (0 : Int)), HObj.row Md.rw ty2 (K.int IntKind.i64) (List.replicate (nCellsR (newR (1 : Int)).fst).fst.toNat (0 : Int)), HObj.row Md.rw ty59 (K.flt
  Go.FloatKind.f64) (List.replicate (IntKind.i64.wrap ((2 : Int) * (nCellsR (newR (1 : Int)).fst).fst)).toNat (0 : Nat)), HObj.box Md.rw ty39 [SV.osl (2 : Nat) (0 : Nat) (6 : Nat),
  SV.osl (3 : Nat) (0 : Nat) (6 : Nat), SV.osl (4 : Nat) (0 : Nat) (6 : Nat), SV.osl (5 : Nat) (0 : Nat) (12 : Nat), SV.val (Go.Value.int IntKind.i64 (0 : Int)), SV.val
  (Go.Value.int IntKind.i64 (0 : Int))]] [HObj.pend, HObj.box Md.rw ty39 [SV.val (Go.Value.slice Option.none (0 : Nat) (0 : Nat)), SV.val (Go.Value.slice Option.none (0 : Nat) (0 :
  Nat)), SV.val (Go.Value.slice Option.none (0 : Nat) (0 : Nat)), SV.val (Go.Value.slice Option.none (0 : Nat) (0 : Nat)), SV.val (Go.Value.int IntKind.i64 (0 : Int)), SV.val
  (Go.Value.int IntKind.i64 (0 : Int))], HObj.row Md.rw ty59 (K.flt Go.FloatKind.f64) (List.replicate (nCellsR (newR (1 : Int)).fst).fst.toNat (0 : Nat)), HObj.row Md.rw ty2 (K.int
  IntKind.i64) (List.replicate (nCellsR (newR (1 : Int)).fst).fst.toNat (0 : Int)), HObj.row Md.rw ty2 (K.int IntKind.i64) (List.replicate (nCellsR (newR (1 : Int)).fst).fst.toNat
  (0 : Int)), HObj.row Md.rw ty59 (K.flt Go.FloatKind.f64) (List.replicate (IntKind.i64.wrap ((2 : Int) * (nCellsR (newR (1 : Int)).fst).fst)).toNat (0 : Nat)), HObj.box Md.rw ty39
  [SV.osl (2 : Nat) (0 : Nat) (6 : Nat), SV.osl (3 : Nat) (0 : Nat) (6 : Nat), SV.osl (4 : Nat) (0 : Nat) (6 : Nat), SV.osl (5 : Nat) (0 : Nat) (12 : Nat), SV.val (Go.Value.int
  IntKind.i64 (0 : Int)), SV.val (Go.Value.int IntKind.i64 (0 : Int))]] ∧ ∃ (I : Int × Unit → List Int × Unit → Prop), ∃ (μ : Int × Unit → List Int × Unit → Nat), I ((0 : Int), ())
  (List.replicate (nCellsR (newR (1 : Int)).fst).fst.toNat (0 : Int), ()) ∧ ∀ (x : Int × Unit) (y : List Int × Unit), I x y → ∀ (a : Bool), a = decide (x.fst < (nCellsR (newR (1 :
  Int)).fst).fst) → Br a (∃ (h : True), ∃ (h : (0 : Int) ≤ x.fst ∧ x.fst < (↑(nCellsR (newR (1 : Int)).fst).fst.toNat : Int)), ∀ (a : Bool), a = (x.fst == (1 : Int)) → Br a (∃ (h :
  (0 : Int) ≤ x.fst ∧ x.fst < (↑(nCellsR (newR (1 : Int)).fst).fst.toNat : Int)), ∃ (h : (0 : Int) ≤ x.fst ∧ x.fst < (↑(nCellsR (newR (1 : Int)).fst).fst.toNat : Int)), HIs
  [HObj.pend, HObj.box Md.rw ty39 [SV.val (Go.Value.slice Option.none (0 : Nat) (0 : Nat)), SV.val (Go.Value.slice Option.none (0 : Nat) (0 : Nat)), SV.val (Go.Value.slice
  Option.none (0 : Nat) (0 : Nat)), SV.val (Go.Value.slice Option.none (0 : Nat) (0 : Nat)), SV.val (Go.Value.int IntKind.i64 (0 : Int)), SV.val (Go.Value.int IntKind.i64 (0 :
  Int))], HObj.row Md.rw ty59 (K.flt Go.FloatKind.f64) (List.replicate (nCellsR (newR (1 : Int)).fst).fst.toNat (0 : Nat)), HObj.row Md.rw ty2 (K.int IntKind.i64) ((y.fst.set ((0 :
  Nat) + x.fst.toNat) (nAreaR (newR (1 : Int)).fst x.fst).fst).set ((0 : Nat) + x.fst.toNat) (IntKind.i64.wrap ((2 : Int) * (y.fst.set ((0 : Nat) + x.fst.toNat) (nAreaR (newR (1 :
  Int)).fst x.fst).fst).getD ((0 : Nat) + x.fst.toNat) (0 : Int)))), HObj.row Md.rw ty2 (K.int IntKind.i64) (List.replicate (nCellsR (newR (1 : Int)).fst).fst.toNat (0 : Int)),
  HObj.row Md.rw ty59 (K.flt Go.FloatKind.f64) (List.replicate (IntKind.i64.wrap ((2 : Int) * (nCellsR (newR (1 : Int)).fst).fst)).toNat (0 : Nat)), HObj.box Md.rw ty39 [SV.osl (2 :
  Nat) (0 : Nat) (6 : Nat), SV.osl (3 : Nat) (0 : Nat) (6 : Nat), SV.osl (4 : Nat) (0 : Nat) (6 : Nat), SV.osl (5 : Nat) (0 : Nat) (12 : Nat), SV.val (Go.Value.int IntKind.i64 (0 :
  Int)), SV.val (Go.Value.int IntKind.i64 (0 : Int))]] [HObj.pend, HObj.box Md.rw ty39 [SV.val (Go.Value.slice Option.none (0 : Nat) (0 : Nat)), SV.val (Go.Value.slice Option.none
  (0 : Nat) (0 : Nat)), SV.val (Go.Value.slice Option.none (0 : Nat) (0 : Nat)), SV.val (Go.Value.slice Option.none (0 : Nat) (0 : Nat)), SV.val (Go.Value.int IntKind.i64 (0 :
  Int)), SV.val (Go.Value.int IntKind.i64 (0 : Int))], HObj.row Md.rw ty59 (K.flt Go.FloatKind.f64) (List.replicate (nCellsR (newR (1 : Int)).fst).fst.toNat (0 : Nat)), HObj.row
  Md.rw ty2 (K.int IntKind.i64) ((y.fst.set ((0 : Nat) + x.fst.toNat) (nAreaR (newR (1 : Int)).fst x.fst).fst).set ((0 : Nat) + x.fst.toNat) (IntKind.i64.wrap ((2 : Int) *
  (y.fst.set ((0 : Nat) + x.fst.toNat) (nAreaR (newR (1 : Int)).fst x.fst).fst).getD ((0 : Nat) + x.fst.toNat) (0 : Int)))), HObj.row Md.rw ty2 (K.int IntKind.i64) (List.replicate
  (nCellsR (newR (1 : Int)).fst).fst.toNat (0 : Int)), HObj.row Md.rw ty59 (K.flt Go.FloatKind.f64) (List.replicate (IntKind.i64.wrap ((2 : Int) * (nCellsR (newR (1 :
  Int)).fst).fst)).toNat (0 : Nat)), HObj.box Md.rw ty39 [SV.osl (2 : Nat) (0 : Nat) (6 : Nat), SV.osl (3 : Nat) (0 : Nat) (6 : Nat), SV.osl (4 : Nat) (0 : Nat) (6 : Nat), SV.osl (5
  : Nat) (0 : Nat) (12 : Nat), SV.val (Go.Value.int IntKind.i64 (0 : Int)), SV.val (Go.Value.int IntKind.i64 (0 : Int))]] ∧ I (IntKind.i64.wrap (x.fst + (1 : Int)), ()) ((y.fst.set
  ((0 : Nat) + x.fst.toNat) (nAreaR (newR (1 : Int)).fst x.fst).fst).set ((0 : Nat) + x.fst.toNat) (IntKind.i64.wrap ((2 : Int) * (y.fst.set ((0 : Nat) + x.fst.toNat) (nAreaR (newR
  (1 : Int)).fst x.fst).fst).getD ((0 : Nat) + x.fst.toNat) (0 : Int))), ()) ∧ μ (IntKind.i64.wrap (x.fst + (1 : Int)), ()) ((y.fst.set ((0 : Nat) + x.fst.toNat) (nAreaR (newR (1 :
  Int)).fst x.fst).fst).set ((0 : Nat) + x.fst.toNat) (IntKind.i64.wrap ((2 : Int) * (y.fst.set ((0 : Nat) + x.fst.toNat) (nAreaR (newR (1 : Int)).fst x.fst).fst).getD ((0 : Nat) +
  x.fst.toNat) (0 : Int))), ()) < μ x y) (HIs [HObj.pend, HObj.box Md.rw ty39 [SV.val (Go.Value.slice Option.none (0 : Nat) (0 : Nat)), SV.val (Go.Value.slice Option.none (0 : Nat)
  (0 : Nat)), SV.val (Go.Value.slice Option.none (0 : Nat) (0 : Nat)), SV.val (Go.Value.slice Option.none (0 : Nat) (0 : Nat)), SV.val (Go.Value.int IntKind.i64 (0 : Int)), SV.val
  (Go.Value.int IntKind.i64 (0 : Int))], HObj.row Md.rw ty59 (K.flt Go.FloatKind.f64) (List.replicate (nCellsR (newR (1 : Int)).fst).fst.toNat (0 : Nat)), HObj.row Md.rw ty2 (K.int
  IntKind.i64) (y.fst.set ((0 : Nat) + x.fst.toNat) (nAreaR (newR (1 : Int)).fst x.fst).fst), HObj.row Md.rw ty2 (K.int IntKind.i64) (List.replicate (nCellsR (newR (1 :
  Int)).fst).fst.toNat (0 : Int)), HObj.row Md.rw ty59 (K.flt Go.FloatKind.f64) (List.replicate (IntKind.i64.wrap ((2 : Int) * (nCellsR (newR (1 : Int)).fst).fst)).toNat (0 : Nat)),
  HObj.box Md.rw ty39 [SV.osl (2 : Nat) (0 : Nat) (6 : Nat), SV.osl (3 : Nat) (0 : Nat) (6 : Nat), SV.osl (4 : Nat) (0 : Nat) (6 : Nat), SV.osl (5 : Nat) (0 : Nat) (12 : Nat),
  SV.val (Go.Value.int IntKind.i64 (0 : Int)), SV.val (Go.Value.int IntKind.i64 (0 : Int))]] [HObj.pend, HObj.box Md.rw ty39 [SV.val (Go.Value.slice Option.none (0 : Nat) (0 :
  Nat)), SV.val (Go.Value.slice Option.none (0 : Nat) (0 : Nat)), SV.val (Go.Value.slice Option.none (0 : Nat) (0 : Nat)), SV.val (Go.Value.slice Option.none (0 : Nat) (0 : Nat)),
  SV.val (Go.Value.int IntKind.i64 (0 : Int)), SV.val (Go.Value.int IntKind.i64 (0 : Int))], HObj.row Md.rw ty59 (K.flt Go.FloatKind.f64) (List.replicate (nCellsR (newR (1 :
  Int)).fst).fst.toNat (0 : Nat)), HObj.row Md.rw ty2 (K.int IntKind.i64) (y.fst.set ((0 : Nat) + x.fst.toNat) (nAreaR (newR (1 : Int)).fst x.fst).fst), HObj.row Md.rw ty2 (K.int
  IntKind.i64) (List.replicate (nCellsR (newR (1 : Int)).fst).fst.toNat (0 : Int)), HObj.row Md.rw ty59 (K.flt Go.FloatKind.f64) (List.replicate (IntKind.i64.wrap ((2 : Int) *
  (nCellsR (newR (1 : Int)).fst).fst)).toNat (0 : Nat)), HObj.box Md.rw ty39 [SV.osl (2 : Nat) (0 : Nat) (6 : Nat), SV.osl (3 : Nat) (0 : Nat) (6 : Nat), SV.osl (4 : Nat) (0 : Nat)
  (6 : Nat), SV.osl (5 : Nat) (0 : Nat) (12 : Nat), SV.val (Go.Value.int IntKind.i64 (0 : Int)), SV.val (Go.Value.int IntKind.i64 (0 : Int))]] ∧ I (IntKind.i64.wrap (x.fst + (1 :
  Int)), ()) (y.fst.set ((0 : Nat) + x.fst.toNat) (nAreaR (newR (1 : Int)).fst x.fst).fst, ()) ∧ μ (IntKind.i64.wrap (x.fst + (1 : Int)), ()) (y.fst.set ((0 : Nat) + x.fst.toNat)
  (nAreaR (newR (1 : Int)).fst x.fst).fst, ()) < μ x y)) (∀ (a : Bool), a = ((↑(nCellsR (newR (1 : Int)).fst).fst.toNat : Int) != (6 : Int)) → Br a (post (Bool.false, ())) (HIs
  [HObj.box Md.rw ty39 [SV.osl (2 : Nat) (0 : Nat) (6 : Nat), SV.osl (3 : Nat) (0 : Nat) (6 : Nat), SV.osl (4 : Nat) (0 : Nat) (6 : Nat), SV.osl (5 : Nat) (0 : Nat) (12 : Nat),
  SV.val (Go.Value.int IntKind.i64 (0 : Int)), SV.val (Go.Value.int IntKind.i64 (0 : Int))], HObj.box Md.rw ty39 [SV.osl (2 : Nat) (0 : Nat) (6 : Nat), SV.osl (3 : Nat) (0 : Nat) (6
  : Nat), SV.osl (4 : Nat) (0 : Nat) (6 : Nat), SV.osl (5 : Nat) (0 : Nat) (12 : Nat), SV.val (Go.Value.int IntKind.i64 (0 : Int)), SV.val (Go.Value.int IntKind.i64 (0 : Int))],
  HObj.row Md.rw ty59 (K.flt Go.FloatKind.f64) (List.replicate (nCellsR (newR (1 : Int)).fst).fst.toNat (0 : Nat)), HObj.row Md.rw ty2 (K.int IntKind.i64) y.fst, HObj.row Md.rw ty2
  (K.int IntKind.i64) (List.replicate (nCellsR (newR (1 : Int)).fst).fst.toNat (0 : Int)), HObj.row Md.rw ty59 (K.flt Go.FloatKind.f64) (List.replicate (IntKind.i64.wrap ((2 : Int)
  * (nCellsR (newR (1 : Int)).fst).fst)).toNat (0 : Nat)), HObj.box Md.rw ty39 [SV.osl (2 : Nat) (0 : Nat) (6 : Nat), SV.osl (3 : Nat) (0 : Nat) (6 : Nat), SV.osl (4 : Nat) (0 :
  Nat) (6 : Nat), SV.osl (5 : Nat) (0 : Nat) (12 : Nat), SV.val (Go.Value.int IntKind.i64 (0 : Int)), SV.val (Go.Value.int IntKind.i64 (0 : Int))]] [HObj.box Md.rw ty39 [SV.osl (2 :
  Nat) (0 : Nat) (6 : Nat), SV.osl (3 : Nat) (0 : Nat) (6 : Nat), SV.osl (4 : Nat) (0 : Nat) (6 : Nat), SV.osl (5 : Nat) (0 : Nat) (12 : Nat), SV.val (Go.Value.int IntKind.i64 (0 :
  Int)), SV.val (Go.Value.int IntKind.i64 (0 : Int))], HObj.box Md.rw ty39 [SV.osl (2 : Nat) (0 : Nat) (6 : Nat), SV.osl (3 : Nat) (0 : Nat) (6 : Nat), SV.osl (4 : Nat) (0 : Nat) (6
  : Nat), SV.osl (5 : Nat) (0 : Nat) (12 : Nat), SV.val (Go.Value.int IntKind.i64 (0 : Int)), SV.val (Go.Value.int IntKind.i64 (0 : Int))], HObj.row Md.rw ty59 (K.flt
  Go.FloatKind.f64) (List.replicate (nCellsR (newR (1 : Int)).fst).fst.toNat (0 : Nat)), HObj.row Md.rw ty2 (K.int IntKind.i64) y.fst, HObj.row Md.rw ty2 (K.int IntKind.i64)
  (List.replicate (nCellsR (newR (1 : Int)).fst).fst.toNat (0 : Int)), HObj.row Md.rw ty59 (K.flt Go.FloatKind.f64) (List.replicate (IntKind.i64.wrap ((2 : Int) * (nCellsR (newR (1
  : Int)).fst).fst)).toNat (0 : Nat)), HObj.box Md.rw ty39 [SV.osl (2 : Nat) (0 : Nat) (6 : Nat), SV.osl (3 : Nat) (0 : Nat) (6 : Nat), SV.osl (4 : Nat) (0 : Nat) (6 : Nat), SV.osl
  (5 : Nat) (0 : Nat) (12 : Nat), SV.val (Go.Value.int IntKind.i64 (0 : Int)), SV.val (Go.Value.int IntKind.i64 (0 : Int))]] ∧ ∃ (I : Int × Unit → List Nat × List Int × Unit →
  Prop), ∃ (μ : Int × Unit → List Nat × List Int × Unit → Nat), I ((0 : Int), ()) (List.replicate (nCellsR (newR (1 : Int)).fst).fst.toNat (0 : Nat), y.fst, ()) ∧ ∀ (x : Int × Unit)
  (y : List Nat × List Int × Unit), I x y → ∀ (a : Bool), a = decide (x.fst < (6 : Int)) → Br a (∃ (h : (0 : Int) ≤ x.fst ∧ x.fst < (↑(nCellsR (newR (1 : Int)).fst).fst.toNat :
  Int)), ∃ (h : (0 : Int) ≤ x.fst ∧ x.fst < (↑(nCellsR (newR (1 : Int)).fst).fst.toNat : Int)), HIs [HObj.box Md.rw ty39 [SV.osl (2 : Nat) (0 : Nat) (6 : Nat), SV.osl (3 : Nat) (0 :
  Nat) (6 : Nat), SV.osl (4 : Nat) (0 : Nat) (6 : Nat), SV.osl (5 : Nat) (0 : Nat) (12 : Nat), SV.val (Go.Value.int IntKind.i64 (0 : Int)), SV.val (Go.Value.int IntKind.i64 (0 :
  Int))], HObj.box Md.rw ty39 [SV.osl (2 : Nat) (0 : Nat) (6 : Nat), SV.osl (3 : Nat) (0 : Nat) (6 : Nat), SV.osl (4 : Nat) (0 : Nat) (6 : Nat), SV.osl (5 : Nat) (0 : Nat) (12 :
  Nat), SV.val (Go.Value.int IntKind.i64 (0 : Int)), SV.val (Go.Value.int IntKind.i64 (0 : Int))], HObj.row Md.rw ty59 (K.flt Go.FloatKind.f64) (y.fst.set ((0 : Nat) + x.fst.toNat)
  (Go.FloatKind.f64.nearest (IntKind.i64.wrap ((5 : Int) - x.fst)))), HObj.row Md.rw ty2 (K.int IntKind.i64) (y.snd.fst.set ((0 : Nat) + x.fst.toNat) (0 : Int)), HObj.row Md.rw ty2
  (K.int IntKind.i64) (List.replicate (nCellsR (newR (1 : Int)).fst).fst.toNat (0 : Int)), HObj.row Md.rw ty59 (K.flt Go.FloatKind.f64) (List.replicate (IntKind.i64.wrap ((2 : Int)
  * (nCellsR (newR (1 : Int)).fst).fst)).toNat (0 : Nat)), HObj.box Md.rw ty39 [SV.osl (2 : Nat) (0 : Nat) (6 : Nat), SV.osl (3 : Nat) (0 : Nat) (6 : Nat), SV.osl (4 : Nat) (0 :
  Nat) (6 : Nat), SV.osl (5 : Nat) (0 : Nat) (12 : Nat), SV.val (Go.Value.int IntKind.i64 (0 : Int)), SV.val (Go.Value.int IntKind.i64 (0 : Int))]] [HObj.box Md.rw ty39 [SV.osl (2 :
  Nat) (0 : Nat) (6 : Nat), SV.osl (3 : Nat) (0 : Nat) (6 : Nat), SV.osl (4 : Nat) (0 : Nat) (6 : Nat), SV.osl (5 : Nat) (0 : Nat) (12 : Nat), SV.val (Go.Value.int IntKind.i64 (0 :
  Int)), SV.val (Go.Value.int IntKind.i64 (0 : Int))], HObj.box Md.rw ty39 [SV.osl (2 : Nat) (0 : Nat) (6 : Nat), SV.osl (3 : Nat) (0 : Nat) (6 : Nat), SV.osl (4 : Nat) (0 : Nat) (6
  : Nat), SV.osl (5 : Nat) (0 : Nat) (12 : Nat), SV.val (Go.Value.int IntKind.i64 (0 : Int)), SV.val (Go.Value.int IntKind.i64 (0 : Int))], HObj.row Md.rw ty59 (K.flt
  Go.FloatKind.f64) (y.fst.set ((0 : Nat) + x.fst.toNat) (Go.FloatKind.f64.nearest (IntKind.i64.wrap ((5 : Int) - x.fst)))), HObj.row Md.rw ty2 (K.int IntKind.i64) (y.snd.fst.set
  ((0 : Nat) + x.fst.toNat) (0 : Int)), HObj.row Md.rw ty2 (K.int IntKind.i64) (List.replicate (nCellsR (newR (1 : Int)).fst).fst.toNat (0 : Int)), HObj.row Md.rw ty59 (K.flt
  Go.FloatKind.f64) (List.replicate (IntKind.i64.wrap ((2 : Int) * (nCellsR (newR (1 : Int)).fst).fst)).toNat (0 : Nat)), HObj.box Md.rw ty39 [SV.osl (2 : Nat) (0 : Nat) (6 : Nat),
  SV.osl (3 : Nat) (0 : Nat) (6 : Nat), SV.osl (4 : Nat) (0 : Nat) (6 : Nat), SV.osl (5 : Nat) (0 : Nat) (12 : Nat), SV.val (Go.Value.int IntKind.i64 (0 : Int)), SV.val
  (Go.Value.int IntKind.i64 (0 : Int))]] ∧ I (IntKind.i64.wrap (x.fst + (1 : Int)), ()) (y.fst.set ((0 : Nat) + x.fst.toNat) (Go.FloatKind.f64.nearest (IntKind.i64.wrap ((5 : Int) -
  x.fst))), y.snd.fst.set ((0 : Nat) + x.fst.toNat) (0 : Int), ()) ∧ μ (IntKind.i64.wrap (x.fst + (1 : Int)), ()) (y.fst.set ((0 : Nat) + x.fst.toNat) (Go.FloatKind.f64.nearest
  (IntKind.i64.wrap ((5 : Int) - x.fst))), y.snd.fst.set ((0 : Nat) + x.fst.toNat) (0 : Int), ()) < μ x y) (∃ (h : (0 : Int) ≤ (0 : Int) ∧ (0 : Int) < (↑(nCellsR (newR (1 :
  Int)).fst).fst.toNat : Int)), ∃ (h : (0 : Int) ≤ (0 : Int) ∧ (0 : Int) < (↑(nCellsR (newR (1 : Int)).fst).fst.toNat : Int)), ∃ (h : WRun (newR (1 : Int)).fst (List.take (nCellsR
  (newR (1 : Int)).fst).fst.toNat (List.drop (0 : Nat) y.fst), List.take (nCellsR (newR (1 : Int)).fst).fst.toNat (List.drop (0 : Nat) (y.snd.fst.set ((0 : Nat) + Int.toNat (0 :
  Int)) (100 : Int))), [(10 : Int), (0 : Int), (0 : Int), (0 : Int), (0 : Int), (0 : Int)], [(0 : Nat), (0 : Nat), (0 : Nat), (0 : Nat), (0 : Nat), (0 : Nat), (0 : Nat), (0 : Nat),
  (0 : Nat), (0 : Nat), (0 : Nat), (0 : Nat)], (0 : Int), (0 : Int))), ∀ (a : List Int × List Int × Int × Unit), a = runFR (newR (1 : Int)).fst (List.take (nCellsR (newR (1 :
  Int)).fst).fst.toNat (List.drop (0 : Nat) y.fst), List.take (nCellsR (newR (1 : Int)).fst).fst.toNat (List.drop (0 : Nat) (y.snd.fst.set ((0 : Nat) + Int.toNat (0 : Int)) (100 :
  Int))), [(10 : Int), (0 : Int), (0 : Int), (0 : Int), (0 : Int), (0 : Int)], [(0 : Nat), (0 : Nat), (0 : Nat), (0 : Nat), (0 : Nat), (0 : Nat), (0 : Nat), (0 : Nat), (0 : Nat), (0
  : Nat), (0 : Nat), (0 : Nat)], (0 : Int), (0 : Int)) → ∀ (a_1 : Bool), a_1 = (a.snd.snd.fst != (0 : Int)) → Br a_1 (post (Bool.false, ())) (∀ (a_2 : Bool), a_2 = ((↑a.fst.length :
  Int) != (6 : Int)) → Br a_2 (post (Bool.false, ())) (∀ (a_3 : Bool), a_3 = ((↑a.snd.fst.length : Int) != (6 : Int)) → Br a_3 (post (Bool.false, ())) (∃ (h : (0 : Int) ≤ (0 : Int)
  ∧ (0 : Int) < (↑a.fst.length : Int)), ∀ (a_4 : Bool), a_4 = (a.fst.getD ((0 : Nat) + Int.toNat (0 : Int)) (0 : Int) != (75 : Int)) → Br a_4 (post (Bool.false, ())) (∃ (h : (0 :
  Int) ≤ (5 : Int) ∧ (5 : Int) < (↑a.fst.length : Int)), ∀ (a_5 : Bool), a_5 = (a.fst.getD ((0 : Nat) + Int.toNat (5 : Int)) (0 : Int) != (25 : Int)) → Br a_5 (post (Bool.false,
  ())) (∃ (h : (0 : Int) ≤ (0 : Int) ∧ (0 : Int) < (↑a.snd.fst.length : Int)), ∀ (a_6 : Bool), a_6 = (a.snd.fst.getD ((0 : Nat) + Int.toNat (0 : Int)) (0 : Int) != (8 : Int)) → Br
  a_6 (post (Bool.false, ())) (∃ (h : (0 : Int) ≤ (5 : Int) ∧ (5 : Int) < (↑a.snd.fst.length : Int)), ∀ (a_7 : Bool), a_7 = (a.snd.fst.getD ((0 : Nat) + Int.toNat (5 : Int)) (0 :
  Int) != (2 : Int)) → Br a_7 (post (Bool.false, ())) (∃ (h : WRvDown (newR (1 : Int)).fst (List.take (nCellsR (newR (1 : Int)).fst).fst.toNat (List.drop (0 : Nat) y.fst)) (0 :
  Int)), ∀ (a : Int × Unit), a = rvDownR (newR (1 : Int)).fst (List.take (nCellsR (newR (1 : Int)).fst).fst.toNat (List.drop (0 : Nat) y.fst)) (0 : Int) → ∀ (a_8 : Bool), a_8 =
  (a.fst == (5 : Int)) → Br a_8 (∃ (h : WRvDown (newR (1 : Int)).fst (List.take (nCellsR (newR (1 : Int)).fst).fst.toNat (List.drop (0 : Nat) y.fst)) (5 : Int)), ∀ (a : Int × Unit),
  a = rvDownR (newR (1 : Int)).fst (List.take (nCellsR (newR (1 : Int)).fst).fst.toNat (List.drop (0 : Nat) y.fst)) (5 : Int) → ∀ (a_9 : Bool), a_9 = (a.fst == (-1 : Int)) → Br a_9
  (∃ (h : WOrd [(4607182418800017408 : Nat), (4613937818241073152 : Nat), (4611686018427387904 : Nat), (4613937818241073152 : Nat)]), ∀ (a : List Int × Unit), a = ordLR
  [(4607182418800017408 : Nat), (4613937818241073152 : Nat), (4611686018427387904 : Nat), (4613937818241073152 : Nat)] → ∃ (h : True), ∀ (a_10 : Bool × Unit), a_10 = intsR
  (List.take a.fst.length (List.drop (0 : Nat) a.fst)) [(1 : Int), (3 : Int), (2 : Int), (0 : Int)] → ∀ (a : Bool), a = a_10.fst → post (a, ())) (post (Bool.false, ()))) (post
  (Bool.false, ()))))))))))))))))
theorem Lx_law19_lives (ty0 ty1 ty2 : Nat)  : Fx_law19_lives ty0 ty1 ty2  (fun r => r = yesR) := by
  delta Fx_law19_lives
  dsimp only
  rw [new1]
  dsimp only
  have hC : (nCellsR (some (netG 1))).fst = 6 := live_cells
  have hE : (nEdgesR (some (netG 1))).fst = 12 := live_edges
  rw [hC, hE]
  refine ⟨⟨by decide, by decide⟩, ?_⟩
  rintro _ rfl
  refine Br.intro (fun e => absurd e (by first | decide | simp)) fun _ => ?_
  refine ⟨trivial, ?_⟩
  rintro _ rfl
  refine Br.intro (fun e => absurd e (by first | decide | simp)) fun _ => ?_
  rintro _ rfl
  refine Br.intro (fun e => absurd e (by first | decide | simp)) fun _ => ?_
  refine ⟨trivial, ?_⟩
  rintro _ rfl
  refine Br.intro (fun e => absurd e (by first | decide | simp)) fun _ => ?_
  refine ⟨by decide, by decide, by decide, by decide, ?_⟩
  refine ⟨rfl, fun x y => ∃ k : Nat, x.1 = k ∧ k ≤ 6 ∧ y.1 = (List.range k).map (lakeF (some (netG 1))) ++ List.replicate (6 - k) 0, fun x _ => 6 - x.1.toNat, ⟨0, rfl, by omega, rfl⟩, ?_⟩
  rintro ⟨_, ⟨⟩⟩ ⟨_, ⟨⟩⟩ ⟨k, rfl, hk, rfl⟩
  dsimp only
  rintro _ rfl
  have lk : ((List.range k).map (lakeF (some (netG 1)))).length = k := by rw [List.length_map, List.length_range]
  refine Br.intro (fun e3 => ?_) fun e3 => ?_
  · have e3 : k < 6 := by have := of_decide_eq_true e3; omega
    refine ⟨trivial, ⟨by omega, by show (k : Int) < 6; omega⟩, ?_⟩
    rw [Int.toNat_natCast, wi_succ e3 (by omega), set_fill lk e3]
    have ha : (nAreaR (some (netG 1)) (k : Int)).1 = nArea (some (netG 1)) (k : Int) := rfl
    rw [ha]
    rintro _ rfl
    refine Br.intro (fun e4 => ?_) fun e4 => ?_
    · have e4 : k = 1 := by have := beq_iff_eq.1 e4; omega
      refine ⟨⟨by omega, by show (k : Int) < 6; omega⟩, ⟨by omega, by show (k : Int) < 6; omega⟩, rfl, ⟨k + 1, rfl, by omega, ?_⟩, by omega⟩
      have f1 : lakeF (some (netG 1)) k = iw (2 * nArea (some (netG 1)) (k : Int)) := by unfold lakeF; rw [if_pos e4]
      rw [List.range_succ, List.map_append, List.map_singleton, f1]
      exact set_again lk _ _
    · have e4 : ¬ k = 1 := fun q => by rw [q] at e4; simp at e4
      refine ⟨rfl, ⟨k + 1, rfl, by omega, ?_⟩, by omega⟩
      have f1 : lakeF (some (netG 1)) k = nArea (some (netG 1)) (k : Int) := by unfold lakeF; rw [if_neg e4]
      rw [List.range_succ, List.map_append, List.map_singleton, f1]
  have e3 : k = 6 := by have := of_decide_eq_false e3; omega
  subst e3
  clear lk hk
  rw [Nat.sub_self, List.replicate_zero, List.append_nil, lakeF1]
  rintro _ rfl
  refine Br.intro (fun e => absurd e (by first | decide | simp)) fun _ => ?_
  refine ⟨rfl, fun x y => ∃ k : Nat, x.1 = k ∧ k ≤ 6 ∧ y.1 = liveN k ∧ y.2.1 = liveW k, fun x _ => 6 - x.1.toNat, ⟨0, rfl, by omega, rfl, rfl⟩, ?_⟩
  rintro ⟨_, ⟨⟩⟩ ⟨_, _, ⟨⟩⟩ ⟨k, rfl, hk, rfl, rfl⟩
  dsimp only
  rintro _ rfl
  refine Br.intro (fun e3 => ?_) fun e3 => ?_
  · have e3 : k < 6 := by have := of_decide_eq_true e3; omega
    refine ⟨⟨by omega, by show (k : Int) < 6; omega⟩, ⟨by omega, by show (k : Int) < 6; omega⟩, ?_⟩
    rw [Int.toNat_natCast, Nat.zero_add, wi_succ e3 (by omega), wi (x := 5 - (k : Int)) ⟨by omega, by omega⟩]
    exact ⟨rfl, ⟨k + 1, rfl, by omega, rfl, rfl⟩, by omega⟩
  have e3 : k = 6 := by have := of_decide_eq_false e3; omega
  subst e3
  have t1 : List.take (Int.toNat 6) (List.drop 0 (liveN 6)) = liveB := by rw [liveN6]; rfl
  have t2 : List.take (Int.toNat 6) (List.drop 0 ((liveW 6).set (0 + Int.toNat 0) 100)) = [100, 0, 0, 0, 0, 0] := by
    show List.take 6 ((liveW 6).set 0 100) = _
    rw [liveW6]; rfl
  rw [t1, t2]
  have e : runFR (some (netG 1)) (liveB, [100, 0, 0, 0, 0, 0], [10, 0, 0, 0, 0, 0], [0, 0, 0, 0, 0, 0, 0, 0, 0, 0, 0, 0], 0, 0) = ([75, 0, 0, 0, 0, 25], [8, 0, 0, 0, 0, 2], 0, ()) := live_run
  have np : NetP (some (netG 1)) := .inr ⟨1, rfl, rfl⟩
  refine ⟨by decide, by decide, ⟨np, liveB_W, by unfold AllI I64; decide, by unfold AllI I64; decide⟩, ?_⟩
  rintro _ rfl
  rw [e]
  rintro _ rfl
  refine Br.intro (fun e => absurd e (by first | decide | simp)) fun _ => ?_
  rintro _ rfl
  refine Br.intro (fun e => absurd e (by first | decide | simp)) fun _ => ?_
  rintro _ rfl
  refine Br.intro (fun e => absurd e (by first | decide | simp)) fun _ => ?_
  refine ⟨by decide, ?_⟩
  rintro _ rfl
  refine Br.intro (fun e => absurd e (by first | decide | simp)) fun _ => ?_
  refine ⟨by decide, ?_⟩
  rintro _ rfl
  refine Br.intro (fun e => absurd e (by first | decide | simp)) fun _ => ?_
  refine ⟨by decide, ?_⟩
  rintro _ rfl
  refine Br.intro (fun e => absurd e (by first | decide | simp)) fun _ => ?_
  refine ⟨by decide, ?_⟩
  rintro _ rfl
  refine Br.intro (fun e => absurd e (by first | decide | simp)) fun _ => ?_
  refine ⟨⟨np, liveB_W⟩, ?_⟩
  rw [live_down0]
  rintro _ rfl
  rintro _ rfl
  refine Br.intro (fun _ => ?_) fun e => absurd e (by decide)
  refine ⟨⟨np, liveB_W⟩, ?_⟩
  rw [live_down5]
  rintro _ rfl
  rintro _ rfl
  refine Br.intro (fun _ => ?_) fun e => absurd e (by decide)
  refine ⟨⟨by unfold AllW W64; decide, by decide⟩, ?_⟩
  have e4 : ordLR [4607182418800017408, 4613937818241073152, 4611686018427387904, 4613937818241073152] = ([1, 3, 2, 0], ()) := by unfold ordLR; rw [live_ord4]
  rw [e4]
  rintro _ rfl
  refine ⟨trivial, ?_⟩
  rintro _ rfl
  rintro _ rfl
  rfl
end Go.Lift

set_option linter.unusedVariables false
set_option linter.unusedSimpArgs false
namespace Go.Lift
def Fx_grid_New := fun (ty122 ty123 ty2 ty126 fn86 fn87 : Nat) (n : Int) (post : Option (Int × List (Int × Int × Int × Int) × List ((Int × Int) × Int) × List (List Int) × List Int ×
  List Nat × List Nat) × Int × Unit → Prop) => ∃ (h : I64 n), Br ((cellsR n).fst == (0 : Int)) (post (Option.none, (10 : Int), ())) (∃ (h : (0 : Int) ≤ (0 : Int) ∧ (0 : Int) < (↑(2
  : Nat) : Int)), HIs [HObj.mp Md.rw ((K.int IntKind.i64).pair (K.int IntKind.i64)) (K.int IntKind.i64) [], HObj.box Md.rw ty122 [SV.val (Go.Value.int IntKind.i64 n), SV.junk,
  SV.mref (0 : Nat), SV.val (Go.Value.slice Option.none (0 : Nat) (0 : Nat)), SV.junk, SV.val (Go.Value.slice Option.none (0 : Nat) (0 : Nat)), SV.val (Go.Value.slice Option.none (0
  : Nat) (0 : Nat))], HObj.box Md.rw ty123 [SV.clo fn86 [LV.ref (1 : Nat) (0 : Nat)] [], SV.clo fn87 [LV.ref (1 : Nat) (0 : Nat)] []]] [HObj.mp Md.rw ((K.int IntKind.i64).pair
  (K.int IntKind.i64)) (K.int IntKind.i64) [], HObj.box Md.rw ty122 [SV.val (Go.Value.int IntKind.i64 n), SV.junk, SV.mref (0 : Nat), SV.val (Go.Value.slice Option.none (0 : Nat) (0
  : Nat)), SV.junk, SV.val (Go.Value.slice Option.none (0 : Nat) (0 : Nat)), SV.val (Go.Value.slice Option.none (0 : Nat) (0 : Nat))], HObj.box Md.rw ty123 [SV.clo fn86 [LV.ref (1 :
  Nat) (0 : Nat)] [], SV.clo fn87 [LV.ref (1 : Nat) (0 : Nat)] []]] ∧ ∃ (I : Int × List (Int × Int × Int × Int) × List Int × Unit → List ((Int × Int) × Int) × Unit → Prop), ∃ (μ :
  Int × List (Int × Int × Int × Int) × List Int × Unit → List ((Int × Int) × Int) × Unit → Nat), I ((0 : Int), [], [], ()) ([], ()) ∧ ∀ (x : Int × List (Int × Int × Int × Int) ×
  List Int × Unit) (y : List ((Int × Int) × Int) × Unit), I x y → Br (decide (x.fst < (cellsR n).fst)) (((0 : Nat) = (0 : Nat) ∧ x.snd.fst.length = x.snd.fst.length) ∧ HIs [HObj.mp
  Md.rw ((K.int IntKind.i64).pair (K.int IntKind.i64)) (K.int IntKind.i64) y.fst, HObj.box Md.rw ty122 [SV.val (Go.Value.int IntKind.i64 n), SV.junk, SV.mref (0 : Nat), SV.val
  (Go.Value.slice Option.none (0 : Nat) (0 : Nat)), SV.osl (4 : Nat) (0 : Nat) x.snd.snd.fst.length, SV.val (Go.Value.slice Option.none (0 : Nat) (0 : Nat)), SV.val (Go.Value.slice
  Option.none (0 : Nat) (0 : Nat))], HObj.box Md.rw ty123 [SV.clo fn86 [LV.ref (1 : Nat) (0 : Nat)] [], SV.clo fn87 [LV.ref (1 : Nat) (0 : Nat)] []], HObj.dead, HObj.row Md.rw ty2
  (K.int IntKind.i64) x.snd.snd.fst] [HObj.mp Md.rw ((K.int IntKind.i64).pair (K.int IntKind.i64)) (K.int IntKind.i64) y.fst, HObj.box Md.rw ty122 [SV.val (Go.Value.int IntKind.i64
  n), SV.junk, SV.mref (0 : Nat), SV.val (Go.Value.slice Option.none (0 : Nat) (0 : Nat)), SV.osl (4 : Nat) (0 : Nat) x.snd.snd.fst.length, SV.val (Go.Value.slice Option.none (0 :
  Nat) (0 : Nat)), SV.val (Go.Value.slice Option.none (0 : Nat) (0 : Nat))], HObj.box Md.rw ty123 [SV.clo fn86 [LV.ref (1 : Nat) (0 : Nat)] [], SV.clo fn87 [LV.ref (1 : Nat) (0 :
  Nat)] []], HObj.dead, HObj.row Md.rw ty2 (K.int IntKind.i64) x.snd.snd.fst] ∧ ∃ (I_1 : Int × List (Int × Int × Int × Int) × Unit → List ((Int × Int) × Int) × Unit → Prop), ∃ (μ_1
  : Int × List (Int × Int × Int × Int) × Unit → List ((Int × Int) × Int) × Unit → Nat), I_1 ((0 : Int), x.snd.fst, ()) (y.fst, ()) ∧ ∀ (x_2 : Int × List (Int × Int × Int × Int) ×
  Unit) (y_1 : List ((Int × Int) × Int) × Unit), I_1 x_2 y_1 → Br (decide (x_2.fst < (4 : Int))) (∃ (h : III n x.fst x_2.fst), ∀ (a : Int × Int × Unit), a = besideR n x.fst x_2.fst
  → Br (decide (x.fst > a.fst)) (((0 : Nat) = (0 : Nat) ∧ x_2.snd.fst.length = x_2.snd.fst.length) ∧ HIs [HObj.mp Md.rw ((K.int IntKind.i64).pair (K.int IntKind.i64)) (K.int
  IntKind.i64) y_1.fst, HObj.box Md.rw ty122 [SV.val (Go.Value.int IntKind.i64 n), SV.junk, SV.mref (0 : Nat), SV.val (Go.Value.slice Option.none (0 : Nat) (0 : Nat)), SV.osl (4 :
  Nat) (0 : Nat) x.snd.snd.fst.length, SV.val (Go.Value.slice Option.none (0 : Nat) (0 : Nat)), SV.val (Go.Value.slice Option.none (0 : Nat) (0 : Nat))], HObj.box Md.rw ty123
  [SV.clo fn86 [LV.ref (1 : Nat) (0 : Nat)] [], SV.clo fn87 [LV.ref (1 : Nat) (0 : Nat)] []], HObj.dead, HObj.row Md.rw ty2 (K.int IntKind.i64) x.snd.snd.fst] [HObj.mp Md.rw ((K.int
  IntKind.i64).pair (K.int IntKind.i64)) (K.int IntKind.i64) y_1.fst, HObj.box Md.rw ty122 [SV.val (Go.Value.int IntKind.i64 n), SV.junk, SV.mref (0 : Nat), SV.val (Go.Value.slice
  Option.none (0 : Nat) (0 : Nat)), SV.osl (4 : Nat) (0 : Nat) x.snd.snd.fst.length, SV.val (Go.Value.slice Option.none (0 : Nat) (0 : Nat)), SV.val (Go.Value.slice Option.none (0 :
  Nat) (0 : Nat))], HObj.box Md.rw ty123 [SV.clo fn86 [LV.ref (1 : Nat) (0 : Nat)] [], SV.clo fn87 [LV.ref (1 : Nat) (0 : Nat)] []], HObj.dead, HObj.row Md.rw ty2 (K.int
  IntKind.i64) x.snd.snd.fst] ∧ I_1 (IntKind.i64.wrap (x_2.fst + (1 : Int)), x_2.snd.fst, ()) (y_1.fst, ()) ∧ μ_1 (IntKind.i64.wrap (x_2.fst + (1 : Int)), x_2.snd.fst, ()) (y_1.fst,
  ()) < μ_1 x_2 y_1) (∃ (h : x_2.snd.fst.length = x_2.snd.fst.length ∧ (x_2.snd.fst.length + (1 : Nat)) * (32 : Nat) ≤ (140737488355328 : Nat)), ((0 : Nat) = (0 : Nat) ∧
  x_2.snd.fst.length + (1 : Nat) = (x_2.snd.fst ++ [(x.fst, x_2.fst, a.fst, a.snd.fst)]).length) ∧ HIs [HObj.mp Md.rw ((K.int IntKind.i64).pair (K.int IntKind.i64)) (K.int
  IntKind.i64) (mput (a.fst, a.snd.fst) (↑x_2.snd.fst.length : Int) (mput (x.fst, x_2.fst) (↑x_2.snd.fst.length : Int) y_1.fst)), HObj.box Md.rw ty122 [SV.val (Go.Value.int
  IntKind.i64 n), SV.junk, SV.mref (0 : Nat), SV.val (Go.Value.slice Option.none (0 : Nat) (0 : Nat)), SV.osl (4 : Nat) (0 : Nat) x.snd.snd.fst.length, SV.val (Go.Value.slice
  Option.none (0 : Nat) (0 : Nat)), SV.val (Go.Value.slice Option.none (0 : Nat) (0 : Nat))], HObj.box Md.rw ty123 [SV.clo fn86 [LV.ref (1 : Nat) (0 : Nat)] [], SV.clo fn87 [LV.ref
  (1 : Nat) (0 : Nat)] []], HObj.dead, HObj.row Md.rw ty2 (K.int IntKind.i64) x.snd.snd.fst] [HObj.mp Md.rw ((K.int IntKind.i64).pair (K.int IntKind.i64)) (K.int IntKind.i64) (mput
  (a.fst, a.snd.fst) (↑x_2.snd.fst.length : Int) (mput (x.fst, x_2.fst) (↑x_2.snd.fst.length : Int) y_1.fst)), HObj.box Md.rw ty122 [SV.val (Go.Value.int IntKind.i64 n), SV.junk,
  SV.mref (0 : Nat), SV.val (Go.Value.slice Option.none (0 : Nat) (0 : Nat)), SV.osl (4 : Nat) (0 : Nat) x.snd.snd.fst.length, SV.val (Go.Value.slice Option.none (0 : Nat) (0 :
  Nat)), SV.val (Go.Value.slice Option.none (0 : Nat) (0 : Nat))], HObj.box Md.rw ty123 [SV.clo fn86 [LV.ref (1 : Nat) (0 : Nat)] [], SV.clo fn87 [LV.ref (1 : Nat) (0 : Nat)] []],
  HObj.dead, HObj.row Md.rw ty2 (K.int IntKind.i64) x.snd.snd.fst] ∧ I_1 (IntKind.i64.wrap (x_2.fst + (1 : Int)), x_2.snd.fst ++ [(x.fst, x_2.fst, a.fst, a.snd.fst)], ()) (mput
  (a.fst, a.snd.fst) (↑x_2.snd.fst.length : Int) (mput (x.fst, x_2.fst) (↑x_2.snd.fst.length : Int) y_1.fst), ()) ∧ μ_1 (IntKind.i64.wrap (x_2.fst + (1 : Int)), x_2.snd.fst ++
  [(x.fst, x_2.fst, a.fst, a.snd.fst)], ()) (mput (a.fst, a.snd.fst) (↑x_2.snd.fst.length : Int) (mput (x.fst, x_2.fst) (↑x_2.snd.fst.length : Int) y_1.fst), ()) < μ_1 x_2 y_1))
  (((0 : Nat) = (0 : Nat) ∧ x_2.snd.fst.length = x_2.snd.fst.length) ∧ ((0 : Nat) = (0 : Nat) ∧ x.snd.snd.fst.length = x.snd.snd.fst.length) ∧ HIs [HObj.mp Md.rw ((K.int
  IntKind.i64).pair (K.int IntKind.i64)) (K.int IntKind.i64) y_1.fst, HObj.box Md.rw ty122 [SV.val (Go.Value.int IntKind.i64 n), SV.junk, SV.mref (0 : Nat), SV.val (Go.Value.slice
  Option.none (0 : Nat) (0 : Nat)), SV.junk, SV.val (Go.Value.slice Option.none (0 : Nat) (0 : Nat)), SV.val (Go.Value.slice Option.none (0 : Nat) (0 : Nat))], HObj.box Md.rw ty123
  [SV.clo fn86 [LV.ref (1 : Nat) (0 : Nat)] [], SV.clo fn87 [LV.ref (1 : Nat) (0 : Nat)] []]] [HObj.mp Md.rw ((K.int IntKind.i64).pair (K.int IntKind.i64)) (K.int IntKind.i64)
  y_1.fst, HObj.box Md.rw ty122 [SV.val (Go.Value.int IntKind.i64 n), SV.junk, SV.mref (0 : Nat), SV.val (Go.Value.slice Option.none (0 : Nat) (0 : Nat)), SV.junk, SV.val
  (Go.Value.slice Option.none (0 : Nat) (0 : Nat)), SV.val (Go.Value.slice Option.none (0 : Nat) (0 : Nat))], HObj.box Md.rw ty123 [SV.clo fn86 [LV.ref (1 : Nat) (0 : Nat)] [],
  SV.clo fn87 [LV.ref (1 : Nat) (0 : Nat)] []]] ∧ I (IntKind.i64.wrap (x.fst + (1 : Int)), x_2.snd.fst, x.snd.snd.fst, ()) (y_1.fst, ()) ∧ μ (IntKind.i64.wrap (x.fst + (1 : Int)),
  x_2.snd.fst, x.snd.snd.fst, ()) (y_1.fst, ()) < μ x y)) (∃ (h : (0 : Int) ≤ IntKind.i64.wrap ((0 : Int) + (1 : Int)) ∧ IntKind.i64.wrap ((0 : Int) + (1 : Int)) < (↑(2 : Nat) :
  Int)), ((0 : Nat) = (0 : Nat) ∧ x.snd.fst.length = x.snd.fst.length) ∧ ((0 : Nat) = (0 : Nat) ∧ x.snd.snd.fst.length = x.snd.snd.fst.length) ∧ HIs [HObj.mp Md.rw ((K.int
  IntKind.i64).pair (K.int IntKind.i64)) (K.int IntKind.i64) y.fst, HObj.box Md.rw ty122 [SV.val (Go.Value.int IntKind.i64 n), SV.junk, SV.mref (0 : Nat), SV.val (Go.Value.slice
  Option.none (0 : Nat) (0 : Nat)), SV.junk, SV.val (Go.Value.slice Option.none (0 : Nat) (0 : Nat)), SV.val (Go.Value.slice Option.none (0 : Nat) (0 : Nat))], HObj.box Md.rw ty123
  [SV.clo fn86 [LV.ref (1 : Nat) (0 : Nat)] [], SV.clo fn87 [LV.ref (1 : Nat) (0 : Nat)] []], HObj.dead, HObj.dead] [HObj.mp Md.rw ((K.int IntKind.i64).pair (K.int IntKind.i64))
  (K.int IntKind.i64) y.fst, HObj.box Md.rw ty122 [SV.val (Go.Value.int IntKind.i64 n), SV.junk, SV.mref (0 : Nat), SV.val (Go.Value.slice Option.none (0 : Nat) (0 : Nat)), SV.junk,
  SV.val (Go.Value.slice Option.none (0 : Nat) (0 : Nat)), SV.val (Go.Value.slice Option.none (0 : Nat) (0 : Nat))], HObj.box Md.rw ty123 [SV.clo fn86 [LV.ref (1 : Nat) (0 : Nat)]
  [], SV.clo fn87 [LV.ref (1 : Nat) (0 : Nat)] []], HObj.dead, HObj.dead] ∧ ∃ (I : Int × List (Int × Int × Int × Int) × List Int × Unit → List ((Int × Int) × Int) × Unit → Prop), ∃
  (μ : Int × List (Int × Int × Int × Int) × List Int × Unit → List ((Int × Int) × Int) × Unit → Nat), I ((0 : Int), x.snd.fst, x.snd.snd.fst, ()) (y.fst, ()) ∧ ∀ (x : Int × List
  (Int × Int × Int × Int) × List Int × Unit) (y : List ((Int × Int) × Int) × Unit), I x y → Br (decide (x.fst < (cellsR n).fst)) (∃ (h : II n x.fst), ∃ (h : x.snd.snd.fst.length =
  x.snd.snd.fst.length ∧ (x.snd.snd.fst.length + (1 : Nat)) * (8 : Nat) ≤ (140737488355328 : Nat)), ((0 : Nat) = (0 : Nat) ∧ x.snd.fst.length = x.snd.fst.length) ∧ ((0 : Nat) = (0 :
  Nat) ∧ x.snd.snd.fst.length + (1 : Nat) = (x.snd.snd.fst ++ [(areaR n x.fst).fst]).length) ∧ HIs [HObj.mp Md.rw ((K.int IntKind.i64).pair (K.int IntKind.i64)) (K.int IntKind.i64)
  y.fst, HObj.box Md.rw ty122 [SV.val (Go.Value.int IntKind.i64 n), SV.junk, SV.mref (0 : Nat), SV.val (Go.Value.slice Option.none (0 : Nat) (0 : Nat)), SV.junk, SV.val
  (Go.Value.slice Option.none (0 : Nat) (0 : Nat)), SV.val (Go.Value.slice Option.none (0 : Nat) (0 : Nat))], HObj.box Md.rw ty123 [SV.clo fn86 [LV.ref (1 : Nat) (0 : Nat)] [],
  SV.clo fn87 [LV.ref (1 : Nat) (0 : Nat)] []], HObj.dead, HObj.dead] [HObj.mp Md.rw ((K.int IntKind.i64).pair (K.int IntKind.i64)) (K.int IntKind.i64) y.fst, HObj.box Md.rw ty122
  [SV.val (Go.Value.int IntKind.i64 n), SV.junk, SV.mref (0 : Nat), SV.val (Go.Value.slice Option.none (0 : Nat) (0 : Nat)), SV.junk, SV.val (Go.Value.slice Option.none (0 : Nat) (0
  : Nat)), SV.val (Go.Value.slice Option.none (0 : Nat) (0 : Nat))], HObj.box Md.rw ty123 [SV.clo fn86 [LV.ref (1 : Nat) (0 : Nat)] [], SV.clo fn87 [LV.ref (1 : Nat) (0 : Nat)] []],
  HObj.dead, HObj.dead] ∧ I (IntKind.i64.wrap (x.fst + (1 : Int)), x.snd.fst, x.snd.snd.fst ++ [(areaR n x.fst).fst], ()) (y.fst, ()) ∧ μ (IntKind.i64.wrap (x.fst + (1 : Int)),
  x.snd.fst, x.snd.snd.fst ++ [(areaR n x.fst).fst], ()) (y.fst, ()) < μ x y) (HIs [HObj.mp Md.rw ((K.int IntKind.i64).pair (K.int IntKind.i64)) (K.int IntKind.i64) y.fst, HObj.box
  Md.rw ty122 [SV.val (Go.Value.int IntKind.i64 n), SV.osl (5 : Nat) (0 : Nat) x.snd.fst.length, SV.mref (0 : Nat), SV.junk, SV.osl (6 : Nat) (0 : Nat) x.snd.snd.fst.length,
  SV.junk, SV.junk], HObj.box Md.rw ty123 [SV.clo fn86 [LV.ref (1 : Nat) (0 : Nat)] [], SV.clo fn87 [LV.ref (1 : Nat) (0 : Nat)] []], HObj.dead, HObj.dead, HObj.row Md.rw ty126
  ((K.int IntKind.i64).pair ((K.int IntKind.i64).pair ((K.int IntKind.i64).pair (K.int IntKind.i64)))) x.snd.fst, HObj.row Md.rw ty2 (K.int IntKind.i64) x.snd.snd.fst] [HObj.mp
  Md.rw ((K.int IntKind.i64).pair (K.int IntKind.i64)) (K.int IntKind.i64) y.fst, HObj.box Md.rw ty122 [SV.val (Go.Value.int IntKind.i64 n), SV.osl (5 : Nat) (0 : Nat)
  x.snd.fst.length, SV.mref (0 : Nat), SV.junk, SV.osl (6 : Nat) (0 : Nat) x.snd.snd.fst.length, SV.junk, SV.junk], HObj.box Md.rw ty123 [SV.clo fn86 [LV.ref (1 : Nat) (0 : Nat)]
  [], SV.clo fn87 [LV.ref (1 : Nat) (0 : Nat)] []], HObj.dead, HObj.dead, HObj.row Md.rw ty126 ((K.int IntKind.i64).pair ((K.int IntKind.i64).pair ((K.int IntKind.i64).pair (K.int
  IntKind.i64)))) x.snd.fst, HObj.row Md.rw ty2 (K.int IntKind.i64) x.snd.snd.fst] ∧ ∃ (I : Int × List (List Int) × List Nat × List Nat × Unit → Unit → Prop), ∃ (μ : Int × List
  (List Int) × List Nat × List Nat × Unit → Unit → Nat), I ((0 : Int), [], [], [], ()) () ∧ ∀ (x_3 : Int × List (List Int) × List Nat × List Nat × Unit) (y_1 : Unit), I x_3 y_1 → Br
  (decide (x_3.fst < (↑x.snd.fst.length : Int))) (∃ (h : (0 : Int) ≤ x_3.fst ∧ x_3.fst < (↑x.snd.fst.length : Int)), ∃ (h : (4 : Int) ≠ (0 : Int)), ∃ (h : III n (x.snd.fst.getD ((0
  : Nat) + x_3.fst.toNat) kEdge.dflt).fst ((IntKind.i64.wrap ((x.snd.fst.getD ((0 : Nat) + x_3.fst.toNat) kEdge.dflt).snd.fst + (2 : Int))).tmod (4 : Int))), ∀ (a : Int × Int ×
  Unit), a = besideR n (x.snd.fst.getD ((0 : Nat) + x_3.fst.toNat) kEdge.dflt).fst ((IntKind.i64.wrap ((x.snd.fst.getD ((0 : Nat) + x_3.fst.toNat) kEdge.dflt).snd.fst + (2 :
  Int))).tmod (4 : Int)) → ∃ (h : (4 : Int) ≠ (0 : Int)), ∃ (h : III n (x.snd.fst.getD ((0 : Nat) + x_3.fst.toNat) kEdge.dflt).snd.snd.fst ((IntKind.i64.wrap ((x.snd.fst.getD ((0 :
  Nat) + x_3.fst.toNat) kEdge.dflt).snd.snd.snd + (2 : Int))).tmod (4 : Int))), ∀ (a_1 : Int × Int × Unit), a_1 = besideR n (x.snd.fst.getD ((0 : Nat) + x_3.fst.toNat)
  kEdge.dflt).snd.snd.fst ((IntKind.i64.wrap ((x.snd.fst.getD ((0 : Nat) + x_3.fst.toNat) kEdge.dflt).snd.snd.snd + (2 : Int))).tmod (4 : Int)) → ∃ (h : x_3.snd.fst.length =
  x_3.snd.fst.length ∧ (x_3.snd.fst.length + (1 : Nat)) * (16 : Nat) ≤ (140737488355328 : Nat)), ∃ (h : III n (x.snd.fst.getD ((0 : Nat) + x_3.fst.toNat) kEdge.dflt).fst
  (x.snd.fst.getD ((0 : Nat) + x_3.fst.toNat) kEdge.dflt).snd.fst), ∀ (a_2 : Nat × Unit), a_2 = lengthGR n (x.snd.fst.getD ((0 : Nat) + x_3.fst.toNat) kEdge.dflt).fst
  (x.snd.fst.getD ((0 : Nat) + x_3.fst.toNat) kEdge.dflt).snd.fst → ∃ (h : x_3.snd.snd.fst.length = x_3.snd.snd.fst.length ∧ (x_3.snd.snd.fst.length + (1 : Nat)) * (8 : Nat) ≤
  (140737488355328 : Nat)), ∃ (h : III n (x.snd.fst.getD ((0 : Nat) + x_3.fst.toNat) kEdge.dflt).fst (x.snd.fst.getD ((0 : Nat) + x_3.fst.toNat) kEdge.dflt).snd.fst), ∀ (a_3 : Nat ×
  Unit), a_3 = gapGR n (x.snd.fst.getD ((0 : Nat) + x_3.fst.toNat) kEdge.dflt).fst (x.snd.fst.getD ((0 : Nat) + x_3.fst.toNat) kEdge.dflt).snd.fst → ∃ (h :
  x_3.snd.snd.snd.fst.length = x_3.snd.snd.snd.fst.length ∧ (x_3.snd.snd.snd.fst.length + (1 : Nat)) * (8 : Nat) ≤ (140737488355328 : Nat)), ((0 : Nat) = (0 : Nat) ∧
  x_3.snd.fst.length + (1 : Nat) = (x_3.snd.fst ++ [[a.fst, a_1.fst]]).length) ∧ ((0 : Nat) = (0 : Nat) ∧ x_3.snd.snd.fst.length + (1 : Nat) = (x_3.snd.snd.fst ++ [a_2.fst]).length)
  ∧ ((0 : Nat) = (0 : Nat) ∧ x_3.snd.snd.snd.fst.length + (1 : Nat) = (x_3.snd.snd.snd.fst ++ [a_3.fst]).length) ∧ HIs [HObj.mp Md.rw ((K.int IntKind.i64).pair (K.int IntKind.i64))
  (K.int IntKind.i64) y.fst, HObj.box Md.rw ty122 [SV.val (Go.Value.int IntKind.i64 n), SV.osl (5 : Nat) (0 : Nat) x.snd.fst.length, SV.mref (0 : Nat), SV.junk, SV.osl (6 : Nat) (0
  : Nat) x.snd.snd.fst.length, SV.junk, SV.junk], HObj.box Md.rw ty123 [SV.clo fn86 [LV.ref (1 : Nat) (0 : Nat)] [], SV.clo fn87 [LV.ref (1 : Nat) (0 : Nat)] []], HObj.dead,
  HObj.dead, HObj.row Md.rw ty126 ((K.int IntKind.i64).pair ((K.int IntKind.i64).pair ((K.int IntKind.i64).pair (K.int IntKind.i64)))) x.snd.fst, HObj.row Md.rw ty2 (K.int
  IntKind.i64) x.snd.snd.fst] [HObj.mp Md.rw ((K.int IntKind.i64).pair (K.int IntKind.i64)) (K.int IntKind.i64) y.fst, HObj.box Md.rw ty122 [SV.val (Go.Value.int IntKind.i64 n),
  SV.osl (5 : Nat) (0 : Nat) x.snd.fst.length, SV.mref (0 : Nat), SV.junk, SV.osl (6 : Nat) (0 : Nat) x.snd.snd.fst.length, SV.junk, SV.junk], HObj.box Md.rw ty123 [SV.clo fn86
  [LV.ref (1 : Nat) (0 : Nat)] [], SV.clo fn87 [LV.ref (1 : Nat) (0 : Nat)] []], HObj.dead, HObj.dead, HObj.row Md.rw ty126 ((K.int IntKind.i64).pair ((K.int IntKind.i64).pair
  ((K.int IntKind.i64).pair (K.int IntKind.i64)))) x.snd.fst, HObj.row Md.rw ty2 (K.int IntKind.i64) x.snd.snd.fst] ∧ I (IntKind.i64.wrap (x_3.fst + (1 : Int)), x_3.snd.fst ++
  [[a.fst, a_1.fst]], x_3.snd.snd.fst ++ [a_2.fst], x_3.snd.snd.snd.fst ++ [a_3.fst], ()) () ∧ μ (IntKind.i64.wrap (x_3.fst + (1 : Int)), x_3.snd.fst ++ [[a.fst, a_1.fst]],
  x_3.snd.snd.fst ++ [a_2.fst], x_3.snd.snd.snd.fst ++ [a_3.fst], ()) () < μ x_3 y_1) (post (Option.some (n, List.take x.snd.fst.length (List.drop (0 : Nat) x.snd.fst), y.fst,
  List.take x_3.snd.fst.length (List.drop (0 : Nat) x_3.snd.fst), List.take x.snd.snd.fst.length (List.drop (0 : Nat) x.snd.snd.fst), List.take x_3.snd.snd.fst.length (List.drop (0
  : Nat) x_3.snd.snd.fst), List.take x_3.snd.snd.snd.fst.length (List.drop (0 : Nat) x_3.snd.snd.snd.fst)), (0 : Int), ())))))
theorem Lx_grid_New (ty0 ty1 ty2 ty3 ty4 ty5 : Nat) (n : Int) (h : I64 n) : Fx_grid_New ty0 ty1 ty2 ty3 ty4 ty5 n (fun r => r = newR n) := by
  have cr := cells_rng n
  obtain ⟨N, hN⟩ : ∃ N, (cellsI n).toNat = N := ⟨_, rfl⟩
  have hc : cellsI n = (N : Int) := by omega
  have hc' : (cellsR n).fst = (N : Int) := hc
  have hN1 : N ≤ 6144 := by omega
  have nk := fun k => netN_ok n k
  have i6 : ∀ {z : Int}, 0 ≤ z → z ≤ 6144 → I64 z := fun {z} a b => ⟨by omega, by omega⟩
  refine ⟨h, ?_⟩
  rw [hc']
  refine Br.intro (fun e => ?_) fun e => ?_
  · have e : (N : Int) = 0 := beq_iff_eq.1 e
    show _ = newR n
    unfold newR; rw [if_pos (by omega)]
  have e : ¬ (N : Int) = 0 := fun q => by rw [q] at e; cases e
  have hnew : newR n = (some (netG n), 0, ()) := by unfold newR; rw [if_neg (by omega)]
  refine ⟨⟨by decide, by decide⟩, rfl, fun x y => ∃ k : Nat, x.1 = k ∧ k ≤ N ∧ x.2.1 = (netN n k).1 ∧ x.2.2.1 = [] ∧ y.1 = (netN n k).2, fun x _ => N - x.1.toNat, ⟨0, rfl, by omega, rfl, rfl, rfl⟩, ?_⟩
  rintro ⟨_, _, _, ⟨⟩⟩ ⟨_, ⟨⟩⟩ ⟨k, rfl, hk, rfl, rfl, rfl⟩
  dsimp only
  refine Br.intro (fun e1 => ?_) fun e1 => ?_
  · have e1 : k < N := by have := of_decide_eq_true e1; omega
    refine ⟨⟨rfl, rfl⟩, rfl, fun x y => ∃ j : Nat, x.1 = j ∧ j ≤ 4 ∧ x.2.1 = (addN n k (netN n k) j).1 ∧ y.1 = (addN n k (netN n k) j).2, fun x _ => 4 - x.1.toNat, ⟨0, rfl, by omega, rfl, rfl⟩, ?_⟩
    rintro ⟨_, _, ⟨⟩⟩ ⟨_, ⟨⟩⟩ ⟨j, rfl, hj, rfl, rfl⟩
    dsimp only
    have hlen := (addN_ok (n := n) (c := k) (by omega) (by omega) (nk k (by omega)).1 j hj).2
    have hlk := (nk k (by omega)).2
    refine Br.intro (fun e2 => ?_) fun e2 => ?_
    · have e2 : j < 4 := by have e2 : (j : Int) < 4 := of_decide_eq_true e2; omega
      refine ⟨⟨h, i6 (by omega) (by omega), i6 (by omega) (by omega)⟩, ?_⟩
      rintro ⟨b, q, ⟨⟩⟩ hb
      have hb : (b, q, ()) = besideR n k j := hb
      have eb : b = (besideI n k j).1 := congrArg Prod.fst hb
      have eq : q = (besideI n k j).2 := congrArg (fun z => z.2.1) hb
      rw [wi_succ e2 (by omega)]
      refine Br.intro (fun g => ?_) fun g => ?_
      · have g : (k : Int) > b := of_decide_eq_true g
        have hst : addN n k (netN n k) (j + 1) = addN n k (netN n k) j := by
          show addE n k j (addN n k (netN n k) j) = _
          unfold addE; rw [if_pos (by omega)]
        exact ⟨⟨rfl, rfl⟩, rfl, ⟨j + 1, rfl, by omega, by rw [hst], by rw [hst]⟩, by omega⟩
      · have g : ¬ (k : Int) > b := of_decide_eq_false g
        have hst : addN n k (netN n k) (j + 1) = ((addN n k (netN n k) j).1 ++ [((k : Int), (j : Int), b, q)], mput (b, q) (addN n k (netN n k) j).1.length (mput ((k : Int), (j : Int)) (addN n k (netN n k) j).1.length (addN n k (netN n k) j).2)) := by
          show addE n k j (addN n k (netN n k) j) = _
          unfold addE; rw [if_neg (by omega), eb, eq]
        exact ⟨⟨rfl, by omega⟩, ⟨rfl, by rw [List.length_append]; rfl⟩, rfl, ⟨j + 1, rfl, by omega, by rw [hst], by rw [hst]⟩, by omega⟩
    · have e2 : j = 4 := by have e2 : ¬ (j : Int) < 4 := of_decide_eq_false e2; omega
      subst e2
      rw [wi_succ e1 (by omega)]
      exact ⟨⟨rfl, rfl⟩, ⟨rfl, rfl⟩, rfl, ⟨k + 1, rfl, by omega, rfl, rfl, rfl⟩, by omega⟩
  have e1 : k = N := by have := of_decide_eq_false e1; omega
  subst e1
  obtain ⟨eok, elen⟩ := nk k hN1
  have hE : netE n = netN n k := by unfold netE; rw [hN]
  generalize netN n k = E at *
  refine ⟨⟨by decide, by decide⟩, ⟨rfl, rfl⟩, ⟨rfl, rfl⟩, rfl, fun x y => ∃ m : Nat, x.1 = m ∧ m ≤ k ∧ x.2.1 = E.1 ∧ x.2.2.1 = ((List.range m).map fun q : Nat => areaI n (q : Int)) ∧ y.1 = E.2, fun x _ => k - x.1.toNat, ⟨0, rfl, by omega, rfl, rfl, rfl⟩, ?_⟩
  rintro ⟨_, _, _, ⟨⟩⟩ ⟨_, ⟨⟩⟩ ⟨m, rfl, hm, rfl, rfl, rfl⟩
  dsimp only
  have hml : ((List.range m).map fun q : Nat => areaI n (q : Int)).length = m := by rw [List.length_map, List.length_range]
  refine Br.intro (fun e1 => ?_) fun e1 => ?_
  · have e1 : m < k := by have := of_decide_eq_true e1; omega
    rw [wi_succ e1 (by omega)]
    exact ⟨⟨h, i6 (by omega) (by omega)⟩, ⟨rfl, by rw [hml]; omega⟩, ⟨rfl, rfl⟩, ⟨rfl, by rw [List.length_append]; rfl⟩, rfl, ⟨m + 1, rfl, by omega, rfl, (range_map_succ (fun q : Nat => areaI n (q : Int)) m).symm, rfl⟩, by omega⟩
  have e1 : m = k := by have := of_decide_eq_false e1; omega
  subst e1
  refine ⟨rfl, fun x _ => ∃ q : Nat, x.1 = q ∧ q ≤ E.1.length ∧ x.2.1 = (E.1.take q).map (behindE n) ∧ x.2.2.1 = (E.1.take q).map (fun e => lengthG n e.1 e.2.1) ∧ x.2.2.2.1 = (E.1.take q).map (fun e => gapG n e.1 e.2.1), fun x _ => E.1.length - x.1.toNat, ⟨0, rfl, by omega, rfl, rfl, rfl⟩, ?_⟩
  rintro ⟨_, _, _, _, ⟨⟩⟩ _ ⟨q, rfl, hq, rfl, rfl, rfl⟩
  dsimp only
  have hl : ∀ {α : Type} (f : Ed → α), ((E.1.take q).map f).length = q := fun {α} f => by rw [List.length_map, List.length_take]; omega
  refine Br.intro (fun e1 => ?_) fun e1 => ?_
  · have e1 : q < E.1.length := by have := of_decide_eq_true e1; omega
    rw [Int.toNat_natCast, Nat.zero_add, wi_succ e1 (by omega)]
    obtain ⟨d, hd⟩ : ∃ d, E.1.getD q kEdge.dflt = d := ⟨_, rfl⟩
    have dm : d ∈ E.1 := by rw [← hd]; exact getD_mem e1 _
    have ts : E.1.take (q + 1) = E.1.take q ++ [d] := by rw [take_step e1 kEdge.dflt, hd]
    rw [hd]
    obtain ⟨d1, d2, d3, d4, d5, d6, d7, d8⟩ := eok d dm
    have w1 : IntKind.i64.wrap (d.2.1 + 2) = d.2.1 + 2 := wi ⟨by omega, by omega⟩
    have w2 : IntKind.i64.wrap (d.2.2.2 + 2) = d.2.2.2 + 2 := wi ⟨by omega, by omega⟩
    rw [w1, w2]
    have t1 : I64 (Int.tmod (d.2.1 + 2) 4) := by rw [Int.tmod_eq_emod_of_nonneg (by omega)]; exact i6 (by omega) (by omega)
    have t2 : I64 (Int.tmod (d.2.2.2 + 2) 4) := by rw [Int.tmod_eq_emod_of_nonneg (by omega)]; exact i6 (by omega) (by omega)
    refine ⟨⟨by omega, by omega⟩, by decide, ⟨h, i6 d1 (by omega), t1⟩, ?_⟩
    rintro ⟨a1, a2, ⟨⟩⟩ ha
    have ea : a1 = (besideI n d.1 (Int.tmod (d.2.1 + 2) 4)).1 := congrArg Prod.fst ha
    refine ⟨by decide, ⟨h, i6 d5 (by omega), t2⟩, ?_⟩
    rintro ⟨b1, b2, ⟨⟩⟩ hb
    have eb : b1 = (besideI n d.2.2.1 (Int.tmod (d.2.2.2 + 2) 4)).1 := congrArg Prod.fst hb
    refine ⟨⟨rfl, by rw [hl]; omega⟩, ⟨h, i6 d1 (by omega), i6 d3 (by omega)⟩, ?_⟩
    rintro ⟨l1, ⟨⟩⟩ hl1
    have el : l1 = lengthG n d.1 d.2.1 := congrArg Prod.fst hl1
    refine ⟨⟨rfl, by rw [hl]; omega⟩, ⟨h, i6 d1 (by omega), i6 d3 (by omega)⟩, ?_⟩
    rintro ⟨g1, ⟨⟩⟩ hg1
    have eg : g1 = gapG n d.1 d.2.1 := congrArg Prod.fst hg1
    refine ⟨⟨rfl, by rw [hl]; omega⟩, ⟨rfl, by rw [List.length_append]; rfl⟩, ⟨rfl, by rw [List.length_append]; rfl⟩, ⟨rfl, by rw [List.length_append]; rfl⟩, rfl, ⟨q + 1, rfl, by omega, ?_, ?_, ?_⟩, by omega⟩
    · rw [ts, List.map_append]; dsimp only; rw [ea, eb]; rfl
    · rw [ts, List.map_append]; dsimp only; rw [el]; rfl
    · rw [ts, List.map_append]; dsimp only; rw [eg]; rfl
  · have e1 : q = E.1.length := by have := of_decide_eq_false e1; omega
    subst e1
    show _ = newR n
    rw [hnew]
    unfold netG areasL
    rw [hE, hN, List.take_length]
    simp only [List.drop_zero, List.take_length]
end Go.Lift

set_option linter.unusedVariables false
set_option linter.unusedSimpArgs false
namespace Go.Lift
def Fx_cube_good := fun (a : Int) (post : Bool × Unit → Prop) => ∀ (a_1 : Bool), a_1 = decide (a ≥ (1 : Int)) → Br a_1 (∀ (a_2 : Bool), a_2 = decide (a ≤ (32 : Int)) → post (a_2,
  ())) (post (Bool.false, ()))
theorem Lx_cube_good (a : Int) : Fx_cube_good  a (fun r => r = goodCR a) := by
  rintro _ rfl
  refine Br.intro (fun e => ?_) fun e => ?_
  · rintro _ rfl
    refine congrArg r1 ?_
    show _ = goodC a
    unfold goodC
    rw [show decide ((1 : Int) ≤ a) = true from e, Bool.true_and]
  · refine congrArg r1 ?_
    show _ = goodC a
    unfold goodC
    rw [show decide ((1 : Int) ≤ a) = false from e, Bool.false_and]
def Fx_cube_Cells := fun (a : Int) (post : Int × Unit → Prop) => ∃ (h : True), ∀ (a_1 : Bool), a_1 = (goodCR a).fst → Br (!a_1) (post ((0 : Int), ())) (post (IntKind.i64.wrap
  (IntKind.i64.wrap ((6 : Int) * a) * a), ()))
theorem Lx_cube_Cells (a : Int) (h : I64 a) : Fx_cube_Cells  a (fun r => r = cellsR a) := by
  refine ⟨trivial, ?_⟩
  rintro _ rfl
  refine Br.intro (fun e => ?_) fun e => ?_
  · have e : (!goodC a) = true := e
    exact congrArg r1 (cells_bad (by simpa using e)).symm
  · have e : (!goodC a) = false := e
    exact congrArg r1 (cells_wrap (by simpa using e))
def Fx_cube_Place := fun (n c : Int) (post : Int × Int × Int × Bool × Unit → Prop) => ∀ (a : Bool), a = decide (c < (0 : Int)) → Br a (post ((0 : Int), (0 : Int), (0 : Int),
  Bool.false, ())) (∃ (h : I64 n), ∀ (a : Bool), a = decide (c ≥ (cellsR n).fst) → Br a (post ((0 : Int), (0 : Int), (0 : Int), Bool.false, ())) (∃ (h : IntKind.i64.wrap (n * n) ≠
  (0 : Int)), ∃ (h : n ≠ (0 : Int)), ∃ (h : n ≠ (0 : Int)), ∃ (h : n ≠ (0 : Int)), post (IntKind.i64.wrap (c.tdiv (IntKind.i64.wrap (n * n))), c.tmod n, (IntKind.i64.wrap (c.tdiv
  n)).tmod n, Bool.true, ())))
theorem Lx_cube_Place (n : Int) (c : Int) (h : II n c) : Fx_cube_Place  n c (fun r => r = placeR4 n c) := by
  have bad : placeOk n c = false → ((0 : Int), (0 : Int), (0 : Int), false, ()) = placeR4 n c := by
    intro e; unfold placeR4; rw [if_neg (by rw [e]; decide)]
  rintro _ rfl
  refine Br.intro (fun e => ?_) fun e => ?_
  · have e := of_decide_eq_true e
    exact bad (by unfold placeOk; rw [decide_eq_false (by omega), Bool.false_and])
  · have e := of_decide_eq_false e
    refine ⟨h.1, ?_⟩
    rintro _ rfl
    refine Br.intro (fun f => ?_) fun f => ?_
    · have f : cellsI n ≤ c := of_decide_eq_true f
      exact bad (by unfold placeOk; rw [decide_eq_false (p := c < cellsI n) (by omega), Bool.and_false])
    · have f : ¬ c ≥ cellsI n := of_decide_eq_false f
      have ok : placeOk n c = true := by unfold placeOk; rw [decide_eq_true (by omega), decide_eq_true (by omega)]; rfl
      obtain ⟨h1, h2, h3, h4, h5, h6⟩ := place_facts ok
      obtain ⟨r1, r2, r3, r4, r5, r6⟩ := place_rng ok
      have w1 : IntKind.i64.wrap (n * n) = n * n := wi ⟨by omega, by omega⟩
      have d1 : c.tdiv (n * n) = c / (n * n) := Int.tdiv_eq_ediv_of_nonneg h3
      have d2 : c.tdiv n = c / n := Int.tdiv_eq_ediv_of_nonneg h3
      have d3 : 0 ≤ c / n ∧ c / n ≤ c := ⟨Int.ediv_nonneg h3 (by omega), Int.ediv_le_self _ h3⟩
      have w2 : IntKind.i64.wrap (c / n) = c / n := wi ⟨by omega, by have := h.2; unfold I64 at this; omega⟩
      have w3 : IntKind.i64.wrap (c / (n * n)) = c / (n * n) := wi ⟨by omega, by omega⟩
      refine ⟨by rw [w1]; omega, by omega, by omega, by omega, ?_⟩
      rw [w1, d1, w3, d2, w2, Int.tmod_eq_emod_of_nonneg h3, Int.tmod_eq_emod_of_nonneg d3.1]
      unfold placeR4; rw [if_pos ok]
end Go.Lift

set_option linter.unusedVariables false
set_option linter.unusedSimpArgs false
namespace Go.Lift
open Go.Proofs
def Rbq_cube_good : Con := .det [.int .i64] [.snap .bool] (fun _ => True) (fun x => goodCR x.1)
def Rbx_cube_good : Cx := ⟨tabOf Rbtab, conOf [], RbG⟩
theorem Rbx_cube_good_ok : CxOk Tryz.prog Rbx_cube_good := ⟨tabB_sound Rbtab_ok, fun f c h => by cases h⟩
theorem Rbat_cube_good : FnAt Tryz.prog 97 Tryz.f97.ntmps Tryz.f97.results.toList (Tryz.f97.body.getD .skip) := ⟨Tryz.f97, Tryz.func97, rfl, rfl, by simp, by decide⟩
theorem Rbeq_cube_good (a : Int) (post : Bool × Unit → Prop) : fnEval Rbx_cube_good nHn Tryz.f97.ntmps Tryz.f97.results.toList (Tryz.f97.body.getD .skip) [.int .i64] [.snap .bool] (a, ()) post = Fx_cube_good  a post := by kernel_rfl
theorem Rbh_cube_good : Rbq_cube_good.holds Tryz.prog RbG 97 :=
  detP Rbx_cube_good_ok Rbmixed nHn Rbat_cube_good (F := fun x post => Fx_cube_good  x.1 post) (fun x post => Rbeq_cube_good x.1 post) fun x _ _ => Lx_cube_good  x.1
def Rbq_cube_Cells : Con := .det [.int .i64] [.snap (.int .i64)] (fun x => I64 x.1) (fun x => cellsR x.1)
def Rbx_cube_Cells : Cx := ⟨tabOf Rbtab, conOf [(97, Rbq_cube_good)], RbG⟩
theorem Rbx_cube_Cells_ok : CxOk Tryz.prog Rbx_cube_Cells := ⟨tabB_sound Rbtab_ok, conOf_sound ⟨Rbh_cube_good, trivial⟩⟩
theorem Rbat_cube_Cells : FnAt Tryz.prog 58 Tryz.f58.ntmps Tryz.f58.results.toList (Tryz.f58.body.getD .skip) := ⟨Tryz.f58, Tryz.func58, rfl, rfl, by simp, by decide⟩
theorem Rbeq_cube_Cells (a : Int) (post : Int × Unit → Prop) : fnEval Rbx_cube_Cells nHn Tryz.f58.ntmps Tryz.f58.results.toList (Tryz.f58.body.getD .skip) [.int .i64] [.snap (.int .i64)] (a, ()) post = Fx_cube_Cells  a post := by kernel_rfl
theorem Rbh_cube_Cells : Rbq_cube_Cells.holds Tryz.prog RbG 58 :=
  detP Rbx_cube_Cells_ok Rbmixed nHn Rbat_cube_Cells (F := fun x post => Fx_cube_Cells  x.1 post) (fun x post => Rbeq_cube_Cells x.1 post) fun x h _ => Lx_cube_Cells  x.1 h
def Rbq_cube_Place : Con := .det [.int .i64, .int .i64] [.snap (.int .i64), .snap (.int .i64), .snap (.int .i64), .snap .bool] (fun x => II x.1 x.2.1) (fun x => placeR4 x.1 x.2.1)
def Rbx_cube_Place : Cx := ⟨tabOf Rbtab, conOf [(58, Rbq_cube_Cells)], RbG⟩
theorem Rbx_cube_Place_ok : CxOk Tryz.prog Rbx_cube_Place := ⟨tabB_sound Rbtab_ok, conOf_sound ⟨Rbh_cube_Cells, trivial⟩⟩
theorem Rbat_cube_Place : FnAt Tryz.prog 79 Tryz.f79.ntmps Tryz.f79.results.toList (Tryz.f79.body.getD .skip) := ⟨Tryz.f79, Tryz.func79, rfl, rfl, by simp, by decide⟩
theorem Rbeq_cube_Place (n : Int) (c : Int) (post : Int × Int × Int × Bool × Unit → Prop) : fnEval Rbx_cube_Place nHn Tryz.f79.ntmps Tryz.f79.results.toList (Tryz.f79.body.getD .skip) [.int .i64, .int .i64] [.snap (.int .i64), .snap (.int .i64), .snap (.int .i64), .snap .bool] (n, c, ()) post = Fx_cube_Place  n c post := by kernel_rfl
theorem Rbh_cube_Place : Rbq_cube_Place.holds Tryz.prog RbG 79 :=
  detP Rbx_cube_Place_ok Rbmixed nHn Rbat_cube_Place (F := fun x post => Fx_cube_Place  x.1 x.2.1 post) (fun x post => Rbeq_cube_Place x.1 x.2.1 post) fun x h _ => Lx_cube_Place  x.1 x.2.1 h
end Go.Lift

set_option linter.unusedVariables false
set_option linter.unusedSimpArgs false
namespace Go.Lift
def Fx_cube_Beside := fun (ty105 ty111 ty109 : Nat) (n c o : Int) (post : Int × Int × Unit → Prop) => ∃ (h : II n c), Br (!(placeR4 n c).snd.snd.snd.fst) (post ((-1 : Int), (0 :
  Int), ())) (∀ (a : Bool), a = decide (o < (0 : Int)) → Br a (post ((-1 : Int), (0 : Int), ())) (∀ (a : Bool), a = decide (o ≥ (4 : Int)) → Br a (post ((-1 : Int), (0 : Int), ()))
  (∃ (h : (List.replicate (4 : Nat) (K.arr (2 : Nat) (K.int IntKind.i64)).dflt).length = (4 : Nat) ∧ (4 : Nat) = (4 : Nat)), ∃ (h : (0 : Int) ≤ o ∧ o < (↑(4 : Nat) : Int) ∧ (4 :
  Nat) ≤ (4 : Nat)), ∃ (h : (0 : Int) ≤ (0 : Int) ∧ (0 : Int) < (↑(2 : Nat) : Int)), ∃ (h : (0 : Int) ≤ o ∧ o < (↑(4 : Nat) : Int) ∧ (4 : Nat) ≤ (4 : Nat)), ∃ (h : (0 : Int) ≤ (1 :
  Int) ∧ (1 : Int) < (↑(2 : Nat) : Int)), ∃ (h : IIII n (placeR4 n c).fst (IntKind.i64.wrap ((placeR4 n c).snd.fst + List.getD ([[(1 : Int), (0 : Int)], [(0 : Int), (1 : Int)], [(-1
  : Int), (0 : Int)], [(0 : Int), (-1 : Int)]].getD o.toNat (K.arr (2 : Nat) (K.int IntKind.i64)).dflt) (0 : Nat) (0 : Int))) (IntKind.i64.wrap ((placeR4 n c).snd.snd.fst +
  List.getD ([[(1 : Int), (0 : Int)], [(0 : Int), (1 : Int)], [(-1 : Int), (0 : Int)], [(0 : Int), (-1 : Int)]].getD o.toNat (K.arr (2 : Nat) (K.int IntKind.i64)).dflt) ((nat_lit 0
  + (1 : Nat)) / (K.int IntKind.i64).sz) (0 : Int)))), ∀ (a : Int × Unit), a = cellR n (placeR4 n c).fst (IntKind.i64.wrap ((placeR4 n c).snd.fst + List.getD ([[(1 : Int), (0 :
  Int)], [(0 : Int), (1 : Int)], [(-1 : Int), (0 : Int)], [(0 : Int), (-1 : Int)]].getD o.toNat (K.arr (2 : Nat) (K.int IntKind.i64)).dflt) (0 : Nat) (0 : Int))) (IntKind.i64.wrap
  ((placeR4 n c).snd.snd.fst + List.getD ([[(1 : Int), (0 : Int)], [(0 : Int), (1 : Int)], [(-1 : Int), (0 : Int)], [(0 : Int), (-1 : Int)]].getD o.toNat (K.arr (2 : Nat) (K.int
  IntKind.i64)).dflt) ((nat_lit 0 + (1 : Nat)) / (K.int IntKind.i64).sz) (0 : Int))) → ∀ (a_1 : Bool), a_1 = decide (a.fst ≥ (0 : Int)) → Br a_1 (∃ (h : (4 : Int) ≠ (0 : Int)), post
  (a.fst, (IntKind.i64.wrap (o + (2 : Int))).tmod (4 : Int), ())) (∃ (h : (0 : Int) ≤ (placeR4 n c).fst ∧ (placeR4 n c).fst < (↑(6 : Nat) : Int)), ∃ (h : WOut (framesL.getD (placeR4
  n c).fst.toNat (K.arr (3 : Nat) (K.arr (3 : Nat) (K.int IntKind.i64))).dflt) o), ∀ (a : List Int × Unit), a = outR (framesL.getD (placeR4 n c).fst.toNat (K.arr (3 : Nat) (K.arr (3
  : Nat) (K.int IntKind.i64))).dflt) o → ∃ (h : True), ∀ (a_2 : Int × Unit), a_2 = faceAtR a.fst → ∃ (h : (0 : Int) ≤ a_2.fst ∧ a_2.fst < (↑(6 : Nat) : Int)), ∃ (h : (List.replicate
  (3 : Nat) (K.arr (3 : Nat) (K.int IntKind.i64)).dflt).length = (3 : Nat) ∧ List.length (framesL.getD a_2.fst.toNat (K.arr (3 : Nat) (K.arr (3 : Nat) (K.int IntKind.i64))).dflt) =
  (3 : Nat)), ∃ (h : WMiddle n (placeR4 n c).fst (placeR4 n c).snd.fst (placeR4 n c).snd.snd.fst), ∀ (a : List Int × Unit), a = middleR' n (placeR4 n c).fst (placeR4 n c).snd.fst
  (placeR4 n c).snd.snd.fst → ∃ (h : (0 : Int) ≤ (placeR4 n c).fst ∧ (placeR4 n c).fst < (↑(6 : Nat) : Int)), ∃ (h : WOut (framesL.getD (placeR4 n c).fst.toNat (K.arr (3 : Nat)
  (K.arr (3 : Nat) (K.int IntKind.i64))).dflt) o), ∀ (a_3 : List Int × Unit), a_3 = outR (framesL.getD (placeR4 n c).fst.toNat (K.arr (3 : Nat) (K.arr (3 : Nat) (K.int
  IntKind.i64))).dflt) o → ∃ (h : WPlus a.fst a_3.fst), ∀ (a_4 : List Int × Unit), a_4 = plusR a.fst a_3.fst → ∃ (h : (List.replicate (3 : Nat) (0 : Int)).length = (3 : Nat) ∧
  a_4.fst.length = (3 : Nat)), ∃ (h : a_4.fst.length = (3 : Nat)), ∃ (h : (0 : Int) ≤ (1 : Int) ∧ (1 : Int) < (↑(3 : Nat) : Int) ∧ (3 : Nat) ≤ List.length (framesL.getD
  a_2.fst.toNat (K.arr (3 : Nat) (K.arr (3 : Nat) (K.int IntKind.i64))).dflt)), ∃ (h : WDot a_4.fst (List.getD (framesL.getD a_2.fst.toNat (K.arr (3 : Nat) (K.arr (3 : Nat) (K.int
  IntKind.i64))).dflt) (Int.toNat (1 : Int)) (K.arr (3 : Nat) (K.int IntKind.i64)).dflt)), ∀ (a : Int × Unit), a = dotR a_4.fst (List.getD (framesL.getD a_2.fst.toNat (K.arr (3 :
  Nat) (K.arr (3 : Nat) (K.int IntKind.i64))).dflt) (Int.toNat (1 : Int)) (K.arr (3 : Nat) (K.int IntKind.i64)).dflt) → ∃ (h : WIndex n a.fst), ∀ (a_5 : Int × Unit), a_5 = indexR n
  a.fst → ∃ (h : a_4.fst.length = (3 : Nat)), ∃ (h : (0 : Int) ≤ (2 : Int) ∧ (2 : Int) < (↑(3 : Nat) : Int) ∧ (3 : Nat) ≤ List.length (framesL.getD a_2.fst.toNat (K.arr (3 : Nat)
  (K.arr (3 : Nat) (K.int IntKind.i64))).dflt)), ∃ (h : WDot a_4.fst (List.getD (framesL.getD a_2.fst.toNat (K.arr (3 : Nat) (K.arr (3 : Nat) (K.int IntKind.i64))).dflt) (Int.toNat
  (2 : Int)) (K.arr (3 : Nat) (K.int IntKind.i64)).dflt)), ∀ (a : Int × Unit), a = dotR a_4.fst (List.getD (framesL.getD a_2.fst.toNat (K.arr (3 : Nat) (K.arr (3 : Nat) (K.int
  IntKind.i64))).dflt) (Int.toNat (2 : Int)) (K.arr (3 : Nat) (K.int IntKind.i64)).dflt) → ∃ (h : WIndex n a.fst), ∀ (a_6 : Int × Unit), a_6 = indexR n a.fst → ∃ (h : IIII n a_2.fst
  a_5.fst a_6.fst), ∀ (a : Int × Unit), a = cellR n a_2.fst a_5.fst a_6.fst → HIs [HObj.row Md.rw ty105 (K.arr (2 : Nat) (K.int IntKind.i64)) [[(1 : Int), (0 : Int)], [(0 : Int), (1
  : Int)], [(-1 : Int), (0 : Int)], [(0 : Int), (-1 : Int)]], HObj.row Md.rw ty111 (K.arr (3 : Nat) (K.int IntKind.i64)) (framesL.getD a_2.fst.toNat (K.arr (3 : Nat) (K.arr (3 :
  Nat) (K.int IntKind.i64))).dflt), HObj.row Md.rw ty109 (K.int IntKind.i64) a_4.fst] [HObj.row Md.rw ty105 (K.arr (2 : Nat) (K.int IntKind.i64)) [[(1 : Int), (0 : Int)], [(0 :
  Int), (1 : Int)], [(-1 : Int), (0 : Int)], [(0 : Int), (-1 : Int)]], HObj.row Md.rw ty111 (K.arr (3 : Nat) (K.int IntKind.i64)) (framesL.getD a_2.fst.toNat (K.arr (3 : Nat) (K.arr
  (3 : Nat) (K.int IntKind.i64))).dflt), HObj.row Md.rw ty109 (K.int IntKind.i64) a_4.fst] ∧ ∃ (I : Int × Unit → Unit → Prop), ∃ (μ : Int × Unit → Unit → Nat), I ((0 : Int), ()) ()
  ∧ ∀ (x : Int × Unit) (y : Unit), I x y → ∀ (a_7 : Bool), a_7 = decide (x.fst < (4 : Int)) → Br a_7 (∃ (h : List.length (framesL.getD a_2.fst.toNat (K.arr (3 : Nat) (K.arr (3 :
  Nat) (K.int IntKind.i64))).dflt) = (3 : Nat)), ∃ (h : WOut (framesL.getD a_2.fst.toNat (K.arr (3 : Nat) (K.arr (3 : Nat) (K.int IntKind.i64))).dflt) x.fst), ∀ (a_8 : List Int ×
  Unit), a_8 = outR (framesL.getD a_2.fst.toNat (K.arr (3 : Nat) (K.arr (3 : Nat) (K.int IntKind.i64))).dflt) x.fst → ∃ (h : (0 : Int) ≤ (placeR4 n c).fst ∧ (placeR4 n c).fst < (↑(6
  : Nat) : Int)), ∃ (h : (0 : Int) ≤ (0 : Int) ∧ (0 : Int) < (↑(3 : Nat) : Int)), ∀ (a_9 : Bool), a_9 = eqL a_8.fst (List.getD (framesL.getD (placeR4 n c).fst.toNat (K.arr (3 : Nat)
  (K.arr (3 : Nat) (K.int IntKind.i64))).dflt) (Int.toNat (0 : Int)) (K.arr (3 : Nat) (K.int IntKind.i64)).dflt) → Br a_9 (post (a.fst, x.fst, ())) (HIs [HObj.row Md.rw ty105 (K.arr
  (2 : Nat) (K.int IntKind.i64)) [[(1 : Int), (0 : Int)], [(0 : Int), (1 : Int)], [(-1 : Int), (0 : Int)], [(0 : Int), (-1 : Int)]], HObj.row Md.rw ty111 (K.arr (3 : Nat) (K.int
  IntKind.i64)) (framesL.getD a_2.fst.toNat (K.arr (3 : Nat) (K.arr (3 : Nat) (K.int IntKind.i64))).dflt), HObj.row Md.rw ty109 (K.int IntKind.i64) a_4.fst] [HObj.row Md.rw ty105
  (K.arr (2 : Nat) (K.int IntKind.i64)) [[(1 : Int), (0 : Int)], [(0 : Int), (1 : Int)], [(-1 : Int), (0 : Int)], [(0 : Int), (-1 : Int)]], HObj.row Md.rw ty111 (K.arr (3 : Nat)
  (K.int IntKind.i64)) (framesL.getD a_2.fst.toNat (K.arr (3 : Nat) (K.arr (3 : Nat) (K.int IntKind.i64))).dflt), HObj.row Md.rw ty109 (K.int IntKind.i64) a_4.fst] ∧ I
  (IntKind.i64.wrap (x.fst + (1 : Int)), ()) () ∧ μ (IntKind.i64.wrap (x.fst + (1 : Int)), ()) () < μ x y)) (post ((-1 : Int), (0 : Int), ()))))))
theorem Lx_cube_Beside (ty0 ty1 ty2 : Nat) (n : Int) (c : Int) (o : Int) (h : III n c o) : Fx_cube_Beside ty0 ty1 ty2 n c o (fun r => r = besideR n c o) := by
  refine ⟨⟨h.1, h.2.1⟩, ?_⟩
  have no : besideOk n c o = false → ((-1 : Int), (0 : Int), ()) = besideR n c o := by
    intro q
    have : besideI n c o = (-1, 0) := by unfold besideI; rw [if_neg (by rw [q]; decide)]
    unfold besideR; rw [this]
  by_cases ok : placeOk n c = true
  · rw [place_eq ok]
    have hm := place_mid ok
    have hh := hm
    obtain ⟨n1, n2, f0, f5, i0, i1, j0, j1⟩ := hh
    dsimp only
    refine Br.intro (fun e => absurd e (by decide)) fun _ => ?_
    rintro _ rfl
    refine Br.intro (fun e => no ?_) fun e => ?_
    · have e := of_decide_eq_true e
      unfold besideOk; rw [decide_eq_false (p := 0 ≤ o) (by omega)]; simp
    have o0 := of_decide_eq_false e
    rintro _ rfl
    refine Br.intro (fun e => no ?_) fun e => ?_
    · have e := of_decide_eq_true e
      unfold besideOk; rw [decide_eq_false (p := o < 4) (by omega)]; simp
    have o4 := of_decide_eq_false e
    have o0 : 0 ≤ o := by omega
    have o4 : o < 4 := by omega
    have okb : besideOk n c o = true := by unfold besideOk; rw [ok, decide_eq_true o0, decide_eq_true o4]; rfl
    have d := dxy (o := o)
    obtain ⟨F, hF⟩ : ∃ F, c / (n * n) = F := ⟨_, rfl⟩
    obtain ⟨i, hi0⟩ : ∃ i, c % n = i := ⟨_, rfl⟩
    obtain ⟨j, hj0⟩ : ∃ j, c / n % n = j := ⟨_, rfl⟩
    have hb : besideI n c o = if 0 ≤ cellI n F (i + dxI o) (j + dyI o) then (cellI n F (i + dxI o) (j + dyI o), Int.tmod (o + 2) 4) else overI n F i j o := by
      unfold besideI; rw [if_pos okb, hF, hi0, hj0]
    rw [hF, hi0, hj0]
    rw [hF] at hm f0 f5
    rw [hi0] at hm i0 i1
    rw [hj0] at hm j0 j1
    have w1 : IntKind.i64.wrap (i + dxI o) = i + dxI o := wi ⟨by omega, by omega⟩
    have w2 : IntKind.i64.wrap (j + dyI o) = j + dyI o := wi ⟨by omega, by omega⟩
    have i6 : ∀ {z : Int}, -1 ≤ z → z ≤ 6144 → I64 z := fun {z} a b => ⟨by omega, by omega⟩
    have fb := frame_bd f0 f5
    have wo : ∀ q, WOut (frameL F) q := fun q => ⟨(fb 1).mono (by decide), (fb 2).mono (by decide)⟩
    refine ⟨⟨rfl, rfl⟩, ⟨o0, o4, Nat.le_refl _⟩, ⟨by decide, by decide⟩, ⟨o0, o4, Nat.le_refl _⟩, ⟨by decide, by decide⟩, ⟨h.1, i6 (by omega) (by omega), i64_wrap _, i64_wrap _⟩, ?_⟩
    intro a ha
    have ha : a = cellR n F (IntKind.i64.wrap (i + dxI o)) (IntKind.i64.wrap (j + dyI o)) := ha.trans (by rw [← dx_get o0 o4, ← dy_get o0 o4]; rfl)
    rw [w1, w2] at ha
    obtain ⟨a, ⟨⟩⟩ := a
    have ha : a = cellI n F (i + dxI o) (j + dyI o) := congrArg Prod.fst ha
    rw [← ha] at hb
    rintro _ rfl
    refine Br.intro (fun e => ?_) fun e => ?_
    · have e : a ≥ 0 := of_decide_eq_true e
      rw [if_pos e] at hb
      refine ⟨by decide, ?_⟩
      have : IntKind.i64.wrap (o + 2) = o + 2 := wi ⟨by omega, by omega⟩
      rw [this]
      unfold besideR; rw [hb]
    have e : ¬ 0 ≤ a := of_decide_eq_false e
    rw [if_neg e] at hb
    refine ⟨⟨f0, by show F < 6; omega⟩, wo o, ?_⟩
    rintro ⟨v1, ⟨⟩⟩ hv1
    have e1 : v1 = outF (frameL F) o := congrArg Prod.fst hv1
    refine ⟨trivial, ?_⟩
    rintro ⟨t, ⟨⟩⟩ ht
    have et : t = faceAtI (outF (frameL F) o) := by rw [← e1]; exact congrArg Prod.fst ht
    obtain ⟨t0, t5⟩ := face_at f0 f5 o0 o4
    rw [← et] at t0 t5
    have fl := frame_len t0 t5
    have tb := frame_bd t0 t5
    refine ⟨⟨t0, by show t < 6; omega⟩, ⟨rfl, fl⟩, hm, ?_⟩
    rintro ⟨p, ⟨⟩⟩ hp
    have ep : p = middleI n F i j := congrArg Prod.fst hp
    have pb : Bd 96 p := by rw [ep]; exact middle_bd hm
    refine ⟨⟨f0, by show F < 6; omega⟩, wo o, ?_⟩
    rintro ⟨v2, ⟨⟩⟩ hv2
    have e2 : v2 = outF (frameL F) o := congrArg Prod.fst hv2
    have vb : Bd 1 v2 := by rw [e2]; exact out_bd f0 f5 o
    refine ⟨⟨pb.mono (by decide), vb.mono (by decide)⟩, ?_⟩
    rintro ⟨q, ⟨⟩⟩ hq
    have eq : q = plusW p v2 := congrArg Prod.fst hq
    have ql : q.length = 3 := by rw [eq]; rfl
    have qb : Bd 97 q := by rw [eq]; exact plus_bd pb vb
    refine ⟨⟨rfl, ql⟩, ql, ⟨by decide, by decide, Nat.le_of_eq fl.symm⟩, ⟨qb.mono (by decide), (tb 1).mono (by decide)⟩, ?_⟩
    rintro ⟨d1, ⟨⟩⟩ hd1
    have ed1 : d1 = dotW q (wayAt (frameL t) 1) := congrArg Prod.fst hd1
    have db1 := dot_bd qb (tb 1)
    rw [← ed1] at db1
    refine ⟨⟨n1, n2, by omega, by omega⟩, ?_⟩
    rintro ⟨x1, ⟨⟩⟩ hx1
    have ex1 : x1 = indexI n d1 := congrArg Prod.fst hx1
    have xb1 := index_rng (a := d1) n1
    rw [← ex1] at xb1
    refine ⟨ql, ⟨by decide, by decide, Nat.le_of_eq fl.symm⟩, ⟨qb.mono (by decide), (tb 2).mono (by decide)⟩, ?_⟩
    rintro ⟨d2, ⟨⟩⟩ hd2
    have ed2 : d2 = dotW q (wayAt (frameL t) 2) := congrArg Prod.fst hd2
    have db2 := dot_bd qb (tb 2)
    rw [← ed2] at db2
    refine ⟨⟨n1, n2, by omega, by omega⟩, ?_⟩
    rintro ⟨x2, ⟨⟩⟩ hx2
    have ex2 : x2 = indexI n d2 := congrArg Prod.fst hx2
    have xb2 := index_rng (a := d2) n1
    rw [← ex2] at xb2
    refine ⟨⟨h.1, i6 (by omega) (by omega), i6 (by omega) (by omega), i6 (by omega) (by omega)⟩, ?_⟩
    rintro ⟨cc, ⟨⟩⟩ hcc
    have ecc : cc = cellI n t x1 x2 := congrArg Prod.fst hcc
    have hov : besideI n c o = backN (frameL t) (wayAt (frameL F) 0) cc 4 0 := by
      rw [hb, ecc, ex1, ex2, ed1, ed2, eq, ep, e2, et]; rfl
    refine ⟨rfl, fun x _ => ∃ k : Nat, x.1 = k ∧ k ≤ 4 ∧ besideI n c o = backN (frameL t) (wayAt (frameL F) 0) cc (4 - k) k, fun x _ => 4 - x.1.toNat, ⟨0, rfl, by omega, hov⟩, ?_⟩
    rintro ⟨_, ⟨⟩⟩ _ ⟨k, rfl, hk, hi⟩
    dsimp only
    rintro _ rfl
    refine Br.intro (fun g => ?_) fun g => ?_
    · have g : k < 4 := by have g : (k : Int) < 4 := of_decide_eq_true g; omega
      refine ⟨fl, ⟨(tb 1).mono (by decide), (tb 2).mono (by decide)⟩, ?_⟩
      rintro ⟨v3, ⟨⟩⟩ hv3
      have e3 : v3 = outF (frameL t) k := congrArg Prod.fst hv3
      refine ⟨⟨f0, by show F < 6; omega⟩, ⟨by decide, by decide⟩, ?_⟩
      intro z hz
      have hz : z = decide (outF (frameL t) k = wayAt (frameL F) 0) := by rw [← e3]; exact hz
      obtain ⟨r, hr⟩ : ∃ r, 4 - k = r + 1 := ⟨3 - k, by omega⟩
      rw [hr] at hi
      unfold backN at hi
      rw [hz, wi_succ g (by omega)]
      refine Br.intro (fun y => ?_) fun y => ?_
      · rw [if_pos (of_decide_eq_true y)] at hi
        unfold besideR; rw [hi]
      · rw [if_neg (of_decide_eq_false y)] at hi
        exact ⟨rfl, ⟨k + 1, rfl, by omega, by rw [show 4 - (k + 1) = r by omega]; exact hi⟩, by omega⟩
    · have g : k = 4 := by have g : ¬ (k : Int) < 4 := of_decide_eq_false g; omega
      subst g
      have hi : besideI n c o = (-1, 0) := hi
      unfold besideR; rw [hi]
  · rw [place_no ok]
    refine Br.intro (fun _ => no ?_) fun e => absurd e (by decide)
    unfold besideOk; rw [show placeOk n c = false by simpa using ok]; rfl
end Go.Lift

set_option linter.unusedVariables false
set_option linter.unusedSimpArgs false
namespace Go.Lift
def Fx_cube_way_times := fun (a : List Int) (k : Int) (post : List Int × Unit → Prop) => ∃ (h : (0 : Int) ≤ (0 : Int) ∧ (0 : Int) < (↑(3 : Nat) : Int) ∧ (3 : Nat) ≤ a.length), ∃ (h
  : (0 : Int) ≤ (1 : Int) ∧ (1 : Int) < (↑(3 : Nat) : Int) ∧ (3 : Nat) ≤ a.length), ∃ (h : (0 : Int) ≤ (2 : Int) ∧ (2 : Int) < (↑(3 : Nat) : Int) ∧ (3 : Nat) ≤ a.length), ∃ (h :
  (List.replicate (3 : Nat) (0 : Int)).length = (3 : Nat) ∧ (3 : Nat) = (3 : Nat)), ∃ (h : (3 : Nat) = (3 : Nat)), post ([IntKind.i64.wrap (k * a.getD (Int.toNat (0 : Int)) (0 :
  Int)), IntKind.i64.wrap (k * a.getD (Int.toNat (1 : Int)) (0 : Int)), IntKind.i64.wrap (k * a.getD (Int.toNat (2 : Int)) (0 : Int))], ())
theorem Lx_cube_way_times (a : List Int) (k : Int) (h : WTimes a k) (w : KS.wf [kWay, .int .i64] (a, k, ())) : Fx_cube_way_times  a k (fun r => r = timesR a k) := by
  have hl : a.length = 3 := w.1.1
  obtain ⟨hb, k1, k2⟩ := h
  have W : ∀ i : Nat, IntKind.i64.wrap (k * a.getD i 0) = k * a.getD i 0 := fun i => by
    have := mul_bd k1 k2 (hb i).1 (hb i).2
    exact wi ⟨by omega, by omega⟩
  refine ⟨⟨by decide, by decide, by omega⟩, ⟨by decide, by decide, by omega⟩, ⟨by decide, by decide, by omega⟩, ⟨rfl, rfl⟩, rfl, ?_⟩
  show ([IntKind.i64.wrap (k * a.getD 0 0), IntKind.i64.wrap (k * a.getD 1 0), IntKind.i64.wrap (k * a.getD 2 0)], ()) = timesR a k
  rw [W, W, W]; rfl
def Fx_cube_way_plus := fun (a b : List Int) (post : List Int × Unit → Prop) => ∃ (h : (0 : Int) ≤ (0 : Int) ∧ (0 : Int) < (↑(3 : Nat) : Int) ∧ (3 : Nat) ≤ a.length), ∃ (h : (0 :
  Int) ≤ (0 : Int) ∧ (0 : Int) < (↑(3 : Nat) : Int) ∧ (3 : Nat) ≤ b.length), ∃ (h : (0 : Int) ≤ (1 : Int) ∧ (1 : Int) < (↑(3 : Nat) : Int) ∧ (3 : Nat) ≤ a.length), ∃ (h : (0 : Int)
  ≤ (1 : Int) ∧ (1 : Int) < (↑(3 : Nat) : Int) ∧ (3 : Nat) ≤ b.length), ∃ (h : (0 : Int) ≤ (2 : Int) ∧ (2 : Int) < (↑(3 : Nat) : Int) ∧ (3 : Nat) ≤ a.length), ∃ (h : (0 : Int) ≤ (2
  : Int) ∧ (2 : Int) < (↑(3 : Nat) : Int) ∧ (3 : Nat) ≤ b.length), ∃ (h : (List.replicate (3 : Nat) (0 : Int)).length = (3 : Nat) ∧ (3 : Nat) = (3 : Nat)), ∃ (h : (3 : Nat) = (3 :
  Nat)), post ([IntKind.i64.wrap (a.getD (Int.toNat (0 : Int)) (0 : Int) + b.getD (Int.toNat (0 : Int)) (0 : Int)), IntKind.i64.wrap (a.getD (Int.toNat (1 : Int)) (0 : Int) + b.getD
  (Int.toNat (1 : Int)) (0 : Int)), IntKind.i64.wrap (a.getD (Int.toNat (2 : Int)) (0 : Int) + b.getD (Int.toNat (2 : Int)) (0 : Int))], ())
theorem Lx_cube_way_plus (a : List Int) (b : List Int) (h : WPlus a b) (w : KS.wf [kWay, kWay] (a, b, ())) : Fx_cube_way_plus  a b (fun r => r = plusR a b) := by
  have hl : a.length = 3 := w.1.1
  have hm : b.length = 3 := w.2.1.1
  obtain ⟨ha, hb⟩ := h
  have W : ∀ i : Nat, IntKind.i64.wrap (a.getD i 0 + b.getD i 0) = a.getD i 0 + b.getD i 0 := fun i => by
    have := ha i; have := hb i
    exact wi ⟨by omega, by omega⟩
  refine ⟨⟨by decide, by decide, by omega⟩, ⟨by decide, by decide, by omega⟩, ⟨by decide, by decide, by omega⟩, ⟨by decide, by decide, by omega⟩, ⟨by decide, by decide, by omega⟩, ⟨by decide, by decide, by omega⟩, ⟨rfl, rfl⟩, rfl, ?_⟩
  show ([IntKind.i64.wrap (a.getD 0 0 + b.getD 0 0), IntKind.i64.wrap (a.getD 1 0 + b.getD 1 0), IntKind.i64.wrap (a.getD 2 0 + b.getD 2 0)], ()) = plusR a b
  rw [W, W, W]; rfl
def Fx_cube_way_dot := fun (a b : List Int) (post : Int × Unit → Prop) => ∃ (h : (0 : Int) ≤ (0 : Int) ∧ (0 : Int) < (↑(3 : Nat) : Int) ∧ (3 : Nat) ≤ a.length), ∃ (h : (0 : Int) ≤
  (0 : Int) ∧ (0 : Int) < (↑(3 : Nat) : Int) ∧ (3 : Nat) ≤ b.length), ∃ (h : (0 : Int) ≤ (1 : Int) ∧ (1 : Int) < (↑(3 : Nat) : Int) ∧ (3 : Nat) ≤ a.length), ∃ (h : (0 : Int) ≤ (1 :
  Int) ∧ (1 : Int) < (↑(3 : Nat) : Int) ∧ (3 : Nat) ≤ b.length), ∃ (h : (0 : Int) ≤ (2 : Int) ∧ (2 : Int) < (↑(3 : Nat) : Int) ∧ (3 : Nat) ≤ a.length), ∃ (h : (0 : Int) ≤ (2 : Int)
  ∧ (2 : Int) < (↑(3 : Nat) : Int) ∧ (3 : Nat) ≤ b.length), post (IntKind.i64.wrap (IntKind.i64.wrap (IntKind.i64.wrap (a.getD (Int.toNat (0 : Int)) (0 : Int) * b.getD (Int.toNat (0
  : Int)) (0 : Int)) + IntKind.i64.wrap (a.getD (Int.toNat (1 : Int)) (0 : Int) * b.getD (Int.toNat (1 : Int)) (0 : Int))) + IntKind.i64.wrap (a.getD (Int.toNat (2 : Int)) (0 : Int)
  * b.getD (Int.toNat (2 : Int)) (0 : Int))), ())
theorem Lx_cube_way_dot (a : List Int) (b : List Int) (h : WDot a b) (w : KS.wf [kWay, kWay] (a, b, ())) : Fx_cube_way_dot  a b (fun r => r = dotR a b) := by
  have hl : a.length = 3 := w.1.1
  have hm : b.length = 3 := w.2.1.1
  obtain ⟨ha, hb⟩ := h
  have M : ∀ i : Nat, -(1048576 * 1048576) ≤ a.getD i 0 * b.getD i 0 ∧ a.getD i 0 * b.getD i 0 ≤ 1048576 * 1048576 := fun i => mul_bd (ha i).1 (ha i).2 (hb i).1 (hb i).2
  have m0 := M 0
  have m1 := M 1
  have m2 := M 2
  refine ⟨⟨by decide, by decide, by omega⟩, ⟨by decide, by decide, by omega⟩, ⟨by decide, by decide, by omega⟩, ⟨by decide, by decide, by omega⟩, ⟨by decide, by decide, by omega⟩, ⟨by decide, by decide, by omega⟩, ?_⟩
  show (IntKind.i64.wrap (IntKind.i64.wrap (IntKind.i64.wrap (a.getD 0 0 * b.getD 0 0) + IntKind.i64.wrap (a.getD 1 0 * b.getD 1 0)) + IntKind.i64.wrap (a.getD 2 0 * b.getD 2 0)), ()) = dotR a b
  rw [wi (x := a.getD 0 0 * b.getD 0 0) ⟨by omega, by omega⟩, wi (x := a.getD 1 0 * b.getD 1 0) ⟨by omega, by omega⟩, wi (x := a.getD 2 0 * b.getD 2 0) ⟨by omega, by omega⟩, wi (x := a.getD 0 0 * b.getD 0 0 + a.getD 1 0 * b.getD 1 0) ⟨by omega, by omega⟩, wi ⟨by omega, by omega⟩]
  rfl
def Fx_cube_frame_out := fun (f : List (List Int)) (s : Int) (post : List Int × Unit → Prop) => ∀ (a : Bool), a = (s == (0 : Int)) → Br a (∃ (h : (0 : Int) ≤ (1 : Int) ∧ (1 : Int) <
  (↑(3 : Nat) : Int) ∧ (3 : Nat) ≤ f.length), ∃ (h : (List.replicate (3 : Nat) (0 : Int)).length = (3 : Nat) ∧ List.length (f.getD (Int.toNat (1 : Int)) (K.arr (3 : Nat) (K.int
  IntKind.i64)).dflt) = (3 : Nat)), ∃ (h : List.length (f.getD (Int.toNat (1 : Int)) (K.arr (3 : Nat) (K.int IntKind.i64)).dflt) = (3 : Nat)), post (f.getD (Int.toNat (1 : Int))
  (K.arr (3 : Nat) (K.int IntKind.i64)).dflt, ())) (∀ (a : Bool), a = (s == (1 : Int)) → Br a (∃ (h : (0 : Int) ≤ (2 : Int) ∧ (2 : Int) < (↑(3 : Nat) : Int) ∧ (3 : Nat) ≤ f.length),
  ∃ (h : (List.replicate (3 : Nat) (0 : Int)).length = (3 : Nat) ∧ List.length (f.getD (Int.toNat (2 : Int)) (K.arr (3 : Nat) (K.int IntKind.i64)).dflt) = (3 : Nat)), ∃ (h :
  List.length (f.getD (Int.toNat (2 : Int)) (K.arr (3 : Nat) (K.int IntKind.i64)).dflt) = (3 : Nat)), post (f.getD (Int.toNat (2 : Int)) (K.arr (3 : Nat) (K.int IntKind.i64)).dflt,
  ())) (∀ (a : Bool), a = (s == (2 : Int)) → Br a (∃ (h : (0 : Int) ≤ (1 : Int) ∧ (1 : Int) < (↑(3 : Nat) : Int) ∧ (3 : Nat) ≤ f.length), ∃ (h : WTimes (f.getD (Int.toNat (1 : Int))
  (K.arr (3 : Nat) (K.int IntKind.i64)).dflt) (-1 : Int)), ∀ (a : List Int × Unit), a = timesR (f.getD (Int.toNat (1 : Int)) (K.arr (3 : Nat) (K.int IntKind.i64)).dflt) (-1 : Int) →
  ∃ (h : (List.replicate (3 : Nat) (0 : Int)).length = (3 : Nat) ∧ a.fst.length = (3 : Nat)), ∃ (h : a.fst.length = (3 : Nat)), post (a.fst, ())) (∃ (h : (0 : Int) ≤ (2 : Int) ∧ (2
  : Int) < (↑(3 : Nat) : Int) ∧ (3 : Nat) ≤ f.length), ∃ (h : WTimes (f.getD (Int.toNat (2 : Int)) (K.arr (3 : Nat) (K.int IntKind.i64)).dflt) (-1 : Int)), ∀ (a : List Int × Unit),
  a = timesR (f.getD (Int.toNat (2 : Int)) (K.arr (3 : Nat) (K.int IntKind.i64)).dflt) (-1 : Int) → ∃ (h : (List.replicate (3 : Nat) (0 : Int)).length = (3 : Nat) ∧ a.fst.length =
  (3 : Nat)), ∃ (h : a.fst.length = (3 : Nat)), post (a.fst, ()))))
theorem Lx_cube_frame_out (f : List (List Int)) (s : Int) (h : WOut f s) (w : KS.wf [kFrame, .int .i64] (f, s, ())) : Fx_cube_frame_out  f s (fun r => r = outR f s) := by
  have hl : f.length = 3 := w.1.1
  have hm : ∀ i, (wayAt f i).length = 3 := fun i => by
    unfold wayAt
    rcases Nat.lt_or_ge i f.length with g | g
    · exact (w.1.2 _ (getD_mem g [0, 0, 0])).1
    · rw [List.getD_eq_getElem?_getD, List.getElem?_eq_none g]; rfl
  obtain ⟨h1, h2⟩ := h
  have t1 : WTimes (wayAt f 1) (-1) := ⟨h1, by decide, by decide⟩
  have t2 : WTimes (wayAt f 2) (-1) := ⟨h2, by decide, by decide⟩
  rintro _ rfl
  refine Br.intro (fun e => ?_) fun e => ?_
  · have e : s = 0 := beq_iff_eq.1 e
    exact ⟨⟨by decide, by decide, by omega⟩, ⟨rfl, hm 1⟩, hm 1, congrArg r1 (by unfold outF; rw [if_pos e]; rfl)⟩
  have e : ¬ s = 0 := fun q => by rw [q] at e; cases e
  rintro _ rfl
  refine Br.intro (fun g => ?_) fun g => ?_
  · have g : s = 1 := beq_iff_eq.1 g
    exact ⟨⟨by decide, by decide, by omega⟩, ⟨rfl, hm 2⟩, hm 2, congrArg r1 (by unfold outF; rw [if_neg e, if_pos g]; rfl)⟩
  have g : ¬ s = 1 := fun q => by rw [q] at g; cases g
  rintro _ rfl
  refine Br.intro (fun j => ?_) fun j => ?_
  · have j : s = 2 := beq_iff_eq.1 j
    refine ⟨⟨by decide, by decide, by omega⟩, t1, ?_⟩
    rintro _ rfl
    exact ⟨⟨rfl, rfl⟩, rfl, congrArg r1 (by unfold outF; rw [if_neg e, if_neg g, if_pos j]; rfl)⟩
  have j : ¬ s = 2 := fun q => by rw [q] at j; cases j
  refine ⟨⟨by decide, by decide, by omega⟩, t2, ?_⟩
  rintro _ rfl
  exact ⟨⟨rfl, rfl⟩, rfl, congrArg r1 (by unfold outF; rw [if_neg e, if_neg g, if_neg j]; rfl)⟩
def Fx_cube_faceAt := fun (ty154 : Nat) (c : List Int) (post : Int × Unit → Prop) => HIs [HObj.row Md.rw ty154 (K.int IntKind.i64) c] [HObj.row Md.rw ty154 (K.int IntKind.i64) c] ∧
  ∃ (I : Int × Unit → Unit → Prop), ∃ (μ : Int × Unit → Unit → Nat), I ((0 : Int), ()) () ∧ ∀ (x : Int × Unit) (y : Unit), I x y → ∀ (a : Bool), a = decide (x.fst < (6 : Int)) → Br
  a (∃ (h : (0 : Int) ≤ x.fst ∧ x.fst < (↑(6 : Nat) : Int)), ∃ (h : (0 : Int) ≤ (0 : Int) ∧ (0 : Int) < (↑(3 : Nat) : Int)), ∃ (h : c.length = (3 : Nat)), ∀ (a : Bool), a = eqL
  (List.getD (framesL.getD x.fst.toNat (K.arr (3 : Nat) (K.arr (3 : Nat) (K.int IntKind.i64))).dflt) (Int.toNat (0 : Int)) (K.arr (3 : Nat) (K.int IntKind.i64)).dflt) c → Br a (post
  (x.fst, ())) (HIs [HObj.row Md.rw ty154 (K.int IntKind.i64) c] [HObj.row Md.rw ty154 (K.int IntKind.i64) c] ∧ I (IntKind.i64.wrap (x.fst + (1 : Int)), ()) () ∧ μ (IntKind.i64.wrap
  (x.fst + (1 : Int)), ()) () < μ x y)) (post ((-1 : Int), ()))
theorem Lx_cube_faceAt (ty0 : Nat) (c : List Int) (w : KS.wf [kWay] (c, ())) : Fx_cube_faceAt ty0 c (fun r => r = faceAtR c) := by
  have hl : c.length = 3 := w.1.1
  refine ⟨rfl, fun x _ => ∃ k : Nat, x.1 = k ∧ k ≤ 6 ∧ faceAtI c = firstI (fun fr => decide (wayAt fr 0 = c)) k (framesL.drop k), fun x _ => 6 - x.1.toNat, ⟨0, rfl, by omega, rfl⟩, ?_⟩
  rintro ⟨_, ⟨⟩⟩ _ ⟨k, rfl, hk, hi⟩
  dsimp only
  rintro _ rfl
  refine Br.intro (fun e => ?_) fun e => ?_
  · have e : k < 6 := by have e : (k : Int) < 6 := of_decide_eq_true e; omega
    refine ⟨⟨by omega, by show (k : Int) < 6; omega⟩, ⟨by decide, by decide⟩, hl, ?_⟩
    rw [drop_step (l := framesL) (i := k) e [[0, 0, 0], [0, 0, 0], [0, 0, 0]], firstI_cons] at hi
    rw [Int.toNat_natCast, wi_succ e (by omega)]
    intro z hz
    have hz : z = decide (wayAt (framesL.getD k [[0, 0, 0], [0, 0, 0], [0, 0, 0]]) 0 = c) := hz
    rw [hz]
    refine Br.intro (fun g => ?_) fun g => ?_
    · rw [if_pos g] at hi
      exact congrArg r1 hi.symm
    · rw [if_neg (by rw [g]; decide)] at hi
      exact ⟨rfl, ⟨k + 1, rfl, by omega, hi⟩, by omega⟩
  · have e : k = 6 := by have e : ¬ (k : Int) < 6 := of_decide_eq_false e; omega
    subst e
    exact congrArg r1 (by rw [hi]; rfl)
def Fx_cube_Cell := fun (n f i j : Int) (post : Int × Unit → Prop) => ∃ (h : True), ∀ (a : Bool), a = (goodCR n).fst → Br (!a) (post ((-1 : Int), ())) (∀ (a : Bool), a = decide (f <
  (0 : Int)) → Br a (post ((-1 : Int), ())) (∀ (a : Bool), a = decide (f ≥ (6 : Int)) → Br a (post ((-1 : Int), ())) (∀ (a : Bool), a = decide (i < (0 : Int)) → Br a (post ((-1 :
  Int), ())) (∀ (a : Bool), a = decide (i ≥ n) → Br a (post ((-1 : Int), ())) (∀ (a : Bool), a = decide (j < (0 : Int)) → Br a (post ((-1 : Int), ())) (∀ (a : Bool), a = decide (j ≥
  n) → Br a (post ((-1 : Int), ())) (post (IntKind.i64.wrap (IntKind.i64.wrap (IntKind.i64.wrap (IntKind.i64.wrap (f * n) + j) * n) + i), ()))))))))
theorem Lx_cube_Cell (n : Int) (f : Int) (i : Int) (j : Int) (h : IIII n f i j) : Fx_cube_Cell  n f i j (fun r => r = cellR n f i j) := by
  obtain ⟨hn, hf, hi, hj⟩ := h
  have no : cellOk n f i j = false → ((-1 : Int), ()) = cellR n f i j := fun q => congrArg r1 (by unfold cellI; rw [if_neg (by rw [q]; decide)])
  have ok : ∀ p, (goodC n && decide (0 ≤ f) && decide (f < 6) && decide (0 ≤ i) && decide (i < n) && decide (0 ≤ j) && decide (j < n)) = p → cellOk n f i j = p := fun p q => q
  refine ⟨trivial, ?_⟩
  intro g hg
  have hg : g = goodC n := hg
  rw [hg]
  refine Br.intro (fun e => no (ok _ ?_)) fun e => ?_
  · have e : goodC n = false := by simpa using e
    rw [e]; rfl
  have e : goodC n = true := by simpa using e
  rintro _ rfl
  refine Br.intro (fun q => no (ok _ ?_)) fun q => ?_
  · rw [decide_eq_false (p := 0 ≤ f) (by have := of_decide_eq_true q; omega)]; simp
  have q1 := of_decide_eq_false q
  rintro _ rfl
  refine Br.intro (fun q => no (ok _ ?_)) fun q => ?_
  · rw [decide_eq_false (p := f < 6) (by have := of_decide_eq_true q; omega)]; simp
  have q2 := of_decide_eq_false q
  rintro _ rfl
  refine Br.intro (fun q => no (ok _ ?_)) fun q => ?_
  · rw [decide_eq_false (p := 0 ≤ i) (by have := of_decide_eq_true q; omega)]; simp
  have q3 := of_decide_eq_false q
  rintro _ rfl
  refine Br.intro (fun q => no (ok _ ?_)) fun q => ?_
  · rw [decide_eq_false (p := i < n) (by have := of_decide_eq_true q; omega)]; simp
  have q4 := of_decide_eq_false q
  rintro _ rfl
  refine Br.intro (fun q => no (ok _ ?_)) fun q => ?_
  · rw [decide_eq_false (p := 0 ≤ j) (by have := of_decide_eq_true q; omega)]; simp
  have q5 := of_decide_eq_false q
  rintro _ rfl
  refine Br.intro (fun q => no (ok _ ?_)) fun q => ?_
  · rw [decide_eq_false (p := j < n) (by have := of_decide_eq_true q; omega)]; simp
  have q6 := of_decide_eq_false q
  have hok : cellOk n f i j = true := by
    unfold cellOk
    rw [e, decide_eq_true (p := 0 ≤ f) (by omega), decide_eq_true (p := f < 6) (by omega), decide_eq_true (p := 0 ≤ i) (by omega), decide_eq_true (p := i < n) (by omega), decide_eq_true (p := 0 ≤ j) (by omega), decide_eq_true (p := j < n) (by omega)]; rfl
  obtain ⟨r0, r1', n1, n2⟩ := cell_rng hok
  have hv : cellI n f i j = (f * n + j) * n + i := by unfold cellI; rw [if_pos hok]
  rw [hv] at r0 r1'
  have sq := sq_bd n1 n2
  have b1 : 0 ≤ f * n := Int.mul_nonneg (by omega) (by omega)
  have b2 : f * n ≤ 5 * n := Int.mul_le_mul_of_nonneg_right (by omega) (by omega)
  have b3 : 0 ≤ (f * n + j) * n := Int.mul_nonneg (by omega) (by omega)
  rw [wi (x := f * n) ⟨by omega, by omega⟩, wi (x := f * n + j) ⟨by omega, by omega⟩, wi (x := (f * n + j) * n) ⟨by omega, by omega⟩, wi (x := (f * n + j) * n + i) ⟨by omega, by omega⟩]
  exact congrArg r1 hv.symm
def Fx_cube_middle := fun (n f i j : Int) (post : List Int × Unit → Prop) => ∃ (h : (0 : Int) ≤ f ∧ f < (↑(6 : Nat) : Int)), ∃ (h : (List.replicate (3 : Nat) (K.arr (3 : Nat) (K.int
  IntKind.i64)).dflt).length = (3 : Nat) ∧ List.length (framesL.getD f.toNat (K.arr (3 : Nat) (K.arr (3 : Nat) (K.int IntKind.i64))).dflt) = (3 : Nat)), ∃ (h : (0 : Int) ≤ (0 : Int)
  ∧ (0 : Int) < (↑(3 : Nat) : Int) ∧ (3 : Nat) ≤ List.length (framesL.getD f.toNat (K.arr (3 : Nat) (K.arr (3 : Nat) (K.int IntKind.i64))).dflt)), ∃ (h : WTimes (List.getD
  (framesL.getD f.toNat (K.arr (3 : Nat) (K.arr (3 : Nat) (K.int IntKind.i64))).dflt) (Int.toNat (0 : Int)) (K.arr (3 : Nat) (K.int IntKind.i64)).dflt) n), ∀ (a : List Int × Unit),
  a = timesR (List.getD (framesL.getD f.toNat (K.arr (3 : Nat) (K.arr (3 : Nat) (K.int IntKind.i64))).dflt) (Int.toNat (0 : Int)) (K.arr (3 : Nat) (K.int IntKind.i64)).dflt) n → ∃
  (h : (0 : Int) ≤ (1 : Int) ∧ (1 : Int) < (↑(3 : Nat) : Int) ∧ (3 : Nat) ≤ List.length (framesL.getD f.toNat (K.arr (3 : Nat) (K.arr (3 : Nat) (K.int IntKind.i64))).dflt)), ∃ (h :
  WTimes (List.getD (framesL.getD f.toNat (K.arr (3 : Nat) (K.arr (3 : Nat) (K.int IntKind.i64))).dflt) (Int.toNat (1 : Int)) (K.arr (3 : Nat) (K.int IntKind.i64)).dflt)
  (IntKind.i64.wrap (IntKind.i64.wrap (IntKind.i64.wrap ((2 : Int) * i) + (1 : Int)) - n))), ∀ (a_1 : List Int × Unit), a_1 = timesR (List.getD (framesL.getD f.toNat (K.arr (3 :
  Nat) (K.arr (3 : Nat) (K.int IntKind.i64))).dflt) (Int.toNat (1 : Int)) (K.arr (3 : Nat) (K.int IntKind.i64)).dflt) (IntKind.i64.wrap (IntKind.i64.wrap (IntKind.i64.wrap ((2 :
  Int) * i) + (1 : Int)) - n)) → ∃ (h : WPlus a.fst a_1.fst), ∀ (a_2 : List Int × Unit), a_2 = plusR a.fst a_1.fst → ∃ (h : (0 : Int) ≤ (2 : Int) ∧ (2 : Int) < (↑(3 : Nat) : Int) ∧
  (3 : Nat) ≤ List.length (framesL.getD f.toNat (K.arr (3 : Nat) (K.arr (3 : Nat) (K.int IntKind.i64))).dflt)), ∃ (h : WTimes (List.getD (framesL.getD f.toNat (K.arr (3 : Nat)
  (K.arr (3 : Nat) (K.int IntKind.i64))).dflt) (Int.toNat (2 : Int)) (K.arr (3 : Nat) (K.int IntKind.i64)).dflt) (IntKind.i64.wrap (IntKind.i64.wrap (IntKind.i64.wrap ((2 : Int) *
  j) + (1 : Int)) - n))), ∀ (a : List Int × Unit), a = timesR (List.getD (framesL.getD f.toNat (K.arr (3 : Nat) (K.arr (3 : Nat) (K.int IntKind.i64))).dflt) (Int.toNat (2 : Int))
  (K.arr (3 : Nat) (K.int IntKind.i64)).dflt) (IntKind.i64.wrap (IntKind.i64.wrap (IntKind.i64.wrap ((2 : Int) * j) + (1 : Int)) - n)) → ∃ (h : WPlus a_2.fst a.fst), ∀ (a_3 : List
  Int × Unit), a_3 = plusR a_2.fst a.fst → ∃ (h : (List.replicate (3 : Nat) (0 : Int)).length = (3 : Nat) ∧ a_3.fst.length = (3 : Nat)), ∃ (h : a_3.fst.length = (3 : Nat)), post
  (a_3.fst, ())
theorem Lx_cube_middle (n : Int) (f : Int) (i : Int) (j : Int) (h : WMiddle n f i j) : Fx_cube_middle  n f i j (fun r => r = middleR' n f i j) := by
  have hh := h
  obtain ⟨n1, n2, f0, f5, i0, i1, j0, j1⟩ := h
  have fl : (framesL.getD f.toNat (K.arr (3 : Nat) (K.arr (3 : Nat) (K.int IntKind.i64))).dflt).length = 3 := frame_len f0 f5
  have b := frame_bd f0 f5
  have t0 : WTimes (wayAt (frameL f) 0) n := ⟨(b 0).mono (by decide), by omega, by omega⟩
  have w1 : IntKind.i64.wrap (IntKind.i64.wrap (IntKind.i64.wrap (2 * i) + 1) - n) = 2 * i + 1 - n := by
    rw [wi (x := 2 * i) ⟨by omega, by omega⟩, wi (x := 2 * i + 1) ⟨by omega, by omega⟩, wi ⟨by omega, by omega⟩]
  have w2 : IntKind.i64.wrap (IntKind.i64.wrap (IntKind.i64.wrap (2 * j) + 1) - n) = 2 * j + 1 - n := by
    rw [wi (x := 2 * j) ⟨by omega, by omega⟩, wi (x := 2 * j + 1) ⟨by omega, by omega⟩, wi ⟨by omega, by omega⟩]
  unfold Fx_cube_middle
  rw [w1, w2]
  have t1 : WTimes (wayAt (frameL f) 1) (2 * i + 1 - n) := ⟨(b 1).mono (by decide), by omega, by omega⟩
  have t2 : WTimes (wayAt (frameL f) 2) (2 * j + 1 - n) := ⟨(b 2).mono (by decide), by omega, by omega⟩
  have c0 := times_bd (q := 32) (b 0) (k := n) (by omega) (by omega)
  have c1 := times_bd (q := 32) (b 1) (k := 2 * i + 1 - n) (by omega) (by omega)
  have c2 := times_bd (q := 32) (b 2) (k := 2 * j + 1 - n) (by omega) (by omega)
  have p1 := plus_bd c0 c1
  refine ⟨⟨f0, by show f < 6; omega⟩, ⟨rfl, fl⟩, ⟨by decide, by decide, by omega⟩, t0, ?_⟩
  rintro _ rfl
  refine ⟨⟨by decide, by decide, by omega⟩, t1, ?_⟩
  rintro _ rfl
  refine ⟨⟨c0.mono (by decide), c1.mono (by decide)⟩, ?_⟩
  rintro _ rfl
  refine ⟨⟨by decide, by decide, by omega⟩, t2, ?_⟩
  rintro _ rfl
  refine ⟨⟨p1.mono (by decide), c2.mono (by decide)⟩, ?_⟩
  rintro _ rfl
  exact ⟨⟨rfl, rfl⟩, rfl, rfl⟩
def Fx_cube_index := fun (n a : Int) (post : Int × Unit → Prop) => ∃ (h : (2 : Int) ≠ (0 : Int)), post (imin (imax (IntKind.i64.wrap ((IntKind.i64.wrap (IntKind.i64.wrap (a + n) -
  (1 : Int))).tdiv (2 : Int))) (0 : Int)) (IntKind.i64.wrap (n - (1 : Int))), ())
theorem Lx_cube_index (n : Int) (a : Int) (h : WIndex n a) : Fx_cube_index  n a (fun r => r = indexR n a) := by
  obtain ⟨n1, n2, a1, a2⟩ := h
  have w1 : IntKind.i64.wrap (IntKind.i64.wrap (a + n) - 1) = a + n - 1 := by
    rw [wi (x := a + n) ⟨by omega, by omega⟩, wi ⟨by omega, by omega⟩]
  have w2 : IntKind.i64.wrap (n - 1) = n - 1 := wi ⟨by omega, by omega⟩
  have w3 : IntKind.i64.wrap (Int.tdiv (a + n - 1) 2) = Int.tdiv (a + n - 1) 2 := by
    have : (Int.tdiv (a + n - 1) 2).natAbs ≤ (a + n - 1).natAbs := by rw [Int.natAbs_tdiv]; exact Nat.div_le_self _ _
    exact wi ⟨by omega, by omega⟩
  exact ⟨by decide, by rw [w1, w2, w3]; rfl⟩
end Go.Lift

set_option linter.unusedVariables false
set_option linter.unusedSimpArgs false
namespace Go.Lift
open Go.Proofs
def Rbq_cube_way_times : Con := Con.nam [kWay, .int .i64] [.snap kWay] (fun x => WTimes x.1 x.2.1) (fun x => timesR x.1 x.2.1)
def Rbx_cube_way_times : Cx := ⟨tabOf Rbtab, conOf [], RbG⟩
theorem Rbx_cube_way_times_ok : CxOk Tryz.prog Rbx_cube_way_times := ⟨tabB_sound Rbtab_ok, fun f c h => by cases h⟩
theorem Rbat_cube_way_times : FnAt Tryz.prog 116 Tryz.f116.ntmps Tryz.f116.results.toList (Tryz.f116.body.getD .skip) := ⟨Tryz.f116, Tryz.func116, rfl, rfl, by simp, by decide⟩
theorem Rbeq_cube_way_times (a : List Int) (k : Int) (post : (List Int) × Unit → Prop) : fnEval Rbx_cube_way_times nHn Tryz.f116.ntmps Tryz.f116.results.toList (Tryz.f116.body.getD .skip) [kWay, .int .i64] [.snap kWay] (a, k, ()) post = Fx_cube_way_times  a k post := by kernel_rfl
theorem Rbh_cube_way_times : Rbq_cube_way_times.holds Tryz.prog RbG 116 :=
  nam_of_det (detP Rbx_cube_way_times_ok Rbmixed nHn Rbat_cube_way_times (F := fun x post => Fx_cube_way_times  x.1 x.2.1 post) (fun x post => Rbeq_cube_way_times x.1 x.2.1 post) fun x h w => Lx_cube_way_times  x.1 x.2.1 h w)
def Rbq_cube_way_plus : Con := Con.nam [kWay, kWay] [.snap kWay] (fun x => WPlus x.1 x.2.1) (fun x => plusR x.1 x.2.1)
def Rbx_cube_way_plus : Cx := ⟨tabOf Rbtab, conOf [], RbG⟩
theorem Rbx_cube_way_plus_ok : CxOk Tryz.prog Rbx_cube_way_plus := ⟨tabB_sound Rbtab_ok, fun f c h => by cases h⟩
theorem Rbat_cube_way_plus : FnAt Tryz.prog 84 Tryz.f84.ntmps Tryz.f84.results.toList (Tryz.f84.body.getD .skip) := ⟨Tryz.f84, Tryz.func84, rfl, rfl, by simp, by decide⟩
theorem Rbeq_cube_way_plus (a : List Int) (b : List Int) (post : (List Int) × Unit → Prop) : fnEval Rbx_cube_way_plus nHn Tryz.f84.ntmps Tryz.f84.results.toList (Tryz.f84.body.getD .skip) [kWay, kWay] [.snap kWay] (a, b, ()) post = Fx_cube_way_plus  a b post := by kernel_rfl
theorem Rbh_cube_way_plus : Rbq_cube_way_plus.holds Tryz.prog RbG 84 :=
  nam_of_det (detP Rbx_cube_way_plus_ok Rbmixed nHn Rbat_cube_way_plus (F := fun x post => Fx_cube_way_plus  x.1 x.2.1 post) (fun x post => Rbeq_cube_way_plus x.1 x.2.1 post) fun x h w => Lx_cube_way_plus  x.1 x.2.1 h w)
def Rbq_cube_way_dot : Con := Con.nam [kWay, kWay] [.snap (.int .i64)] (fun x => WDot x.1 x.2.1) (fun x => dotR x.1 x.2.1)
def Rbx_cube_way_dot : Cx := ⟨tabOf Rbtab, conOf [], RbG⟩
theorem Rbx_cube_way_dot_ok : CxOk Tryz.prog Rbx_cube_way_dot := ⟨tabB_sound Rbtab_ok, fun f c h => by cases h⟩
theorem Rbat_cube_way_dot : FnAt Tryz.prog 86 Tryz.f86.ntmps Tryz.f86.results.toList (Tryz.f86.body.getD .skip) := ⟨Tryz.f86, Tryz.func86, rfl, rfl, by simp, by decide⟩
theorem Rbeq_cube_way_dot (a : List Int) (b : List Int) (post : Int × Unit → Prop) : fnEval Rbx_cube_way_dot nHn Tryz.f86.ntmps Tryz.f86.results.toList (Tryz.f86.body.getD .skip) [kWay, kWay] [.snap (.int .i64)] (a, b, ()) post = Fx_cube_way_dot  a b post := by kernel_rfl
theorem Rbh_cube_way_dot : Rbq_cube_way_dot.holds Tryz.prog RbG 86 :=
  nam_of_det (detP Rbx_cube_way_dot_ok Rbmixed nHn Rbat_cube_way_dot (F := fun x post => Fx_cube_way_dot  x.1 x.2.1 post) (fun x post => Rbeq_cube_way_dot x.1 x.2.1 post) fun x h w => Lx_cube_way_dot  x.1 x.2.1 h w)
def Rbq_cube_frame_out : Con := Con.nam [kFrame, .int .i64] [.snap kWay] (fun x => WOut x.1 x.2.1) (fun x => outR x.1 x.2.1)
def Rbx_cube_frame_out : Cx := ⟨tabOf Rbtab, conOf [(116, Rbq_cube_way_times)], RbG⟩
theorem Rbx_cube_frame_out_ok : CxOk Tryz.prog Rbx_cube_frame_out := ⟨tabB_sound Rbtab_ok, conOf_sound ⟨Rbh_cube_way_times, trivial⟩⟩
theorem Rbat_cube_frame_out : FnAt Tryz.prog 82 Tryz.f82.ntmps Tryz.f82.results.toList (Tryz.f82.body.getD .skip) := ⟨Tryz.f82, Tryz.func82, rfl, rfl, by simp, by decide⟩
theorem Rbeq_cube_frame_out (f : List (List Int)) (s : Int) (post : (List Int) × Unit → Prop) : fnEval Rbx_cube_frame_out nHn Tryz.f82.ntmps Tryz.f82.results.toList (Tryz.f82.body.getD .skip) [kFrame, .int .i64] [.snap kWay] (f, s, ()) post = Fx_cube_frame_out  f s post := by kernel_rfl
theorem Rbh_cube_frame_out : Rbq_cube_frame_out.holds Tryz.prog RbG 82 :=
  nam_of_det (detP Rbx_cube_frame_out_ok Rbmixed nHn Rbat_cube_frame_out (F := fun x post => Fx_cube_frame_out  x.1 x.2.1 post) (fun x post => Rbeq_cube_frame_out x.1 x.2.1 post) fun x h w => Lx_cube_frame_out  x.1 x.2.1 h w)
def Rbq_cube_faceAt : Con := Con.nam [kWay] [.snap (.int .i64)] (fun _ => True) (fun x => faceAtR x.1)
def Rbhn_cube_faceAt : Hn := { loops := hintH [(2, { ls := [(.slot 4, .data (.int .i64))], os := [] })], joins := fun _ => none, named := true }
def Rbx_cube_faceAt : Cx := ⟨tabOf Rbtab, conOf [], RbG⟩
theorem Rbx_cube_faceAt_ok : CxOk Tryz.prog Rbx_cube_faceAt := ⟨tabB_sound Rbtab_ok, fun f c h => by cases h⟩
theorem Rbat_cube_faceAt : FnAt Tryz.prog 81 Tryz.f81.ntmps Tryz.f81.results.toList (Tryz.f81.body.getD .skip) := ⟨Tryz.f81, Tryz.func81, rfl, rfl, by simp, by decide⟩
theorem Rbeq_cube_faceAt (c : List Int) (post : Int × Unit → Prop) : fnEval Rbx_cube_faceAt Rbhn_cube_faceAt Tryz.f81.ntmps Tryz.f81.results.toList (Tryz.f81.body.getD .skip) [kWay] [.snap (.int .i64)] (c, ()) post = Fx_cube_faceAt 109 c post := by kernel_rfl
theorem Rbh_cube_faceAt : Rbq_cube_faceAt.holds Tryz.prog RbG 81 :=
  nam_of_det (detP Rbx_cube_faceAt_ok Rbmixed Rbhn_cube_faceAt Rbat_cube_faceAt (F := fun x post => Fx_cube_faceAt 109 x.1 post) (fun x post => Rbeq_cube_faceAt x.1 post) fun x _ w => Lx_cube_faceAt 109 x.1 w)
def Rbq_cube_Cell : Con := Con.nam [.int .i64, .int .i64, .int .i64, .int .i64] [.snap (.int .i64)] (fun x => IIII x.1 x.2.1 x.2.2.1 x.2.2.2.1) (fun x => cellR x.1 x.2.1 x.2.2.1 x.2.2.2.1)
def Rbhn_cube_Cell : Hn := nHn
def Rbx_cube_Cell : Cx := ⟨tabOf Rbtab, conOf [(97, Rbq_cube_good)], RbG⟩
theorem Rbx_cube_Cell_ok : CxOk Tryz.prog Rbx_cube_Cell := ⟨tabB_sound Rbtab_ok, conOf_sound ⟨Rbh_cube_good, trivial⟩⟩
theorem Rbat_cube_Cell : FnAt Tryz.prog 80 Tryz.f80.ntmps Tryz.f80.results.toList (Tryz.f80.body.getD .skip) := ⟨Tryz.f80, Tryz.func80, rfl, rfl, by simp, by decide⟩
theorem Rbeq_cube_Cell (n : Int) (f : Int) (i : Int) (j : Int) (post : Int × Unit → Prop) : fnEval Rbx_cube_Cell Rbhn_cube_Cell Tryz.f80.ntmps Tryz.f80.results.toList (Tryz.f80.body.getD .skip) [.int .i64, .int .i64, .int .i64, .int .i64] [.snap (.int .i64)] (n, f, i, j, ()) post = Fx_cube_Cell  n f i j post := by kernel_rfl
theorem Rbh_cube_Cell : Rbq_cube_Cell.holds Tryz.prog RbG 80 :=
  nam_of_det (detP Rbx_cube_Cell_ok Rbmixed Rbhn_cube_Cell Rbat_cube_Cell (F := fun x post => Fx_cube_Cell  x.1 x.2.1 x.2.2.1 x.2.2.2.1 post) (fun x post => Rbeq_cube_Cell x.1 x.2.1 x.2.2.1 x.2.2.2.1 post) fun x h _ => Lx_cube_Cell  x.1 x.2.1 x.2.2.1 x.2.2.2.1 h)
def Rbq_cube_middle : Con := Con.nam [.int .i64, .int .i64, .int .i64, .int .i64] [.snap kWay] (fun x => WMiddle x.1 x.2.1 x.2.2.1 x.2.2.2.1) (fun x => middleR' x.1 x.2.1 x.2.2.1 x.2.2.2.1)
def Rbx_cube_middle : Cx := ⟨tabOf Rbtab, conOf [(116, Rbq_cube_way_times), (84, Rbq_cube_way_plus)], RbG⟩
theorem Rbx_cube_middle_ok : CxOk Tryz.prog Rbx_cube_middle := ⟨tabB_sound Rbtab_ok, conOf_sound ⟨Rbh_cube_way_times, Rbh_cube_way_plus, trivial⟩⟩
theorem Rbat_cube_middle : FnAt Tryz.prog 83 Tryz.f83.ntmps Tryz.f83.results.toList (Tryz.f83.body.getD .skip) := ⟨Tryz.f83, Tryz.func83, rfl, rfl, by simp, by decide⟩
theorem Rbeq_cube_middle (n : Int) (f : Int) (i : Int) (j : Int) (post : (List Int) × Unit → Prop) : fnEval Rbx_cube_middle nHn Tryz.f83.ntmps Tryz.f83.results.toList (Tryz.f83.body.getD .skip) [.int .i64, .int .i64, .int .i64, .int .i64] [.snap kWay] (n, f, i, j, ()) post = Fx_cube_middle  n f i j post := by kernel_rfl
theorem Rbh_cube_middle : Rbq_cube_middle.holds Tryz.prog RbG 83 :=
  nam_of_det (detP Rbx_cube_middle_ok Rbmixed nHn Rbat_cube_middle (F := fun x post => Fx_cube_middle  x.1 x.2.1 x.2.2.1 x.2.2.2.1 post) (fun x post => Rbeq_cube_middle x.1 x.2.1 x.2.2.1 x.2.2.2.1 post) fun x h _ => Lx_cube_middle  x.1 x.2.1 x.2.2.1 x.2.2.2.1 h)
def Rbq_cube_index : Con := Con.nam [.int .i64, .int .i64] [.snap (.int .i64)] (fun x => WIndex x.1 x.2.1) (fun x => indexR x.1 x.2.1)
def Rbx_cube_index : Cx := ⟨tabOf Rbtab, conOf [], RbG⟩
theorem Rbx_cube_index_ok : CxOk Tryz.prog Rbx_cube_index := ⟨tabB_sound Rbtab_ok, fun f c h => by cases h⟩
theorem Rbat_cube_index : FnAt Tryz.prog 85 Tryz.f85.ntmps Tryz.f85.results.toList (Tryz.f85.body.getD .skip) := ⟨Tryz.f85, Tryz.func85, rfl, rfl, by simp, by decide⟩
theorem Rbeq_cube_index (n : Int) (a : Int) (post : Int × Unit → Prop) : fnEval Rbx_cube_index nHn Tryz.f85.ntmps Tryz.f85.results.toList (Tryz.f85.body.getD .skip) [.int .i64, .int .i64] [.snap (.int .i64)] (n, a, ()) post = Fx_cube_index  n a post := by kernel_rfl
theorem Rbh_cube_index : Rbq_cube_index.holds Tryz.prog RbG 85 :=
  nam_of_det (detP Rbx_cube_index_ok Rbmixed nHn Rbat_cube_index (F := fun x post => Fx_cube_index  x.1 x.2.1 post) (fun x post => Rbeq_cube_index x.1 x.2.1 post) fun x h _ => Lx_cube_index  x.1 x.2.1 h)
end Go.Lift

set_option linter.unusedVariables false
set_option linter.unusedSimpArgs false
namespace Go.Lift
open Go.Proofs
def Rbq_cube_Beside : Con := Con.nam [.int .i64, .int .i64, .int .i64] [.snap (.int .i64), .snap (.int .i64)] (fun x => III x.1 x.2.1 x.2.2.1) (fun x => besideR x.1 x.2.1 x.2.2.1)
def Rbhn_cube_Beside : Hn := { loops := hintH [(13, { ls := [(.slot 98, .data (.int .i64))], os := [] })], joins := fun _ => none, named := true }
def Rbx_cube_Beside : Cx := ⟨tabOf Rbtab, conOf [(79, Rbq_cube_Place), (80, Rbq_cube_Cell), (82, Rbq_cube_frame_out), (81, Rbq_cube_faceAt), (83, Rbq_cube_middle), (84, Rbq_cube_way_plus), (86, Rbq_cube_way_dot), (85, Rbq_cube_index)], RbG⟩
theorem Rbx_cube_Beside_ok : CxOk Tryz.prog Rbx_cube_Beside := ⟨tabB_sound Rbtab_ok, conOf_sound ⟨Rbh_cube_Place, Rbh_cube_Cell, Rbh_cube_frame_out, Rbh_cube_faceAt, Rbh_cube_middle, Rbh_cube_way_plus, Rbh_cube_way_dot, Rbh_cube_index, trivial⟩⟩
theorem Rbat_cube_Beside : FnAt Tryz.prog 35 Tryz.f35.ntmps Tryz.f35.results.toList (Tryz.f35.body.getD .skip) := ⟨Tryz.f35, Tryz.func35, rfl, rfl, by simp, by decide⟩
theorem Rbeq_cube_Beside (n : Int) (c : Int) (o : Int) (post : Int × Int × Unit → Prop) : fnEval Rbx_cube_Beside Rbhn_cube_Beside Tryz.f35.ntmps Tryz.f35.results.toList (Tryz.f35.body.getD .skip) [.int .i64, .int .i64, .int .i64] [.snap (.int .i64), .snap (.int .i64)] (n, c, o, ()) post = Fx_cube_Beside 105 111 109 n c o post := by kernel_rfl
theorem Rbh_cube_Beside : Rbq_cube_Beside.holds Tryz.prog RbG 35 :=
  nam_of_det (detP Rbx_cube_Beside_ok Rbmixed Rbhn_cube_Beside Rbat_cube_Beside (F := fun x post => Fx_cube_Beside 105 111 109 x.1 x.2.1 x.2.2.1 post) (fun x post => Rbeq_cube_Beside x.1 x.2.1 x.2.2.1 post) fun x h _ => Lx_cube_Beside 105 111 109 x.1 x.2.1 x.2.2.1 h)
end Go.Lift

set_option linter.unusedVariables false
set_option linter.unusedSimpArgs false
namespace Go.Lift
def Fx_geom_Middle := fun (n c : Int) (post : (Nat × Nat × Nat) × Bool × Unit → Prop) => ∃ (h : II n c), Br (!(placeR4 n c).snd.snd.snd.fst) (post (((0 : Nat), (0 : Nat), (0 :
  Nat)), Bool.false, ())) (∃ (h : WRatio (IntKind.i64.wrap (IntKind.i64.wrap (IntKind.i64.wrap ((2 : Int) * (placeR4 n c).snd.fst) + (1 : Int)) - n)) n), ∃ (h : WRatio
  (IntKind.i64.wrap (IntKind.i64.wrap (IntKind.i64.wrap ((2 : Int) * (placeR4 n c).snd.snd.fst) + (1 : Int)) - n)) n), ∃ (h : WPoint (placeR4 n c).fst (ratioR (IntKind.i64.wrap
  (IntKind.i64.wrap (IntKind.i64.wrap ((2 : Int) * (placeR4 n c).snd.fst) + (1 : Int)) - n)) n).fst (ratioR (IntKind.i64.wrap (IntKind.i64.wrap (IntKind.i64.wrap ((2 : Int) *
  (placeR4 n c).snd.snd.fst) + (1 : Int)) - n)) n).fst), post (((pointR (placeR4 n c).fst (ratioR (IntKind.i64.wrap (IntKind.i64.wrap (IntKind.i64.wrap ((2 : Int) * (placeR4 n
  c).snd.fst) + (1 : Int)) - n)) n).fst (ratioR (IntKind.i64.wrap (IntKind.i64.wrap (IntKind.i64.wrap ((2 : Int) * (placeR4 n c).snd.snd.fst) + (1 : Int)) - n)) n).fst).fst.fst,
  (pointR (placeR4 n c).fst (ratioR (IntKind.i64.wrap (IntKind.i64.wrap (IntKind.i64.wrap ((2 : Int) * (placeR4 n c).snd.fst) + (1 : Int)) - n)) n).fst (ratioR (IntKind.i64.wrap
  (IntKind.i64.wrap (IntKind.i64.wrap ((2 : Int) * (placeR4 n c).snd.snd.fst) + (1 : Int)) - n)) n).fst).fst.snd.fst, (pointR (placeR4 n c).fst (ratioR (IntKind.i64.wrap
  (IntKind.i64.wrap (IntKind.i64.wrap ((2 : Int) * (placeR4 n c).snd.fst) + (1 : Int)) - n)) n).fst (ratioR (IntKind.i64.wrap (IntKind.i64.wrap (IntKind.i64.wrap ((2 : Int) *
  (placeR4 n c).snd.snd.fst) + (1 : Int)) - n)) n).fst).fst.snd.snd), Bool.true, ()))
theorem Lx_geom_Middle (n : Int) (c : Int) (h : II n c) : Fx_geom_Middle  n c (fun r => r = middleR n c) := by
  refine ⟨h, ?_⟩
  by_cases ok : placeOk n c = true
  · rw [place_eq ok]
    obtain ⟨n1, n2, f0, f5, i0, i1, j0, j1⟩ := place_mid ok
    dsimp only
    refine Br.intro (fun e => absurd e (by decide)) fun _ => ?_
    have w1 : IntKind.i64.wrap (IntKind.i64.wrap (IntKind.i64.wrap (2 * (c % n)) + 1) - n) = 2 * (c % n) + 1 - n := by
      rw [wi (x := 2 * (c % n)) ⟨by omega, by omega⟩, wi (x := 2 * (c % n) + 1) ⟨by omega, by omega⟩, wi ⟨by omega, by omega⟩]
    have w2 : IntKind.i64.wrap (IntKind.i64.wrap (IntKind.i64.wrap (2 * (c / n % n)) + 1) - n) = 2 * (c / n % n) + 1 - n := by
      rw [wi (x := 2 * (c / n % n)) ⟨by omega, by omega⟩, wi (x := 2 * (c / n % n) + 1) ⟨by omega, by omega⟩, wi ⟨by omega, by omega⟩]
    rw [w1, w2]
    refine ⟨⟨⟨by omega, by omega⟩, n1, h.1⟩, ⟨⟨by omega, by omega⟩, n1, h.1⟩, ⟨f0, f5, divQF_w _ _, divQF_w _ _⟩, ?_⟩
    unfold middleR; rw [if_pos ok]; rfl
  · rw [place_no ok]
    refine Br.intro (fun _ => ?_) fun e => absurd e (by decide)
    unfold middleR; rw [if_neg ok]
def Fx_geom_Length := fun (n c o : Int) (post : Nat × Unit → Prop) => ∃ (h : II n c), ∃ (h : (List.replicate (4 : Nat) ((K.flt Go.FloatKind.f64).pair ((K.flt Go.FloatKind.f64).pair
  (K.flt Go.FloatKind.f64))).dflt).length = (4 : Nat) ∧ (cornersR n c).fst.length = (4 : Nat)), Br (!(cornersR n c).snd.fst) (post ((0 : Nat), ())) (∀ (a : Bool), a = decide (o < (0
  : Int)) → Br a (post ((0 : Nat), ())) (∀ (a : Bool), a = decide (o > (3 : Int)) → Br a (post ((0 : Nat), ())) (∃ (h : (0 : Int) ≤ o ∧ o < (↑(4 : Nat) : Int)), ∃ (h :
  (List.replicate (2 : Nat) (0 : Int)).length = (2 : Nat) ∧ List.length ([[(1 : Int), (2 : Int)], [(3 : Int), (2 : Int)], [(0 : Int), (3 : Int)], [(0 : Int), (1 : Int)]].getD
  o.toNat (K.arr (2 : Nat) (K.int IntKind.i64)).dflt) = (2 : Nat)), ∃ (h : (0 : Int) ≤ (0 : Int) ∧ (0 : Int) < (↑(2 : Nat) : Int) ∧ (2 : Nat) ≤ List.length ([[(1 : Int), (2 : Int)],
  [(3 : Int), (2 : Int)], [(0 : Int), (3 : Int)], [(0 : Int), (1 : Int)]].getD o.toNat (K.arr (2 : Nat) (K.int IntKind.i64)).dflt)), ∃ (h : (0 : Int) ≤ List.getD ([[(1 : Int), (2 :
  Int)], [(3 : Int), (2 : Int)], [(0 : Int), (3 : Int)], [(0 : Int), (1 : Int)]].getD o.toNat (K.arr (2 : Nat) (K.int IntKind.i64)).dflt) (Int.toNat (0 : Int)) (0 : Int) ∧ List.getD
  ([[(1 : Int), (2 : Int)], [(3 : Int), (2 : Int)], [(0 : Int), (3 : Int)], [(0 : Int), (1 : Int)]].getD o.toNat (K.arr (2 : Nat) (K.int IntKind.i64)).dflt) (Int.toNat (0 : Int)) (0
  : Int) < (↑(4 : Nat) : Int) ∧ (4 : Nat) ≤ (cornersR n c).fst.length), ∃ (h : (0 : Int) ≤ (1 : Int) ∧ (1 : Int) < (↑(2 : Nat) : Int) ∧ (2 : Nat) ≤ List.length ([[(1 : Int), (2 :
  Int)], [(3 : Int), (2 : Int)], [(0 : Int), (3 : Int)], [(0 : Int), (1 : Int)]].getD o.toNat (K.arr (2 : Nat) (K.int IntKind.i64)).dflt)), ∃ (h : (0 : Int) ≤ List.getD ([[(1 :
  Int), (2 : Int)], [(3 : Int), (2 : Int)], [(0 : Int), (3 : Int)], [(0 : Int), (1 : Int)]].getD o.toNat (K.arr (2 : Nat) (K.int IntKind.i64)).dflt) (Int.toNat (1 : Int)) (0 : Int)
  ∧ List.getD ([[(1 : Int), (2 : Int)], [(3 : Int), (2 : Int)], [(0 : Int), (3 : Int)], [(0 : Int), (1 : Int)]].getD o.toNat (K.arr (2 : Nat) (K.int IntKind.i64)).dflt) (Int.toNat
  (1 : Int)) (0 : Int) < (↑(4 : Nat) : Int) ∧ (4 : Nat) ≤ (cornersR n c).fst.length), ∃ (h : WV2 ((cornersR n c).fst.getD (Int.toNat (List.getD ([[(1 : Int), (2 : Int)], [(3 : Int),
  (2 : Int)], [(0 : Int), (3 : Int)], [(0 : Int), (1 : Int)]].getD o.toNat (K.arr (2 : Nat) (K.int IntKind.i64)).dflt) (Int.toNat (0 : Int)) (0 : Int))) ((K.flt
  Go.FloatKind.f64).pair ((K.flt Go.FloatKind.f64).pair (K.flt Go.FloatKind.f64))).dflt) ((cornersR n c).fst.getD (Int.toNat (List.getD ([[(1 : Int), (2 : Int)], [(3 : Int), (2 :
  Int)], [(0 : Int), (3 : Int)], [(0 : Int), (1 : Int)]].getD o.toNat (K.arr (2 : Nat) (K.int IntKind.i64)).dflt) (Int.toNat (1 : Int)) (0 : Int))) ((K.flt Go.FloatKind.f64).pair
  ((K.flt Go.FloatKind.f64).pair (K.flt Go.FloatKind.f64))).dflt)), post ((gapR ((cornersR n c).fst.getD (Int.toNat (List.getD ([[(1 : Int), (2 : Int)], [(3 : Int), (2 : Int)], [(0
  : Int), (3 : Int)], [(0 : Int), (1 : Int)]].getD o.toNat (K.arr (2 : Nat) (K.int IntKind.i64)).dflt) (Int.toNat (0 : Int)) (0 : Int))) ((K.flt Go.FloatKind.f64).pair ((K.flt
  Go.FloatKind.f64).pair (K.flt Go.FloatKind.f64))).dflt) ((cornersR n c).fst.getD (Int.toNat (List.getD ([[(1 : Int), (2 : Int)], [(3 : Int), (2 : Int)], [(0 : Int), (3 : Int)],
  [(0 : Int), (1 : Int)]].getD o.toNat (K.arr (2 : Nat) (K.int IntKind.i64)).dflt) (Int.toNat (1 : Int)) (0 : Int))) ((K.flt Go.FloatKind.f64).pair ((K.flt Go.FloatKind.f64).pair
  (K.flt Go.FloatKind.f64))).dflt)).fst, ()))))
theorem Lx_geom_Length (n : Int) (c : Int) (o : Int) (h : III n c o) : Fx_geom_Length  n c o (fun r => r = lengthGR n c o) := by
  have cl := corners_len n c
  refine ⟨⟨h.1, h.2.1⟩, ⟨rfl, cl⟩, ?_⟩
  have no : besideOk n c o = false → ((0 : Nat), ()) = lengthGR n c o := fun q => congrArg r1 (by unfold lengthG; rw [if_neg (by rw [q]; decide)])
  rw [corners_ok]
  refine Br.intro (fun e => no ?_) fun e => ?_
  · unfold besideOk; rw [show placeOk n c = false by simpa using e]; rfl
  have ok : placeOk n c = true := by simpa using e
  rintro _ rfl
  refine Br.intro (fun e => no ?_) fun e => ?_
  · have e := of_decide_eq_true e
    unfold besideOk; rw [decide_eq_false (p := 0 ≤ o) (by omega)]; simp
  have o0 := of_decide_eq_false e
  rintro _ rfl
  refine Br.intro (fun e => no ?_) fun e => ?_
  · have e := of_decide_eq_true e
    unfold besideOk; rw [decide_eq_false (p := o < 4) (by omega)]; simp
  have o4 := of_decide_eq_false e
  have o0 : 0 ≤ o := by omega
  have o4 : o < 4 := by omega
  have okb : besideOk n c o = true := by unfold besideOk; rw [ok, decide_eq_true o0, decide_eq_true o4]; rfl
  have hc : ∀ i : Int, 0 ≤ i → i ≤ 3 → (cornersR n c).1.getD i.toNat ((K.flt Go.FloatKind.f64).pair ((K.flt Go.FloatKind.f64).pair (K.flt Go.FloatKind.f64))).dflt = cornA n c i := fun i a b => corner_at ok a b _
  have c0 := hc 0 (by decide) (by decide)
  have c1 := hc 1 (by decide) (by decide)
  have c2 := hc 2 (by decide) (by decide)
  have c3 := hc 3 (by decide) (by decide)
  have fin : ∀ A B : Nat × Nat × Nat, A = cornA n c (endA o) → B = cornA n c (endB o) → (gapQ A B, ()) = lengthGR n c o := by
    intro A B hA hB
    rw [hA, hB]; exact congrArg r1 (by unfold lengthG; rw [if_pos okb])
  have wA : ∀ i, WV (cornA n c i) := cornA_w n c
  generalize hQ : (cornersR n c).fst = Q at *
  rcases side_cases o0 o4 with rfl | rfl | rfl | rfl
  · exact ⟨⟨by decide, by decide⟩, ⟨rfl, rfl⟩, ⟨by decide, by decide, by decide⟩, ⟨by decide, by decide, Nat.le_of_eq cl.symm⟩, ⟨by decide, by decide, by decide⟩, ⟨by decide, by decide, Nat.le_of_eq cl.symm⟩, ⟨c1 ▸ wA 1, c2 ▸ wA 2⟩, fin _ _ c1 c2⟩
  · exact ⟨⟨by decide, by decide⟩, ⟨rfl, rfl⟩, ⟨by decide, by decide, by decide⟩, ⟨by decide, by decide, Nat.le_of_eq cl.symm⟩, ⟨by decide, by decide, by decide⟩, ⟨by decide, by decide, Nat.le_of_eq cl.symm⟩, ⟨c3 ▸ wA 3, c2 ▸ wA 2⟩, fin _ _ c3 c2⟩
  · exact ⟨⟨by decide, by decide⟩, ⟨rfl, rfl⟩, ⟨by decide, by decide, by decide⟩, ⟨by decide, by decide, Nat.le_of_eq cl.symm⟩, ⟨by decide, by decide, by decide⟩, ⟨by decide, by decide, Nat.le_of_eq cl.symm⟩, ⟨c0 ▸ wA 0, c3 ▸ wA 3⟩, fin _ _ c0 c3⟩
  · exact ⟨⟨by decide, by decide⟩, ⟨rfl, rfl⟩, ⟨by decide, by decide, by decide⟩, ⟨by decide, by decide, Nat.le_of_eq cl.symm⟩, ⟨by decide, by decide, by decide⟩, ⟨by decide, by decide, Nat.le_of_eq cl.symm⟩, ⟨c0 ▸ wA 0, c1 ▸ wA 1⟩, fin _ _ c0 c1⟩
def Fx_geom_Gap := fun (n c o : Int) (post : Nat × Unit → Prop) => ∃ (h : III n c o), ∀ (a : Int × Int × Unit), a = besideR n c o → ∃ (h : II n c), ∀ (a_1 : (Nat × Nat × Nat) × Bool
  × Unit), a_1 = middleR n c → ∃ (h : II n a.fst), ∀ (a_2 : (Nat × Nat × Nat) × Bool × Unit), a_2 = middleR n a.fst → Br (!a_1.snd.fst) (post ((0 : Nat), ())) (Br (!a_2.snd.fst)
  (post ((0 : Nat), ())) (∃ (h : WV2 (a_1.fst.fst, a_1.fst.snd.fst, a_1.fst.snd.snd) (a_2.fst.fst, a_2.fst.snd.fst, a_2.fst.snd.snd)), post ((gapR (a_1.fst.fst, a_1.fst.snd.fst,
  a_1.fst.snd.snd) (a_2.fst.fst, a_2.fst.snd.fst, a_2.fst.snd.snd)).fst, ())))
theorem Lx_geom_Gap (n : Int) (c : Int) (o : Int) (h : III n c o) : Fx_geom_Gap  n c o (fun r => r = gapGR n c o) := by
  have br := beside_rng n c o
  refine ⟨h, ?_⟩
  rintro ⟨b, q, ⟨⟩⟩ hb
  have eb : b = (besideI n c o).1 := congrArg Prod.fst hb
  rw [← eb] at br
  refine ⟨⟨h.1, h.2.1⟩, ?_⟩
  rintro ⟨⟨A1, A2, A3⟩, p, ⟨⟩⟩ hA
  refine ⟨⟨h.1, by omega, by omega⟩, ?_⟩
  rintro ⟨⟨B1, B2, B3⟩, r, ⟨⟩⟩ hB
  have hA : ((A1, A2, A3), p, ()) = middleR n c := hA
  have hB : ((B1, B2, B3), r, ()) = middleR n b := hB
  have key : ∀ z, middleR n z = if placeOk n z then (middleQ n z, true, ()) else ((0, 0, 0), false, ()) := fun z => rfl
  have bt : ∀ {z : Bool}, z = true → ¬ (!z) = true := fun {z} e => by rw [e]; decide
  have bf : ∀ {z : Bool}, z = false → ¬ (!z) = false := fun {z} e => by rw [e]; decide
  by_cases o1 : placeOk n c = true
  · rw [key, if_pos o1] at hA
    obtain ⟨eA, e1⟩ := Prod.mk.inj hA
    have ep : p = true := congrArg Prod.fst e1
    refine Br.intro (fun e => absurd e (bt ep)) fun _ => ?_
    by_cases o2 : placeOk n b = true
    · rw [key, if_pos o2] at hB
      obtain ⟨eB, e2⟩ := Prod.mk.inj hB
      have er : r = true := congrArg Prod.fst e2
      refine Br.intro (fun e => absurd e (bt er)) fun _ => ?_
      have hw : WV2 (A1, A2, A3) (B1, B2, B3) := ⟨by rw [eA]; exact middleQ_w _ _, by rw [eB]; exact middleQ_w _ _⟩
      have hg : gapQ (A1, A2, A3) (B1, B2, B3) = gapG n c o := by
        rw [eA, eB]; unfold gapG; rw [← eb, o1, o2, if_pos (by decide)]
      exact ⟨hw, congrArg r1 hg⟩
    · rw [key, if_neg o2] at hB
      obtain ⟨eB, e2⟩ := Prod.mk.inj hB
      have er : r = false := congrArg Prod.fst e2
      refine Br.intro (fun _ => congrArg r1 ?_) fun e => absurd e (bf er)
      unfold gapG; rw [← eb, o1, show placeOk n b = false by simpa using o2]; rfl
  · rw [key, if_neg o1] at hA
    obtain ⟨eA, e1⟩ := Prod.mk.inj hA
    have ep : p = false := congrArg Prod.fst e1
    refine Br.intro (fun _ => congrArg r1 ?_) fun e => absurd e (bf ep)
    unfold gapG; rw [show placeOk n c = false by simpa using o1]; rfl
end Go.Lift
