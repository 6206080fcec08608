/- A part of the proof of RiverDeepCard: an own lifter of code into plain terms, and plain laws. -/
import Derived.Great.FillDense
import Derived.Laws.AppendOwn
import Derived.Laws.AppendOwnNone
import Derived.Laws.Rows
import Derived.Laws.BytesString
import Derived.Laws.Strings
import Derived.Lib.AppendStr
import Derived.ChangeKeysEq
import Derived.Laws.StructEq
import Derived.MapKept
import Derived.Test.YtplhligfkbgllaaGreatDoorPtA
set_option linter.unusedVariables false
set_option linter.unusedSimpArgs false
set_option linter.unusedSectionVars false
set_option linter.unusedVariables false
set_option linter.unusedSimpArgs false
set_option linter.unusedSectionVars false
namespace Go.Lift
theorem flatten_get {l : List Value} {s : Nat} (hl : l.length = s) (hs : 0 < s) : ∀ (m i : Nat), i < m * s → (List.replicate m l).flatten[i]? = l[i % s]?
  | 0, i, h => by omega
  | m + 1, i, h => by
    rw [List.replicate_succ, List.flatten_cons]
    by_cases hi : i < s
    · rw [List.getElem?_append_left (by omega), Nat.mod_eq_of_lt hi]
    · rw [List.getElem?_append_right (by omega), hl, flatten_get hl hs m (i - s) (by rw [Nat.add_mul, Nat.one_mul] at h; omega)]
      congr 1
      rw [Nat.mod_eq_sub_mod (by omega : i ≥ s)]
theorem flatten_len {l : List Value} (m : Nat) : (List.replicate m l).flatten.length = m * l.length := by
  induction m with
  | zero => simp
  | succ m ih => rw [List.replicate_succ, List.flatten_cons, List.length_append, ih, Nat.add_mul]; omega
theorem made_flat (z : Array Value) (m s : Nat) (hz : z.size = s) (hs : 0 < s) : (madeCells z (m * s)).toList = (List.replicate m z.toList).flatten := by
  apply List.ext_getElem?
  intro i
  by_cases hi : i < m * s
  · rw [flatten_get (s := s) (by simpa using hz) hs m i hi]
    have hlt : i % s < z.size := by rw [hz]; exact Nat.mod_lt _ hs
    simp only [madeCells, Array.toList_map, Array.toList_range, List.getElem?_map]
    rw [List.getElem?_range hi]
    simp only [Option.map_some, hz]
    rw [getElem!_pos z (i % s) hlt, Array.getElem?_toList, Array.getElem?_eq_getElem hlt]
  · rw [List.getElem?_eq_none, List.getElem?_eq_none]
    · rw [flatten_len]; simp only [Array.length_toList, hz]; omega
    · simp [madeCells]; omega
theorem All2.vals (c : RC) : ∀ l : List Value, All2 (SV.rel c) (l.map .val) l
  | [] => .nil
  | _ :: l => .cons rfl (All2.vals c l)
section
variable {P : Program} {cx : Cx} (hT : ∀ t d, cx.tab t = some d → d.Fits P t) {c : RC} (hi : c.Inv) {k : EV → List (Nat × HObj) → Prop} {tgt : Nat} (hp : c.heap[tgt]? = some .pend)
include hT hi hp
theorem new_done {w0 : World} (hg : Grows c.w w0) {t : TypeId} {vs : Array Value} {o : HObj} {ev : EV} {v : Value}
    (hr : Ext c (c.put (w0.alloc (.cells vs t)) tgt o (some w0.heap.size)) → o.rel (c.put (w0.alloc (.cells vs t)) tgt o (some w0.heap.size)) tgt)
    (hev : ev.rel (c.put (w0.alloc (.cells vs t)) tgt o (some w0.heap.size)) v) (hk : k ev [(tgt, o)]) : Done c k v (w0.alloc (.cells vs t)) := by
  have hg' : Grows c.w (w0.alloc (.cells vs t)) := hg.trans (Grows.alloc _ _)
  have hb : ∀ b, some w0.heap.size = some b → c.w.heap.size ≤ b := fun b e => by cases e; exact hg.size
  have he := Ext.put (o := o) hg' hp hb
  exact ⟨ev, [(tgt, o)], _, hk, rfl, rfl, he, RC.Inv.put hi hg' hp hb (hr he), hev⟩
theorem put_heap {w' : World} {o : HObj} {b : Option Nat} : (c.put w' tgt o b).heap[tgt]? = some o := set_eq hp
theorem put_blk {w' : World} {o : HObj} {b : Option Nat} : (c.put w' tgt o b).blk tgt = b := by show upd c.blk tgt b tgt = b; simp [upd]
theorem opAlloc_run {t : TypeId} (h : (opAlloc cx t tgt).wp k) : Runs P c (Instr.alloc t true (.tuple #[])) k := by
  unfold opAlloc at h
  split at h
  · rename_i td ht
    obtain ⟨i, z, h1, h2, h3, h4, h5, h6⟩ := (hT t td ht).info
    have run : (Instr.alloc t true (.tuple #[])).run P c.w = .ok (.pointer (some ⟨c.w.heap.size, 0, none⟩)) (c.w.alloc (.cells z.cells t)) := by
      simp [Instr.alloc, zeroValue, typeInfo, h1, h4, newVar, newRow]
    split at h
    · rename_i n e hk
      obtain ⟨k1, k2, k3⟩ := (hT t td ht).kind _ hk
      split at h
      case isFalse => exact h.elim
      rename_i hn
      refine ⟨_, _, run, new_done hT hi hp (Grows.refl _) (fun he => ?_) ?_ h⟩
      · obtain ⟨hl, hrows⟩ := k3 (c.w.alloc (.cells z.cells t)) (c.put (c.w.alloc (.cells z.cells t)) tgt (.row .rw t e (List.replicate n e.dflt)) (some c.w.heap.size)).ok
        refine ⟨?_, .inr ⟨_, _, z.cells.toList, [], put_blk hT hi hp, heap_alloc_new _ _, by simp, by rw [h5]; exact hrows⟩⟩
        simp [maxN]; omega
      · show SV.rel _ (.ref tgt 0) _
        simp only [SV.rel, put_heap hT hi hp]
        exact ⟨_, put_blk hT hi hp, rfl⟩
    · refine ⟨_, _, run, new_done hT hi hp (Grows.refl _) (fun he => ?_) ?_ h⟩
      · refine ⟨_, _, put_blk hT hi hp, heap_alloc_new _ _, ?_⟩
        rw [h5]
        exact All2.vals _ _
      · show SV.rel _ (.ref tgt 0) _
        simp only [SV.rel, put_heap hT hi hp]
        exact ⟨_, put_blk hT hi hp, rfl⟩
  · exact h.elim
theorem opBox_run {t : TypeId} {v : EV} {u : Value} (h : (opBox cx c.heap t v tgt).wp k) (r : v.rel c u) : Runs P c (Instr.box t u) k := by
  unfold opBox at h
  split at h
  · rename_i td xv ht
    have r' : xv.rel c u := r
    have run : (Instr.box t u).run P c.w = .ok (.pointer (some ⟨c.w.heap.size, 0, none⟩)) (c.w.alloc (.cells u.cells t)) := by
      simp [Instr.box, newVar, newRow]
    split at h
    · rename_i n e hk
      split at h
      · rename_i hq
        split at h
        · rename_i ys hys
          obtain ⟨hrep, _, _⟩ := take_cells hT hi hys r'
          obtain ⟨hl, hrows⟩ := hrep
          refine ⟨_, _, run, new_done hT hi hp (Grows.refl _) (fun he => ?_) ?_ h⟩
          · refine ⟨by rw [hl]; simp [maxN]; omega, .inr ⟨_, _, u.cells.toList, [], put_blk hT hi hp, heap_alloc_new _ _, by simp, Rows.mono (fun y cs hh => K.rep_flat e y cs hq.1 hh) hrows⟩⟩
          · show SV.rel _ (.ref tgt 0) _
            simp only [SV.rel, put_heap hT hi hp]
            exact ⟨_, put_blk hT hi hp, rfl⟩
        · exact h.elim
      · exact h.elim
    · split at h
      · rename_i us hus
        obtain ⟨hall, _⟩ := XV.cells_rel hus r'
        refine ⟨_, _, run, new_done hT hi hp (Grows.refl _) (fun he => ?_) ?_ h⟩
        · exact ⟨_, _, put_blk hT hi hp, heap_alloc_new _ _, hall.mono fun _ _ => SV.rel_mono he⟩
        · show SV.rel _ (.ref tgt 0) _
          simp only [SV.rel, put_heap hT hi hp]
          exact ⟨_, put_blk hT hi hp, rfl⟩
      · exact h.elim
  · exact h.elim
theorem opMakeSlice_run {t : TypeId} {l cp : EV} {ul uc : Value} (h : (opMakeSlice cx t l cp tgt).wp k) (rl : l.rel c ul) (rc : cp.rel c uc) : Runs P c (Instr.makeSlice t ul uc) k := by
  unfold opMakeSlice at h
  split at h
  · rename_i e sz by_ z0 kd n m ht
    have hl : ul = .int .i64 n := rl
    have hc : uc = .int .i64 m := rc
    subst hl hc
    have hf : P.underlying t = some (.slice e) := (hT t _ ht).k
    split at h
    · rename_i ed he
      obtain ⟨i, z, h1, h2, h3, h4, h5, h6⟩ := (hT e ed he).info
      split at h
      · rename_i ek hk
        obtain ⟨k1, k2, k3⟩ := (hT e ed he).kind ek hk
        split at h
        · rename_i hq
          obtain ⟨⟨h0, hnm, hb⟩, h⟩ := h
          have hm : m ≤ 281474976710656 := by
            have : m * 1 ≤ m * (ed.bytes : Int) := Int.mul_le_mul_of_nonneg_left (by omega) (by omega)
            omega
          have run := run_make (P := P) c.w t e i z hf h1 h4 .i64 .i64 n m h0 hnm (by rw [h3, Int.mul_comm]; exact hb) (by omega)
          have hz : z.cells.size = i.size := by rw [h6, h2]
          have hs : 0 < i.size := by omega
          refine ⟨_, _, run, new_done hT hi hp (Grows.refl _) (fun he => ?_) ?_ h⟩
          · refine ⟨?_, .inr ⟨_, _, (List.replicate n.toNat z.cells.toList).flatten, (List.replicate (m.toNat - n.toNat) z.cells.toList).flatten, put_blk hT hi hp, heap_alloc_new _ _, ?_, ?_⟩⟩
            · simp [maxN]; omega
            · rw [made_flat _ _ _ hz hs, ← List.flatten_append, List.replicate_append_replicate]
              congr 2; omega
            · exact Rows.replicate (by rw [h5]; exact k3 _ _) _
          · show SV.rel _ (.osl tgt 0 n.toNat) _
            simp only [SV.rel, put_heap hT hi hp]
            refine ⟨_, m.toNat, rfl, by omega, by simp, .inr ⟨_, _, put_blk hT hi hp, by simp, heap_alloc_new _ _, ?_⟩⟩
            rw [size_madeCells]
            simp only [Nat.zero_add]
            rw [k1, h2]; exact Nat.le_refl _
        · exact h.elim
      · exact h.elim
    · exact h.elim
  · exact h.elim
theorem takeAll_repT {hh : List HObj} {p : Nat → Prop} (T : Tak c hh p) {kd : K} : ∀ {vs : List EV} {us : List Value} {xs : List kd.T}, takeAll hh kd vs = some xs → All2 (EV.rel c) vs us →
    xs.length = us.length ∧ (∀ v ∈ us, v.cells.size = kd.sz) ∧ Rows (kd.rep c.w p) xs (us.flatMap fun v => v.cells.toList)
  | [], _, xs, h, ha => by
    cases ha
    obtain rfl := Option.some.inj h
    exact ⟨rfl, fun v hv => (by cases hv), rfl⟩
  | v :: vs, _, xs, h, ha => by
    cases ha with
    | cons h1 h2 =>
      cases v with
      | tup => cases h
      | x xv =>
        simp only [takeAll] at h
        split at h
        · rename_i y hy
          split at h
          · rename_i ys hys
            obtain rfl := Option.some.inj h
            obtain ⟨a1, a2, a3⟩ := take_cellsT hT hi T hy h1
            obtain ⟨b1, b2, b3⟩ := takeAll_repT T hys h2
            refine ⟨by simp [b1], fun v hv => ?_, ⟨_, _, by rw [List.flatMap_cons], a1, b3⟩⟩
            cases hv with
            | head => exact a3
            | tail _ hv => exact b2 v hv
          · cases h
        · cases h
theorem build_go {t e : TypeId} {n : Nat} {parts : Array (Nat × Value)} {vs : List EV} (r : All2 (EV.rel c) vs (parts.toList.map (·.2))) (hf : P.underlying t = some (.slice e)) {ed : TD} (he : cx.tab e = some ed)
    (q1 : parts.toList.map (·.1) = List.range n) (q2 : vs.length = n) (q3 : 1 ≤ ed.sz) (q4 : n * ed.sz ≤ 16777216) (a2 : ∀ v ∈ parts.toList.map (·.2), v.cells.size = ed.sz) :
    (Instr.buildSlice t n parts).run P c.w = .ok (.slice (some ⟨c.w.heap.size, 0, none⟩) n n) (c.w.alloc (.cells ((parts.toList.map (·.2)).flatMap fun v => v.cells.toList).toArray e)) := by
  obtain ⟨i, z, h1, h2, h3, h4, h5, h6⟩ := (hT e ed he).info
  have hvl := r.len
  have hsz : ed.sz = i.size := by omega
  have hpl : parts.toList = ((parts.toList.map (·.2)).zipIdx 0).map fun x => (x.2, x.1) := by
    apply List.ext_getElem?
    intro j
    simp only [List.getElem?_map, List.getElem?_zipIdx, Option.map_map]
    have hj := congrArg (fun l => l[j]?) q1
    simp only [List.getElem?_map] at hj
    cases hpj : parts.toList[j]? with
    | none => rfl
    | some x =>
      rw [hpj] at hj
      have hjn : j < n := by
        have : j < parts.toList.length := by
          rcases Nat.lt_or_ge j parts.toList.length with h' | h'
          · exact h'
          · rw [List.getElem?_eq_none h'] at hpj; cases hpj
        rw [List.length_map] at hvl
        omega
      rw [List.getElem?_range hjn] at hj
      simp only [Option.map_some, Option.some.injEq] at hj ⊢
      rw [Prod.ext_iff]
      simp [hj]
  have hcs : z.cells.size = i.size := by rw [h6, h2]
  have hpos : 0 < i.size := by omega
  have hlen : (parts.toList.map (·.2)).length = n := by rw [← hvl, q2]
  have hfill : ∀ cells : Array Value, cells.size = n * i.size → Instr.fill (fun j => some (j * i.size, i.size)) cells parts.toList = some ((parts.toList.map (·.2)).flatMap fun v => v.cells.toList).toArray := by
    intro cells hc
    conv => lhs; rw [hpl]
    exact Go.Great.fill_whole hpos _ cells (fun v hv => by rw [a2 v hv, hsz]) (by rw [hlen, hc])
  have hbig : ¬ (16777216 < n * i.size) := by rw [← h2] at q4; omega
  by_cases hz : n * i.size = 0
  · have := hfill #[] (by simp [hz])
    simp [Instr.buildSlice, run_underlying hf, sizeOf, typeInfo, h1, hbig, hz, Array.range_zero', this, newRow]
  · have := hfill ((Array.range (n * i.size)).map (z.cells[· % z.cells.size]!)) (by simp)
    simp [Instr.buildSlice, run_underlying hf, sizeOf, typeInfo, zeroValue, h1, h4, hbig, hz, this, newRow]
theorem build_core {t e : TypeId} {n : Nat} {parts : Array (Nat × Value)} {vs : List EV} (r : All2 (EV.rel c) vs (parts.toList.map (·.2))) (hf : P.underlying t = some (.slice e)) {ed : TD} (he : cx.tab e = some ed) {ek : K} (hk : ed.kind = some ek)
    (q1 : parts.toList.map (·.1) = List.range n) (q2 : vs.length = n) (q3 : 1 ≤ ed.sz) (q4 : n * ed.sz ≤ 16777216) {xs : List ek.T} (a1 : xs.length = (parts.toList.map (·.2)).length) (a2 : ∀ v ∈ parts.toList.map (·.2), v.cells.size = ek.sz)
    (a3 : Rows (ek.rep c.w c.ok) xs ((parts.toList.map (·.2)).flatMap fun v => v.cells.toList)) {sv : SV} (hsv : sv = .osl tgt 0 n ∨ sv = .osx tgt n) (h : k (.x (.one sv)) [(tgt, .row .rw e ek xs)]) : Runs P c (Instr.buildSlice t n parts) k := by
  obtain ⟨k1, k2, k3⟩ := (hT e ed he).kind ek hk
  have hvl := r.len
  have hlen : (parts.toList.map (·.2)).length = n := by rw [← hvl, q2]
  have run := build_go hT hi hp r hf he q1 q2 q3 q4 (fun v hv => (a2 v hv).trans k1)
  refine ⟨_, _, run, new_done hT hi hp (Grows.refl _) (fun he => ?_) ?_ h⟩
  · refine ⟨?_, .inr ⟨_, _, _, [], put_blk hT hi hp, heap_alloc_new _ _, by simp, Rows.mono (fun y cs hh => K.rep_mono he.ok ek y cs hh) a3⟩⟩
    have : n * 1 ≤ n * ed.sz := Nat.mul_le_mul_left _ q3
    rw [a1, hlen]; simp [maxN]; omega
  · suffices hh : SV.rel _ (.osl tgt 0 n) _ by
      rcases hsv with rfl | rfl
      · exact hh
      · exact ⟨hh, _, rfl⟩
    simp only [SV.rel, put_heap hT hi hp]
    refine ⟨_, n, rfl, Nat.le_refl _, by rw [a1, hlen]; omega, .inr ⟨_, _, put_blk hT hi hp, by simp, heap_alloc_new _ _, ?_⟩⟩
    have := Rows.len (fun y cs => K.rep_len ek y cs) a3
    simp only [List.size_toArray]
    rw [this, a1, hlen, Nat.zero_add]; exact Nat.le_refl _
theorem oneAll_rel : ∀ {vs : List EV} {us : List Value} {cs : List SV}, oneAll c.heap vs = some cs → All2 (EV.rel c) vs us → All2 (SV.rel c) cs us ∧ ∀ u ∈ us, u.oneCell' = true
  | [], _, cs, h, ha => by
    cases ha
    obtain rfl := Option.some.inj h
    exact ⟨.nil, fun u hu => by cases hu⟩
  | v :: vs, _, cs, h, ha => by
    cases ha with
    | cons h1 h2 =>
      cases v with
      | tup => cases h
      | x xv =>
        cases xv with
        | agg => cases h
        | dat => cases h
        | one s =>
          simp only [oneAll] at h
          split at h
          · rename_i ho
            split at h
            · rename_i cs' hc
              obtain rfl := Option.some.inj h
              obtain ⟨a1, a2⟩ := oneAll_rel hc h2
              refine ⟨.cons h1 a1, fun u hu => ?_⟩
              cases hu with
              | head => exact SV.isOne_rel ho h1
              | tail _ hu => exact a2 u hu
            · cases h
          · cases h
theorem build_box {t e : TypeId} {n : Nat} {parts : Array (Nat × Value)} {vs : List EV} (r : All2 (EV.rel c) vs (parts.toList.map (·.2))) (hf : P.underlying t = some (.slice e)) {ed : TD} (he : cx.tab e = some ed)
    (q1 : parts.toList.map (·.1) = List.range n) (q2 : vs.length = n) (q3 : ed.sz = 1) (q4 : n ≤ 65536) {cs : List SV} (ho : oneAll c.heap vs = some cs) (h : k (.x (.one (.bsl tgt n))) [(tgt, .box .rw e cs)]) : Runs P c (Instr.buildSlice t n parts) k := by
  obtain ⟨a1, a2⟩ := oneAll_rel hT hi hp ho r
  have hc : ∀ l : List Value, (∀ u ∈ l, u.oneCell' = true) → (l.flatMap fun v => v.cells.toList) = l := by
    intro l
    induction l with
    | nil => intro _; rfl
    | cons u l ih =>
      intro hl
      rw [List.flatMap_cons, ih fun v hv => hl v (List.mem_cons_of_mem _ hv), cells_of_one (hl u List.mem_cons_self)]; rfl
  have run := build_go hT hi hp r hf he q1 q2 (by omega) (by rw [q3]; omega) (fun v hv => by rw [cells_of_one (a2 v hv), q3]; rfl)
  rw [hc _ a2] at run
  refine ⟨_, _, run, new_done hT hi hp (Grows.refl _) (fun he => ?_) ?_ h⟩
  · exact ⟨_, _, put_blk hT hi hp, heap_alloc_new _ _, a1.mono fun _ _ => SV.rel_mono he⟩
  · show SV.rel _ (.bsl tgt n) _
    simp only [SV.rel, put_heap hT hi hp]
    exact ⟨by rw [a1.len, ← r.len, q2]; exact Nat.le_refl _, _, put_blk hT hi hp, rfl⟩
theorem opBuildSlice_run {t : TypeId} {n : Nat} {parts : Array (Nat × Value)} {vs : List EV} (h : (opBuildSlice cx c.heap t n (parts.toList.map (·.1)) vs tgt).wp k) (r : All2 (EV.rel c) vs (parts.toList.map (·.2))) :
    Runs P c (Instr.buildSlice t n parts) k := by
  unfold opBuildSlice at h
  split at h
  · rename_i e sz by_ z0 kd ht
    have hf : P.underlying t = some (.slice e) := (hT t _ ht).k
    split at h
    · rename_i ed he
      split at h
      · rename_i ek hk
        split at h
        · rename_i hq
          obtain ⟨q1, q2, q3, q4⟩ := hq
          split at h
          · rename_i hfl
            split at h
            · rename_i xs hxs
              obtain ⟨a1, a2, a3⟩ := takeAll_repT hT hi hp (Tak.all c) hxs r
              exact build_core hT hi hp r hf he hk q1 q2 q3 q4 a1 a2 (Rows.mono (fun y cs hh => K.rep_flat ek y cs hfl hh) a3) (osv_cases _ _ _) h
            · exact h.elim
          · split at h
            · rename_i xs hxs
              have hu := fze_ok (h := c.heap) vs
              obtain ⟨E, I⟩ := Frz.ext hi (hu.frz (Frz.refl _))
              have hp' : (applyU c.heap (fze c.heap vs))[tgt]? = some .pend := by
                rw [applyU_ne _ _ _ fun u hu' e => ?_]
                · exact hp
                · obtain ⟨t', e', xs', g, _⟩ := hu u hu'
                  rw [e, hp] at g; cases g
              have r' := r.mono fun _ _ q => EV.rel_mono E q
              obtain ⟨a1, a2, a3⟩ := takeAll_repT hT I hp' (Tak.frozen I) hxs r'
              exact Runs.frozen hi hu (build_core hT I hp' r' hf he hk q1 q2 q3 q4 a1 a2 a3 (.inl rfl) h)
            · exact h.elim
        · exact h.elim
      · split at h
        · rename_i hq
          obtain ⟨q1, q2, q3, q4⟩ := hq
          split at h
          · rename_i cs hcs
            exact build_box hT hi hp r hf he q1 q2 q3 q4 hcs h
          · exact h.elim
        · exact h.elim
    · exact h.elim
  · exact h.elim
end
structure Src (P : Program) (w : World) (t tu ty e : TypeId) (i : TypeInfo) (z : Value) (uy : Value) (n : Nat) (news : List Value) : Prop where
  zero : n = 0 → ∀ (A : Option Addr) (m cap : Nat), m ≤ cap → (Builtin.append_ #[t, tu] ty #[.slice A m cap, uy]).run P w = .ok (.slice A m cap) w
  nil : 0 < n → (n : Int) ≤ 9223372036854775807 → n * i.bytes ≤ 281474976710656 → (Builtin.append_ #[t, tu] ty #[.slice none 0 0, uy]).run P w =
    .ok (.slice (some ⟨w.heap.size, 0, none⟩) n (grownCap w n 0 e)) (w.drew.alloc (.cells (news.toArray ++ Builtin.zeroCells z.cells (grownCap w n 0 e - n)) e))
  grow : 0 < n → ∀ (b : Addr) (sLen sCap : Nat) (olds : List Value), olds.length = sLen * i.size → (∀ j v, olds[j]? = some v → w.cell? (b.add j) = some v) → sCap < sLen + n → ((sLen + n : Nat) : Int) ≤ 9223372036854775807 →
    Builtin.nextslicecap (sLen + n) sCap * i.bytes ≤ 281474976710656 → (Builtin.append_ #[t, tu] ty #[.slice (some b) sLen sCap, uy]).run P w =
      .ok (.slice (some ⟨w.heap.size, 0, none⟩) (sLen + n) (grownCap w (sLen + n) sCap e)) (w.drew.alloc (.cells (olds.toArray ++ news.toArray ++ Builtin.zeroCells z.cells (grownCap w (sLen + n) sCap e - (sLen + n))) e))
  room : 0 < n → ∀ (g sLen sCap : Nat) (cur : Array Value), w.heap[g]? = some (.cells cur e (0, 0)) → sLen + n ≤ sCap → sLen * i.size + news.length ≤ cur.size → (Builtin.append_ #[t, tu] ty #[.slice (some ⟨g, 0, none⟩) sLen sCap, uy]).run P w =
      .ok (.slice (some ⟨g, 0, none⟩) (sLen + n) sCap) (w.setRow g (cur.toList.take (sLen * i.size) ++ news ++ cur.toList.drop (sLen * i.size + news.length)).toArray)
structure Moved (w w' : World) (b : Nat) : Prop where
  size : w.heap.size ≤ w'.heap.size
  os : w'.os = w.os
  tape : w'.tape = w.tape
  output : w'.output = w.output
  others : ∀ (i : Nat), i < w.heap.size → i ≠ b → w'.heap[i]? = w.heap[i]?
  same : ∀ (vs : Array Value) (t : TypeId) (z : Nat × Nat), w.heap[b]? = some (.cells vs t z) → ∃ vs' : Array Value, w'.heap[b]? = some (.cells vs' t z) ∧ vs'.size = vs.size
section
variable {c : RC} {w' : World} {id tgt b : Nat} {o o' : HObj} {ob : Option Nat}
def RC.move (c : RC) (w' : World) (id tgt : Nat) (o' : HObj) (ob : Option Nat) : RC := { c with w := w', heap := (c.heap.set id .dead).set tgt o', blk := upd c.blk tgt ob }
theorem move_get (hne : id ≠ tgt) {i : Nat} {x : HObj} (h : (c.move w' id tgt o' ob).heap[i]? = some x) : (i = tgt ∧ x = o') ∨ (i = id ∧ x = .dead) ∨ (i ≠ tgt ∧ i ≠ id ∧ c.heap[i]? = some x) := by
  rcases set_get h with ⟨rfl, rfl, _⟩ | ⟨h1, h2⟩
  · exact .inl ⟨rfl, rfl⟩
  · rcases set_get h2 with ⟨rfl, rfl, _⟩ | ⟨h3, h4⟩
    · exact .inr (.inl ⟨rfl, rfl⟩)
    · exact .inr (.inr ⟨Ne.symm h1, Ne.symm h3, h4⟩)
theorem Ext.move (hne : id ≠ tgt) (ho : c.heap[id]? = some o) (hm : o.md? = some .rw) (hb : c.blk id = some b) (hp : c.heap[tgt]? = some .pend) (hw : Moved c.w w' b)
    (hob : ∀ b', ob = some b' → b' = b ∨ c.w.heap.size ≤ b') : Ext c (c.move w' id tgt o' ob) where
  base := rfl
  size := hw.size
  os := hw.os
  tape := hw.tape
  output := hw.output
  keep i hi hn := hw.others i hi fun e => hn (e ▸ ⟨id, o, ho, hm, hb⟩)
  cells i vs t z h := by
    by_cases e : i = b
    · subst e
      obtain ⟨vs', g1, g2⟩ := hw.same vs t z h
      exact ⟨vs', z, g1, g2, .inl rfl⟩
    · exact ⟨vs, z, (hw.others i (lt_of_some h) e).trans h, rfl, .inl rfl⟩
  blk i oi hoi hne' := by
    show upd c.blk tgt ob i = _
    unfold upd
    split
    · rename_i e; subst e; rw [hp] at hoi; cases hoi; exact absurd rfl hne'
    · rfl
  ev i oi hoi := by
    by_cases e1 : tgt = i
    · subst e1; rw [hp] at hoi; cases hoi
      exact ⟨o', set_eq ((set_ne hne).trans hp), trivial⟩
    · by_cases e2 : id = i
      · subst e2
        refine ⟨.dead, (set_ne e1).trans (set_eq ho), ?_⟩
        rw [ho] at hoi; cases hoi
        cases o with
        | pend => trivial
        | dead => rfl
        | box => exact .inl rfl
        | row => exact .inl rfl
        | mp => exact .inl rfl
      · exact ⟨oi, (set_ne e1).trans ((set_ne e2).trans hoi), oi.ev_refl⟩
  fresh i oi bi hoi hl hn hbi hlt := by
    rcases move_get hne hoi with ⟨rfl, rfl⟩ | ⟨rfl, rfl⟩ | ⟨h1, h2, h3⟩
    · have : upd c.blk i ob i = ob := by simp [upd]
      rcases hob bi (this.symm.trans hbi) with rfl | h
      · exact ⟨id, o, ho, hm, hb⟩
      · exact absurd hlt (Nat.not_lt.2 h)
    · simp [HObj.live, HObj.md?] at hl
    · exact absurd hl (hn oi h3)
theorem RC.Inv.move (hi : c.Inv) (hne : id ≠ tgt) (ho : c.heap[id]? = some o) (hm : o.md? = some .rw) (hb : c.blk id = some b) (hp : c.heap[tgt]? = some .pend) (hw : Moved c.w w' b)
    (hob : ∀ b', ob = some b' → b' = b ∨ c.w.heap.size ≤ b') (hr : o'.rel (c.move w' id tgt o' ob) tgt) : (c.move w' id tgt o' ob).Inv where
  objs i oi hoi := by
    rcases move_get hne hoi with ⟨rfl, rfl⟩ | ⟨rfl, rfl⟩ | ⟨h1, h2, h3⟩
    · exact hr
    · trivial
    · refine HObj.rel_mono (Ext.move hne ho hm hb hp hw hob) h3 (fun bi hbi hl => hw.others bi (HObj.blk_lt (hi.objs i oi h3) hl hbi) fun e => ?_) (hi.objs i oi h3)
      subst e
      exact h2 (hi.inj i id oi o bi h3 hl ho (HObj.live_of_md hm) hbi hb)
  inj i j oi oj bi hoi hli hoj hlj hbi hbj := by
    have et : upd c.blk tgt ob tgt = ob := by simp [upd]
    have eo : ∀ i, i ≠ tgt → upd c.blk tgt ob i = c.blk i := fun i h => by simp [upd, h]
    have hlt : b < c.w.heap.size := HObj.blk_lt (hi.objs id o ho) (HObj.live_of_md hm) hb
    have key : ∀ (j : Nat) (oj : HObj), j ≠ tgt → j ≠ id → c.heap[j]? = some oj → oj.live → ob = some bi → c.blk j = some bi → False := by
      intro j oj h1 h2 h3 hl e1 e2
      rcases hob bi e1 with rfl | h
      · exact h2 (hi.inj j id oj o bi h3 hl ho (HObj.live_of_md hm) e2 hb)
      · exact absurd (HObj.blk_lt (hi.objs j oj h3) hl e2) (Nat.not_lt.2 h)
    rcases move_get hne hoi with ⟨rfl, rfl⟩ | ⟨rfl, rfl⟩ | ⟨h1, h2, h3⟩ <;> rcases move_get hne hoj with ⟨rfl, rfl⟩ | ⟨rfl, rfl⟩ | ⟨k1, k2, k3⟩
    · rfl
    · simp [HObj.live, HObj.md?] at hlj
    · exact (key j oj k1 k2 k3 hlj (et.symm.trans hbi) ((eo j k1).symm.trans hbj)).elim
    · simp [HObj.live, HObj.md?] at hli
    · rfl
    · simp [HObj.live, HObj.md?] at hli
    · exact (key i oi h1 h2 h3 hli (et.symm.trans hbj) ((eo i h1).symm.trans hbi)).elim
    · simp [HObj.live, HObj.md?] at hlj
    · exact hi.inj i j oi oj bi h3 hli k3 hlj ((eo i h1).symm.trans hbi) ((eo j k1).symm.trans hbj)
  base i oi bi hoi hl hbi := by
    have et : upd c.blk tgt ob tgt = ob := by simp [upd]
    rcases move_get hne hoi with ⟨rfl, rfl⟩ | ⟨rfl, rfl⟩ | ⟨h1, h2, h3⟩
    · rcases hob bi (et.symm.trans hbi) with rfl | h
      · exact hi.base id o bi ho (HObj.live_of_md hm) hb
      · exact Nat.le_trans hi.basele h
    · simp [HObj.live, HObj.md?] at hl
    · have : upd c.blk tgt ob i = c.blk i := by simp [upd, h1]
      exact hi.base i oi bi h3 hl (this.symm.trans hbi)
  basele := Nat.le_trans hi.basele hw.size
end
def RC.kill (c : RC) (id : Nat) : RC := { c with heap := c.heap.set id .dead }
theorem Ext.kill {c : RC} {id : Nat} {o : HObj} (ho : c.heap[id]? = some o) : Ext c (c.kill id) where
  base := rfl
  size := Nat.le_refl _
  os := rfl
  tape := rfl
  output := rfl
  keep _ _ _ := rfl
  cells _ vs _ z h := ⟨vs, z, h, rfl, .inl rfl⟩
  blk _ _ _ _ := rfl
  ev i oi hoi := by
    by_cases e2 : id = i
    · subst e2
      refine ⟨.dead, set_eq ho, ?_⟩
      rw [ho] at hoi; cases hoi
      cases o with
      | pend => trivial
      | dead => rfl
      | box => exact .inl rfl
      | row => exact .inl rfl
      | mp => exact .inl rfl
    · exact ⟨oi, (set_ne e2).trans hoi, oi.ev_refl⟩
  fresh i oi bi hoi hl hn hbi hlt := by
    rcases set_get hoi with ⟨rfl, rfl, _⟩ | ⟨_, h⟩
    · simp [HObj.live, HObj.md?] at hl
    · exact absurd hl (hn oi h)
theorem RC.Inv.kill {c : RC} (hi : c.Inv) {id : Nat} {o : HObj} (ho : c.heap[id]? = some o) : (c.kill id).Inv where
  objs i oi hoi := by
    rcases set_get hoi with ⟨rfl, rfl, _⟩ | ⟨_, h⟩
    · trivial
    · exact HObj.rel_mono (Ext.kill ho) h (fun _ _ _ => rfl) (hi.objs i oi h)
  inj i j oi oj bi hoi hli hoj hlj hbi hbj := by
    rcases set_get hoi with ⟨rfl, rfl, _⟩ | ⟨_, h⟩
    · simp [HObj.live, HObj.md?] at hli
    · rcases set_get hoj with ⟨rfl, rfl, _⟩ | ⟨_, h'⟩
      · simp [HObj.live, HObj.md?] at hlj
      · exact hi.inj i j oi oj bi h hli h' hlj hbi hbj
  base i oi bi hoi hl hbi := by
    rcases set_get hoi with ⟨rfl, rfl, _⟩ | ⟨_, h⟩
    · simp [HObj.live, HObj.md?] at hl
    · exact hi.base i oi bi h hl hbi
  basele := hi.basele
section
variable {P : Program} {cx : Cx} (hT : ∀ t d, cx.tab t = some d → d.Fits P t) {c : RC} (hi : c.Inv) {k : EV → List (Nat × HObj) → Prop} {tgt : Nat} (hp : c.heap[tgt]? = some .pend)
include hT
theorem run_append_zero (w : World) {t ty e : TypeId} (hf : P.underlying t = some (.slice e)) {ed : TD} (he : cx.tab e = some ed) (A B : Option Addr) (n cap cap2 : Nat) (hn : n ≤ cap) :
    (Builtin.append_ #[t, t] ty #[.slice A n cap, .slice B 0 cap2]).run P w = .ok (.slice A n cap) w := by
  have hs := run_sizeOf hT (c := ⟨w, [], fun _ => none, 0, fun _ => True⟩) ⟨by simp, by simp, by simp, Nat.zero_le _⟩ he w
  have hfc : ∀ B, (Builtin.firstCells ed.sz 0 (.slice B 0 cap2)).run P w = .ok #[] w := by
    intro B; cases B <;> simp [Builtin.firstCells, loadCells, loadCellsFrom]
  cases A with
  | none => simp [Builtin.append_, run_underlying hf, hs, Builtin.lenOf, hn, hfc]
  | some a => simp [Builtin.append_, run_underlying hf, hs, Builtin.lenOf, hn, hfc, storeCells]
include hi
theorem src_cells {yv : XV} {ek : K} {ys : List ek.T} {u : Value} (h : yv.take c.heap (.slice ek) = some ys) (r : yv.rel c u) :
    ∃ A cap news, u = .slice A ys.length cap ∧ ys.length ≤ maxN ∧ Rows (ek.rep c.w c.ok) ys news ∧ (ys = [] ∨ ∃ b off, A = some ⟨b, off, none⟩ ∧ At c.w b off news) := by
  cases yv with
  | agg cs => simp [XV.take, K.agg] at h
  | dat k x =>
    simp only [XV.take] at h
    split at h
    · rename_i q; subst q; simp [K.agg] at h
    · cases h
  | one s =>
    simp only [XV.take, K.agg, Bool.false_eq_true, if_false] at h
    cases s with
    | val v =>
      have hu : u = v := r
      subst hu
      simp only [SV.take] at h
      split at h
      · rename_i hn
        obtain rfl := Option.some.inj h
        exact ⟨none, 0, [], isNilS_eq hn, by simp [maxN], rfl, .inl rfl⟩
      · cases h
    | void =>
      simp only [SV.take] at h
      obtain rfl := Option.some.inj h
      obtain ⟨A, rfl⟩ := r
      exact ⟨A, 0, [], rfl, by simp [maxN], rfl, .inl rfl⟩
    | data k' y =>
      simp only [SV.take] at h
      split at h
      · rename_i q; subst q; obtain rfl := Option.some.inj h
        obtain ⟨A, cap, e1, h1, h2, h3⟩ := r
        rcases h3 with rfl | ⟨b, off, vs, rfl, _, hr, hat⟩
        · exact ⟨A, cap, [], (List.cons.inj e1).1, h2, rfl, .inl rfl⟩
        · exact ⟨_, cap, vs, (List.cons.inj e1).1, h2, hr, .inr ⟨b, off, rfl, hat⟩⟩
      · cases h
    | full k' y =>
      simp only [SV.take] at h
      split at h
      · rename_i q; cases q; obtain rfl := Option.some.inj h
        obtain ⟨⟨A, cap, e1, h1, h2, h3⟩, _⟩ := r
        rcases h3 with rfl | ⟨b, off, vs, rfl, _, hr, hat⟩
        · exact ⟨A, cap, [], (List.cons.inj e1).1, h2, rfl, .inl rfl⟩
        · exact ⟨_, cap, vs, (List.cons.inj e1).1, h2, hr, .inr ⟨b, off, rfl, hat⟩⟩
      · cases h
    | osl id off len =>
      simp only [SV.take] at h
      have hr : SV.rel c (.osl id off len) u := r
      simp only [SV.rel] at hr
      cases ho : c.heap[id]? with
      | none => rw [ho] at h; simp at h
      | some o =>
        rw [ho] at h hr
        cases o with
        | pend => simp at h
        | dead => simp at h
        | box _ _ _ => simp at h
        | mp _ _ _ _ => simp at h
        | row m t e' xs =>
          simp only at h hr
          split at h
          · rename_i q; subst q; obtain rfl := Option.some.inj h
            obtain ⟨A, cap, rfl, hc, hl, hr⟩ := hr
            obtain ⟨hmax, ho2⟩ := hi.objs id _ ho
            have hlen : ((xs.drop off).take len).length = len := by rw [List.length_take, List.length_drop]; omega
            rcases ho2 with ⟨hbn, hx0⟩ | ⟨b', vs', fr, re, hb', hv', hvs, hrows⟩
            · subst hx0
              simp only [List.length_nil] at hl
              have : len = 0 := by omega
              subst this
              exact ⟨A, cap, [], rfl, by simp [maxN], by simp [Rows], .inl (by simp)⟩
            · rcases hr with hr | ⟨b, vs, hb, ha, hv, hsz⟩
              · have : len = 0 := by omega
                subst this
                exact ⟨A, cap, [], rfl, by simp [maxN], by simp [Rows], .inl (by simp)⟩
              · rw [hb] at hb'; cases hb'
                rw [hv] at hv'; cases hv'
                refine ⟨A, cap, (fr.drop (off * e'.sz)).take (len * e'.sz), by rw [hlen], by rw [hlen]; omega, ?_, .inr ⟨_, off * e'.sz, ha, ?_⟩⟩
                · exact Rows.take (fun y cs => K.rep_len e' y cs) len (Rows.drop (fun y cs => K.rep_len e' y cs) off hrows)
                · intro j v hj
                  have h1 : (fr.drop (off * e'.sz))[j]? = some v := by
                    rw [List.getElem?_take] at hj
                    split at hj
                    · exact hj
                    · cases hj
                  rw [List.getElem?_drop] at h1
                  simp only [World.cell?, hv]
                  have h2 : vs'.toList[off * e'.sz + j]? = some v := by
                    rw [hvs, List.getElem?_append_left]
                    · exact h1
                    · rcases Nat.lt_or_ge (off * e'.sz + j) fr.length with h' | h'
                      · exact h'
                      · rw [List.getElem?_eq_none h'] at h1; cases h1
                  simpa using h2
          · cases h
    | _ => simp [SV.take] at h
theorem isVoid_rel {x : EV} {u : Value} (h : isVoid x = true) (r : x.rel c u) : ∃ A, u = .slice A 0 0 := by
  unfold isVoid at h
  split at h
  · exact r
  · rename_i v
    have : u = v := r
    subst this
    exact ⟨none, isNilS_eq h⟩
  · cases h
include hp
theorem append_nothing {t tu ty e : TypeId} {uy : Value} {ed : TD} (hsz1 : 1 ≤ ed.sz) (hby1 : 1 ≤ ed.bytes) {i : TypeInfo} {z : Value} (h2 : i.size = ed.sz) (h3 : i.bytes = ed.bytes) (h6 : z.cells.size = ed.sz) {ek : K} (hsz : ed.sz = ek.sz)
    {ys : List ek.T} {news : List Value} (S : Src P c.w t tu ty e i z uy ys.length news) (hmx : ys.length ≤ maxN) (hrows : Rows (ek.rep c.w c.ok) ys news) {A : Option Addr} (hb : ys.length * ed.bytes ≤ 140737488355328)
    (h : k (.x (.one (.osl tgt 0 ys.length))) [(tgt, .row .rw e ek ys)]) : Runs P c (Builtin.append_ #[t, tu] ty #[.slice A 0 0, uy]) k := by
  by_cases hz : ys = []
  · have run := S.zero (by rw [hz]; rfl) A 0 0 (Nat.le_refl _)
    have hpt := Ext.put (w' := c.w) (o := .row .rw e ek ys) (ob := none) (Grows.refl c.w) hp (fun b e => by cases e)
    refine ⟨_, _, run, _, _, c.put c.w tgt (.row .rw e ek ys) none, h, rfl, rfl, hpt, RC.Inv.put hi (Grows.refl c.w) hp (fun b e => by cases e) ⟨by rw [hz]; simp [maxN], .inl ⟨by show upd c.blk tgt none tgt = none; simp [upd], hz⟩⟩, ?_⟩
    show SV.rel _ (.osl tgt 0 _) _
    have : (c.put c.w tgt (.row .rw e ek ys) none).heap[tgt]? = some (.row .rw e ek ys) := set_eq hp
    simp only [SV.rel, this]
    exact ⟨A, 0, by rw [hz]; rfl, by rw [hz]; exact Nat.le_refl _, by simp, .inl rfl⟩
  · have hpos : 0 < ys.length := List.length_pos_iff.2 hz
    have hnl : news.length = ys.length * i.size := by rw [Rows.len (fun y cs => K.rep_len ek y cs) hrows, h2, hsz]
    have hb' : ys.length * i.bytes ≤ 140737488355328 := by rw [h3]; exact hb
    have hle : ys.length ≤ ys.length * ed.bytes := Nat.le_mul_of_pos_right _ (by omega)
    have fin : ∀ cp, (Builtin.append_ #[t, tu] ty #[.slice A 0 0, uy]).run P c.w =
        .ok (.slice (some ⟨c.w.heap.size, 0, none⟩) ys.length cp) (c.w.drew.alloc (.cells (news.toArray ++ Builtin.zeroCells z.cells (cp - ys.length)) e)) → ys.length ≤ cp →
        Runs P c (Builtin.append_ #[t, tu] ty #[.slice A 0 0, uy]) k := by
      intro cp run hcp
      refine ⟨_, _, run, new_done hT hi hp (w0 := c.w.drew) (Grows.drew _) (fun hext => ?_) ?_ h⟩
      · exact ⟨hmx, .inr ⟨_, _, news, (Builtin.zeroCells z.cells (cp - ys.length)).toList, put_blk hT hi hp, heap_alloc_new c.w.drew _, by simp, Rows.mono (fun y cs hh => K.rep_mono hext.ok ek y cs hh) hrows⟩⟩
      · show SV.rel _ (.osl tgt 0 _) _
        simp only [SV.rel, put_heap hT hi hp]
        refine ⟨_, cp, rfl, hcp, by simp, .inr ⟨_, _, put_blk hT hi hp, by simp, heap_alloc_new c.w.drew _, ?_⟩⟩
        simp only [Array.size_append, List.size_toArray, size_zeroCells, hnl, h6, Nat.zero_add, ← hsz, ← h2, ← Nat.add_mul]
        have : ys.length + (cp - ys.length) = cp := by omega
        rw [this]; exact Nat.le_refl _
    cases A with
    | none => exact fin _ (S.nil hpos (by omega) (by omega)) (grownCap_ge _ _ _ _)
    | some a =>
      have run := S.grow hpos a 0 0 [] (by simp) (by simp) (by omega) (by omega) (growslice_fits (by omega) (by simpa using hb'))
      simp only [Nat.zero_add, Array.empty_append] at run
      exact fin _ run (grownCap_ge _ _ _ _)
theorem append_row {t tu ty rty : TypeId} {uy : Value} {ed : TD} (hsz1 : 1 ≤ ed.sz) (hby1 : 1 ≤ ed.bytes) {i : TypeInfo} {z : Value} (h2 : i.size = ed.sz) (h3 : i.bytes = ed.bytes) (h6 : z.cells.size = ed.sz) {ek : K} (hsz : ed.sz = ek.sz)
    {ys : List ek.T} {news : List Value} (S : Src P c.w t tu ty rty i z uy ys.length news) (hmx : ys.length ≤ maxN) (hrows : Rows (ek.rep c.w c.ok) ys news) {u : Value} {id : Nat} {xs : List ek.T} (rx : EV.rel c (.x (.one (.osl id 0 xs.length))) u) (ho : c.heap[id]? = some (.row .rw rty ek xs)) (hne : id ≠ tgt) (hb : (xs.length + ys.length) * ed.bytes ≤ 140737488355328)
    (h : k (.x (.one (.osl tgt 0 (xs.length + ys.length)))) [(id, .dead), (tgt, .row .rw rty ek (xs ++ ys))]) : Runs P c (Builtin.append_ #[t, tu] ty #[u, uy]) k := by
  obtain ⟨A, cp, rfl, hc, hl, hcase⟩ := osl_row (s := .junk) hT hi ho rx
  have hnl : news.length = ys.length * i.size := by rw [Rows.len (fun y cs => K.rep_len ek y cs) hrows, h2, hsz]
  have hb' : (xs.length + ys.length) * i.bytes ≤ 140737488355328 := by rw [h3]; exact hb
  have hle : xs.length + ys.length ≤ (xs.length + ys.length) * rty.succ * 0 + (xs.length + ys.length) * ed.bytes := by
    have := Nat.le_mul_of_pos_right (xs.length + ys.length) (show 0 < ed.bytes by omega)
    omega
  have hsum : xs.length + ys.length ≤ 140737488355328 := by
    have := Nat.le_mul_of_pos_right (xs.length + ys.length) (show 0 < ed.bytes by omega)
    omega
  have fin : ∀ (b0 : Nat) (w' : World) (ob : Option Nat) (v' : Value), c.blk id = some b0 → (Builtin.append_ #[t, tu] ty #[.slice A xs.length cp, uy]).run P c.w = .ok v' w' → Moved c.w w' b0 →
      (∀ b', ob = some b' → b' = b0 ∨ c.w.heap.size ≤ b') →
      (∃ b1 vs front rest, ob = some b1 ∧ w'.heap[b1]? = some (.cells vs rty (0, 0)) ∧ vs.toList = front ++ rest ∧ Rows (ek.rep c.w c.ok) (xs ++ ys) front ∧
        ∃ cp', v' = .slice (some ⟨b1, 0, none⟩) (xs.length + ys.length) cp' ∧ xs.length + ys.length ≤ cp' ∧ cp' * ek.sz ≤ vs.size) →
      Runs P c (Builtin.append_ #[t, tu] ty #[.slice A xs.length cp, uy]) k := by
    intro b0 w' ob v' hb0 run hw hob hx
    obtain ⟨b1, vs, front, rest, rfl, hv, hvs, hrow, cp', rfl, hcp, hcs⟩ := hx
    refine ⟨_, _, run, _, _, c.move w' id tgt _ (some b1), h, rfl, rfl, Ext.move hne ho rfl hb0 hp hw hob, RC.Inv.move hi hne ho rfl hb0 hp hw hob ?_, ?_⟩
    · refine ⟨?_, .inr ⟨b1, vs, front, rest, ?_, hv, hvs, Rows.mono (fun y cs hh => K.rep_mono (Ext.move (o' := .row .rw rty ek (xs ++ ys)) hne ho rfl hb0 hp hw hob).ok ek y cs hh) hrow⟩⟩
      · rw [List.length_append]; simp only [maxN]; omega
      · show upd c.blk tgt (some b1) tgt = _; simp [upd]
    · show SV.rel _ (.osl tgt 0 (xs.length + ys.length)) _
      have hg : (c.move w' id tgt (.row .rw rty ek (xs ++ ys)) (some b1)).heap[tgt]? = some (.row .rw rty ek (xs ++ ys)) := set_eq ((set_ne hne).trans hp)
      simp only [SV.rel, hg]
      refine ⟨_, cp', rfl, hcp, by rw [List.length_append]; omega, .inr ⟨b1, vs, ?_, by simp, hv, by simpa using hcs⟩⟩
      show upd c.blk tgt (some b1) tgt = _; simp [upd]
  have own : ∀ b0, c.blk id = some b0 → ∃ vs f re, c.w.heap[b0]? = some (.cells vs rty (0, 0)) ∧ vs.toList = f ++ re ∧ Rows (ek.rep c.w c.ok) xs f ∧ f.length = xs.length * i.size ∧
      (∀ j v, f[j]? = some v → c.w.cell? ((⟨b0, 0, none⟩ : Addr).add j) = some v) := by
    intro b0 hb0
    obtain ⟨_, vs, f, re, g1, g2, g3⟩ := row_obj hT hi ho hb0
    refine ⟨vs, f, re, g1, g2, g3, by rw [Rows.len (fun y cs => K.rep_len ek y cs) g3, h2, hsz], fun j v hj => ?_⟩
    rw [Addr.add_none]
    simp only [World.cell?, g1, Option.isSome_none, Nat.zero_add]
    have : vs.toList[j]? = some v := by
      rw [g2, List.getElem?_append_left]
      · exact hj
      · rcases Nat.lt_or_ge j f.length with h' | h'
        · exact h'
        · rw [List.getElem?_eq_none h'] at hj; cases hj
    simpa using this
  have moved_new : ∀ b0 o, b0 < c.w.heap.size → Moved c.w (c.w.drew.alloc o) b0 := by
    intro b0 o hlt
    have hg := (Grows.drew c.w).trans (Grows.alloc c.w.drew o)
    exact ⟨hg.size, rfl, rfl, rfl, fun i hi _ => hg.keep i hi, fun vs t z hv => ⟨vs, (hg.keep b0 hlt).trans hv, rfl⟩⟩
  have moved_refl : ∀ b0, Moved c.w c.w b0 := fun b0 => ⟨Nat.le_refl _, rfl, rfl, rfl, fun _ _ _ => rfl, fun vs t z hv => ⟨vs, hv, rfl⟩⟩
  rcases (hi.objs id _ ho).2 with ⟨hbn, hx0⟩ | ⟨b0, _, _, _, hb0, _⟩
  ·
    subst hx0
    have hcp : cp = 0 := by
      rcases hcase with h | ⟨b, vs, hb, _⟩
      · exact h
      · rw [hbn] at hb; cases hb
    subst hcp
    have hpk : (c.kill id).heap[tgt]? = some .pend := (set_ne hne).trans hp
    have hik := hi.kill ho
    have fin2 : ∀ (w' : World) (ob : Option Nat) (v' : Value), (Builtin.append_ #[t, tu] ty #[.slice A 0 0, uy]).run P c.w = .ok v' w' → Grows c.w w' → (∀ b, ob = some b → c.w.heap.size ≤ b) →
        ((ob = none ∧ ys = [] ∧ ∃ A', v' = .slice A' 0 0) ∨ ∃ b1 vs front rest, ob = some b1 ∧ w'.heap[b1]? = some (.cells vs rty (0, 0)) ∧ vs.toList = front ++ rest ∧ Rows (ek.rep c.w c.ok) ys front ∧
          ∃ cp', v' = .slice (some ⟨b1, 0, none⟩) ys.length cp' ∧ ys.length ≤ cp' ∧ cp' * ek.sz ≤ vs.size) →
        Runs P c (Builtin.append_ #[t, tu] ty #[.slice A 0 0, uy]) k := by
      intro w' ob v' run hg hob hx
      have he2 := Ext.put (c := c.kill id) (o := .row .rw rty ek ([] ++ ys)) (ob := ob) hg hpk hob
      have hget : ((c.kill id).put w' tgt (.row .rw rty ek ([] ++ ys)) ob).heap[tgt]? = some (.row .rw rty ek ([] ++ ys)) := set_eq hpk
      have hbk : ((c.kill id).put w' tgt (.row .rw rty ek ([] ++ ys)) ob).blk tgt = ob := by show upd c.blk tgt ob tgt = _; simp [upd]
      refine ⟨_, _, run, _, _, (c.kill id).put w' tgt _ ob, h, rfl, rfl, (Ext.kill ho).trans he2, RC.Inv.put hik hg hpk hob ⟨by simp [maxN] at hmx ⊢; omega, ?_⟩, ?_⟩
      · rcases hx with ⟨rfl, rfl, _⟩ | ⟨b1, vs, front, rest, rfl, hv, hvs, hrow, _⟩
        · exact .inl ⟨hbk, rfl⟩
        · exact .inr ⟨b1, vs, front, rest, hbk, hv, hvs, Rows.mono (fun y cs hh => K.rep_mono ((Ext.kill ho).trans he2).ok ek y cs hh) hrow⟩
      · show SV.rel _ (.osl tgt 0 _) _
        simp only [SV.rel, hget]
        rcases hx with ⟨rfl, rfl, A', rfl⟩ | ⟨b1, vs, front, rest, rfl, hv, hvs, hrow, cp', rfl, h5, h6⟩
        · exact ⟨A', 0, rfl, Nat.le_refl _, by simp, .inl rfl⟩
        · exact ⟨some ⟨b1, 0, none⟩, cp', by simp, by simpa using h5, by simp, .inr ⟨b1, vs, hbk, by simp, hv, by simpa using h6⟩⟩
    by_cases hz : ys = []
    · exact fin2 _ none _ (S.zero (by rw [hz]; rfl) A 0 0 (Nat.le_refl _) |> fun q => by subst hz; exact q) (Grows.refl _) (fun b e => by cases e) (.inl ⟨rfl, hz, A, by subst hz; rfl⟩)
    · have hpos : 0 < ys.length := List.length_pos_iff.2 hz
      have hy' : ys.length * i.bytes ≤ 140737488355328 := by simpa using hb'
      have hyl : ys.length ≤ 140737488355328 := by simpa using hsum
      have go : ∀ cp', (Builtin.append_ #[t, tu] ty #[.slice A 0 0, uy]).run P c.w =
          .ok (.slice (some ⟨c.w.heap.size, 0, none⟩) ys.length cp') (c.w.drew.alloc (.cells (news.toArray ++ Builtin.zeroCells z.cells (cp' - ys.length)) rty)) → ys.length ≤ cp' →
          Runs P c (Builtin.append_ #[t, tu] ty #[.slice A 0 0, uy]) k := by
        intro cp' run hcp
        refine fin2 _ (some c.w.heap.size) _ run ((Grows.drew c.w).trans (Grows.alloc c.w.drew _)) (fun b e => by cases e; exact Nat.le_refl _) (.inr ⟨_, _, news, (Builtin.zeroCells z.cells (cp' - ys.length)).toList, rfl, heap_alloc_new c.w.drew _, by simp, hrows, cp', rfl, hcp, ?_⟩)
        simp only [Array.size_append, List.size_toArray, size_zeroCells, hnl, h6, ← hsz, ← h2, ← Nat.add_mul]
        have : ys.length + (cp' - ys.length) = cp' := by omega
        rw [this]; exact Nat.le_refl _
      cases A with
      | none => exact go _ (S.nil hpos (by omega) (by omega)) (grownCap_ge _ _ _ _)
      | some a =>
        have run := S.grow hpos a 0 0 [] (by simp) (by simp) (by omega) (by omega) (growslice_fits (by omega) (by simpa using hy'))
        simp only [Nat.zero_add, Array.empty_append] at run
        exact go _ run (grownCap_ge _ _ _ _)
  · obtain ⟨vs, f, re, g1, g2, g3, g4, g5⟩ := own b0 hb0
    have hlt : b0 < c.w.heap.size := lt_of_some g1
    have hxrows : Rows (ek.rep c.w c.ok) xs f := g3
    have hyrows : Rows (ek.rep c.w c.ok) ys news := hrows
    have grow : ∀ cp', (Builtin.append_ #[t, tu] ty #[.slice A xs.length cp, uy]).run P c.w =
        .ok (.slice (some ⟨c.w.heap.size, 0, none⟩) (xs.length + ys.length) cp') (c.w.drew.alloc (.cells (f.toArray ++ news.toArray ++ Builtin.zeroCells z.cells (cp' - (xs.length + ys.length))) rty)) → xs.length + ys.length ≤ cp' →
        Runs P c (Builtin.append_ #[t, tu] ty #[.slice A xs.length cp, uy]) k := by
      intro cp' run hcp
      refine fin b0 _ (some c.w.heap.size) _ hb0 run (moved_new b0 _ hlt) (fun b e => by cases e; exact .inr (Nat.le_refl _)) ⟨_, _, f ++ news, (Builtin.zeroCells z.cells (cp' - (xs.length + ys.length))).toList, rfl, heap_alloc_new c.w.drew _, by simp, hxrows.append hyrows, cp', rfl, hcp, ?_⟩
      simp only [Array.size_append, List.size_toArray, size_zeroCells, hnl, g4, h6, ← hsz, ← h2, ← Nat.add_mul]
      have : xs.length + ys.length + (cp' - (xs.length + ys.length)) = cp' := by omega
      rw [this]; exact Nat.le_refl _
    by_cases hz : ys = []
    ·
      subst hz
      have run := S.zero rfl A xs.length cp hc
      rcases hcase with h0 | ⟨b, vs', hb1, rfl, hv', hsz'⟩
      ·
        subst h0
        have hx0 : xs = [] := List.eq_nil_of_length_eq_zero (by omega)
        subst hx0
        have hpk : (c.kill id).heap[tgt]? = some .pend := (set_ne hne).trans hp
        have he2 := Ext.put (c := c.kill id) (w' := c.w) (o := .row .rw rty ek ([] ++ [])) (ob := none) (Grows.refl _) hpk (fun b e => by cases e)
        have hget : ((c.kill id).put c.w tgt (.row .rw rty ek ([] ++ [])) none).heap[tgt]? = some (.row .rw rty ek ([] ++ [])) := set_eq hpk
        refine ⟨_, _, run, _, _, (c.kill id).put c.w tgt _ none, h, rfl, rfl, (Ext.kill ho).trans he2, RC.Inv.put (hi.kill ho) (Grows.refl _) hpk (fun b e => by cases e) ⟨by simp [maxN], .inl ⟨by show upd c.blk tgt none tgt = _; simp [upd], rfl⟩⟩, ?_⟩
        show SV.rel _ (.osl tgt 0 _) _
        simp only [SV.rel, hget]
        exact ⟨A, 0, rfl, Nat.le_refl _, by simp, .inl rfl⟩
      · rw [hb0] at hb1; cases hb1
        rw [g1] at hv'; cases hv'
        refine fin b0 _ (some b0) _ hb0 run (moved_refl b0) (fun b e => by cases e; exact .inl rfl) ⟨b0, vs, f, re, rfl, g1, g2, by simpa using hxrows, cp, by simp, by simpa using hc, by simpa using hsz'⟩
    · have hpos : 0 < ys.length := List.length_pos_iff.2 hz
      rcases hcase with h0 | ⟨b1, vs', hb1, rfl, hv', hsz'⟩
      ·
        subst h0
        have hx0 : xs = [] := List.eq_nil_of_length_eq_zero (by omega)
        subst hx0
        have hf0 : f = [] := List.eq_nil_of_length_eq_zero (by simpa using g4)
        subst hf0
        cases A with
        | none =>
          have run := S.nil hpos (by omega) (by simpa using Nat.le_trans hb' (by omega))
          exact grow _ (by simpa using run) (by simpa using grownCap_ge _ _ _ _)
        | some a =>
          have run := S.grow hpos a 0 0 [] (by simp) (by simp) (by omega) (by omega) (growslice_fits (by omega) (by simpa using hb'))
          exact grow _ (by simpa using run) (by simpa using grownCap_ge _ _ _ _)
      · rw [hb0] at hb1; cases hb1
        rw [g1] at hv'; cases hv'
        simp only [Nat.zero_mul] at *
        by_cases hroom : xs.length + ys.length ≤ cp
        ·
          have hfit : xs.length * i.size + news.length ≤ vs.size := by
            rw [hnl, ← Nat.add_mul]
            have := Nat.mul_le_mul_right i.size hroom
            rw [← h2] at hsz; rw [hsz] at this ⊢
            simp only [Nat.zero_add] at hsz'
            omega
          have run := S.room hpos b0 xs.length cp vs g1 hroom hfit
          have hvl : vs.toList.length = f.length + re.length := by rw [g2, List.length_append]
          simp only [Array.length_toList] at hvl
          refine fin b0 _ (some b0) _ hb0 run ⟨by simp, rfl, rfl, rfl, fun j hj hne' => setRow_other c.w b0 j _ hne', fun us t' zz hus => ?_⟩ (fun b e => by cases e; exact .inl rfl)
            ⟨b0, _, f ++ news, vs.toList.drop (xs.length * i.size + news.length), rfl, setRow_heap c.w b0 vs _ rty _ g1, ?_, hxrows.append hyrows, cp, rfl, hroom, ?_⟩
          · rw [g1] at hus; cases hus
            refine ⟨_, setRow_heap c.w b0 vs _ rty _ g1, ?_⟩
            simp; omega
          · have : vs.toList.take (xs.length * i.size) = f := by rw [g2, ← g4, List.take_left]
            rw [this]
          · simp only [List.size_toArray, List.length_append, List.length_take, List.length_drop, Array.length_toList]
            simp only [Nat.zero_add] at hsz'
            omega
        ·
          exact grow _ (S.grow hpos ⟨b0, 0, none⟩ xs.length cp f g4 g5 (by omega) (by omega) (growslice_fits (by omega) hb')) (grownCap_ge _ _ _ _)
theorem append_full {t tu ty e : TypeId} {uy : Value} {ed : TD} (hsz1 : 1 ≤ ed.sz) (hby1 : 1 ≤ ed.bytes) {i : TypeInfo} {z : Value} (h2 : i.size = ed.sz) (h3 : i.bytes = ed.bytes) (h6 : z.cells.size = ed.sz) {ek : K} (hsz : ed.sz = ek.sz)
    {ys : List ek.T} {news : List Value} (S : Src P c.w t tu ty e i z uy ys.length news) (hmx : ys.length ≤ maxN) (hrows : Rows (ek.rep c.w c.ok) ys news) {u : Value} {xs : List ek.T} (rx : EV.rel c (.x (.one (.full ek xs))) u) (hx0 : 0 < xs.length) (hy0 : 0 < ys.length) (hb : (xs.length + ys.length) * ed.bytes ≤ 140737488355328)
    (h : k (.x (.one (.osl tgt 0 (xs.length + ys.length)))) [(tgt, .row .rw e ek (xs ++ ys))]) : Runs P c (Builtin.append_ #[t, tu] ty #[u, uy]) k := by
  obtain ⟨⟨A, cap, e1, _, hxm, h5⟩, A', rfl⟩ := rx
  obtain ⟨rfl, rfl⟩ : A' = A ∧ xs.length = cap := by
    have := (List.cons.inj e1).1
    exact ⟨(Value.slice.inj this).1, (Value.slice.inj this).2.2⟩
  rcases h5 with rfl | ⟨b, off, olds, rfl, _, hxr, hat⟩
  · simp at hx0
  have hnl : news.length = ys.length * i.size := by rw [Rows.len (fun y cs => K.rep_len ek y cs) hrows, h2, hsz]
  have hol : olds.length = xs.length * i.size := by rw [Rows.len (fun y cs => K.rep_len ek y cs) hxr, h2, hsz]
  have hb' : (xs.length + ys.length) * i.bytes ≤ 140737488355328 := by rw [h3]; exact hb
  have hle : xs.length + ys.length ≤ (xs.length + ys.length) * ed.bytes := Nat.le_mul_of_pos_right _ (by omega)
  have run := S.grow hy0 ⟨b, off, none⟩ xs.length xs.length olds hol (fun j v hj => by rw [Addr.add_none]; exact hat j v hj) (by omega) (by omega) (growslice_fits (by omega) hb')
  have hcp := grownCap_ge c.w (xs.length + ys.length) xs.length e
  refine ⟨_, _, run, new_done hT hi hp (w0 := c.w.drew) (Grows.drew _) (fun hext => ?_) ?_ h⟩
  · exact ⟨by rw [List.length_append]; simp only [maxN]; omega, .inr ⟨_, _, olds ++ news, (Builtin.zeroCells z.cells (grownCap c.w (xs.length + ys.length) xs.length e - (xs.length + ys.length))).toList, put_blk hT hi hp, heap_alloc_new c.w.drew _, by simp, Rows.mono (fun y cs hh => K.rep_mono hext.ok ek y cs hh) (hxr.append hrows)⟩⟩
  · show SV.rel _ (.osl tgt 0 _) _
    simp only [SV.rel, put_heap hT hi hp]
    refine ⟨_, _, rfl, hcp, by simp, .inr ⟨_, _, put_blk hT hi hp, by simp, heap_alloc_new c.w.drew _, ?_⟩⟩
    simp only [Array.size_append, List.size_toArray, size_zeroCells, hnl, hol, h6, Nat.zero_add, ← hsz, ← h2, ← Nat.add_mul]
    have : xs.length + ys.length + (grownCap c.w (xs.length + ys.length) xs.length e - (xs.length + ys.length)) = grownCap c.w (xs.length + ys.length) xs.length e := by omega
    rw [this]; exact Nat.le_refl _
theorem slice_src {t ty e : TypeId} (hf : P.underlying t = some (.slice e)) {ed : TD} (he : cx.tab e = some ed) {i : TypeInfo} {z : Value} (h1 : P.info? e = some i) (h4 : i.zero = some z) {ek : K} (hsz : ek.sz = i.size) {ys : List ek.T} {B : Option Addr} {cap : Nat} {news : List Value}
    (hrows : Rows (ek.rep c.w c.ok) ys news) (hat : ys = [] ∨ ∃ b off, B = some ⟨b, off, none⟩ ∧ At c.w b off news) : Src P c.w t t ty e i z (.slice B ys.length cap) ys.length news := by
  have hnl : news.length = ys.length * i.size := by rw [Rows.len (fun y cs => K.rep_len ek y cs) hrows, hsz]
  have at' : 0 < ys.length → ∃ b off, B = some ⟨b, off, none⟩ ∧ ∀ j v, news[j]? = some v → c.w.cell? ((⟨b, off, none⟩ : Addr).add j) = some v := by
    intro h0
    rcases hat with rfl | ⟨b, off, rfl, hat⟩
    · simp at h0
    · exact ⟨b, off, rfl, fun j v hv => by rw [Addr.add_none]; exact hat j v hv⟩
  refine ⟨fun h0 A m cp hm => ?_, fun h0 a1 a2 => ?_, fun h0 b sLen sCap olds a1 a2 a3 a4 a5 => ?_, fun h0 g sLen sCap cur a1 a2 a3 => ?_⟩
  · rw [h0]; exact run_append_zero hT c.w (ty := ty) hf he A B m cp cap hm
  · obtain ⟨b, off, rfl, hnews⟩ := at' h0
    exact run_append_nil (P := P) c.w t ty e i z hf h1 h4 ⟨b, off, none⟩ ys.length cap news hnl hnews h0 a1 a2
  · obtain ⟨b', off, rfl, hnews⟩ := at' h0
    exact run_append_grow (P := P) c.w t ty e i z hf h1 h4 b sLen sCap olds a1 a2 ⟨b', off, none⟩ ys.length cap news hnl hnews a3 a4 a5
  · obtain ⟨b, off, rfl, hnews⟩ := at' h0
    exact run_append_room (P := P) c.w t ty e i hf h1 g sLen sCap cur a1 ⟨b, off, none⟩ ys.length cap news hnl hnews (fun u hu => Rows.every (p := fun v => v.oneCell' = true) (fun y cs hy v hv => rep_ones hT hi ek y cs hy v hv) hrows u hu) a2 a3
theorem opAppend_run {t ty : TypeId} {x y : EV} {u uy : Value} (h : (opAppend cx c.heap t x y tgt).wp k) (rx : x.rel c u) (ry : y.rel c uy) : Runs P c (Builtin.append_ #[t, t] ty #[u, uy]) k := by
  unfold opAppend at h
  split at h
  case h_2 => exact h.elim
  rename_i e sz by_ z0 kd yv ht
  have hf : P.underlying t = some (.slice e) := (hT t _ ht).k
  have ry' : yv.rel c uy := ry
  split at h
  case h_2 => exact h.elim
  rename_i ed he
  obtain ⟨i, z, h1, h2, h3, h4, h5, h6⟩ := (hT e ed he).info
  split at h
  case isFalse => exact h.elim
  rename_i hq0
  obtain ⟨hsz1, hby1⟩ := hq0
  split at h
  ·
    rename_i hv
    obtain ⟨A, rfl⟩ := isVoid_rel hT hi hv rx
    split at h
    case h_2 => exact h.elim
    rename_i ek hk
    split at h
    case isFalse => exact h.elim
    rename_i hsz
    split at h
    case h_2 => exact h.elim
    rename_i ys hys
    obtain ⟨hb, h⟩ := h
    obtain ⟨B, cap, news, rfl, hmx, hrows, hat⟩ := src_cells hT hi hys ry'
    exact append_nothing hT hi hp hsz1 hby1 h2 h3 h6 hsz (slice_src hT hi hp hf he h1 h4 (by omega) hrows hat) hmx hrows hb h
  split at h
  ·
    rename_i id len hnv
    split at h
    case h_2 => exact h.elim
    rename_i rty ek xs ho
    split at h
    case isFalse => exact h.elim
    rename_i hq
    obtain ⟨rfl, hsz, hne⟩ := hq
    split at h
    case h_2 => exact h.elim
    rename_i ys0 hys
    obtain ⟨ys, rfl⟩ : ∃ ys : List ek.T, ys = ys0 := ⟨ys0, rfl⟩
    obtain ⟨⟨rfl, hb⟩, h⟩ := h
    obtain ⟨B, cap, news, rfl, hmx, hrows, hat⟩ := src_cells hT hi hys ry'
    exact append_row hT hi hp hsz1 hby1 h2 h3 h6 hsz (slice_src hT hi hp hf he h1 h4 (by omega) hrows hat) hmx hrows rx ho hne hb h
  ·
    rename_i ek xs hnv
    split at h
    case isFalse => exact h.elim
    rename_i hsz
    split at h
    case h_2 => exact h.elim
    rename_i ys0 hys
    obtain ⟨ys, rfl⟩ : ∃ ys : List ek.T, ys = ys0 := ⟨ys0, rfl⟩
    obtain ⟨⟨hx0, hy0, hb⟩, h⟩ := h
    obtain ⟨B, cap, news, rfl, hmx, hrows, hat⟩ := src_cells hT hi hys ry'
    exact append_full hT hi hp hsz1 hby1 h2 h3 h6 hsz (slice_src hT hi hp hf he h1 h4 (by omega) hrows hat) hmx hrows rx hx0 hy0 hb h
  · exact h.elim
end
end Go.Lift

set_option linter.unusedVariables false
set_option linter.unusedSimpArgs false
set_option linter.unusedSectionVars false
namespace Go.Lift
def strBytes (s : ByteArray) : List Int := s.data.toList.map fun b => (b.toNat : Int)
theorem strBytes_len (s : ByteArray) : (strBytes s).length = s.size := by
  unfold strBytes; rw [List.length_map, Array.length_toList]; rfl
def bytesOf : EV → Option (List Int)
  | .x (.one (.val (.string s))) => some (strBytes s)
  | .x (.one (.bstr bs)) => some bs
  | _ => none
theorem bytesOf_rel {c : RC} {v : EV} {bs : List Int} {u : Value} (h : bytesOf v = some bs) (r : v.rel c u) : ∃ s : ByteArray, u = .string s ∧ strBytes s = bs := by
  unfold bytesOf at h
  split at h
  · rename_i s; cases h; exact ⟨s, r, rfl⟩
  · rename_i bs'; cases h; exact r
  · cases h
def byteOf (n : Int) : Int := ((n.toNat % 256 : Nat) : Int)
def opB2S (h : List HObj) (v : EV) : Res := match v with
  | .x xv => match xv.take h (.slice (.int .u8)) with
    | some xs => .ret (.x (.one (.bstr (List.map byteOf xs)))) []
    | none => .fail
  | _ => .fail
def EV.lv : EV → Option LV
  | .x (.one (.val v)) => some (.val v)
  | .x (.one (.ref id off)) => some (.ref id off)
  | .x (.one (.data k y)) => some (.data k y)
  | _ => none
def lvs : List EV → Option (List LV)
  | [] => some []
  | e :: r => match e.lv with
    | some l => match lvs r with
      | some ls => some (l :: ls)
      | none => none
    | none => none
def opMakeFunc (f : Fn) (first caps : List EV) : Res := match f with
  | .func f => match lvs first, lvs caps with
    | some a, some b => .ret (.x (.one (.clo f a b))) []
    | _, _ => .fail
  | _ => .fail
def opAppendS (cx : Cx) (h : List HObj) (t : TypeId) (x y : EV) (tgt : Nat) : Res := match cx.tab t, bytesOf y with
  | some ⟨.slice e, _, _, _, _⟩, some bs => match cx.tab e with
    | some ed => if ed.sz = 1 ∧ ed.bytes = 1 then
        (if isVoid x then .ask (bs.length ≤ 140737488355328) fun _ => .ret (.x (.one (.osl tgt 0 bs.length))) [(tgt, .row .rw e (.int .u8) bs)]
        else match x with
        | .x (.one (.osl id 0 len)) => match h[id]? with
          | some (.row .rw ty ek xs) => if ty = e ∧ id ≠ tgt then (if q : ek = .int .u8 then
              .ask (len = List.length xs ∧ List.length xs + bs.length ≤ 140737488355328) fun _ => .ret (.x (.one (.osl tgt 0 (List.length xs + bs.length)))) [(id, .dead), (tgt, .row .rw e (.int .u8) (@HAppend.hAppend (List Int) (List Int) (List Int) _ (q ▸ xs : List (K.int .u8).T) bs))]
              else .fail) else .fail
          | _ => .fail
        | _ => .fail) else .fail
    | none => .fail
  | _, _ => .fail
def copySrc (h : List HObj) (ek : K) (y : EV) : Option (List ek.T) := match bytesOf y with
  | some bs => if q : ek = .int .u8 then some (q.symm ▸ (bs : List (K.int .u8).T)) else none
  | none => match y with
    | .x yv => yv.take h (.slice ek)
    | _ => none
def opCopy (cx : Cx) (h : List HObj) (t : TypeId) (x y : EV) : Res := match cx.tab t, x with
  | some ⟨.slice e, _, _, _, _⟩, .x (.one (.osl id off len)) => match cx.tab e, h[id]? with
    | some ed, some (.row .rw ty ek xs) => if ed.sz = ek.sz then (match copySrc h ek y with
        | some ys => .ask (List.length (α := ek.T) ys ≤ len) fun _ => .ret (.val (.int .i64 (List.length (α := ek.T) ys))) [(id, .row .rw ty ek (List.take (α := ek.T) off xs ++ ys ++ List.drop (α := ek.T) (off + List.length (α := ek.T) ys) xs))]
        | none => .fail) else .fail
    | _, _ => .fail
  | _, _ => .fail
theorem fold_push (ns : List Int) : ∀ s : ByteArray, strBytes (ns.foldl (fun r n => r.push (UInt8.ofNat n.toNat)) s) = strBytes s ++ ns.map byteOf := by
  induction ns with
  | nil => intro s; simp
  | cons n ns ih =>
    intro s
    rw [List.foldl_cons, ih]
    have : strBytes (s.push (UInt8.ofNat n.toNat)) = strBytes s ++ [byteOf n] := by
      unfold strBytes ByteArray.push byteOf
      simp [UInt8.toNat_ofNat']
    rw [this, List.map_cons]
    simp
section
variable {P : Program} {cx : Cx} (hT : ∀ t d, cx.tab t = some d → d.Fits P t) {c : RC} (hi : c.Inv) {k : EV → List (Nat × HObj) → Prop}
include hT hi
theorem rows_ints : ∀ {xs : List Int} {cs : List Value} {w : World} {ok : Nat → Prop}, Rows ((K.int .u8).rep w ok) xs cs → cs = xs.map (Value.int .u8)
  | [], cs, w, ok, h => h
  | x :: xs, cs, w, ok, ⟨c1, c2, e, h1, h2⟩ => by
    have e1 : c1 = [.int .u8 x] := h1
    rw [e, e1, rows_ints h2]; rfl
omit hT hi in
theorem b2s_run {sT d e : TypeId} (hs : P.underlying sT = some (.slice e)) (he : P.underlying e = some (.int .u8)) (hd : P.underlying d = some .string) {xs : List Int} {A : Option Addr} (cap : Nat) {news : List Value} (hn : news = xs.map (Value.int .u8))
    (hat : xs = [] ∨ ∃ b off, A = some ⟨b, off, none⟩ ∧ At c.w b off news) : ∃ s : ByteArray, (Go.convert sT d (.slice A xs.length cap)).run P c.w = .ok (.string s) c.w ∧ strBytes s = xs.map byteOf := by
  have e0 := run_convert_bytes_string (P := P) c.w sT d e A xs.length cap hs he hd
  cases A with
  | none =>
    have hx : xs = [] := by
      rcases hat with h | ⟨b, off, h, _⟩
      · exact h
      · cases h
    subst hx
    refine ⟨.empty, by rw [e0]; simp [Conv.bytesToString], rfl⟩
  | some a =>
    have hl : (loadCells a xs.length).run P c.w = .ok (xs.map (Value.int .u8)).toArray c.w := by
      have hlen : news.length = xs.length := by rw [hn]; simp
      have := run_loadCells_list (P := P) c.w a news (fun j v hv => by
        rcases hat with h | ⟨b, off, h, hat⟩
        · rw [h] at hn; rw [hn] at hv; simp at hv
        · cases h; rw [Addr.add_none]; exact hat j v hv)
      rw [hlen] at this
      rw [this, hn]
    refine ⟨_, by rw [e0]; exact run_bytesToString (P := P) c.w a _ cap xs hl, ?_⟩
    rw [fold_push]
    rfl
theorem opB2S_run {sT d e : TypeId} (hs : P.underlying sT = some (.slice e)) (he : P.underlying e = some (.int .u8)) (hd : P.underlying d = some .string) {v : EV} {u : Value} (h : (opB2S c.heap v).wp k) (r : v.rel c u) : Runs P c (Go.convert sT d u) k := by
  unfold opB2S at h
  split at h
  · rename_i xv
    split at h
    · rename_i xs hxs
      have r' : xv.rel c u := r
      obtain ⟨A, cap, news, rfl, hmx, hrows, hat⟩ := src_cells hT hi hxs r'
      obtain ⟨st, h1, h2⟩ := b2s_run (P := P) (c := c) hs he hd cap (rows_ints hT hi hrows) hat
      exact Runs.pure hi h1 h ⟨st, rfl, h2⟩
    · exact h.elim
  · exact h.elim
theorem opMakeFunc_run {f : Fn} {fe ce : List EV} {fs cs : Array Value} (h : (opMakeFunc f fe ce).wp k) (rf : All2 (EV.rel c) fe fs.toList) (rc : All2 (EV.rel c) ce cs.toList) : Runs P c (Instr.makeFunc f fs cs) k := by
  have one : ∀ {e : EV} {l : LV} {v : Value}, e.lv = some l → e.rel c v → l.rel c v := by
    intro e l v he r
    unfold EV.lv at he
    split at he
    · cases he; exact r
    · rename_i id off; cases he
      have r' : SV.rel c (.ref id off) v := r
      simp only [SV.rel] at r'
      simp only [LV.rel]
      exact r'
    · cases he; exact r
    · cases he
  have all : ∀ {es : List EV} {ls : List LV} {vs : List Value}, lvs es = some ls → All2 (EV.rel c) es vs → All2 (LV.rel c) ls vs := by
    intro es
    induction es with
    | nil => intro ls vs he ha; cases he; cases ha; exact .nil
    | cons e es ih =>
      intro ls vs he ha
      simp only [lvs] at he
      split at he
      · rename_i l hl
        split at he
        · rename_i ls' hls
          cases he
          cases ha with
          | cons h1 h2 => exact .cons (one hl h1) (ih hls h2)
        · cases he
      · cases he
  unfold opMakeFunc at h
  split at h
  · split at h
    · rename_i a b ha hb
      exact Runs.pure hi (v := .func (.func _) fs cs) rfl h ⟨fs, cs, rfl, all ha rf, all hb rc⟩
    · exact h.elim
  · exact h.elim
theorem text_src {w : World} {t tu ty e : TypeId} (hf : P.underlying t = some (.slice e)) (hu : P.underlying tu = some .string) {i : TypeInfo} {z : Value} (h1 : P.info? e = some i) (h2 : i.size = 1) (h4 : i.zero = some z) (s : ByteArray) :
    Src P w t tu ty e i z (.string s) s.size (Lib.strCells s) := by
  have e1 : (s.data.map (fun b => Value.int .u8 b.toNat)) = (Lib.strCells s).toArray := by
    unfold Lib.strCells; apply Array.ext'; simp
  refine ⟨fun h0 A m cp hm => ?_, fun h0 a1 a2 => ?_, fun h0 b sLen sCap olds a1 a2 a3 a4 a5 => ?_, fun h0 g sLen sCap cur a1 a2 a3 => ?_⟩
  · have hf2 := Lib.run_firstCells_string (P := P) w i.size s
    rw [h0] at hf2
    have hnil : Lib.strCells s = [] := List.eq_nil_of_length_eq_zero (by rw [Lib.strCells_length, h0])
    rw [hnil] at hf2
    cases A with
    | none => simp [Builtin.append_, run_underlying hf, run_underlying hu, sizeOf, typeInfo, h1, Builtin.lenOf, h0, hm, hf2]
    | some a => simp [Builtin.append_, run_underlying hf, run_underlying hu, sizeOf, typeInfo, h1, Builtin.lenOf, h0, hm, hf2, storeCells]
  · rw [← e1]
    exact run_append_nil_string (P := P) w t tu ty e i z hf hu h1 h4 s h0 a1 a2
  · exact Lib.run_append_grow_string (P := P) w t tu ty e i z hf hu h1 h4 b sLen sCap olds a1 a2 s a3 a4 a5
  · have := Lib.run_append_room_string (P := P) w t tu ty e i hf hu h1 h2 g sLen sCap cur a1 s a2 (by rw [h2, Lib.strCells_length] at a3; omega)
    rw [h2, Lib.strCells_length, Nat.mul_one]
    exact this
omit hT hi in
theorem rows_text (s : ByteArray) (w : World) (ok : Nat → Prop) : Rows ((K.int .u8).rep w ok) (strBytes s) (Lib.strCells s) := by
  unfold strBytes Lib.strCells
  generalize s.data.toList = l
  induction l with
  | nil => rfl
  | cons b l ih => exact ⟨[.int .u8 b.toNat], _, rfl, rfl, ih⟩
theorem opAppendS_run {tgt : Nat} (hp : c.heap[tgt]? = some .pend) {t tu ty : TypeId} (htu : P.underlying tu = some .string) {x y : EV} {u uy : Value} (h : (opAppendS cx c.heap t x y tgt).wp k) (rx : x.rel c u) (ry : y.rel c uy) : Runs P c (Builtin.append_ #[t, tu] ty #[u, uy]) k := by
  unfold opAppendS at h
  split at h
  case h_2 => exact h.elim
  rename_i e sz by_ z0 kd bs ht hbs
  have hf : P.underlying t = some (.slice e) := (hT t _ ht).k
  obtain ⟨s, rfl, rfl⟩ := bytesOf_rel hbs ry
  split at h
  case h_2 => exact h.elim
  rename_i ed he
  obtain ⟨i, z, h1, h2, h3, h4, h5, h6⟩ := (hT e ed he).info
  split at h
  case isFalse => exact h.elim
  rename_i hq0
  obtain ⟨hsz1, hby1⟩ := hq0
  have hS := text_src hT hi (w := c.w) (ty := ty) hf htu h1 (by omega) h4 s
  rw [← strBytes_len] at hS
  have hrows := rows_text s c.w c.ok
  split at h
  · rename_i hv
    obtain ⟨A, rfl⟩ := isVoid_rel hT hi hv rx
    obtain ⟨hb, h⟩ := h
    have b1 : (strBytes s).length ≤ maxN := by simp only [maxN]; omega
    have b2 : (strBytes s).length * ed.bytes ≤ 140737488355328 := by rw [hby1]; omega
    exact append_nothing hT hi hp (ek := .int .u8) (ys := strBytes s) (by omega) (by omega) h2 h3 h6 hsz1 hS b1 hrows b2 h
  · split at h
    case h_2 => exact h.elim
    rename_i id len hnv
    split at h
    case h_2 => exact h.elim
    rename_i rty ek xs ho
    split at h
    case isFalse => exact h.elim
    rename_i hq
    obtain ⟨rfl, hne⟩ := hq
    split at h
    case isFalse => exact h.elim
    rename_i q
    subst q
    obtain ⟨⟨rfl, hb⟩, h⟩ := h
    obtain ⟨xs, rfl⟩ : ∃ l : List Int, l = xs := ⟨xs, rfl⟩
    have hb : xs.length + (strBytes s).length ≤ 140737488355328 := hb
    have b1 : (strBytes s).length ≤ maxN := by simp only [maxN]; omega
    have b2 : (xs.length + (strBytes s).length) * ed.bytes ≤ 140737488355328 := by rw [hby1]; omega
    exact append_row hT hi hp (ek := .int .u8) (ys := strBytes s) (by omega) (by omega) h2 h3 h6 hsz1 hS b1 hrows rx ho hne b2 h
theorem copySrc_cells {ek : K} {y : EV} {ys : List ek.T} {uy : Value} (h : copySrc c.heap ek y = some ys) (r : y.rel c uy) :
    ∃ news, Rows (ek.rep c.w c.ok) ys news ∧ ys.length ≤ maxN + maxN * 0 + ys.length ∧ (∀ w', (Builtin.lenOf uy).run P w' = .ok ys.length w') ∧ ∀ m, m = ys.length → (Builtin.firstCells ek.sz m uy).run P c.w = .ok news.toArray c.w := by
  unfold copySrc at h
  cases hbs : bytesOf y with
  | some bs =>
    rw [hbs] at h
    simp only at h
    split at h
    · rename_i q
      subst q
      obtain rfl := Option.some.inj h
      obtain ⟨s, rfl, rfl⟩ := bytesOf_rel hbs r
      refine ⟨Lib.strCells s, rows_text s _ _, by omega, fun w' => ?_, fun m hm => ?_⟩
      · show _ = Result.ok (strBytes s).length w'
        rw [strBytes_len]; rfl
      · have hm : m = (strBytes s).length := hm
        rw [strBytes_len] at hm
        rw [hm]
        exact Lib.run_firstCells_string (P := P) c.w _ s
    · cases h
  | none =>
    rw [hbs] at h
    cases y with
    | tup _ => cases h
    | x yv =>
      have h : yv.take c.heap (.slice ek) = some ys := h
      obtain ⟨A, cap, news, rfl, hmx, hrows, hat⟩ := src_cells hT hi h (r : yv.rel c uy)
      refine ⟨news, hrows, by omega, fun w' => rfl, fun m hm => ?_⟩
      have hnl : news.length = ys.length * ek.sz := Rows.len (fun y cs => K.rep_len ek y cs) hrows
      subst hm
      rcases hat with rfl | ⟨b, off, rfl, hat⟩
      · have hn0 : news = [] := List.eq_nil_of_length_eq_zero (by rw [hnl]; simp)
        subst hn0
        cases A with
        | none => rfl
        | some a => simp [Builtin.firstCells, loadCells, loadCellsFrom]
      · have := run_firstCells_some (P := P) c.w ek.sz ys.length ⟨b, off, none⟩ ys.length cap news hnl (fun j v hv => by rw [Addr.add_none]; exact hat j v hv)
        exact this
theorem opCopy_run {t tu ty : TypeId} {x y : EV} {u uy : Value} (h : (opCopy cx c.heap t x y).wp k) (rx : x.rel c u) (ry : y.rel c uy) : Runs P c (Builtin.copy_ #[t, tu] ty #[u, uy]) k := by
  unfold opCopy at h
  split at h
  case h_2 => exact h.elim
  rename_i e sz by_ z0 kd id off len ht
  have hf : P.underlying t = some (.slice e) := (hT t _ ht).k
  split at h
  case h_2 => exact h.elim
  rename_i ed ty' ek xs he ho
  split at h
  case isFalse => exact h.elim
  rename_i hsz
  split at h
  case h_2 => exact h.elim
  rename_i ys0 hys
  obtain ⟨ys, rfl⟩ : ∃ ys : List ek.T, ys = ys0 := ⟨ys0, rfl⟩
  obtain ⟨hle, h⟩ := h
  obtain ⟨news, hrows, _, hlen, hcells⟩ := copySrc_cells hT hi (P := P) hys ry
  have hnl : news.length = ys.length * ek.sz := Rows.len (fun y cs => K.rep_len ek y cs) hrows
  obtain ⟨A, cap, rfl, hc, hl, hcase⟩ := osl_row (s := .junk) hT hi ho rx
  have hs := run_sizeOf hT hi he c.w
  have hmin : Nat.min ys.length len = ys.length := Nat.min_eq_left hle
  have run : ∀ w', (match A with | some a => storeCells a news 0 | none => pure ()).run P c.w = .ok () w' → (Builtin.copy_ #[t, tu] ty #[.slice A len cap, uy]).run P c.w = .ok (goInt ys.length) w' := by
    intro w' hw
    have hc1 := hcells ys.length rfl
    cases A with
    | none =>
      simp only [Sem.run_pure] at hw
      obtain rfl := (Result.ok.inj hw).2
      simp [Builtin.copy_, run_underlying hf, hlen, hmin, hs, hsz, hc1]
    | some a =>
      simp [Builtin.copy_, run_underlying hf, hlen, hmin, hs, hsz, hc1, hw]
  by_cases hz : ys = []
  · subst hz
    have hn0 : news = [] := List.eq_nil_of_length_eq_zero (by rw [hnl]; simp)
    subst hn0
    have hrun := run c.w (by cases A <;> simp [storeCells])
    have e : List.take off xs ++ [] ++ List.drop (off + ([] : List ek.T).length) xs = xs := by simp
    have hset : c.heap.set id (.row .rw ty' ek (List.take off xs ++ [] ++ List.drop (off + ([] : List ek.T).length) xs)) = c.heap := by
      rw [e]
      apply List.ext_getElem?
      intro j
      by_cases hj : id = j
      · subst hj; rw [set_eq ho, ho]
      · rw [set_ne hj]
    exact ⟨_, _, hrun, _, _, c, h, rfl, by show c.heap = _; simp only [applyU, List.foldl_cons, List.foldl_nil]; exact hset.symm, Ext.refl c, hi, rfl⟩
  · have hpos : 0 < ys.length := List.length_pos_iff.2 hz
    rcases hcase with h0 | ⟨b, vs, hb, rfl, hv, hvs⟩
    · omega
    obtain ⟨hmx, vs', f, re, h1, h2, h3⟩ := row_obj hT hi ho hb
    rw [hv] at h1; cases h1
    have hR : ∀ (y : ek.T) cs, K.rep c.w c.ok ek y cs → cs.length = ek.sz := fun y cs => K.rep_len ek y cs
    have hfl := Rows.len hR h3
    have hvl : vs.toList.length = f.length + re.length := by rw [h2, List.length_append]
    simp only [Array.length_toList] at hvl
    have hin : off * ek.sz + ys.length * ek.sz ≤ f.length := by
      rw [hfl, ← Nat.add_mul]
      exact Nat.mul_le_mul_right _ (by omega)
    have hones : ∀ v ∈ news, v.oneCell' = true := fun v hv => Rows.every (p := fun v => v.oneCell' = true) (fun y cs hy v hv => rep_ones hT hi ek y cs hy v hv) hrows v hv
    obtain ⟨w', hst, hw⟩ := run_storeCells (P := P) news c.w b (off * ek.sz) 0 ty' vs hv hones (by simp only [Nat.add_zero]; omega)
    simp only [Nat.add_zero] at hw
    have hrun := run w' hst
    have hszs : (putAt vs.toList (off * ek.sz) news).toArray.size = vs.size := by
      simp only [List.size_toArray]
      rw [putAt_len (by simp only [Array.length_toList]; omega)]; simp
    have hlen2 : (List.take off xs ++ ys ++ List.drop (off + ys.length) xs).length = xs.length := by simp; omega
    have he2 := Ext.store (o' := .row .rw ty' ek (List.take off xs ++ ys ++ List.drop (off + ys.length) xs)) ho rfl hb hv hw hszs (.inr ⟨.rw, _, rfl, hlen2, .inl rfl⟩) rfl
    refine ⟨_, _, hrun, _, _, _, h, rfl, rfl, he2, RC.Inv.store hi ho rfl hb hv hw hszs (.inr ⟨.rw, _, rfl, hlen2, .inl rfl⟩) rfl ?_, rfl⟩
    refine ⟨by rw [hlen2]; exact hmx, .inr ⟨b, _, f.take (off * ek.sz) ++ news ++ f.drop (off * ek.sz + news.length), re, hb, hw.there, ?_, ?_⟩⟩
    · simp only [putAt, h2]
      rw [List.take_append_of_le_length (by omega), List.drop_append_of_le_length (by omega)]
      simp
    · have t1 := Rows.take hR off h3
      have t2 := Rows.drop hR (off + ys.length) h3
      rw [Nat.add_mul, ← hnl] at t2
      exact Rows.mono (fun y cs hh => K.rep_mono he2.ok ek y cs hh) ((t1.append hrows).append t2)
end
end Go.Lift

set_option linter.unusedVariables false
set_option linter.unusedSimpArgs false
set_option linter.unusedSectionVars false
namespace Go.Lift
theorem run_bound {P : Program} (w : World) (kd : IntKind) (i : Int) (y : Nat) (code : BoundsCode) (h : 0 ≤ i ∧ i ≤ y) : (Instr.sliceBound (.int kd i) y code).run P w = .ok i.toNat w := by
  simp [Instr.sliceBound, asIntOf, h.1, h.2]
theorem bnd_rel {c : RC} {d : Int} {e : Option EV} {u : Option Value} {n : Int} (h : bnd d e = some n) (hs : e.isSome = u.isSome) (r : ∀ a v, e = some a → u = some v → a.rel c v) :
    (e = none ∧ u = none ∧ n = d) ∨ ∃ kd, u = some (.int kd n) := by
  unfold bnd at h
  split at h
  · cases h
    cases u with
    | none => exact .inl ⟨rfl, rfl, rfl⟩
    | some v => cases hs
  · rename_i kd m
    cases h
    cases u with
    | none => cases hs
    | some v => exact .inr ⟨kd, congrArg some (r _ v rfl rfl)⟩
  · cases h
section
variable {P : Program} {cx : Cx} (hT : ∀ t d, cx.tab t = some d → d.Fits P t) {c : RC} (hi : c.Inv) {k : EV → List (Nat × HObj) → Prop}
include hT hi
theorem run_bounds (isS : Bool) {len cap : Nat} {lo hi' : Option EV} {ul uh : Option Value} {l r : Int} (h1 : bnd 0 lo = some l) (h2 : bnd len hi' = some r) (s1 : lo.isSome = ul.isSome) (s2 : hi'.isSome = uh.isSome)
    (r1 : ∀ a v, lo = some a → ul = some v → a.rel c v) (r2 : ∀ a v, hi' = some a → uh = some v → a.rel c v) (h0 : 0 ≤ l) (hlr : l ≤ r) (hr : r ≤ (len : Int)) (hc : len ≤ cap) :
    (Instr.sliceBounds isS len cap ul uh none).run P c.w = .ok (l.toNat, r.toNat, cap) c.w := by
  have hb := fun kd (i : Int) (y : Nat) code (h : 0 ≤ i ∧ i ≤ y) => run_bound (P := P) c.w kd i y code h
  rcases bnd_rel h1 s1 r1 with ⟨rfl, rfl, rfl⟩ | ⟨k1, rfl⟩ <;> rcases bnd_rel h2 s2 r2 with ⟨rfl, rfl, rfl⟩ | ⟨k2, rfl⟩
  · simp [Instr.sliceBounds]
  · simp [Instr.sliceBounds, hb k2 r cap _ ⟨by omega, by omega⟩]
  · simp [Instr.sliceBounds, hb k1 l len _ ⟨h0, by omega⟩]
  · simp [Instr.sliceBounds, hb k2 r cap _ ⟨by omega, by omega⟩, hb k1 l r.toNat _ ⟨h0, by omega⟩]
theorem run_bounds3 (isS : Bool) {len cap : Nat} {lo hi' : Option EV} {m : EV} {ul uh : Option Value} {um : Value} {l r q : Int} (h1 : bnd 0 lo = some l) (h2 : bnd len hi' = some r) (h3 : bnd 0 (some m) = some q) (s1 : lo.isSome = ul.isSome) (s2 : uh.isSome = true) (s2' : hi'.isSome = uh.isSome)
    (r1 : ∀ a v, lo = some a → ul = some v → a.rel c v) (r2 : ∀ a v, hi' = some a → uh = some v → a.rel c v) (r3 : m.rel c um) (h0 : 0 ≤ l) (hlr : l ≤ r) (hr : r ≤ q) (hq : q ≤ (cap : Int)) :
    (Instr.sliceBounds isS len cap ul uh (some um)).run P c.w = .ok (l.toNat, r.toNat, q.toNat) c.w := by
  have hb := fun kd (i : Int) (y : Nat) code (h : 0 ≤ i ∧ i ≤ y) => run_bound (P := P) c.w kd i y code h
  rcases bnd_rel (u := some um) h3 rfl (fun a v e1 e2 => by cases e1; cases e2; exact r3) with ⟨h, _, _⟩ | ⟨k3, h3⟩
  · cases h
  · cases h3
    rcases bnd_rel h1 s1 r1 with ⟨rfl, rfl, rfl⟩ | ⟨k1, rfl⟩ <;> rcases bnd_rel h2 s2' r2 with ⟨rfl, rfl, rfl⟩ | ⟨k2, rfl⟩
    · cases s2
    · simp [Instr.sliceBounds, hb k3 q cap _ ⟨by omega, by omega⟩, hb k2 r q.toNat _ ⟨by omega, by omega⟩]
    · cases s2
    · simp [Instr.sliceBounds, hb k3 q cap _ ⟨by omega, by omega⟩, hb k2 r q.toNat _ ⟨by omega, by omega⟩, hb k1 l r.toNat _ ⟨h0, by omega⟩]
theorem opSlice_run {t : TypeId} {x : EV} {u : Value} {lo hi' mx : Option EV} {ul uh um : Option Value} (h : (opSlice cx c.heap t x lo hi' mx).wp k) (rx : x.rel c u) (s1 : lo.isSome = ul.isSome) (s2 : hi'.isSome = uh.isSome) (s3 : mx.isSome = um.isSome)
    (r1 : ∀ a v, lo = some a → ul = some v → a.rel c v) (r2 : ∀ a v, hi' = some a → uh = some v → a.rel c v) (r3 : ∀ a v, mx = some a → um = some v → a.rel c v) (hmx : um.isSome = true → uh.isSome = true) :
    Runs P c (Instr.sliceAt t u ul uh um) k := by
  unfold opSlice at h
  split at h
  · rename_i e sz by_ z kd ht
    have hf : P.underlying t = some (.slice e) := (hT t _ ht).k
    split at h
    case h_2 => exact h.elim
    rename_i ed he
    have hs := run_sizeOf hT hi he c.w
    split at h
    · rename_i ek xs0
      obtain ⟨xs, rfl⟩ : ∃ xs : List ek.T, xs = xs0 := ⟨xs0, rfl⟩
      split at h
      case isFalse => exact h.elim
      rename_i hsz
      have r2' : K.rep c.w c.ok (.slice ek) xs [u] := rx
      obtain ⟨A, cap, e1, hc, hm, hcase⟩ := r2'
      obtain rfl := (List.cons.inj e1).1
      split at h
      · rename_i l r hl hr
        obtain ⟨⟨h0, h1, h2⟩, h⟩ := h
        cases um with
        | some _ => cases s3
        | none =>
          have hb := run_bounds (P := P) hT hi true hl hr s1 s2 r1 r2 h0 h1 h2 hc
          have hlen : (List.take (r - l).toNat (List.drop l.toNat xs)).length = r.toNat - l.toNat := by rw [List.length_take, List.length_drop]; omega
          refine Runs.pure (v := .slice (if cap = l.toNat then A else A.map (·.add (l.toNat * ek.sz))) (r.toNat - l.toNat) (cap - l.toNat)) hi ?_ h ?_
          · simp [Instr.sliceAt, run_underlying hf, Instr.slice, hb, hs, hsz]
          · show K.rep c.w c.ok (.slice ek) _ [_]
            refine ⟨_, cap - l.toNat, by rw [hlen], by rw [hlen]; omega, by rw [hlen]; omega, ?_⟩
            by_cases hz : r.toNat - l.toNat = 0
            · left; exact List.eq_nil_of_length_eq_zero (by rw [hlen, hz])
            · right
              rcases hcase with rfl | ⟨b, off, vs, rfl, hok, hrows, hat⟩
              · simp at h2; omega
              · refine ⟨b, off + l.toNat * ek.sz, (vs.drop (l.toNat * ek.sz)).take ((r - l).toNat * ek.sz), ?_, hok, Rows.take (fun y cs => K.rep_len ek y cs) _ (Rows.drop (fun y cs => K.rep_len ek y cs) _ hrows), hat.sub _ _⟩
                rw [if_neg (by omega)]
                simp [Addr.add_none]
      · rename_i l r m hl hr
        split at h
        case h_2 => exact h.elim
        rename_i q hq
        obtain ⟨⟨rfl, rfl, rfl⟩, h⟩ := h
        cases um with
        | none => cases s3
        | some um =>
          have hb := run_bounds3 (P := P) hT hi true hl hr hq s1 (hmx rfl) s2 r1 r2 (r3 _ _ rfl rfl) (Int.le_refl _) (Int.le_refl _) (Int.le_refl _) (by omega : (0 : Int) ≤ (cap : Int))
          refine Runs.pure (v := .slice A 0 0) hi ?_ h ⟨A, rfl⟩
          simp [Instr.sliceAt, run_underlying hf, Instr.slice, hb, hs, hsz]
      · exact h.elim
    · rename_i id off len
      split at h
      case h_2 => exact h.elim
      rename_i m ty ek xs ho
      split at h
      case isFalse => exact h.elim
      rename_i hsz
      obtain ⟨A, cap, rfl, hc, hlx, hcase⟩ := osl_row (s := .junk) hT hi ho rx
      split at h
      · rename_i l r hl hr
        obtain ⟨⟨h0, h1, h2⟩, h⟩ := h
        cases um with
        | some _ => cases s3
        | none =>
          have hb := run_bounds (P := P) hT hi true hl hr s1 s2 r1 r2 h0 h1 h2 hc
          refine Runs.pure (v := .slice (if cap = l.toNat then A else A.map (·.add (l.toNat * ek.sz))) (r.toNat - l.toNat) (cap - l.toNat)) hi ?_ h ?_
          · simp [Instr.sliceAt, run_underlying hf, Instr.slice, hb, hs, hsz]
          · show SV.rel c (.osl id (off + l.toNat) (r - l).toNat) _
            simp only [SV.rel, ho]
            refine ⟨_, cap - l.toNat, by congr 1; omega, by omega, by omega, ?_⟩
            by_cases hz : cap = l.toNat
            · left; omega
            · rcases hcase with h0 | ⟨b, vs, hb1, rfl, hv, hvs⟩
              · omega
              · refine .inr ⟨b, vs, hb1, ?_, hv, ?_⟩
                · rw [if_neg hz]
                  simp [Addr.add_none, Nat.add_mul]
                · have : off + l.toNat + (cap - l.toNat) = off + cap := by omega
                  rw [this]; exact hvs
      · rename_i l r mm hl hr
        split at h
        case h_2 => exact h.elim
        rename_i q hq
        obtain ⟨⟨h0, h1, h2, rfl⟩, h⟩ := h
        cases um with
        | none => cases s3
        | some um =>
          have hb := run_bounds3 (P := P) hT hi true hl hr hq s1 (hmx rfl) s2 r1 r2 (r3 _ _ rfl rfl) h0 h1 (Int.le_refl _) (by omega : q ≤ (cap : Int))
          refine Runs.pure (v := .slice (if q.toNat = l.toNat then A else A.map (·.add (l.toNat * ek.sz))) (q.toNat - l.toNat) (q.toNat - l.toNat)) hi ?_ h ?_
          · simp [Instr.sliceAt, run_underlying hf, Instr.slice, hb, hs, hsz]
          · show SV.rel c (.osl id (off + l.toNat) (q - l).toNat) _
            simp only [SV.rel, ho]
            refine ⟨_, q.toNat - l.toNat, by congr 1; omega, by omega, by omega, ?_⟩
            by_cases hz : q.toNat = l.toNat
            · left; omega
            · rcases hcase with h0 | ⟨b, vs, hb1, rfl, hv, hvs⟩
              · omega
              · refine .inr ⟨b, vs, hb1, ?_, hv, ?_⟩
                · rw [if_neg hz]
                  simp [Addr.add_none, Nat.add_mul]
                · have : (off + l.toNat + (q.toNat - l.toNat)) * ek.sz ≤ (off + cap) * ek.sz := Nat.mul_le_mul_right _ (by omega)
                  omega
      · exact h.elim
    · exact h.elim
  · rename_i n e sz by_ z kd ht
    have hf : P.underlying t = some (.array n e) := (hT t _ ht).k
    split at h
    case h_2 => exact h.elim
    rename_i ed he
    have hs := run_sizeOf hT hi he c.w
    split at h
    case h_2 => exact h.elim
    rename_i id
    split at h
    case h_2 => exact h.elim
    rename_i m ty ek xs ho
    split at h
    case isFalse => exact h.elim
    rename_i hsz
    split at h
    case h_2 => exact h.elim
    rename_i l r hl hr
    obtain ⟨⟨h0, h1, h2, hn⟩, h⟩ := h
    obtain ⟨b, hb1, rfl⟩ := ref_obj hT hi ho rfl rx
    obtain ⟨hmx', vs, f, re, g1, g2, g3⟩ := row_obj hT hi ho hb1
    cases um with
    | some _ => cases s3
    | none =>
      have hb := run_bounds (P := P) hT hi false hl hr s1 s2 r1 r2 h0 h1 h2 (Nat.le_refl n)
      refine Runs.pure (v := .slice (some (if n = l.toNat then ⟨b, 0, none⟩ else (⟨b, 0, none⟩ : Addr).add (l.toNat * ek.sz))) (r.toNat - l.toNat) (n - l.toNat)) hi ?_ h ?_
      · simp [Instr.sliceAt, run_underlying hf, Instr.sureAddr, hb, hs, hsz]
      · show SV.rel c (.osl id l.toNat (r - l).toNat) _
        simp only [SV.rel, ho]
        refine ⟨_, n - l.toNat, by congr 1; omega, by omega, by omega, ?_⟩
        by_cases hz : n = l.toNat
        · left; omega
        · refine .inr ⟨b, vs, hb1, ?_, g1, ?_⟩
          · rw [if_neg hz]
            simp [Addr.add_none]
          · have : l.toNat + (n - l.toNat) = xs.length := by omega
            rw [this]
            have h3 := Rows.len (fun y cs => K.rep_len ek y cs) g3
            have h4 : vs.toList.length = f.length + re.length := by rw [g2, List.length_append]
            simp only [Array.length_toList] at h4
            omega
  · exact h.elim
end
end Go.Lift

set_option linter.unusedVariables false
set_option linter.unusedSimpArgs false
set_option linter.unusedSectionVars false
namespace Go.Lift
def opUn (op : UnOp) (v : EV) : Res := match op, v with
  | .neg, .x (.one (.val (.int k n))) => vI k (k.wrap (0 - n))
  | .xor, .x (.one (.val (.int k n))) => vI k (Go.bits .xor k (if k.signed then -1 else k.max) n)
  | .neg, .x (.one (.val (.float k b))) => .ret (.val (.float k (Op.negFloat k b))) []
  | .not, .x (.one (.val (.bool b))) => vB (!b)
  | _, _ => .fail
def F2I (s : FloatKind) (b : Nat) (d : IntKind) (n : Int) : Prop :=
  match (s.format.read b).toInt .zero with
  | some m => if d.min ≤ m ∧ m ≤ d.max then n = m else d.min ≤ n ∧ n ≤ d.max
  | none => d.min ≤ n ∧ n ≤ d.max
theorem in_range0 (d : IntKind) : d.min ≤ 0 ∧ 0 ≤ d.max := by cases d <;> decide
theorem F2I.ne (s : FloatKind) (b : Nat) (d : IntKind) : ∃ n, F2I s b d n := by
  unfold F2I
  split
  · split
    · exact ⟨_, rfl⟩
    · exact ⟨0, in_range0 d⟩
  · exact ⟨0, in_range0 d⟩
def F2F (s : FloatKind) (b : Nat) (d : FloatKind) (r : Nat) : Prop :=
  if s = d then r = b else
  match s.format.read b with
  | .nan _ _ => IsNaN d r
  | .infinity t => r = d.format.write (.infinity t)
  | .number t m e => if (d.format.read (d.format.write (.number t m e))).isInfinity then r < 2 ^ 32 else r = d.format.write (.number t m e)
theorem F2F.ne (s : FloatKind) (b : Nat) (d : FloatKind) : ∃ n, F2F s b d n := by
  unfold F2F
  split
  · exact ⟨_, rfl⟩
  · split
    · exact ⟨_, aNaN_is d⟩
    · exact ⟨_, rfl⟩
    · split
      · exact ⟨0, by decide⟩
      · exact ⟨_, rfl⟩
def opConv (cx : Cx) (s d : TypeId) (v : EV) : Res := match cx.tab s, cx.tab d, v with
  | some ⟨.int _, _, _, _, _⟩, some ⟨.int k, _, _, _, _⟩, .x (.one (.val (.int _ n))) => vI k (k.wrap n)
  | some ⟨.int _, _, _, _, _⟩, some ⟨.flt k, _, _, _, _⟩, .x (.one (.val (.int _ n))) => .ret (.val (.float k (k.nearest n))) []
  | some ⟨.flt _, _, _, _, _⟩, some ⟨.int k, _, _, _, _⟩, .x (.one (.val (.float s b))) => .all Int (F2I s b k) (F2I.ne s b k) fun n => .ret (.val (.int k n)) []
  | some ⟨.flt _, _, _, _, _⟩, some ⟨.flt k, _, _, _, _⟩, .x (.one (.val (.float s b))) => .all Nat (F2F s b k) (F2F.ne s b k) fun n => .ret (.val (.float k n)) []
  | _, _, _ => .fail
def imin (a b : Int) : Int := if b < a then b else a
def imax (a b : Int) : Int := if b > a then b else a
def foldMM (f : Int → Int → Int) (k : IntKind) : Int → List EV → Option Int
  | a, [] => some a
  | a, .x (.one (.val (.int j n))) :: r => if j = k then foldMM f k (f a n) r else none
  | _, _ => none
def opMM (f : Int → Int → Int) : List EV → Res
  | .x (.one (.val (.int k n))) :: r => match foldMM f k n r with
    | some m => vI k m
    | none => .fail
  | _ => .fail
def opNil (h : List HObj) (v : EV) : Res := match v with
  | .x (.one (.data (.ptr k) p)) => .ask (p ≠ none) fun _ => .ret v []
  | .x (.one (.ref id _)) => match h[id]? with | some (.box ..) | some (.row ..) => .ret v [] | _ => .fail
  | .x (.one (.eref id _ _)) => match h[id]? with | some (.row ..) => .ret v [] | _ => .fail
  | _ => .fail
def isNilPV : EV → Bool
  | .x (.one (.val v)) => isNilP v
  | _ => false
def eqL (xs ys : List Int) : Bool := decide (xs = ys)
def opEqA (cx : Cx) (neg : Bool) (n : Nat) (e : TypeId) (x y : EV) : Res := match cx.tab e, x, y with
  | some ⟨.int i, 1, _, _, _⟩, .x xv, .x yv => match xv.take [] (.arr n (.int i)), yv.take [] (.arr n (.int i)) with
    | some xs, some ys => (match neg with | true => vB (!(eqL xs ys)) | false => vB (eqL xs ys))
    | _, _ => .fail
  | _, _, _ => .fail
def opEq (cx : Cx) (h : List HObj) (neg : Bool) (t : TypeId) (x y : EV) : Res := match cx.tab t with
  | some ⟨.bool, _, _, _, _⟩ => match x, y with
    | .x (.one (.val (.bool a))), .x (.one (.val (.bool b))) => vB (if neg then a != b else a == b)
    | _, _ => .fail
  | some ⟨.ptr _, _, _, _, _⟩ => if isNilPV y then (match x with
    | .x (.one (.data (.ptr k) p)) => .br (Option.isNone (α := k.T) p) (vB (!neg)) (vB neg)
    | .x (.one (.ref id _)) => (match h[id]? with | some (.box ..) | some (.row ..) => vB neg | _ => .fail)
    | _ => .fail) else .fail
  | some ⟨.str, _, _, _, _⟩ => match bytesOf x, bytesOf y with
    | some a, some b => vB (if neg then !(decide (a = b)) else decide (a = b))
    | _, _ => .fail
  | some ⟨.arr n e, _, _, _, _⟩ => opEqA cx neg n e x y
  | some ⟨.slice _, _, _, _, _⟩ => (match x, y with
    | .x (.one (.data (.slice k) xs)), .x (.one (.val v)) => if isNilS v then .all Bool (fun b => b = true → List.length (α := k.T) xs = 0) ⟨false, fun e => by cases e⟩ fun b => vB (if neg then !b else b) else .fail
    | _, _ => .fail)
  | _ => .fail
def opBin (cx : Cx) (h : List HObj) (op : BinOp) (t : TypeId) (x y : EV) : Res := match x, y with
  | .x (.one (.val (.int k a))), .x (.one (.val (.int j b))) => binInt op k a j b
  | .x (.one (.val (.float k a))), .x (.one (.val (.float j b))) => binFlt op k a j b
  | x, y => match op with
    | .eql => opEq cx h false t x y
    | .neq => opEq cx h true t x y
    | _ => .fail
section
variable {P : Program} {cx : Cx} (hT : ∀ t d, cx.tab t = some d → d.Fits P t) {c : RC} (hi : c.Inv) {k : EV → List (Nat × HObj) → Prop}
include hT hi
theorem opUn_run {op : UnOp} {v : EV} {u : Value} (h : (opUn op v).wp k) (r : v.rel c u) : Runs P c (Op.unary op u) k := by
  unfold opUn at h
  split at h
  · rename_i kd n
    obtain rfl : u = .int kd n := r
    exact vI_run hi (by simp [Op.unary, Op.intArith]) h
  · rename_i kd n
    obtain rfl : u = .int kd n := r
    exact vI_run hi (by simp [Op.unary]; rfl) h
  · rename_i kd b
    obtain rfl : u = .float kd b := r
    exact Runs.pure hi (by simp [Op.unary]) h rfl
  · rename_i b
    obtain rfl : u = .bool b := r
    exact vB_run hi (by simp [Op.unary]) h
  · exact h.elim
theorem wrap_range (d : IntKind) (n : Int) : d.min ≤ d.wrap n ∧ d.wrap n ≤ d.max := by
  cases d <;> simp [IntKind.wrap, IntKind.min, IntKind.max, IntKind.bits, IntKind.signed] <;> omega
theorem opConv_run {s d : TypeId} {v : EV} {u : Value} (h : (opConv cx s d v).wp k) (r : v.rel c u) : Runs P c (convert s d u) k := by
  unfold opConv at h
  split at h
  · rename_i k0 _ _ _ _ kd _ _ _ _ k1 n hs hd
    have fs : P.underlying s = some (.int k0) := (hT s _ hs).k
    have fd : P.underlying d = some (.int kd) := (hT d _ hd).k
    obtain rfl : u = .int k1 n := r
    exact vI_run hi (by simp [convert, run_underlying fs, run_underlying fd, Conv.intToInt]) h
  · rename_i k0 _ _ _ _ kd _ _ _ _ k1 n hs hd
    have fs : P.underlying s = some (.int k0) := (hT s _ hs).k
    have fd : P.underlying d = some (.float kd) := (hT d _ hd).k
    obtain rfl : u = .int k1 n := r
    exact Runs.pure hi (by simp [convert, run_underlying fs, run_underlying fd, Conv.intToFloat]) h rfl
  · rename_i k0 _ _ _ _ kd _ _ _ _ k1 b hs hd
    have fs : P.underlying s = some (.float k0) := (hT s _ hs).k
    have fd : P.underlying d = some (.int kd) := (hT d _ hd).k
    obtain rfl : u = .float k1 b := r
    have e : (convert s d (.float k1 b)).run P c.w = (Conv.floatToInt k1 b kd).run P c.w := by simp [convert, run_underlying fs, run_underlying fd]
    have hfo : ∀ a b' e', (Question.floatToInt a b' e').forced = false := fun _ _ _ => rfl
    unfold Runs
    rw [e]
    unfold Conv.floatToInt FloatKind.decode
    have any : ∀ n, F2I k1 b kd n → k (.val (.int kd n)) [] := fun n hn => h n hn
    unfold F2I at any
    have many : (∀ n, kd.min ≤ n ∧ n ≤ kd.max → k (.val (.int kd n)) []) → ∃ v w', (do pure (.int kd (kd.wrap (← choose (.floatToInt k1 b kd)))) : Sem Value).run P c.w = .ok v w' ∧ Done c k v w' := by
      intro hk
      exact ⟨_, c.w.drew, by simp [hfo]; rfl, Done.drew hi (hk _ (wrap_range hT hi kd _)) rfl⟩
    split
    · rename_i m hm
      rw [hm] at any
      simp only at any
      split
      · rename_i hr
        simp only [if_pos hr] at any
        exact ⟨_, _, rfl, Done.pure hi (any m rfl) rfl⟩
      · rename_i hr
        simp only [if_neg hr] at any
        exact many any
    · rename_i hm
      rw [hm] at any
      exact many any
  · rename_i k0 _ _ _ _ kd _ _ _ _ k1 b hs hd
    have fs : P.underlying s = some (.float k0) := (hT s _ hs).k
    have fd : P.underlying d = some (.float kd) := (hT d _ hd).k
    obtain rfl : u = .float k1 b := r
    have e : (convert s d (.float k1 b)).run P c.w = (Conv.floatToFloat k1 b kd).run P c.w := by simp [convert, run_underlying fs, run_underlying fd]
    unfold Runs
    rw [e]
    unfold Conv.floatToFloat
    have any : ∀ n, F2F k1 b kd n → k (.val (.float kd n)) [] := fun n hn => h n hn
    unfold F2F at any
    split
    · rename_i hq
      simp only [if_pos hq] at any
      exact ⟨_, _, rfl, Done.pure hi (any b rfl) rfl⟩
    · rename_i hq
      simp only [if_neg hq] at any
      simp only [FloatKind.decode]
      split
      · rename_i s' t' hm
        rw [hm] at any
        have hfo : (Question.nanConv kd b).forced = false := rfl
        refine ⟨_, c.w.drew, by simp [hfo]; rfl, Done.drew hi (any _ ?_) rfl⟩
        cases kd
        · exact nan_cut_f32 0 0 _
        · exact nan_cut_f64 0 0 _
      · rename_i s' hm
        rw [hm] at any
        exact ⟨_, _, rfl, Done.pure hi (any _ rfl) rfl⟩
      · rename_i s' m' e' hm
        rw [hm] at any
        simp only [FloatKind.encode] at any ⊢
        by_cases hinf : (kd.format.read (kd.format.write (Ieee.Datum.number s' m' e'))).isInfinity = true
        · simp only [if_pos hinf] at any
          have hfo : (Question.floatToFloat b).forced = false := rfl
          refine ⟨.float kd ((Question.floatToFloat b).cut (c.w.tape c.w.drawn (.floatToFloat b))), c.w.drew, (congrArg (fun s : Sem Value => s.run P c.w) (if_pos hinf)).trans ?_, Done.drew hi (any _ (Nat.mod_lt _ (by decide))) rfl⟩
          simp [hfo]
        · simp only [if_neg hinf] at any
          exact ⟨_, c.w, (congrArg (fun s : Sem Value => s.run P c.w) (if_neg hinf)).trans rfl, Done.pure hi (any _ rfl) rfl⟩
  · exact h.elim
theorem foldMM_run (f : Int → Int → Int) (g : Value → Value → Sem Value) (hg : ∀ kd a b, g (.int kd a) (.int kd b) = pure (.int kd (f a b))) (kd : IntKind) : ∀ (r : List EV) (us : List Value) (a m : Int), foldMM f kd a r = some m → All2 (EV.rel c) r us →
    (us.foldlM g (.int kd a)).run P c.w = .ok (.int kd m) c.w
  | [], us, a, m, h, ha => by cases ha; cases h; rfl
  | x :: r, us, a, m, h, ha => by
    cases ha with
    | cons h1 h2 =>
      unfold foldMM at h
      split at h
      · rename_i h'; cases h'
      · rename_i j n r' he
        injection he with he1 he2
        subst he1; subst he2
        split at h
        · rename_i hj; subst hj
          obtain rfl : _ = Value.int j n := h1
          simp only [List.foldlM_cons, hg, Sem.run_bind, Sem.run_pure, Result.andThen_ok]
          exact foldMM_run f g hg j _ _ _ _ h h2
        · cases h
      · cases h
theorem opMax_run {ts : Array TypeId} {ty : TypeId} {vs : List EV} {us : Array Value} (h : (opMM imax vs).wp k) (r : All2 (EV.rel c) vs us.toList) : Runs P c (Builtin.max_ ts ty us) k := by
  unfold opMM at h
  split at h
  case h_2 => exact h.elim
  rename_i kd n rest
  split at h
  case h_2 => exact h.elim
  rename_i m hm
  cases hu : us.toList with
  | nil => rw [hu] at r; cases r
  | cons u us' =>
    rw [hu] at r
    cases r with
    | cons h1 h2 =>
      obtain rfl : u = .int kd n := h1
      refine vI_run hi ?_ h
      unfold Builtin.max_
      rw [hu]
      exact foldMM_run hT hi imax Builtin.max2 (fun _ _ _ => rfl) kd rest us' n m hm h2
theorem opMin_run {ts : Array TypeId} {ty : TypeId} {vs : List EV} {us : Array Value} (h : (opMM imin vs).wp k) (r : All2 (EV.rel c) vs us.toList) : Runs P c (Builtin.min_ ts ty us) k := by
  unfold opMM at h
  split at h
  case h_2 => exact h.elim
  rename_i kd n rest
  split at h
  case h_2 => exact h.elim
  rename_i m hm
  cases hu : us.toList with
  | nil => rw [hu] at r; cases r
  | cons u us' =>
    rw [hu] at r
    cases r with
    | cons h1 h2 =>
      obtain rfl : u = .int kd n := h1
      refine vI_run hi ?_ h
      unfold Builtin.min_
      rw [hu]
      exact foldMM_run hT hi imin Builtin.min2 (fun _ _ _ => rfl) kd rest us' n m hm h2
theorem opNil_rel {v : EV} {u : Value} (h : (opNil c.heap v).wp k) (r : v.rel c u) : (∃ a, u = .pointer (some a)) ∧ k v [] := by
  unfold opNil at h
  split at h
  · rename_i kd p
    obtain ⟨hp, h⟩ := h
    rcases (r : K.rep c.w c.ok (.ptr kd) p [u]) with ⟨h1, _⟩ | ⟨y, b, o, vs, h2, h3, _⟩
    · exact absurd h1 hp
    · exact ⟨⟨_, (List.cons.inj h3).1⟩, h⟩
  · rename_i id off
    split at h
    · rename_i m t cs ho
      obtain ⟨b, _, rfl⟩ := ref_obj hT hi ho rfl r
      exact ⟨⟨_, rfl⟩, h⟩
    · rename_i m t e xs ho
      obtain ⟨b, _, rfl⟩ := ref_obj hT hi ho rfl r
      exact ⟨⟨_, rfl⟩, h⟩
    · exact h.elim
  · rename_i id i off
    split at h
    · rename_i m t e xs ho
      obtain ⟨_, b, _, rfl⟩ := eref_row hT hi ho r
      exact ⟨⟨_, rfl⟩, h⟩
    · exact h.elim
  · exact h.elim
theorem equalIn_bool {d : Nat} {t : TypeId} (hf : P.underlying t = some .bool) (a b : Bool) (w : World) : (Op.equalIn (d + 1) t (.bool a) (.bool b)).run P w = .ok (a == b) w := by
  simp [Op.equalIn, run_underlying hf]
theorem equalIn_nil {d : Nat} {t e : TypeId} (hf : P.underlying t = some (.pointer e)) (a : Option Addr) (w : World) : (Op.equalIn (d + 1) t (.pointer a) (.pointer none)).run P w = .ok a.isNone w := by
  cases a <;> simp [Op.equalIn, run_underlying hf]
theorem equal_bool {t : TypeId} (hf : P.underlying t = some .bool) (a b : Bool) (w : World) : (Op.equal t (.bool a) (.bool b)).run P w = .ok (a == b) w :=
  equalIn_bool (d := 9999) hT hi hf a b w
theorem equal_nil {t e : TypeId} (hf : P.underlying t = some (.pointer e)) (a : Option Addr) (w : World) : (Op.equal t (.pointer a) (.pointer none)).run P w = .ok a.isNone w :=
  equalIn_nil (d := 9999) hT hi hf a w
theorem ints_rows {w : World} {ok : Nat → Prop} {i : IntKind} : ∀ {xs : List Int} {vs : List Value}, Rows (K.rep w ok (.int i)) xs vs → vs = xs.map (Value.int i)
  | [], _, h => h
  | x :: xs, _, ⟨c1, c2, e, h1, h2⟩ => by
    rw [e, show c1 = [.int i x] from h1, ints_rows h2]; rfl
theorem takeI_rel {xv : XV} {n : Nat} {i : IntKind} {xs : List Int} {u : Value} (h : xv.take [] (.arr n (.int i)) = some xs) (r : xv.rel c u) : u = .agg (xs.map (Value.int i)).toArray ∧ xs.length = n := by
  have hk := XV.take_repT hi (Tak.none c) h r
  unfold KRep at hk
  rw [if_pos (show (K.arr n (.int i)).agg = true from rfl)] at hk
  obtain ⟨vs, rfl, hl, hr⟩ := hk
  have := ints_rows hT hi hr
  refine ⟨?_, hl⟩
  rw [← this]
theorem opEqA_parts {neg : Bool} {n : Nat} {e : TypeId} {x y : EV} {u uy : Value} (h : (opEqA cx neg n e x y).wp k) (rx : x.rel c u) (ry : y.rel c uy) :
    ∃ (i : IntKind) (xs ys : List Int), P.underlying e = some (.int i) ∧ xs.length = n ∧ ys.length = n ∧ u = .agg (xs.map (Value.int i)).toArray ∧ uy = .agg (ys.map (Value.int i)).toArray ∧
      (match neg with | true => vB (!(eqL xs ys)) | false => vB (eqL xs ys)).wp k ∧ ∃ inf, P.info? e = some inf ∧ inf.size = 1 := by
  unfold opEqA at h
  split at h
  · rename_i i b z kd xv yv he
    split at h
    · rename_i xs ys h1 h2
      obtain ⟨a1, a2⟩ := takeI_rel hT hi h1 rx
      obtain ⟨b1, b2⟩ := takeI_rel hT hi h2 ry
      obtain ⟨inf, z, g1, g2, _⟩ := (hT e _ he).info
      exact ⟨i, xs, ys, (hT e _ he).k, a2, b2, a1, b1, h, inf, g1, g2⟩
    · exact h.elim
  · exact h.elim
theorem run_eqItems_ints {e : TypeId} {i : IntKind} (he : P.underlying e = some (.int i)) (d : Nat) (xs ys : List Int) (w : World) : ∀ (is : List Nat), (∀ j ∈ is, j < xs.length ∧ j < ys.length) →
    (Op.eqItems (d + 1) e 1 (xs.map (Value.int i)).toArray (ys.map (Value.int i)).toArray is).run P w = .ok (is.all fun j => xs[j]? == ys[j]?) w
  | [], _ => by simp [Op.eqItems]
  | j :: is, hj => by
    obtain ⟨h1, h2⟩ := hj j List.mem_cons_self
    have p : ∀ (l : List Int), (hl : j < l.length) → (part e (l.map (Value.int i)).toArray (j * 1)).run P w = .ok (.int i l[j]) w := by
      intro l hl
      simp [part, isAgg, run_underlying he, hl]
    simp only [Op.eqItems, Sem.run_bind, p xs h1, p ys h2, Result.andThen_ok, run_equalIn_int w d e i i _ _ he, List.all_cons, List.getElem?_eq_getElem h1, List.getElem?_eq_getElem h2]
    have ih := run_eqItems_ints he d xs ys w is (fun q hq => hj q (List.mem_cons_of_mem _ hq))
    by_cases q : xs[j] = ys[j]
    · simp [q, ih]
    · simp [q]
theorem all_eq (xs ys : List Int) (h : xs.length = ys.length) : ((List.range xs.length).all fun j => xs[j]? == ys[j]?) = decide (xs = ys) := by
  rw [Bool.eq_iff_iff, decide_eq_true_eq, List.all_eq_true]
  constructor
  · intro q
    apply List.ext_getElem?
    intro j
    rcases Nat.lt_or_ge j xs.length with g | g
    · have := q j (List.mem_range.2 g); simpa using this
    · rw [List.getElem?_eq_none g, List.getElem?_eq_none (by omega)]
  · intro q j _; rw [q]; simp
theorem opEqA_run {neg : Bool} {t e : TypeId} {n : Nat} {x y : EV} {u uy : Value} (hf : P.underlying t = some (.array n e)) (h : (opEqA cx neg n e x y).wp k) (rx : x.rel c u) (ry : y.rel c uy) :
    Runs P c (binOp (if neg then .neq else .eql) t u uy) k := by
  obtain ⟨i, xs, ys, he, hl1, hl2, rfl, rfl, h, inf, hinf, hsz⟩ := opEqA_parts hT hi h rx ry
  have hc : P.cellsOf e = 1 := by unfold Program.cellsOf; rw [hinf]; simpa using hsz
  have hrun : (Op.equalIn 10000 t (.agg (xs.map (Value.int i)).toArray) (.agg (ys.map (Value.int i)).toArray)).run P c.w = .ok (decide (xs = ys)) c.w := by
    rw [show (10000 : Nat) = 9998 + 1 + 1 from rfl, run_equalIn_array c.w (9998 + 1) _ _ hf hinf, hc]
    have := run_eqItems_ints hT hi he 9998 xs ys c.w (List.range n) (fun j hj => by have := List.mem_range.1 hj; omega)
    rw [this, ← all_eq hT hi xs ys (by omega), hl1]
  cases neg
  · refine vB_run hi ?_ h
    rw [if_neg (by decide), run_eql_struct, hrun]; rfl
  · refine vB_run hi ?_ h
    rw [if_pos rfl, run_neq_struct, hrun]; rfl
theorem opEq_guard {neg : Bool} {t : TypeId} {x y : EV} {u uy : Value} (h : (opEq cx c.heap neg t x y).wp k) (rx : x.rel c u) (ry : y.rel c uy) (op : BinOp) (ox oy : Operand) :
    (eqGuard op t ox oy u uy).run P c.w = .ok () c.w := by
  unfold opEq at h
  split at h
  · split at h
    · rename_i a b
      obtain rfl : u = .bool a := rx
      rw [eqGuard_at_bool]; rfl
    · exact h.elim
  · split at h
    · split at h
      · rename_i kd p
        rcases (rx : K.rep c.w c.ok (.ptr kd) p [u]) with ⟨_, h2⟩ | ⟨_, b, o, _, _, h3, _⟩
        · obtain rfl := (List.cons.inj h2).1; rw [eqGuard_at_pointer]; rfl
        · obtain rfl := (List.cons.inj h3).1; rw [eqGuard_at_pointer]; rfl
      · rename_i id off
        split at h
        · rename_i m t' cs ho
          obtain ⟨b, _, rfl⟩ := ref_obj hT hi ho rfl rx
          rw [eqGuard_at_pointer]; rfl
        · rename_i m t' e' xs ho
          obtain ⟨b, _, rfl⟩ := ref_obj hT hi ho rfl rx
          rw [eqGuard_at_pointer]; rfl
        · exact h.elim
      · exact h.elim
    · exact h.elim
  · split at h
    · rename_i a b ha hb
      obtain ⟨s, rfl, _⟩ := bytesOf_rel ha rx
      rw [eqGuard_at_string]; rfl
    · exact h.elim
  · rename_i n e sz by_ z kd ht
    obtain ⟨i, xs, ys, he, _, _, hx, hy, h⟩ := opEqA_parts hT hi h rx ry
    subst hx; subst hy
    have hg : P.eqGuardType P.depth t = false := by
      have hd : P.depth = (2 * (P.types.size + Made.depth)) + 1 + 1 := rfl
      have hk : P.underlying t = some (.array n e) := (hT t _ ht).k
      rw [hd]
      simp only [Program.eqGuardType, hk, he]
    exact run_eqGuard_agg c.w op t ox oy _ _ hg
  · split at h
    · obtain ⟨A, cap, e1, _⟩ := rx
      obtain rfl := (List.cons.inj e1).1
      rw [eqGuard_at_slice]; rfl
    · exact h.elim
  · exact h.elim
theorem strBytes_inj {a b : ByteArray} (h : strBytes a = strBytes b) : a = b := by
  unfold strBytes at h
  have h2 : a.data.toList = b.data.toList := by
    refine (List.map_inj_right ?_).1 h
    intro x y hxy
    have : x.toNat = y.toNat := by omega
    exact UInt8.toNat_inj.1 this
  cases a; cases b
  simp at h2
  simp [h2]
theorem beq_bytes (a b : ByteArray) : (a.toList == b.toList) = decide (strBytes a = strBytes b) := by
  rw [ByteArray.toList_eq, ByteArray.toList_eq, Bool.eq_iff_iff, beq_iff_eq, decide_eq_true_eq]
  constructor
  · intro h; unfold strBytes; rw [h]
  · intro h; rw [strBytes_inj hT hi h]
theorem opEq_run {neg : Bool} {t : TypeId} {x y : EV} {u uy : Value} (h : (opEq cx c.heap neg t x y).wp k) (rx : x.rel c u) (ry : y.rel c uy) :
    Runs P c (binOp (if neg then .neq else .eql) t u uy) k := by
  unfold opEq at h
  split at h
  · rename_i sz by_ z kd ht
    have hf : P.underlying t = some .bool := (hT t _ ht).k
    split at h
    · rename_i a b
      obtain rfl : u = .bool a := rx
      obtain rfl : uy = .bool b := ry
      refine vB_run hi ?_ h
      cases neg <;> simp [binOp, equal_bool hT hi hf]
      · cases a <;> cases b <;> rfl
    · exact h.elim
  · rename_i e sz by_ z kd ht
    have hf : P.underlying t = some (.pointer e) := (hT t _ ht).k
    split at h
    case isFalse => exact h.elim
    rename_i hn
    have hy : uy = .pointer none := by
      unfold isNilPV at hn
      split at hn
      · rename_i v
        obtain rfl : uy = v := ry
        exact isNilP_eq hn
      · cases hn
    subst hy
    have some_ : ∀ a : Addr, (binOp (if neg then .neq else .eql) t (.pointer (some a)) (.pointer none)).run P c.w = .ok (.bool neg) c.w := by
      intro a
      cases neg <;> simp [binOp, equal_nil hT hi hf]
    split at h
    · rename_i kd p
      rcases (rx : K.rep c.w c.ok (.ptr kd) p [u]) with ⟨h1, h2⟩ | ⟨y, b, o, vs, h2, h3, _⟩
      · obtain rfl := (List.cons.inj h2).1
        subst h1
        refine vB_run hi ?_ (Br.t h rfl)
        cases neg <;> simp [binOp, equal_nil hT hi hf]
      · obtain rfl := (List.cons.inj h3).1
        subst h2
        exact vB_run hi (some_ _) (Br.f h rfl)
    · rename_i id off
      split at h
      · rename_i m t' cs ho
        obtain ⟨b, _, rfl⟩ := ref_obj hT hi ho rfl rx
        exact vB_run hi (some_ _) h
      · rename_i m t' e' xs ho
        obtain ⟨b, _, rfl⟩ := ref_obj hT hi ho rfl rx
        exact vB_run hi (some_ _) h
      · exact h.elim
    · exact h.elim
  · rename_i sz by_ z kd ht
    have hf : P.underlying t = some .string := (hT t _ ht).k
    split at h
    · rename_i a b ha hb
      obtain ⟨s1, rfl, rfl⟩ := bytesOf_rel ha rx
      obtain ⟨s2, rfl, rfl⟩ := bytesOf_rel hb ry
      refine vB_run hi ?_ h
      cases neg <;> simp [binOp, Op.stringOp, beq_bytes hT hi]
    · exact h.elim
  · rename_i n e sz by_ z kd ht
    exact opEqA_run hT hi (hT t _ ht).k h rx ry
  · rename_i e sz by_ z kd ht
    have hf : P.underlying t = some (.slice e) := (hT t _ ht).k
    split at h
    · rename_i kd xs v
      split at h
      case isFalse => exact h.elim
      rename_i hn
      obtain rfl : uy = v := ry
      rw [isNilS_eq hn]
      obtain ⟨A, cap, e1, _, _, e2⟩ := rx
      obtain rfl := (List.cons.inj e1).1
      have eq1 : ∀ (d : Nat), (Op.equalIn (d + 1) t (.slice A (List.length (α := kd.T) xs) cap) (.slice none 0 0)).run P c.w = .ok A.isNone c.w := fun d => by
        cases A <;> simp [Op.equalIn, run_underlying hf]
      have eq2 : (Op.equal t (.slice A (List.length (α := kd.T) xs) cap) (.slice none 0 0)).run P c.w = .ok A.isNone c.w := eq1 9999
      refine vB_run hi ?_ (h A.isNone fun ha => ?_)
      · cases neg <;> simp [binOp, eq2]
      · rcases e2 with e2 | ⟨b, o, vs, e2, _⟩
        · rw [e2]; rfl
        · rw [e2] at ha; cases ha
    · exact h.elim
  · exact h.elim
theorem opBin_run {op : BinOp} {t : TypeId} {x y : EV} {u uy : Value} (h : (opBin cx c.heap op t x y).wp k) (rx : x.rel c u) (ry : y.rel c uy) (ox oy : Operand) :
    Runs P c (do eqGuard op t ox oy u uy; binOp op t u uy) k := by
  unfold opBin at h
  split at h
  · rename_i kd a j b
    obtain rfl : u = .int kd a := rx
    obtain rfl : uy = .int j b := ry
    rw [eqGuard_at_int]
    exact binInt_run hi op t kd j a b h
  · rename_i kd a j b
    obtain rfl : u = .float kd a := rx
    obtain rfl : uy = .float j b := ry
    rw [eqGuard_at_float]
    exact binFlt_run hi op t kd j a b h
  · split at h
    · have g := opEq_guard hT hi h rx ry .eql ox oy
      obtain ⟨v, w', h1, h2⟩ := opEq_run hT hi (neg := false) h rx ry
      exact ⟨v, w', by rw [Sem.run_bind, g]; exact h1, h2⟩
    · have g := opEq_guard hT hi h rx ry .neq ox oy
      obtain ⟨v, w', h1, h2⟩ := opEq_run hT hi (neg := true) h rx ry
      exact ⟨v, w', by rw [Sem.run_bind, g]; exact h1, h2⟩
    · exact h.elim
end
def strAt (s : ByteArray) (n : Int) : Int := match s[n.toNat]? with
  | some b => b.toNat
  | none => 0
def opIndex (cx : Cx) (t : TypeId) (x i : EV) : Res := match cx.tab t with
  | some ⟨.str, _, _, _, _⟩ => match x, i with
    | .x (.one (.val (.string s))), .x (.one (.val (.int _ n))) => .ask (0 ≤ n ∧ n < (s.size : Int)) fun _ => vI .u8 (strAt s n)
    | _, _ => .fail
  | some ⟨.arr m e, _, _, _, _⟩ => match x, i, cx.tab e with
    | .x xv, .x (.one (.val (.int _ n))), some ed => match ed.kind with
      | some ek => match xv.take [] (.arr m ek) with
        | some xs => .ask (0 ≤ n ∧ n < (m : Int)) fun _ => .ret (.x (XV.ofData ek (List.getD (α := ek.T) xs n.toNat ek.dflt))) []
        | none => .fail
      | none => .fail
    | _, _, _ => .fail
  | _ => .fail
section
variable {P : Program} {cx : Cx} (hT : ∀ t d, cx.tab t = some d → d.Fits P t) {c : RC} (hi : c.Inv) {k : EV → List (Nat × HObj) → Prop}
include hT hi
theorem opIndex_run {t : TypeId} {x i : EV} {u v : Value} (h : (opIndex cx t x i).wp k) (hx : x.rel c u) (hv : i.rel c v) : Runs P c (Instr.index t u v) k := by
  unfold opIndex at h
  split at h
  · rename_i ht
    have hf : P.underlying t = some .string := (hT t _ ht).k
    split at h
    · rename_i s kd n
      obtain ⟨⟨h1, h2⟩, h⟩ := h
      obtain rfl : u = .string s := hx
      obtain rfl : v = .int kd n := hv
      have hlt : n.toNat < s.size := by omega
      refine vI_run hi ?_ h
      have hs : s[n.toNat]? = some s[n.toNat] := by simp [hlt]
      simp [Instr.index, asIntOf, run_underlying hf, h1, hs, strAt]
    · exact h.elim
  · rename_i m e sz by_ z kd ht
    have hf : P.underlying t = some (.array m e) := (hT t _ ht).k
    split at h
    · rename_i xv _ n ed he
      split at h
      · rename_i ek hk
        split at h
        · rename_i xs0 hxs
          obtain ⟨xs, rfl⟩ : ∃ l : List ek.T, l = xs0 := ⟨xs0, rfl⟩
          obtain ⟨⟨h1, h2⟩, h⟩ := h
          obtain rfl : v = .int _ n := hv
          obtain ⟨k1, k2, _⟩ := (hT e ed he).kind ek hk
          have hr := XV.take_repT hi (Tak.none c) hxs (hx : xv.rel c u)
          unfold KRep at hr
          rw [if_pos (by rfl)] at hr
          obtain ⟨cs, rfl, hl, hrows⟩ := hr
          have hlt : n.toNat < m := by omega
          have hlen : xs.length = m := hl
          have hget := Rows.get (fun y cs => K.rep_len ek y cs) hrows n.toNat _ (List.getElem?_eq_getElem (by omega : n.toNat < xs.length))
          have hd : List.getD xs n.toNat ek.dflt = xs[n.toNat] := by rw [List.getD, List.getElem?_eq_getElem (by omega)]; rfl
          rw [hd] at h
          have hcl := Rows.len (fun y cs => K.rep_len ek y cs) hrows
          have hin : n.toNat * ek.sz + ek.sz ≤ cs.size := by
            have : (n.toNat + 1) * ek.sz ≤ m * ek.sz := Nat.mul_le_mul_right _ hlt
            rw [Nat.add_mul, Nat.one_mul] at this
            rw [hlen, Array.length_toList] at hcl
            omega
          have hs := run_sizeOf hT hi he c.w
          have hsz : ed.sz = ek.sz := k1.symm
          cases hag : ek.agg with
          | true =>
            rw [hag] at k2
            have ha := run_isAgg hT hi he k2 c.w
            refine Runs.pure hi (v := .agg (cs.extract (n.toNat * ek.sz) (n.toNat * ek.sz + ek.sz))) ?_ h ?_
            · simp [Instr.index, asIntOf, run_underlying hf, h1, h2, hs, hsz, part, ha]
            · refine XV.ofData_rel ?_
              unfold KRep
              rw [if_pos hag]
              refine ⟨_, rfl, ?_⟩
              have e1 : (cs.extract (n.toNat * ek.sz) (n.toNat * ek.sz + ek.sz)).toList = (cs.toList.drop (n.toNat * ek.sz)).take ek.sz := by
                rw [Array.toList_extract]
                simp [List.extract, List.drop_take]
              rw [e1]; exact hget
          | false =>
            rw [hag] at k2
            have ha := run_isAgg hT hi he k2 c.w
            have h1' := K.one_of hag
            rw [h1'] at hget hin hsz
            have hlt2 : n.toNat * 1 < cs.size := by omega
            have e1 : (cs.toList.drop (n.toNat * 1)).take 1 = [cs[n.toNat * 1]] := by
              rw [List.drop_eq_getElem_cons (by simpa using hlt2)]; simp
            rw [e1] at hget
            refine Runs.pure hi (v := cs[n.toNat * 1]) ?_ h ?_
            · have hq : cs[n.toNat]? = some (cs[n.toNat * 1]) := by simp
              simp [Instr.index, asIntOf, run_underlying hf, h1, h2, hs, hsz, part, ha, hq]
            · refine XV.ofData_rel ?_
              unfold KRep
              rw [if_neg (by simp [hag])]
              exact hget
        · exact h.elim
      · exact h.elim
    · exact h.elim
  · exact h.elim
end
end Go.Lift

set_option linter.unusedVariables false
set_option linter.unusedSimpArgs false
set_option linter.unusedSectionVars false
namespace Go.Lift
def fillA (h : List HObj) (place : Nat → Option (Nat × Nat)) : List SV → List Nat → List EV → Option (List SV)
  | cs, [], [] => some cs
  | cs, i :: is, .x v :: r => match place i, v.cells h with
    | some (off, size), some us => if us.length = size ∧ off + size ≤ cs.length then fillA h place (cs.take off ++ us ++ cs.drop (off + us.length)) is r else none
    | _, _ => none
  | _, _, _ => none
def placeOf' (cx : Cx) (k : TK) (i : Nat) : Option (Nat × Nat) := match k with
  | .struct fs => match fs[i]? with
    | some (off, ft) => match cx.tab ft with
      | some d => some (off, d.sz)
      | none => none
    | none => none
  | .arr _ e => match cx.tab e with
    | some d => some (i * d.sz, d.sz)
    | none => none
  | _ => none
def tabAll (cx : Cx) : List (Nat × TypeId) → Bool
  | [] => true
  | (_, ft) :: fs => match cx.tab ft with
    | some _ => tabAll cx fs
    | none => false
def partsKnown (cx : Cx) : TK → Bool
  | .struct fs => tabAll cx fs
  | .arr _ e => match cx.tab e with
    | some _ => true
    | none => false
  | _ => false
def opBuild (cx : Cx) (h : List HObj) (t : TypeId) (is : List Nat) (vs : List EV) : Res := match cx.tab t with
  | some d => if partsKnown cx d.k then (match fillA h (placeOf' cx d.k) (d.zero.map .val) is vs with
    | some cs => .ret (.x (.agg cs)) []
    | none => .fail) else .fail
  | none => .fail
theorem put_cells (us : Array Value) (off : Nat) (cs : Array Value) (hl : off + us.size ≤ cs.size) :
    (us.zipIdx.foldl (fun cs (x : Value × Nat) => cs.setIfInBounds (off + x.2) x.1) cs).toList = cs.toList.take off ++ us.toList ++ cs.toList.drop (off + us.size) := by
  have key : ∀ (l : List Value) (n : Nat) (cs : Array Value), off + n + l.length ≤ cs.size →
      ((l.zipIdx n).foldl (fun (cs : Array Value) (x : Value × Nat) => cs.setIfInBounds (off + x.2) x.1) cs).toList = cs.toList.take (off + n) ++ l ++ cs.toList.drop (off + n + l.length) := by
    intro l
    induction l with
    | nil => intro n cs _; simp
    | cons v l ih =>
      intro n cs h
      simp only [List.zipIdx_cons, List.foldl_cons, List.length_cons] at h ⊢
      rw [ih (n + 1) _ (by simp; omega)]
      simp only [Array.toList_setIfInBounds]
      apply List.ext_getElem?
      intro j
      have hsz : off + n < cs.toList.length := by simp; omega
      rw [List.getElem?_append, List.getElem?_append, List.getElem?_append, List.getElem?_append]
      simp only [List.length_append, List.length_take, List.length_cons, List.length_set, List.getElem?_take, List.getElem?_drop, List.getElem?_set]
      have hcs : cs.toList.length = cs.size := by simp
      by_cases h1 : j < off + n
      · rw [if_pos (by omega), if_pos (by omega), if_pos (by omega), if_neg (by omega), if_pos (by omega), if_pos (by omega), if_pos (by omega)]
      · by_cases h2 : j = off + n
        · subst h2
          rw [if_pos (by omega), if_pos (by omega), if_pos (by omega), if_pos rfl, if_pos (by omega), if_pos (by omega), if_neg (by omega)]
          simp [show off + n - min (off + n) cs.size = 0 by omega]
        · by_cases h3 : j < off + n + 1 + l.length
          · rw [if_pos (by omega), if_neg (by omega), if_pos (by omega), if_neg (by omega)]
            rw [show j - min (off + n) cs.toList.length = (j - min (off + (n + 1)) cs.toList.length) + 1 by omega, List.getElem?_cons_succ]
          · rw [if_neg (by omega), if_neg (by omega), if_neg (by omega)]
            congr 1; omega
  have e : us.zipIdx = (us.toList.zipIdx 0).toArray := by
    apply Array.ext'; simp
  rw [e, List.foldl_toArray]
  have := key us.toList 0 cs (by simpa using hl)
  simpa using this
theorem fillA_run {c : RC} {place : Nat → Option (Nat × Nat)} : ∀ {is : List Nat} {vs : List EV} {cs cs' : List SV} {us : List Value} {zs : Array Value}, fillA c.heap place cs is vs = some cs' → All2 (EV.rel c) vs us → All2 (SV.rel c) cs zs.toList →
    ∃ zs', Instr.fill place zs (is.zip us) = some zs' ∧ All2 (SV.rel c) cs' zs'.toList := by
  intro is
  induction is with
  | nil =>
    intro vs cs cs' us zs h hv hz
    cases vs with
    | nil => cases hv; cases h; exact ⟨zs, rfl, hz⟩
    | cons v vs => cases h
  | cons i is ih =>
    intro vs cs cs' us zs h hv hz
    cases vs with
    | nil => cases h
    | cons v vs =>
      cases v with
      | tup _ => cases h
      | x v =>
        simp only [fillA] at h
        split at h
        · rename_i off size us1 hp hu
          split at h
          · rename_i hq
            cases hv with
            | cons h1 h2 =>
              rename_i u us2
              obtain ⟨g1, _⟩ := XV.cells_rel hu h1
              have hl := g1.len
              have hzl := hz.len
              have hsz : u.cells.size = size := by have : u.cells.toList.length = u.cells.size := by simp
                                                   omega
              have hzs : zs.toList.length = zs.size := by simp
              simp only [List.zip_cons_cons, Instr.fill, hp]
              rw [if_neg (by simp [hsz]; omega)]
              refine ih h h2 ?_
              rw [put_cells _ _ _ (by omega)]
              rw [show off + u.cells.size = off + us1.length by omega]
              exact All2.append (All2.append (hz.take off) g1) (hz.drop _)
          · cases h
        · cases h
section
variable {P : Program} {cx : Cx} (hT : ∀ t d, cx.tab t = some d → d.Fits P t) {c : RC} (hi : c.Inv) {k : EV → List (Nat × HObj) → Prop}
include hT hi
theorem opBuild_run {t : TypeId} {parts : Array (Nat × Value)} {vs : List EV} (h : (opBuild cx c.heap t (parts.toList.map (·.1)) vs).wp k) (r : All2 (EV.rel c) vs (parts.toList.map (·.2))) : Runs P c (Instr.build t parts) k := by
  unfold opBuild at h
  split at h
  · rename_i d hd
    split at h
    · rename_i hpk
      split at h
      · rename_i cs hcs
        have F := hT t d hd
        obtain ⟨i, z, h1, h2, h3, h4, h5, h6⟩ := F.info
        have hzip : (parts.toList.map (·.1)).zip (parts.toList.map (·.2)) = parts.toList := by
          rw [List.zip_map']; simp
        have hz : All2 (SV.rel c) (d.zero.map .val) z.cells.toList := by rw [h5]; exact All2.vals c _
        obtain ⟨zs, g1, g2⟩ := fillA_run hcs r hz
        rw [hzip] at g1
        have hzv : (zeroValue t).run P c.w = .ok z c.w := by simp [zeroValue, typeInfo, h1, h4]
        have tabAll_at : ∀ (fs : List (Nat × TypeId)), tabAll cx fs = true → ∀ f ∈ fs, ∃ d, cx.tab f.2 = some d := by
          intro fs
          induction fs with
          | nil => intro _ f hf; cases hf
          | cons g fs ih =>
            intro ht f hf
            obtain ⟨o, ft⟩ := g
            simp only [tabAll] at ht
            split at ht
            · rename_i d' hd'
              rcases List.mem_cons.1 hf with rfl | hf
              · exact ⟨d', hd'⟩
              · exact ih ht f hf
            · cases ht
        have run : (Instr.build t parts).run P c.w = .ok (.agg zs) c.w := by
          have hk := F.k
          cases hkk : d.k with
          | struct fs =>
            rw [hkk] at hk hpk g1
            obtain ⟨fields, hf, hfs⟩ := hk
            have places : ∀ (l : List Field), (∀ f ∈ l, ∃ d, cx.tab f.type = some d) → (l.mapM fun f => (do pure (f.offset, ← sizeOf f.type) : Sem (Nat × Nat))).run P c.w = .ok (l.map fun f => (f.offset, ((cx.tab f.type).map (·.sz)).getD 0)) c.w := by
              intro l
              induction l with
              | nil => intro _; rw [List.mapM_nil]; rfl
              | cons f l ih =>
                intro hall
                obtain ⟨fd, hfd⟩ := hall f List.mem_cons_self
                obtain ⟨fi, _, q1, q2, _⟩ := (hT _ fd hfd).info
                rw [List.mapM_cons]
                have hs : (sizeOf f.type).run P c.w = .ok fd.sz c.w := by simp [sizeOf, typeInfo, q1, q2]
                simp only [Sem.run_bind, Sem.run_pure, hs, Result.andThen, ih (fun f hf => hall f (List.mem_cons_of_mem _ hf))]
                simp only [List.map_cons, hfd, Option.map_some, Option.getD_some]
            have hall : ∀ f ∈ fields.toList, ∃ d, cx.tab f.type = some d := by
              intro f hf
              have : (f.offset, f.type) ∈ fs := by rw [← hfs]; exact List.mem_map.2 ⟨f, hf, rfl⟩
              exact tabAll_at fs hpk _ this
            have hp := places fields.toList hall
            have hplace : (fun i => ((fields.toList.map fun f => (f.offset, ((cx.tab f.type).map (·.sz)).getD 0)).toArray)[i]?) = placeOf' cx (.struct fs) := by
              funext j
              unfold placeOf'
              rw [← hfs]
              simp only [List.getElem?_toArray, List.getElem?_map]
              cases hj : fields.toList[j]? with
              | none => rfl
              | some f =>
                obtain ⟨fd, hfd⟩ := hall f (List.mem_of_getElem? hj)
                simp [hfd]
            rw [← hplace] at g1
            have hp2 : (fields.mapM fun f => (do pure (f.offset, ← sizeOf f.type) : Sem (Nat × Nat))).run P c.w = .ok ((fields.toList.map fun f => (f.offset, ((cx.tab f.type).map (·.sz)).getD 0)).toArray) c.w := by
              have e : (fields.mapM fun f => (do pure (f.offset, ← sizeOf f.type) : Sem (Nat × Nat))) = (do
                  let l ← fields.toList.mapM fun f => (do pure (f.offset, ← sizeOf f.type) : Sem (Nat × Nat))
                  pure l.toArray) := by
                have e1 : fields = fields.toList.toArray := by simp
                conv => lhs; rw [e1]
                rw [List.mapM_toArray, map_eq_pure_bind]
              rw [e]
              simp only [Sem.run_bind, hp, Result.andThen, Sem.run_pure]
            simp only [Instr.build, Sem.run_bind, hzv, Result.andThen, run_underlying hf, hp2]
            rw [g1]
            rfl
          | arr n e =>
            rw [hkk] at hk hpk g1
            have hk' : P.underlying t = some (.array n e) := hk
            simp only [partsKnown] at hpk
            split at hpk
            · rename_i ed he
              obtain ⟨ei, _, q1, q2, _⟩ := (hT e ed he).info
              have hs : (sizeOf e).run P c.w = .ok ed.sz c.w := by simp [sizeOf, typeInfo, q1, q2]
              have hplace : (fun i => some (i * ed.sz, ed.sz)) = placeOf' cx (.arr n e) := by funext j; simp [placeOf', he]
              rw [← hplace] at g1
              simp only [Instr.build, Sem.run_bind, hzv, Result.andThen, run_underlying hk', hs]
              rw [g1]
              rfl
            · cases hpk
          | _ => rw [hkk] at hpk; cases hpk
        exact Runs.pure hi run h ⟨zs, rfl, g2⟩
      · exact h.elim
    · exact h.elim
  · exact h.elim
end
end Go.Lift

set_option linter.unusedVariables false
set_option linter.unusedSimpArgs false
set_option linter.unusedSectionVars false
namespace Go.Lift
def mget (y : Int × Int) : List ((Int × Int) × Int) → Option Int
  | [] => none
  | p :: l => if p.1 = y then some p.2 else mget y l
def mput (y : Int × Int) (v : Int) : List ((Int × Int) × Int) → List ((Int × Int) × Int)
  | [] => [(y, v)]
  | p :: l => if p.1 = y then (y, v) :: l else p :: mput y v l
def mapK (cx : Cx) (t : TypeId) : Option (IntKind × IntKind × IntKind) := match cx.tab t with
  | some ⟨.map kt et, _, _, _, _⟩ => match cx.tab kt, cx.tab et with
    | some ⟨.struct [(0, a), (1, b)], _, _, _, _⟩, some ⟨.int l, _, _, _, _⟩ => match cx.tab a, cx.tab b with
      | some ⟨.int i, _, _, _, _⟩, some ⟨.int j, _, _, _, _⟩ => some (i, j, l)
      | _, _ => none
    | _, _ => none
  | _ => none
def isIntE : Option EV → Bool
  | none => true
  | some (.x (.one (.val (.int _ _)))) => true
  | _ => false
def opMakeMap (cx : Cx) (t : TypeId) (n : Option EV) (tgt : Nat) : Res := match mapK cx t, isIntE n with
  | some (i, j, l), true => .ret (.x (.one (.mref tgt))) [(tgt, .mp .rw (.pair (.int i) (.int j)) (.int l) [])]
  | _, _ => .fail
def mapOf (h : List HObj) (i j l : IntKind) : EV → Option (List ((Int × Int) × Int))
  | .x (.one (.mref id)) => match h[id]? with
    | some (.mp _ (.pair (.int i') (.int j')) (.int l') xs) => if i' = i ∧ j' = j ∧ l' = l then some xs else none
    | _ => none
  | .x (.one (.data (.map (.pair (.int i') (.int j')) (.int l')) xs)) => if i' = i ∧ j' = j ∧ l' = l then some xs else none
  | _ => none
def opMapUpdate (cx : Cx) (h : List HObj) (t : TypeId) (m k v : EV) : Res := match mapK cx t, m, k, v with
  | some (i, j, l), .x (.one (.mref id)), .x kx, .x (.one (.val (.int l2 z))) => match h[id]? with
    | some (.mp .rw (.pair (.int i') (.int j')) (.int l') xs) => if i' = i ∧ j' = j ∧ l' = l ∧ l2 = l then (match kx.take [] (.pair (.int i) (.int j)) with
      | some y => .ret (.tup []) [(id, .mp .rw (.pair (.int i') (.int j')) (.int l') (mput y z xs))]
      | none => .fail) else .fail
    | _ => .fail
  | _, _, _, _ => .fail
def opLookup (cx : Cx) (h : List HObj) (t : TypeId) (m k : EV) (two : Bool) : Res := match mapK cx t, k with
  | some (i, j, l), .x kx => match mapOf h i j l m, kx.take [] (.pair (.int i) (.int j)) with
    | some xs, some y => (match two with
      | true => .ret (.tup [.one (.val (.int l ((mget y xs).getD 0))), .one (.val (.bool (mget y xs).isSome))]) []
      | false => vI l ((mget y xs).getD 0))
    | _, _ => .fail
  | _, _ => .fail
structure MWrote (w w' : World) (b : Nat) (o : Obj) : Prop where
  size : w'.heap.size = w.heap.size
  os : w'.os = w.os
  tape : w'.tape = w.tape
  output : w'.output = w.output
  there : w'.heap[b]? = some o
  others : ∀ (i : Nat), i ≠ b → w'.heap[i]? = w.heap[i]?
theorem Ext.storeM {c : RC} {w' : World} {id b : Nat} {o o' : HObj} {es : Array MapEntry} {ck : Nat} {ob : Obj} (ho : c.heap[id]? = some o) (hm : o.md? = some .rw) (hb : c.blk id = some b)
    (hv : c.w.heap[b]? = some (.map es ck)) (hw : MWrote c.w w' b ob) (hev : o.ev o') :
    Ext c { c with w := w', heap := c.heap.set id o' } where
  base := rfl
  size := Nat.le_of_eq hw.size.symm
  os := hw.os
  tape := hw.tape
  output := hw.output
  keep i hi hn := hw.others i fun e => hn (e ▸ ⟨id, o, ho, hm, hb⟩)
  cells i us t' z h := by
    by_cases e : i = b
    · subst e
      rw [hv] at h; cases h
    · exact ⟨us, z, (hw.others i e).trans h, rfl, .inl rfl⟩
  blk _ _ _ _ := rfl
  ev i oi hi := by
    by_cases e : id = i
    · subst e; rw [ho] at hi; cases hi; exact ⟨o', set_eq ho, hev⟩
    · exact ⟨oi, (set_ne e).trans hi, oi.ev_refl⟩
  fresh i oi bi hoi hl hn hbi hlt := by
    rcases set_get hoi with ⟨rfl, rfl, _⟩ | ⟨h, h'⟩
    · exact absurd (HObj.live_of_md hm) (hn o ho)
    · exact absurd hl (hn oi h')
theorem RC.Inv.storeM {c : RC} {w' : World} {id b : Nat} {o o' : HObj} {es : Array MapEntry} {ck : Nat} {ob : Obj} (hi : c.Inv) (ho : c.heap[id]? = some o) (hm : o.md? = some .rw) (hb : c.blk id = some b)
    (hv : c.w.heap[b]? = some (.map es ck)) (hw : MWrote c.w w' b ob) (hev : o.ev o')
    (hr : o'.rel { c with w := w', heap := c.heap.set id o' } id) : RC.Inv { c with w := w', heap := c.heap.set id o' } where
  objs i oi hoi := by
    rcases set_get hoi with ⟨rfl, rfl, _⟩ | ⟨h, h'⟩
    · exact hr
    · refine HObj.rel_mono (Ext.storeM ho hm hb hv hw hev) h' (fun bi hbi hl => hw.others bi fun e => ?_) (hi.objs i oi h')
      subst e
      exact h (hi.inj id i o oi bi ho (HObj.live_of_md hm) h' hl hb hbi)
  inj i j oi oj bi hoi hli hoj hlj hbi hbj := by
    have lift : ∀ (k : Nat) (ok : HObj), (c.heap.set id o')[k]? = some ok → ok.live → ∃ o2, c.heap[k]? = some o2 ∧ o2.live := by
      intro k ok hk hl
      rcases set_get hk with ⟨rfl, rfl, _⟩ | ⟨_, h'⟩
      · exact ⟨o, ho, HObj.live_of_md hm⟩
      · exact ⟨ok, h', hl⟩
    obtain ⟨o1, h1, l1⟩ := lift i oi hoi hli
    obtain ⟨o2, h2, l2⟩ := lift j oj hoj hlj
    exact hi.inj i j o1 o2 bi h1 l1 h2 l2 hbi hbj
  base i oi bi hoi hl hbi := by
    rcases set_get hoi with ⟨rfl, rfl, _⟩ | ⟨_, h'⟩
    · exact hi.base id o bi ho (HObj.live_of_md hm) hbi
    · exact hi.base i oi bi h' hl hbi
  basele := by show c.base ≤ w'.heap.size; rw [hw.size]; exact hi.basele
def keyV (i j : IntKind) (y : Int × Int) : Value := .agg #[.int i y.1, .int j y.2]
theorem key_of {w : World} {ok : Nat → Prop} {i j : IntKind} {y : Int × Int} {v : Value} (h : KV (K.pair (.int i) (.int j)).agg ((K.pair (.int i) (.int j)).rep w ok) y v) : v = keyV i j y := by
  obtain ⟨vs, rfl, c1, c2, e, h1, h2⟩ := h
  have h1 : c1 = [.int i y.1] := h1
  have h2 : c2 = [.int j y.2] := h2
  subst h1; subst h2
  unfold keyV
  congr 1
  apply Array.ext'
  exact e
theorem of_key {w : World} {ok : Nat → Prop} {i j : IntKind} {y : Int × Int} : KV (K.pair (.int i) (.int j)).agg ((K.pair (.int i) (.int j)).rep w ok) y (keyV i j y) :=
  ⟨_, rfl, [_], [_], rfl, rfl, rfl⟩
theorem val_of {w : World} {ok : Nat → Prop} {l : IntKind} {z : Int} {v : Value} (h : KV (K.int l).agg ((K.int l).rep w ok) z v) : v = .int l z := (List.cons.inj (show [v] = [.int l z] from h)).1
theorem of_val {w : World} {ok : Nat → Prop} {l : IntKind} {z : Int} : KV (K.int l).agg ((K.int l).rep w ok) z (.int l z) := rfl
structure MapTy (P : Program) (t kt et : TypeId) (i j l : IntKind) : Prop where
  u : P.underlying t = some (.map kt et)
  held : P.stoodInHeld kt = false
  fs : ∃ f g : Field, P.underlying kt = some (.struct #[f, g]) ∧ f.name ≠ "_" ∧ g.name ≠ "_" ∧ f.offset = 0 ∧ g.offset = 1 ∧ P.underlying f.type = some (.int i) ∧ P.underlying g.type = some (.int j)
  e : P.underlying et = some (.int l)
  z : ∃ inf, P.info? et = some inf ∧ inf.zero = some (.int l 0)
theorem mapK_ty {P : Program} {cx : Cx} (hT : ∀ t d, cx.tab t = some d → d.Fits P t) {t : TypeId} {i j l : IntKind} (h : mapK cx t = some (i, j, l)) : ∃ kt et, MapTy P t kt et i j l := by
  unfold mapK at h
  split at h
  · rename_i kt et _ _ _ _ ht
    split at h
    · rename_i a b _ _ _ _ l' _ _ _ _ hk he
      split at h
      · rename_i i' _ _ _ _ j' _ _ _ _ ha hb
        cases h
        obtain ⟨h1, h2, h3, h4⟩ := (hT t _ ht).k
        have e := (hT et _ he).k
        obtain ⟨fields, hf, hm⟩ := (hT kt _ hk).k
        have hl : ∃ f g : Field, fields.toList = [f, g] := by
          rcases hq : fields.toList with _ | ⟨f, _ | ⟨g, _ | ⟨x, r⟩⟩⟩ <;> rw [hq] at hm <;> simp at hm
          exact ⟨f, g, rfl⟩
        obtain ⟨f, g, hl⟩ := hl
        have hfs : fields = #[f, g] := Array.ext' hl
        rw [hl] at hm
        simp at hm
        obtain ⟨⟨m1, m2⟩, m3, m4⟩ := hm
        have n := h3 fields hf
        rw [hl] at n
        subst hfs
        refine ⟨kt, et, h1, h2, ⟨f, g, hf, n f (by simp), n g (by simp), m1, m3, ?_, ?_⟩, e, h4 l e⟩
        · rw [m2]; exact (hT a _ ha).k
        · rw [m4]; exact (hT b _ hb).k
      · cases h
    · cases h
  · cases h
section
variable {P : Program} {t kt et : TypeId} {i j l : IntKind} (T : MapTy P t kt et i j l)
include T
theorem key_part (y : Int × Int) (w : World) : ∃ f g : Field, P.underlying kt = some (.struct #[f, g]) ∧ f.name ≠ "_" ∧ g.name ≠ "_" ∧ P.underlying f.type = some (.int i) ∧ P.underlying g.type = some (.int j) ∧
    ∀ (y : Int × Int) (w : World), (part f.type #[.int i y.1, .int j y.2] f.offset).run P w = .ok (.int i y.1) w ∧ (part g.type #[.int i y.1, .int j y.2] g.offset).run P w = .ok (.int j y.2) w := by
  obtain ⟨f, g, h1, h2, h3, h4, h5, h6, h7⟩ := T.fs
  refine ⟨f, g, h1, h2, h3, h6, h7, fun y w => ⟨?_, ?_⟩⟩
  · simp [part, isAgg, run_underlying h6, h4]
  · simp [part, isAgg, run_underlying h7, h5]
theorem key_equal (x y : Int × Int) (w : World) : (Op.equal kt (keyV i j x) (keyV i j y)).run P w = .ok (decide (x = y)) w := by
  obtain ⟨f, g, h1, h2, h3, h4, h5, h6⟩ := key_part T x w
  have hf : P.fieldsOf kt = #[f, g] := by simp [Program.fieldsOf, h1]
  unfold Op.equal Op.maxDepth keyV
  rw [show (10000 : Nat) = 9998 + 1 + 1 from rfl, run_equalIn_agg w (9998 + 1) kt _ _ (by rw [hf]; exact h1) T.held, hf]
  obtain ⟨p1, p2⟩ := h6 x w
  obtain ⟨p3, p4⟩ := h6 y w
  have hd : decide (x = y) = (x.1 == y.1 && x.2 == y.2) := by
    rw [Bool.eq_iff_iff, decide_eq_true_eq, Bool.and_eq_true, beq_iff_eq, beq_iff_eq, Prod.ext_iff]
  rw [hd]
  simp only [Op.eqFields, h2, h3, ne_eq, not_false_eq_true, if_true, Sem.run_bind, p1, p3, Result.andThen_ok, run_equalIn_int w 9998 _ i i _ _ h4]
  cases (x.1 == y.1) with
  | false => simp
  | true =>
    simp only [Bool.not_true, Bool.false_eq_true, if_false, Sem.run_bind, p2, p4, Result.andThen_ok, run_equalIn_int w 9998 _ j j _ _ h5]
    cases (x.2 == y.2) <;> simp
theorem key_check (em : Bool) (y : Int × Int) (w : World) : (Instr.checkKey em 10000 kt (keyV i j y)).run P w = .ok () w := by
  obtain ⟨f, g, h1, h2, h3, h4, h5, h6⟩ := key_part T y w
  have ci : ∀ (n : Nat) (ft : TypeId) (ik : IntKind) (z : Int), P.underlying ft = some (.int ik) → (Instr.checkKey em (n + 1) ft (.int ik z)).run P w = .ok () w := by
    intro n ft ik z hu
    unfold Instr.checkKey
    simp [run_underlying hu]
  unfold keyV
  rw [show (10000 : Nat) = 9998 + 1 + 1 from rfl, Instr.checkKey]
  simp only [Sem.run_bind, run_underlying h1, Result.andThen_ok]
  rw [← Array.forIn_toList]
  simp only [List.forIn_cons, List.forIn_nil, h2, h3, ne_eq, not_false_eq_true, if_true, Sem.run_bind, (h6 y w).1, (h6 y w).2, ci 9998 _ _ _ h4, ci 9998 _ _ _ h5, Result.andThen_ok, Sem.run_pure]
theorem key_find (y : Int × Int) (es : List MapEntry) (w : World) : (Instr.findKey kt (keyV i j y) es).run P w = (Instr.findAsking kt (keyV i j y) es 0).run P w := by
  obtain ⟨f, g, h1, _⟩ := key_part T y w
  unfold Instr.findKey
  simp only [Sem.run_bind, run_underlying h1, Result.andThen_ok]
  cases es with
  | nil => simp [Instr.findNow, Instr.findAsking]
  | cons e es => simp [Instr.findNow, Instr.sameNow]
theorem key_search {w0 : World} {ok : Nat → Prop} (y : Int × Int) (v : Int) (w : World) : ∀ (xs : List ((Int × Int) × Int)) (es : List MapEntry) (n : Nat), Ents (KV (K.pair (.int i) (.int j)).agg ((K.pair (.int i) (.int j)).rep w0 ok)) (KV (K.int l).agg ((K.int l).rep w0 ok)) xs es →
    (mget y xs = none ∧ (Instr.findAsking kt (keyV i j y) es n).run P w = .ok none w ∧ ∀ bo, Ents (KV (K.pair (.int i) (.int j)).agg ((K.pair (.int i) (.int j)).rep w0 ok)) (KV (K.int l).agg ((K.int l).rep w0 ok)) (mput y v xs) (es ++ [⟨keyV i j y, .int l v, bo⟩])) ∨
    ∃ z q e, mget y xs = some z ∧ (Instr.findAsking kt (keyV i j y) es n).run P w = .ok (some (n + q, e.val)) w ∧ es[q]? = some e ∧ e.val = .int l z ∧ e.key = keyV i j y ∧
      Ents (KV (K.pair (.int i) (.int j)).agg ((K.pair (.int i) (.int j)).rep w0 ok)) (KV (K.int l).agg ((K.int l).rep w0 ok)) (mput y v xs) (es.set q { e with key := keyV i j y, val := .int l v })
  | [], es, n, h => by
    obtain rfl : es = [] := h
    exact .inl ⟨rfl, by simp [Instr.findAsking], fun bo => ⟨_, [], rfl, of_key, of_val, rfl⟩⟩
  | x :: xs, es, n, h => by
    obtain ⟨e, r, rfl, h1, h2, h3⟩ := h
    have hk := key_of h1
    have hv := val_of h2
    by_cases q : x.1 = y
    · right
      refine ⟨x.2, 0, e, by simp [mget, q], ?_, rfl, hv, by rw [hk, q], ?_⟩
      · simp [Instr.findAsking, hk, key_equal T, q]
      · simp only [mput, q, if_true, List.set_cons_zero]
        exact ⟨_, r, rfl, of_key, of_val, h3⟩
    · have hne : (decide (y = x.1)) = false := decide_eq_false fun z => q z.symm
      have hstep : (Instr.findAsking kt (keyV i j y) (e :: r) n).run P w = (Instr.findAsking kt (keyV i j y) r (n + 1)).run P w := by
        simp [Instr.findAsking, hk, key_equal T, hne]
      rcases key_search y v w xs r (n + 1) h3 with ⟨a1, a2, a3⟩ | ⟨z, p, e', a1, a2, a3, a4, a5, a6⟩
      · refine .inl ⟨by simp [mget, q, a1], by rw [hstep, a2], fun bo => ?_⟩
        simp only [mput, q, if_false]
        exact ⟨e, _, rfl, h1, h2, a3 bo⟩
      · refine .inr ⟨z, p + 1, e', by simp [mget, q, a1], by rw [hstep, a2]; congr 3; omega, by simpa using a3, a4, a5, ?_⟩
        simp only [mput, q, if_false, List.set_cons_succ]
        exact ⟨e, _, rfl, h1, h2, a6⟩
end
section
variable {P : Program} {cx : Cx} (hT : ∀ t d, cx.tab t = some d → d.Fits P t) {c : RC} (hi : c.Inv) {k : EV → List (Nat × HObj) → Prop} {tgt : Nat}
include hT hi
theorem keyT_rel {kx : XV} {i j : IntKind} {y : Int × Int} {u : Value} (h : kx.take [] (.pair (.int i) (.int j)) = some y) (r : kx.rel c u) : u = keyV i j y := by
  have := XV.take_repT hi (Tak.none c) h r
  exact key_of (w := c.w) (ok := c.ok) this
theorem opMakeMap_run (hp : c.heap[tgt]? = some .pend) {t : TypeId} {n : Option EV} {un : Option Value} (h : (opMakeMap cx t n tgt).wp k) (r : ∀ e, n = some e → ∃ u, un = some u ∧ e.rel c u) (r0 : n = none → un = none) : Runs P c (Instr.makeMap t un) k := by
  unfold opMakeMap at h
  split at h
  · rename_i i j l hk hn
    obtain ⟨kt, et, T⟩ := mapK_ty hT hk
    have run : (Instr.makeMap t un).run P c.w = .ok (.map (some c.w.heap.size)) (c.w.alloc (.map #[] 0)) := by
      cases n with
      | none => rw [r0 rfl]; simp [Instr.makeMap, newObj, Sem.run]
      | some e =>
        obtain ⟨u, rfl, hr⟩ := r e rfl
        unfold isIntE at hn
        split at hn
        · rename_i e0; cases e0
        · rename_i ik z e0
          cases e0
          obtain rfl : u = .int ik z := hr
          simp [Instr.makeMap, newObj, run_underlying T.u, asInt, asIntOf, Sem.run]
        · cases hn
    have hg : Grows c.w (c.w.alloc (.map #[] 0)) := Grows.alloc _ _
    have hb : ∀ b, some c.w.heap.size = some b → c.w.heap.size ≤ b := fun b e => by cases e; exact Nat.le_refl _
    have he := Ext.put (o := .mp .rw (.pair (.int i) (.int j)) (.int l) []) hg hp hb
    have hblk : (c.put (c.w.alloc (.map #[] 0)) tgt (.mp .rw (.pair (.int i) (.int j)) (.int l) []) (some c.w.heap.size)).blk tgt = some c.w.heap.size := by show upd c.blk tgt _ tgt = _; simp [upd]
    have hhp : (c.put (c.w.alloc (.map #[] 0)) tgt (.mp .rw (.pair (.int i) (.int j)) (.int l) []) (some c.w.heap.size)).heap[tgt]? = some (.mp .rw (.pair (.int i) (.int j)) (.int l) []) := set_eq hp
    refine ⟨_, _, run, .x (.one (.mref tgt)), _, _, h, rfl, rfl, he, RC.Inv.put hi hg hp hb ?_, ?_⟩
    · refine ⟨_, #[], 0, hblk, ?_, rfl⟩
      exact heap_alloc_new _ _
    · show SV.rel _ (.mref tgt) _
      simp only [SV.rel, hhp]
      exact ⟨_, hblk, rfl⟩
  · exact h.elim
theorem opMapUpdate_run {t : TypeId} {m kx v : EV} {um uk uv : Value} (h : (opMapUpdate cx c.heap t m kx v).wp k) (rm : m.rel c um) (rk : kx.rel c uk) (rv : v.rel c uv) : RunsU P c (Instr.mapUpdate t um uk uv) k := by
  unfold opMapUpdate at h
  split at h
  · rename_i i j l id ky l2 z hk
    obtain ⟨kt, et, T⟩ := mapK_ty hT hk
    split at h
    · rename_i i' j' l' xs ho
      split at h
      · rename_i hq
        obtain ⟨rfl, rfl, rfl, rfl⟩ := hq
        split at h
        · rename_i y hy
          obtain rfl := keyT_rel hT hi hy rk
          obtain rfl : uv = .int _ z := rv
          have rm' : SV.rel c (.mref id) um := rm
          simp only [SV.rel, ho] at rm'
          obtain ⟨b, hb, rfl⟩ := rm'
          obtain ⟨b', es, ck, hb', hv, hes⟩ := hi.objs id _ ho
          rw [hb] at hb'; cases hb'
          have hlt : b < c.w.heap.size := lt_of_some hv
          have wrote : ∀ o : Obj, MWrote c.w { c.w with heap := c.w.heap.setIfInBounds b o } b o := fun o =>
            ⟨by simp, rfl, rfl, rfl, by simp [hlt], fun i hi => by simp [Ne.symm hi]⟩
          have fin : ∀ (es' : Array MapEntry) (ck' : Nat), Ents (KV (K.pair (.int i') (.int j')).agg ((K.pair (.int i') (.int j')).rep c.w c.ok)) (KV (K.int l2).agg ((K.int l2).rep c.w c.ok)) (mput y z xs) es'.toList →
              Done c k undef { c.w with heap := c.w.heap.setIfInBounds b (.map es' ck') } := by
            intro es' ck' he'
            have hev : (HObj.mp .rw (.pair (.int i') (.int j')) (.int l2) xs).ev (.mp .rw (.pair (.int i') (.int j')) (.int l2) (mput y z xs)) := .inr ⟨.rw, _, rfl, .inl rfl⟩
            have E := Ext.storeM ho rfl hb hv (wrote (.map es' ck')) hev
            refine ⟨.tup [], _, _, h, rfl, rfl, E, RC.Inv.storeM hi ho rfl hb hv (wrote _) hev ?_, ⟨#[], rfl, .nil⟩⟩
            exact ⟨b, es', ck', hb, (wrote _).there, Ents.mono (fun _ _ => KV.mono fun x cs => K.rep_mono E.ok _ x cs) (fun _ _ => KV.mono fun x cs => K.rep_mono E.ok _ x cs) he'⟩
          rcases key_search T y z c.w xs es.toList 0 hes with ⟨a1, a2, a3⟩ | ⟨z0, q, e, a1, a2, a3, a4, a5, a6⟩
          · refine ⟨_, ?_, fin (es.push ⟨keyV i' j' y, .int l2 z, ck⟩) (ck + 1) (by simpa using a3 ck)⟩
            simp [Instr.mapUpdate, run_underlying T.u, MapKept.run_getObj_map hv, key_check T false y c.w, key_find T y es.toList c.w, a2, MapKept.run_setObj_map _ hv]
          · refine ⟨_, ?_, fin (es.modify q fun e => { e with key := keyV i' j' y, val := .int l2 z }) ck ?_⟩
            · have hst : (Instr.keyThatStays (keyV i' j' y) (keyV i' j' y)).run P c.w = .ok (keyV i' j' y) c.w := by
                have : Instr.sameBits 10000 (keyV i' j' y) (keyV i' j' y) = true := by
                  show Instr.sameBits (9998 + 1 + 1) (.agg #[_, _]) (.agg #[_, _]) = true
                  simp [Instr.sameBits]
                simp [Instr.keyThatStays, this]
              have a3' : es[q]? = some e := by simpa using a3
              simp [Instr.mapUpdate, run_underlying T.u, MapKept.run_getObj_map hv, key_check T false y c.w, key_find T y es.toList c.w, a2, a3', a5, hst, MapKept.run_setObj_map _ hv]
            · have : (es.modify q fun e => { e with key := keyV i' j' y, val := .int l2 z }).toList = es.toList.set q { e with key := keyV i' j' y, val := .int l2 z } := by
                apply List.ext_getElem?
                intro p
                simp only [Array.toList_modify, List.getElem?_modify, List.getElem?_set]
                by_cases hpq : q = p
                · subst hpq
                  have hlt2 : q < es.toList.length := by
                    rcases Nat.lt_or_ge q es.toList.length with g | g
                    · exact g
                    · rw [List.getElem?_eq_none g] at a3; cases a3
                  have a3' : es[q]? = some e := by simpa using a3
                  have hlt3 : q < es.size := by simpa using hlt2
                  simp only [if_true, a3, hlt2]
                  rfl
                · simp [hpq]
              rw [this]; exact a6
        · exact h.elim
      · exact h.elim
    · exact h.elim
  · exact h.elim
theorem mapOf_rel {i j l : IntKind} {m : EV} {xs : List ((Int × Int) × Int)} {um : Value} (h : mapOf c.heap i j l m = some xs) (r : m.rel c um) :
    (um = .map none ∧ xs = []) ∨ ∃ b es ck, um = .map (some b) ∧ c.w.heap[b]? = some (.map es ck) ∧ Ents (KV (K.pair (.int i) (.int j)).agg ((K.pair (.int i) (.int j)).rep c.w c.ok)) (KV (K.int l).agg ((K.int l).rep c.w c.ok)) xs es.toList := by
  unfold mapOf at h
  split at h
  · rename_i id
    split at h
    · rename_i md i' j' l' ys ho
      split at h
      · rename_i q
        obtain ⟨rfl, rfl, rfl⟩ := q
        cases h
        have r' : SV.rel c (.mref id) um := r
        simp only [SV.rel, ho] at r'
        obtain ⟨b, hb, rfl⟩ := r'
        obtain ⟨b', es, ck, hb', hv, hes⟩ := hi.objs id _ ho
        rw [hb] at hb'; cases hb'
        exact .inr ⟨b, es, ck, rfl, hv, hes⟩
      · cases h
    · cases h
  · rename_i i' j' l' ys
    split at h
    · rename_i q
      obtain ⟨rfl, rfl, rfl⟩ := q
      cases h
      have r' : K.rep c.w c.ok (.map (.pair (.int i') (.int j')) (.int l')) xs [um] := r
      rcases r' with ⟨e1, e2⟩ | ⟨b, es, ck, e1, _, hv, hes⟩
      · exact .inl ⟨(List.cons.inj e2).1, e1⟩
      · exact .inr ⟨b, es, ck, (List.cons.inj e1).1, hv, hes⟩
    · cases h
  · cases h
theorem opLookup_run {t : TypeId} {m kx : EV} {um uk : Value} {two : Bool} (h : (opLookup cx c.heap t m kx two).wp k) (rm : m.rel c um) (rk : kx.rel c uk) : Runs P c (Instr.lookup t um uk two) k := by
  unfold opLookup at h
  split at h
  · rename_i i j l ky hk
    obtain ⟨kt, et, T⟩ := mapK_ty hT hk
    split at h
    · rename_i xs y hx hy
      obtain rfl := keyT_rel hT hi hy rk
      have hz : (zeroValue et).run P c.w = .ok (.int l 0) c.w := by
        obtain ⟨inf, g1, g2⟩ := T.z
        simp [zeroValue, typeInfo, g1, g2]
      have run : (Instr.lookup t um (keyV i j y) two).run P c.w = .ok (if two then .tuple #[.int l ((mget y xs).getD 0), .bool (mget y xs).isSome] else .int l ((mget y xs).getD 0)) c.w := by
        rcases mapOf_rel hT hi hx rm with ⟨rfl, rfl⟩ | ⟨b, es, ck, rfl, hv, hes⟩
        · have hf : (Instr.findKey kt (keyV i j y) []).run P c.w = .ok none c.w := by
            rw [key_find T y [] c.w]; simp [Instr.findAsking]
          cases two <;> simp [Instr.lookup, run_underlying T.u, key_check T true y c.w, hf, hz, mget]
        · rcases key_search T y 0 c.w xs es.toList 0 hes with ⟨a1, a2, _⟩ | ⟨z0, q, e, a1, a2, a3, a4, _, _⟩
          · cases two <;> simp [Instr.lookup, run_underlying T.u, MapKept.run_getObj_map hv, key_check T es.isEmpty y c.w, key_find T y es.toList c.w, a2, hz, a1]
          · cases two <;> simp [Instr.lookup, run_underlying T.u, MapKept.run_getObj_map hv, key_check T es.isEmpty y c.w, key_find T y es.toList c.w, a2, a4, a1]
      split at h
      · refine Runs.pure hi (by rw [run, if_pos rfl]) h ?_
        exact ⟨_, rfl, .cons rfl (.cons rfl .nil)⟩
      · refine vI_run hi (by rw [run, if_neg (by decide)]) h
    · exact h.elim
  · exact h.elim
end
end Go.Lift

set_option linter.unusedVariables false
set_option linter.unusedSimpArgs false
set_option linter.unusedSectionVars false
namespace Go.Lift
def opConvS (cx : Cx) (h : List HObj) (s : TypeId) (v : EV) : Res := match cx.tab s, v with
  | some ⟨.slice e, _, _, _, _⟩, .x (.one (.osl id 0 len)) => match cx.tab e, h[id]? with
    | some ⟨.int .u8, _, _, _, _⟩, some (.row .rw _ (.int .u8) xs) => .ask (1 ≤ len ∧ len = List.length xs) fun _ => .ret (.dat (.slice (.int .u8)) xs) [(id, .dead)]
    | _, _ => .fail
  | some ⟨.slice e, _, _, _, _⟩, .x (.one (.osx id len)) => match cx.tab e, h[id]? with
    | some ⟨.int .u8, _, _, _, _⟩, some (.row .rw _ (.int .u8) xs) => .ask (1 ≤ len ∧ len = List.length xs) fun _ => .ret (.x (.one (.full (.int .u8) xs))) [(id, .dead)]
    | _, _ => .fail
  | _, _ => .fail
theorem Ext.mark {c : RC} {w' : World} {id b : Nat} {ty : TypeId} {e : K} {xs : List e.T} {vs : Array Value} {z : Nat × Nat} (hi : c.Inv) (ho : c.heap[id]? = some (.row .rw ty e xs)) (hb : c.blk id = some b) (hv : c.w.heap[b]? = some (.cells vs ty (0, 0)))
    (hs : w'.heap.size = c.w.heap.size) (hos : w'.os = c.w.os) (ht : w'.tape = c.w.tape) (hout : w'.output = c.w.output) (others : ∀ i, i ≠ b → w'.heap[i]? = c.w.heap[i]?) (there : w'.heap[b]? = some (.cells vs ty z)) :
    Ext c { c with w := w', heap := c.heap.set id .dead } ∧ RC.Inv { c with w := w', heap := c.heap.set id .dead } ∧ RC.ok { c with w := w', heap := c.heap.set id .dead } b := by
  have hl : HObj.live (.row .rw ty e xs) := rfl
  have lift : ∀ (k : Nat) (o : HObj), (c.heap.set id .dead)[k]? = some o → o.live → k ≠ id ∧ c.heap[k]? = some o := by
    intro k o hk hlo
    rcases set_get hk with ⟨rfl, rfl, _⟩ | ⟨hne, h'⟩
    · exact absurd hlo (by simp [HObj.live, HObj.md?])
    · exact ⟨fun e => hne e.symm, h'⟩
  have notlv : ¬ RC.lv { c with w := w', heap := c.heap.set id .dead } b := by
    rintro ⟨k, o, hk, hlo, hbk⟩
    obtain ⟨h1, h2⟩ := lift k o hk hlo
    exact h1 (hi.inj k id o _ b h2 hlo ho hl hbk hb)
  have E : Ext c { c with w := w', heap := c.heap.set id .dead } := {
    base := rfl, size := Nat.le_of_eq hs.symm, os := hos, tape := ht, output := hout
    keep := fun i hi' hn => others i fun ei => hn (ei ▸ ⟨id, _, ho, rfl, hb⟩)
    cells := fun i us t zz h => by
      by_cases ei : i = b
      · subst ei
        rw [hv] at h; cases h
        exact ⟨vs, z, there, rfl, .inr notlv⟩
      · exact ⟨us, zz, (others i ei).trans h, rfl, .inl rfl⟩
    blk := fun _ _ _ _ => rfl
    ev := fun i o hio => by
      by_cases e2 : id = i
      · subst e2
        rw [ho] at hio; cases hio
        exact ⟨.dead, set_eq ho, .inl rfl⟩
      · exact ⟨o, (set_ne e2).trans hio, o.ev_refl⟩
    fresh := fun i o' bi hio hlo hn _ _ => absurd hlo (hn o' (lift i o' hio hlo).2) }
  refine ⟨E, ⟨?_, ?_, ?_, ?_⟩, ?_⟩
  · intro i o hio
    by_cases hlo : o.live
    · obtain ⟨h1, h2⟩ := lift i o hio hlo
      exact HObj.rel_mono E h2 (fun bi hbi _ => others bi fun ei => h1 (by subst ei; exact hi.inj i id o _ bi h2 hlo ho hl hbi hb)) (hi.objs i o h2)
    · cases o <;> first | trivial | exact absurd rfl hlo
  · intro i j oi oj bb h1 l1 h2 l2 b1 b2
    exact hi.inj i j oi oj bb (lift i oi h1 l1).2 l1 (lift j oj h2 l2).2 l2 b1 b2
  · intro i o bb h1 l1 b1
    exact hi.base i o bb (lift i o h1 l1).2 l1 b1
  · show c.base ≤ w'.heap.size; rw [hs]; exact hi.basele
  · refine ⟨by show b < w'.heap.size; rw [hs]; exact lt_of_some hv, ?_, .inl (hi.base id _ b ho hl hb)⟩
    rintro ⟨k, o, m, hk, hm, _, hbk⟩
    exact notlv ⟨k, o, hk, by unfold HObj.live; rw [hm]; rfl, hbk⟩
section
variable {P : Program} {cx : Cx} (hT : ∀ t d, cx.tab t = some d → d.Fits P t) {c : RC} (hi : c.Inv) {k : EV → List (Nat × HObj) → Prop}
include hT hi
theorem conv_core {s e : TypeId} (hf : P.underlying s = some (.slice e)) (he : P.underlying e = some (.int .u8)) {id len : Nat} {ty : TypeId} {xs : List (K.int IntKind.u8).T} {u : Value} (ho : c.heap[id]? = some (.row .rw ty (.int .u8) xs)) (h1 : 1 ≤ len) (hlen : len = List.length xs) (r : SV.rel c (.osl id 0 len) u) :
    ∃ w', (convert s s u).run P c.w = .ok u w' ∧ Ext c { c with w := w', heap := c.heap.set id .dead } ∧ RC.Inv { c with w := w', heap := c.heap.set id .dead } ∧
      K.rep w' (RC.ok { c with w := w', heap := c.heap.set id .dead }) (.slice (.int .u8)) xs [u] := by
  obtain ⟨A, cap, rfl, hc, hl, hr⟩ := osl_row (s := .junk) hT hi ho r
  rcases hr with hr | ⟨b, vs, hb, rfl, hv, hsz⟩
  · omega
  obtain ⟨hm, vs', f, re, g1, g2, g3⟩ := row_obj hT hi ho hb
  rw [hv] at g1; cases g1
  obtain ⟨w', ew⟩ : ∃ w', w' = c.w.freeze ⟨b, vs.size, none⟩ 1 := ⟨_, rfl⟩
  have run : (convert s s (.slice (some ⟨b, 0 * K.sz (.int .u8), none⟩) len cap)).run P c.w = .ok (.slice (some ⟨b, 0 * K.sz (.int .u8), none⟩) len cap) w' := by
    have hsh : c.w.shape? b = some (ty, vs.size) := by simp only [World.shape?, hv]
    simp [convert, run_underlying hf, run_underlying he, Result.andThen, markStringish, shape, freeze, Sem.run, hsh, ew]
  have hbl := lt_of_some hv
  have hheap : w'.heap = c.w.heap.modify b fun
      | .cells cc elem (lo, hi) => .cells cc elem (if lo == hi then (vs.size, vs.size + 1) else (min lo vs.size, max hi (vs.size + 1)))
      | o => o := by
    rw [ew]; rfl
  have there : w'.heap[b]? = some (.cells vs ty (vs.size, vs.size + 1)) := by
    rw [hheap, Array.getElem?_modify, if_pos rfl, hv]
    rfl
  have others : ∀ i, i ≠ b → w'.heap[i]? = c.w.heap[i]? := fun i hne => by
    rw [hheap, Array.getElem?_modify, if_neg (Ne.symm hne)]
  obtain ⟨E, I, hok⟩ := Ext.mark (w' := w') hi ho hb hv (by rw [hheap]; simp) (by rw [ew]; rfl) (by rw [ew]; rfl) (by rw [ew]; rfl) others there
  refine ⟨w', run, E, I, some ⟨b, 0 * K.sz (.int .u8), none⟩, cap, by rw [← hlen], by rw [← hlen]; exact hc, hm, .inr ⟨b, 0 * K.sz (.int .u8), f, rfl, hok, g3.mono fun x cs => K.rep_mono E.ok _ x cs, ?_⟩⟩
  intro j v hj
  simp only [World.cell?, there]
  have : vs.toList[j]? = some v := by rw [g2, List.getElem?_append_left (List.getElem?_eq_some_iff.1 hj).1]; exact hj
  simpa using this
theorem opConvS_run {s : TypeId} {v : EV} {u : Value} (h : (opConvS cx c.heap s v).wp k) (r : v.rel c u) : Runs P c (convert s s u) k := by
  unfold opConvS at h
  split at h
  · rename_i e _ _ _ _ id len htab
    split at h
    · rename_i _ _ _ _ ty xs hte ho
      obtain ⟨⟨h1, hlen⟩, h⟩ := h
      obtain ⟨w', run, E, I, R⟩ := conv_core hT hi (hT s _ htab).k (hT e _ hte).k ho h1 hlen r
      exact ⟨_, w', run, .dat (.slice (.int .u8)) xs, [(id, .dead)], { c with w := w', heap := c.heap.set id .dead }, h, rfl, rfl, E, I, R⟩
    · exact h.elim
  · rename_i e _ _ _ _ id len htab
    split at h
    · rename_i _ _ _ _ ty xs hte ho
      obtain ⟨⟨h1, hlen⟩, h⟩ := h
      have r' : SV.rel c (.osx id len) u := r
      obtain ⟨w', run, E, I, R⟩ := conv_core hT hi (hT s _ htab).k (hT e _ hte).k ho h1 hlen r'.1
      obtain ⟨A, hA⟩ := r'.2
      exact ⟨_, w', run, .x (.one (.full (.int .u8) xs)), [(id, .dead)], { c with w := w', heap := c.heap.set id .dead }, h, rfl, rfl, E, I, R, A, by rw [hA, hlen]⟩
    · exact h.elim
  · exact h.elim
end
end Go.Lift

set_option linter.unusedVariables false
set_option linter.unusedSimpArgs false
set_option linter.unusedSectionVars false
namespace Go.Lift
def Con.n : Con → Nat
  | .det _ res _ _ => RKn res
  | .rel _ res _ _ _ => RKn res
def xvs : List EV → Option (List XV)
  | [] => some []
  | .x v :: r => match xvs r with | some vs => some (v :: vs) | none => none
  | _ => none
def opCall (cx : Cx) (h : List HObj) (f : FuncId) (args : List EV) (tgt : Nat) : Res := match cx.con f, xvs args with
  | some (.det ks rs pre g), some vs => (match rs.all RK.flat with
    | true => (match takes h ks vs with
      | some x => .ask (pre x) fun _ => .ret (EV.of (gives tgt rs (g x)).1) (gives tgt rs (g x)).2
      | none => .fail)
    | false => (match takes (hz (applyU h (fzx h vs))) ks vs with
      | some x => .ask (pre x) fun _ => .ret (EV.of (gives tgt rs (g x)).1) (fzx h vs ++ (gives tgt rs (g x)).2)
      | none => .fail))
  | some (.rel ks rs pre post ne), some vs => (match rs.all RK.flat with
    | true => (match takes h ks vs with
      | some x => .ask (pre x) fun hp => .all (RS rs) (post x) (ne x hp) fun r => .ret (EV.of (gives tgt rs r).1) (gives tgt rs r).2
      | none => .fail)
    | false => (match takes (hz (applyU h (fzx h vs))) ks vs with
      | some x => .ask (pre x) fun hp => .all (RS rs) (post x) (ne x hp) fun r => .ret (EV.of (gives tgt rs r).1) (fzx h vs ++ (gives tgt rs r).2)
      | none => .fail))
  | _, _ => .fail
def isStr (cx : Cx) (t : TypeId) : Bool := match cx.tab t with
  | some ⟨.str, _, _, _, _⟩ => true
  | _ => false
def isB2S (cx : Cx) (s d : TypeId) : Bool := match cx.tab s with
  | some ⟨.slice e, _, _, _, _⟩ => match cx.tab e with
    | some ⟨.int .u8, _, _, _, _⟩ => isStr cx d
    | _ => false
  | _ => false
theorem isStr_spec {P : Program} {cx : Cx} (hT : ∀ t d, cx.tab t = some d → d.Fits P t) {t : TypeId} (h : isStr cx t = true) : P.underlying t = some .string := by
  unfold isStr at h
  split at h
  · rename_i ht; exact (hT t _ ht).k
  · cases h
theorem isB2S_spec {P : Program} {cx : Cx} (hT : ∀ t d, cx.tab t = some d → d.Fits P t) {s d : TypeId} (h : isB2S cx s d = true) : ∃ e, P.underlying s = some (.slice e) ∧ P.underlying e = some (.int .u8) ∧ P.underlying d = some .string := by
  unfold isB2S at h
  split at h
  · rename_i e _ _ _ _ hs
    split at h
    · rename_i he; exact ⟨e, (hT s _ hs).k, (hT e _ he).k, isStr_spec hT h⟩
    · cases h
  · cases h
def opConvX (cx : Cx) (h : List HObj) (s d : TypeId) (v : EV) : Res := match isB2S cx s d with
  | true => opB2S h v
  | false => match Nat.beq s d with
    | true => opConvS cx h s v
    | false => opConv cx s d v
def opBuiltin (cx : Cx) (h : List HObj) (b : Builtin) (ts : List TypeId) (args : List EV) (tgt : Nat) : Res := match b, ts, args with
  | .len, [t], [x] => opLen cx h t x
  | .append, [t, t'], [x, y] => if t = t' then opAppend cx h t x.weak y.weak tgt else (match isStr cx t' with
    | true => opAppendS cx h t x y tgt
    | false => .fail)
  | .copy, [t, _], [x, y] => opCopy cx h t x y
  | .max, _, vs => opMM imax vs
  | .min, _, vs => opMM imin vs
  | _, _, _ => .fail
def nAlloc (cx : Cx) (o : Oper) : Nat := match o.op with
  | .alloc _ | .box .. | .buildSlice .. | .makeSlice .. | .makeMap .. => 1
  | .call c => match c.callee with
    | .builtin b => match b with | .append => 1 | _ => 0
    | .value (.func f) => match cx.con f with | some con => con.n | none => 0
    | _ => 0
  | _ => 0
def LV.ev : LV → EV
  | .val v => .val v
  | .ref id off => .x (.one (.ref id off))
  | .data k x => .x (.one (.data k x))
def Con.flat : Con → Bool
  | .det _ rs _ _ => rs.all RK.flat
  | .rel _ rs _ _ _ => rs.all RK.flat
def conFlat (cx : Cx) (f : FuncId) : Bool := match cx.con f with
  | some con => con.flat
  | none => true
def conN0 (cx : Cx) (f : FuncId) : Bool := match cx.con f with
  | some con => con.n == 0 && con.flat
  | none => false
def opClo (cx : Cx) (h : List HObj) (x : EV) (args : List EV) (tgt : Nat) : Res := match x with
  | .x (.one (.clo f [] caps)) => if conN0 cx f then opCall cx h f (args ++ caps.map LV.ev) tgt else .fail
  | _ => .fail
def aop (cx : Cx) (o : Oper) (env : List EV) (h : List HObj) (tgt : Nat) : Res := match o.op with
  | .move x => .ret (cx.eval env x).weak []
  | .assign x => .ret (cx.eval env x).weak []
  | .pick c a b => opPick (cx.eval env c) (cx.eval env a) (cx.eval env b)
  | .alloc t => opAlloc cx t tgt
  | .box t x => opBox cx h t (cx.eval env x) tgt
  | .build t ps => opBuild cx h t (ps.toList.map (·.1)) (ps.toList.map fun p => cx.eval env p.2)
  | .buildSlice t n ps => opBuildSlice cx h t n (ps.toList.map (·.1)) (ps.toList.map fun p => cx.eval env p.2) tgt
  | .load t x => opLoad cx h t (cx.eval env x)
  | .store t x v => opStore cx h t (cx.eval env x) (cx.eval env v)
  | .nilCheck x => opNil h (cx.eval env x)
  | .binOp op t x y _ => opBin cx h op t (cx.eval env x) (cx.eval env y)
  | .unOp op _ x => opUn op (cx.eval env x)
  | .convert s d x => opConvX cx h s d (cx.eval env x)
  | .makeFunc f a b => opMakeFunc f (a.toList.map (cx.eval env)) (b.toList.map (cx.eval env))
  | .makeMap t n => opMakeMap cx t (n.map (cx.eval env)) tgt
  | .mapUpdate t m k v => opMapUpdate cx h t (cx.eval env m) (cx.eval env k) (cx.eval env v)
  | .lookup t m k two => opLookup cx h t (cx.eval env m) (cx.eval env k) two
  | .makeSlice t l c => opMakeSlice cx t (cx.eval env l) (cx.eval env c) tgt
  | .slice t x lo hi mx => match mx, hi with
    | some _, none => .fail
    | mx, hi => opSlice cx h t (cx.eval env x) (lo.map (cx.eval env)) (hi.map (cx.eval env)) (mx.map (cx.eval env))
  | .fieldAddr t x f => opFieldAddr cx h t (cx.eval env x) f
  | .indexAddr t x i => opIndexAddr cx h t (cx.eval env x) (cx.eval env i)
  | .extract x i => opExtract (cx.eval env x) i
  | .index t x i => opIndex cx t (cx.eval env x) (cx.eval env i)
  | .call c => match c.callee with
    | .builtin b => opBuiltin cx h b c.argTypes.toList (c.args.toList.map (cx.eval env)) tgt
    | .value (.func f) => opCall cx h f (c.args.toList.map (cx.eval env)) tgt
    | .value x => opClo cx h (cx.eval env x) (c.args.toList.map (cx.eval env)) tgt
    | _ => .fail
  | _ => .fail
def Res.All (p : List (Nat × HObj) → Prop) : Res → Prop
  | .fail => True
  | .ret _ us => p us
  | .ask _ f => ∀ h, (f h).All p
  | .all _ _ _ f => ∀ a, (f a).All p
  | .br _ x y => x.All p ∧ y.All p
theorem Res.wp_all {p : List (Nat × HObj) → Prop} {k : EV → List (Nat × HObj) → Prop} : ∀ {r : Res}, r.All p → r.wp k → r.wp fun ev us => k ev us ∧ p us
  | .fail, _, h => h
  | .ret _ _, hp, h => ⟨h, hp⟩
  | .ask _ f, hp, ⟨q, h⟩ => ⟨q, Res.wp_all (hp q) h⟩
  | .all _ _ _ f, hp, h => fun a ha => Res.wp_all (hp a) (h a ha)
  | .br b x y, hp, h => Br.intro (fun e => Res.wp_all (r := x) hp.1 (Br.t h e)) (fun e => Res.wp_all (r := y) hp.2 (Br.f h e))
theorem Res.wp_mono {k k' : EV → List (Nat × HObj) → Prop} (hk : ∀ ev us, k ev us → k' ev us) : ∀ {r : Res}, r.wp k → r.wp k'
  | .fail, h => h
  | .ret _ _, h => hk _ _ h
  | .ask _ f, ⟨q, h⟩ => ⟨q, Res.wp_mono hk h⟩
  | .all _ _ _ f, h => fun a ha => Res.wp_mono hk (h a ha)
  | .br b x y, h => Br.intro (fun e => Res.wp_mono (r := x) hk (Br.t h e)) (fun e => Res.wp_mono (r := y) hk (Br.f h e))
def Touch (h : List HObj) (tgt n : Nat) (us : List (Nat × HObj)) : Prop := ∀ u ∈ us, (tgt ≤ u.1 ∧ u.1 < tgt + n) ∨ ∃ o, h[u.1]? = some o ∧ o ≠ .pend
theorem Touch.nil {h : List HObj} {tgt n : Nat} : Touch h tgt n [] := fun u hu => by cases hu
theorem Touch.new {h : List HObj} {tgt : Nat} {o : HObj} : Touch h tgt 1 [(tgt, o)] := fun u hu => by
  cases hu with
  | head => exact .inl ⟨Nat.le_refl _, Nat.lt_succ_self _⟩
  | tail _ hu => cases hu
theorem Touch.live {h : List HObj} {tgt n id : Nat} {o o' : HObj} (ho : h[id]? = some o) (hn : o ≠ .pend) : Touch h tgt n [(id, o')] := fun u hu => by
  cases hu with
  | head => exact .inr ⟨o, ho, hn⟩
  | tail _ hu => cases hu
theorem Touch.fz {h : List HObj} {tgt n : Nat} {us : List (Nat × HObj)} (hu : FzU h us) : Touch h tgt n us := fun u hu' => by
  obtain ⟨t, e, xs, g, _⟩ := hu u hu'
  exact .inr ⟨_, g, by simp⟩
theorem Touch.app {h : List HObj} {tgt n : Nat} {us vs : List (Nat × HObj)} (a : Touch h tgt n us) (b : Touch h tgt n vs) : Touch h tgt n (us ++ vs) := fun u hu => by
  rcases List.mem_append.1 hu with g | g
  · exact a u g
  · exact b u g
theorem give1_ids (t : Nat) (r : RK) (x : r.T) : ∀ u ∈ (give1 t r x).2, t ≤ u.1 ∧ u.1 < t + r.n := by
  cases r with
  | own ty e => intro u hu; cases hu with
    | head => exact ⟨Nat.le_refl _, Nat.lt_succ_self _⟩
    | tail _ hu => cases hu
  | snap k => intro u hu; cases hu
theorem gives_ids : ∀ (rs : List RK) (t : Nat) (x : RS rs), ∀ u ∈ (gives t rs x).2, t ≤ u.1 ∧ u.1 < t + RKn rs := by
  intro rs
  induction rs with
  | nil => intro t x u hu; cases hu
  | cons r rs ih =>
    intro t x u hu
    have e : RKn (r :: rs) = r.n + RKn rs := by simp [RKn]
    rcases List.mem_append.1 hu with h | h
    · have := give1_ids t r x.1 u h; omega
    · have := ih (t + r.n) x.2 u h; omega
section
variable {cx : Cx} {h : List HObj} {tgt n : Nat}
theorem opPick_touch {a b c : EV} : (opPick c a b).All (Touch h tgt n) := by
  unfold opPick; split
  · exact ⟨Touch.nil, Touch.nil⟩
  · trivial
theorem opAlloc_touch {t : TypeId} : (opAlloc cx t tgt).All (Touch h tgt 1) := by
  unfold opAlloc; (repeat' split) <;> first | trivial | exact Touch.new
theorem opBox_touch {h' : List HObj} {t : TypeId} {v : EV} : (opBox cx h' t v tgt).All (Touch h tgt 1) := by
  unfold opBox; (repeat' split) <;> first | trivial | exact Touch.new
theorem opBuildSlice_touch {t : TypeId} {m : Nat} {is : List Nat} {vs : List EV} : (opBuildSlice cx h t m is vs tgt).All (Touch h tgt 1) := by
  unfold opBuildSlice; (repeat' split) <;> first | trivial | exact Touch.new | exact (Touch.fz (fze_ok _)).app Touch.new
def flatE (cx : Cx) (t : TypeId) : Bool := match cx.tab t with
  | some ⟨.slice e, _, _, _, _⟩ => match cx.tab e with
    | some ed => match ed.kind with
      | some ek => ek.flat
      | none => true
    | none => true
  | _ => true
theorem opBuildSlice_quiet {h' : List HObj} {t : TypeId} {m : Nat} {is : List Nat} {vs : List EV} (hf : flatE cx t = true) : (opBuildSlice cx h' t m is vs tgt).All (Touch h tgt 1) := by
  unfold opBuildSlice
  split
  · rename_i e sz by_ z0 kd ht
    split
    · rename_i ed he
      split
      · rename_i ek hk
        have hq : ek.flat = true := by simp only [flatE, ht, he, hk] at hf; exact hf
        split
        · split
          · split
            · exact Touch.new
            · trivial
          · rename_i hfl; rw [hq] at hfl; cases hfl
        · trivial
      · (repeat' split) <;> first | trivial | exact Touch.new
    · trivial
  · trivial
theorem opLoad_touch {h' : List HObj} {t : TypeId} {v : EV} : (opLoad cx h' t v).All (Touch h tgt n) := by
  unfold opLoad; (repeat' split) <;> first | trivial | exact Touch.nil | exact fun _ => Touch.nil
theorem opNil_touch {h' : List HObj} {v : EV} : (opNil h' v).All (Touch h tgt n) := by
  unfold opNil; (repeat' split) <;> first | trivial | exact Touch.nil | exact fun _ => Touch.nil
theorem opUn_touch {op : UnOp} {v : EV} : (opUn op v).All (Touch h tgt n) := by
  unfold opUn; split <;> first | trivial | exact Touch.nil
theorem opConv_touch {s d : TypeId} {v : EV} : (opConv cx s d v).All (Touch h tgt n) := by
  unfold opConv; split <;> first | trivial | exact Touch.nil | exact fun _ => Touch.nil
theorem opConvX_touch {s d : TypeId} {v : EV} : (opConvX cx h s d v).All (Touch h tgt n) := by
  unfold opConvX
  split
  · unfold opB2S; (repeat' split) <;> first | trivial | exact Touch.nil
  · split
    · unfold opConvS
      split
      · split
        · rename_i ho
          exact fun _ => Touch.live ho (by simp)
        · trivial
      · split
        · rename_i ho
          exact fun _ => Touch.live ho (by simp)
        · trivial
      · trivial
    · exact opConv_touch
theorem opConvX_quiet {h' : List HObj} {s d : TypeId} {v : EV} (hq : (!(Nat.beq s d)) = true) : (opConvX cx h' s d v).All (Touch h tgt n) := by
  unfold opConvX
  split
  · unfold opB2S; (repeat' split) <;> first | trivial | exact Touch.nil
  · split
    · rename_i e; rw [e] at hq; cases hq
    · exact opConv_touch
theorem opMakeFunc_touch {f : Fn} {a b : List EV} : (opMakeFunc f a b).All (Touch h tgt n) := by
  unfold opMakeFunc; (repeat' split) <;> first | trivial | exact Touch.nil
theorem opCopy_touch {t : TypeId} {x y : EV} : (opCopy cx h t x y).All (Touch h tgt n) := by
  unfold opCopy
  split
  case h_2 => trivial
  split
  case h_2 => trivial
  rename_i ho
  (repeat' split) <;> first | trivial | exact fun _ => Touch.live ho (by simp)
theorem opAppendS_touch {t : TypeId} {x y : EV} : (opAppendS cx h t x y tgt).All (Touch h tgt 1) := by
  unfold opAppendS
  split
  case h_2 => trivial
  split
  case h_2 => trivial
  split
  case isFalse => trivial
  split
  · exact fun _ => Touch.new
  · split
    case h_2 => trivial
    split
    case h_2 => trivial
    rename_i ho
    (repeat' split) <;> first
      | trivial
      | (intro _ u hu
         cases hu with
         | head => exact .inr ⟨_, ho, by simp⟩
         | tail _ hu => exact Touch.new u hu)
theorem opMakeMap_touch {t : TypeId} {m : Option EV} : (opMakeMap cx t m tgt).All (Touch h tgt 1) := by
  unfold opMakeMap; (repeat' split) <;> first | trivial | exact Touch.new
theorem opLookup_touch {h' : List HObj} {t : TypeId} {m k : EV} {two : Bool} : (opLookup cx h' t m k two).All (Touch h tgt n) := by
  unfold opLookup; (repeat' split) <;> first | trivial | exact Touch.nil
theorem opMapUpdate_touch {t : TypeId} {m k v : EV} : (opMapUpdate cx h t m k v).All (Touch h tgt n) := by
  unfold opMapUpdate
  split
  case h_2 => trivial
  split
  case h_2 => trivial
  rename_i ho
  (repeat' split) <;> first | trivial | exact Touch.live ho (by simp)
theorem opMakeSlice_touch {t : TypeId} {l c : EV} : (opMakeSlice cx t l c tgt).All (Touch h tgt 1) := by
  unfold opMakeSlice; (repeat' split) <;> first | trivial | exact fun _ => Touch.new
theorem opExtract_touch {v : EV} {i : Nat} : (opExtract v i).All (Touch h tgt n) := by
  unfold opExtract; (repeat' split) <;> first | trivial | exact Touch.nil
theorem opLen_touch {h' : List HObj} {t : TypeId} {v : EV} : (opLen cx h' t v).All (Touch h tgt n) := by
  unfold opLen; (repeat' split) <;> first | trivial | exact Touch.nil
theorem opIndexAddr_touch {h' : List HObj} {t : TypeId} {v i : EV} : (opIndexAddr cx h' t v i).All (Touch h tgt n) := by
  unfold opIndexAddr; (repeat' split) <;> first | trivial | exact fun _ => Touch.nil
theorem opFieldAddr_touch {h' : List HObj} {t : TypeId} {v : EV} {i : Nat} : (opFieldAddr cx h' t v i).All (Touch h tgt n) := by
  unfold opFieldAddr; (repeat' split) <;> first | trivial | exact Touch.nil
theorem opSlice_touch {h' : List HObj} {t : TypeId} {v : EV} {a b c : Option EV} : (opSlice cx h' t v a b c).All (Touch h tgt n) := by
  unfold opSlice; (repeat' split) <;> first | trivial | exact fun _ => Touch.nil
theorem opMM_touch {f : Int → Int → Int} {vs : List EV} : (opMM f vs).All (Touch h tgt n) := by
  unfold opMM; (repeat' split) <;> first | trivial | exact Touch.nil
theorem binInt_touch {op : BinOp} {k j : IntKind} {a b : Int} : (binInt op k a j b).All (Touch h tgt n) := by
  cases op <;> simp only [binInt] <;> (repeat' split) <;> first | trivial | exact Touch.nil | exact fun _ => Touch.nil
theorem binFlt_touch {op : BinOp} {k j : FloatKind} {a b : Nat} : (binFlt op k a j b).All (Touch h tgt n) := by
  cases op <;> simp only [binFlt] <;> (repeat' split) <;> first | trivial | exact Touch.nil | exact fun _ => Touch.nil
theorem opEq_touch {h' : List HObj} {neg : Bool} {t : TypeId} {x y : EV} : (opEq cx h' neg t x y).All (Touch h tgt n) := by
  unfold opEq; (repeat' split) <;> first | trivial | exact Touch.nil | exact fun _ => Touch.nil | exact fun _ _ => Touch.nil | exact ⟨Touch.nil, Touch.nil⟩ | (unfold opEqA; (repeat' split) <;> first | trivial | exact Touch.nil)
theorem opBin_touch {h' : List HObj} {op : BinOp} {t : TypeId} {x y : EV} : (opBin cx h' op t x y).All (Touch h tgt n) := by
  unfold opBin; split
  · exact binInt_touch
  · exact binFlt_touch
  · split
    · exact opEq_touch
    · exact opEq_touch
    · trivial
theorem opStore_touch {t : TypeId} {x v : EV} : (opStore cx h t x v).All (Touch h tgt n) := by
  unfold opStore
  split
  case h_2 => trivial
  split
  · split
    case h_2 => trivial
    rename_i ho
    (repeat' split) <;> first | trivial | exact Touch.live ho (by simp) | exact (Touch.fz (XV.fz_ok _)).app (Touch.live ho (by simp))
  · split
    · rename_i ho
      (repeat' split) <;> first | trivial | exact Touch.live ho (by simp)
    · rename_i ho
      (repeat' split) <;> first | trivial | exact fun _ => Touch.live ho (by simp)
    · trivial
  · trivial
theorem opAppend_touch {t : TypeId} {x y : EV} : (opAppend cx h t x y tgt).All (Touch h tgt 1) := by
  unfold opAppend
  split
  case h_2 => trivial
  split
  case h_2 => trivial
  split
  case isFalse => trivial
  split
  · (repeat' split) <;> first | trivial | exact fun _ => Touch.new
  · split
    · split
      case h_2 => trivial
      rename_i ho
      (repeat' split) <;> first
        | trivial
        | (intro _ u hu
           cases hu with
           | head => exact .inr ⟨_, ho, by simp⟩
           | tail _ hu => exact Touch.new u hu)
    · (repeat' split) <;> first | trivial | exact fun _ => Touch.new
    · trivial
theorem opCall_touch {f : FuncId} {args : List EV} : (opCall cx h f args tgt).All (Touch h tgt (match cx.con f with | some con => con.n | none => 0)) := by
  unfold opCall
  cases hc : cx.con f with
  | none => trivial
  | some con =>
    cases hx : xvs args with
    | none => cases con <;> trivial
    | some vs =>
      cases con with
      | det ks rs pre g =>
        simp only
        repeat' split
        all_goals first
          | trivial
          | exact fun _ u hu => .inl (gives_ids _ _ _ u hu)
          | exact fun _ => (Touch.fz (fzx_ok _)).app fun u hu => .inl (gives_ids _ _ _ u hu)
      | rel ks rs pre post ne =>
        simp only
        repeat' split
        all_goals first
          | trivial
          | exact fun _ r u hu => .inl (gives_ids _ _ _ u hu)
          | exact fun _ r => (Touch.fz (fzx_ok _)).app fun u hu => .inl (gives_ids _ _ _ u hu)
theorem opCall_none {f : FuncId} {h' : List HObj} : (opCall cx h' f [] tgt).All (Touch h tgt (match cx.con f with | some con => con.n | none => 0)) := by
  unfold opCall
  cases hc : cx.con f with
  | none => trivial
  | some con =>
    have hx : xvs [] = some [] := rfl
    have hz : fzx h' [] = [] := rfl
    rw [hx]
    cases con with
    | det ks rs pre g =>
      simp only [hz, List.nil_append]
      repeat' split
      all_goals first
        | trivial
        | exact fun _ u hu => .inl (gives_ids _ _ _ u hu)
    | rel ks rs pre post ne =>
      simp only [hz, List.nil_append]
      repeat' split
      all_goals first
        | trivial
        | exact fun _ r u hu => .inl (gives_ids _ _ _ u hu)
theorem opCall_quiet {f : FuncId} {args : List EV} {h' : List HObj} (hf : conFlat cx f = true) : (opCall cx h' f args tgt).All (Touch h tgt (match cx.con f with | some con => con.n | none => 0)) := by
  unfold opCall
  unfold conFlat at hf
  cases hc : cx.con f with
  | none => trivial
  | some con =>
    rw [hc] at hf
    cases hx : xvs args with
    | none => cases con <;> trivial
    | some vs =>
      cases con with
      | det ks rs pre g =>
        simp only [Con.flat] at hf
        simp only [hf]
        split
        · exact fun _ u hu => .inl (gives_ids _ _ _ u hu)
        · trivial
      | rel ks rs pre post ne =>
        simp only [Con.flat] at hf
        simp only [hf]
        split
        · exact fun _ r u hu => .inl (gives_ids _ _ _ u hu)
        · trivial
end
theorem opIndex_touch {cx : Cx} {h : List HObj} {tgt n : Nat} {t : TypeId} {v i : EV} : (opIndex cx t v i).All (Touch h tgt n) := by
  unfold opIndex
  (repeat' split) <;> first | trivial | exact fun _ => Touch.nil
theorem opClo_touch {cx : Cx} {h h' : List HObj} {tgt : Nat} {x : EV} {args : List EV} : (opClo cx h' x args tgt).All (Touch h tgt 0) := by
  unfold opClo
  split
  · split
    · rename_i f caps hn
      unfold conN0 at hn
      split at hn
      · rename_i con hcon
        rw [Bool.and_eq_true] at hn
        have := opCall_quiet (cx := cx) (h := h) (tgt := tgt) (f := f) (args := args ++ caps.map LV.ev) (h' := h') (by unfold conFlat; rw [hcon]; exact hn.2)
        rw [hcon] at this
        have e : con.n = 0 := by simpa using hn.1
        simp only [e] at this
        exact this
      · cases hn
    · trivial
  · trivial
theorem opBuild_touch {cx : Cx} {h h' : List HObj} {tgt n : Nat} {t : TypeId} {is : List Nat} {vs : List EV} : (opBuild cx h' t is vs).All (Touch h tgt n) := by
  unfold opBuild; (repeat' split) <;> first | trivial | exact Touch.nil
theorem aop_touch (cx : Cx) (o : Oper) (env : List EV) (h : List HObj) (tgt : Nat) : (aop cx o env h tgt).All (Touch h tgt (nAlloc cx o)) := by
  cases hop : o.op <;> simp only [aop, nAlloc, hop]
  case move => exact Touch.nil
  case assign => exact Touch.nil
  case pick => exact opPick_touch
  case alloc => exact opAlloc_touch
  case box => exact opBox_touch
  case build => exact opBuild_touch
  case buildSlice => exact opBuildSlice_touch
  case load => exact opLoad_touch
  case store => exact opStore_touch
  case nilCheck => exact opNil_touch
  case binOp => exact opBin_touch
  case unOp => exact opUn_touch
  case convert => exact opConvX_touch
  case makeFunc => exact opMakeFunc_touch
  case makeSlice => exact opMakeSlice_touch
  case makeMap => exact opMakeMap_touch
  case lookup => exact opLookup_touch
  case mapUpdate => exact opMapUpdate_touch
  case slice =>
    split
    · trivial
    · exact opSlice_touch
  case fieldAddr => exact opFieldAddr_touch
  case indexAddr => exact opIndexAddr_touch
  case extract => exact opExtract_touch
  case index => exact opIndex_touch
  case call c =>
    cases hc : c.callee with
    | builtin b =>
      simp only
      cases b <;> simp only [opBuiltin] <;> (repeat' split) <;> first | trivial | exact opLen_touch | exact opAppend_touch | exact opAppendS_touch | exact opCopy_touch | exact opMM_touch | simp_all
    | value f =>
      cases f with
      | func f => exact opCall_touch
      | _ => exact opClo_touch
    | invoke => trivial
  all_goals trivial
end Go.Lift

set_option linter.unusedVariables false
set_option linter.unusedSimpArgs false
set_option linter.unusedSectionVars false
namespace Go.Lift
def CallSpec (P : Program) (f : FuncId) (args : Array Value) (w : World) (R : Value → World → Prop) : Prop :=
  (∃ v w', (callFunc f args).run P w = .ok (.value v) w' ∧ R v w') ∨
  ((callFunc f args).run P w = .ok (.enter f args) w ∧ Calls P f args w fun e w' => ∃ v, e = .returned v ∧ R v w')
def GW (G : Globs) (w : World) (ok : Nat → Prop) : Prop := ∀ (g : Nat) (k : K) (x : k.T), G g = some ⟨k, x⟩ → (K.ptr k).rep w ok (some x) [.pointer (some ⟨g, 0, none⟩)]
theorem LV.ev_rel {c : RC} : ∀ {s : LV} {u : Value}, s.rel c u → s.ev.rel c u
  | .val _, _, r => r
  | .ref _ _, _, r => r
  | .data _ _, _, r => r
theorem LV.evs_rel {c : RC} {l : List LV} {us : List Value} (h : All2 (LV.rel c) l us) : All2 (EV.rel c) (l.map LV.ev) us := by
  induction h with
  | nil => exact .nil
  | cons h1 _ ih => exact .cons (LV.ev_rel h1) ih
def Con.holds (P : Program) (G : Globs) (f : FuncId) : Con → Prop
  | .det ks rs pre g => ∀ (w : World) (ok : Nat → Prop) (_ : ∀ b, ok b → b < w.heap.size) (x : KS ks) (vs : List Value), ArgsRep w ok ks x vs → GW G w ok → pre x → CallSpec P f vs.toArray w fun v w' => Grows w w' ∧ ResRep w w' ok rs (g x) v
  | .rel ks rs pre post _ => ∀ (w : World) (ok : Nat → Prop) (_ : ∀ b, ok b → b < w.heap.size) (x : KS ks) (vs : List Value), ArgsRep w ok ks x vs → GW G w ok → pre x → CallSpec P f vs.toArray w fun v w' => ∃ r, post x r ∧ Grows w w' ∧ ResRep w w' ok rs r v
def CxOk (P : Program) (cx : Cx) : Prop := (∀ t d, cx.tab t = some d → d.Fits P t) ∧ ∀ f con, cx.con f = some con → con.holds P cx.glob f
theorem GOk.world {G : Globs} {c : RC} (h : GOk G c) : GW G c.w c.all := fun g k x hg => K.rep_mono (fun b hb => RC.ok_all b hb) (K.ptr k) _ _ (h g k x hg)
theorem evals_rel {cx : Cx} {c : RC} {env : List EV} {a : Act} (hg : GOk cx.glob c) (he : EnvRel c env a.tmps) : ∀ xs : List Operand, All2 (EV.rel c) (xs.map (cx.eval env)) (xs.map a.eval)
  | [] => .nil
  | x :: xs => .cons (eval_rel hg he x) (evals_rel hg he xs)
theorem xvs_rel {c : RC} : ∀ {es : List EV} {vs : List XV} {us : List Value}, xvs es = some vs → All2 (EV.rel c) es us → All2 (XV.rel c) vs us
  | [], vs, us, h, ha => by cases ha; cases h; exact .nil
  | .x v :: es, vs, us, h, ha => by
    simp only [xvs] at h
    split at h
    · rename_i vs' hv
      cases h
      cases ha with
      | cons h1 h2 => exact .cons h1 (xvs_rel hv h2)
    · cases h
  | .tup _ :: _, _, _, h, _ => by cases h
theorem Yields.runs {P : Program} {o : Oper} {a : Act} {c : RC} {k : EV → List (Nat × HObj) → Prop} {s : Sem Value} (he : execOp a.eval o = (do return .value (← s))) (h : Runs P c s k) : Yields P o a c.w (Done c k) := by
  obtain ⟨v, w', h1, h2⟩ := h
  exact Yields.sem he h1 h2
theorem Yields.runsU {P : Program} {o : Oper} {a : Act} {c : RC} {k : EV → List (Nat × HObj) → Prop} {s : Sem Unit} (he : execOp a.eval o = (do s; return .skip)) (h : RunsU P c s k) : Yields P o a c.w (Done c k) := by
  obtain ⟨w', h1, h2⟩ := h
  exact Yields.semU he h1 h2
section
variable {P : Program} {cx : Cx} (hx : CxOk P cx) {c : RC} (hi : c.Inv) {env : List EV} {a : Act} (hg : GOk cx.glob c) (he : EnvRel c env a.tmps) {k : EV → List (Nat × HObj) → Prop}
include hx hi hg he
theorem call_yields {o : Oper} {cl : Call} {f : FuncId} (ho : o.op = .call cl) (hf : cl.callee = .value (.func f)) {R : Value → World → Prop}
    (h : CallSpec P f (cl.args.map a.eval) c.w R) : Yields P o a c.w R := by
  have hrun : (execOp a.eval o).run P c.w = (callFunc f (cl.args.map a.eval)).run P c.w := by
    simp [execOp, ho, resolve, hf, Act.eval, Deferred.ofValue, invoke]
  intro next Q hn
  unfold Oper.wp
  rw [hrun]
  rcases h with ⟨v, w', h1, h2⟩ | ⟨h1, h2⟩
  · rw [h1]; exact hn v w' h2
  · rw [h1]
    refine h2.mono fun e w' ⟨v, e1, h3⟩ => ?_
    subst e1
    exact hn v w' h3
theorem adopt_done {w' : World} (hgr : Grows c.w w') {ok : Nat → Prop} (hok : ∀ b, ok b → c.ok b) {rs : List RK} {r : RS rs} {v : Value} (hr : ResRep c.w w' ok rs r v) {t : Nat} (hp : ∀ i, i < RKn rs → c.heap[t + i]? = some .pend) (hk : k (EV.of (gives t rs r).1) (gives t rs r).2) : Done c k v w' := by
  obtain ⟨c', h1, h2, h3, h4, h5⟩ := adopt hi hgr hok hr hp
  exact ⟨_, _, c', hk, h1, h2, h3, h4, h5⟩
theorem CallSpec.mono {f : FuncId} {args : Array Value} {w : World} {R R' : Value → World → Prop} (hR : ∀ v w', R v w' → R' v w') (h : CallSpec P f args w R) : CallSpec P f args w R' := by
  rcases h with ⟨v, w', h1, h2⟩ | ⟨h1, h2⟩
  · exact .inl ⟨v, w', h1, hR v w' h2⟩
  · exact .inr ⟨h1, h2.mono fun e w' ⟨v, e1, h3⟩ => ⟨v, e1, hR v w' h3⟩⟩
theorem opCall_spec {f : FuncId} {args : List EV} {us : List Value} {tgt : Nat} (hall0 : All2 (EV.rel c) args us) (hp : ∀ i, i < (match cx.con f with | some con => con.n | none => 0) → c.heap[tgt + i]? = some .pend)
    (h : (opCall cx c.heap f args tgt).wp k) : CallSpec P f us.toArray c.w (Done c k) := by
  unfold opCall at h
  cases hc : cx.con f with
  | none => rw [hc] at h; exact h.elim
  | some con =>
    have hcon := hx.2 f con hc
    rw [hc] at h hp
    cases hv : xvs args with
    | none => rw [hv] at h; cases con <;> exact h.elim
    | some vs =>
      rw [hv] at h
      have hall := xvs_rel hv hall0
      have hu := fzx_ok (h := c.heap) vs
      obtain ⟨E, I⟩ := Frz.ext hi (hu.frz (Frz.refl _))
      have hall' := hall.mono fun _ _ q => XV.rel_mono E q
      have hp' : ∀ i, i < con.n → (applyU c.heap (fzx c.heap vs))[tgt + i]? = some .pend := fun i hi' => by
        have hp1 := hp i hi'
        rw [applyU_ne _ _ _ fun u hu' e => ?_]
        · exact hp1
        · obtain ⟨t', e', xs', g, _⟩ := hu u hu'
          rw [e, hp1] at g; cases g
      have he' := EnvRel.mono he E
      have hg' := GOk.mono hg E
      cases con with
      | det ks rs pre g =>
        simp only at h
        split at h
        · rename_i hfl
          split at h
          · rename_i x hxx
            obtain ⟨hpre, h⟩ := h
            have hr := takes_rep hi ks vs x _ hxx hall
            exact (hcon c.w c.all (fun b hb => hb) x _ hr (GOk.world hg) hpre).mono hx hi hg he fun v w' ⟨g1, g2⟩ => adopt_done hx hi hg he g1 (ok := fun _ => False) (fun b hb => hb.elim) (g2.toflat hfl) hp h
          · exact h.elim
        · split at h
          · rename_i x hxx
            obtain ⟨hpre, h⟩ := h
            have hr := takes_repT I (Tak.frozen I) ks vs x _ hxx hall'
            exact (hcon c.w _ (fun b hb => hb.1) x _ hr hg' hpre).mono hx hi hg he fun v w' ⟨g1, g2⟩ =>
              Done.frozen hi hu (adopt_done (c := { c with heap := applyU c.heap (fzx c.heap vs) }) hx I hg' he' g1 (fun b hb => hb) g2 hp' h)
          · exact h.elim
      | rel ks rs pre post ne =>
        simp only at h
        split at h
        · rename_i hfl
          split at h
          · rename_i x hxx
            obtain ⟨hpre, h⟩ := h
            have hr := takes_rep hi ks vs x _ hxx hall
            exact (hcon c.w c.all (fun b hb => hb) x _ hr (GOk.world hg) hpre).mono hx hi hg he fun v w' ⟨r, g0, g1, g2⟩ => adopt_done hx hi hg he g1 (ok := fun _ => False) (fun b hb => hb.elim) (g2.toflat hfl) hp (h r g0)
          · exact h.elim
        · split at h
          · rename_i x hxx
            obtain ⟨hpre, h⟩ := h
            have hr := takes_repT I (Tak.frozen I) ks vs x _ hxx hall'
            exact (hcon c.w _ (fun b hb => hb.1) x _ hr hg' hpre).mono hx hi hg he fun v w' ⟨r, g0, g1, g2⟩ =>
              Done.frozen hi hu (adopt_done (c := { c with heap := applyU c.heap (fzx c.heap vs) }) hx I hg' he' g1 (fun b hb => hb) g2 hp' (h r g0))
          · exact h.elim
theorem opCall_yields {o : Oper} {cl : Call} {f : FuncId} {tgt : Nat} (ho : o.op = .call cl) (hf : cl.callee = .value (.func f)) (hp : ∀ i, i < (match cx.con f with | some con => con.n | none => 0) → c.heap[tgt + i]? = some .pend)
    (h : (opCall cx c.heap f (cl.args.toList.map (cx.eval env)) tgt).wp k) : Yields P o a c.w (Done c k) := by
  have hargs : (cl.args.toList.map a.eval).toArray = cl.args.map a.eval := by apply Array.ext'; simp
  have := opCall_spec hx hi hg he (evals_rel hg he cl.args.toList) hp h
  rw [hargs] at this
  exact call_yields hx hi hg he ho hf this
theorem call_yields' {o : Oper} {cl : Call} {x : Operand} {f : FuncId} (ho : o.op = .call cl) (hf : cl.callee = .value x) {ws : Array Value} (hxv : a.eval x = .func (.func f) #[] ws) {R : Value → World → Prop}
    (h : CallSpec P f (cl.args.map a.eval ++ ws) c.w R) : Yields P o a c.w R := by
  have hrun : (execOp a.eval o).run P c.w = (callFunc f (cl.args.map a.eval ++ ws)).run P c.w := by
    simp [execOp, ho, resolve, hf, hxv, Deferred.ofValue, invoke]
  intro next Q hn
  unfold Oper.wp
  rw [hrun]
  rcases h with ⟨v, w', h1, h2⟩ | ⟨h1, h2⟩
  · rw [h1]; exact hn v w' h2
  · rw [h1]
    refine h2.mono fun e w' ⟨v, e1, h3⟩ => ?_
    subst e1
    exact hn v w' h3
theorem opCall_yields' {o : Oper} {cl : Call} {x : Operand} {f : FuncId} {caps : List LV} {ws : Array Value} {tgt : Nat} (ho : o.op = .call cl) (hf : cl.callee = .value x) (hxv : a.eval x = .func (.func f) #[] ws) (hr : All2 (LV.rel c) caps ws.toList) (hp : ∀ i, i < (match cx.con f with | some con => con.n | none => 0) → c.heap[tgt + i]? = some .pend)
    (h : (opCall cx c.heap f (cl.args.toList.map (cx.eval env) ++ caps.map LV.ev) tgt).wp k) : Yields P o a c.w (Done c k) := by
  have hargs : (cl.args.toList.map a.eval ++ ws.toList).toArray = cl.args.map a.eval ++ ws := by apply Array.ext'; simp
  have := opCall_spec hx hi hg he (All2.append (evals_rel hg he cl.args.toList) (LV.evs_rel hr)) hp h
  rw [hargs] at this
  exact call_yields' hx hi hg he ho hf hxv this
theorem aop_sound (o : Oper) (tgt : Nat) (hp : ∀ i, i < nAlloc cx o → c.heap[tgt + i]? = some .pend) (h : (aop cx o env c.heap tgt).wp k) : Yields P o a c.w (Done c k) := by
  have ev := eval_rel hg he
  have hT := hx.1
  cases hop : o.op <;> simp only [aop, nAlloc, hop] at h hp
  case move x => exact Yields.val (v := a.eval x) (w' := c.w) (by simp [execOp, hop]) (Done.pure hi h (EV.weak_rel (ev x)))
  case assign x => exact Yields.val (v := a.eval x) (w' := c.w) (by simp [execOp, hop]) (Done.pure hi h (EV.weak_rel (ev x)))
  case pick b x y =>
    unfold opPick at h
    split at h
    · rename_i t ht
      have hb : a.eval b = .bool t := by have := ev b; rw [ht] at this; exact this
      cases t with
      | true => exact Yields.val (v := a.eval x) (w' := c.w) (by simp [execOp, hop, hb, asBool]) (Done.pure hi (show k _ [] from Br.t h rfl) (ev x))
      | false => exact Yields.val (v := a.eval y) (w' := c.w) (by simp [execOp, hop, hb, asBool]) (Done.pure hi (show k _ [] from Br.f h rfl) (ev y))
    · exact h.elim
  case alloc t => exact Yields.runs (s := Instr.alloc t true (.tuple #[])) (by simp [execOp, hop]) (opAlloc_run hT hi (by simpa using hp 0 (by omega)) h)
  case box t x => exact Yields.runs (s := Instr.box t (a.eval x)) (by simp [execOp, hop]) (opBox_run hT hi (by simpa using hp 0 (by omega)) h (ev x))
  case build t ps =>
    refine Yields.runs (s := Instr.build t (ps.map fun x => (x.1, a.eval x.2))) (by simp [execOp, hop]) (opBuild_run hT hi (vs := ps.toList.map fun p => cx.eval env p.2) ?_ ?_)
    · have : (ps.map fun x => (x.1, a.eval x.2)).toList.map (·.1) = ps.toList.map (·.1) := by simp
      rw [this]; exact h
    · have e1 : (ps.map fun x => (x.1, a.eval x.2)).toList.map (·.2) = (ps.toList.map (·.2)).map a.eval := by simp
      have e2 : (ps.toList.map fun p => cx.eval env p.2) = (ps.toList.map (·.2)).map (cx.eval env) := by simp
      rw [e1, e2]; exact evals_rel hg he _
  case buildSlice t n ps =>
    refine Yields.runs (s := Instr.buildSlice t n (ps.map fun x => (x.1, a.eval x.2))) (by simp [execOp, hop]) (opBuildSlice_run hT hi (by simpa using hp 0 (by omega)) (vs := ps.toList.map fun p => cx.eval env p.2) ?_ ?_)
    · have : (ps.map fun x => (x.1, a.eval x.2)).toList.map (·.1) = ps.toList.map (·.1) := by simp
      rw [this]; exact h
    · have e1 : (ps.map fun x => (x.1, a.eval x.2)).toList.map (·.2) = (ps.toList.map (·.2)).map a.eval := by simp
      have e2 : (ps.toList.map fun p => cx.eval env p.2) = (ps.toList.map (·.2)).map (cx.eval env) := by simp
      rw [e1, e2]; exact evals_rel hg he _
  case load t x => exact Yields.runs (s := Instr.loadAt t (a.eval x)) (by simp [execOp, hop]) (opLoad_run hT hi h (ev x))
  case makeMap t n =>
    refine Yields.runs (s := Instr.makeMap t (n.map a.eval)) (by simp [execOp, hop]) (opMakeMap_run hT hi (by simpa using hp 0 (by omega)) h ?_ ?_)
    · intro e he
      cases n with
      | none => cases he
      | some x => cases he; exact ⟨_, rfl, ev x⟩
    · intro he
      cases n with
      | none => rfl
      | some x => cases he
  case mapUpdate t m x v => exact Yields.runsU (s := Instr.mapUpdate t (a.eval m) (a.eval x) (a.eval v)) (by simp [execOp, hop]) (opMapUpdate_run hT hi h (ev m) (ev x) (ev v))
  case lookup t m x two => exact Yields.runs (s := Instr.lookup t (a.eval m) (a.eval x) two) (by simp [execOp, hop]) (opLookup_run hT hi h (ev m) (ev x))
  case store t x v => exact Yields.runsU (s := Instr.storeAt t (a.eval x) (a.eval v)) (by simp [execOp, hop]) (opStore_run hT hi h (ev x) (ev v))
  case nilCheck x =>
    obtain ⟨⟨p, hp1⟩, h2⟩ := opNil_rel hT hi h (ev x)
    exact Yields.val (v := a.eval x) (w' := c.w) (by simp [execOp, hop, hp1]) (Done.pure hi h2 (ev x))
  case binOp op t x y _ => exact Yields.runs (s := do eqGuard op t x y (a.eval x) (a.eval y); binOp op t (a.eval x) (a.eval y)) (by simp [execOp, hop]) (opBin_run hT hi h (ev x) (ev y) x y)
  case unOp op t x => exact Yields.runs (s := Op.unary op (a.eval x)) (by simp [execOp, hop]) (opUn_run hT hi h (ev x))
  case convert s d x =>
    refine Yields.runs (s := convert s d (a.eval x)) (by simp [execOp, hop]) ?_
    unfold opConvX at h
    split at h
    · rename_i hb
      obtain ⟨e, h1, h2, h3⟩ := isB2S_spec hT hb
      exact opB2S_run hT hi h1 h2 h3 h (ev x)
    · split at h
      · rename_i hsd
        have hsd := Nat.eq_of_beq_eq_true hsd
        rw [← hsd]
        exact opConvS_run hT hi h (ev x)
      · exact opConv_run hT hi h (ev x)
  case makeFunc f xs ys =>
    refine Yields.runs (s := Instr.makeFunc f (xs.map a.eval) (ys.map a.eval)) (by simp [execOp, hop]) (opMakeFunc_run hT hi h ?_ ?_)
    · have := evals_rel hg he xs.toList
      simpa using this
    · have := evals_rel hg he ys.toList
      simpa using this
  case makeSlice t l m => exact Yields.runs (s := Instr.makeSlice t (a.eval l) (a.eval m)) (by simp [execOp, hop]) (opMakeSlice_run hT hi (by simpa using hp 0 (by omega)) h (ev l) (ev m))
  case slice t x lo hi' mx =>
    refine Yields.runs (s := Instr.sliceAt t (a.eval x) (lo.map a.eval) (hi'.map a.eval) (mx.map a.eval)) (by simp [execOp, hop]) ?_
    split at h
    · exact h.elim
    · rename_i hne
      refine opSlice_run hT hi h (ev x) (by cases lo <;> rfl) (by cases hi' <;> rfl) (by cases mx <;> rfl) ?_ ?_ ?_ ?_
      · intro e v h1 h2; cases lo with
        | none => cases h1
        | some z => cases h1; cases h2; exact ev z
      · intro e v h1 h2; cases hi' with
        | none => cases h1
        | some z => cases h1; cases h2; exact ev z
      · intro e v h1 h2; cases mx with
        | none => cases h1
        | some z => cases h1; cases h2; exact ev z
      · intro hm
        cases mx with
        | none => cases hm
        | some z => cases hi' with
          | none => exact absurd rfl (hne z rfl)
          | some y => rfl
  case fieldAddr t x f => exact Yields.runs (s := Instr.fieldAt t (a.eval x) f) (by simp [execOp, hop]) (opFieldAddr_run hT hi h (ev x))
  case indexAddr t x i => exact Yields.runs (s := Instr.indexAt t (a.eval x) (a.eval i)) (by simp [execOp, hop]) (opIndexAddr_run hT hi h (ev x) (ev i))
  case index t x i => exact Yields.runs (s := Instr.index t (a.eval x) (a.eval i)) (by simp [execOp, hop]) (opIndex_run hT hi h (ev x) (ev i))
  case extract x i => exact Yields.runs (s := Instr.extract (a.eval x) i) (by simp [execOp, hop]) (opExtract_run hT hi h (ev x))
  case call cl =>
    have hall := evals_rel hg he cl.args.toList
    have hargs : cl.args.toList.map a.eval = (cl.args.map a.eval).toList := by simp
    cases hc : cl.callee with
    | builtin b =>
      rw [hc] at h hp
      simp only at h hp
      have run : ∀ (s : Sem Value), builtin b cl.argTypes o.type (cl.args.map fun | .const _ => true | _ => false) (cl.args.map a.eval) = (do return .value (← s)) → execOp a.eval o = (do return .value (← s)) := by
        intro s hs
        rw [← hs]
        simp only [execOp, hop, resolve, hc, pure_bind, invoke]
        congr 1
      unfold opBuiltin at h
      split at h
      · rename_i t x e1 e2
        have et : cl.argTypes = #[t] := by apply Array.ext'; simpa using e1
        rw [e2, hargs] at hall
        cases hu : (cl.args.map a.eval).toList with
        | nil => rw [hu] at hall; cases hall
        | cons u us =>
          rw [hu] at hall
          cases hall with
          | cons h1 h2 =>
            cases h2
            have ea : cl.args.map a.eval = #[u] := by apply Array.ext'; simpa using hu
            exact Yields.runs (run (Builtin.len_ #[t] o.type #[u]) (by rw [et, ea]; rfl)) (opLen_run hT hi h h1)
      · rename_i t t' x y e1 e2
        split at h
        · rename_i ett
          subst ett
          have et : cl.argTypes = #[t, t] := by apply Array.ext'; simpa using e1
          rw [e2, hargs] at hall
          cases hu : (cl.args.map a.eval).toList with
          | nil => rw [hu] at hall; cases hall
          | cons u us =>
            rw [hu] at hall
            cases hall with
            | cons h1 h2 =>
              cases us with
              | nil => cases h2
              | cons u2 us2 =>
                cases h2 with
                | cons h3 h4 =>
                  cases h4
                  have ea : cl.args.map a.eval = #[u, u2] := by apply Array.ext'; simpa using hu
                  exact Yields.runs (run (Builtin.append_ #[t, t] o.type #[u, u2]) (by rw [et, ea]; rfl)) (opAppend_run hT hi (by simpa using hp 0 (by decide)) h (EV.weak_rel h1) (EV.weak_rel h3))
        · split at h
          · rename_i hst
            have et : cl.argTypes = #[t, t'] := by apply Array.ext'; simpa using e1
            rw [e2, hargs] at hall
            cases hu : (cl.args.map a.eval).toList with
            | nil => rw [hu] at hall; cases hall
            | cons u us =>
              rw [hu] at hall
              cases hall with
              | cons h1 h2 =>
                cases us with
                | nil => cases h2
                | cons u2 us2 =>
                  cases h2 with
                  | cons h3 h4 =>
                    cases h4
                    have ea : cl.args.map a.eval = #[u, u2] := by apply Array.ext'; simpa using hu
                    exact Yields.runs (run (Builtin.append_ #[t, t'] o.type #[u, u2]) (by rw [et, ea]; rfl)) (opAppendS_run hT hi (by simpa using hp 0 (by decide)) (isStr_spec hT hst) h h1 h3)
          · exact h.elim
      · rename_i t t' x y e1 e2
        have et : cl.argTypes = #[t, t'] := by apply Array.ext'; simpa using e1
        rw [e2, hargs] at hall
        cases hu : (cl.args.map a.eval).toList with
        | nil => rw [hu] at hall; cases hall
        | cons u us =>
          rw [hu] at hall
          cases hall with
          | cons h1 h2 =>
            cases us with
            | nil => cases h2
            | cons u2 us2 =>
              cases h2 with
              | cons h3 h4 =>
                cases h4
                have ea : cl.args.map a.eval = #[u, u2] := by apply Array.ext'; simpa using hu
                exact Yields.runs (run (Builtin.copy_ #[t, t'] o.type #[u, u2]) (by rw [et, ea]; rfl)) (opCopy_run hT hi h h1 h3)
      · exact Yields.runs (run (Builtin.max_ cl.argTypes o.type (cl.args.map a.eval)) rfl) (opMax_run hT hi h (by rw [← hargs]; exact hall))
      · exact Yields.runs (run (Builtin.min_ cl.argTypes o.type (cl.args.map a.eval)) rfl) (opMin_run hT hi h (by rw [← hargs]; exact hall))
      · exact h.elim
    | value f =>
      rw [hc] at h hp
      have clo : ∀ x, f = x → (opClo cx c.heap (cx.eval env x) (cl.args.toList.map (cx.eval env)) tgt).wp k → Yields P o a c.w (Done c k) := by
        rintro x rfl hh
        unfold opClo at hh
        split at hh
        · rename_i f' he'
          split at hh
          · rename_i hn0
            have hv := ev f
            rw [he'] at hv
            obtain ⟨fs, ws, hv1, r1, r2⟩ := hv
            have ef : fs = #[] := by cases h0 : fs.toList with
              | nil => apply Array.ext'; simpa using h0
              | cons _ _ => rw [h0] at r1; cases r1
            subst ef
            exact opCall_yields' hx hi hg he hop hc hv1 r2 (fun i hi' => by
              unfold conN0 at hn0
              split at hn0
              · rename_i con hcon
                rw [hcon] at hi'
                rw [Bool.and_eq_true] at hn0
                have : con.n = 0 := by simpa using hn0.1
                simp only at hi'; omega
              · cases hn0) hh
          · exact hh.elim
        · exact hh.elim
      cases f with
      | func f => exact opCall_yields hx hi hg he hop hc hp h
      | tmp t => exact clo _ rfl h
      | const v => exact clo _ rfl h
      | global g => exact clo _ rfl h
    | invoke => rw [hc] at h; exact h.elim
  all_goals exact h.elim
end
structure St where
  env : List EV
  heap : List HObj
def putE (env : List EV) (d : Option Tmp) (v : EV) : List EV := match d with
  | some t => env.set t v
  | none => env
structure Kp (D : List Nat) (a a' : Act) : Prop where
  defers : a'.defers = a.defers
  size : a'.tmps.size = a.tmps.size
  get : ∀ t, t ∉ D → a'.tmps[t]? = a.tmps[t]?
theorem Kp.refl {D : List Nat} {a : Act} : Kp D a a := ⟨rfl, rfl, fun _ _ => rfl⟩
theorem Kp.trans {D : List Nat} {a b c : Act} (h : Kp D b c) (h' : Kp D a b) : Kp D a c := ⟨h.defers.trans h'.defers, h.size.trans h'.size, fun t ht => (h.get t ht).trans (h'.get t ht)⟩
theorem Kp.put {D : List Nat} {a : Act} {d : Option Tmp} {v : Value} (hd : ∀ t, d = some t → t ∈ D) : Kp D a (a.put d v) := by
  cases d with
  | none => exact Kp.refl
  | some d =>
    refine ⟨rfl, by simp [Act.put], fun t ht => ?_⟩
    simp only [Act.put, Array.getElem?_setIfInBounds]
    rw [if_neg (fun (e : d = t) => ht (e ▸ hd d rfl))]
def guardOf (ops : Array Oper) (env : List EV) (j : Nat) : Option (Tmp × Bool) := match (ops[j]?).bind (·.dst) with
  | some d => match env[d]? with
    | some (.x (.one (.val (.bool b)))) => some (d, b)
    | _ => none
  | none => none
def isUndef : Value → Bool
  | .tuple vs => vs.toList.isEmpty
  | _ => false
theorem isUndef_eq {v : Value} (h : isUndef v = true) : v = undef := by
  unfold isUndef at h
  split at h
  · rename_i vs
    obtain ⟨l⟩ := vs
    cases l with
    | nil => rfl
    | cons x l => simp at h
  · cases h
def EV.skip : EV := .val undef
def gone (ops : Array Oper) (env : List EV) (j : Nat) : Bool := match (ops[j]?).bind (·.dst) with
  | some d => match env[d]? with
    | some (.x (.one (.val v))) => isUndef v
    | _ => false
  | none => false
abbrev CallEv := FuncId → List EV → List HObj → (EV → List HObj → Prop) → Prop
def inlOf (cx : Cx) (inl : FuncId → Bool) (env : List EV) (o : Oper) : Option (FuncId × List EV) := match o.op with
  | .call cl => match cl.callee with
    | .value x => match cx.eval env x with
      | .x (.one (.clo f first caps)) => if inl f then some (f, first.map LV.ev ++ (cl.args.toList.map (cx.eval env) ++ caps.map LV.ev)) else none
      | _ => none
    | _ => none
  | _ => none
def pendKept : List HObj → List HObj → Bool
  | [], _ => true
  | .pend :: h, .pend :: h' => pendKept h h'
  | .pend :: _, _ => false
  | .dead :: h, _ :: h' => pendKept h h'
  | .box .. :: h, _ :: h' => pendKept h h'
  | .row .. :: h, _ :: h' => pendKept h h'
  | .mp .. :: h, _ :: h' => pendKept h h'
  | _ :: _, [] => false
def Res.name : Res → Res
  | .ret (.x (.one (.val (.bool b)))) us => .all Bool (fun t => t = b) ⟨b, rfl⟩ fun t => .ret (.x (.one (.val (.bool t)))) us
  | .ask p f => .ask p fun h => (f h).name
  | .all α p ne f => .all α p ne fun a => (f a).name
  | r => r
theorem Res.name_wp {k : EV → List (Nat × HObj) → Prop} : ∀ {r : Res}, r.name.wp k → r.wp k
  | .fail, h => h
  | .br _ _ _, h => h
  | .ask p f, ⟨q, h⟩ => ⟨q, Res.name_wp (r := f q) h⟩
  | .all _ _ _ f, h => fun a ha => Res.name_wp (r := f a) (h a ha)
  | .ret ev us, h => by
    unfold Res.name at h
    split at h
    · rename_i e; cases e; exact h _ rfl
    · rename_i e; cases e
    · rename_i e; cases e
    · exact h
def nameable (o : Oper) : Bool := match o.op with
  | .binOp .. | .call _ => true
  | _ => false
def aopN (nm : Bool) (cx : Cx) (o : Oper) (env : List EV) (h : List HObj) (tgt : Nat) : Res := match nm, nameable o with
  | true, true => (aop cx o env h tgt).name
  | _, _ => aop cx o env h tgt
theorem Res.name_iff {k : EV → List (Nat × HObj) → Prop} : ∀ {r : Res}, r.name.wp k ↔ r.wp k
  | .fail => Iff.rfl
  | .br _ _ _ => Iff.rfl
  | .ask p f => ⟨fun ⟨q, h⟩ => ⟨q, (Res.name_iff (r := f q)).1 h⟩, fun ⟨q, h⟩ => ⟨q, (Res.name_iff (r := f q)).2 h⟩⟩
  | .all _ _ _ f => ⟨fun h a ha => (Res.name_iff (r := f a)).1 (h a ha), fun h a ha => (Res.name_iff (r := f a)).2 (h a ha)⟩
  | .ret ev us => by
    unfold Res.name
    split
    · rename_i e; cases e; exact ⟨fun h => h _ rfl, fun h t ht => by subst ht; exact h⟩
    · rename_i e; cases e
    · rename_i e; cases e
    · exact Iff.rfl
theorem aopN_iff {nm : Bool} {cx : Cx} {o : Oper} {env : List EV} {h : List HObj} {tgt : Nat} {k : EV → List (Nat × HObj) → Prop} : (aopN nm cx o env h tgt).wp k ↔ (aop cx o env h tgt).wp k := by
  unfold aopN
  split
  · exact Res.name_iff
  · exact Iff.rfl
theorem aopN_wp {nm : Bool} {cx : Cx} {o : Oper} {env : List EV} {h : List HObj} {tgt : Nat} {k : EV → List (Nat × HObj) → Prop} (hk : (aopN nm cx o env h tgt).wp k) : (aop cx o env h tgt).wp k := by
  unfold aopN at hk
  split at hk
  · exact Res.name_wp hk
  · exact hk
structure Wk where
  inl : FuncId → Bool
  named : Bool
def stepOp (cx : Cx) (wk : Wk) (call : CallEv) (o : Oper) (env : List EV) (h : List HObj) (tgt : Nat) (k : EV → List HObj → Prop) : Prop := match inlOf cx wk.inl env o with
  | some fa => call fa.1 fa.2 h fun v h' => if pendKept h h' then k v h' else False
  | none => (aopN wk.named cx o env h tgt).wp fun ev us => k ev (applyU h us)
def runOps (cx : Cx) (wk : Wk) (call : CallEv) (ops : Array Oper) : List Oper → List EV → List HObj → Nat → (List EV → List HObj → Prop) → Prop
  | [], env, h, _, k => k env h
  | o :: l, env, h, tgt, k => match o.guard with
    | none => stepOp cx wk call o env h tgt fun ev h' => runOps cx wk call ops l (putE env o.dst ev) h' (tgt + nAlloc cx o) k
    | some (j, want) => match guardOf ops env j with
      | none => if gone ops env j then runOps cx wk call ops l (putE env o.dst .skip) h (tgt + nAlloc cx o) k else False
      | some (d, b) => Br b
        (if want then stepOp cx wk call o (env.set d (.val (.bool true))) h tgt fun ev h' => runOps cx wk call ops l (putE (env.set d (.val (.bool true))) o.dst ev) h' (tgt + nAlloc cx o) k
         else runOps cx wk call ops l (putE (env.set d (.val (.bool true))) o.dst .skip) h (tgt + nAlloc cx o) k)
        (if want then runOps cx wk call ops l (putE (env.set d (.val (.bool false))) o.dst .skip) h (tgt + nAlloc cx o) k
         else stepOp cx wk call o (env.set d (.val (.bool false))) h tgt fun ev h' => runOps cx wk call ops l (putE (env.set d (.val (.bool false))) o.dst ev) h' (tgt + nAlloc cx o) k)
def allocs (cx : Cx) (l : List Oper) : Nat := (l.map (nAlloc cx)).sum
theorem EnvRel.put {c : RC} {env : List EV} {a : Act} (h : EnvRel c env a.tmps) (d : Option Tmp) {ev : EV} {v : Value} (r : ev.rel c v) : EnvRel c (putE env d ev) (a.put d v).tmps := by
  cases d with
  | none => exact h
  | some t =>
    refine ⟨by simp [putE, Act.put, h.1], fun i e hi => ?_⟩
    simp only [putE] at hi
    simp only [Act.put, Array.getElem?_setIfInBounds]
    rcases set_get hi with ⟨rfl, rfl, hl⟩ | ⟨hne, hi⟩
    · rw [if_pos rfl, if_pos (by rw [← h.1]; exact hl)]; exact ⟨v, rfl, r⟩
    · rw [if_neg hne]; exact h.2 i e hi
theorem EnvRel.refine {c : RC} {env : List EV} {tmps : Array Value} (h : EnvRel c env tmps) {d : Nat} {ev ev' : EV} (hd : env[d]? = some ev) (hr : ∀ v, ev.rel c v → ev'.rel c v) : EnvRel c (env.set d ev') tmps := by
  refine ⟨by simp [h.1], fun i e hi => ?_⟩
  rcases set_get hi with ⟨rfl, rfl, _⟩ | ⟨_, hi⟩
  · obtain ⟨v, h1, h2⟩ := h.2 _ _ hd; exact ⟨v, h1, hr v h2⟩
  · exact h.2 i e hi
theorem guardOf_some {c : RC} {ops : Array Oper} {env : List EV} {a : Act} {j : Nat} {d : Tmp} {b : Bool} (he : EnvRel c env a.tmps) (h : guardOf ops env j = some (d, b)) :
    env[d]? = some (.val (.bool b)) ∧ yielded ops a.tmps j = some b := by
  unfold guardOf at h
  split at h
  · rename_i d' hd
    split at h
    · rename_i b' hb
      cases h
      refine ⟨hb, ?_⟩
      obtain ⟨v, h1, h2⟩ := he.2 _ _ hb
      obtain rfl : v = .bool b := h2
      unfold yielded
      rw [hd]
      simp [h1]
    · cases h
  · cases h
theorem gone_spec {c : RC} {ops : Array Oper} {env : List EV} {a : Act} {j : Nat} (he : EnvRel c env a.tmps) (h : gone ops env j = true) : yielded ops a.tmps j = none := by
  unfold gone at h
  split at h
  · rename_i d hd
    split at h
    · rename_i v hv
      obtain ⟨u, h1, h2⟩ := he.2 _ _ hv
      obtain rfl : u = undef := by rw [show u = v from h2]; exact isUndef_eq h
      unfold yielded
      rw [hd]
      simp [h1, undef]
    · cases h
  · cases h
theorem pendKept_spec : ∀ {h h' : List HObj}, pendKept h h' = true → ∀ i : Nat, h[i]? = some HObj.pend → h'[i]? = some HObj.pend
  | [], _, _, i, hi => by simp at hi
  | .pend :: h, .pend :: h', hk, i, hi => by
    cases i with
    | zero => rfl
    | succ i => exact pendKept_spec (h := h) (h' := h') hk i (by simpa using hi)
  | .dead :: h, _ :: h', hk, i, hi => by
    cases i with
    | zero => simp at hi
    | succ i => exact pendKept_spec (h := h) (h' := h') hk i (by simpa using hi)
  | .box .. :: h, _ :: h', hk, i, hi => by
    cases i with
    | zero => simp at hi
    | succ i => exact pendKept_spec (h := h) (h' := h') hk i (by simpa using hi)
  | .row .. :: h, _ :: h', hk, i, hi => by
    cases i with
    | zero => simp at hi
    | succ i => exact pendKept_spec (h := h) (h' := h') hk i (by simpa using hi)
  | .mp .. :: h, _ :: h', hk, i, hi => by
    cases i with
    | zero => simp at hi
    | succ i => exact pendKept_spec (h := h) (h' := h') hk i (by simpa using hi)
  | .pend :: _, .dead :: _, hk, _, _ => by cases hk
  | .pend :: _, .mp .. :: _, hk, _, _ => by cases hk
  | .mp .. :: _, [], hk, _, _ => by cases hk
  | .pend :: _, .box .. :: _, hk, _, _ => by cases hk
  | .pend :: _, .row .. :: _, hk, _, _ => by cases hk
  | .pend :: _, [], hk, _, _ => by cases hk
  | .dead :: _, [], hk, _, _ => by cases hk
  | .box .. :: _, [], hk, _, _ => by cases hk
  | .row .. :: _, [], hk, _, _ => by cases hk
def CallOk (P : Program) (cx : Cx) (call : CallEv) : Prop := ∀ (c : RC) (_ : c.Inv) (_ : GOk cx.glob c) {f : FuncId} {args : List EV} {vs : List Value} {k : EV → List HObj → Prop}, All2 (EV.rel c) args vs → call f args c.heap k →
  CallSpec P f vs.toArray c.w fun v w' => ∃ ev c', k ev c'.heap ∧ c'.w = w' ∧ Ext c c' ∧ c'.Inv ∧ ev.rel c' v
def noCall : CallEv := fun _ _ _ _ => False
theorem noCall_ok {P : Program} {cx : Cx} : CallOk P cx noCall := fun _ _ _ _ _ _ _ _ h => h.elim
theorem inlOf_some {cx : Cx} {inl : FuncId → Bool} {env : List EV} {o : Oper} {fa : FuncId × List EV} (h : inlOf cx inl env o = some fa) : ∃ cl x f first caps, o.op = .call cl ∧ cl.callee = .value x ∧ cx.eval env x = .x (.one (.clo f first caps)) ∧
    fa = (f, first.map LV.ev ++ (cl.args.toList.map (cx.eval env) ++ caps.map LV.ev)) := by
  unfold inlOf at h
  split at h
  · rename_i cl ho
    split at h
    · rename_i x hx
      split at h
      · rename_i f first caps he
        split at h
        · cases h; exact ⟨cl, x, f, first, caps, ho, hx, he, rfl⟩
        · cases h
      · cases h
    · cases h
  · cases h
theorem inl_yields {P : Program} {cx : Cx} {call : CallEv} (hcall : CallOk P cx call) {c : RC} (hi : c.Inv) (hg : GOk cx.glob c) {env : List EV} {a : Act} (he : EnvRel c env a.tmps) {inl : FuncId → Bool} {o : Oper} {fa : FuncId × List EV} (h : inlOf cx inl env o = some fa)
    {k : EV → List HObj → Prop} (hk : call fa.1 fa.2 c.heap k) : Yields P o a c.w fun v w' => ∃ ev c', k ev c'.heap ∧ c'.w = w' ∧ Ext c c' ∧ c'.Inv ∧ ev.rel c' v := by
  obtain ⟨cl, x, f, first, caps, ho, hx, hev, rfl⟩ := inlOf_some h
  have hr := eval_rel hg he x
  rw [hev] at hr
  obtain ⟨fs, ws, hv, r1, r2⟩ := hr
  have hall : All2 (EV.rel c) (first.map LV.ev ++ (cl.args.toList.map (cx.eval env) ++ caps.map LV.ev)) (fs.toList ++ (cl.args.toList.map a.eval ++ ws.toList)) :=
    All2.append (LV.evs_rel r1) (All2.append (evals_rel hg he cl.args.toList) (LV.evs_rel r2))
  have hs := hcall c hi hg hall hk
  have hargs : (fs.toList ++ (cl.args.toList.map a.eval ++ ws.toList)).toArray = fs ++ cl.args.map a.eval ++ ws := by apply Array.ext'; simp
  rw [hargs] at hs
  have hrun : (execOp a.eval o).run P c.w = (callFunc f (fs ++ cl.args.map a.eval ++ ws)).run P c.w := by
    simp [execOp, ho, resolve, hx, hv, Deferred.ofValue, invoke]
  intro next Q hn
  unfold Oper.wp
  rw [hrun]
  rcases hs with ⟨v, w', h1, h2⟩ | ⟨h1, h2⟩
  · rw [h1]; exact hn v w' h2
  · rw [h1]
    refine h2.mono fun e w' ⟨v, e1, h3⟩ => ?_
    subst e1
    exact hn v w' h3
theorem Ext.pend_keep {c c' : RC} {us : List (Nat × HObj)} {tgt n m i : Nat} (hh : c'.heap = applyU c.heap us) (ht : Touch c.heap tgt n us) (hp : c.heap[tgt + n + i]? = some .pend) : c'.heap[tgt + n + i]? = some .pend := by
  rw [hh, applyU_ne _ _ _ (fun u hu => ?_)]
  · exact hp
  · rcases ht u hu with h | ⟨o, h1, h2⟩
    · omega
    · intro e; rw [e, hp] at h1; cases h1; exact h2 rfl
section
variable {P : Program} {cx : Cx} (hx : CxOk P cx) {wk : Wk} {call : CallEv} (hcall : CallOk P cx call)
include hx hcall
theorem runOps_sound (ops : Array Oper) {D : List Nat} : ∀ (l : List Oper) (n : Nat) (hl : ops.toList.drop n = l) (hD : ∀ o ∈ l, ∀ t, o.dst = some t → t ∈ D) {c : RC} (hi : c.Inv) {env : List EV} {a : Act} (hg : GOk cx.glob c) (he : EnvRel c env a.tmps) {tgt : Nat} {k : List EV → List HObj → Prop}
    (hp : ∀ i, i < allocs cx l → c.heap[tgt + i]? = some .pend) (h : runOps cx wk call ops l env c.heap tgt k) {Q : Exit → Act → World → Prop}
    (hq : ∀ (c' : RC) (env' : List EV) (a' : Act), k env' c'.heap → Ext c c' → c'.Inv → EnvRel c' env' a'.tmps → Kp D a a' → Q .normal a' c'.w), wpOps P ops Q (List.range' n l.length) a c.w
  | [], n, hl, hD, c, hi, env, a, hg, he, tgt, k, hp, h, Q, hq => hq c env a h (Ext.refl c) hi he Kp.refl
  | o :: l, n, hl, hD, c, hi, env, a, hg, he, tgt, k, hp, h, Q, hq => by
    have ho : ops[n]? = some o := by
      have h0 := congrArg (fun l => l[0]?) hl
      rw [List.getElem?_drop] at h0
      simpa using h0
    have hl' : ops.toList.drop (n + 1) = l := by
      have h1 := congrArg List.tail hl
      rw [List.tail_drop] at h1
      simpa using h1
    have hsum : allocs cx (o :: l) = nAlloc cx o + allocs cx l := by simp [allocs]
    simp only [List.length_cons, List.range'_succ, wpOps, ho]
    have done : ∀ (env1 : List EV), EnvRel c env1 a.tmps → stepOp cx wk call o env1 c.heap tgt (fun ev h' => runOps cx wk call ops l (putE env1 o.dst ev) h' (tgt + nAlloc cx o) k) →
        o.wp P a c.w (wpOps P ops Q (List.range' (n + 1) l.length)) Q := by
      intro env1 he1 hw
      unfold stepOp at hw
      split at hw
      · rename_i fa hfa
        refine inl_yields hcall hi hg he1 hfa hw _ Q fun v w' hd => ?_
        obtain ⟨ev, c', hk, rfl, hext, hinv, hrel⟩ := hd
        split at hk
        · rename_i hpk
          refine runOps_sound ops l (n + 1) hl' (fun o ho => hD o (List.mem_cons_of_mem _ ho)) hinv (GOk.mono hg hext) (EnvRel.put (EnvRel.mono he1 hext) o.dst hrel) (fun i hi' => ?_) hk (fun c2 env2 a2 h1 h2 h3 h4 h5 => hq c2 env2 a2 h1 (hext.trans h2) h3 h4 (h5.trans (Kp.put (hD o List.mem_cons_self))))
          exact pendKept_spec hpk _ (by have := hp (nAlloc cx o + i) (by omega); rwa [← Nat.add_assoc] at this)
        · exact hk.elim
      have hw' := Res.wp_all (aop_touch cx o env1 c.heap tgt) (aopN_wp hw)
      refine aop_sound hx hi hg he1 o tgt (fun i hi' => hp i (by omega)) hw' _ Q fun v w' hd => ?_
      obtain ⟨ev, us, c', ⟨hk, ht⟩, rfl, hh, hext, hinv, hrel⟩ := hd
      rw [← hh] at hk
      refine runOps_sound ops l (n + 1) hl' (fun o ho => hD o (List.mem_cons_of_mem _ ho)) hinv (GOk.mono hg hext) (EnvRel.put (EnvRel.mono he1 hext) o.dst hrel) (fun i hi' => ?_) hk (fun c2 env2 a2 h1 h2 h3 h4 h5 => hq c2 env2 a2 h1 (hext.trans h2) h3 h4 (h5.trans ?_))
      · exact Ext.pend_keep (m := 0) hh ht (by have := hp (nAlloc cx o + i) (by omega); rwa [← Nat.add_assoc] at this)
      · exact Kp.put (hD o List.mem_cons_self)
    have skip : ∀ (env1 : List EV), EnvRel c env1 a.tmps → runOps cx wk call ops l (putE env1 o.dst .skip) c.heap (tgt + nAlloc cx o) k → wpOps P ops Q (List.range' (n + 1) l.length) (a.put o.dst undef) c.w := by
      intro env1 he1 hw
      refine runOps_sound ops l (n + 1) hl' (fun o ho => hD o (List.mem_cons_of_mem _ ho)) hi hg (EnvRel.put he1 o.dst (ev := .skip) rfl) (fun i hi' => ?_) hw (fun c2 env2 a2 h1 h2 h3 h4 h5 => hq c2 env2 a2 h1 h2 h3 h4 (h5.trans ?_))
      · have := hp (nAlloc cx o + i) (by omega); rwa [← Nat.add_assoc] at this
      · exact Kp.put (hD o List.mem_cons_self)
    simp only [runOps] at h
    cases hgd : o.guard with
    | none =>
      rw [hgd] at h
      have : Region.wanted o (yielded ops a.tmps) = true := by simp [Region.wanted, hgd]
      rw [if_pos this]
      exact .inl (done env he h)
    | some jw =>
      obtain ⟨j, want⟩ := jw
      rw [hgd] at h
      simp only at h
      split at h
      · split at h
        · rename_i hgn
          have hw : Region.wanted o (yielded ops a.tmps) = false := by simp [Region.wanted, hgd, gone_spec he hgn]
          rw [if_neg (by rw [hw]; simp)]
          exact skip _ he h
        · exact h.elim
      · rename_i d b hgo
        obtain ⟨hd, hy⟩ := guardOf_some he hgo
        have hw : Region.wanted o (yielded ops a.tmps) = (b == want) := by simp [Region.wanted, hgd, hy]
        cases b with
        | true =>
          have he1 := EnvRel.refine he hd (ev' := .val (.bool true)) (fun v r => r)
          have h' := Br.true h rfl
          cases want with
          | true => rw [if_pos (by rw [hw]; rfl)]; exact .inl (done _ he1 h')
          | false => rw [if_neg (by rw [hw]; simp)]; exact skip _ he1 h'
        | false =>
          have he1 := EnvRel.refine he hd (ev' := .val (.bool false)) (fun v r => r)
          have h' := Br.false h rfl
          cases want with
          | true => rw [if_neg (by rw [hw]; simp)]; exact skip _ he1 h'
          | false => rw [if_pos (by rw [hw]; rfl)]; exact .inl (done _ he1 h')
end
end Go.Lift
