/- A part of the proof of TileSeasCard: an own lifter of code into plain terms, and plain laws. -/
import Derived.Great.FillDense
import Derived.Laws.AppendOwn
import Derived.Laws.AppendOwnNone
import Derived.Laws.Rows
import Derived.Laws.BytesString
import Derived.Laws.Strings
import Derived.Lib.AppendStr
import Derived.StillTail
import Derived.Test.YtomopcclgokehaaGreatDoorPtA
set_option linter.unusedVariables false
set_option linter.unusedSimpArgs false
set_option linter.unusedSectionVars false
/- Soundness of the abstract operations that make memory. Own work. -/
set_option linter.unusedVariables false
set_option linter.unusedSimpArgs false
set_option linter.unusedSectionVars false
namespace Go.Lift

theorem flatten_get {l : List Value} {s : Nat} (hl : l.length = s) (hs : 0 < s) : ∀ (m i : Nat), i < m * s → (List.replicate m l).flatten[i]? = l[i % s]?
  | 0, i, h => by omega
  | m + 1, i, h => by
    rw [List.replicate_succ, List.flatten_cons]
    by_cases hi : i < s
    · rw [List.getElem?_append_left (by omega), Nat.mod_eq_of_lt hi]
    · rw [List.getElem?_append_right (by omega), hl, flatten_get hl hs m (i - s) (by rw [Nat.add_mul, Nat.one_mul] at h; omega)]
      congr 1
      rw [Nat.mod_eq_sub_mod (by omega : i ≥ s)]

theorem flatten_len {l : List Value} (m : Nat) : (List.replicate m l).flatten.length = m * l.length := by
  induction m with
  | zero => simp
  | succ m ih => rw [List.replicate_succ, List.flatten_cons, List.length_append, ih, Nat.add_mul]; omega

theorem made_flat (z : Array Value) (m s : Nat) (hz : z.size = s) (hs : 0 < s) : (madeCells z (m * s)).toList = (List.replicate m z.toList).flatten := by
  apply List.ext_getElem?
  intro i
  by_cases hi : i < m * s
  · rw [flatten_get (s := s) (by simpa using hz) hs m i hi]
    have hlt : i % s < z.size := by rw [hz]; exact Nat.mod_lt _ hs
    simp only [madeCells, Array.toList_map, Array.toList_range, List.getElem?_map]
    rw [List.getElem?_range hi]
    simp only [Option.map_some, hz]
    rw [getElem!_pos z (i % s) hlt, Array.getElem?_toList, Array.getElem?_eq_getElem hlt]
  · rw [List.getElem?_eq_none, List.getElem?_eq_none]
    · rw [flatten_len]; simp only [Array.length_toList, hz]; omega
    · simp [madeCells]; omega

theorem All2.vals (c : RC) : ∀ l : List Value, All2 (SV.rel c) (l.map .val) l
  | [] => .nil
  | _ :: l => .cons rfl (All2.vals c l)

section
variable {P : Program} {cx : Cx} (hT : ∀ t d, cx.tab t = some d → d.Fits P t) {c : RC} (hi : c.Inv) {k : EV → List (Nat × HObj) → Prop} {tgt : Nat} (hp : c.heap[tgt]? = some .pend)
include hT hi hp

/-- A new block of cells is a new object. -/
theorem new_done {w0 : World} (hg : Grows c.w w0) {t : TypeId} {vs : Array Value} {o : HObj} {ev : EV} {v : Value}
    (hr : Ext c (c.put (w0.alloc (.cells vs t)) tgt o (some w0.heap.size)) → o.rel (c.put (w0.alloc (.cells vs t)) tgt o (some w0.heap.size)) tgt)
    (hev : ev.rel (c.put (w0.alloc (.cells vs t)) tgt o (some w0.heap.size)) v) (hk : k ev [(tgt, o)]) : Done c k v (w0.alloc (.cells vs t)) := by
  have hg' : Grows c.w (w0.alloc (.cells vs t)) := hg.trans (Grows.alloc _ _)
  have hb : ∀ b, some w0.heap.size = some b → c.w.heap.size ≤ b := fun b e => by cases e; exact hg.size
  have he := Ext.put (o := o) hg' hp hb
  exact ⟨ev, [(tgt, o)], _, hk, rfl, rfl, he, RC.Inv.put hi hg' hp hb (hr he), hev⟩

theorem put_heap {w' : World} {o : HObj} {b : Option Nat} : (c.put w' tgt o b).heap[tgt]? = some o := set_eq hp
theorem put_blk {w' : World} {o : HObj} {b : Option Nat} : (c.put w' tgt o b).blk tgt = b := by show upd c.blk tgt b tgt = b; simp [upd]

theorem opAlloc_run {t : TypeId} (h : (opAlloc cx t tgt).wp k) : Runs P c (Instr.alloc t true (.tuple #[])) k := by
  unfold opAlloc at h
  split at h
  · rename_i td ht
    obtain ⟨i, z, h1, h2, h3, h4, h5, h6⟩ := (hT t td ht).info
    have run : (Instr.alloc t true (.tuple #[])).run P c.w = .ok (.pointer (some ⟨c.w.heap.size, 0, none⟩)) (c.w.alloc (.cells z.cells t)) := by
      simp [Instr.alloc, zeroValue, typeInfo, h1, h4, newVar, newRow]
    split at h
    · rename_i n e hk
      obtain ⟨k1, k2, k3⟩ := (hT t td ht).kind _ hk
      split at h
      case isFalse => exact h.elim
      rename_i hn
      refine ⟨_, _, run, new_done hT hi hp (Grows.refl _) (fun he => ?_) ?_ h⟩
      · obtain ⟨hl, hrows⟩ := k3 (c.w.alloc (.cells z.cells t)) (c.put (c.w.alloc (.cells z.cells t)) tgt (.row .rw t e (List.replicate n e.dflt)) (some c.w.heap.size)).ok
        refine ⟨?_, .inr ⟨_, _, z.cells.toList, [], put_blk hT hi hp, heap_alloc_new _ _, by simp, by rw [h5]; exact hrows⟩⟩
        simp [maxN]; omega
      · show SV.rel _ (.ref tgt 0) _
        simp only [SV.rel, put_heap hT hi hp]
        exact ⟨_, put_blk hT hi hp, rfl⟩
    · refine ⟨_, _, run, new_done hT hi hp (Grows.refl _) (fun he => ?_) ?_ h⟩
      · refine ⟨_, _, put_blk hT hi hp, heap_alloc_new _ _, ?_⟩
        rw [h5]
        exact All2.vals _ _
      · show SV.rel _ (.ref tgt 0) _
        simp only [SV.rel, put_heap hT hi hp]
        exact ⟨_, put_blk hT hi hp, rfl⟩
  · exact h.elim

theorem opBox_run {t : TypeId} {v : EV} {u : Value} (h : (opBox cx c.heap t v tgt).wp k) (r : v.rel c u) : Runs P c (Instr.box t u) k := by
  unfold opBox at h
  split at h
  · rename_i td xv ht
    have r' : xv.rel c u := r
    have run : (Instr.box t u).run P c.w = .ok (.pointer (some ⟨c.w.heap.size, 0, none⟩)) (c.w.alloc (.cells u.cells t)) := by
      simp [Instr.box, newVar, newRow]
    split at h
    · rename_i n e hk
      split at h
      · rename_i hq
        split at h
        · rename_i ys hys
          obtain ⟨hrep, _, _⟩ := take_cells hT hi hys r'
          obtain ⟨hl, hrows⟩ := hrep
          refine ⟨_, _, run, new_done hT hi hp (Grows.refl _) (fun he => ?_) ?_ h⟩
          · refine ⟨by rw [hl]; simp [maxN]; omega, .inr ⟨_, _, u.cells.toList, [], put_blk hT hi hp, heap_alloc_new _ _, by simp, Rows.mono (fun y cs hh => K.rep_flat e y cs hq.1 hh) hrows⟩⟩
          · show SV.rel _ (.ref tgt 0) _
            simp only [SV.rel, put_heap hT hi hp]
            exact ⟨_, put_blk hT hi hp, rfl⟩
        · exact h.elim
      · exact h.elim
    · split at h
      · rename_i us hus
        obtain ⟨hall, _⟩ := XV.cells_rel hus r'
        refine ⟨_, _, run, new_done hT hi hp (Grows.refl _) (fun he => ?_) ?_ h⟩
        · exact ⟨_, _, put_blk hT hi hp, heap_alloc_new _ _, hall.mono fun _ _ => SV.rel_mono he⟩
        · show SV.rel _ (.ref tgt 0) _
          simp only [SV.rel, put_heap hT hi hp]
          exact ⟨_, put_blk hT hi hp, rfl⟩
      · exact h.elim
  · exact h.elim

theorem opMakeSlice_run {t : TypeId} {l cp : EV} {ul uc : Value} (h : (opMakeSlice cx t l cp tgt).wp k) (rl : l.rel c ul) (rc : cp.rel c uc) : Runs P c (Instr.makeSlice t ul uc) k := by
  unfold opMakeSlice at h
  split at h
  · rename_i e sz by_ z0 kd n m ht
    have hl : ul = .int .i64 n := rl
    have hc : uc = .int .i64 m := rc
    subst hl hc
    have hf : P.underlying t = some (.slice e) := (hT t _ ht).k
    split at h
    · rename_i ed he
      obtain ⟨i, z, h1, h2, h3, h4, h5, h6⟩ := (hT e ed he).info
      split at h
      · rename_i ek hk
        obtain ⟨k1, k2, k3⟩ := (hT e ed he).kind ek hk
        split at h
        · rename_i hq
          obtain ⟨⟨h0, hnm, hb⟩, h⟩ := h
          have hm : m ≤ 281474976710656 := by
            have : m * 1 ≤ m * (ed.bytes : Int) := Int.mul_le_mul_of_nonneg_left (by omega) (by omega)
            omega
          have run := run_make (P := P) c.w t e i z hf h1 h4 .i64 .i64 n m h0 hnm (by rw [h3, Int.mul_comm]; exact hb) (by omega)
          have hz : z.cells.size = i.size := by rw [h6, h2]
          have hs : 0 < i.size := by omega
          refine ⟨_, _, run, new_done hT hi hp (Grows.refl _) (fun he => ?_) ?_ h⟩
          · refine ⟨?_, .inr ⟨_, _, (List.replicate n.toNat z.cells.toList).flatten, (List.replicate (m.toNat - n.toNat) z.cells.toList).flatten, put_blk hT hi hp, heap_alloc_new _ _, ?_, ?_⟩⟩
            · simp [maxN]; omega
            · rw [made_flat _ _ _ hz hs, ← List.flatten_append, List.replicate_append_replicate]
              congr 2; omega
            · exact Rows.replicate (by rw [h5]; exact k3 _ _) _
          · show SV.rel _ (.osl tgt 0 n.toNat) _
            simp only [SV.rel, put_heap hT hi hp]
            refine ⟨_, m.toNat, rfl, by omega, by simp, .inr ⟨_, _, put_blk hT hi hp, by simp, heap_alloc_new _ _, ?_⟩⟩
            rw [size_madeCells]
            simp only [Nat.zero_add]
            rw [k1, h2]; exact Nat.le_refl _
        · exact h.elim
      · exact h.elim
    · exact h.elim
  · exact h.elim

theorem takeAll_repT {hh : List HObj} {p : Nat → Prop} (T : Tak c hh p) {kd : K} : ∀ {vs : List EV} {us : List Value} {xs : List kd.T}, takeAll hh kd vs = some xs → All2 (EV.rel c) vs us →
    xs.length = us.length ∧ (∀ v ∈ us, v.cells.size = kd.sz) ∧ Rows (kd.rep c.w p) xs (us.flatMap fun v => v.cells.toList)
  | [], _, xs, h, ha => by
    cases ha
    obtain rfl := Option.some.inj h
    exact ⟨rfl, fun v hv => (by cases hv), rfl⟩
  | v :: vs, _, xs, h, ha => by
    cases ha with
    | cons h1 h2 =>
      cases v with
      | tup => cases h
      | x xv =>
        simp only [takeAll] at h
        split at h
        · rename_i y hy
          split at h
          · rename_i ys hys
            obtain rfl := Option.some.inj h
            obtain ⟨a1, a2, a3⟩ := take_cellsT hT hi T hy h1
            obtain ⟨b1, b2, b3⟩ := takeAll_repT T hys h2
            refine ⟨by simp [b1], fun v hv => ?_, ⟨_, _, by rw [List.flatMap_cons], a1, b3⟩⟩
            cases hv with
            | head => exact a3
            | tail _ hv => exact b2 v hv
          · cases h
        · cases h

theorem build_core {t e : TypeId} {n : Nat} {parts : Array (Nat × Value)} {vs : List EV} (r : All2 (EV.rel c) vs (parts.toList.map (·.2))) (hf : P.underlying t = some (.slice e)) {ed : TD} (he : cx.tab e = some ed) {ek : K} (hk : ed.kind = some ek)
    (q1 : parts.toList.map (·.1) = List.range n) (q2 : vs.length = n) (q3 : 1 ≤ ed.sz) (q4 : n * ed.sz ≤ 16777216) {xs : List ek.T} (a1 : xs.length = (parts.toList.map (·.2)).length) (a2 : ∀ v ∈ parts.toList.map (·.2), v.cells.size = ek.sz)
    (a3 : Rows (ek.rep c.w c.ok) xs ((parts.toList.map (·.2)).flatMap fun v => v.cells.toList)) (h : k (.x (.one (.osl tgt 0 n))) [(tgt, .row .rw e ek xs)]) : Runs P c (Instr.buildSlice t n parts) k := by
  obtain ⟨i, z, h1, h2, h3, h4, h5, h6⟩ := (hT e ed he).info
  obtain ⟨k1, k2, k3⟩ := (hT e ed he).kind ek hk
  have hvl := r.len
  have hsz : ek.sz = i.size := by omega
  have hpl : parts.toList = ((parts.toList.map (·.2)).zipIdx 0).map fun x => (x.2, x.1) := by
    apply List.ext_getElem?
    intro j
    simp only [List.getElem?_map, List.getElem?_zipIdx, Option.map_map]
    have hj := congrArg (fun l => l[j]?) q1
    simp only [List.getElem?_map] at hj
    cases hpj : parts.toList[j]? with
    | none => rfl
    | some x =>
      rw [hpj] at hj
      have hjn : j < n := by
        have : j < parts.toList.length := by
          rcases Nat.lt_or_ge j parts.toList.length with h' | h'
          · exact h'
          · rw [List.getElem?_eq_none h'] at hpj; cases hpj
        rw [List.length_map] at hvl
        omega
      rw [List.getElem?_range hjn] at hj
      simp only [Option.map_some, Option.some.injEq] at hj ⊢
      rw [Prod.ext_iff]
      simp [hj]
  have hcs : z.cells.size = i.size := by rw [h6, h2]
  have hpos : 0 < i.size := by omega
  have hlen : (parts.toList.map (·.2)).length = n := by rw [← hvl, q2]
  have hfill : ∀ cells : Array Value, cells.size = n * i.size → Instr.fill (fun j => some (j * i.size, i.size)) cells parts.toList = some ((parts.toList.map (·.2)).flatMap fun v => v.cells.toList).toArray := by
    intro cells hc
    conv => lhs; rw [hpl]
    exact Go.Great.fill_whole hpos _ cells (fun v hv => by rw [a2 v hv, hsz]) (by rw [hlen, hc])
  have run : (Instr.buildSlice t n parts).run P c.w = .ok (.slice (some ⟨c.w.heap.size, 0, none⟩) n n) (c.w.alloc (.cells ((parts.toList.map (·.2)).flatMap fun v => v.cells.toList).toArray e)) := by
    have hbig : ¬ (16777216 < n * i.size) := by rw [← h2] at q4; omega
    by_cases hz : n * i.size = 0
    · have := hfill #[] (by simp [hz])
      simp [Instr.buildSlice, run_underlying hf, sizeOf, typeInfo, h1, hbig, hz, Array.range_zero', this, newRow]
    · have := hfill ((Array.range (n * i.size)).map (z.cells[· % z.cells.size]!)) (by simp)
      simp [Instr.buildSlice, run_underlying hf, sizeOf, typeInfo, zeroValue, h1, h4, hbig, hz, this, newRow]
  refine ⟨_, _, run, new_done hT hi hp (Grows.refl _) (fun he => ?_) ?_ h⟩
  · refine ⟨?_, .inr ⟨_, _, _, [], put_blk hT hi hp, heap_alloc_new _ _, by simp, Rows.mono (fun y cs hh => K.rep_mono he.ok ek y cs hh) a3⟩⟩
    have : n * 1 ≤ n * ed.sz := Nat.mul_le_mul_left _ q3
    rw [a1, hlen]; simp [maxN]; omega
  · show SV.rel _ (.osl tgt 0 n) _
    simp only [SV.rel, put_heap hT hi hp]
    refine ⟨_, n, rfl, Nat.le_refl _, by rw [a1, hlen]; omega, .inr ⟨_, _, put_blk hT hi hp, by simp, heap_alloc_new _ _, ?_⟩⟩
    have := Rows.len (fun y cs => K.rep_len ek y cs) a3
    simp only [List.size_toArray]
    rw [this, a1, hlen, Nat.zero_add]; exact Nat.le_refl _

theorem opBuildSlice_run {t : TypeId} {n : Nat} {parts : Array (Nat × Value)} {vs : List EV} (h : (opBuildSlice cx c.heap t n (parts.toList.map (·.1)) vs tgt).wp k) (r : All2 (EV.rel c) vs (parts.toList.map (·.2))) :
    Runs P c (Instr.buildSlice t n parts) k := by
  unfold opBuildSlice at h
  split at h
  · rename_i e sz by_ z0 kd ht
    have hf : P.underlying t = some (.slice e) := (hT t _ ht).k
    split at h
    · rename_i ed he
      split at h
      · rename_i ek hk
        split at h
        · rename_i hq
          obtain ⟨q1, q2, q3, q4⟩ := hq
          split at h
          · rename_i hfl
            split at h
            · rename_i xs hxs
              obtain ⟨a1, a2, a3⟩ := takeAll_repT hT hi hp (Tak.all c) hxs r
              exact build_core hT hi hp r hf he hk q1 q2 q3 q4 a1 a2 (Rows.mono (fun y cs hh => K.rep_flat ek y cs hfl hh) a3) h
            · exact h.elim
          · split at h
            · rename_i xs hxs
              have hu := fze_ok (h := c.heap) vs
              obtain ⟨E, I⟩ := Frz.ext hi (hu.frz (Frz.refl _))
              have hp' : (applyU c.heap (fze c.heap vs))[tgt]? = some .pend := by
                rw [applyU_ne _ _ _ fun u hu' e => ?_]
                · exact hp
                · obtain ⟨t', e', xs', g, _⟩ := hu u hu'
                  rw [e, hp] at g; cases g
              have r' := r.mono fun _ _ q => EV.rel_mono E q
              obtain ⟨a1, a2, a3⟩ := takeAll_repT hT I hp' (Tak.frozen I) hxs r'
              exact Runs.frozen hi hu (build_core hT I hp' r' hf he hk q1 q2 q3 q4 a1 a2 a3 h)
            · exact h.elim
        · exact h.elim
      · exact h.elim
    · exact h.elim
  · exact h.elim
end

/-- What is appended: so many things, these cells; how Go's append runs with it. -/
structure Src (P : Program) (w : World) (t tu ty e : TypeId) (i : TypeInfo) (z : Value) (uy : Value) (n : Nat) (news : List Value) : Prop where
  zero : n = 0 → ∀ (A : Option Addr) (m cap : Nat), m ≤ cap → (Builtin.append_ #[t, tu] ty #[.slice A m cap, uy]).run P w = .ok (.slice A m cap) w
  nil : 0 < n → (n : Int) ≤ 9223372036854775807 → n * i.bytes ≤ 281474976710656 → (Builtin.append_ #[t, tu] ty #[.slice none 0 0, uy]).run P w =
    .ok (.slice (some ⟨w.heap.size, 0, none⟩) n (grownCap w n 0 e)) (w.drew.alloc (.cells (news.toArray ++ Builtin.zeroCells z.cells (grownCap w n 0 e - n)) e))
  grow : 0 < n → ∀ (b : Addr) (sLen sCap : Nat) (olds : List Value), olds.length = sLen * i.size → (∀ j v, olds[j]? = some v → w.cell? (b.add j) = some v) → sCap < sLen + n → ((sLen + n : Nat) : Int) ≤ 9223372036854775807 →
    Builtin.nextslicecap (sLen + n) sCap * i.bytes ≤ 281474976710656 → (Builtin.append_ #[t, tu] ty #[.slice (some b) sLen sCap, uy]).run P w =
      .ok (.slice (some ⟨w.heap.size, 0, none⟩) (sLen + n) (grownCap w (sLen + n) sCap e)) (w.drew.alloc (.cells (olds.toArray ++ news.toArray ++ Builtin.zeroCells z.cells (grownCap w (sLen + n) sCap e - (sLen + n))) e))
  room : 0 < n → ∀ (g sLen sCap : Nat) (cur : Array Value), w.heap[g]? = some (.cells cur e (0, 0)) → sLen + n ≤ sCap → sLen * i.size + news.length ≤ cur.size → (Builtin.append_ #[t, tu] ty #[.slice (some ⟨g, 0, none⟩) sLen sCap, uy]).run P w =
      .ok (.slice (some ⟨g, 0, none⟩) (sLen + n) sCap) (w.setRow g (cur.toList.take (sLen * i.size) ++ news ++ cur.toList.drop (sLen * i.size + news.length)).toArray)

/-- A row has gone over into another: its block written from its end on, or all of it copied into a new one. -/
structure Moved (w w' : World) (b : Nat) : Prop where
  size : w.heap.size ≤ w'.heap.size
  os : w'.os = w.os
  tape : w'.tape = w.tape
  output : w'.output = w.output
  others : ∀ (i : Nat), i < w.heap.size → i ≠ b → w'.heap[i]? = w.heap[i]?
  same : ∀ (vs : Array Value) (t : TypeId) (z : Nat × Nat), w.heap[b]? = some (.cells vs t z) → ∃ vs' : Array Value, w'.heap[b]? = some (.cells vs' t z) ∧ vs'.size = vs.size

section
variable {c : RC} {w' : World} {id tgt b : Nat} {o o' : HObj} {ob : Option Nat}

def RC.move (c : RC) (w' : World) (id tgt : Nat) (o' : HObj) (ob : Option Nat) : RC := { c with w := w', heap := (c.heap.set id .dead).set tgt o', blk := upd c.blk tgt ob }

theorem move_get (hne : id ≠ tgt) {i : Nat} {x : HObj} (h : (c.move w' id tgt o' ob).heap[i]? = some x) : (i = tgt ∧ x = o') ∨ (i = id ∧ x = .dead) ∨ (i ≠ tgt ∧ i ≠ id ∧ c.heap[i]? = some x) := by
  rcases set_get h with ⟨rfl, rfl, _⟩ | ⟨h1, h2⟩
  · exact .inl ⟨rfl, rfl⟩
  · rcases set_get h2 with ⟨rfl, rfl, _⟩ | ⟨h3, h4⟩
    · exact .inr (.inl ⟨rfl, rfl⟩)
    · exact .inr (.inr ⟨Ne.symm h1, Ne.symm h3, h4⟩)

theorem Ext.move (hne : id ≠ tgt) (ho : c.heap[id]? = some o) (hm : o.md? = some .rw) (hb : c.blk id = some b) (hp : c.heap[tgt]? = some .pend) (hw : Moved c.w w' b)
    (hob : ∀ b', ob = some b' → b' = b ∨ c.w.heap.size ≤ b') : Ext c (c.move w' id tgt o' ob) where
  base := rfl
  size := hw.size
  os := hw.os
  tape := hw.tape
  output := hw.output
  keep i hi hn := hw.others i hi fun e => hn (e ▸ ⟨id, o, ho, hm, hb⟩)
  cells i vs t z h := by
    by_cases e : i = b
    · subst e; exact hw.same vs t z h
    · exact ⟨vs, (hw.others i (lt_of_some h) e).trans h, rfl⟩
  blk i oi hoi hne' := by
    show upd c.blk tgt ob i = _
    unfold upd
    split
    · rename_i e; subst e; rw [hp] at hoi; cases hoi; exact absurd rfl hne'
    · rfl
  ev i oi hoi := by
    by_cases e1 : tgt = i
    · subst e1; rw [hp] at hoi; cases hoi
      exact ⟨o', set_eq ((set_ne hne).trans hp), trivial⟩
    · by_cases e2 : id = i
      · subst e2
        refine ⟨.dead, (set_ne e1).trans (set_eq ho), ?_⟩
        rw [ho] at hoi; cases hoi
        cases o with
        | pend => trivial
        | dead => rfl
        | box => exact .inl rfl
        | row => exact .inl rfl
      · exact ⟨oi, (set_ne e1).trans ((set_ne e2).trans hoi), oi.ev_refl⟩
  fresh i oi bi hoi hl hn hbi hlt := by
    rcases move_get hne hoi with ⟨rfl, rfl⟩ | ⟨rfl, rfl⟩ | ⟨h1, h2, h3⟩
    · have : upd c.blk i ob i = ob := by simp [upd]
      rcases hob bi (this.symm.trans hbi) with rfl | h
      · exact ⟨id, o, ho, hm, hb⟩
      · exact absurd hlt (Nat.not_lt.2 h)
    · simp [HObj.live, HObj.md?] at hl
    · exact absurd hl (hn oi h3)

theorem RC.Inv.move (hi : c.Inv) (hne : id ≠ tgt) (ho : c.heap[id]? = some o) (hm : o.md? = some .rw) (hb : c.blk id = some b) (hp : c.heap[tgt]? = some .pend) (hw : Moved c.w w' b)
    (hob : ∀ b', ob = some b' → b' = b ∨ c.w.heap.size ≤ b') (hr : o'.rel (c.move w' id tgt o' ob) tgt) : (c.move w' id tgt o' ob).Inv where
  objs i oi hoi := by
    rcases move_get hne hoi with ⟨rfl, rfl⟩ | ⟨rfl, rfl⟩ | ⟨h1, h2, h3⟩
    · exact hr
    · trivial
    · refine HObj.rel_mono (Ext.move hne ho hm hb hp hw hob) h3 (fun bi hbi hl => hw.others bi (HObj.blk_lt (hi.objs i oi h3) hl hbi) fun e => ?_) (hi.objs i oi h3)
      subst e
      exact h2 (hi.inj i id oi o bi h3 hl ho (HObj.live_of_md hm) hbi hb)
  inj i j oi oj bi hoi hli hoj hlj hbi hbj := by
    have et : upd c.blk tgt ob tgt = ob := by simp [upd]
    have eo : ∀ i, i ≠ tgt → upd c.blk tgt ob i = c.blk i := fun i h => by simp [upd, h]
    have hlt : b < c.w.heap.size := HObj.blk_lt (hi.objs id o ho) (HObj.live_of_md hm) hb
    have key : ∀ (j : Nat) (oj : HObj), j ≠ tgt → j ≠ id → c.heap[j]? = some oj → oj.live → ob = some bi → c.blk j = some bi → False := by
      intro j oj h1 h2 h3 hl e1 e2
      rcases hob bi e1 with rfl | h
      · exact h2 (hi.inj j id oj o bi h3 hl ho (HObj.live_of_md hm) e2 hb)
      · exact absurd (HObj.blk_lt (hi.objs j oj h3) hl e2) (Nat.not_lt.2 h)
    rcases move_get hne hoi with ⟨rfl, rfl⟩ | ⟨rfl, rfl⟩ | ⟨h1, h2, h3⟩ <;> rcases move_get hne hoj with ⟨rfl, rfl⟩ | ⟨rfl, rfl⟩ | ⟨k1, k2, k3⟩
    · rfl
    · simp [HObj.live, HObj.md?] at hlj
    · exact (key j oj k1 k2 k3 hlj (et.symm.trans hbi) ((eo j k1).symm.trans hbj)).elim
    · simp [HObj.live, HObj.md?] at hli
    · rfl
    · simp [HObj.live, HObj.md?] at hli
    · exact (key i oi h1 h2 h3 hli (et.symm.trans hbj) ((eo i h1).symm.trans hbi)).elim
    · simp [HObj.live, HObj.md?] at hlj
    · exact hi.inj i j oi oj bi h3 hli k3 hlj ((eo i h1).symm.trans hbi) ((eo j k1).symm.trans hbj)
  base i oi bi hoi hl hbi := by
    have et : upd c.blk tgt ob tgt = ob := by simp [upd]
    rcases move_get hne hoi with ⟨rfl, rfl⟩ | ⟨rfl, rfl⟩ | ⟨h1, h2, h3⟩
    · rcases hob bi (et.symm.trans hbi) with rfl | h
      · exact hi.base id o bi ho (HObj.live_of_md hm) hb
      · exact Nat.le_trans hi.basele h
    · simp [HObj.live, HObj.md?] at hl
    · have : upd c.blk tgt ob i = c.blk i := by simp [upd, h1]
      exact hi.base i oi bi h3 hl (this.symm.trans hbi)
  basele := Nat.le_trans hi.basele hw.size
end


/-- An object is given up. -/
def RC.kill (c : RC) (id : Nat) : RC := { c with heap := c.heap.set id .dead }

theorem Ext.kill {c : RC} {id : Nat} {o : HObj} (ho : c.heap[id]? = some o) : Ext c (c.kill id) where
  base := rfl
  size := Nat.le_refl _
  os := rfl
  tape := rfl
  output := rfl
  keep _ _ _ := rfl
  cells _ vs _ _ h := ⟨vs, h, rfl⟩
  blk _ _ _ _ := rfl
  ev i oi hoi := by
    by_cases e2 : id = i
    · subst e2
      refine ⟨.dead, set_eq ho, ?_⟩
      rw [ho] at hoi; cases hoi
      cases o with
      | pend => trivial
      | dead => rfl
      | box => exact .inl rfl
      | row => exact .inl rfl
    · exact ⟨oi, (set_ne e2).trans hoi, oi.ev_refl⟩
  fresh i oi bi hoi hl hn hbi hlt := by
    rcases set_get hoi with ⟨rfl, rfl, _⟩ | ⟨_, h⟩
    · simp [HObj.live, HObj.md?] at hl
    · exact absurd hl (hn oi h)

theorem RC.Inv.kill {c : RC} (hi : c.Inv) {id : Nat} {o : HObj} (ho : c.heap[id]? = some o) : (c.kill id).Inv where
  objs i oi hoi := by
    rcases set_get hoi with ⟨rfl, rfl, _⟩ | ⟨_, h⟩
    · trivial
    · exact HObj.rel_mono (Ext.kill ho) h (fun _ _ _ => rfl) (hi.objs i oi h)
  inj i j oi oj bi hoi hli hoj hlj hbi hbj := by
    rcases set_get hoi with ⟨rfl, rfl, _⟩ | ⟨_, h⟩
    · simp [HObj.live, HObj.md?] at hli
    · rcases set_get hoj with ⟨rfl, rfl, _⟩ | ⟨_, h'⟩
      · simp [HObj.live, HObj.md?] at hlj
      · exact hi.inj i j oi oj bi h hli h' hlj hbi hbj
  base i oi bi hoi hl hbi := by
    rcases set_get hoi with ⟨rfl, rfl, _⟩ | ⟨_, h⟩
    · simp [HObj.live, HObj.md?] at hl
    · exact hi.base i oi bi h hl hbi
  basele := hi.basele

section
variable {P : Program} {cx : Cx} (hT : ∀ t d, cx.tab t = some d → d.Fits P t) {c : RC} (hi : c.Inv) {k : EV → List (Nat × HObj) → Prop} {tgt : Nat} (hp : c.heap[tgt]? = some .pend)
include hT

theorem run_append_zero (w : World) {t ty e : TypeId} (hf : P.underlying t = some (.slice e)) {ed : TD} (he : cx.tab e = some ed) (A B : Option Addr) (n cap cap2 : Nat) (hn : n ≤ cap) :
    (Builtin.append_ #[t, t] ty #[.slice A n cap, .slice B 0 cap2]).run P w = .ok (.slice A n cap) w := by
  have hs := run_sizeOf hT (c := ⟨w, [], fun _ => none, 0, fun _ => True⟩) ⟨by simp, by simp, by simp, Nat.zero_le _⟩ he w
  have hfc : ∀ B, (Builtin.firstCells ed.sz 0 (.slice B 0 cap2)).run P w = .ok #[] w := by
    intro B; cases B <;> simp [Builtin.firstCells, loadCells, loadCellsFrom]
  cases A with
  | none => simp [Builtin.append_, run_underlying hf, hs, Builtin.lenOf, hn, hfc]
  | some a => simp [Builtin.append_, run_underlying hf, hs, Builtin.lenOf, hn, hfc, storeCells]

include hi

theorem src_cells {yv : XV} {ek : K} {ys : List ek.T} {u : Value} (h : yv.take c.heap (.slice ek) = some ys) (r : yv.rel c u) :
    ∃ A cap news, u = .slice A ys.length cap ∧ ys.length ≤ maxN ∧ Rows (ek.rep c.w c.ok) ys news ∧ (ys = [] ∨ ∃ b off, A = some ⟨b, off, none⟩ ∧ At c.w b off news) := by
  cases yv with
  | agg cs => simp [XV.take, K.agg] at h
  | dat k x =>
    simp only [XV.take] at h
    split at h
    · rename_i q; subst q; simp [K.agg] at h
    · cases h
  | one s =>
    simp only [XV.take, K.agg, Bool.false_eq_true, if_false] at h
    cases s with
    | val v =>
      have hu : u = v := r
      subst hu
      simp only [SV.take] at h
      split at h
      · rename_i hn
        obtain rfl := Option.some.inj h
        exact ⟨none, 0, [], isNilS_eq hn, by simp [maxN], rfl, .inl rfl⟩
      · cases h
    | void =>
      simp only [SV.take] at h
      obtain rfl := Option.some.inj h
      obtain ⟨A, rfl⟩ := r
      exact ⟨A, 0, [], rfl, by simp [maxN], rfl, .inl rfl⟩
    | data k' y =>
      simp only [SV.take] at h
      split at h
      · rename_i q; subst q; obtain rfl := Option.some.inj h
        obtain ⟨A, cap, e1, h1, h2, h3⟩ := r
        rcases h3 with rfl | ⟨b, off, vs, rfl, _, hr, hat⟩
        · exact ⟨A, cap, [], (List.cons.inj e1).1, h2, rfl, .inl rfl⟩
        · exact ⟨_, cap, vs, (List.cons.inj e1).1, h2, hr, .inr ⟨b, off, rfl, hat⟩⟩
      · cases h
    | osl id off len =>
      simp only [SV.take] at h
      have hr : SV.rel c (.osl id off len) u := r
      simp only [SV.rel] at hr
      cases ho : c.heap[id]? with
      | none => rw [ho] at h; simp at h
      | some o =>
        rw [ho] at h hr
        cases o with
        | pend => simp at h
        | dead => simp at h
        | box _ _ _ => simp at h
        | row m t e' xs =>
          simp only at h hr
          split at h
          · rename_i q; subst q; obtain rfl := Option.some.inj h
            obtain ⟨A, cap, rfl, hc, hl, hr⟩ := hr
            obtain ⟨hmax, ho2⟩ := hi.objs id _ ho
            have hlen : ((xs.drop off).take len).length = len := by rw [List.length_take, List.length_drop]; omega
            rcases ho2 with ⟨hbn, hx0⟩ | ⟨b', vs', fr, re, hb', hv', hvs, hrows⟩
            · subst hx0
              simp only [List.length_nil] at hl
              have : len = 0 := by omega
              subst this
              exact ⟨A, cap, [], rfl, by simp [maxN], by simp [Rows], .inl (by simp)⟩
            · rcases hr with hr | ⟨b, vs, hb, ha, hv, hsz⟩
              · have : len = 0 := by omega
                subst this
                exact ⟨A, cap, [], rfl, by simp [maxN], by simp [Rows], .inl (by simp)⟩
              · rw [hb] at hb'; cases hb'
                rw [hv] at hv'; cases hv'
                refine ⟨A, cap, (fr.drop (off * e'.sz)).take (len * e'.sz), by rw [hlen], by rw [hlen]; omega, ?_, .inr ⟨_, off * e'.sz, ha, ?_⟩⟩
                · exact Rows.take (fun y cs => K.rep_len e' y cs) len (Rows.drop (fun y cs => K.rep_len e' y cs) off hrows)
                · intro j v hj
                  have h1 : (fr.drop (off * e'.sz))[j]? = some v := by
                    rw [List.getElem?_take] at hj
                    split at hj
                    · exact hj
                    · cases hj
                  rw [List.getElem?_drop] at h1
                  simp only [World.cell?, hv]
                  have h2 : vs'.toList[off * e'.sz + j]? = some v := by
                    rw [hvs, List.getElem?_append_left]
                    · exact h1
                    · rcases Nat.lt_or_ge (off * e'.sz + j) fr.length with h' | h'
                      · exact h'
                      · rw [List.getElem?_eq_none h'] at h1; cases h1
                  simpa using h2
          · cases h
    | _ => simp [SV.take] at h

theorem isVoid_rel {x : EV} {u : Value} (h : isVoid x = true) (r : x.rel c u) : ∃ A, u = .slice A 0 0 := by
  unfold isVoid at h
  split at h
  · exact r
  · rename_i v
    have : u = v := r
    subst this
    exact ⟨none, isNilS_eq h⟩
  · cases h

include hp

theorem append_nothing {t tu ty e : TypeId} {uy : Value} {ed : TD} (hsz1 : 1 ≤ ed.sz) (hby1 : 1 ≤ ed.bytes) {i : TypeInfo} {z : Value} (h2 : i.size = ed.sz) (h3 : i.bytes = ed.bytes) (h6 : z.cells.size = ed.sz) {ek : K} (hsz : ed.sz = ek.sz)
    {ys : List ek.T} {news : List Value} (S : Src P c.w t tu ty e i z uy ys.length news) (hmx : ys.length ≤ maxN) (hrows : Rows (ek.rep c.w c.ok) ys news) {A : Option Addr} (hb : ys.length * ed.bytes ≤ 140737488355328)
    (h : k (.x (.one (.osl tgt 0 ys.length))) [(tgt, .row .rw e ek ys)]) : Runs P c (Builtin.append_ #[t, tu] ty #[.slice A 0 0, uy]) k := by
  by_cases hz : ys = []
  · have run := S.zero (by rw [hz]; rfl) A 0 0 (Nat.le_refl _)
    have hpt := Ext.put (w' := c.w) (o := .row .rw e ek ys) (ob := none) (Grows.refl c.w) hp (fun b e => by cases e)
    refine ⟨_, _, run, _, _, c.put c.w tgt (.row .rw e ek ys) none, h, rfl, rfl, hpt, RC.Inv.put hi (Grows.refl c.w) hp (fun b e => by cases e) ⟨by rw [hz]; simp [maxN], .inl ⟨by show upd c.blk tgt none tgt = none; simp [upd], hz⟩⟩, ?_⟩
    show SV.rel _ (.osl tgt 0 _) _
    have : (c.put c.w tgt (.row .rw e ek ys) none).heap[tgt]? = some (.row .rw e ek ys) := set_eq hp
    simp only [SV.rel, this]
    exact ⟨A, 0, by rw [hz]; rfl, by rw [hz]; exact Nat.le_refl _, by simp, .inl rfl⟩
  · have hpos : 0 < ys.length := List.length_pos_iff.2 hz
    have hnl : news.length = ys.length * i.size := by rw [Rows.len (fun y cs => K.rep_len ek y cs) hrows, h2, hsz]
    have hb' : ys.length * i.bytes ≤ 140737488355328 := by rw [h3]; exact hb
    have hle : ys.length ≤ ys.length * ed.bytes := Nat.le_mul_of_pos_right _ (by omega)
    have fin : ∀ cp, (Builtin.append_ #[t, tu] ty #[.slice A 0 0, uy]).run P c.w =
        .ok (.slice (some ⟨c.w.heap.size, 0, none⟩) ys.length cp) (c.w.drew.alloc (.cells (news.toArray ++ Builtin.zeroCells z.cells (cp - ys.length)) e)) → ys.length ≤ cp →
        Runs P c (Builtin.append_ #[t, tu] ty #[.slice A 0 0, uy]) k := by
      intro cp run hcp
      refine ⟨_, _, run, new_done hT hi hp (w0 := c.w.drew) (Grows.drew _) (fun hext => ?_) ?_ h⟩
      · exact ⟨hmx, .inr ⟨_, _, news, (Builtin.zeroCells z.cells (cp - ys.length)).toList, put_blk hT hi hp, heap_alloc_new c.w.drew _, by simp, Rows.mono (fun y cs hh => K.rep_mono hext.ok ek y cs hh) hrows⟩⟩
      · show SV.rel _ (.osl tgt 0 _) _
        simp only [SV.rel, put_heap hT hi hp]
        refine ⟨_, cp, rfl, hcp, by simp, .inr ⟨_, _, put_blk hT hi hp, by simp, heap_alloc_new c.w.drew _, ?_⟩⟩
        simp only [Array.size_append, List.size_toArray, size_zeroCells, hnl, h6, Nat.zero_add, ← hsz, ← h2, ← Nat.add_mul]
        have : ys.length + (cp - ys.length) = cp := by omega
        rw [this]; exact Nat.le_refl _
    cases A with
    | none => exact fin _ (S.nil hpos (by omega) (by omega)) (grownCap_ge _ _ _ _)
    | some a =>
      have run := S.grow hpos a 0 0 [] (by simp) (by simp) (by omega) (by omega) (growslice_fits (by omega) (by simpa using hb'))
      simp only [Nat.zero_add, Array.empty_append] at run
      exact fin _ run (grownCap_ge _ _ _ _)

theorem append_row {t tu ty rty : TypeId} {uy : Value} {ed : TD} (hsz1 : 1 ≤ ed.sz) (hby1 : 1 ≤ ed.bytes) {i : TypeInfo} {z : Value} (h2 : i.size = ed.sz) (h3 : i.bytes = ed.bytes) (h6 : z.cells.size = ed.sz) {ek : K} (hsz : ed.sz = ek.sz)
    {ys : List ek.T} {news : List Value} (S : Src P c.w t tu ty rty i z uy ys.length news) (hmx : ys.length ≤ maxN) (hrows : Rows (ek.rep c.w c.ok) ys news) {u : Value} {id : Nat} {xs : List ek.T} (rx : EV.rel c (.x (.one (.osl id 0 xs.length))) u) (ho : c.heap[id]? = some (.row .rw rty ek xs)) (hne : id ≠ tgt) (hb : (xs.length + ys.length) * ed.bytes ≤ 140737488355328)
    (h : k (.x (.one (.osl tgt 0 (xs.length + ys.length)))) [(id, .dead), (tgt, .row .rw rty ek (xs ++ ys))]) : Runs P c (Builtin.append_ #[t, tu] ty #[u, uy]) k := by
  obtain ⟨A, cp, rfl, hc, hl, hcase⟩ := osl_row (s := .junk) hT hi ho rx
  have hnl : news.length = ys.length * i.size := by rw [Rows.len (fun y cs => K.rep_len ek y cs) hrows, h2, hsz]
  have hb' : (xs.length + ys.length) * i.bytes ≤ 140737488355328 := by rw [h3]; exact hb
  have hle : xs.length + ys.length ≤ (xs.length + ys.length) * rty.succ * 0 + (xs.length + ys.length) * ed.bytes := by
    have := Nat.le_mul_of_pos_right (xs.length + ys.length) (show 0 < ed.bytes by omega)
    omega
  have hsum : xs.length + ys.length ≤ 140737488355328 := by
    have := Nat.le_mul_of_pos_right (xs.length + ys.length) (show 0 < ed.bytes by omega)
    omega
  -- the new state
  have fin : ∀ (b0 : Nat) (w' : World) (ob : Option Nat) (v' : Value), c.blk id = some b0 → (Builtin.append_ #[t, tu] ty #[.slice A xs.length cp, uy]).run P c.w = .ok v' w' → Moved c.w w' b0 →
      (∀ b', ob = some b' → b' = b0 ∨ c.w.heap.size ≤ b') →
      (∃ b1 vs front rest, ob = some b1 ∧ w'.heap[b1]? = some (.cells vs rty (0, 0)) ∧ vs.toList = front ++ rest ∧ Rows (ek.rep c.w c.ok) (xs ++ ys) front ∧
        ∃ cp', v' = .slice (some ⟨b1, 0, none⟩) (xs.length + ys.length) cp' ∧ xs.length + ys.length ≤ cp' ∧ cp' * ek.sz ≤ vs.size) →
      Runs P c (Builtin.append_ #[t, tu] ty #[.slice A xs.length cp, uy]) k := by
    intro b0 w' ob v' hb0 run hw hob hx
    obtain ⟨b1, vs, front, rest, rfl, hv, hvs, hrow, cp', rfl, hcp, hcs⟩ := hx
    refine ⟨_, _, run, _, _, c.move w' id tgt _ (some b1), h, rfl, rfl, Ext.move hne ho rfl hb0 hp hw hob, RC.Inv.move hi hne ho rfl hb0 hp hw hob ?_, ?_⟩
    · refine ⟨?_, .inr ⟨b1, vs, front, rest, ?_, hv, hvs, Rows.mono (fun y cs hh => K.rep_mono (Ext.move (o' := .row .rw rty ek (xs ++ ys)) hne ho rfl hb0 hp hw hob).ok ek y cs hh) hrow⟩⟩
      · rw [List.length_append]; simp only [maxN]; omega
      · show upd c.blk tgt (some b1) tgt = _; simp [upd]
    · show SV.rel _ (.osl tgt 0 (xs.length + ys.length)) _
      have hg : (c.move w' id tgt (.row .rw rty ek (xs ++ ys)) (some b1)).heap[tgt]? = some (.row .rw rty ek (xs ++ ys)) := set_eq ((set_ne hne).trans hp)
      simp only [SV.rel, hg]
      refine ⟨_, cp', rfl, hcp, by rw [List.length_append]; omega, .inr ⟨b1, vs, ?_, by simp, hv, by simpa using hcs⟩⟩
      show upd c.blk tgt (some b1) tgt = _; simp [upd]
  -- the row's own cells
  have own : ∀ b0, c.blk id = some b0 → ∃ vs f re, c.w.heap[b0]? = some (.cells vs rty (0, 0)) ∧ vs.toList = f ++ re ∧ Rows (ek.rep c.w c.ok) xs f ∧ f.length = xs.length * i.size ∧
      (∀ j v, f[j]? = some v → c.w.cell? ((⟨b0, 0, none⟩ : Addr).add j) = some v) := by
    intro b0 hb0
    obtain ⟨_, vs, f, re, g1, g2, g3⟩ := row_obj hT hi ho hb0
    refine ⟨vs, f, re, g1, g2, g3, by rw [Rows.len (fun y cs => K.rep_len ek y cs) g3, h2, hsz], fun j v hj => ?_⟩
    rw [Addr.add_none]
    simp only [World.cell?, g1, Option.isSome_none, Nat.zero_add]
    have : vs.toList[j]? = some v := by
      rw [g2, List.getElem?_append_left]
      · exact hj
      · rcases Nat.lt_or_ge j f.length with h' | h'
        · exact h'
        · rw [List.getElem?_eq_none h'] at hj; cases hj
    simpa using this
  have moved_new : ∀ b0 o, b0 < c.w.heap.size → Moved c.w (c.w.drew.alloc o) b0 := by
    intro b0 o hlt
    have hg := (Grows.drew c.w).trans (Grows.alloc c.w.drew o)
    exact ⟨hg.size, rfl, rfl, rfl, fun i hi _ => hg.keep i hi, fun vs t z hv => ⟨vs, (hg.keep b0 hlt).trans hv, rfl⟩⟩
  have moved_refl : ∀ b0, Moved c.w c.w b0 := fun b0 => ⟨Nat.le_refl _, rfl, rfl, rfl, fun _ _ _ => rfl, fun vs t z hv => ⟨vs, hv, rfl⟩⟩
  -- where does the row lie
  rcases (hi.objs id _ ho).2 with ⟨hbn, hx0⟩ | ⟨b0, _, _, _, hb0, _⟩
  · -- it is nowhere
    subst hx0
    have hcp : cp = 0 := by
      rcases hcase with h | ⟨b, vs, hb, _⟩
      · exact h
      · rw [hbn] at hb; cases hb
    subst hcp
    have hpk : (c.kill id).heap[tgt]? = some .pend := (set_ne hne).trans hp
    have hik := hi.kill ho
    have fin2 : ∀ (w' : World) (ob : Option Nat) (v' : Value), (Builtin.append_ #[t, tu] ty #[.slice A 0 0, uy]).run P c.w = .ok v' w' → Grows c.w w' → (∀ b, ob = some b → c.w.heap.size ≤ b) →
        ((ob = none ∧ ys = [] ∧ ∃ A', v' = .slice A' 0 0) ∨ ∃ b1 vs front rest, ob = some b1 ∧ w'.heap[b1]? = some (.cells vs rty (0, 0)) ∧ vs.toList = front ++ rest ∧ Rows (ek.rep c.w c.ok) ys front ∧
          ∃ cp', v' = .slice (some ⟨b1, 0, none⟩) ys.length cp' ∧ ys.length ≤ cp' ∧ cp' * ek.sz ≤ vs.size) →
        Runs P c (Builtin.append_ #[t, tu] ty #[.slice A 0 0, uy]) k := by
      intro w' ob v' run hg hob hx
      have he2 := Ext.put (c := c.kill id) (o := .row .rw rty ek ([] ++ ys)) (ob := ob) hg hpk hob
      have hget : ((c.kill id).put w' tgt (.row .rw rty ek ([] ++ ys)) ob).heap[tgt]? = some (.row .rw rty ek ([] ++ ys)) := set_eq hpk
      have hbk : ((c.kill id).put w' tgt (.row .rw rty ek ([] ++ ys)) ob).blk tgt = ob := by show upd c.blk tgt ob tgt = _; simp [upd]
      refine ⟨_, _, run, _, _, (c.kill id).put w' tgt _ ob, h, rfl, rfl, (Ext.kill ho).trans he2, RC.Inv.put hik hg hpk hob ⟨by simp [maxN] at hmx ⊢; omega, ?_⟩, ?_⟩
      · rcases hx with ⟨rfl, rfl, _⟩ | ⟨b1, vs, front, rest, rfl, hv, hvs, hrow, _⟩
        · exact .inl ⟨hbk, rfl⟩
        · exact .inr ⟨b1, vs, front, rest, hbk, hv, hvs, Rows.mono (fun y cs hh => K.rep_mono ((Ext.kill ho).trans he2).ok ek y cs hh) hrow⟩
      · show SV.rel _ (.osl tgt 0 _) _
        simp only [SV.rel, hget]
        rcases hx with ⟨rfl, rfl, A', rfl⟩ | ⟨b1, vs, front, rest, rfl, hv, hvs, hrow, cp', rfl, h5, h6⟩
        · exact ⟨A', 0, rfl, Nat.le_refl _, by simp, .inl rfl⟩
        · exact ⟨some ⟨b1, 0, none⟩, cp', by simp, by simpa using h5, by simp, .inr ⟨b1, vs, hbk, by simp, hv, by simpa using h6⟩⟩
    by_cases hz : ys = []
    · exact fin2 _ none _ (S.zero (by rw [hz]; rfl) A 0 0 (Nat.le_refl _) |> fun q => by subst hz; exact q) (Grows.refl _) (fun b e => by cases e) (.inl ⟨rfl, hz, A, by subst hz; rfl⟩)
    · have hpos : 0 < ys.length := List.length_pos_iff.2 hz
      have hy' : ys.length * i.bytes ≤ 140737488355328 := by simpa using hb'
      have hyl : ys.length ≤ 140737488355328 := by simpa using hsum
      have go : ∀ cp', (Builtin.append_ #[t, tu] ty #[.slice A 0 0, uy]).run P c.w =
          .ok (.slice (some ⟨c.w.heap.size, 0, none⟩) ys.length cp') (c.w.drew.alloc (.cells (news.toArray ++ Builtin.zeroCells z.cells (cp' - ys.length)) rty)) → ys.length ≤ cp' →
          Runs P c (Builtin.append_ #[t, tu] ty #[.slice A 0 0, uy]) k := by
        intro cp' run hcp
        refine fin2 _ (some c.w.heap.size) _ run ((Grows.drew c.w).trans (Grows.alloc c.w.drew _)) (fun b e => by cases e; exact Nat.le_refl _) (.inr ⟨_, _, news, (Builtin.zeroCells z.cells (cp' - ys.length)).toList, rfl, heap_alloc_new c.w.drew _, by simp, hrows, cp', rfl, hcp, ?_⟩)
        simp only [Array.size_append, List.size_toArray, size_zeroCells, hnl, h6, ← hsz, ← h2, ← Nat.add_mul]
        have : ys.length + (cp' - ys.length) = cp' := by omega
        rw [this]; exact Nat.le_refl _
      cases A with
      | none => exact go _ (S.nil hpos (by omega) (by omega)) (grownCap_ge _ _ _ _)
      | some a =>
        have run := S.grow hpos a 0 0 [] (by simp) (by simp) (by omega) (by omega) (growslice_fits (by omega) (by simpa using hy'))
        simp only [Nat.zero_add, Array.empty_append] at run
        exact go _ run (grownCap_ge _ _ _ _)
  · obtain ⟨vs, f, re, g1, g2, g3, g4, g5⟩ := own b0 hb0
    have hlt : b0 < c.w.heap.size := lt_of_some g1
    have hxrows : Rows (ek.rep c.w c.ok) xs f := g3
    have hyrows : Rows (ek.rep c.w c.ok) ys news := hrows
    -- in a new block
    have grow : ∀ cp', (Builtin.append_ #[t, tu] ty #[.slice A xs.length cp, uy]).run P c.w =
        .ok (.slice (some ⟨c.w.heap.size, 0, none⟩) (xs.length + ys.length) cp') (c.w.drew.alloc (.cells (f.toArray ++ news.toArray ++ Builtin.zeroCells z.cells (cp' - (xs.length + ys.length))) rty)) → xs.length + ys.length ≤ cp' →
        Runs P c (Builtin.append_ #[t, tu] ty #[.slice A xs.length cp, uy]) k := by
      intro cp' run hcp
      refine fin b0 _ (some c.w.heap.size) _ hb0 run (moved_new b0 _ hlt) (fun b e => by cases e; exact .inr (Nat.le_refl _)) ⟨_, _, f ++ news, (Builtin.zeroCells z.cells (cp' - (xs.length + ys.length))).toList, rfl, heap_alloc_new c.w.drew _, by simp, hxrows.append hyrows, cp', rfl, hcp, ?_⟩
      simp only [Array.size_append, List.size_toArray, size_zeroCells, hnl, g4, h6, ← hsz, ← h2, ← Nat.add_mul]
      have : xs.length + ys.length + (cp' - (xs.length + ys.length)) = cp' := by omega
      rw [this]; exact Nat.le_refl _
    by_cases hz : ys = []
    · -- nothing more
      subst hz
      have run := S.zero rfl A xs.length cp hc
      rcases hcase with h0 | ⟨b, vs', hb1, rfl, hv', hsz'⟩
      · -- no room and none wanted: the header stays, the row is nowhere any more
        subst h0
        have hx0 : xs = [] := List.eq_nil_of_length_eq_zero (by omega)
        subst hx0
        have hpk : (c.kill id).heap[tgt]? = some .pend := (set_ne hne).trans hp
        have he2 := Ext.put (c := c.kill id) (w' := c.w) (o := .row .rw rty ek ([] ++ [])) (ob := none) (Grows.refl _) hpk (fun b e => by cases e)
        have hget : ((c.kill id).put c.w tgt (.row .rw rty ek ([] ++ [])) none).heap[tgt]? = some (.row .rw rty ek ([] ++ [])) := set_eq hpk
        refine ⟨_, _, run, _, _, (c.kill id).put c.w tgt _ none, h, rfl, rfl, (Ext.kill ho).trans he2, RC.Inv.put (hi.kill ho) (Grows.refl _) hpk (fun b e => by cases e) ⟨by simp [maxN], .inl ⟨by show upd c.blk tgt none tgt = _; simp [upd], rfl⟩⟩, ?_⟩
        show SV.rel _ (.osl tgt 0 _) _
        simp only [SV.rel, hget]
        exact ⟨A, 0, rfl, Nat.le_refl _, by simp, .inl rfl⟩
      · rw [hb0] at hb1; cases hb1
        rw [g1] at hv'; cases hv'
        refine fin b0 _ (some b0) _ hb0 run (moved_refl b0) (fun b e => by cases e; exact .inl rfl) ⟨b0, vs, f, re, rfl, g1, g2, by simpa using hxrows, cp, by simp, by simpa using hc, by simpa using hsz'⟩
    · have hpos : 0 < ys.length := List.length_pos_iff.2 hz
      rcases hcase with h0 | ⟨b1, vs', hb1, rfl, hv', hsz'⟩
      · -- no room
        subst h0
        have hx0 : xs = [] := List.eq_nil_of_length_eq_zero (by omega)
        subst hx0
        have hf0 : f = [] := List.eq_nil_of_length_eq_zero (by simpa using g4)
        subst hf0
        cases A with
        | none =>
          have run := S.nil hpos (by omega) (by simpa using Nat.le_trans hb' (by omega))
          exact grow _ (by simpa using run) (by simpa using grownCap_ge _ _ _ _)
        | some a =>
          have run := S.grow hpos a 0 0 [] (by simp) (by simp) (by omega) (by omega) (growslice_fits (by omega) (by simpa using hb'))
          exact grow _ (by simpa using run) (by simpa using grownCap_ge _ _ _ _)
      · rw [hb0] at hb1; cases hb1
        rw [g1] at hv'; cases hv'
        simp only [Nat.zero_mul] at *
        by_cases hroom : xs.length + ys.length ≤ cp
        · -- within the room
          have hfit : xs.length * i.size + news.length ≤ vs.size := by
            rw [hnl, ← Nat.add_mul]
            have := Nat.mul_le_mul_right i.size hroom
            rw [← h2] at hsz; rw [hsz] at this ⊢
            simp only [Nat.zero_add] at hsz'
            omega
          have run := S.room hpos b0 xs.length cp vs g1 hroom hfit
          have hvl : vs.toList.length = f.length + re.length := by rw [g2, List.length_append]
          simp only [Array.length_toList] at hvl
          refine fin b0 _ (some b0) _ hb0 run ⟨by simp, rfl, rfl, rfl, fun j hj hne' => setRow_other c.w b0 j _ hne', fun us t' zz hus => ?_⟩ (fun b e => by cases e; exact .inl rfl)
            ⟨b0, _, f ++ news, vs.toList.drop (xs.length * i.size + news.length), rfl, setRow_heap c.w b0 vs _ rty _ g1, ?_, hxrows.append hyrows, cp, rfl, hroom, ?_⟩
          · rw [g1] at hus; cases hus
            refine ⟨_, setRow_heap c.w b0 vs _ rty _ g1, ?_⟩
            simp; omega
          · have : vs.toList.take (xs.length * i.size) = f := by rw [g2, ← g4, List.take_left]
            rw [this]
          · simp only [List.size_toArray, List.length_append, List.length_take, List.length_drop, Array.length_toList]
            simp only [Nat.zero_add] at hsz'
            omega
        · -- it grows
          exact grow _ (S.grow hpos ⟨b0, 0, none⟩ xs.length cp f g4 g5 (by omega) (by omega) (growslice_fits (by omega) hb')) (grownCap_ge _ _ _ _)

/-- A slice's things are appended. -/
theorem slice_src {t ty e : TypeId} (hf : P.underlying t = some (.slice e)) {ed : TD} (he : cx.tab e = some ed) {i : TypeInfo} {z : Value} (h1 : P.info? e = some i) (h4 : i.zero = some z) {ek : K} (hsz : ek.sz = i.size) {ys : List ek.T} {B : Option Addr} {cap : Nat} {news : List Value}
    (hrows : Rows (ek.rep c.w c.ok) ys news) (hat : ys = [] ∨ ∃ b off, B = some ⟨b, off, none⟩ ∧ At c.w b off news) : Src P c.w t t ty e i z (.slice B ys.length cap) ys.length news := by
  have hnl : news.length = ys.length * i.size := by rw [Rows.len (fun y cs => K.rep_len ek y cs) hrows, hsz]
  have at' : 0 < ys.length → ∃ b off, B = some ⟨b, off, none⟩ ∧ ∀ j v, news[j]? = some v → c.w.cell? ((⟨b, off, none⟩ : Addr).add j) = some v := by
    intro h0
    rcases hat with rfl | ⟨b, off, rfl, hat⟩
    · simp at h0
    · exact ⟨b, off, rfl, fun j v hv => by rw [Addr.add_none]; exact hat j v hv⟩
  refine ⟨fun h0 A m cp hm => ?_, fun h0 a1 a2 => ?_, fun h0 b sLen sCap olds a1 a2 a3 a4 a5 => ?_, fun h0 g sLen sCap cur a1 a2 a3 => ?_⟩
  · rw [h0]; exact run_append_zero hT c.w (ty := ty) hf he A B m cp cap hm
  · obtain ⟨b, off, rfl, hnews⟩ := at' h0
    exact run_append_nil (P := P) c.w t ty e i z hf h1 h4 ⟨b, off, none⟩ ys.length cap news hnl hnews h0 a1 a2
  · obtain ⟨b', off, rfl, hnews⟩ := at' h0
    exact run_append_grow (P := P) c.w t ty e i z hf h1 h4 b sLen sCap olds a1 a2 ⟨b', off, none⟩ ys.length cap news hnl hnews a3 a4 a5
  · obtain ⟨b, off, rfl, hnews⟩ := at' h0
    exact run_append_room (P := P) c.w t ty e i hf h1 g sLen sCap cur a1 ⟨b, off, none⟩ ys.length cap news hnl hnews (fun u hu => Rows.every (p := fun v => v.oneCell' = true) (fun y cs hy v hv => rep_ones hT hi ek y cs hy v hv) hrows u hu) a2 a3

theorem opAppend_run {t ty : TypeId} {x y : EV} {u uy : Value} (h : (opAppend cx c.heap t x y tgt).wp k) (rx : x.rel c u) (ry : y.rel c uy) : Runs P c (Builtin.append_ #[t, t] ty #[u, uy]) k := by
  unfold opAppend at h
  split at h
  case h_2 => exact h.elim
  rename_i e sz by_ z0 kd yv ht
  have hf : P.underlying t = some (.slice e) := (hT t _ ht).k
  have ry' : yv.rel c uy := ry
  split at h
  case h_2 => exact h.elim
  rename_i ed he
  obtain ⟨i, z, h1, h2, h3, h4, h5, h6⟩ := (hT e ed he).info
  split at h
  case isFalse => exact h.elim
  rename_i hq0
  obtain ⟨hsz1, hby1⟩ := hq0
  split at h
  · -- onto nothing
    rename_i hv
    obtain ⟨A, rfl⟩ := isVoid_rel hT hi hv rx
    split at h
    case h_2 => exact h.elim
    rename_i ek hk
    split at h
    case isFalse => exact h.elim
    rename_i hsz
    split at h
    case h_2 => exact h.elim
    rename_i ys hys
    obtain ⟨hb, h⟩ := h
    obtain ⟨B, cap, news, rfl, hmx, hrows, hat⟩ := src_cells hT hi hys ry'
    exact append_nothing hT hi hp hsz1 hby1 h2 h3 h6 hsz (slice_src hT hi hp hf he h1 h4 (by omega) hrows hat) hmx hrows hb h
  · -- onto a row of one's own
    split at h
    case h_2 => exact h.elim
    rename_i id len hnv
    split at h
    case h_2 => exact h.elim
    rename_i rty ek xs ho
    split at h
    case isFalse => exact h.elim
    rename_i hq
    obtain ⟨rfl, hsz, hne⟩ := hq
    split at h
    case h_2 => exact h.elim
    rename_i ys0 hys
    obtain ⟨ys, rfl⟩ : ∃ ys : List ek.T, ys = ys0 := ⟨ys0, rfl⟩
    obtain ⟨⟨rfl, hb⟩, h⟩ := h
    obtain ⟨B, cap, news, rfl, hmx, hrows, hat⟩ := src_cells hT hi hys ry'
    exact append_row hT hi hp hsz1 hby1 h2 h3 h6 hsz (slice_src hT hi hp hf he h1 h4 (by omega) hrows hat) hmx hrows rx ho hne hb h
end
end Go.Lift

/- Strings out of bytes, bytes out of strings, copies; function values that bear something; parts of arrays. Own work. -/
set_option linter.unusedVariables false
set_option linter.unusedSimpArgs false
set_option linter.unusedSectionVars false
namespace Go.Lift

def strBytes (s : ByteArray) : List Int := s.data.toList.map fun b => (b.toNat : Int)
theorem strBytes_len (s : ByteArray) : (strBytes s).length = s.size := by
  unfold strBytes; rw [List.length_map, Array.length_toList]; rfl
/-- A text's bytes. -/
def bytesOf : EV → Option (List Int)
  | .x (.one (.val (.string s))) => some (strBytes s)
  | .x (.one (.bstr bs)) => some bs
  | _ => none
theorem bytesOf_rel {c : RC} {v : EV} {bs : List Int} {u : Value} (h : bytesOf v = some bs) (r : v.rel c u) : ∃ s : ByteArray, u = .string s ∧ strBytes s = bs := by
  unfold bytesOf at h
  split at h
  · rename_i s; cases h; exact ⟨s, r, rfl⟩
  · rename_i bs'; cases h; exact r
  · cases h
/-- A number as a byte. -/
def byteOf (n : Int) : Int := ((n.toNat % 256 : Nat) : Int)

def opB2S (h : List HObj) (v : EV) : Res := match v with
  | .x xv => match xv.take h (.slice (.int .u8)) with
    | some xs => .ret (.x (.one (.bstr (List.map byteOf xs)))) []
    | none => .fail
  | _ => .fail

def EV.lv : EV → Option LV
  | .x (.one (.val v)) => some (.val v)
  | .x (.one (.ref id off)) => some (.ref id off)
  | .x (.one (.data k y)) => some (.data k y)
  | _ => none
def lvs : List EV → Option (List LV)
  | [] => some []
  | e :: r => match e.lv with
    | some l => match lvs r with
      | some ls => some (l :: ls)
      | none => none
    | none => none
def opMakeFunc (f : Fn) (first caps : List EV) : Res := match f with
  | .func f => match lvs first, lvs caps with
    | some a, some b => .ret (.x (.one (.clo f a b))) []
    | _, _ => .fail
  | _ => .fail

def opAppendS (cx : Cx) (h : List HObj) (t : TypeId) (x y : EV) (tgt : Nat) : Res := match cx.tab t, bytesOf y with
  | some ⟨.slice e, _, _, _, _⟩, some bs => match cx.tab e with
    | some ed => if ed.sz = 1 ∧ ed.bytes = 1 then
        (if isVoid x then .ask (bs.length ≤ 140737488355328) fun _ => .ret (.x (.one (.osl tgt 0 bs.length))) [(tgt, .row .rw e (.int .u8) bs)]
        else match x with
        | .x (.one (.osl id 0 len)) => match h[id]? with
          | some (.row .rw ty ek xs) => if ty = e ∧ id ≠ tgt then (if q : ek = .int .u8 then
              .ask (len = List.length xs ∧ List.length xs + bs.length ≤ 140737488355328) fun _ => .ret (.x (.one (.osl tgt 0 (List.length xs + bs.length)))) [(id, .dead), (tgt, .row .rw e (.int .u8) (@HAppend.hAppend (List Int) (List Int) (List Int) _ (q ▸ xs : List (K.int .u8).T) bs))]
              else .fail) else .fail
          | _ => .fail
        | _ => .fail) else .fail
    | none => .fail
  | _, _ => .fail

/-- What is copied: a slice's things, a text's bytes. -/
def copySrc (h : List HObj) (ek : K) (y : EV) : Option (List ek.T) := match bytesOf y with
  | some bs => if q : ek = .int .u8 then some (q.symm ▸ (bs : List (K.int .u8).T)) else none
  | none => match y with
    | .x yv => yv.take h (.slice ek)
    | _ => none

def opCopy (cx : Cx) (h : List HObj) (t : TypeId) (x y : EV) : Res := match cx.tab t, x with
  | some ⟨.slice e, _, _, _, _⟩, .x (.one (.osl id off len)) => match cx.tab e, h[id]? with
    | some ed, some (.row .rw ty ek xs) => if ed.sz = ek.sz then (match copySrc h ek y with
        | some ys => .ask (List.length (α := ek.T) ys ≤ len) fun _ => .ret (.val (.int .i64 (List.length (α := ek.T) ys))) [(id, .row .rw ty ek (List.take (α := ek.T) off xs ++ ys ++ List.drop (α := ek.T) (off + List.length (α := ek.T) ys) xs))]
        | none => .fail) else .fail
    | _, _ => .fail
  | _, _ => .fail

theorem fold_push (ns : List Int) : ∀ s : ByteArray, strBytes (ns.foldl (fun r n => r.push (UInt8.ofNat n.toNat)) s) = strBytes s ++ ns.map byteOf := by
  induction ns with
  | nil => intro s; simp
  | cons n ns ih =>
    intro s
    rw [List.foldl_cons, ih]
    have : strBytes (s.push (UInt8.ofNat n.toNat)) = strBytes s ++ [byteOf n] := by
      unfold strBytes ByteArray.push byteOf
      simp [UInt8.toNat_ofNat']
    rw [this, List.map_cons]
    simp

section
variable {P : Program} {cx : Cx} (hT : ∀ t d, cx.tab t = some d → d.Fits P t) {c : RC} (hi : c.Inv) {k : EV → List (Nat × HObj) → Prop}
include hT hi

theorem rows_ints : ∀ {xs : List Int} {cs : List Value} {w : World} {ok : Nat → Prop}, Rows ((K.int .u8).rep w ok) xs cs → cs = xs.map (Value.int .u8)
  | [], cs, w, ok, h => h
  | x :: xs, cs, w, ok, ⟨c1, c2, e, h1, h2⟩ => by
    have e1 : c1 = [.int .u8 x] := h1
    rw [e, e1, rows_ints h2]; rfl

omit hT hi in
theorem b2s_run {sT d e : TypeId} (hs : P.underlying sT = some (.slice e)) (he : P.underlying e = some (.int .u8)) (hd : P.underlying d = some .string) {xs : List Int} {A : Option Addr} (cap : Nat) {news : List Value} (hn : news = xs.map (Value.int .u8))
    (hat : xs = [] ∨ ∃ b off, A = some ⟨b, off, none⟩ ∧ At c.w b off news) : ∃ s : ByteArray, (Go.convert sT d (.slice A xs.length cap)).run P c.w = .ok (.string s) c.w ∧ strBytes s = xs.map byteOf := by
  have e0 := run_convert_bytes_string (P := P) c.w sT d e A xs.length cap hs he hd
  cases A with
  | none =>
    have hx : xs = [] := by
      rcases hat with h | ⟨b, off, h, _⟩
      · exact h
      · cases h
    subst hx
    refine ⟨.empty, by rw [e0]; simp [Conv.bytesToString], rfl⟩
  | some a =>
    have hl : (loadCells a xs.length).run P c.w = .ok (xs.map (Value.int .u8)).toArray c.w := by
      have hlen : news.length = xs.length := by rw [hn]; simp
      have := run_loadCells_list (P := P) c.w a news (fun j v hv => by
        rcases hat with h | ⟨b, off, h, hat⟩
        · rw [h] at hn; rw [hn] at hv; simp at hv
        · cases h; rw [Addr.add_none]; exact hat j v hv)
      rw [hlen] at this
      rw [this, hn]
    refine ⟨_, by rw [e0]; exact run_bytesToString (P := P) c.w a _ cap xs hl, ?_⟩
    rw [fold_push]
    rfl

theorem opB2S_run {sT d e : TypeId} (hs : P.underlying sT = some (.slice e)) (he : P.underlying e = some (.int .u8)) (hd : P.underlying d = some .string) {v : EV} {u : Value} (h : (opB2S c.heap v).wp k) (r : v.rel c u) : Runs P c (Go.convert sT d u) k := by
  unfold opB2S at h
  split at h
  · rename_i xv
    split at h
    · rename_i xs hxs
      have r' : xv.rel c u := r
      obtain ⟨A, cap, news, rfl, hmx, hrows, hat⟩ := src_cells hT hi hxs r'
      obtain ⟨st, h1, h2⟩ := b2s_run (P := P) (c := c) hs he hd cap (rows_ints hT hi hrows) hat
      exact Runs.pure hi h1 h ⟨st, rfl, h2⟩
    · exact h.elim
  · exact h.elim

theorem opMakeFunc_run {f : Fn} {fe ce : List EV} {fs cs : Array Value} (h : (opMakeFunc f fe ce).wp k) (rf : All2 (EV.rel c) fe fs.toList) (rc : All2 (EV.rel c) ce cs.toList) : Runs P c (Instr.makeFunc f fs cs) k := by
  have one : ∀ {e : EV} {l : LV} {v : Value}, e.lv = some l → e.rel c v → l.rel c v := by
    intro e l v he r
    unfold EV.lv at he
    split at he
    · cases he; exact r
    · rename_i id off; cases he
      have r' : SV.rel c (.ref id off) v := r
      simp only [SV.rel] at r'
      simp only [LV.rel]
      exact r'
    · cases he; exact r
    · cases he
  have all : ∀ {es : List EV} {ls : List LV} {vs : List Value}, lvs es = some ls → All2 (EV.rel c) es vs → All2 (LV.rel c) ls vs := by
    intro es
    induction es with
    | nil => intro ls vs he ha; cases he; cases ha; exact .nil
    | cons e es ih =>
      intro ls vs he ha
      simp only [lvs] at he
      split at he
      · rename_i l hl
        split at he
        · rename_i ls' hls
          cases he
          cases ha with
          | cons h1 h2 => exact .cons (one hl h1) (ih hls h2)
        · cases he
      · cases he
  unfold opMakeFunc at h
  split at h
  · split at h
    · rename_i a b ha hb
      exact Runs.pure hi (v := .func (.func _) fs cs) rfl h ⟨fs, cs, rfl, all ha rf, all hb rc⟩
    · exact h.elim
  · exact h.elim

/-- A text's bytes are appended. -/
theorem text_src {w : World} {t tu ty e : TypeId} (hf : P.underlying t = some (.slice e)) (hu : P.underlying tu = some .string) {i : TypeInfo} {z : Value} (h1 : P.info? e = some i) (h2 : i.size = 1) (h4 : i.zero = some z) (s : ByteArray) :
    Src P w t tu ty e i z (.string s) s.size (Lib.strCells s) := by
  have e1 : (s.data.map (fun b => Value.int .u8 b.toNat)) = (Lib.strCells s).toArray := by
    unfold Lib.strCells; apply Array.ext'; simp
  refine ⟨fun h0 A m cp hm => ?_, fun h0 a1 a2 => ?_, fun h0 b sLen sCap olds a1 a2 a3 a4 a5 => ?_, fun h0 g sLen sCap cur a1 a2 a3 => ?_⟩
  · have hf2 := Lib.run_firstCells_string (P := P) w i.size s
    rw [h0] at hf2
    have hnil : Lib.strCells s = [] := List.eq_nil_of_length_eq_zero (by rw [Lib.strCells_length, h0])
    rw [hnil] at hf2
    cases A with
    | none => simp [Builtin.append_, run_underlying hf, run_underlying hu, sizeOf, typeInfo, h1, Builtin.lenOf, h0, hm, hf2]
    | some a => simp [Builtin.append_, run_underlying hf, run_underlying hu, sizeOf, typeInfo, h1, Builtin.lenOf, h0, hm, hf2, storeCells]
  · rw [← e1]
    exact run_append_nil_string (P := P) w t tu ty e i z hf hu h1 h4 s h0 a1 a2
  · exact Lib.run_append_grow_string (P := P) w t tu ty e i z hf hu h1 h4 b sLen sCap olds a1 a2 s a3 a4 a5
  · have := Lib.run_append_room_string (P := P) w t tu ty e i hf hu h1 h2 g sLen sCap cur a1 s a2 (by rw [h2, Lib.strCells_length] at a3; omega)
    rw [h2, Lib.strCells_length, Nat.mul_one]
    exact this

omit hT hi in
theorem rows_text (s : ByteArray) (w : World) (ok : Nat → Prop) : Rows ((K.int .u8).rep w ok) (strBytes s) (Lib.strCells s) := by
  unfold strBytes Lib.strCells
  generalize s.data.toList = l
  induction l with
  | nil => rfl
  | cons b l ih => exact ⟨[.int .u8 b.toNat], _, rfl, rfl, ih⟩

theorem opAppendS_run {tgt : Nat} (hp : c.heap[tgt]? = some .pend) {t tu ty : TypeId} (htu : P.underlying tu = some .string) {x y : EV} {u uy : Value} (h : (opAppendS cx c.heap t x y tgt).wp k) (rx : x.rel c u) (ry : y.rel c uy) : Runs P c (Builtin.append_ #[t, tu] ty #[u, uy]) k := by
  unfold opAppendS at h
  split at h
  case h_2 => exact h.elim
  rename_i e sz by_ z0 kd bs ht hbs
  have hf : P.underlying t = some (.slice e) := (hT t _ ht).k
  obtain ⟨s, rfl, rfl⟩ := bytesOf_rel hbs ry
  split at h
  case h_2 => exact h.elim
  rename_i ed he
  obtain ⟨i, z, h1, h2, h3, h4, h5, h6⟩ := (hT e ed he).info
  split at h
  case isFalse => exact h.elim
  rename_i hq0
  obtain ⟨hsz1, hby1⟩ := hq0
  have hS := text_src hT hi (w := c.w) (ty := ty) hf htu h1 (by omega) h4 s
  rw [← strBytes_len] at hS
  have hrows := rows_text s c.w c.ok
  split at h
  · rename_i hv
    obtain ⟨A, rfl⟩ := isVoid_rel hT hi hv rx
    obtain ⟨hb, h⟩ := h
    have b1 : (strBytes s).length ≤ maxN := by simp only [maxN]; omega
    have b2 : (strBytes s).length * ed.bytes ≤ 140737488355328 := by rw [hby1]; omega
    exact append_nothing hT hi hp (ek := .int .u8) (ys := strBytes s) (by omega) (by omega) h2 h3 h6 hsz1 hS b1 hrows b2 h
  · split at h
    case h_2 => exact h.elim
    rename_i id len hnv
    split at h
    case h_2 => exact h.elim
    rename_i rty ek xs ho
    split at h
    case isFalse => exact h.elim
    rename_i hq
    obtain ⟨rfl, hne⟩ := hq
    split at h
    case isFalse => exact h.elim
    rename_i q
    subst q
    obtain ⟨⟨rfl, hb⟩, h⟩ := h
    obtain ⟨xs, rfl⟩ : ∃ l : List Int, l = xs := ⟨xs, rfl⟩
    have hb : xs.length + (strBytes s).length ≤ 140737488355328 := hb
    have b1 : (strBytes s).length ≤ maxN := by simp only [maxN]; omega
    have b2 : (xs.length + (strBytes s).length) * ed.bytes ≤ 140737488355328 := by rw [hby1]; omega
    exact append_row hT hi hp (ek := .int .u8) (ys := strBytes s) (by omega) (by omega) h2 h3 h6 hsz1 hS b1 hrows rx ho hne b2 h

theorem copySrc_cells {ek : K} {y : EV} {ys : List ek.T} {uy : Value} (h : copySrc c.heap ek y = some ys) (r : y.rel c uy) :
    ∃ news, Rows (ek.rep c.w c.ok) ys news ∧ ys.length ≤ maxN + maxN * 0 + ys.length ∧ (∀ w', (Builtin.lenOf uy).run P w' = .ok ys.length w') ∧ ∀ m, m = ys.length → (Builtin.firstCells ek.sz m uy).run P c.w = .ok news.toArray c.w := by
  unfold copySrc at h
  cases hbs : bytesOf y with
  | some bs =>
    rw [hbs] at h
    simp only at h
    split at h
    · rename_i q
      subst q
      obtain rfl := Option.some.inj h
      obtain ⟨s, rfl, rfl⟩ := bytesOf_rel hbs r
      refine ⟨Lib.strCells s, rows_text s _ _, by omega, fun w' => ?_, fun m hm => ?_⟩
      · show _ = Result.ok (strBytes s).length w'
        rw [strBytes_len]; rfl
      · have hm : m = (strBytes s).length := hm
        rw [strBytes_len] at hm
        rw [hm]
        exact Lib.run_firstCells_string (P := P) c.w _ s
    · cases h
  | none =>
    rw [hbs] at h
    cases y with
    | tup _ => cases h
    | x yv =>
      have h : yv.take c.heap (.slice ek) = some ys := h
      obtain ⟨A, cap, news, rfl, hmx, hrows, hat⟩ := src_cells hT hi h (r : yv.rel c uy)
      refine ⟨news, hrows, by omega, fun w' => rfl, fun m hm => ?_⟩
      have hnl : news.length = ys.length * ek.sz := Rows.len (fun y cs => K.rep_len ek y cs) hrows
      subst hm
      rcases hat with rfl | ⟨b, off, rfl, hat⟩
      · have hn0 : news = [] := List.eq_nil_of_length_eq_zero (by rw [hnl]; simp)
        subst hn0
        cases A with
        | none => rfl
        | some a => simp [Builtin.firstCells, loadCells, loadCellsFrom]
      · have := run_firstCells_some (P := P) c.w ek.sz ys.length ⟨b, off, none⟩ ys.length cap news hnl (fun j v hv => by rw [Addr.add_none]; exact hat j v hv)
        exact this

theorem opCopy_run {t tu ty : TypeId} {x y : EV} {u uy : Value} (h : (opCopy cx c.heap t x y).wp k) (rx : x.rel c u) (ry : y.rel c uy) : Runs P c (Builtin.copy_ #[t, tu] ty #[u, uy]) k := by
  unfold opCopy at h
  split at h
  case h_2 => exact h.elim
  rename_i e sz by_ z0 kd id off len ht
  have hf : P.underlying t = some (.slice e) := (hT t _ ht).k
  split at h
  case h_2 => exact h.elim
  rename_i ed ty' ek xs he ho
  split at h
  case isFalse => exact h.elim
  rename_i hsz
  split at h
  case h_2 => exact h.elim
  rename_i ys0 hys
  obtain ⟨ys, rfl⟩ : ∃ ys : List ek.T, ys = ys0 := ⟨ys0, rfl⟩
  obtain ⟨hle, h⟩ := h
  obtain ⟨news, hrows, _, hlen, hcells⟩ := copySrc_cells hT hi (P := P) hys ry
  have hnl : news.length = ys.length * ek.sz := Rows.len (fun y cs => K.rep_len ek y cs) hrows
  obtain ⟨A, cap, rfl, hc, hl, hcase⟩ := osl_row (s := .junk) hT hi ho rx
  have hs := run_sizeOf hT hi he c.w
  have hmin : Nat.min ys.length len = ys.length := Nat.min_eq_left hle
  have run : ∀ w', (match A with | some a => storeCells a news 0 | none => pure ()).run P c.w = .ok () w' → (Builtin.copy_ #[t, tu] ty #[.slice A len cap, uy]).run P c.w = .ok (goInt ys.length) w' := by
    intro w' hw
    have hc1 := hcells ys.length rfl
    cases A with
    | none =>
      simp only [Sem.run_pure] at hw
      obtain rfl := (Result.ok.inj hw).2
      simp [Builtin.copy_, run_underlying hf, hlen, hmin, hs, hsz, hc1]
    | some a =>
      simp [Builtin.copy_, run_underlying hf, hlen, hmin, hs, hsz, hc1, hw]
  by_cases hz : ys = []
  · subst hz
    have hn0 : news = [] := List.eq_nil_of_length_eq_zero (by rw [hnl]; simp)
    subst hn0
    have hrun := run c.w (by cases A <;> simp [storeCells])
    have e : List.take off xs ++ [] ++ List.drop (off + ([] : List ek.T).length) xs = xs := by simp
    have hset : c.heap.set id (.row .rw ty' ek (List.take off xs ++ [] ++ List.drop (off + ([] : List ek.T).length) xs)) = c.heap := by
      rw [e]
      apply List.ext_getElem?
      intro j
      by_cases hj : id = j
      · subst hj; rw [set_eq ho, ho]
      · rw [set_ne hj]
    exact ⟨_, _, hrun, _, _, c, h, rfl, by show c.heap = _; simp only [applyU, List.foldl_cons, List.foldl_nil]; exact hset.symm, Ext.refl c, hi, rfl⟩
  · have hpos : 0 < ys.length := List.length_pos_iff.2 hz
    rcases hcase with h0 | ⟨b, vs, hb, rfl, hv, hvs⟩
    · omega
    obtain ⟨hmx, vs', f, re, h1, h2, h3⟩ := row_obj hT hi ho hb
    rw [hv] at h1; cases h1
    have hR : ∀ (y : ek.T) cs, K.rep c.w c.ok ek y cs → cs.length = ek.sz := fun y cs => K.rep_len ek y cs
    have hfl := Rows.len hR h3
    have hvl : vs.toList.length = f.length + re.length := by rw [h2, List.length_append]
    simp only [Array.length_toList] at hvl
    have hin : off * ek.sz + ys.length * ek.sz ≤ f.length := by
      rw [hfl, ← Nat.add_mul]
      exact Nat.mul_le_mul_right _ (by omega)
    have hones : ∀ v ∈ news, v.oneCell' = true := fun v hv => Rows.every (p := fun v => v.oneCell' = true) (fun y cs hy v hv => rep_ones hT hi ek y cs hy v hv) hrows v hv
    obtain ⟨w', hst, hw⟩ := run_storeCells (P := P) news c.w b (off * ek.sz) 0 ty' vs hv hones (by simp only [Nat.add_zero]; omega)
    simp only [Nat.add_zero] at hw
    have hrun := run w' hst
    have hszs : (putAt vs.toList (off * ek.sz) news).toArray.size = vs.size := by
      simp only [List.size_toArray]
      rw [putAt_len (by simp only [Array.length_toList]; omega)]; simp
    have hlen2 : (List.take off xs ++ ys ++ List.drop (off + ys.length) xs).length = xs.length := by simp; omega
    have he2 := Ext.store (o' := .row .rw ty' ek (List.take off xs ++ ys ++ List.drop (off + ys.length) xs)) ho rfl hb hv hw hszs (.inr ⟨.rw, _, rfl, hlen2, .inl rfl⟩) rfl
    refine ⟨_, _, hrun, _, _, _, h, rfl, rfl, he2, RC.Inv.store hi ho rfl hb hv hw hszs (.inr ⟨.rw, _, rfl, hlen2, .inl rfl⟩) rfl ?_, rfl⟩
    refine ⟨by rw [hlen2]; exact hmx, .inr ⟨b, _, f.take (off * ek.sz) ++ news ++ f.drop (off * ek.sz + news.length), re, hb, hw.there, ?_, ?_⟩⟩
    · simp only [putAt, h2]
      rw [List.take_append_of_le_length (by omega), List.drop_append_of_le_length (by omega)]
      simp
    · have t1 := Rows.take hR off h3
      have t2 := Rows.drop hR (off + ys.length) h3
      rw [Nat.add_mul, ← hnl] at t2
      exact Rows.mono (fun y cs hh => K.rep_mono he2.ok ek y cs hh) ((t1.append hrows).append t2)
end
end Go.Lift

/- Soundness: slices of slices, conversions, small operations. Own work. -/
set_option linter.unusedVariables false
set_option linter.unusedSimpArgs false
set_option linter.unusedSectionVars false
namespace Go.Lift

theorem run_bound {P : Program} (w : World) (kd : IntKind) (i : Int) (y : Nat) (code : BoundsCode) (h : 0 ≤ i ∧ i ≤ y) : (Instr.sliceBound (.int kd i) y code).run P w = .ok i.toNat w := by
  simp [Instr.sliceBound, asIntOf, h.1, h.2]

theorem bnd_rel {c : RC} {d : Int} {e : Option EV} {u : Option Value} {n : Int} (h : bnd d e = some n) (hs : e.isSome = u.isSome) (r : ∀ a v, e = some a → u = some v → a.rel c v) :
    (e = none ∧ u = none ∧ n = d) ∨ ∃ kd, u = some (.int kd n) := by
  unfold bnd at h
  split at h
  · cases h
    cases u with
    | none => exact .inl ⟨rfl, rfl, rfl⟩
    | some v => cases hs
  · rename_i kd m
    cases h
    cases u with
    | none => cases hs
    | some v => exact .inr ⟨kd, congrArg some (r _ v rfl rfl)⟩
  · cases h

section
variable {P : Program} {cx : Cx} (hT : ∀ t d, cx.tab t = some d → d.Fits P t) {c : RC} (hi : c.Inv) {k : EV → List (Nat × HObj) → Prop}
include hT hi

/-- The bounds, run: two or three of them. -/
theorem run_bounds (isS : Bool) {len cap : Nat} {lo hi' : Option EV} {ul uh : Option Value} {l r : Int} (h1 : bnd 0 lo = some l) (h2 : bnd len hi' = some r) (s1 : lo.isSome = ul.isSome) (s2 : hi'.isSome = uh.isSome)
    (r1 : ∀ a v, lo = some a → ul = some v → a.rel c v) (r2 : ∀ a v, hi' = some a → uh = some v → a.rel c v) (h0 : 0 ≤ l) (hlr : l ≤ r) (hr : r ≤ (len : Int)) (hc : len ≤ cap) :
    (Instr.sliceBounds isS len cap ul uh none).run P c.w = .ok (l.toNat, r.toNat, cap) c.w := by
  have hb := fun kd (i : Int) (y : Nat) code (h : 0 ≤ i ∧ i ≤ y) => run_bound (P := P) c.w kd i y code h
  rcases bnd_rel h1 s1 r1 with ⟨rfl, rfl, rfl⟩ | ⟨k1, rfl⟩ <;> rcases bnd_rel h2 s2 r2 with ⟨rfl, rfl, rfl⟩ | ⟨k2, rfl⟩
  · simp [Instr.sliceBounds]
  · simp [Instr.sliceBounds, hb k2 r cap _ ⟨by omega, by omega⟩]
  · simp [Instr.sliceBounds, hb k1 l len _ ⟨h0, by omega⟩]
  · simp [Instr.sliceBounds, hb k2 r cap _ ⟨by omega, by omega⟩, hb k1 l r.toNat _ ⟨h0, by omega⟩]

theorem run_bounds3 (isS : Bool) {len cap : Nat} {lo hi' : Option EV} {m : EV} {ul uh : Option Value} {um : Value} {l r q : Int} (h1 : bnd 0 lo = some l) (h2 : bnd len hi' = some r) (h3 : bnd 0 (some m) = some q) (s1 : lo.isSome = ul.isSome) (s2 : uh.isSome = true) (s2' : hi'.isSome = uh.isSome)
    (r1 : ∀ a v, lo = some a → ul = some v → a.rel c v) (r2 : ∀ a v, hi' = some a → uh = some v → a.rel c v) (r3 : m.rel c um) (h0 : 0 ≤ l) (hlr : l ≤ r) (hr : r ≤ q) (hq : q ≤ (cap : Int)) :
    (Instr.sliceBounds isS len cap ul uh (some um)).run P c.w = .ok (l.toNat, r.toNat, q.toNat) c.w := by
  have hb := fun kd (i : Int) (y : Nat) code (h : 0 ≤ i ∧ i ≤ y) => run_bound (P := P) c.w kd i y code h
  rcases bnd_rel (u := some um) h3 rfl (fun a v e1 e2 => by cases e1; cases e2; exact r3) with ⟨h, _, _⟩ | ⟨k3, h3⟩
  · cases h
  · cases h3
    rcases bnd_rel h1 s1 r1 with ⟨rfl, rfl, rfl⟩ | ⟨k1, rfl⟩ <;> rcases bnd_rel h2 s2' r2 with ⟨rfl, rfl, rfl⟩ | ⟨k2, rfl⟩
    · cases s2
    · simp [Instr.sliceBounds, hb k3 q cap _ ⟨by omega, by omega⟩, hb k2 r q.toNat _ ⟨by omega, by omega⟩]
    · cases s2
    · simp [Instr.sliceBounds, hb k3 q cap _ ⟨by omega, by omega⟩, hb k2 r q.toNat _ ⟨by omega, by omega⟩, hb k1 l r.toNat _ ⟨h0, by omega⟩]

theorem opSlice_run {t : TypeId} {x : EV} {u : Value} {lo hi' mx : Option EV} {ul uh um : Option Value} (h : (opSlice cx c.heap t x lo hi' mx).wp k) (rx : x.rel c u) (s1 : lo.isSome = ul.isSome) (s2 : hi'.isSome = uh.isSome) (s3 : mx.isSome = um.isSome)
    (r1 : ∀ a v, lo = some a → ul = some v → a.rel c v) (r2 : ∀ a v, hi' = some a → uh = some v → a.rel c v) (r3 : ∀ a v, mx = some a → um = some v → a.rel c v) (hmx : um.isSome = true → uh.isSome = true) :
    Runs P c (Instr.sliceAt t u ul uh um) k := by
  unfold opSlice at h
  split at h
  · rename_i e sz by_ z kd ht
    have hf : P.underlying t = some (.slice e) := (hT t _ ht).k
    split at h
    case h_2 => exact h.elim
    rename_i ed he
    have hs := run_sizeOf hT hi he c.w
    split at h
    · rename_i ek xs0
      obtain ⟨xs, rfl⟩ : ∃ xs : List ek.T, xs = xs0 := ⟨xs0, rfl⟩
      split at h
      case isFalse => exact h.elim
      rename_i hsz
      have r2' : K.rep c.w c.ok (.slice ek) xs [u] := rx
      obtain ⟨A, cap, e1, hc, hm, hcase⟩ := r2'
      obtain rfl := (List.cons.inj e1).1
      split at h
      · rename_i l r hl hr
        obtain ⟨⟨h0, h1, h2⟩, h⟩ := h
        cases um with
        | some _ => cases s3
        | none =>
          have hb := run_bounds (P := P) hT hi true hl hr s1 s2 r1 r2 h0 h1 h2 hc
          have hlen : (List.take (r - l).toNat (List.drop l.toNat xs)).length = r.toNat - l.toNat := by rw [List.length_take, List.length_drop]; omega
          refine Runs.pure (v := .slice (if cap = l.toNat then A else A.map (·.add (l.toNat * ek.sz))) (r.toNat - l.toNat) (cap - l.toNat)) hi ?_ h ?_
          · simp [Instr.sliceAt, run_underlying hf, Instr.slice, hb, hs, hsz]
          · show K.rep c.w c.ok (.slice ek) _ [_]
            refine ⟨_, cap - l.toNat, by rw [hlen], by rw [hlen]; omega, by rw [hlen]; omega, ?_⟩
            by_cases hz : r.toNat - l.toNat = 0
            · left; exact List.eq_nil_of_length_eq_zero (by rw [hlen, hz])
            · right
              rcases hcase with rfl | ⟨b, off, vs, rfl, hok, hrows, hat⟩
              · simp at h2; omega
              · refine ⟨b, off + l.toNat * ek.sz, (vs.drop (l.toNat * ek.sz)).take ((r - l).toNat * ek.sz), ?_, hok, Rows.take (fun y cs => K.rep_len ek y cs) _ (Rows.drop (fun y cs => K.rep_len ek y cs) _ hrows), hat.sub _ _⟩
                rw [if_neg (by omega)]
                simp [Addr.add_none]
      · rename_i l r m hl hr
        split at h
        case h_2 => exact h.elim
        rename_i q hq
        obtain ⟨⟨rfl, rfl, rfl⟩, h⟩ := h
        cases um with
        | none => cases s3
        | some um =>
          have hb := run_bounds3 (P := P) hT hi true hl hr hq s1 (hmx rfl) s2 r1 r2 (r3 _ _ rfl rfl) (Int.le_refl _) (Int.le_refl _) (Int.le_refl _) (by omega : (0 : Int) ≤ (cap : Int))
          refine Runs.pure (v := .slice A 0 0) hi ?_ h ⟨A, rfl⟩
          simp [Instr.sliceAt, run_underlying hf, Instr.slice, hb, hs, hsz]
      · exact h.elim
    · rename_i id off len
      split at h
      case h_2 => exact h.elim
      rename_i m ty ek xs ho
      split at h
      case isFalse => exact h.elim
      rename_i hsz
      obtain ⟨A, cap, rfl, hc, hlx, hcase⟩ := osl_row (s := .junk) hT hi ho rx
      split at h
      · rename_i l r hl hr
        obtain ⟨⟨h0, h1, h2⟩, h⟩ := h
        cases um with
        | some _ => cases s3
        | none =>
          have hb := run_bounds (P := P) hT hi true hl hr s1 s2 r1 r2 h0 h1 h2 hc
          refine Runs.pure (v := .slice (if cap = l.toNat then A else A.map (·.add (l.toNat * ek.sz))) (r.toNat - l.toNat) (cap - l.toNat)) hi ?_ h ?_
          · simp [Instr.sliceAt, run_underlying hf, Instr.slice, hb, hs, hsz]
          · show SV.rel c (.osl id (off + l.toNat) (r - l).toNat) _
            simp only [SV.rel, ho]
            refine ⟨_, cap - l.toNat, by congr 1; omega, by omega, by omega, ?_⟩
            by_cases hz : cap = l.toNat
            · left; omega
            · rcases hcase with h0 | ⟨b, vs, hb1, rfl, hv, hvs⟩
              · omega
              · refine .inr ⟨b, vs, hb1, ?_, hv, ?_⟩
                · rw [if_neg hz]
                  simp [Addr.add_none, Nat.add_mul]
                · have : off + l.toNat + (cap - l.toNat) = off + cap := by omega
                  rw [this]; exact hvs
      · rename_i l r mm hl hr
        split at h
        case h_2 => exact h.elim
        rename_i q hq
        obtain ⟨⟨h0, h1, h2, rfl⟩, h⟩ := h
        cases um with
        | none => cases s3
        | some um =>
          have hb := run_bounds3 (P := P) hT hi true hl hr hq s1 (hmx rfl) s2 r1 r2 (r3 _ _ rfl rfl) h0 h1 (Int.le_refl _) (by omega : q ≤ (cap : Int))
          refine Runs.pure (v := .slice (if q.toNat = l.toNat then A else A.map (·.add (l.toNat * ek.sz))) (q.toNat - l.toNat) (q.toNat - l.toNat)) hi ?_ h ?_
          · simp [Instr.sliceAt, run_underlying hf, Instr.slice, hb, hs, hsz]
          · show SV.rel c (.osl id (off + l.toNat) (q - l).toNat) _
            simp only [SV.rel, ho]
            refine ⟨_, q.toNat - l.toNat, by congr 1; omega, by omega, by omega, ?_⟩
            by_cases hz : q.toNat = l.toNat
            · left; omega
            · rcases hcase with h0 | ⟨b, vs, hb1, rfl, hv, hvs⟩
              · omega
              · refine .inr ⟨b, vs, hb1, ?_, hv, ?_⟩
                · rw [if_neg hz]
                  simp [Addr.add_none, Nat.add_mul]
                · have : (off + l.toNat + (q.toNat - l.toNat)) * ek.sz ≤ (off + cap) * ek.sz := Nat.mul_le_mul_right _ (by omega)
                  omega
      · exact h.elim
    · exact h.elim
  · rename_i n e sz by_ z kd ht
    have hf : P.underlying t = some (.array n e) := (hT t _ ht).k
    split at h
    case h_2 => exact h.elim
    rename_i ed he
    have hs := run_sizeOf hT hi he c.w
    split at h
    case h_2 => exact h.elim
    rename_i id
    split at h
    case h_2 => exact h.elim
    rename_i m ty ek xs ho
    split at h
    case isFalse => exact h.elim
    rename_i hsz
    split at h
    case h_2 => exact h.elim
    rename_i l r hl hr
    obtain ⟨⟨h0, h1, h2, hn⟩, h⟩ := h
    obtain ⟨b, hb1, rfl⟩ := ref_obj hT hi ho rfl rx
    obtain ⟨hmx', vs, f, re, g1, g2, g3⟩ := row_obj hT hi ho hb1
    cases um with
    | some _ => cases s3
    | none =>
      have hb := run_bounds (P := P) hT hi false hl hr s1 s2 r1 r2 h0 h1 h2 (Nat.le_refl n)
      refine Runs.pure (v := .slice (some (if n = l.toNat then ⟨b, 0, none⟩ else (⟨b, 0, none⟩ : Addr).add (l.toNat * ek.sz))) (r.toNat - l.toNat) (n - l.toNat)) hi ?_ h ?_
      · simp [Instr.sliceAt, run_underlying hf, Instr.sureAddr, hb, hs, hsz]
      · show SV.rel c (.osl id l.toNat (r - l).toNat) _
        simp only [SV.rel, ho]
        refine ⟨_, n - l.toNat, by congr 1; omega, by omega, by omega, ?_⟩
        by_cases hz : n = l.toNat
        · left; omega
        · refine .inr ⟨b, vs, hb1, ?_, g1, ?_⟩
          · rw [if_neg hz]
            simp [Addr.add_none]
          · have : l.toNat + (n - l.toNat) = xs.length := by omega
            rw [this]
            have h3 := Rows.len (fun y cs => K.rep_len ek y cs) g3
            have h4 : vs.toList.length = f.length + re.length := by rw [g2, List.length_append]
            simp only [Array.length_toList] at h4
            omega
  · exact h.elim
end
end Go.Lift

/- Small operations: one operand, conversions, least and greatest, built values, parts of values, comparisons; their soundness. Own work. -/
set_option linter.unusedVariables false
set_option linter.unusedSimpArgs false
set_option linter.unusedSectionVars false
namespace Go.Lift

def opUn (op : UnOp) (v : EV) : Res := match op, v with
  | .neg, .x (.one (.val (.int k n))) => vI k (k.wrap (0 - n))
  | .xor, .x (.one (.val (.int k n))) => vI k (Go.bits .xor k (if k.signed then -1 else k.max) n)
  | .neg, .x (.one (.val (.float k b))) => .ret (.val (.float k (Op.negFloat k b))) []
  | .not, .x (.one (.val (.bool b))) => vB (!b)
  | _, _ => .fail

/-- What a float becomes as a whole number. -/
def F2I (s : FloatKind) (b : Nat) (d : IntKind) (n : Int) : Prop :=
  match (s.format.read b).toInt .zero with
  | some m => if d.min ≤ m ∧ m ≤ d.max then n = m else d.min ≤ n ∧ n ≤ d.max
  | none => d.min ≤ n ∧ n ≤ d.max

theorem in_range0 (d : IntKind) : d.min ≤ 0 ∧ 0 ≤ d.max := by cases d <;> decide

theorem F2I.ne (s : FloatKind) (b : Nat) (d : IntKind) : ∃ n, F2I s b d n := by
  unfold F2I
  split
  · split
    · exact ⟨_, rfl⟩
    · exact ⟨0, in_range0 d⟩
  · exact ⟨0, in_range0 d⟩

/-- What a float becomes as a float of another size. -/
def F2F (s : FloatKind) (b : Nat) (d : FloatKind) (r : Nat) : Prop :=
  if s = d then r = b else
  match s.format.read b with
  | .nan _ _ => IsNaN d r
  | .infinity t => r = d.format.write (.infinity t)
  | .number t m e => if (d.format.read (d.format.write (.number t m e))).isInfinity then r < 2 ^ 32 else r = d.format.write (.number t m e)

theorem F2F.ne (s : FloatKind) (b : Nat) (d : FloatKind) : ∃ n, F2F s b d n := by
  unfold F2F
  split
  · exact ⟨_, rfl⟩
  · split
    · exact ⟨_, aNaN_is d⟩
    · exact ⟨_, rfl⟩
    · split
      · exact ⟨0, by decide⟩
      · exact ⟨_, rfl⟩

def opConv (cx : Cx) (s d : TypeId) (v : EV) : Res := match cx.tab s, cx.tab d, v with
  | some ⟨.int _, _, _, _, _⟩, some ⟨.int k, _, _, _, _⟩, .x (.one (.val (.int _ n))) => vI k (k.wrap n)
  | some ⟨.int _, _, _, _, _⟩, some ⟨.flt k, _, _, _, _⟩, .x (.one (.val (.int _ n))) => .ret (.val (.float k (k.nearest n))) []
  | some ⟨.flt _, _, _, _, _⟩, some ⟨.int k, _, _, _, _⟩, .x (.one (.val (.float s b))) => .all Int (F2I s b k) (F2I.ne s b k) fun n => .ret (.val (.int k n)) []
  | some ⟨.flt _, _, _, _, _⟩, some ⟨.flt k, _, _, _, _⟩, .x (.one (.val (.float s b))) => .all Nat (F2F s b k) (F2F.ne s b k) fun n => .ret (.val (.float k n)) []
  | _, _, _ => .fail

def imin (a b : Int) : Int := if b < a then b else a
def imax (a b : Int) : Int := if b > a then b else a

def foldMM (f : Int → Int → Int) (k : IntKind) : Int → List EV → Option Int
  | a, [] => some a
  | a, .x (.one (.val (.int j n))) :: r => if j = k then foldMM f k (f a n) r else none
  | _, _ => none

def opMM (f : Int → Int → Int) : List EV → Res
  | .x (.one (.val (.int k n))) :: r => match foldMM f k n r with
    | some m => vI k m
    | none => .fail
  | _ => .fail

def opNil (h : List HObj) (v : EV) : Res := match v with
  | .x (.one (.data (.ptr k) p)) => .ask (p ≠ none) fun _ => .ret v []
  | .x (.one (.ref id _)) => match h[id]? with | some (.box ..) | some (.row ..) => .ret v [] | _ => .fail
  | .x (.one (.eref id _ _)) => match h[id]? with | some (.row ..) => .ret v [] | _ => .fail
  | _ => .fail

def isNilPV : EV → Bool
  | .x (.one (.val v)) => isNilP v
  | _ => false

/-- Equal: bools; a pointer and nil. -/
def opEq (cx : Cx) (h : List HObj) (neg : Bool) (t : TypeId) (x y : EV) : Res := match cx.tab t with
  | some ⟨.bool, _, _, _, _⟩ => match x, y with
    | .x (.one (.val (.bool a))), .x (.one (.val (.bool b))) => vB (if neg then a != b else a == b)
    | _, _ => .fail
  | some ⟨.ptr _, _, _, _, _⟩ => if isNilPV y then (match x with
    | .x (.one (.data (.ptr k) p)) => vB (if neg then (Option.isSome (α := k.T) p) else (Option.isNone (α := k.T) p))
    | .x (.one (.ref id _)) => (match h[id]? with | some (.box ..) | some (.row ..) => vB neg | _ => .fail)
    | _ => .fail) else .fail
  | some ⟨.str, _, _, _, _⟩ => match bytesOf x, bytesOf y with
    | some a, some b => vB (if neg then !(decide (a = b)) else decide (a = b))
    | _, _ => .fail
  | _ => .fail

def opBin (cx : Cx) (h : List HObj) (op : BinOp) (t : TypeId) (x y : EV) : Res := match x, y with
  | .x (.one (.val (.int k a))), .x (.one (.val (.int j b))) => binInt op k a j b
  | .x (.one (.val (.float k a))), .x (.one (.val (.float j b))) => binFlt op k a j b
  | x, y => match op with
    | .eql => opEq cx h false t x y
    | .neq => opEq cx h true t x y
    | _ => .fail

section
variable {P : Program} {cx : Cx} (hT : ∀ t d, cx.tab t = some d → d.Fits P t) {c : RC} (hi : c.Inv) {k : EV → List (Nat × HObj) → Prop}
include hT hi

theorem opUn_run {op : UnOp} {v : EV} {u : Value} (h : (opUn op v).wp k) (r : v.rel c u) : Runs P c (Op.unary op u) k := by
  unfold opUn at h
  split at h
  · rename_i kd n
    obtain rfl : u = .int kd n := r
    exact vI_run hi (by simp [Op.unary, Op.intArith]) h
  · rename_i kd n
    obtain rfl : u = .int kd n := r
    exact vI_run hi (by simp [Op.unary]; rfl) h
  · rename_i kd b
    obtain rfl : u = .float kd b := r
    exact Runs.pure hi (by simp [Op.unary]) h rfl
  · rename_i b
    obtain rfl : u = .bool b := r
    exact vB_run hi (by simp [Op.unary]) h
  · exact h.elim

theorem wrap_range (d : IntKind) (n : Int) : d.min ≤ d.wrap n ∧ d.wrap n ≤ d.max := by
  cases d <;> simp [IntKind.wrap, IntKind.min, IntKind.max, IntKind.bits, IntKind.signed] <;> omega

theorem opConv_run {s d : TypeId} {v : EV} {u : Value} (h : (opConv cx s d v).wp k) (r : v.rel c u) : Runs P c (convert s d u) k := by
  unfold opConv at h
  split at h
  · rename_i k0 _ _ _ _ kd _ _ _ _ k1 n hs hd
    have fs : P.underlying s = some (.int k0) := (hT s _ hs).k
    have fd : P.underlying d = some (.int kd) := (hT d _ hd).k
    obtain rfl : u = .int k1 n := r
    exact vI_run hi (by simp [convert, run_underlying fs, run_underlying fd, Conv.intToInt]) h
  · rename_i k0 _ _ _ _ kd _ _ _ _ k1 n hs hd
    have fs : P.underlying s = some (.int k0) := (hT s _ hs).k
    have fd : P.underlying d = some (.float kd) := (hT d _ hd).k
    obtain rfl : u = .int k1 n := r
    exact Runs.pure hi (by simp [convert, run_underlying fs, run_underlying fd, Conv.intToFloat]) h rfl
  · rename_i k0 _ _ _ _ kd _ _ _ _ k1 b hs hd
    have fs : P.underlying s = some (.float k0) := (hT s _ hs).k
    have fd : P.underlying d = some (.int kd) := (hT d _ hd).k
    obtain rfl : u = .float k1 b := r
    have e : (convert s d (.float k1 b)).run P c.w = (Conv.floatToInt k1 b kd).run P c.w := by simp [convert, run_underlying fs, run_underlying fd]
    have hfo : ∀ a b' e', (Question.floatToInt a b' e').forced = false := fun _ _ _ => rfl
    unfold Runs
    rw [e]
    unfold Conv.floatToInt FloatKind.decode
    have any : ∀ n, F2I k1 b kd n → k (.val (.int kd n)) [] := fun n hn => h n hn
    unfold F2I at any
    have many : (∀ n, kd.min ≤ n ∧ n ≤ kd.max → k (.val (.int kd n)) []) → ∃ v w', (do pure (.int kd (kd.wrap (← choose (.floatToInt k1 b kd)))) : Sem Value).run P c.w = .ok v w' ∧ Done c k v w' := by
      intro hk
      exact ⟨_, c.w.drew, by simp [hfo]; rfl, Done.drew hi (hk _ (wrap_range hT hi kd _)) rfl⟩
    split
    · rename_i m hm
      rw [hm] at any
      simp only at any
      split
      · rename_i hr
        simp only [if_pos hr] at any
        exact ⟨_, _, rfl, Done.pure hi (any m rfl) rfl⟩
      · rename_i hr
        simp only [if_neg hr] at any
        exact many any
    · rename_i hm
      rw [hm] at any
      exact many any
  · rename_i k0 _ _ _ _ kd _ _ _ _ k1 b hs hd
    have fs : P.underlying s = some (.float k0) := (hT s _ hs).k
    have fd : P.underlying d = some (.float kd) := (hT d _ hd).k
    obtain rfl : u = .float k1 b := r
    have e : (convert s d (.float k1 b)).run P c.w = (Conv.floatToFloat k1 b kd).run P c.w := by simp [convert, run_underlying fs, run_underlying fd]
    unfold Runs
    rw [e]
    unfold Conv.floatToFloat
    have any : ∀ n, F2F k1 b kd n → k (.val (.float kd n)) [] := fun n hn => h n hn
    unfold F2F at any
    split
    · rename_i hq
      simp only [if_pos hq] at any
      exact ⟨_, _, rfl, Done.pure hi (any b rfl) rfl⟩
    · rename_i hq
      simp only [if_neg hq] at any
      simp only [FloatKind.decode]
      split
      · rename_i s' t' hm
        rw [hm] at any
        have hfo : (Question.nanConv kd b).forced = false := rfl
        refine ⟨_, c.w.drew, by simp [hfo]; rfl, Done.drew hi (any _ ?_) rfl⟩
        cases kd
        · exact nan_cut_f32 0 0 _
        · exact nan_cut_f64 0 0 _
      · rename_i s' hm
        rw [hm] at any
        exact ⟨_, _, rfl, Done.pure hi (any _ rfl) rfl⟩
      · rename_i s' m' e' hm
        rw [hm] at any
        simp only [FloatKind.encode] at any ⊢
        by_cases hinf : (kd.format.read (kd.format.write (Ieee.Datum.number s' m' e'))).isInfinity = true
        · simp only [if_pos hinf] at any
          have hfo : (Question.floatToFloat b).forced = false := rfl
          refine ⟨.float kd ((Question.floatToFloat b).cut (c.w.tape c.w.drawn (.floatToFloat b))), c.w.drew, (congrArg (fun s : Sem Value => s.run P c.w) (if_pos hinf)).trans ?_, Done.drew hi (any _ (Nat.mod_lt _ (by decide))) rfl⟩
          simp [hfo]
        · simp only [if_neg hinf] at any
          exact ⟨_, c.w, (congrArg (fun s : Sem Value => s.run P c.w) (if_neg hinf)).trans rfl, Done.pure hi (any _ rfl) rfl⟩
  · exact h.elim

theorem foldMM_run (f : Int → Int → Int) (g : Value → Value → Sem Value) (hg : ∀ kd a b, g (.int kd a) (.int kd b) = pure (.int kd (f a b))) (kd : IntKind) : ∀ (r : List EV) (us : List Value) (a m : Int), foldMM f kd a r = some m → All2 (EV.rel c) r us →
    (us.foldlM g (.int kd a)).run P c.w = .ok (.int kd m) c.w
  | [], us, a, m, h, ha => by cases ha; cases h; rfl
  | x :: r, us, a, m, h, ha => by
    cases ha with
    | cons h1 h2 =>
      unfold foldMM at h
      split at h
      · rename_i h'; cases h'
      · rename_i j n r' he
        injection he with he1 he2
        subst he1; subst he2
        split at h
        · rename_i hj; subst hj
          obtain rfl : _ = Value.int j n := h1
          simp only [List.foldlM_cons, hg, Sem.run_bind, Sem.run_pure, Result.andThen_ok]
          exact foldMM_run f g hg j _ _ _ _ h h2
        · cases h
      · cases h

theorem opMax_run {ts : Array TypeId} {ty : TypeId} {vs : List EV} {us : Array Value} (h : (opMM imax vs).wp k) (r : All2 (EV.rel c) vs us.toList) : Runs P c (Builtin.max_ ts ty us) k := by
  unfold opMM at h
  split at h
  case h_2 => exact h.elim
  rename_i kd n rest
  split at h
  case h_2 => exact h.elim
  rename_i m hm
  cases hu : us.toList with
  | nil => rw [hu] at r; cases r
  | cons u us' =>
    rw [hu] at r
    cases r with
    | cons h1 h2 =>
      obtain rfl : u = .int kd n := h1
      refine vI_run hi ?_ h
      unfold Builtin.max_
      rw [hu]
      exact foldMM_run hT hi imax Builtin.max2 (fun _ _ _ => rfl) kd rest us' n m hm h2

theorem opMin_run {ts : Array TypeId} {ty : TypeId} {vs : List EV} {us : Array Value} (h : (opMM imin vs).wp k) (r : All2 (EV.rel c) vs us.toList) : Runs P c (Builtin.min_ ts ty us) k := by
  unfold opMM at h
  split at h
  case h_2 => exact h.elim
  rename_i kd n rest
  split at h
  case h_2 => exact h.elim
  rename_i m hm
  cases hu : us.toList with
  | nil => rw [hu] at r; cases r
  | cons u us' =>
    rw [hu] at r
    cases r with
    | cons h1 h2 =>
      obtain rfl : u = .int kd n := h1
      refine vI_run hi ?_ h
      unfold Builtin.min_
      rw [hu]
      exact foldMM_run hT hi imin Builtin.min2 (fun _ _ _ => rfl) kd rest us' n m hm h2

theorem opNil_rel {v : EV} {u : Value} (h : (opNil c.heap v).wp k) (r : v.rel c u) : (∃ a, u = .pointer (some a)) ∧ k v [] := by
  unfold opNil at h
  split at h
  · rename_i kd p
    obtain ⟨hp, h⟩ := h
    rcases (r : K.rep c.w c.ok (.ptr kd) p [u]) with ⟨h1, _⟩ | ⟨y, b, o, vs, h2, h3, _⟩
    · exact absurd h1 hp
    · exact ⟨⟨_, (List.cons.inj h3).1⟩, h⟩
  · rename_i id off
    split at h
    · rename_i m t cs ho
      obtain ⟨b, _, rfl⟩ := ref_obj hT hi ho rfl r
      exact ⟨⟨_, rfl⟩, h⟩
    · rename_i m t e xs ho
      obtain ⟨b, _, rfl⟩ := ref_obj hT hi ho rfl r
      exact ⟨⟨_, rfl⟩, h⟩
    · exact h.elim
  · rename_i id i off
    split at h
    · rename_i m t e xs ho
      obtain ⟨_, b, _, rfl⟩ := eref_row hT hi ho r
      exact ⟨⟨_, rfl⟩, h⟩
    · exact h.elim
  · exact h.elim

theorem equalIn_bool {d : Nat} {t : TypeId} (hf : P.underlying t = some .bool) (a b : Bool) (w : World) : (Op.equalIn (d + 1) t (.bool a) (.bool b)).run P w = .ok (a == b) w := by
  simp [Op.equalIn, run_underlying hf]

theorem equalIn_nil {d : Nat} {t e : TypeId} (hf : P.underlying t = some (.pointer e)) (a : Option Addr) (w : World) : (Op.equalIn (d + 1) t (.pointer a) (.pointer none)).run P w = .ok a.isNone w := by
  cases a <;> simp [Op.equalIn, run_underlying hf]

theorem equal_bool {t : TypeId} (hf : P.underlying t = some .bool) (a b : Bool) (w : World) : (Op.equal t (.bool a) (.bool b)).run P w = .ok (a == b) w :=
  equalIn_bool (d := 9999) hT hi hf a b w

theorem equal_nil {t e : TypeId} (hf : P.underlying t = some (.pointer e)) (a : Option Addr) (w : World) : (Op.equal t (.pointer a) (.pointer none)).run P w = .ok a.isNone w :=
  equalIn_nil (d := 9999) hT hi hf a w

theorem opEq_guard {neg : Bool} {t : TypeId} {x y : EV} {u uy : Value} (h : (opEq cx c.heap neg t x y).wp k) (rx : x.rel c u) (ry : y.rel c uy) (op : BinOp) (ox oy : Operand) :
    eqGuard op t ox oy u uy = pure () := by
  unfold opEq at h
  split at h
  · split at h
    · rename_i a b
      obtain rfl : u = .bool a := rx
      exact eqGuard_at_bool ..
    · exact h.elim
  · split at h
    · split at h
      · rename_i kd p
        rcases (rx : K.rep c.w c.ok (.ptr kd) p [u]) with ⟨_, h2⟩ | ⟨_, b, o, _, _, h3, _⟩
        · obtain rfl := (List.cons.inj h2).1; exact eqGuard_at_pointer ..
        · obtain rfl := (List.cons.inj h3).1; exact eqGuard_at_pointer ..
      · rename_i id off
        split at h
        · rename_i m t' cs ho
          obtain ⟨b, _, rfl⟩ := ref_obj hT hi ho rfl rx
          exact eqGuard_at_pointer ..
        · rename_i m t' e' xs ho
          obtain ⟨b, _, rfl⟩ := ref_obj hT hi ho rfl rx
          exact eqGuard_at_pointer ..
        · exact h.elim
      · exact h.elim
    · exact h.elim
  · split at h
    · rename_i a b ha hb
      obtain ⟨s, rfl, _⟩ := bytesOf_rel ha rx
      exact eqGuard_at_string ..
    · exact h.elim
  · exact h.elim

theorem strBytes_inj {a b : ByteArray} (h : strBytes a = strBytes b) : a = b := by
  unfold strBytes at h
  have h2 : a.data.toList = b.data.toList := by
    refine (List.map_inj_right ?_).1 h
    intro x y hxy
    have : x.toNat = y.toNat := by omega
    exact UInt8.toNat_inj.1 this
  cases a; cases b
  simp at h2
  simp [h2]
theorem beq_bytes (a b : ByteArray) : (a.toList == b.toList) = decide (strBytes a = strBytes b) := by
  rw [ByteArray.toList_eq, ByteArray.toList_eq, Bool.eq_iff_iff, beq_iff_eq, decide_eq_true_eq]
  constructor
  · intro h; unfold strBytes; rw [h]
  · intro h; rw [strBytes_inj hT hi h]

theorem opEq_run {neg : Bool} {t : TypeId} {x y : EV} {u uy : Value} (h : (opEq cx c.heap neg t x y).wp k) (rx : x.rel c u) (ry : y.rel c uy) :
    Runs P c (binOp (if neg then .neq else .eql) t u uy) k := by
  unfold opEq at h
  split at h
  · rename_i sz by_ z kd ht
    have hf : P.underlying t = some .bool := (hT t _ ht).k
    split at h
    · rename_i a b
      obtain rfl : u = .bool a := rx
      obtain rfl : uy = .bool b := ry
      refine vB_run hi ?_ h
      cases neg <;> simp [binOp, equal_bool hT hi hf]
      · cases a <;> cases b <;> rfl
    · exact h.elim
  · rename_i e sz by_ z kd ht
    have hf : P.underlying t = some (.pointer e) := (hT t _ ht).k
    split at h
    case isFalse => exact h.elim
    rename_i hn
    have hy : uy = .pointer none := by
      unfold isNilPV at hn
      split at hn
      · rename_i v
        obtain rfl : uy = v := ry
        exact isNilP_eq hn
      · cases hn
    subst hy
    have some_ : ∀ a : Addr, (binOp (if neg then .neq else .eql) t (.pointer (some a)) (.pointer none)).run P c.w = .ok (.bool neg) c.w := by
      intro a
      cases neg <;> simp [binOp, equal_nil hT hi hf]
    split at h
    · rename_i kd p
      rcases (rx : K.rep c.w c.ok (.ptr kd) p [u]) with ⟨h1, h2⟩ | ⟨y, b, o, vs, h2, h3, _⟩
      · obtain rfl := (List.cons.inj h2).1
        subst h1
        refine vB_run hi ?_ h
        cases neg <;> simp [binOp, equal_nil hT hi hf]
      · obtain rfl := (List.cons.inj h3).1
        subst h2
        refine vB_run hi (some_ _) ?_
        cases neg <;> exact h
    · rename_i id off
      split at h
      · rename_i m t' cs ho
        obtain ⟨b, _, rfl⟩ := ref_obj hT hi ho rfl rx
        exact vB_run hi (some_ _) h
      · rename_i m t' e' xs ho
        obtain ⟨b, _, rfl⟩ := ref_obj hT hi ho rfl rx
        exact vB_run hi (some_ _) h
      · exact h.elim
    · exact h.elim
  · rename_i sz by_ z kd ht
    have hf : P.underlying t = some .string := (hT t _ ht).k
    split at h
    · rename_i a b ha hb
      obtain ⟨s1, rfl, rfl⟩ := bytesOf_rel ha rx
      obtain ⟨s2, rfl, rfl⟩ := bytesOf_rel hb ry
      refine vB_run hi ?_ h
      cases neg <;> simp [binOp, Op.stringOp, beq_bytes hT hi]
    · exact h.elim
  · exact h.elim

theorem opBin_run {op : BinOp} {t : TypeId} {x y : EV} {u uy : Value} (h : (opBin cx c.heap op t x y).wp k) (rx : x.rel c u) (ry : y.rel c uy) (ox oy : Operand) :
    Runs P c (do eqGuard op t ox oy u uy; binOp op t u uy) k := by
  unfold opBin at h
  split at h
  · rename_i kd a j b
    obtain rfl : u = .int kd a := rx
    obtain rfl : uy = .int j b := ry
    rw [eqGuard_at_int]
    exact binInt_run hi op t kd j a b h
  · rename_i kd a j b
    obtain rfl : u = .float kd a := rx
    obtain rfl : uy = .float j b := ry
    rw [eqGuard_at_float]
    exact binFlt_run hi op t kd j a b h
  · split at h
    · rw [opEq_guard hT hi h rx ry]
      exact opEq_run hT hi (neg := false) h rx ry
    · rw [opEq_guard hT hi h rx ry]
      exact opEq_run hT hi (neg := true) h rx ry
    · exact h.elim
end

def strAt (s : ByteArray) (n : Int) : Int := match s[n.toNat]? with
  | some b => b.toNat
  | none => 0

def opIndex (cx : Cx) (t : TypeId) (x i : EV) : Res := match cx.tab t with
  | some ⟨.str, _, _, _, _⟩ => match x, i with
    | .x (.one (.val (.string s))), .x (.one (.val (.int _ n))) => .ask (0 ≤ n ∧ n < (s.size : Int)) fun _ => vI .u8 (strAt s n)
    | _, _ => .fail
  | some ⟨.arr m e, _, _, _, _⟩ => match x, i, cx.tab e with
    | .x xv, .x (.one (.val (.int _ n))), some ed => match ed.kind with
      | some ek => match xv.take [] (.arr m ek) with
        | some xs => .ask (0 ≤ n ∧ n < (m : Int)) fun _ => .ret (.x (XV.ofData ek (List.getD (α := ek.T) xs n.toNat ek.dflt))) []
        | none => .fail
      | none => .fail
    | _, _, _ => .fail
  | _ => .fail

section
variable {P : Program} {cx : Cx} (hT : ∀ t d, cx.tab t = some d → d.Fits P t) {c : RC} (hi : c.Inv) {k : EV → List (Nat × HObj) → Prop}
include hT hi

theorem opIndex_run {t : TypeId} {x i : EV} {u v : Value} (h : (opIndex cx t x i).wp k) (hx : x.rel c u) (hv : i.rel c v) : Runs P c (Instr.index t u v) k := by
  unfold opIndex at h
  split at h
  · rename_i ht
    have hf : P.underlying t = some .string := (hT t _ ht).k
    split at h
    · rename_i s kd n
      obtain ⟨⟨h1, h2⟩, h⟩ := h
      obtain rfl : u = .string s := hx
      obtain rfl : v = .int kd n := hv
      have hlt : n.toNat < s.size := by omega
      refine vI_run hi ?_ h
      have hs : s[n.toNat]? = some s[n.toNat] := by simp [hlt]
      simp [Instr.index, asIntOf, run_underlying hf, h1, hs, strAt]
    · exact h.elim
  · rename_i m e sz by_ z kd ht
    have hf : P.underlying t = some (.array m e) := (hT t _ ht).k
    split at h
    · rename_i xv _ n ed he
      split at h
      · rename_i ek hk
        split at h
        · rename_i xs0 hxs
          obtain ⟨xs, rfl⟩ : ∃ l : List ek.T, l = xs0 := ⟨xs0, rfl⟩
          obtain ⟨⟨h1, h2⟩, h⟩ := h
          obtain rfl : v = .int _ n := hv
          obtain ⟨k1, k2, _⟩ := (hT e ed he).kind ek hk
          have hr := XV.take_repT hi (Tak.none c) hxs (hx : xv.rel c u)
          unfold KRep at hr
          rw [if_pos (by rfl)] at hr
          obtain ⟨cs, rfl, hl, hrows⟩ := hr
          have hlt : n.toNat < m := by omega
          have hlen : xs.length = m := hl
          have hget := Rows.get (fun y cs => K.rep_len ek y cs) hrows n.toNat _ (List.getElem?_eq_getElem (by omega : n.toNat < xs.length))
          have hd : List.getD xs n.toNat ek.dflt = xs[n.toNat] := by rw [List.getD, List.getElem?_eq_getElem (by omega)]; rfl
          rw [hd] at h
          have hcl := Rows.len (fun y cs => K.rep_len ek y cs) hrows
          have hin : n.toNat * ek.sz + ek.sz ≤ cs.size := by
            have : (n.toNat + 1) * ek.sz ≤ m * ek.sz := Nat.mul_le_mul_right _ hlt
            rw [Nat.add_mul, Nat.one_mul] at this
            rw [hlen, Array.length_toList] at hcl
            omega
          have hs := run_sizeOf hT hi he c.w
          have hsz : ed.sz = ek.sz := k1.symm
          cases hag : ek.agg with
          | true =>
            rw [hag] at k2
            have ha := run_isAgg hT hi he k2 c.w
            refine Runs.pure hi (v := .agg (cs.extract (n.toNat * ek.sz) (n.toNat * ek.sz + ek.sz))) ?_ h ?_
            · simp [Instr.index, asIntOf, run_underlying hf, h1, h2, hs, hsz, part, ha]
            · refine XV.ofData_rel ?_
              unfold KRep
              rw [if_pos hag]
              refine ⟨_, rfl, ?_⟩
              have e1 : (cs.extract (n.toNat * ek.sz) (n.toNat * ek.sz + ek.sz)).toList = (cs.toList.drop (n.toNat * ek.sz)).take ek.sz := by
                rw [Array.toList_extract]
                simp [List.extract, List.drop_take]
              rw [e1]; exact hget
          | false =>
            rw [hag] at k2
            have ha := run_isAgg hT hi he k2 c.w
            have h1' := K.one_of hag
            rw [h1'] at hget hin hsz
            have hlt2 : n.toNat * 1 < cs.size := by omega
            have e1 : (cs.toList.drop (n.toNat * 1)).take 1 = [cs[n.toNat * 1]] := by
              rw [List.drop_eq_getElem_cons (by simpa using hlt2)]; simp
            rw [e1] at hget
            refine Runs.pure hi (v := cs[n.toNat * 1]) ?_ h ?_
            · have hq : cs[n.toNat]? = some (cs[n.toNat * 1]) := by simp
              simp [Instr.index, asIntOf, run_underlying hf, h1, h2, hs, hsz, part, ha, hq]
            · refine XV.ofData_rel ?_
              unfold KRep
              rw [if_neg (by simp [hag])]
              exact hget
        · exact h.elim
      · exact h.elim
    · exact h.elim
  · exact h.elim
end

end Go.Lift

/- Structs and arrays built of parts. Own work. -/
set_option linter.unusedVariables false
set_option linter.unusedSimpArgs false
set_option linter.unusedSectionVars false
namespace Go.Lift

def fillA (h : List HObj) (place : Nat → Option (Nat × Nat)) : List SV → List Nat → List EV → Option (List SV)
  | cs, [], [] => some cs
  | cs, i :: is, .x v :: r => match place i, v.cells h with
    | some (off, size), some us => if us.length = size ∧ off + size ≤ cs.length then fillA h place (cs.take off ++ us ++ cs.drop (off + us.length)) is r else none
    | _, _ => none
  | _, _, _ => none

def placeOf' (cx : Cx) (k : TK) (i : Nat) : Option (Nat × Nat) := match k with
  | .struct fs => match fs[i]? with
    | some (off, ft) => match cx.tab ft with
      | some d => some (off, d.sz)
      | none => none
    | none => none
  | .arr _ e => match cx.tab e with
    | some d => some (i * d.sz, d.sz)
    | none => none
  | _ => none

def tabAll (cx : Cx) : List (Nat × TypeId) → Bool
  | [] => true
  | (_, ft) :: fs => match cx.tab ft with
    | some _ => tabAll cx fs
    | none => false

/-- The types of all parts are known. -/
def partsKnown (cx : Cx) : TK → Bool
  | .struct fs => tabAll cx fs
  | .arr _ e => match cx.tab e with
    | some _ => true
    | none => false
  | _ => false

def opBuild (cx : Cx) (h : List HObj) (t : TypeId) (is : List Nat) (vs : List EV) : Res := match cx.tab t with
  | some d => if partsKnown cx d.k then (match fillA h (placeOf' cx d.k) (d.zero.map .val) is vs with
    | some cs => .ret (.x (.agg cs)) []
    | none => .fail) else .fail
  | none => .fail

theorem put_cells (us : Array Value) (off : Nat) (cs : Array Value) (hl : off + us.size ≤ cs.size) :
    (us.zipIdx.foldl (fun cs (x : Value × Nat) => cs.setIfInBounds (off + x.2) x.1) cs).toList = cs.toList.take off ++ us.toList ++ cs.toList.drop (off + us.size) := by
  have key : ∀ (l : List Value) (n : Nat) (cs : Array Value), off + n + l.length ≤ cs.size →
      ((l.zipIdx n).foldl (fun (cs : Array Value) (x : Value × Nat) => cs.setIfInBounds (off + x.2) x.1) cs).toList = cs.toList.take (off + n) ++ l ++ cs.toList.drop (off + n + l.length) := by
    intro l
    induction l with
    | nil => intro n cs _; simp
    | cons v l ih =>
      intro n cs h
      simp only [List.zipIdx_cons, List.foldl_cons, List.length_cons] at h ⊢
      rw [ih (n + 1) _ (by simp; omega)]
      simp only [Array.toList_setIfInBounds]
      apply List.ext_getElem?
      intro j
      have hsz : off + n < cs.toList.length := by simp; omega
      rw [List.getElem?_append, List.getElem?_append, List.getElem?_append, List.getElem?_append]
      simp only [List.length_append, List.length_take, List.length_cons, List.length_set, List.getElem?_take, List.getElem?_drop, List.getElem?_set]
      have hcs : cs.toList.length = cs.size := by simp
      by_cases h1 : j < off + n
      · rw [if_pos (by omega), if_pos (by omega), if_pos (by omega), if_neg (by omega), if_pos (by omega), if_pos (by omega), if_pos (by omega)]
      · by_cases h2 : j = off + n
        · subst h2
          rw [if_pos (by omega), if_pos (by omega), if_pos (by omega), if_pos rfl, if_pos (by omega), if_pos (by omega), if_neg (by omega)]
          simp [show off + n - min (off + n) cs.size = 0 by omega]
        · by_cases h3 : j < off + n + 1 + l.length
          · rw [if_pos (by omega), if_neg (by omega), if_pos (by omega), if_neg (by omega)]
            rw [show j - min (off + n) cs.toList.length = (j - min (off + (n + 1)) cs.toList.length) + 1 by omega, List.getElem?_cons_succ]
          · rw [if_neg (by omega), if_neg (by omega), if_neg (by omega)]
            congr 1; omega
  have e : us.zipIdx = (us.toList.zipIdx 0).toArray := by
    apply Array.ext'; simp
  rw [e, List.foldl_toArray]
  have := key us.toList 0 cs (by simpa using hl)
  simpa using this

theorem fillA_run {c : RC} {place : Nat → Option (Nat × Nat)} : ∀ {is : List Nat} {vs : List EV} {cs cs' : List SV} {us : List Value} {zs : Array Value}, fillA c.heap place cs is vs = some cs' → All2 (EV.rel c) vs us → All2 (SV.rel c) cs zs.toList →
    ∃ zs', Instr.fill place zs (is.zip us) = some zs' ∧ All2 (SV.rel c) cs' zs'.toList := by
  intro is
  induction is with
  | nil =>
    intro vs cs cs' us zs h hv hz
    cases vs with
    | nil => cases hv; cases h; exact ⟨zs, rfl, hz⟩
    | cons v vs => cases h
  | cons i is ih =>
    intro vs cs cs' us zs h hv hz
    cases vs with
    | nil => cases h
    | cons v vs =>
      cases v with
      | tup _ => cases h
      | x v =>
        simp only [fillA] at h
        split at h
        · rename_i off size us1 hp hu
          split at h
          · rename_i hq
            cases hv with
            | cons h1 h2 =>
              rename_i u us2
              obtain ⟨g1, _⟩ := XV.cells_rel hu h1
              have hl := g1.len
              have hzl := hz.len
              have hsz : u.cells.size = size := by have : u.cells.toList.length = u.cells.size := by simp
                                                   omega
              have hzs : zs.toList.length = zs.size := by simp
              simp only [List.zip_cons_cons, Instr.fill, hp]
              rw [if_neg (by simp [hsz]; omega)]
              refine ih h h2 ?_
              rw [put_cells _ _ _ (by omega)]
              rw [show off + u.cells.size = off + us1.length by omega]
              exact All2.append (All2.append (hz.take off) g1) (hz.drop _)
          · cases h
        · cases h

section
variable {P : Program} {cx : Cx} (hT : ∀ t d, cx.tab t = some d → d.Fits P t) {c : RC} (hi : c.Inv) {k : EV → List (Nat × HObj) → Prop}
include hT hi

theorem opBuild_run {t : TypeId} {parts : Array (Nat × Value)} {vs : List EV} (h : (opBuild cx c.heap t (parts.toList.map (·.1)) vs).wp k) (r : All2 (EV.rel c) vs (parts.toList.map (·.2))) : Runs P c (Instr.build t parts) k := by
  unfold opBuild at h
  split at h
  · rename_i d hd
    split at h
    · rename_i hpk
      split at h
      · rename_i cs hcs
        have F := hT t d hd
        obtain ⟨i, z, h1, h2, h3, h4, h5, h6⟩ := F.info
        have hzip : (parts.toList.map (·.1)).zip (parts.toList.map (·.2)) = parts.toList := by
          rw [List.zip_map']; simp
        have hz : All2 (SV.rel c) (d.zero.map .val) z.cells.toList := by rw [h5]; exact All2.vals c _
        obtain ⟨zs, g1, g2⟩ := fillA_run hcs r hz
        rw [hzip] at g1
        have hzv : (zeroValue t).run P c.w = .ok z c.w := by simp [zeroValue, typeInfo, h1, h4]
        have tabAll_at : ∀ (fs : List (Nat × TypeId)), tabAll cx fs = true → ∀ f ∈ fs, ∃ d, cx.tab f.2 = some d := by
          intro fs
          induction fs with
          | nil => intro _ f hf; cases hf
          | cons g fs ih =>
            intro ht f hf
            obtain ⟨o, ft⟩ := g
            simp only [tabAll] at ht
            split at ht
            · rename_i d' hd'
              rcases List.mem_cons.1 hf with rfl | hf
              · exact ⟨d', hd'⟩
              · exact ih ht f hf
            · cases ht
        have run : (Instr.build t parts).run P c.w = .ok (.agg zs) c.w := by
          have hk := F.k
          cases hkk : d.k with
          | struct fs =>
            rw [hkk] at hk hpk g1
            obtain ⟨fields, hf, hfs⟩ := hk
            have places : ∀ (l : List Field), (∀ f ∈ l, ∃ d, cx.tab f.type = some d) → (l.mapM fun f => (do pure (f.offset, ← sizeOf f.type) : Sem (Nat × Nat))).run P c.w = .ok (l.map fun f => (f.offset, ((cx.tab f.type).map (·.sz)).getD 0)) c.w := by
              intro l
              induction l with
              | nil => intro _; rw [List.mapM_nil]; rfl
              | cons f l ih =>
                intro hall
                obtain ⟨fd, hfd⟩ := hall f List.mem_cons_self
                obtain ⟨fi, _, q1, q2, _⟩ := (hT _ fd hfd).info
                rw [List.mapM_cons]
                have hs : (sizeOf f.type).run P c.w = .ok fd.sz c.w := by simp [sizeOf, typeInfo, q1, q2]
                simp only [Sem.run_bind, Sem.run_pure, hs, Result.andThen, ih (fun f hf => hall f (List.mem_cons_of_mem _ hf))]
                simp only [List.map_cons, hfd, Option.map_some, Option.getD_some]
            have hall : ∀ f ∈ fields.toList, ∃ d, cx.tab f.type = some d := by
              intro f hf
              have : (f.offset, f.type) ∈ fs := by rw [← hfs]; exact List.mem_map.2 ⟨f, hf, rfl⟩
              exact tabAll_at fs hpk _ this
            have hp := places fields.toList hall
            have hplace : (fun i => ((fields.toList.map fun f => (f.offset, ((cx.tab f.type).map (·.sz)).getD 0)).toArray)[i]?) = placeOf' cx (.struct fs) := by
              funext j
              unfold placeOf'
              rw [← hfs]
              simp only [List.getElem?_toArray, List.getElem?_map]
              cases hj : fields.toList[j]? with
              | none => rfl
              | some f =>
                obtain ⟨fd, hfd⟩ := hall f (List.mem_of_getElem? hj)
                simp [hfd]
            rw [← hplace] at g1
            have hp2 : (fields.mapM fun f => (do pure (f.offset, ← sizeOf f.type) : Sem (Nat × Nat))).run P c.w = .ok ((fields.toList.map fun f => (f.offset, ((cx.tab f.type).map (·.sz)).getD 0)).toArray) c.w := by
              have e : (fields.mapM fun f => (do pure (f.offset, ← sizeOf f.type) : Sem (Nat × Nat))) = (do
                  let l ← fields.toList.mapM fun f => (do pure (f.offset, ← sizeOf f.type) : Sem (Nat × Nat))
                  pure l.toArray) := by
                have e1 : fields = fields.toList.toArray := by simp
                conv => lhs; rw [e1]
                rw [List.mapM_toArray, map_eq_pure_bind]
              rw [e]
              simp only [Sem.run_bind, hp, Result.andThen, Sem.run_pure]
            simp only [Instr.build, Sem.run_bind, hzv, Result.andThen, run_underlying hf, hp2]
            rw [g1]
            rfl
          | arr n e =>
            rw [hkk] at hk hpk g1
            have hk' : P.underlying t = some (.array n e) := hk
            simp only [partsKnown] at hpk
            split at hpk
            · rename_i ed he
              obtain ⟨ei, _, q1, q2, _⟩ := (hT e ed he).info
              have hs : (sizeOf e).run P c.w = .ok ed.sz c.w := by simp [sizeOf, typeInfo, q1, q2]
              have hplace : (fun i => some (i * ed.sz, ed.sz)) = placeOf' cx (.arr n e) := by funext j; simp [placeOf', he]
              rw [← hplace] at g1
              simp only [Instr.build, Sem.run_bind, hzv, Result.andThen, run_underlying hk', hs]
              rw [g1]
              rfl
            · cases hpk
          | _ => rw [hkk] at hpk; cases hpk
        exact Runs.pure hi run h ⟨zs, rfl, g2⟩
      · exact h.elim
    · exact h.elim
  · exact h.elim
end
end Go.Lift

/- All operations together: what each comes to, that it is sound, and which objects it touches. Own work. -/
set_option linter.unusedVariables false
set_option linter.unusedSimpArgs false
set_option linter.unusedSectionVars false
namespace Go.Lift

def Con.n : Con → Nat
  | .det _ res _ _ => RKn res
  | .rel _ res _ _ _ => RKn res

def xvs : List EV → Option (List XV)
  | [] => some []
  | .x v :: r => match xvs r with | some vs => some (v :: vs) | none => none
  | _ => none

def opCall (cx : Cx) (h : List HObj) (f : FuncId) (args : List EV) (tgt : Nat) : Res := match cx.con f, xvs args with
  | some (.det ks rs pre g), some vs => (match rs.all RK.flat with
    | true => (match takes h ks vs with
      | some x => .ask (pre x) fun _ => .ret (EV.of (gives tgt rs (g x)).1) (gives tgt rs (g x)).2
      | none => .fail)
    | false => (match takes (hz (applyU h (fzx h vs))) ks vs with
      | some x => .ask (pre x) fun _ => .ret (EV.of (gives tgt rs (g x)).1) (fzx h vs ++ (gives tgt rs (g x)).2)
      | none => .fail))
  | some (.rel ks rs pre post ne), some vs => (match rs.all RK.flat with
    | true => (match takes h ks vs with
      | some x => .ask (pre x) fun hp => .all (RS rs) (post x) (ne x hp) fun r => .ret (EV.of (gives tgt rs r).1) (gives tgt rs r).2
      | none => .fail)
    | false => (match takes (hz (applyU h (fzx h vs))) ks vs with
      | some x => .ask (pre x) fun hp => .all (RS rs) (post x) (ne x hp) fun r => .ret (EV.of (gives tgt rs r).1) (fzx h vs ++ (gives tgt rs r).2)
      | none => .fail))
  | _, _ => .fail

def isStr (cx : Cx) (t : TypeId) : Bool := match cx.tab t with
  | some ⟨.str, _, _, _, _⟩ => true
  | _ => false
/-- Bytes to a text? -/
def isB2S (cx : Cx) (s d : TypeId) : Bool := match cx.tab s with
  | some ⟨.slice e, _, _, _, _⟩ => match cx.tab e with
    | some ⟨.int .u8, _, _, _, _⟩ => isStr cx d
    | _ => false
  | _ => false
theorem isStr_spec {P : Program} {cx : Cx} (hT : ∀ t d, cx.tab t = some d → d.Fits P t) {t : TypeId} (h : isStr cx t = true) : P.underlying t = some .string := by
  unfold isStr at h
  split at h
  · rename_i ht; exact (hT t _ ht).k
  · cases h
theorem isB2S_spec {P : Program} {cx : Cx} (hT : ∀ t d, cx.tab t = some d → d.Fits P t) {s d : TypeId} (h : isB2S cx s d = true) : ∃ e, P.underlying s = some (.slice e) ∧ P.underlying e = some (.int .u8) ∧ P.underlying d = some .string := by
  unfold isB2S at h
  split at h
  · rename_i e _ _ _ _ hs
    split at h
    · rename_i he; exact ⟨e, (hT s _ hs).k, (hT e _ he).k, isStr_spec hT h⟩
    · cases h
  · cases h
def opConvX (cx : Cx) (h : List HObj) (s d : TypeId) (v : EV) : Res := match isB2S cx s d with
  | true => opB2S h v
  | false => opConv cx s d v

def opBuiltin (cx : Cx) (h : List HObj) (b : Builtin) (ts : List TypeId) (args : List EV) (tgt : Nat) : Res := match b, ts, args with
  | .len, [t], [x] => opLen cx h t x
  | .append, [t, t'], [x, y] => if t = t' then opAppend cx h t x y tgt else (match isStr cx t' with
    | true => opAppendS cx h t x y tgt
    | false => .fail)
  | .copy, [t, _], [x, y] => opCopy cx h t x y
  | .max, _, vs => opMM imax vs
  | .min, _, vs => opMM imin vs
  | _, _, _ => .fail

def nAlloc (cx : Cx) (o : Oper) : Nat := match o.op with
  | .alloc _ | .box .. | .buildSlice .. | .makeSlice .. => 1
  | .call c => match c.callee with
    | .builtin b => match b with | .append => 1 | _ => 0
    | .value (.func f) => match cx.con f with | some con => con.n | none => 0
    | _ => 0
  | _ => 0

def LV.ev : LV → EV
  | .val v => .val v
  | .ref id off => .x (.one (.ref id off))
  | .data k x => .x (.one (.data k x))

def Con.flat : Con → Bool
  | .det _ rs _ _ => rs.all RK.flat
  | .rel _ rs _ _ _ => rs.all RK.flat
def conFlat (cx : Cx) (f : FuncId) : Bool := match cx.con f with
  | some con => con.flat
  | none => true
def conN0 (cx : Cx) (f : FuncId) : Bool := match cx.con f with
  | some con => con.n == 0 && con.flat
  | none => false

/-- A call of a function value that bears nothing. -/
def opClo (cx : Cx) (h : List HObj) (x : EV) (args : List EV) (tgt : Nat) : Res := match x with
  | .x (.one (.clo f [] [])) => if conN0 cx f then opCall cx h f args tgt else .fail
  | _ => .fail

def aop (cx : Cx) (o : Oper) (env : List EV) (h : List HObj) (tgt : Nat) : Res := match o.op with
  | .move x => .ret (cx.eval env x) []
  | .assign x => .ret (cx.eval env x) []
  | .pick c a b => opPick (cx.eval env c) (cx.eval env a) (cx.eval env b)
  | .alloc t => opAlloc cx t tgt
  | .box t x => opBox cx h t (cx.eval env x) tgt
  | .build t ps => opBuild cx h t (ps.toList.map (·.1)) (ps.toList.map fun p => cx.eval env p.2)
  | .buildSlice t n ps => opBuildSlice cx h t n (ps.toList.map (·.1)) (ps.toList.map fun p => cx.eval env p.2) tgt
  | .load t x => opLoad cx h t (cx.eval env x)
  | .store t x v => opStore cx h t (cx.eval env x) (cx.eval env v)
  | .nilCheck x => opNil h (cx.eval env x)
  | .binOp op t x y _ => opBin cx h op t (cx.eval env x) (cx.eval env y)
  | .unOp op _ x => opUn op (cx.eval env x)
  | .convert s d x => opConvX cx h s d (cx.eval env x)
  | .makeFunc f a b => opMakeFunc f (a.toList.map (cx.eval env)) (b.toList.map (cx.eval env))
  | .makeSlice t l c => opMakeSlice cx t (cx.eval env l) (cx.eval env c) tgt
  | .slice t x lo hi mx => match mx, hi with
    | some _, none => .fail
    | mx, hi => opSlice cx h t (cx.eval env x) (lo.map (cx.eval env)) (hi.map (cx.eval env)) (mx.map (cx.eval env))
  | .fieldAddr t x f => opFieldAddr cx h t (cx.eval env x) f
  | .indexAddr t x i => opIndexAddr cx h t (cx.eval env x) (cx.eval env i)
  | .extract x i => opExtract (cx.eval env x) i
  | .index t x i => opIndex cx t (cx.eval env x) (cx.eval env i)
  | .call c => match c.callee with
    | .builtin b => opBuiltin cx h b c.argTypes.toList (c.args.toList.map (cx.eval env)) tgt
    | .value (.func f) => opCall cx h f (c.args.toList.map (cx.eval env)) tgt
    | .value x => opClo cx h (cx.eval env x) (c.args.toList.map (cx.eval env)) tgt
    | _ => .fail
  | _ => .fail

/-! ### Which objects are touched -/

def Res.All (p : List (Nat × HObj) → Prop) : Res → Prop
  | .fail => True
  | .ret _ us => p us
  | .ask _ f => ∀ h, (f h).All p
  | .all _ _ _ f => ∀ a, (f a).All p
  | .br _ x y => x.All p ∧ y.All p

theorem Res.wp_all {p : List (Nat × HObj) → Prop} {k : EV → List (Nat × HObj) → Prop} : ∀ {r : Res}, r.All p → r.wp k → r.wp fun ev us => k ev us ∧ p us
  | .fail, _, h => h
  | .ret _ _, hp, h => ⟨h, hp⟩
  | .ask _ f, hp, ⟨q, h⟩ => ⟨q, Res.wp_all (hp q) h⟩
  | .all _ _ _ f, hp, h => fun a ha => Res.wp_all (hp a) (h a ha)
  | .br b x y, hp, h => Br.intro (fun e => Res.wp_all (r := x) hp.1 (Br.t h e)) (fun e => Res.wp_all (r := y) hp.2 (Br.f h e))

theorem Res.wp_mono {k k' : EV → List (Nat × HObj) → Prop} (hk : ∀ ev us, k ev us → k' ev us) : ∀ {r : Res}, r.wp k → r.wp k'
  | .fail, h => h
  | .ret _ _, h => hk _ _ h
  | .ask _ f, ⟨q, h⟩ => ⟨q, Res.wp_mono hk h⟩
  | .all _ _ _ f, h => fun a ha => Res.wp_mono hk (h a ha)
  | .br b x y, h => Br.intro (fun e => Res.wp_mono (r := x) hk (Br.t h e)) (fun e => Res.wp_mono (r := y) hk (Br.f h e))

/-- Only what lives, and the places from 'tgt' on, n of them. -/
def Touch (h : List HObj) (tgt n : Nat) (us : List (Nat × HObj)) : Prop := ∀ u ∈ us, (tgt ≤ u.1 ∧ u.1 < tgt + n) ∨ ∃ o, h[u.1]? = some o ∧ o ≠ .pend

theorem Touch.nil {h : List HObj} {tgt n : Nat} : Touch h tgt n [] := fun u hu => by cases hu
theorem Touch.new {h : List HObj} {tgt : Nat} {o : HObj} : Touch h tgt 1 [(tgt, o)] := fun u hu => by
  cases hu with
  | head => exact .inl ⟨Nat.le_refl _, Nat.lt_succ_self _⟩
  | tail _ hu => cases hu
theorem Touch.live {h : List HObj} {tgt n id : Nat} {o o' : HObj} (ho : h[id]? = some o) (hn : o ≠ .pend) : Touch h tgt n [(id, o')] := fun u hu => by
  cases hu with
  | head => exact .inr ⟨o, ho, hn⟩
  | tail _ hu => cases hu

theorem Touch.fz {h : List HObj} {tgt n : Nat} {us : List (Nat × HObj)} (hu : FzU h us) : Touch h tgt n us := fun u hu' => by
  obtain ⟨t, e, xs, g, _⟩ := hu u hu'
  exact .inr ⟨_, g, by simp⟩
theorem Touch.app {h : List HObj} {tgt n : Nat} {us vs : List (Nat × HObj)} (a : Touch h tgt n us) (b : Touch h tgt n vs) : Touch h tgt n (us ++ vs) := fun u hu => by
  rcases List.mem_append.1 hu with g | g
  · exact a u g
  · exact b u g

theorem give1_ids (t : Nat) (r : RK) (x : r.T) : ∀ u ∈ (give1 t r x).2, t ≤ u.1 ∧ u.1 < t + r.n := by
  cases r with
  | own ty e => intro u hu; cases hu with
    | head => exact ⟨Nat.le_refl _, Nat.lt_succ_self _⟩
    | tail _ hu => cases hu
  | snap k => intro u hu; cases hu

theorem gives_ids : ∀ (rs : List RK) (t : Nat) (x : RS rs), ∀ u ∈ (gives t rs x).2, t ≤ u.1 ∧ u.1 < t + RKn rs := by
  intro rs
  induction rs with
  | nil => intro t x u hu; cases hu
  | cons r rs ih =>
    intro t x u hu
    have e : RKn (r :: rs) = r.n + RKn rs := by simp [RKn]
    rcases List.mem_append.1 hu with h | h
    · have := give1_ids t r x.1 u h; omega
    · have := ih (t + r.n) x.2 u h; omega

section
variable {cx : Cx} {h : List HObj} {tgt n : Nat}

theorem vI_touch {k : IntKind} {m : Int} : (vI k m).All (Touch h tgt n) := Touch.nil
theorem vB_touch {b : Bool} : (vB b).All (Touch h tgt n) := Touch.nil
theorem vF_touch {k : FloatKind} {b : Option Nat} : (vF k b).All (Touch h tgt n) := fun _ => Touch.nil

theorem opPick_touch {a b c : EV} : (opPick c a b).All (Touch h tgt n) := by
  unfold opPick; split
  · exact ⟨Touch.nil, Touch.nil⟩
  · trivial
theorem opAlloc_touch {t : TypeId} : (opAlloc cx t tgt).All (Touch h tgt 1) := by
  unfold opAlloc; (repeat' split) <;> first | trivial | exact Touch.new
theorem opBox_touch {h' : List HObj} {t : TypeId} {v : EV} : (opBox cx h' t v tgt).All (Touch h tgt 1) := by
  unfold opBox; (repeat' split) <;> first | trivial | exact Touch.new
theorem opBuildSlice_touch {t : TypeId} {m : Nat} {is : List Nat} {vs : List EV} : (opBuildSlice cx h t m is vs tgt).All (Touch h tgt 1) := by
  unfold opBuildSlice; (repeat' split) <;> first | trivial | exact Touch.new | exact (Touch.fz (fze_ok _)).app Touch.new
/-- What a slice of this type has in its rows leads nowhere. -/
def flatE (cx : Cx) (t : TypeId) : Bool := match cx.tab t with
  | some ⟨.slice e, _, _, _, _⟩ => match cx.tab e with
    | some ed => match ed.kind with
      | some ek => ek.flat
      | none => true
    | none => true
  | _ => true
theorem opBuildSlice_quiet {h' : List HObj} {t : TypeId} {m : Nat} {is : List Nat} {vs : List EV} (hf : flatE cx t = true) : (opBuildSlice cx h' t m is vs tgt).All (Touch h tgt 1) := by
  unfold opBuildSlice
  split
  · rename_i e sz by_ z0 kd ht
    split
    · rename_i ed he
      split
      · rename_i ek hk
        have hq : ek.flat = true := by simp only [flatE, ht, he, hk] at hf; exact hf
        split
        · split
          · split
            · exact Touch.new
            · trivial
          · rename_i hfl; rw [hq] at hfl; cases hfl
        · trivial
      · trivial
    · trivial
  · trivial
theorem opLoad_touch {h' : List HObj} {t : TypeId} {v : EV} : (opLoad cx h' t v).All (Touch h tgt n) := by
  unfold opLoad; (repeat' split) <;> first | trivial | exact Touch.nil | exact fun _ => Touch.nil
theorem opNil_touch {h' : List HObj} {v : EV} : (opNil h' v).All (Touch h tgt n) := by
  unfold opNil; (repeat' split) <;> first | trivial | exact Touch.nil | exact fun _ => Touch.nil
theorem opUn_touch {op : UnOp} {v : EV} : (opUn op v).All (Touch h tgt n) := by
  unfold opUn; split <;> first | trivial | exact Touch.nil
theorem opConv_touch {s d : TypeId} {v : EV} : (opConv cx s d v).All (Touch h tgt n) := by
  unfold opConv; split <;> first | trivial | exact Touch.nil | exact fun _ => Touch.nil
theorem opConvX_touch {h' : List HObj} {s d : TypeId} {v : EV} : (opConvX cx h' s d v).All (Touch h tgt n) := by
  unfold opConvX
  split
  · unfold opB2S; (repeat' split) <;> first | trivial | exact Touch.nil
  · exact opConv_touch
theorem opMakeFunc_touch {f : Fn} {a b : List EV} : (opMakeFunc f a b).All (Touch h tgt n) := by
  unfold opMakeFunc; (repeat' split) <;> first | trivial | exact Touch.nil
theorem opCopy_touch {t : TypeId} {x y : EV} : (opCopy cx h t x y).All (Touch h tgt n) := by
  unfold opCopy
  split
  case h_2 => trivial
  split
  case h_2 => trivial
  rename_i ho
  (repeat' split) <;> first | trivial | exact fun _ => Touch.live ho (by simp)
theorem opAppendS_touch {t : TypeId} {x y : EV} : (opAppendS cx h t x y tgt).All (Touch h tgt 1) := by
  unfold opAppendS
  split
  case h_2 => trivial
  split
  case h_2 => trivial
  split
  case isFalse => trivial
  split
  · exact fun _ => Touch.new
  · split
    case h_2 => trivial
    split
    case h_2 => trivial
    rename_i ho
    (repeat' split) <;> first
      | trivial
      | (intro _ u hu
         cases hu with
         | head => exact .inr ⟨_, ho, by simp⟩
         | tail _ hu => exact Touch.new u hu)
theorem opMakeSlice_touch {t : TypeId} {l c : EV} : (opMakeSlice cx t l c tgt).All (Touch h tgt 1) := by
  unfold opMakeSlice; (repeat' split) <;> first | trivial | exact fun _ => Touch.new
theorem opExtract_touch {v : EV} {i : Nat} : (opExtract v i).All (Touch h tgt n) := by
  unfold opExtract; (repeat' split) <;> first | trivial | exact Touch.nil
theorem opLen_touch {h' : List HObj} {t : TypeId} {v : EV} : (opLen cx h' t v).All (Touch h tgt n) := by
  unfold opLen; (repeat' split) <;> first | trivial | exact Touch.nil
theorem opIndexAddr_touch {h' : List HObj} {t : TypeId} {v i : EV} : (opIndexAddr cx h' t v i).All (Touch h tgt n) := by
  unfold opIndexAddr; (repeat' split) <;> first | trivial | exact fun _ => Touch.nil
theorem opFieldAddr_touch {h' : List HObj} {t : TypeId} {v : EV} {i : Nat} : (opFieldAddr cx h' t v i).All (Touch h tgt n) := by
  unfold opFieldAddr; (repeat' split) <;> first | trivial | exact Touch.nil
theorem opSlice_touch {h' : List HObj} {t : TypeId} {v : EV} {a b c : Option EV} : (opSlice cx h' t v a b c).All (Touch h tgt n) := by
  unfold opSlice; (repeat' split) <;> first | trivial | exact fun _ => Touch.nil
theorem opMM_touch {f : Int → Int → Int} {vs : List EV} : (opMM f vs).All (Touch h tgt n) := by
  unfold opMM; (repeat' split) <;> first | trivial | exact Touch.nil
theorem binInt_touch {op : BinOp} {k j : IntKind} {a b : Int} : (binInt op k a j b).All (Touch h tgt n) := by
  cases op <;> simp only [binInt] <;> (repeat' split) <;> first | trivial | exact Touch.nil | exact fun _ => Touch.nil
theorem binFlt_touch {op : BinOp} {k j : FloatKind} {a b : Nat} : (binFlt op k a j b).All (Touch h tgt n) := by
  cases op <;> simp only [binFlt] <;> (repeat' split) <;> first | trivial | exact Touch.nil | exact fun _ => Touch.nil
theorem opEq_touch {h' : List HObj} {neg : Bool} {t : TypeId} {x y : EV} : (opEq cx h' neg t x y).All (Touch h tgt n) := by
  unfold opEq; (repeat' split) <;> first | trivial | exact Touch.nil
theorem opBin_touch {h' : List HObj} {op : BinOp} {t : TypeId} {x y : EV} : (opBin cx h' op t x y).All (Touch h tgt n) := by
  unfold opBin; split
  · exact binInt_touch
  · exact binFlt_touch
  · split
    · exact opEq_touch
    · exact opEq_touch
    · trivial
theorem opStore_touch {t : TypeId} {x v : EV} : (opStore cx h t x v).All (Touch h tgt n) := by
  unfold opStore
  split
  case h_2 => trivial
  split
  · split
    case h_2 => trivial
    rename_i ho
    (repeat' split) <;> first | trivial | exact Touch.live ho (by simp) | exact (Touch.fz (XV.fz_ok _)).app (Touch.live ho (by simp))
  · split
    · rename_i ho
      (repeat' split) <;> first | trivial | exact Touch.live ho (by simp)
    · rename_i ho
      (repeat' split) <;> first | trivial | exact fun _ => Touch.live ho (by simp)
    · trivial
  · trivial
theorem opAppend_touch {t : TypeId} {x y : EV} : (opAppend cx h t x y tgt).All (Touch h tgt 1) := by
  unfold opAppend
  split
  case h_2 => trivial
  split
  case h_2 => trivial
  split
  case isFalse => trivial
  split
  · (repeat' split) <;> first | trivial | exact fun _ => Touch.new
  · split
    case h_2 => trivial
    split
    case h_2 => trivial
    rename_i ho
    (repeat' split) <;> first
      | trivial
      | (intro _ u hu
         cases hu with
         | head => exact .inr ⟨_, ho, by simp⟩
         | tail _ hu => exact Touch.new u hu)
theorem opCall_touch {f : FuncId} {args : List EV} : (opCall cx h f args tgt).All (Touch h tgt (match cx.con f with | some con => con.n | none => 0)) := by
  unfold opCall
  cases hc : cx.con f with
  | none => trivial
  | some con =>
    cases hx : xvs args with
    | none => cases con <;> trivial
    | some vs =>
      cases con with
      | det ks rs pre g =>
        simp only
        repeat' split
        all_goals first
          | trivial
          | exact fun _ u hu => .inl (gives_ids _ _ _ u hu)
          | exact fun _ => (Touch.fz (fzx_ok _)).app fun u hu => .inl (gives_ids _ _ _ u hu)
      | rel ks rs pre post ne =>
        simp only
        repeat' split
        all_goals first
          | trivial
          | exact fun _ r u hu => .inl (gives_ids _ _ _ u hu)
          | exact fun _ r => (Touch.fz (fzx_ok _)).app fun u hu => .inl (gives_ids _ _ _ u hu)
theorem opCall_none {f : FuncId} {h' : List HObj} : (opCall cx h' f [] tgt).All (Touch h tgt (match cx.con f with | some con => con.n | none => 0)) := by
  unfold opCall
  cases hc : cx.con f with
  | none => trivial
  | some con =>
    have hx : xvs [] = some [] := rfl
    have hz : fzx h' [] = [] := rfl
    rw [hx]
    cases con with
    | det ks rs pre g =>
      simp only [hz, List.nil_append]
      repeat' split
      all_goals first
        | trivial
        | exact fun _ u hu => .inl (gives_ids _ _ _ u hu)
    | rel ks rs pre post ne =>
      simp only [hz, List.nil_append]
      repeat' split
      all_goals first
        | trivial
        | exact fun _ r u hu => .inl (gives_ids _ _ _ u hu)
theorem opCall_quiet {f : FuncId} {args : List EV} {h' : List HObj} (hf : conFlat cx f = true) : (opCall cx h' f args tgt).All (Touch h tgt (match cx.con f with | some con => con.n | none => 0)) := by
  unfold opCall
  unfold conFlat at hf
  cases hc : cx.con f with
  | none => trivial
  | some con =>
    rw [hc] at hf
    cases hx : xvs args with
    | none => cases con <;> trivial
    | some vs =>
      cases con with
      | det ks rs pre g =>
        simp only [Con.flat] at hf
        simp only [hf]
        split
        · exact fun _ u hu => .inl (gives_ids _ _ _ u hu)
        · trivial
      | rel ks rs pre post ne =>
        simp only [Con.flat] at hf
        simp only [hf]
        split
        · exact fun _ r u hu => .inl (gives_ids _ _ _ u hu)
        · trivial
end

theorem opIndex_touch {cx : Cx} {h : List HObj} {tgt n : Nat} {t : TypeId} {v i : EV} : (opIndex cx t v i).All (Touch h tgt n) := by
  unfold opIndex
  (repeat' split) <;> first | trivial | exact fun _ => Touch.nil

theorem opClo_touch {cx : Cx} {h h' : List HObj} {tgt : Nat} {x : EV} {args : List EV} : (opClo cx h' x args tgt).All (Touch h tgt 0) := by
  unfold opClo
  split
  · split
    · rename_i f hn
      unfold conN0 at hn
      split at hn
      · rename_i con hcon
        rw [Bool.and_eq_true] at hn
        have := opCall_quiet (cx := cx) (h := h) (tgt := tgt) (f := f) (args := args) (h' := h') (by unfold conFlat; rw [hcon]; exact hn.2)
        rw [hcon] at this
        have e : con.n = 0 := by simpa using hn.1
        simp only [e] at this
        exact this
      · cases hn
    · trivial
  · trivial

theorem opBuild_touch {cx : Cx} {h h' : List HObj} {tgt n : Nat} {t : TypeId} {is : List Nat} {vs : List EV} : (opBuild cx h' t is vs).All (Touch h tgt n) := by
  unfold opBuild; (repeat' split) <;> first | trivial | exact Touch.nil

theorem aop_touch (cx : Cx) (o : Oper) (env : List EV) (h : List HObj) (tgt : Nat) : (aop cx o env h tgt).All (Touch h tgt (nAlloc cx o)) := by
  cases hop : o.op <;> simp only [aop, nAlloc, hop]
  case move => exact Touch.nil
  case assign => exact Touch.nil
  case pick => exact opPick_touch
  case alloc => exact opAlloc_touch
  case box => exact opBox_touch
  case build => exact opBuild_touch
  case buildSlice => exact opBuildSlice_touch
  case load => exact opLoad_touch
  case store => exact opStore_touch
  case nilCheck => exact opNil_touch
  case binOp => exact opBin_touch
  case unOp => exact opUn_touch
  case convert => exact opConvX_touch
  case makeFunc => exact opMakeFunc_touch
  case makeSlice => exact opMakeSlice_touch
  case slice =>
    split
    · trivial
    · exact opSlice_touch
  case fieldAddr => exact opFieldAddr_touch
  case indexAddr => exact opIndexAddr_touch
  case extract => exact opExtract_touch
  case index => exact opIndex_touch
  case call c =>
    cases hc : c.callee with
    | builtin b =>
      simp only
      cases b <;> simp only [opBuiltin] <;> (repeat' split) <;> first | trivial | exact opLen_touch | exact opAppend_touch | exact opAppendS_touch | exact opCopy_touch | exact opMM_touch | simp_all
    | value f =>
      cases f with
      | func f => exact opCall_touch
      | _ => exact opClo_touch
    | invoke => trivial
  all_goals trivial

end Go.Lift

/- Every abstract operation is sound; regions in the order of the text. Own work. -/
set_option linter.unusedVariables false
set_option linter.unusedSimpArgs false
set_option linter.unusedSectionVars false
namespace Go.Lift

/-- A call of a function by its number: carried out at once, or entered and left. -/
def CallSpec (P : Program) (f : FuncId) (args : Array Value) (w : World) (R : Value → World → Prop) : Prop :=
  (∃ v w', (callFunc f args).run P w = .ok (.value v) w' ∧ R v w') ∨
  ((callFunc f args).run P w = .ok (.enter f args) w ∧ Calls P f args w fun e w' => ∃ v, e = .returned v ∧ R v w')

/-- The variables that a contract speaks of hold what is said of them. -/
def GW (G : Globs) (w : World) (ok : Nat → Prop) : Prop := ∀ (g : Nat) (k : K) (x : k.T), G g = some ⟨k, x⟩ → (K.ptr k).rep w ok (some x) [.pointer (some ⟨g, 0, none⟩)]

def Con.holds (P : Program) (G : Globs) (f : FuncId) : Con → Prop
  | .det ks rs pre g => ∀ (w : World) (ok : Nat → Prop) (_ : ∀ b, ok b → b < w.heap.size) (x : KS ks) (vs : List Value), ArgsRep w ok ks x vs → GW G w ok → pre x → CallSpec P f vs.toArray w fun v w' => Grows w w' ∧ ResRep w w' ok rs (g x) v
  | .rel ks rs pre post _ => ∀ (w : World) (ok : Nat → Prop) (_ : ∀ b, ok b → b < w.heap.size) (x : KS ks) (vs : List Value), ArgsRep w ok ks x vs → GW G w ok → pre x → CallSpec P f vs.toArray w fun v w' => ∃ r, post x r ∧ Grows w w' ∧ ResRep w w' ok rs r v

def CxOk (P : Program) (cx : Cx) : Prop := (∀ t d, cx.tab t = some d → d.Fits P t) ∧ ∀ f con, cx.con f = some con → con.holds P cx.glob f

theorem GOk.world {G : Globs} {c : RC} (h : GOk G c) : GW G c.w c.all := fun g k x hg => K.rep_mono (fun b hb => RC.ok_all b hb) (K.ptr k) _ _ (h g k x hg)

theorem evals_rel {cx : Cx} {c : RC} {env : List EV} {a : Act} (hg : GOk cx.glob c) (he : EnvRel c env a.tmps) : ∀ xs : List Operand, All2 (EV.rel c) (xs.map (cx.eval env)) (xs.map a.eval)
  | [] => .nil
  | x :: xs => .cons (eval_rel hg he x) (evals_rel hg he xs)

theorem xvs_rel {c : RC} : ∀ {es : List EV} {vs : List XV} {us : List Value}, xvs es = some vs → All2 (EV.rel c) es us → All2 (XV.rel c) vs us
  | [], vs, us, h, ha => by cases ha; cases h; exact .nil
  | .x v :: es, vs, us, h, ha => by
    simp only [xvs] at h
    split at h
    · rename_i vs' hv
      cases h
      cases ha with
      | cons h1 h2 => exact .cons h1 (xvs_rel hv h2)
    · cases h
  | .tup _ :: _, _, _, h, _ => by cases h

theorem Yields.runs {P : Program} {o : Oper} {a : Act} {c : RC} {k : EV → List (Nat × HObj) → Prop} {s : Sem Value} (he : execOp a.eval o = (do return .value (← s))) (h : Runs P c s k) : Yields P o a c.w (Done c k) := by
  obtain ⟨v, w', h1, h2⟩ := h
  exact Yields.sem he h1 h2

theorem Yields.runsU {P : Program} {o : Oper} {a : Act} {c : RC} {k : EV → List (Nat × HObj) → Prop} {s : Sem Unit} (he : execOp a.eval o = (do s; return .skip)) (h : RunsU P c s k) : Yields P o a c.w (Done c k) := by
  obtain ⟨w', h1, h2⟩ := h
  exact Yields.semU he h1 h2

section
variable {P : Program} {cx : Cx} (hx : CxOk P cx) {c : RC} (hi : c.Inv) {env : List EV} {a : Act} (hg : GOk cx.glob c) (he : EnvRel c env a.tmps) {k : EV → List (Nat × HObj) → Prop}
include hx hi hg he

theorem call_yields {o : Oper} {cl : Call} {f : FuncId} (ho : o.op = .call cl) (hf : cl.callee = .value (.func f)) {R : Value → World → Prop}
    (h : CallSpec P f (cl.args.map a.eval) c.w R) : Yields P o a c.w R := by
  have hrun : (execOp a.eval o).run P c.w = (callFunc f (cl.args.map a.eval)).run P c.w := by
    simp [execOp, ho, resolve, hf, Act.eval, Deferred.ofValue, invoke]
  intro next Q hn
  unfold Oper.wp
  rw [hrun]
  rcases h with ⟨v, w', h1, h2⟩ | ⟨h1, h2⟩
  · rw [h1]; exact hn v w' h2
  · rw [h1]
    refine h2.mono fun e w' ⟨v, e1, h3⟩ => ?_
    subst e1
    exact hn v w' h3

theorem adopt_done {w' : World} (hgr : Grows c.w w') {ok : Nat → Prop} (hok : ∀ b, ok b → c.ok b) {rs : List RK} {r : RS rs} {v : Value} (hr : ResRep c.w w' ok rs r v) {t : Nat} (hp : ∀ i, i < RKn rs → c.heap[t + i]? = some .pend) (hk : k (EV.of (gives t rs r).1) (gives t rs r).2) : Done c k v w' := by
  obtain ⟨c', h1, h2, h3, h4, h5⟩ := adopt hi hgr hok hr hp
  exact ⟨_, _, c', hk, h1, h2, h3, h4, h5⟩

theorem CallSpec.mono {f : FuncId} {args : Array Value} {w : World} {R R' : Value → World → Prop} (hR : ∀ v w', R v w' → R' v w') (h : CallSpec P f args w R) : CallSpec P f args w R' := by
  rcases h with ⟨v, w', h1, h2⟩ | ⟨h1, h2⟩
  · exact .inl ⟨v, w', h1, hR v w' h2⟩
  · exact .inr ⟨h1, h2.mono fun e w' ⟨v, e1, h3⟩ => ⟨v, e1, hR v w' h3⟩⟩

theorem opCall_spec {f : FuncId} {args : List EV} {us : List Value} {tgt : Nat} (hall0 : All2 (EV.rel c) args us) (hp : ∀ i, i < (match cx.con f with | some con => con.n | none => 0) → c.heap[tgt + i]? = some .pend)
    (h : (opCall cx c.heap f args tgt).wp k) : CallSpec P f us.toArray c.w (Done c k) := by
  unfold opCall at h
  cases hc : cx.con f with
  | none => rw [hc] at h; exact h.elim
  | some con =>
    have hcon := hx.2 f con hc
    rw [hc] at h hp
    cases hv : xvs args with
    | none => rw [hv] at h; cases con <;> exact h.elim
    | some vs =>
      rw [hv] at h
      have hall := xvs_rel hv hall0
      have hu := fzx_ok (h := c.heap) vs
      obtain ⟨E, I⟩ := Frz.ext hi (hu.frz (Frz.refl _))
      have hall' := hall.mono fun _ _ q => XV.rel_mono E q
      have hp' : ∀ i, i < con.n → (applyU c.heap (fzx c.heap vs))[tgt + i]? = some .pend := fun i hi' => by
        have hp1 := hp i hi'
        rw [applyU_ne _ _ _ fun u hu' e => ?_]
        · exact hp1
        · obtain ⟨t', e', xs', g, _⟩ := hu u hu'
          rw [e, hp1] at g; cases g
      have he' := EnvRel.mono he E
      have hg' := GOk.mono hg E
      cases con with
      | det ks rs pre g =>
        simp only at h
        split at h
        · rename_i hfl
          split at h
          · rename_i x hxx
            obtain ⟨hpre, h⟩ := h
            have hr := takes_rep hi ks vs x _ hxx hall
            exact (hcon c.w c.all (fun b hb => hb) x _ hr (GOk.world hg) hpre).mono hx hi hg he fun v w' ⟨g1, g2⟩ => adopt_done hx hi hg he g1 (ok := fun _ => False) (fun b hb => hb.elim) (g2.toflat hfl) hp h
          · exact h.elim
        · split at h
          · rename_i x hxx
            obtain ⟨hpre, h⟩ := h
            have hr := takes_repT I (Tak.frozen I) ks vs x _ hxx hall'
            exact (hcon c.w _ (fun b hb => hb.1) x _ hr hg' hpre).mono hx hi hg he fun v w' ⟨g1, g2⟩ =>
              Done.frozen hi hu (adopt_done (c := { c with heap := applyU c.heap (fzx c.heap vs) }) hx I hg' he' g1 (fun b hb => hb) g2 hp' h)
          · exact h.elim
      | rel ks rs pre post ne =>
        simp only at h
        split at h
        · rename_i hfl
          split at h
          · rename_i x hxx
            obtain ⟨hpre, h⟩ := h
            have hr := takes_rep hi ks vs x _ hxx hall
            exact (hcon c.w c.all (fun b hb => hb) x _ hr (GOk.world hg) hpre).mono hx hi hg he fun v w' ⟨r, g0, g1, g2⟩ => adopt_done hx hi hg he g1 (ok := fun _ => False) (fun b hb => hb.elim) (g2.toflat hfl) hp (h r g0)
          · exact h.elim
        · split at h
          · rename_i x hxx
            obtain ⟨hpre, h⟩ := h
            have hr := takes_repT I (Tak.frozen I) ks vs x _ hxx hall'
            exact (hcon c.w _ (fun b hb => hb.1) x _ hr hg' hpre).mono hx hi hg he fun v w' ⟨r, g0, g1, g2⟩ =>
              Done.frozen hi hu (adopt_done (c := { c with heap := applyU c.heap (fzx c.heap vs) }) hx I hg' he' g1 (fun b hb => hb) g2 hp' (h r g0))
          · exact h.elim

theorem opCall_yields {o : Oper} {cl : Call} {f : FuncId} {tgt : Nat} (ho : o.op = .call cl) (hf : cl.callee = .value (.func f)) (hp : ∀ i, i < (match cx.con f with | some con => con.n | none => 0) → c.heap[tgt + i]? = some .pend)
    (h : (opCall cx c.heap f (cl.args.toList.map (cx.eval env)) tgt).wp k) : Yields P o a c.w (Done c k) := by
  have hargs : (cl.args.toList.map a.eval).toArray = cl.args.map a.eval := by apply Array.ext'; simp
  have := opCall_spec hx hi hg he (evals_rel hg he cl.args.toList) hp h
  rw [hargs] at this
  exact call_yields hx hi hg he ho hf this

theorem call_yields' {o : Oper} {cl : Call} {x : Operand} {f : FuncId} (ho : o.op = .call cl) (hf : cl.callee = .value x) (hxv : a.eval x = .func (.func f) #[] #[]) {R : Value → World → Prop}
    (h : CallSpec P f (cl.args.map a.eval) c.w R) : Yields P o a c.w R := by
  have hrun : (execOp a.eval o).run P c.w = (callFunc f (cl.args.map a.eval)).run P c.w := by
    simp [execOp, ho, resolve, hf, hxv, Deferred.ofValue, invoke]
  intro next Q hn
  unfold Oper.wp
  rw [hrun]
  rcases h with ⟨v, w', h1, h2⟩ | ⟨h1, h2⟩
  · rw [h1]; exact hn v w' h2
  · rw [h1]
    refine h2.mono fun e w' ⟨v, e1, h3⟩ => ?_
    subst e1
    exact hn v w' h3

theorem opCall_yields' {o : Oper} {cl : Call} {x : Operand} {f : FuncId} {tgt : Nat} (ho : o.op = .call cl) (hf : cl.callee = .value x) (hxv : a.eval x = .func (.func f) #[] #[]) (hp : ∀ i, i < (match cx.con f with | some con => con.n | none => 0) → c.heap[tgt + i]? = some .pend)
    (h : (opCall cx c.heap f (cl.args.toList.map (cx.eval env)) tgt).wp k) : Yields P o a c.w (Done c k) := by
  have hargs : (cl.args.toList.map a.eval).toArray = cl.args.map a.eval := by apply Array.ext'; simp
  have := opCall_spec hx hi hg he (evals_rel hg he cl.args.toList) hp h
  rw [hargs] at this
  exact call_yields' hx hi hg he ho hf hxv this

theorem aop_sound (o : Oper) (tgt : Nat) (hp : ∀ i, i < nAlloc cx o → c.heap[tgt + i]? = some .pend) (h : (aop cx o env c.heap tgt).wp k) : Yields P o a c.w (Done c k) := by
  have ev := eval_rel hg he
  have hT := hx.1
  cases hop : o.op <;> simp only [aop, nAlloc, hop] at h hp
  case move x => exact Yields.val (v := a.eval x) (w' := c.w) (by simp [execOp, hop]) (Done.pure hi h (ev x))
  case assign x => exact Yields.val (v := a.eval x) (w' := c.w) (by simp [execOp, hop]) (Done.pure hi h (ev x))
  case pick b x y =>
    unfold opPick at h
    split at h
    · rename_i t ht
      have hb : a.eval b = .bool t := by have := ev b; rw [ht] at this; exact this
      cases t with
      | true => exact Yields.val (v := a.eval x) (w' := c.w) (by simp [execOp, hop, hb, asBool]) (Done.pure hi (show k _ [] from Br.t h rfl) (ev x))
      | false => exact Yields.val (v := a.eval y) (w' := c.w) (by simp [execOp, hop, hb, asBool]) (Done.pure hi (show k _ [] from Br.f h rfl) (ev y))
    · exact h.elim
  case alloc t => exact Yields.runs (s := Instr.alloc t true (.tuple #[])) (by simp [execOp, hop]) (opAlloc_run hT hi (by simpa using hp 0 (by omega)) h)
  case box t x => exact Yields.runs (s := Instr.box t (a.eval x)) (by simp [execOp, hop]) (opBox_run hT hi (by simpa using hp 0 (by omega)) h (ev x))
  case build t ps =>
    refine Yields.runs (s := Instr.build t (ps.map fun x => (x.1, a.eval x.2))) (by simp [execOp, hop]) (opBuild_run hT hi (vs := ps.toList.map fun p => cx.eval env p.2) ?_ ?_)
    · have : (ps.map fun x => (x.1, a.eval x.2)).toList.map (·.1) = ps.toList.map (·.1) := by simp
      rw [this]; exact h
    · have e1 : (ps.map fun x => (x.1, a.eval x.2)).toList.map (·.2) = (ps.toList.map (·.2)).map a.eval := by simp
      have e2 : (ps.toList.map fun p => cx.eval env p.2) = (ps.toList.map (·.2)).map (cx.eval env) := by simp
      rw [e1, e2]; exact evals_rel hg he _
  case buildSlice t n ps =>
    refine Yields.runs (s := Instr.buildSlice t n (ps.map fun x => (x.1, a.eval x.2))) (by simp [execOp, hop]) (opBuildSlice_run hT hi (by simpa using hp 0 (by omega)) (vs := ps.toList.map fun p => cx.eval env p.2) ?_ ?_)
    · have : (ps.map fun x => (x.1, a.eval x.2)).toList.map (·.1) = ps.toList.map (·.1) := by simp
      rw [this]; exact h
    · have e1 : (ps.map fun x => (x.1, a.eval x.2)).toList.map (·.2) = (ps.toList.map (·.2)).map a.eval := by simp
      have e2 : (ps.toList.map fun p => cx.eval env p.2) = (ps.toList.map (·.2)).map (cx.eval env) := by simp
      rw [e1, e2]; exact evals_rel hg he _
  case load t x => exact Yields.runs (s := Instr.loadAt t (a.eval x)) (by simp [execOp, hop]) (opLoad_run hT hi h (ev x))
  case store t x v => exact Yields.runsU (s := Instr.storeAt t (a.eval x) (a.eval v)) (by simp [execOp, hop]) (opStore_run hT hi h (ev x) (ev v))
  case nilCheck x =>
    obtain ⟨⟨p, hp1⟩, h2⟩ := opNil_rel hT hi h (ev x)
    exact Yields.val (v := a.eval x) (w' := c.w) (by simp [execOp, hop, hp1]) (Done.pure hi h2 (ev x))
  case binOp op t x y _ => exact Yields.runs (s := do eqGuard op t x y (a.eval x) (a.eval y); binOp op t (a.eval x) (a.eval y)) (by simp [execOp, hop]) (opBin_run hT hi h (ev x) (ev y) x y)
  case unOp op t x => exact Yields.runs (s := Op.unary op (a.eval x)) (by simp [execOp, hop]) (opUn_run hT hi h (ev x))
  case convert s d x =>
    refine Yields.runs (s := convert s d (a.eval x)) (by simp [execOp, hop]) ?_
    unfold opConvX at h
    split at h
    · rename_i hb
      obtain ⟨e, h1, h2, h3⟩ := isB2S_spec hT hb
      exact opB2S_run hT hi h1 h2 h3 h (ev x)
    · exact opConv_run hT hi h (ev x)
  case makeFunc f xs ys =>
    refine Yields.runs (s := Instr.makeFunc f (xs.map a.eval) (ys.map a.eval)) (by simp [execOp, hop]) (opMakeFunc_run hT hi h ?_ ?_)
    · have := evals_rel hg he xs.toList
      simpa using this
    · have := evals_rel hg he ys.toList
      simpa using this
  case makeSlice t l m => exact Yields.runs (s := Instr.makeSlice t (a.eval l) (a.eval m)) (by simp [execOp, hop]) (opMakeSlice_run hT hi (by simpa using hp 0 (by omega)) h (ev l) (ev m))
  case slice t x lo hi' mx =>
    refine Yields.runs (s := Instr.sliceAt t (a.eval x) (lo.map a.eval) (hi'.map a.eval) (mx.map a.eval)) (by simp [execOp, hop]) ?_
    split at h
    · exact h.elim
    · rename_i hne
      refine opSlice_run hT hi h (ev x) (by cases lo <;> rfl) (by cases hi' <;> rfl) (by cases mx <;> rfl) ?_ ?_ ?_ ?_
      · intro e v h1 h2; cases lo with
        | none => cases h1
        | some z => cases h1; cases h2; exact ev z
      · intro e v h1 h2; cases hi' with
        | none => cases h1
        | some z => cases h1; cases h2; exact ev z
      · intro e v h1 h2; cases mx with
        | none => cases h1
        | some z => cases h1; cases h2; exact ev z
      · intro hm
        cases mx with
        | none => cases hm
        | some z => cases hi' with
          | none => exact absurd rfl (hne z rfl)
          | some y => rfl
  case fieldAddr t x f => exact Yields.runs (s := Instr.fieldAt t (a.eval x) f) (by simp [execOp, hop]) (opFieldAddr_run hT hi h (ev x))
  case indexAddr t x i => exact Yields.runs (s := Instr.indexAt t (a.eval x) (a.eval i)) (by simp [execOp, hop]) (opIndexAddr_run hT hi h (ev x) (ev i))
  case index t x i => exact Yields.runs (s := Instr.index t (a.eval x) (a.eval i)) (by simp [execOp, hop]) (opIndex_run hT hi h (ev x) (ev i))
  case extract x i => exact Yields.runs (s := Instr.extract (a.eval x) i) (by simp [execOp, hop]) (opExtract_run hT hi h (ev x))
  case call cl =>
    have hall := evals_rel hg he cl.args.toList
    have hargs : cl.args.toList.map a.eval = (cl.args.map a.eval).toList := by simp
    cases hc : cl.callee with
    | builtin b =>
      rw [hc] at h hp
      simp only at h hp
      have run : ∀ (s : Sem Value), builtin b cl.argTypes o.type (cl.args.map fun | .const _ => true | _ => false) (cl.args.map a.eval) = (do return .value (← s)) → execOp a.eval o = (do return .value (← s)) := by
        intro s hs
        rw [← hs]
        simp only [execOp, hop, resolve, hc, pure_bind, invoke]
        congr 1
      unfold opBuiltin at h
      split at h
      · rename_i t x e1 e2
        have et : cl.argTypes = #[t] := by apply Array.ext'; simpa using e1
        rw [e2, hargs] at hall
        cases hu : (cl.args.map a.eval).toList with
        | nil => rw [hu] at hall; cases hall
        | cons u us =>
          rw [hu] at hall
          cases hall with
          | cons h1 h2 =>
            cases h2
            have ea : cl.args.map a.eval = #[u] := by apply Array.ext'; simpa using hu
            exact Yields.runs (run (Builtin.len_ #[t] o.type #[u]) (by rw [et, ea]; rfl)) (opLen_run hT hi h h1)
      · rename_i t t' x y e1 e2
        split at h
        · rename_i ett
          subst ett
          have et : cl.argTypes = #[t, t] := by apply Array.ext'; simpa using e1
          rw [e2, hargs] at hall
          cases hu : (cl.args.map a.eval).toList with
          | nil => rw [hu] at hall; cases hall
          | cons u us =>
            rw [hu] at hall
            cases hall with
            | cons h1 h2 =>
              cases us with
              | nil => cases h2
              | cons u2 us2 =>
                cases h2 with
                | cons h3 h4 =>
                  cases h4
                  have ea : cl.args.map a.eval = #[u, u2] := by apply Array.ext'; simpa using hu
                  exact Yields.runs (run (Builtin.append_ #[t, t] o.type #[u, u2]) (by rw [et, ea]; rfl)) (opAppend_run hT hi (by simpa using hp 0 (by decide)) h h1 h3)
        · split at h
          · rename_i hst
            have et : cl.argTypes = #[t, t'] := by apply Array.ext'; simpa using e1
            rw [e2, hargs] at hall
            cases hu : (cl.args.map a.eval).toList with
            | nil => rw [hu] at hall; cases hall
            | cons u us =>
              rw [hu] at hall
              cases hall with
              | cons h1 h2 =>
                cases us with
                | nil => cases h2
                | cons u2 us2 =>
                  cases h2 with
                  | cons h3 h4 =>
                    cases h4
                    have ea : cl.args.map a.eval = #[u, u2] := by apply Array.ext'; simpa using hu
                    exact Yields.runs (run (Builtin.append_ #[t, t'] o.type #[u, u2]) (by rw [et, ea]; rfl)) (opAppendS_run hT hi (by simpa using hp 0 (by decide)) (isStr_spec hT hst) h h1 h3)
          · exact h.elim
      · rename_i t t' x y e1 e2
        have et : cl.argTypes = #[t, t'] := by apply Array.ext'; simpa using e1
        rw [e2, hargs] at hall
        cases hu : (cl.args.map a.eval).toList with
        | nil => rw [hu] at hall; cases hall
        | cons u us =>
          rw [hu] at hall
          cases hall with
          | cons h1 h2 =>
            cases us with
            | nil => cases h2
            | cons u2 us2 =>
              cases h2 with
              | cons h3 h4 =>
                cases h4
                have ea : cl.args.map a.eval = #[u, u2] := by apply Array.ext'; simpa using hu
                exact Yields.runs (run (Builtin.copy_ #[t, t'] o.type #[u, u2]) (by rw [et, ea]; rfl)) (opCopy_run hT hi h h1 h3)
      · exact Yields.runs (run (Builtin.max_ cl.argTypes o.type (cl.args.map a.eval)) rfl) (opMax_run hT hi h (by rw [← hargs]; exact hall))
      · exact Yields.runs (run (Builtin.min_ cl.argTypes o.type (cl.args.map a.eval)) rfl) (opMin_run hT hi h (by rw [← hargs]; exact hall))
      · exact h.elim
    | value f =>
      rw [hc] at h hp
      have clo : ∀ x, f = x → (opClo cx c.heap (cx.eval env x) (cl.args.toList.map (cx.eval env)) tgt).wp k → Yields P o a c.w (Done c k) := by
        rintro x rfl hh
        unfold opClo at hh
        split at hh
        · rename_i f' he'
          split at hh
          · rename_i hn0
            have hv := ev f
            rw [he'] at hv
            obtain ⟨fs, ws, hv1, r1, r2⟩ := hv
            have ef : fs = #[] := by cases h0 : fs.toList with
              | nil => apply Array.ext'; simpa using h0
              | cons _ _ => rw [h0] at r1; cases r1
            have ew : ws = #[] := by cases h0 : ws.toList with
              | nil => apply Array.ext'; simpa using h0
              | cons _ _ => rw [h0] at r2; cases r2
            subst ef; subst ew
            exact opCall_yields' hx hi hg he hop hc hv1 (fun i hi' => by
              unfold conN0 at hn0
              split at hn0
              · rename_i con hcon
                rw [hcon] at hi'
                rw [Bool.and_eq_true] at hn0
                have : con.n = 0 := by simpa using hn0.1
                simp only at hi'; omega
              · cases hn0) hh
          · exact hh.elim
        · exact hh.elim
      cases f with
      | func f => exact opCall_yields hx hi hg he hop hc hp h
      | tmp t => exact clo _ rfl h
      | const v => exact clo _ rfl h
      | global g => exact clo _ rfl h
    | invoke => rw [hc] at h; exact h.elim
  all_goals exact h.elim
end

/-! ### Regions in the order of the text -/

structure St where
  env : List EV
  heap : List HObj

def putE (env : List EV) (d : Option Tmp) (v : EV) : List EV := match d with
  | some t => env.set t v
  | none => env

/-- Nothing has turned but the slots D. -/
structure Kp (D : List Nat) (a a' : Act) : Prop where
  defers : a'.defers = a.defers
  size : a'.tmps.size = a.tmps.size
  get : ∀ t, t ∉ D → a'.tmps[t]? = a.tmps[t]?

theorem Kp.refl {D : List Nat} {a : Act} : Kp D a a := ⟨rfl, rfl, fun _ _ => rfl⟩
theorem Kp.trans {D : List Nat} {a b c : Act} (h : Kp D b c) (h' : Kp D a b) : Kp D a c := ⟨h.defers.trans h'.defers, h.size.trans h'.size, fun t ht => (h.get t ht).trans (h'.get t ht)⟩
theorem Kp.put {D : List Nat} {a : Act} {d : Option Tmp} {v : Value} (hd : ∀ t, d = some t → t ∈ D) : Kp D a (a.put d v) := by
  cases d with
  | none => exact Kp.refl
  | some d =>
    refine ⟨rfl, by simp [Act.put], fun t ht => ?_⟩
    simp only [Act.put, Array.getElem?_setIfInBounds]
    rw [if_neg (fun (e : d = t) => ht (e ▸ hd d rfl))]

/-- The slot of a guard, and what it holds. -/
def guardOf (ops : Array Oper) (env : List EV) (j : Nat) : Option (Tmp × Bool) := match (ops[j]?).bind (·.dst) with
  | some d => match env[d]? with
    | some (.x (.one (.val (.bool b)))) => some (d, b)
    | _ => none
  | none => none

def isUndef : Value → Bool
  | .tuple vs => vs.toList.isEmpty
  | _ => false
theorem isUndef_eq {v : Value} (h : isUndef v = true) : v = undef := by
  unfold isUndef at h
  split at h
  · rename_i vs
    obtain ⟨l⟩ := vs
    cases l with
    | nil => rfl
    | cons x l => simp at h
  · cases h
/-- What stands in the slot of an operation that was passed over. -/
def EV.skip : EV := .val undef
/-- Was the guard itself passed over? -/
def gone (ops : Array Oper) (env : List EV) (j : Nat) : Bool := match (ops[j]?).bind (·.dst) with
  | some d => match env[d]? with
    | some (.x (.one (.val v))) => isUndef v
    | _ => false
  | none => false

/-- A call that is walked in place. -/
abbrev CallEv := FuncId → List EV → List HObj → (EV → List HObj → Prop) → Prop

def inlOf (cx : Cx) (inl : FuncId → Bool) (env : List EV) (o : Oper) : Option (FuncId × List EV) := match o.op with
  | .call cl => match cl.callee with
    | .value x => match cx.eval env x with
      | .x (.one (.clo f first caps)) => if inl f then some (f, first.map LV.ev ++ (cl.args.toList.map (cx.eval env) ++ caps.map LV.ev)) else none
      | _ => none
    | _ => none
  | _ => none

def pendKept : List HObj → List HObj → Bool
  | [], _ => true
  | .pend :: h, .pend :: h' => pendKept h h'
  | .pend :: _, _ => false
  | .dead :: h, _ :: h' => pendKept h h'
  | .box .. :: h, _ :: h' => pendKept h h'
  | .row .. :: h, _ :: h' => pendKept h h'
  | _ :: _, [] => false

/-- A truth gets a name of its own. -/
def Res.name : Res → Res
  | .ret (.x (.one (.val (.bool b)))) us => .all Bool (fun t => t = b) ⟨b, rfl⟩ fun t => .ret (.x (.one (.val (.bool t)))) us
  | .ask p f => .ask p fun h => (f h).name
  | .all α p ne f => .all α p ne fun a => (f a).name
  | r => r
theorem Res.name_wp {k : EV → List (Nat × HObj) → Prop} : ∀ {r : Res}, r.name.wp k → r.wp k
  | .fail, h => h
  | .br _ _ _, h => h
  | .ask p f, ⟨q, h⟩ => ⟨q, Res.name_wp (r := f q) h⟩
  | .all _ _ _ f, h => fun a ha => Res.name_wp (r := f a) (h a ha)
  | .ret ev us, h => by
    unfold Res.name at h
    split at h
    · rename_i e; cases e; exact h _ rfl
    · rename_i e; cases e
    · rename_i e; cases e
    · exact h

/-- Comparisons, and calls. -/
def nameable (o : Oper) : Bool := match o.op with
  | .binOp .. | .call _ => true
  | _ => false
def aopN (nm : Bool) (cx : Cx) (o : Oper) (env : List EV) (h : List HObj) (tgt : Nat) : Res := match nm, nameable o with
  | true, true => (aop cx o env h tgt).name
  | _, _ => aop cx o env h tgt
theorem Res.name_iff {k : EV → List (Nat × HObj) → Prop} : ∀ {r : Res}, r.name.wp k ↔ r.wp k
  | .fail => Iff.rfl
  | .br _ _ _ => Iff.rfl
  | .ask p f => ⟨fun ⟨q, h⟩ => ⟨q, (Res.name_iff (r := f q)).1 h⟩, fun ⟨q, h⟩ => ⟨q, (Res.name_iff (r := f q)).2 h⟩⟩
  | .all _ _ _ f => ⟨fun h a ha => (Res.name_iff (r := f a)).1 (h a ha), fun h a ha => (Res.name_iff (r := f a)).2 (h a ha)⟩
  | .ret ev us => by
    unfold Res.name
    split
    · rename_i e; cases e; exact ⟨fun h => h _ rfl, fun h t ht => by subst ht; exact h⟩
    · rename_i e; cases e
    · rename_i e; cases e
    · exact Iff.rfl
theorem aopN_iff {nm : Bool} {cx : Cx} {o : Oper} {env : List EV} {h : List HObj} {tgt : Nat} {k : EV → List (Nat × HObj) → Prop} : (aopN nm cx o env h tgt).wp k ↔ (aop cx o env h tgt).wp k := by
  unfold aopN
  split
  · exact Res.name_iff
  · exact Iff.rfl
theorem aopN_wp {nm : Bool} {cx : Cx} {o : Oper} {env : List EV} {h : List HObj} {tgt : Nat} {k : EV → List (Nat × HObj) → Prop} (hk : (aopN nm cx o env h tgt).wp k) : (aop cx o env h tgt).wp k := by
  unfold aopN at hk
  split at hk
  · exact Res.name_wp hk
  · exact hk

structure Wk where
  inl : FuncId → Bool
  named : Bool

def stepOp (cx : Cx) (wk : Wk) (call : CallEv) (o : Oper) (env : List EV) (h : List HObj) (tgt : Nat) (k : EV → List HObj → Prop) : Prop := match inlOf cx wk.inl env o with
  | some fa => call fa.1 fa.2 h fun v h' => if pendKept h h' then k v h' else False
  | none => (aopN wk.named cx o env h tgt).wp fun ev us => k ev (applyU h us)

def runOps (cx : Cx) (wk : Wk) (call : CallEv) (ops : Array Oper) : List Oper → List EV → List HObj → Nat → (List EV → List HObj → Prop) → Prop
  | [], env, h, _, k => k env h
  | o :: l, env, h, tgt, k => match o.guard with
    | none => stepOp cx wk call o env h tgt fun ev h' => runOps cx wk call ops l (putE env o.dst ev) h' (tgt + nAlloc cx o) k
    | some (j, want) => match guardOf ops env j with
      | none => if gone ops env j then runOps cx wk call ops l (putE env o.dst .skip) h (tgt + nAlloc cx o) k else False
      | some (d, b) => Br b
        (if want then stepOp cx wk call o (env.set d (.val (.bool true))) h tgt fun ev h' => runOps cx wk call ops l (putE (env.set d (.val (.bool true))) o.dst ev) h' (tgt + nAlloc cx o) k
         else runOps cx wk call ops l (putE (env.set d (.val (.bool true))) o.dst .skip) h (tgt + nAlloc cx o) k)
        (if want then runOps cx wk call ops l (putE (env.set d (.val (.bool false))) o.dst .skip) h (tgt + nAlloc cx o) k
         else stepOp cx wk call o (env.set d (.val (.bool false))) h tgt fun ev h' => runOps cx wk call ops l (putE (env.set d (.val (.bool false))) o.dst ev) h' (tgt + nAlloc cx o) k)

def allocs (cx : Cx) (l : List Oper) : Nat := (l.map (nAlloc cx)).sum

theorem EnvRel.put {c : RC} {env : List EV} {a : Act} (h : EnvRel c env a.tmps) (d : Option Tmp) {ev : EV} {v : Value} (r : ev.rel c v) : EnvRel c (putE env d ev) (a.put d v).tmps := by
  cases d with
  | none => exact h
  | some t =>
    refine ⟨by simp [putE, Act.put, h.1], fun i e hi => ?_⟩
    simp only [putE] at hi
    simp only [Act.put, Array.getElem?_setIfInBounds]
    rcases set_get hi with ⟨rfl, rfl, hl⟩ | ⟨hne, hi⟩
    · rw [if_pos rfl, if_pos (by rw [← h.1]; exact hl)]; exact ⟨v, rfl, r⟩
    · rw [if_neg hne]; exact h.2 i e hi

theorem EnvRel.refine {c : RC} {env : List EV} {tmps : Array Value} (h : EnvRel c env tmps) {d : Nat} {ev ev' : EV} (hd : env[d]? = some ev) (hr : ∀ v, ev.rel c v → ev'.rel c v) : EnvRel c (env.set d ev') tmps := by
  refine ⟨by simp [h.1], fun i e hi => ?_⟩
  rcases set_get hi with ⟨rfl, rfl, _⟩ | ⟨_, hi⟩
  · obtain ⟨v, h1, h2⟩ := h.2 _ _ hd; exact ⟨v, h1, hr v h2⟩
  · exact h.2 i e hi

theorem guardOf_some {c : RC} {ops : Array Oper} {env : List EV} {a : Act} {j : Nat} {d : Tmp} {b : Bool} (he : EnvRel c env a.tmps) (h : guardOf ops env j = some (d, b)) :
    env[d]? = some (.val (.bool b)) ∧ yielded ops a.tmps j = some b := by
  unfold guardOf at h
  split at h
  · rename_i d' hd
    split at h
    · rename_i b' hb
      cases h
      refine ⟨hb, ?_⟩
      obtain ⟨v, h1, h2⟩ := he.2 _ _ hb
      obtain rfl : v = .bool b := h2
      unfold yielded
      rw [hd]
      simp [h1]
    · cases h
  · cases h

theorem gone_spec {c : RC} {ops : Array Oper} {env : List EV} {a : Act} {j : Nat} (he : EnvRel c env a.tmps) (h : gone ops env j = true) : yielded ops a.tmps j = none := by
  unfold gone at h
  split at h
  · rename_i d hd
    split at h
    · rename_i v hv
      obtain ⟨u, h1, h2⟩ := he.2 _ _ hv
      obtain rfl : u = undef := by rw [show u = v from h2]; exact isUndef_eq h
      unfold yielded
      rw [hd]
      simp [h1, undef]
    · cases h
  · cases h

theorem pendKept_spec : ∀ {h h' : List HObj}, pendKept h h' = true → ∀ i : Nat, h[i]? = some HObj.pend → h'[i]? = some HObj.pend
  | [], _, _, i, hi => by simp at hi
  | .pend :: h, .pend :: h', hk, i, hi => by
    cases i with
    | zero => rfl
    | succ i => exact pendKept_spec (h := h) (h' := h') hk i (by simpa using hi)
  | .dead :: h, _ :: h', hk, i, hi => by
    cases i with
    | zero => simp at hi
    | succ i => exact pendKept_spec (h := h) (h' := h') hk i (by simpa using hi)
  | .box .. :: h, _ :: h', hk, i, hi => by
    cases i with
    | zero => simp at hi
    | succ i => exact pendKept_spec (h := h) (h' := h') hk i (by simpa using hi)
  | .row .. :: h, _ :: h', hk, i, hi => by
    cases i with
    | zero => simp at hi
    | succ i => exact pendKept_spec (h := h) (h' := h') hk i (by simpa using hi)
  | .pend :: _, .dead :: _, hk, _, _ => by cases hk
  | .pend :: _, .box .. :: _, hk, _, _ => by cases hk
  | .pend :: _, .row .. :: _, hk, _, _ => by cases hk
  | .pend :: _, [], hk, _, _ => by cases hk
  | .dead :: _, [], hk, _, _ => by cases hk
  | .box .. :: _, [], hk, _, _ => by cases hk
  | .row .. :: _, [], hk, _, _ => by cases hk

theorem LV.ev_rel {c : RC} : ∀ {s : LV} {u : Value}, s.rel c u → s.ev.rel c u
  | .val _, _, r => r
  | .ref _ _, _, r => r
  | .data _ _, _, r => r
theorem LV.evs_rel {c : RC} {l : List LV} {us : List Value} (h : All2 (LV.rel c) l us) : All2 (EV.rel c) (l.map LV.ev) us := by
  induction h with
  | nil => exact .nil
  | cons h1 _ ih => exact .cons (LV.ev_rel h1) ih

/-- What is asked of calls that are walked in place. -/
def CallOk (P : Program) (cx : Cx) (call : CallEv) : Prop := ∀ (c : RC) (_ : c.Inv) (_ : GOk cx.glob c) {f : FuncId} {args : List EV} {vs : List Value} {k : EV → List HObj → Prop}, All2 (EV.rel c) args vs → call f args c.heap k →
  CallSpec P f vs.toArray c.w fun v w' => ∃ ev c', k ev c'.heap ∧ c'.w = w' ∧ Ext c c' ∧ c'.Inv ∧ ev.rel c' v

def noCall : CallEv := fun _ _ _ _ => False
theorem noCall_ok {P : Program} {cx : Cx} : CallOk P cx noCall := fun _ _ _ _ _ _ _ _ h => h.elim

theorem inlOf_some {cx : Cx} {inl : FuncId → Bool} {env : List EV} {o : Oper} {fa : FuncId × List EV} (h : inlOf cx inl env o = some fa) : ∃ cl x f first caps, o.op = .call cl ∧ cl.callee = .value x ∧ cx.eval env x = .x (.one (.clo f first caps)) ∧
    fa = (f, first.map LV.ev ++ (cl.args.toList.map (cx.eval env) ++ caps.map LV.ev)) := by
  unfold inlOf at h
  split at h
  · rename_i cl ho
    split at h
    · rename_i x hx
      split at h
      · rename_i f first caps he
        split at h
        · cases h; exact ⟨cl, x, f, first, caps, ho, hx, he, rfl⟩
        · cases h
      · cases h
    · cases h
  · cases h

theorem inl_yields {P : Program} {cx : Cx} {call : CallEv} (hcall : CallOk P cx call) {c : RC} (hi : c.Inv) (hg : GOk cx.glob c) {env : List EV} {a : Act} (he : EnvRel c env a.tmps) {inl : FuncId → Bool} {o : Oper} {fa : FuncId × List EV} (h : inlOf cx inl env o = some fa)
    {k : EV → List HObj → Prop} (hk : call fa.1 fa.2 c.heap k) : Yields P o a c.w fun v w' => ∃ ev c', k ev c'.heap ∧ c'.w = w' ∧ Ext c c' ∧ c'.Inv ∧ ev.rel c' v := by
  obtain ⟨cl, x, f, first, caps, ho, hx, hev, rfl⟩ := inlOf_some h
  have hr := eval_rel hg he x
  rw [hev] at hr
  obtain ⟨fs, ws, hv, r1, r2⟩ := hr
  have hall : All2 (EV.rel c) (first.map LV.ev ++ (cl.args.toList.map (cx.eval env) ++ caps.map LV.ev)) (fs.toList ++ (cl.args.toList.map a.eval ++ ws.toList)) :=
    All2.append (LV.evs_rel r1) (All2.append (evals_rel hg he cl.args.toList) (LV.evs_rel r2))
  have hs := hcall c hi hg hall hk
  have hargs : (fs.toList ++ (cl.args.toList.map a.eval ++ ws.toList)).toArray = fs ++ cl.args.map a.eval ++ ws := by apply Array.ext'; simp
  rw [hargs] at hs
  have hrun : (execOp a.eval o).run P c.w = (callFunc f (fs ++ cl.args.map a.eval ++ ws)).run P c.w := by
    simp [execOp, ho, resolve, hx, hv, Deferred.ofValue, invoke]
  intro next Q hn
  unfold Oper.wp
  rw [hrun]
  rcases hs with ⟨v, w', h1, h2⟩ | ⟨h1, h2⟩
  · rw [h1]; exact hn v w' h2
  · rw [h1]
    refine h2.mono fun e w' ⟨v, e1, h3⟩ => ?_
    subst e1
    exact hn v w' h3

theorem Ext.pend_keep {c c' : RC} {us : List (Nat × HObj)} {tgt n m i : Nat} (hh : c'.heap = applyU c.heap us) (ht : Touch c.heap tgt n us) (hp : c.heap[tgt + n + i]? = some .pend) : c'.heap[tgt + n + i]? = some .pend := by
  rw [hh, applyU_ne _ _ _ (fun u hu => ?_)]
  · exact hp
  · rcases ht u hu with h | ⟨o, h1, h2⟩
    · omega
    · intro e; rw [e, hp] at h1; cases h1; exact h2 rfl

section
variable {P : Program} {cx : Cx} (hx : CxOk P cx) {wk : Wk} {call : CallEv} (hcall : CallOk P cx call)
include hx hcall

theorem runOps_sound (ops : Array Oper) {D : List Nat} : ∀ (l : List Oper) (n : Nat) (hl : ops.toList.drop n = l) (hD : ∀ o ∈ l, ∀ t, o.dst = some t → t ∈ D) {c : RC} (hi : c.Inv) {env : List EV} {a : Act} (hg : GOk cx.glob c) (he : EnvRel c env a.tmps) {tgt : Nat} {k : List EV → List HObj → Prop}
    (hp : ∀ i, i < allocs cx l → c.heap[tgt + i]? = some .pend) (h : runOps cx wk call ops l env c.heap tgt k) {Q : Exit → Act → World → Prop}
    (hq : ∀ (c' : RC) (env' : List EV) (a' : Act), k env' c'.heap → Ext c c' → c'.Inv → EnvRel c' env' a'.tmps → Kp D a a' → Q .normal a' c'.w), wpOps P ops Q (List.range' n l.length) a c.w
  | [], n, hl, hD, c, hi, env, a, hg, he, tgt, k, hp, h, Q, hq => hq c env a h (Ext.refl c) hi he Kp.refl
  | o :: l, n, hl, hD, c, hi, env, a, hg, he, tgt, k, hp, h, Q, hq => by
    have ho : ops[n]? = some o := by
      have h0 := congrArg (fun l => l[0]?) hl
      rw [List.getElem?_drop] at h0
      simpa using h0
    have hl' : ops.toList.drop (n + 1) = l := by
      have h1 := congrArg List.tail hl
      rw [List.tail_drop] at h1
      simpa using h1
    have hsum : allocs cx (o :: l) = nAlloc cx o + allocs cx l := by simp [allocs]
    simp only [List.length_cons, List.range'_succ, wpOps, ho]
    -- carry on behind this operation
    have done : ∀ (env1 : List EV), EnvRel c env1 a.tmps → stepOp cx wk call o env1 c.heap tgt (fun ev h' => runOps cx wk call ops l (putE env1 o.dst ev) h' (tgt + nAlloc cx o) k) →
        o.wp P a c.w (wpOps P ops Q (List.range' (n + 1) l.length)) Q := by
      intro env1 he1 hw
      unfold stepOp at hw
      split at hw
      · rename_i fa hfa
        refine inl_yields hcall hi hg he1 hfa hw _ Q fun v w' hd => ?_
        obtain ⟨ev, c', hk, rfl, hext, hinv, hrel⟩ := hd
        split at hk
        · rename_i hpk
          refine runOps_sound ops l (n + 1) hl' (fun o ho => hD o (List.mem_cons_of_mem _ ho)) hinv (GOk.mono hg hext) (EnvRel.put (EnvRel.mono he1 hext) o.dst hrel) (fun i hi' => ?_) hk (fun c2 env2 a2 h1 h2 h3 h4 h5 => hq c2 env2 a2 h1 (hext.trans h2) h3 h4 (h5.trans (Kp.put (hD o List.mem_cons_self))))
          exact pendKept_spec hpk _ (by have := hp (nAlloc cx o + i) (by omega); rwa [← Nat.add_assoc] at this)
        · exact hk.elim
      have hw' := Res.wp_all (aop_touch cx o env1 c.heap tgt) (aopN_wp hw)
      refine aop_sound hx hi hg he1 o tgt (fun i hi' => hp i (by omega)) hw' _ Q fun v w' hd => ?_
      obtain ⟨ev, us, c', ⟨hk, ht⟩, rfl, hh, hext, hinv, hrel⟩ := hd
      rw [← hh] at hk
      refine runOps_sound ops l (n + 1) hl' (fun o ho => hD o (List.mem_cons_of_mem _ ho)) hinv (GOk.mono hg hext) (EnvRel.put (EnvRel.mono he1 hext) o.dst hrel) (fun i hi' => ?_) hk (fun c2 env2 a2 h1 h2 h3 h4 h5 => hq c2 env2 a2 h1 (hext.trans h2) h3 h4 (h5.trans ?_))
      · exact Ext.pend_keep (m := 0) hh ht (by have := hp (nAlloc cx o + i) (by omega); rwa [← Nat.add_assoc] at this)
      · exact Kp.put (hD o List.mem_cons_self)
    have skip : ∀ (env1 : List EV), EnvRel c env1 a.tmps → runOps cx wk call ops l (putE env1 o.dst .skip) c.heap (tgt + nAlloc cx o) k → wpOps P ops Q (List.range' (n + 1) l.length) (a.put o.dst undef) c.w := by
      intro env1 he1 hw
      refine runOps_sound ops l (n + 1) hl' (fun o ho => hD o (List.mem_cons_of_mem _ ho)) hi hg (EnvRel.put he1 o.dst (ev := .skip) rfl) (fun i hi' => ?_) hw (fun c2 env2 a2 h1 h2 h3 h4 h5 => hq c2 env2 a2 h1 h2 h3 h4 (h5.trans ?_))
      · have := hp (nAlloc cx o + i) (by omega); rwa [← Nat.add_assoc] at this
      · exact Kp.put (hD o List.mem_cons_self)
    simp only [runOps] at h
    cases hgd : o.guard with
    | none =>
      rw [hgd] at h
      have : Region.wanted o (yielded ops a.tmps) = true := by simp [Region.wanted, hgd]
      rw [if_pos this]
      exact .inl (done env he h)
    | some jw =>
      obtain ⟨j, want⟩ := jw
      rw [hgd] at h
      simp only at h
      split at h
      · split at h
        · rename_i hgn
          have hw : Region.wanted o (yielded ops a.tmps) = false := by simp [Region.wanted, hgd, gone_spec he hgn]
          rw [if_neg (by rw [hw]; simp)]
          exact skip _ he h
        · exact h.elim
      · rename_i d b hgo
        obtain ⟨hd, hy⟩ := guardOf_some he hgo
        have hw : Region.wanted o (yielded ops a.tmps) = (b == want) := by simp [Region.wanted, hgd, hy]
        cases b with
        | true =>
          have he1 := EnvRel.refine he hd (ev' := .val (.bool true)) (fun v r => r)
          have h' := Br.true h rfl
          cases want with
          | true => rw [if_pos (by rw [hw]; rfl)]; exact .inl (done _ he1 h')
          | false => rw [if_neg (by rw [hw]; simp)]; exact skip _ he1 h'
        | false =>
          have he1 := EnvRel.refine he hd (ev' := .val (.bool false)) (fun v r => r)
          have h' := Br.false h rfl
          cases want with
          | true => rw [if_neg (by rw [hw]; simp)]; exact skip _ he1 h'
          | false => rw [if_pos (by rw [hw]; rfl)]; exact .inl (done _ he1 h')
end
end Go.Lift

/- Regions that draw their order: the order of the text serves. First: what an operation looks at. Own work. -/
set_option linter.unusedVariables false
set_option linter.unusedSimpArgs false
set_option linter.unusedSectionVars false
namespace Go.Lift

def SV.ids : SV → List Nat
  | .osl id _ _ | .ref id _ | .eref id _ _ => [id]
  | _ => []
def XV.ids : XV → List Nat
  | .one s => s.ids
  | .agg cs => cs.flatMap SV.ids
  | .dat _ _ => []
def EV.ids : EV → List Nat
  | .x v => v.ids
  | .tup vs => vs.flatMap XV.ids

/-- Two heaps are the same at these. -/
def Same (h h' : List HObj) (l : List Nat) : Prop := ∀ id ∈ l, h[id]? = h'[id]?

theorem Same.left {h h' : List HObj} {a b : List Nat} (s : Same h h' (a ++ b)) : Same h h' a := fun id hi => s id (List.mem_append_left _ hi)
theorem Same.right {h h' : List HObj} {a b : List Nat} (s : Same h h' (a ++ b)) : Same h h' b := fun id hi => s id (List.mem_append_right _ hi)

section
variable {h h' : List HObj}

theorem SV.isOne_congr {s : SV} (H : Same h h' s.ids) : s.isOne h = s.isOne h' := by
  cases s <;> first | rfl | (have := H _ (List.mem_singleton.2 rfl); simp only [SV.isOne, this])

theorem SV.take_congr {k : K} {s : SV} (H : Same h h' s.ids) : s.take h k = s.take h' k := by
  cases k <;> cases s <;> first | rfl | (have := H _ (List.mem_singleton.2 rfl); simp only [SV.take, this]) | (rename_i v; cases v <;> rfl)

theorem all_congr : ∀ {cs : List SV}, Same h h' (cs.flatMap SV.ids) → cs.all (SV.isOne h) = cs.all (SV.isOne h')
  | [], _ => rfl
  | s :: cs, H => by
    rw [List.flatMap_cons] at H
    rw [List.all_cons, List.all_cons, SV.isOne_congr H.left, all_congr H.right]

theorem take1_congr {k : K} {cs : List SV} (H : Same h h' (cs.flatMap SV.ids)) : take1 h k cs = take1 h' k cs := by
  cases cs with
  | nil => rfl
  | cons s r => rw [List.flatMap_cons] at H; simp only [take1, SV.take_congr H.left]

theorem takeL_mem {h : List HObj} : ∀ (k : K) (cs : List SV) (x : k.T) (r : List SV), k.takeL h cs = some (x, r) → ∃ n, r = cs.drop n := by
  have one : ∀ (k : K) (cs : List SV) (x : k.T) (r : List SV), take1 h k cs = some (x, r) → ∃ n, r = cs.drop n := by
    intro k cs x r hh
    cases cs with
    | nil => cases hh
    | cons s r' =>
      simp only [take1] at hh
      split at hh
      · obtain ⟨_, rfl⟩ := Prod.mk.inj (Option.some.inj hh); exact ⟨1, rfl⟩
      · cases hh
  intro k
  induction k with
  | unit => intro cs x r hh; obtain ⟨_, rfl⟩ := Prod.mk.inj (Option.some.inj hh); exact ⟨0, rfl⟩
  | pair a b iha ihb =>
    intro cs x r hh
    simp only [K.takeL] at hh
    split at hh
    · rename_i x1 r1 h1
      split at hh
      · rename_i x2 r2 h2
        obtain ⟨_, rfl⟩ := Prod.mk.inj (Option.some.inj hh)
        obtain ⟨n, rfl⟩ := iha _ _ _ h1
        obtain ⟨m, rfl⟩ := ihb _ _ _ h2
        exact ⟨n + m, by rw [List.drop_drop]⟩
      · cases hh
    · cases hh
  | arr n e ih =>
    have many : ∀ (n : Nat) (cs : List SV) (xs : List e.T) (r : List SV), takeN (e.takeL h) n cs = some (xs, r) → ∃ m, r = cs.drop m := by
      intro n
      induction n with
      | zero => intro cs xs r hh; obtain ⟨_, rfl⟩ := Prod.mk.inj (Option.some.inj hh); exact ⟨0, rfl⟩
      | succ n ihn =>
        intro cs xs r hh
        simp only [takeN] at hh
        split at hh
        · rename_i x r1 h1
          split at hh
          · rename_i xs1 r2 h2
            obtain ⟨_, rfl⟩ := Prod.mk.inj (Option.some.inj hh)
            obtain ⟨n1, rfl⟩ := ih _ _ _ h1
            obtain ⟨m, rfl⟩ := ihn _ _ _ h2
            exact ⟨n1 + m, by rw [List.drop_drop]⟩
          · cases hh
        · cases hh
    exact fun cs x r hh => many n cs x r hh
  | int ik => exact one (.int ik)
  | bool => exact one .bool
  | flt fk => exact one (.flt fk)
  | slice e _ => exact one (.slice e)
  | ptr e _ => exact one (.ptr e)

theorem Same.drop {cs : List SV} (H : Same h h' (cs.flatMap SV.ids)) (n : Nat) : Same h h' ((cs.drop n).flatMap SV.ids) := by
  intro id hid
  obtain ⟨s, hs, hi⟩ := List.mem_flatMap.1 hid
  exact H id (List.mem_flatMap.2 ⟨s, List.mem_of_mem_drop hs, hi⟩)

theorem K.takeL_congr : ∀ (k : K) {cs : List SV}, Same h h' (cs.flatMap SV.ids) → k.takeL h cs = k.takeL h' cs := by
  intro k
  induction k with
  | unit => intro cs H; rfl
  | pair a b iha ihb =>
    intro cs H
    simp only [K.takeL, ← iha H]
    split
    · rename_i x r h1
      obtain ⟨n, rfl⟩ := takeL_mem _ _ _ _ h1
      rw [ihb (H.drop n)]
    · rfl
  | arr n e ih =>
    intro cs H
    show takeN (e.takeL h) n cs = takeN (e.takeL h') n cs
    induction n generalizing cs with
    | zero => rfl
    | succ n ihn =>
      simp only [takeN, ← ih H]
      split
      · rename_i x r h1
        obtain ⟨m, rfl⟩ := takeL_mem _ _ _ _ h1
        rw [ihn (H.drop m)]
      · rfl
  | int ik => exact fun H => take1_congr H
  | bool => exact fun H => take1_congr H
  | flt fk => exact fun H => take1_congr H
  | slice e _ => exact fun H => take1_congr H
  | ptr e _ => exact fun H => take1_congr H

theorem XV.take_congr {k : K} {v : XV} (H : Same h h' v.ids) : v.take h k = v.take h' k := by
  cases v with
  | one s => simp only [XV.take, SV.take_congr (show Same h h' s.ids from H)]
  | agg cs => simp only [XV.take, K.takeL_congr k (show Same h h' (cs.flatMap SV.ids) from H)]
  | dat k' x => rfl

theorem K.cells_ids : ∀ (k : K) (x : k.T) (s : SV), s ∈ k.cells x → s.ids = [] := by
  intro k
  induction k with
  | unit => intro x s hs; cases hs
  | pair a b iha ihb =>
    intro x s hs
    rcases List.mem_append.1 hs with hs | hs
    · exact iha _ s hs
    · exact ihb _ s hs
  | arr n e ih =>
    intro x s hs
    have key : ∀ (n i : Nat), s ∈ arrC e.cells e.dflt x i n → ∃ y, s ∈ e.cells y := by
      intro n
      induction n with
      | zero => intro i hs; cases hs
      | succ n ihn =>
        intro i hs
        simp only [arrC, List.mem_append] at hs
        rcases hs with hs | hs
        · exact ⟨_, hs⟩
        · exact ihn _ hs
    obtain ⟨y, hy⟩ := key n 0 hs
    exact ih y s hy
  | _ => intro x s hs; obtain rfl := List.mem_singleton.1 hs; rfl

theorem takes_congr : ∀ (ks : List K) {vs : List XV}, Same h h' (vs.flatMap XV.ids) → takes h ks vs = takes h' ks vs
  | [], [], _ => rfl
  | [], _ :: _, _ => rfl
  | _ :: _, [], _ => rfl
  | k :: ks, v :: vs, H => by
    rw [List.flatMap_cons] at H
    simp only [takes, XV.take_congr H.left, takes_congr ks H.right]

theorem takeAll_congr {k : K} : ∀ {vs : List EV}, Same h h' (vs.flatMap EV.ids) → takeAll h k vs = takeAll h' k vs
  | [], _ => rfl
  | .x v :: vs, H => by
    rw [List.flatMap_cons] at H
    simp only [takeAll, XV.take_congr (show Same h h' v.ids from H.left), takeAll_congr H.right]
  | .tup _ :: vs, _ => rfl

theorem Same.set {l : List Nat} (H : Same h h' l) (i : Nat) (o : HObj) : Same (h.set i o) (h'.set i o) l := by
  intro id hid
  have e := H id hid
  by_cases hi : i = id
  · subst hi
    rw [List.getElem?_set, List.getElem?_set, if_pos rfl, if_pos rfl]
    have a : i < h.length ↔ i < h'.length := by
      constructor
      · intro q
        rcases Nat.lt_or_ge i h'.length with g | g
        · exact g
        · rw [List.getElem?_eq_none g, List.getElem?_eq_getElem q] at e; cases e
      · intro q
        rcases Nat.lt_or_ge i h.length with g | g
        · exact g
        · rw [List.getElem?_eq_none g, List.getElem?_eq_getElem q] at e; cases e
    by_cases q : i < h.length
    · rw [if_pos q, if_pos (a.1 q)]
    · rw [if_neg q, if_neg (fun g => q (a.2 g))]
  · rw [set_ne hi, set_ne hi, e]
theorem Same.applyU {l : List Nat} : ∀ (us : List (Nat × HObj)) {h h' : List HObj}, Same h h' l → Same (Lift.applyU h us) (Lift.applyU h' us) l
  | [], _, _, H => H
  | u :: us, _, _, H => Same.applyU us (H.set u.1 u.2)
def hz1 : HObj → HObj
  | .box .fz t cs => .box .fz t cs
  | .row .fz t e xs => .row .fz t e xs
  | _ => .dead
theorem hz_map : ∀ h : List HObj, hz h = h.map hz1
  | [] => rfl
  | x :: h => by
    unfold hz
    split <;> rename_i e <;> cases e
    · rw [List.map_cons, hz_map]; rfl
    · rw [List.map_cons, hz_map]; rfl
    · rename_i y h1 h2
      rw [List.map_cons, hz_map]
      congr 1
      unfold hz1
      split
      · rename_i t cs; exact absurd rfl (h1 t cs)
      · rename_i t e xs; exact absurd rfl (h2 t e xs)
      · rfl
theorem Same.hz {l : List Nat} (H : Same h h' l) : Same (Lift.hz h) (Lift.hz h') l := by
  intro id hid
  rw [hz_map, hz_map, List.getElem?_map, List.getElem?_map, H id hid]
theorem SV.fz_congr {s : SV} (H : Same h h' s.ids) : s.fz h = s.fz h' := by
  cases s with
  | osl id off len => have := H _ (List.mem_singleton.2 rfl); simp only [SV.fz, this]
  | _ => rfl
theorem fzs_congr : ∀ {cs : List SV}, Same h h' (cs.flatMap SV.ids) → fzs h cs = fzs h' cs
  | [], _ => rfl
  | s :: cs, H => by
    rw [List.flatMap_cons] at H
    simp only [fzs, SV.fz_congr H.left, fzs_congr H.right]
theorem XV.fz_congr {v : XV} (H : Same h h' v.ids) : v.fz h = v.fz h' := by
  cases v with
  | one s => exact SV.fz_congr H
  | agg cs => exact fzs_congr H
  | dat k x => rfl
theorem fzx_congr : ∀ {vs : List XV}, Same h h' (vs.flatMap XV.ids) → fzx h vs = fzx h' vs
  | [], _ => rfl
  | v :: vs, H => by
    rw [List.flatMap_cons] at H
    simp only [fzx, XV.fz_congr H.left, fzx_congr H.right]
theorem fze_congr : ∀ {vs : List EV}, Same h h' (vs.flatMap EV.ids) → fze h vs = fze h' vs
  | [], _ => rfl
  | .x v :: vs, H => by
    rw [List.flatMap_cons] at H
    have H1 : Same h h' v.ids := H.left
    simp only [fze, XV.fz_congr H1, fze_congr H.right]
  | .tup _ :: vs, H => by
    rw [List.flatMap_cons] at H
    simp only [fze, fze_congr H.right]

theorem XV.cells_congr {v : XV} (H : Same h h' v.ids) : v.cells h = v.cells h' := by
  cases v with
  | one s => simp only [XV.cells, SV.isOne_congr (show Same h h' s.ids from H)]
  | agg cs => simp only [XV.cells, all_congr (show Same h h' (cs.flatMap SV.ids) from H)]
  | dat k x =>
    have e : (k.cells x).all (SV.isOne h) = (k.cells x).all (SV.isOne h') := by
      refine all_congr ?_
      intro id hid
      obtain ⟨s, hs, hi⟩ := List.mem_flatMap.1 hid
      exact absurd hi (by rw [K.cells_ids k x s hs]; simp)
    simp only [XV.cells, e]

variable {cx : Cx} {tgt : Nat}

theorem opLen_congr {t : TypeId} {v : EV} (H : Same h h' v.ids) : opLen cx h t v = opLen cx h' t v := by
  unfold opLen
  split
  · cases v with
    | tup _ => first | rfl | ((repeat' split) <;> first | rfl | (simp_all [Same, EV.ids, XV.ids, SV.ids]; done))
    | x v => cases v with
      | one s => cases s <;> first | rfl | (have := H _ (List.mem_singleton.2 rfl); simp only [this]; done) | ((repeat' split) <;> first | rfl | (simp_all [Same, EV.ids, XV.ids, SV.ids]; done))
      | _ => first | rfl | ((repeat' split) <;> first | rfl | (simp_all [Same, EV.ids, XV.ids, SV.ids]; done))
  · rfl
  · rfl

theorem opIndexAddr_congr {t : TypeId} {v i : EV} (H : Same h h' v.ids) : opIndexAddr cx h t v i = opIndexAddr cx h' t v i := by
  unfold opIndexAddr
  split
  · generalize cx.tab _ = q
    cases q with
    | none => rfl
    | some ed => cases v with
      | tup _ => rfl
      | x v => cases v with
        | one s => cases s with
          | osl id off len => have := H _ (List.mem_singleton.2 rfl); simp only [this]
          | data k x => cases k <;> rfl
          | _ => rfl
        | _ => rfl
  · generalize cx.tab _ = q
    cases q with
    | none => rfl
    | some ed => cases v with
      | tup _ => rfl
      | x v => cases v with
        | one s => cases s with
          | ref id off => cases off with
            | zero => have := H _ (List.mem_singleton.2 rfl); simp only [this]
            | succ n => rfl
          | data k x => cases k with
            | ptr e => cases e <;> first | rfl | (cases x <;> rfl)
            | _ => rfl
          | _ => rfl
        | _ => rfl
  · rfl

theorem opFieldAddr_congr {t : TypeId} {v : EV} {f : Nat} (H : Same h h' v.ids) : opFieldAddr cx h t v f = opFieldAddr cx h' t v f := by
  unfold opFieldAddr
  cases v with
  | tup _ => first | rfl | ((repeat' split) <;> first | rfl | (simp_all [Same, EV.ids, XV.ids, SV.ids]; done))
  | x v => cases v with
    | one s => cases s <;> first | rfl | (have := H _ (List.mem_singleton.2 rfl); simp only [this]; done) | ((repeat' split) <;> first | rfl | (simp_all [Same, EV.ids, XV.ids, SV.ids]; done))
    | _ => first | rfl | ((repeat' split) <;> first | rfl | (simp_all [Same, EV.ids, XV.ids, SV.ids]; done))

theorem opLoad_congr {t : TypeId} {v : EV} (H : Same h h' v.ids) : opLoad cx h t v = opLoad cx h' t v := by
  unfold opLoad
  cases v with
  | tup _ => first | rfl | ((repeat' split) <;> first | rfl | (simp_all [Same, EV.ids, XV.ids, SV.ids]; done))
  | x v => cases v with
    | one s => cases s <;> first | rfl | (have := H _ (List.mem_singleton.2 rfl); simp only [this]; done) | ((repeat' split) <;> first | rfl | (simp_all [Same, EV.ids, XV.ids, SV.ids]; done))
    | _ => first | rfl | ((repeat' split) <;> first | rfl | (simp_all [Same, EV.ids, XV.ids, SV.ids]; done))

theorem opStore_congr {t : TypeId} {x v : EV} (H : Same h h' x.ids) (H' : Same h h' v.ids) : opStore cx h t x v = opStore cx h' t x v := by
  unfold opStore
  generalize cx.tab t = q
  cases q with
  | none => rfl
  | some td => cases v with
    | tup _ => rfl
    | x xv =>
      have H2 : Same h h' xv.ids := H'
      have e1 : ∀ k, xv.take h k = xv.take h' k := fun k => XV.take_congr H2
      have e2 : xv.cells h = xv.cells h' := XV.cells_congr H2
      have e3 : xv.fz h = xv.fz h' := XV.fz_congr H2
      have e4 : ∀ k, xv.take (hz (applyU h (xv.fz h'))) k = xv.take (hz (applyU h' (xv.fz h'))) k := fun k => XV.take_congr (Same.hz (Same.applyU _ H2))
      cases x with
      | tup _ => rfl
      | x v => cases v with
        | one s => cases s with
          | ref id off => have := H _ (List.mem_singleton.2 rfl); simp only [this, e1, e2, e3, e4]
          | eref id i off => cases off with
            | zero => have := H _ (List.mem_singleton.2 rfl); simp only [this, e1, e2, e3, e4]
            | succ n => rfl
          | _ => rfl
        | _ => rfl

theorem opBox_congr {t : TypeId} {v : EV} (H : Same h h' v.ids) : opBox cx h t v tgt = opBox cx h' t v tgt := by
  unfold opBox
  generalize cx.tab t = q
  cases q with
  | none => rfl
  | some td => cases v with
    | tup _ => rfl
    | x xv =>
      have H2 : Same h h' xv.ids := H
      simp only [XV.take_congr H2, XV.cells_congr H2]

theorem opBuildSlice_congr {t : TypeId} {n : Nat} {is : List Nat} {vs : List EV} (H : Same h h' (vs.flatMap EV.ids)) : opBuildSlice cx h t n is vs tgt = opBuildSlice cx h' t n is vs tgt := by
  unfold opBuildSlice
  have e4 : ∀ k, takeAll (hz (applyU h (fze h' vs))) k vs = takeAll (hz (applyU h' (fze h' vs))) k vs := fun k => takeAll_congr (Same.hz (Same.applyU _ H))
  simp only [takeAll_congr H, fze_congr H, e4]

theorem opAppend_congr {t : TypeId} {x y : EV} (H : Same h h' x.ids) (H' : Same h h' y.ids) : opAppend cx h t x y tgt = opAppend cx h' t x y tgt := by
  unfold opAppend
  cases y with
  | tup _ => split <;> first | rfl | (rename_i e; cases e)
  | x yv =>
    have H2 : Same h h' yv.ids := H'
    have e1 : ∀ (yu : XV), EV.x yv = EV.x yu → ∀ k, yu.take h k = yu.take h' k := fun yu e k => by cases e; exact XV.take_congr H2
    split
    · split
      · split
        · split
          · split
            · split
              · rw [e1 _ (by assumption)]
              · rfl
            · rfl
          · cases x with
            | tup _ => rfl
            | x v => cases v with
              | one s => cases s with
                | osl id off len => cases off with
                  | zero =>
                    have := H _ (List.mem_singleton.2 rfl)
                    simp only [← this]
                    split
                    · split
                      · rw [e1 _ (by assumption)]
                      · rfl
                    · rfl
                  | succ n => rfl
                | _ => rfl
              | _ => rfl
        · rfl
      · rfl
    · rfl

theorem opAppendS_congr {t : TypeId} {x y : EV} (H : Same h h' x.ids) : opAppendS cx h t x y tgt = opAppendS cx h' t x y tgt := by
  unfold opAppendS
  split
  · split
    · split
      · split
        · rfl
        · cases x with
          | tup _ => rfl
          | x v => cases v with
            | one s => cases s with
              | osl id off len => cases off with
                | zero =>
                  have := H _ (List.mem_singleton.2 rfl)
                  simp only [← this]
                | succ n => rfl
              | _ => rfl
            | _ => rfl
      · rfl
    · rfl
  · rfl
theorem copySrc_congr {ek : K} {y : EV} (H : Same h h' y.ids) : copySrc h ek y = copySrc h' ek y := by
  unfold copySrc
  cases y with
  | tup _ => rfl
  | x yv =>
    have H2 : Same h h' yv.ids := H
    simp only [XV.take_congr H2]
theorem opCopy_congr {t : TypeId} {x y : EV} (H : Same h h' x.ids) (H' : Same h h' y.ids) : opCopy cx h t x y = opCopy cx h' t x y := by
  unfold opCopy
  split
  · rename_i e sz by_ z kd id off len ht
    have H1 : Same h h' [id] := H
    have := H1 id (List.mem_singleton.2 rfl)
    have e1 : ∀ ek, copySrc h ek y = copySrc h' ek y := fun ek => copySrc_congr H'
    simp only [this, e1]
  · rfl

theorem opSlice_congr {t : TypeId} {v : EV} {a b m : Option EV} (H : Same h h' v.ids) : opSlice cx h t v a b m = opSlice cx h' t v a b m := by
  unfold opSlice
  split
  · generalize cx.tab _ = q
    cases q with
    | none => rfl
    | some ed => cases v with
      | tup _ => rfl
      | x v => cases v with
        | one s => cases s with
          | osl id off len => have := H _ (List.mem_singleton.2 rfl); simp only [this]
          | data k x => cases k <;> rfl
          | _ => rfl
        | _ => rfl
  · generalize cx.tab _ = q
    cases q with
    | none => rfl
    | some ed => cases v with
      | tup _ => rfl
      | x v => cases v with
        | one s => cases s with
          | ref id off => cases off with
            | zero => have := H _ (List.mem_singleton.2 rfl); simp only [this]
            | succ n => rfl
          | _ => rfl
        | _ => rfl
  · rfl

theorem opNil_congr {v : EV} (H : Same h h' v.ids) : opNil h v = opNil h' v := by
  unfold opNil
  cases v with
  | tup _ => first | rfl | ((repeat' split) <;> first | rfl | (simp_all [Same, EV.ids, XV.ids, SV.ids]; done))
  | x v => cases v with
    | one s => cases s <;> first | rfl | (have := H _ (List.mem_singleton.2 rfl); simp only [this]; done) | ((repeat' split) <;> first | rfl | (simp_all [Same, EV.ids, XV.ids, SV.ids]; done))
    | _ => first | rfl | ((repeat' split) <;> first | rfl | (simp_all [Same, EV.ids, XV.ids, SV.ids]; done))

theorem opEq_congr {neg : Bool} {t : TypeId} {x y : EV} (H : Same h h' x.ids) : opEq cx h neg t x y = opEq cx h' neg t x y := by
  unfold opEq
  cases x with
  | tup _ => first | rfl | ((repeat' split) <;> first | rfl | (simp_all [Same, EV.ids, XV.ids, SV.ids]; done))
  | x v => cases v with
    | one s => cases s <;> first | rfl | (have := H _ (List.mem_singleton.2 rfl); simp only [this]; done) | ((repeat' split) <;> first | rfl | (simp_all [Same, EV.ids, XV.ids, SV.ids]; done))
    | _ => first | rfl | ((repeat' split) <;> first | rfl | (simp_all [Same, EV.ids, XV.ids, SV.ids]; done))

theorem opBin_congr {op : BinOp} {t : TypeId} {x y : EV} (H : Same h h' x.ids) : opBin cx h op t x y = opBin cx h' op t x y := by
  unfold opBin
  split
  · rfl
  · rfl
  · split
    · exact opEq_congr H
    · exact opEq_congr H
    · rfl

theorem xvs_ids : ∀ {es : List EV} {vs : List XV}, xvs es = some vs → vs.flatMap XV.ids = es.flatMap EV.ids
  | [], vs, e => by cases e; rfl
  | .x v :: es, vs, e => by
    simp only [xvs] at e
    split at e
    · rename_i us hu
      cases e
      rw [List.flatMap_cons, List.flatMap_cons, xvs_ids hu]; rfl
    · cases e
  | .tup _ :: _, _, e => by cases e

theorem opCall_congr {f : FuncId} {args : List EV} (H : Same h h' (args.flatMap EV.ids)) : opCall cx h f args tgt = opCall cx h' f args tgt := by
  unfold opCall
  split
  · rename_i vs hc hv
    have H2 : Same h h' (vs.flatMap XV.ids) := by rw [xvs_ids hv]; exact H
    have e4 : ∀ ks, takes (hz (applyU h (fzx h' vs))) ks vs = takes (hz (applyU h' (fzx h' vs))) ks vs := fun k => takes_congr _ (Same.hz (Same.applyU _ H2))
    simp only [takes_congr _ H2, fzx_congr H2, e4]
  · rename_i vs hc hv
    have H2 : Same h h' (vs.flatMap XV.ids) := by rw [xvs_ids hv]; exact H
    have e4 : ∀ ks, takes (hz (applyU h (fzx h' vs))) ks vs = takes (hz (applyU h' (fzx h' vs))) ks vs := fun k => takes_congr _ (Same.hz (Same.applyU _ H2))
    simp only [takes_congr _ H2, fzx_congr H2, e4]
  · rfl
end

/-- WHAT AN OPERATION COMES TO LIES IN ITS OPERANDS. -/
theorem fillA_congr {h h' : List HObj} {place : Nat → Option (Nat × Nat)} : ∀ {is : List Nat} {vs : List EV} {cs : List SV}, Same h h' (vs.flatMap EV.ids) → fillA h place cs is vs = fillA h' place cs is vs
  | [], [], _, _ => rfl
  | i :: is, .x v :: vs, cs, H => by
    rw [List.flatMap_cons] at H
    simp only [fillA, XV.cells_congr (show Same h h' v.ids from H.left)]
    split
    · split
      · exact fillA_congr H.right
      · rfl
    · rfl
  | [], _ :: _, _, _ => rfl
  | _ :: _, [], _, _ => rfl
  | _ :: _, .tup _ :: _, _, _ => rfl

theorem opBuild_congr {cx : Cx} {h h' : List HObj} {t : TypeId} {is : List Nat} {vs : List EV} (H : Same h h' (vs.flatMap EV.ids)) : opBuild cx h t is vs = opBuild cx h' t is vs := by
  unfold opBuild
  split
  · rw [fillA_congr H]
  · rfl

theorem aop_congr {cx : Cx} {o : Oper} {env env' : List EV} {h h' : List HObj} {tgt : Nat} (H : ∀ x ∈ o.op.operands.toList, cx.eval env x = cx.eval env' x ∧ Same h h' (cx.eval env x).ids) : aop cx o env h tgt = aop cx o env' h' tgt := by
  cases hop : o.op <;> simp only [aop, hop] <;> rw [hop] at H
  case move x => rw [(H x (by simp [Op.operands])).1]
  case assign x => rw [(H x (by simp [Op.operands])).1]
  case pick a b c => rw [(H a (by simp [Op.operands])).1, (H b (by simp [Op.operands])).1, (H c (by simp [Op.operands])).1]
  case box t x => rw [← (H x (by simp [Op.operands])).1, opBox_congr (H x (by simp [Op.operands])).2]
  case load t x => rw [← (H x (by simp [Op.operands])).1, opLoad_congr (H x (by simp [Op.operands])).2]
  case nilCheck x => rw [← (H x (by simp [Op.operands])).1, opNil_congr (H x (by simp [Op.operands])).2]
  case unOp op t x => rw [(H x (by simp [Op.operands])).1]
  case convert s d x =>
    rw [← (H x (by simp [Op.operands])).1]
    unfold opConvX
    split
    · have H2 := (H x (by simp [Op.operands])).2
      generalize cx.eval env x = v at H2
      cases v with
      | tup _ => rfl
      | x xv =>
        have H3 : Same h h' xv.ids := H2
        simp only [opB2S, XV.take_congr H3]
    · rfl
  case makeFunc f xs ys =>
    have e1 : xs.toList.map (cx.eval env) = xs.toList.map (cx.eval env') := List.map_congr_left fun x hx => (H x (by simp [Op.operands]; exact .inl (by simpa using hx))).1
    have e2 : ys.toList.map (cx.eval env) = ys.toList.map (cx.eval env') := List.map_congr_left fun x hx => (H x (by simp [Op.operands]; exact .inr (by simpa using hx))).1
    rw [e1, e2]
  case index t x i => rw [(H x (by simp [Op.operands])).1, (H i (by simp [Op.operands])).1]
  case extract x i => rw [(H x (by simp [Op.operands])).1]
  case store t x v => rw [← (H x (by simp [Op.operands])).1, ← (H v (by simp [Op.operands])).1, opStore_congr (H x (by simp [Op.operands])).2 (H v (by simp [Op.operands])).2]
  case binOp op t x y r => rw [← (H x (by simp [Op.operands])).1, ← (H y (by simp [Op.operands])).1, opBin_congr (H x (by simp [Op.operands])).2]
  case makeSlice t x y => rw [(H x (by simp [Op.operands])).1, (H y (by simp [Op.operands])).1]
  case fieldAddr t x f => rw [← (H x (by simp [Op.operands])).1, opFieldAddr_congr (H x (by simp [Op.operands])).2]
  case indexAddr t x i => rw [← (H x (by simp [Op.operands])).1, ← (H i (by simp [Op.operands])).1, opIndexAddr_congr (H x (by simp [Op.operands])).2]
  case build t ps =>
    have e : (ps.toList.map fun p => cx.eval env p.2) = ps.toList.map fun p => cx.eval env' p.2 := List.map_congr_left fun p hp => (H p.2 (by simp [Op.operands]; exact ⟨p.1, by simpa using hp⟩)).1
    rw [← e]
    refine opBuild_congr ?_
    intro id hid
    obtain ⟨ev, he, hi⟩ := List.mem_flatMap.1 hid
    obtain ⟨p, hp, rfl⟩ := List.mem_map.1 he
    exact (H p.2 (by simp [Op.operands]; exact ⟨p.1, by simpa using hp⟩)).2 id hi
  case buildSlice t n ps =>
    have e : (ps.toList.map fun p => cx.eval env p.2) = ps.toList.map fun p => cx.eval env' p.2 := List.map_congr_left fun p hp => (H p.2 (by simp [Op.operands]; exact ⟨p.1, by simpa using hp⟩)).1
    rw [← e]
    refine opBuildSlice_congr ?_
    intro id hid
    obtain ⟨ev, he, hi⟩ := List.mem_flatMap.1 hid
    obtain ⟨p, hp, rfl⟩ := List.mem_map.1 he
    exact (H p.2 (by simp [Op.operands]; exact ⟨p.1, by simpa using hp⟩)).2 id hi
  case slice t x lo hi mx =>
    have hx := H x (by simp [Op.operands])
    have e1 : lo.map (cx.eval env) = lo.map (cx.eval env') := by cases lo with | none => rfl | some z => rw [Option.map_some, Option.map_some, (H z (by simp [Op.operands])).1]
    have e2 : hi.map (cx.eval env) = hi.map (cx.eval env') := by cases hi with | none => rfl | some z => rw [Option.map_some, Option.map_some, (H z (by simp [Op.operands])).1]
    have e3 : mx.map (cx.eval env) = mx.map (cx.eval env') := by cases mx with | none => rfl | some z => rw [Option.map_some, Option.map_some, (H z (by simp [Op.operands])).1]
    split
    · rfl
    · rw [← e1, ← e2, ← e3, ← hx.1, opSlice_congr hx.2]
  case call c =>
    have e : c.args.toList.map (cx.eval env) = c.args.toList.map (cx.eval env') := List.map_congr_left fun x hx => (H x (by simp [Op.operands, Call.operands]; exact .inr (by simpa using hx))).1
    have s : Same h h' ((c.args.toList.map (cx.eval env)).flatMap EV.ids) := by
      intro id hid
      obtain ⟨ev, he, hi⟩ := List.mem_flatMap.1 hid
      obtain ⟨x, hx, rfl⟩ := List.mem_map.1 he
      exact (H x (by simp [Op.operands, Call.operands]; exact .inr (by simpa using hx))).2 id hi
    rw [← e]
    split
    · unfold opBuiltin
      split
      · rename_i t x e0 e1 e2
        have e3 : c.args.toList.map (cx.eval env) = [x] := by assumption
        rw [e3] at s
        exact opLen_congr (by simpa using s)
      · rename_i t t' x y e0 e1 e2
        have e3 : c.args.toList.map (cx.eval env) = [x, y] := by assumption
        rw [e3] at s
        have s2 : Same h h' (x.ids ++ y.ids) := by simpa using s
        rw [opAppend_congr s2.left s2.right, opAppendS_congr s2.left]
      · rename_i t t' x y e0 e1 e2
        have e3 : c.args.toList.map (cx.eval env) = [x, y] := by assumption
        rw [e3] at s
        have s2 : Same h h' (x.ids ++ y.ids) := by simpa using s
        exact opCopy_congr s2.left s2.right
      · rfl
      · rfl
      · rfl
    · exact opCall_congr s
    · rename_i x _ hcx
      have hx2 := H x (by simp [Op.operands, Call.operands, hcx])
      rw [← hx2.1]
      unfold opClo
      split
      · rw [opCall_congr s]
      · rfl
    · rfl
end Go.Lift

/- Regions that draw their order: operations that do not meet may change places. Own work. -/
set_option linter.unusedVariables false
set_option linter.unusedSimpArgs false
set_option linter.unusedSectionVars false
namespace Go.Lift

/-- It makes objects, but turns none. -/
def quietOp (cx : Cx) (o : Oper) : Bool := match o.op with
  | .store .. => false
  | .buildSlice t .. => flatE cx t
  | .call c => match c.callee with
    | .builtin b => match b with
      | .append => false
      | .copy => false
      | _ => true
    | .value (.func f) => match c.args.toList with
      | [] => true
      | _ => conFlat cx f
    | _ => true
  | _ => true

theorem aop_quiet {cx : Cx} {o : Oper} (hq : quietOp cx o = true) (env : List EV) (h : List HObj) (tgt : Nat) : (aop cx o env h tgt).All (Touch [] tgt (nAlloc cx o)) := by
  cases hop : o.op <;> simp only [aop, nAlloc, hop] <;> simp only [quietOp, hop] at hq
  case move => exact Touch.nil
  case assign => exact Touch.nil
  case pick => exact opPick_touch
  case alloc => exact opAlloc_touch
  case box => exact opBox_touch
  case build => exact opBuild_touch
  case buildSlice => exact opBuildSlice_quiet hq
  case load => exact opLoad_touch
  case store => cases hq
  case nilCheck => exact opNil_touch
  case binOp => exact opBin_touch
  case unOp => exact opUn_touch
  case convert => exact opConvX_touch
  case makeFunc => exact opMakeFunc_touch
  case makeSlice => exact opMakeSlice_touch
  case slice =>
    split
    · trivial
    · exact opSlice_touch
  case fieldAddr => exact opFieldAddr_touch
  case indexAddr => exact opIndexAddr_touch
  case extract => exact opExtract_touch
  case index => exact opIndex_touch
  case call c =>
    cases hc : c.callee with
    | builtin b =>
      rw [hc] at hq
      simp only
      cases b <;> simp only [opBuiltin] <;> (repeat' split) <;> first | trivial | exact opLen_touch | exact opMM_touch | (simp only at hq; cases hq) | simp_all
    | value f =>
      rw [hc] at hq
      cases f with
      | func f =>
        simp only at hq ⊢
        cases ha : c.args.toList with
        | nil => exact opCall_none
        | cons x l => rw [ha] at hq; exact opCall_quiet hq
      | _ => exact opClo_touch
    | invoke => trivial
  all_goals trivial

/-- It looks at no object, and makes none. -/
def pureOp (o : Oper) : Bool := match o.op with
  | .move _ => true
  | .assign _ => true
  | .binOp op _ _ _ _ => match op with
    | .eql => false
    | .neq => false
    | _ => true
  | _ => false

theorem Touch.none {tgt : Nat} {us : List (Nat × HObj)} (h : Touch [] tgt 0 us) : us = [] := by
  cases us with
  | nil => rfl
  | cons u us =>
    rcases h u List.mem_cons_self with h | ⟨o, h, _⟩
    · omega
    · simp at h

theorem pure_all {cx : Cx} {o : Oper} (hp : pureOp o = true) (env : List EV) (h : List HObj) (tgt : Nat) : (aop cx o env h tgt).All (Touch [] tgt 0) := by
  cases hop : o.op <;> simp only [aop, hop] <;> simp only [pureOp, hop] at hp
  case move => exact Touch.nil
  case assign => exact Touch.nil
  case binOp => exact opBin_touch
  all_goals cases hp

theorem pure_congr {cx : Cx} {o : Oper} (hp : pureOp o = true) (env : List EV) (h h' : List HObj) (tgt : Nat) : aop cx o env h tgt = aop cx o env h' tgt := by
  cases hop : o.op <;> simp only [aop, hop] <;> simp only [pureOp, hop] at hp
  case binOp op t x y z =>
    unfold opBin
    split
    · rfl
    · rfl
    · cases op <;> first | rfl | cases hp
  all_goals cases hp

theorem Res.wp_forall {α : Type} {p : α → Prop} (ne : ∃ a, p a) {G : α → EV → List (Nat × HObj) → Prop} : ∀ {r : Res}, (∀ a, p a → r.wp (G a)) → r.wp fun e u => ∀ a, p a → G a e u
  | .fail, h => let ⟨a, ha⟩ := ne; h a ha
  | .ret _ _, h => h
  | .ask _ f, h => let ⟨a, ha⟩ := ne; ⟨(h a ha).1, Res.wp_forall ne fun a ha => (h a ha).2⟩
  | .all _ _ _ f, h => fun b hb => Res.wp_forall ne fun a ha => h a ha b hb
  | .br b x y, h => Br.intro (fun e => Res.wp_forall (r := x) ne fun a ha => Br.t (h a ha) e) (fun e => Res.wp_forall (r := y) ne fun a ha => Br.f (h a ha) e)

theorem Res.swap {r2 : Res} {F : EV → List (Nat × HObj) → EV → List (Nat × HObj) → Prop} : ∀ {r1 : Res}, (r1.wp fun e1 u1 => r2.wp fun e2 u2 => F e1 u1 e2 u2) → r2.wp fun e2 u2 => r1.wp fun e1 u1 => F e1 u1 e2 u2
  | .fail, h => h.elim
  | .ret _ _, h => h
  | .ask _ f, ⟨q, h⟩ => Res.wp_mono (fun _ _ h => ⟨q, h⟩) (Res.swap h)
  | .all _ p ne f, h => Res.wp_forall ne fun a ha => Res.swap (h a ha)
  | .br b x y, h => by
    cases b with
    | true => exact Res.swap (r1 := x) (Br.t h rfl)
    | false => exact Res.swap (r1 := y) (Br.f h rfl)

def chk (cx : Cx) (ok : Nat → Bool) (o : Oper) (env : List EV) : Bool := o.op.operands.toList.all fun x => (cx.eval env x).ids.all ok

def gres (cx : Cx) (ops : Array Oper) (ok : Nat → Bool) (o : Oper) (s : St) (tgt : Nat) : Res := match o.guard with
  | none => if chk cx ok o s.env then aop cx o s.env s.heap tgt else .fail
  | some (g, want) => match guardOf ops s.env g with
    | none => if gone ops s.env g then .ret .skip [] else .fail
    | some (_, b) => if b = want then (if chk cx ok o s.env then aop cx o s.env s.heap tgt else .fail) else .ret .skip []

theorem gres_quiet {cx : Cx} {ops : Array Oper} {ok : Nat → Bool} {o : Oper} (hq : quietOp cx o = true) {s : St} {tgt : Nat} : (gres cx ops ok o s tgt).All (Touch [] tgt (nAlloc cx o)) := by
  unfold gres
  repeat' split
  all_goals first | exact aop_quiet hq _ _ _ | trivial | exact Touch.nil

theorem eval_congr {cx : Cx} {env env' : List EV} {x : Operand} (h : ∀ t, x = .tmp t → env[t]? = env'[t]?) : cx.eval env x = cx.eval env' x := by
  cases x with
  | tmp t => simp only [Cx.eval, List.getD_eq_getElem?_getD, h t rfl]
  | _ => rfl

theorem gres_pure {cx : Cx} {ops : Array Oper} {ok : Nat → Bool} {o : Oper} (hp : pureOp o = true) {s : St} {tgt : Nat} : (gres cx ops ok o s tgt).All (Touch [] tgt 0) := by
  unfold gres
  repeat' split
  all_goals first | exact pure_all hp _ _ _ | trivial | exact Touch.nil

theorem gres_congr {cx : Cx} {ops : Array Oper} {ok : Nat → Bool} {o : Oper} {s s' : St} {tgt : Nat} (he : ∀ t ∈ o.looksAt ops, s.env[t]? = s'.env[t]?) (hh : pureOp o = true ∨ ∀ id, ok id = true → s.heap[id]? = s'.heap[id]?) :
    gres cx ops ok o s tgt = gres cx ops ok o s' tgt := by
  have hev : ∀ x ∈ o.op.operands.toList, cx.eval s.env x = cx.eval s'.env x := fun x hx => eval_congr fun t ht => he t (by
    subst ht
    exact List.mem_append_left _ (List.mem_filterMap.2 ⟨_, hx, rfl⟩))
  have hc : chk cx ok o s.env = chk cx ok o s'.env := by
    unfold chk
    have : ∀ l : List Operand, (∀ x ∈ l, cx.eval s.env x = cx.eval s'.env x) → (l.all fun x => (cx.eval s.env x).ids.all ok) = l.all fun x => (cx.eval s'.env x).ids.all ok := by
      intro l
      induction l with
      | nil => intro _; rfl
      | cons x l ih => intro h; rw [List.all_cons, List.all_cons, h x List.mem_cons_self, ih fun y hy => h y (List.mem_cons_of_mem _ hy)]
    exact this _ hev
  have ha : chk cx ok o s.env = true → aop cx o s.env s.heap tgt = aop cx o s'.env s'.heap tgt := fun h => by
    rcases hh with hp | hh
    · rw [pure_congr hp s.env s.heap s'.heap]
      exact aop_congr fun x hx => ⟨hev x hx, fun id hid => rfl⟩
    · exact aop_congr fun x hx => ⟨hev x hx, fun id hid => hh id (by
        simp only [chk, List.all_eq_true] at h
        exact h x hx id hid)⟩
  have hgo : ∀ g w, o.guard = some (g, w) → guardOf ops s.env g = guardOf ops s'.env g := by
    intro g w hg
    unfold guardOf
    split
    · rename_i d hd
      rw [he d (by
        refine List.mem_append_right _ ?_
        rw [hg]; simp [hd])]
    · rfl
  have hgn : ∀ g w, o.guard = some (g, w) → gone ops s.env g = gone ops s'.env g := by
    intro g w hg
    unfold gone
    split
    · rename_i d hd
      rw [he d (by
        refine List.mem_append_right _ ?_
        rw [hg]; simp [hd])]
    · rfl
  have e1 : (if chk cx ok o s.env then aop cx o s.env s.heap tgt else .fail) = (if chk cx ok o s'.env then aop cx o s'.env s'.heap tgt else .fail) := by
    rw [← hc]
    split
    · rename_i h; exact ha h
    · rfl
  unfold gres
  cases hg : o.guard with
  | none => exact e1
  | some gw =>
    obtain ⟨g, w⟩ := gw
    simp only [← hgo g w hg, ← hgn g w hg, e1]

theorem putE_ne {env : List EV} {d : Option Tmp} {ev : EV} {t : Nat} (h : d ≠ some t) : (putE env d ev)[t]? = env[t]? := by
  cases d with
  | none => rfl
  | some d => exact set_ne fun e => h (by rw [e])

theorem putE_comm {env : List EV} {d d' : Option Tmp} {a b : EV} (h : ∀ t, d = some t → d' ≠ some t) : putE (putE env d a) d' b = putE (putE env d' b) d a := by
  cases d with
  | none => rfl
  | some d => cases d' with
    | none => rfl
    | some d' => exact List.set_comm _ _ fun e => h d rfl (by rw [e])

theorem applyU_set {id : Nat} {o : HObj} : ∀ (us : List (Nat × HObj)) (h : List HObj), (∀ u ∈ us, u.1 ≠ id) → applyU (h.set id o) us = (applyU h us).set id o
  | [], h, _ => rfl
  | u :: us, h, hn => by
    show applyU ((h.set id o).set u.1 u.2) us = (applyU (h.set u.1 u.2) us).set id o
    rw [List.set_comm _ _ (Ne.symm (hn u List.mem_cons_self)), applyU_set us _ fun v hv => hn v (List.mem_cons_of_mem _ hv)]

theorem applyU_comm : ∀ (us vs : List (Nat × HObj)) (h : List HObj), (∀ u ∈ us, ∀ v ∈ vs, u.1 ≠ v.1) → applyU (applyU h us) vs = applyU (applyU h vs) us
  | [], vs, h, _ => rfl
  | u :: us, vs, h, hn => by
    show applyU (applyU (h.set u.1 u.2) us) vs = applyU ((applyU h vs).set u.1 u.2) us
    rw [applyU_comm us vs _ fun w hw => hn w (List.mem_cons_of_mem _ hw), applyU_set vs h fun v hv => Ne.symm (hn u List.mem_cons_self v hv)]

/-! ### The places of new objects, what an operation may look at -/

def tgAt (cx : Cx) (ops : Array Oper) (base i : Nat) : Nat := base + allocs cx (ops.toList.take i)
def nAt (cx : Cx) (ops : Array Oper) (i : Nat) : Nat := match ops[i]? with
  | some o => nAlloc cx o
  | none => 0
def okId (cx : Cx) (ops : Array Oper) (base : Nat) (A : List (List Nat)) (i id : Nat) : Bool :=
  if Nat.blt id base then true else (A.getD i []).any fun j => if Nat.ble (tgAt cx ops base j) id then Nat.blt id (tgAt cx ops base j + nAt cx ops j) else false

theorem tgAt_succ (cx : Cx) (ops : Array Oper) (base i : Nat) : tgAt cx ops base (i + 1) = tgAt cx ops base i + nAt cx ops i := by
  unfold tgAt nAt allocs
  rw [List.take_add_one]
  simp only [List.map_append, List.sum_append]
  cases h : ops[i]? with
  | none => simp [h]
  | some o => simp [h]; omega

theorem tgAt_le (cx : Cx) (ops : Array Oper) (base : Nat) {i : Nat} : ∀ {j : Nat}, i < j → tgAt cx ops base i + nAt cx ops i ≤ tgAt cx ops base j
  | j + 1, h => by
    rw [tgAt_succ]
    rcases Nat.lt_or_ge i j with h' | h'
    · have := tgAt_le cx ops base h'; omega
    · have : i = j := by omega
      subst this; omega

theorem okId_out {cx : Cx} {ops : Array Oper} {base : Nat} {A : List (List Nat)} {i j id : Nat} (h : okId cx ops base A j id = true) (hn : i ∉ A.getD j []) : ¬ (tgAt cx ops base i ≤ id ∧ id < tgAt cx ops base i + nAt cx ops i) := by
  unfold okId at h
  split at h
  · rename_i hb
    have hb : id < base := by simpa using hb
    have : base ≤ tgAt cx ops base i := by unfold tgAt; omega
    omega
  · obtain ⟨k, hk, hr⟩ := List.any_eq_true.1 h
    split at hr
    · rename_i h1
      have h1 : tgAt cx ops base k ≤ id := by simpa using h1
      have h2 : id < tgAt cx ops base k + nAt cx ops k := by simpa using hr
      rcases Nat.lt_trichotomy i k with hlt | rfl | hlt
      · have := tgAt_le cx ops base hlt; omega
      · exact absurd hk hn
      · have := tgAt_le cx ops base hlt; omega
    · cases hr

/-- A call that is walked in place: it stands before or behind each other one. -/
def ilOp (inl : FuncId → Bool) (o : Oper) : Bool := match o.op with
  | .call c => match c.callee with
    | .value (.func f) => inl f
    | _ => false
  | _ => false

section
variable (cx : Cx) (inl : FuncId → Bool) (call : CallEv) (ops : Array Oper) (base : Nat) (A : List (List Nat))

def icall (o : Oper) (env : List EV) (h : List HObj) (K : St → Prop) : Prop := match inlOf cx inl env o with
  | some fa => call fa.1 fa.2 h fun v h' => if pendKept h h' then K ⟨putE env o.dst v, h'⟩ else False
  | none => False

def istep (o : Oper) (s : St) (K : St → Prop) : Prop := match o.guard with
  | none => icall cx inl call o s.env s.heap K
  | some (g, want) => match guardOf ops s.env g with
    | none => if gone ops s.env g then K ⟨putE s.env o.dst .skip, s.heap⟩ else False
    | some (_, b) => if b = want then icall cx inl call o s.env s.heap K else K ⟨putE s.env o.dst .skip, s.heap⟩

def pstep (i : Nat) (s : St) (K : St → Prop) : Prop := match ops[i]? with
  | none => False
  | some o => match ilOp inl o with
    | true => istep cx inl call ops o s K
    | false => (gres cx ops (okId cx ops base A i) o s (tgAt cx ops base i)).wp fun ev us => K ⟨putE s.env o.dst ev, applyU s.heap us⟩

def pchain : List Nat → St → (St → Prop) → Prop
  | [], s, K => K s
  | i :: l, s, K => pstep cx inl call ops base A i s fun s' => pchain l s' K

variable {cx inl call ops base A}

theorem pstep_mono {i : Nat} {o : Oper} (ho : ops[i]? = some o) (hl : ilOp inl o = false) {s : St} {K K' : St → Prop} (hk : ∀ s, K s → K' s) (h : pstep cx inl call ops base A i s K) : pstep cx inl call ops base A i s K' := by
  unfold pstep at *
  rw [ho] at h ⊢
  simp only [hl] at h ⊢
  exact Res.wp_mono (fun _ _ h => hk _ h) h

/-- May these change places? -/
structure Free (cx : Cx) (inl : FuncId → Bool) (ops : Array Oper) (A : List (List Nat)) (i j : Nat) (oi oj : Oper) : Prop where
  ne : i ≠ j
  apart : oi.apart ops oj = true
  q : (quietOp cx oi = true ∧ quietOp cx oj = true) ∨ pureOp oi = true ∨ pureOp oj = true
  ai : i ∉ A.getD j []
  aj : j ∉ A.getD i []
  li : ilOp inl oi = false
  lj : ilOp inl oj = false

theorem diamond {i j : Nat} {oi oj : Oper} (hi : ops[i]? = some oi) (hj : ops[j]? = some oj) (F : Free cx inl ops A i j oi oj) {s : St} {K : St → Prop}
    (h : pstep cx inl call ops base A i s fun s' => pstep cx inl call ops base A j s' K) : pstep cx inl call ops base A j s fun s' => pstep cx inl call ops base A i s' K := by
  obtain ⟨a1, a2, a3⟩ := Oper.apart_spec F.apart
  unfold pstep at h ⊢
  simp only [hi, hj, F.li, F.lj] at h ⊢
  have ni : nAt cx ops i = nAlloc cx oi := by simp [nAt, hi]
  have nj : nAt cx ops j = nAlloc cx oj := by simp [nAt, hj]
  rcases F.q with ⟨qi, qj⟩ | hp | hp
  rotate_left
  · have h2 : (gres cx ops (okId cx ops base A i) oi s (tgAt cx ops base i)).wp fun e1 u1 => (gres cx ops (okId cx ops base A j) oj s (tgAt cx ops base j)).wp fun e2 u2 =>
        u1 = [] ∧ K ⟨putE (putE s.env oi.dst e1) oj.dst e2, applyU s.heap u2⟩ := by
      refine Res.wp_mono (fun e1 u1 hh => ?_) (Res.wp_all (gres_pure hp) h)
      obtain ⟨hh, ht⟩ := hh
      have ht := ht.none
      subst ht
      rw [← gres_congr (s := s) (s' := ⟨putE s.env oi.dst e1, applyU s.heap []⟩) (fun t ht' => (putE_ne fun e => a1 t e ht').symm) (.inr fun id hid => rfl)] at hh
      exact Res.wp_mono (fun e2 u2 h3 => ⟨rfl, h3⟩) hh
    refine Res.wp_mono (fun e2 u2 hh => ?_) (Res.swap h2)
    rw [← gres_congr (s := s) (s' := ⟨putE s.env oj.dst e2, applyU s.heap u2⟩) (fun t ht' => (putE_ne fun e => a3 t e ht').symm) (.inl hp)]
    refine Res.wp_mono (fun e1 u1 h4 => ?_) hh
    obtain ⟨rfl, h5⟩ := h4
    rw [putE_comm fun t e => a2 t e] at h5
    exact h5
  · have h2 : (gres cx ops (okId cx ops base A i) oi s (tgAt cx ops base i)).wp fun e1 u1 => (gres cx ops (okId cx ops base A j) oj s (tgAt cx ops base j)).wp fun e2 u2 =>
        u2 = [] ∧ K ⟨putE (putE s.env oi.dst e1) oj.dst e2, applyU s.heap u1⟩ := by
      refine Res.wp_mono (fun e1 u1 hh => ?_) h
      rw [← gres_congr (s := s) (s' := ⟨putE s.env oi.dst e1, applyU s.heap u1⟩) (fun t ht' => (putE_ne fun e => a1 t e ht').symm) (.inl hp)] at hh
      refine Res.wp_mono (fun e2 u2 h3 => ?_) (Res.wp_all (gres_pure hp) hh)
      obtain ⟨h3, ht⟩ := h3
      have ht := ht.none
      subst ht
      exact ⟨rfl, h3⟩
    refine Res.wp_mono (fun e2 u2 hh => ?_) (Res.wp_all (gres_pure hp) (Res.swap h2))
    obtain ⟨hh, ht⟩ := hh
    have ht := ht.none
    subst ht
    rw [← gres_congr (s := s) (s' := ⟨putE s.env oj.dst e2, applyU s.heap []⟩) (fun t ht' => (putE_ne fun e => a3 t e ht').symm) (.inr fun id hid => rfl)]
    refine Res.wp_mono (fun e1 u1 h4 => ?_) hh
    obtain ⟨_, h5⟩ := h4
    rw [putE_comm fun t e => a2 t e] at h5
    exact h5
  have h1 := Res.wp_all (gres_quiet qi) h
  have h2 : (gres cx ops (okId cx ops base A i) oi s (tgAt cx ops base i)).wp fun e1 u1 => (gres cx ops (okId cx ops base A j) oj s (tgAt cx ops base j)).wp fun e2 u2 =>
      Touch [] (tgAt cx ops base i) (nAlloc cx oi) u1 ∧ Touch [] (tgAt cx ops base j) (nAlloc cx oj) u2 ∧ K ⟨putE (putE s.env oi.dst e1) oj.dst e2, applyU (applyU s.heap u1) u2⟩ := by
    refine Res.wp_mono (fun e1 u1 hh => ?_) h1
    obtain ⟨hh, ht⟩ := hh
    rw [← gres_congr (s := s) (s' := ⟨putE s.env oi.dst e1, applyU s.heap u1⟩) (fun t ht' => (putE_ne fun e => a1 t e ht').symm) (.inr fun id hid => (applyU_ne _ _ _ fun u hu => ?_).symm)] at hh
    · exact Res.wp_mono (fun e2 u2 h3 => ⟨ht, h3.2, h3.1⟩) (Res.wp_all (gres_quiet qj) hh)
    · rintro rfl
      refine okId_out hid F.ai ?_
      rw [ni]
      rcases ht u hu with h | ⟨o, h, _⟩
      · exact h
      · simp at h
  have h3 := Res.wp_all (gres_quiet qj) (Res.swap h2)
  refine Res.wp_mono (fun e2 u2 hh => ?_) h3
  obtain ⟨hh, ht⟩ := hh
  rw [← gres_congr (s := s) (s' := ⟨putE s.env oj.dst e2, applyU s.heap u2⟩) (fun t ht' => (putE_ne fun e => a3 t e ht').symm) (.inr fun id hid => (applyU_ne _ _ _ fun u hu => ?_).symm)]
  · refine Res.wp_mono (fun e1 u1 h4 => ?_) hh
    obtain ⟨t1, t2, h5⟩ := h4
    rw [putE_comm fun t e => a2 t e, applyU_comm u1 u2 s.heap fun u hu v hv e => ?_] at h5
    · exact h5
    · have g1 : tgAt cx ops base i ≤ u.1 ∧ u.1 < tgAt cx ops base i + nAlloc cx oi := by
        rcases t1 u hu with h | ⟨o, h, _⟩
        · exact h
        · simp at h
      have g2 : tgAt cx ops base j ≤ v.1 ∧ v.1 < tgAt cx ops base j + nAlloc cx oj := by
        rcases t2 v hv with h | ⟨o, h, _⟩
        · exact h
        · simp at h
      rcases Nat.lt_or_ge i j with hlt | hge
      · have := tgAt_le cx ops base hlt; omega
      · have := tgAt_le cx ops base (show j < i from by have := F.ne; omega); omega
  · rintro rfl
    refine okId_out hid F.aj ?_
    rw [nj]
    rcases ht u hu with h | ⟨o, h, _⟩
    · exact h
    · simp at h

theorem bubble {i : Nat} {oi : Oper} (hi : ops[i]? = some oi) (post : List Nat) {K : St → Prop} : ∀ (pre : List Nat) (s : St), (∀ r ∈ pre, ∀ o, ops[r]? = some o → Free cx inl ops A r i o oi) →
    pchain cx inl call ops base A (pre ++ i :: post) s K → pstep cx inl call ops base A i s fun s' => pchain cx inl call ops base A (pre ++ post) s' K
  | [], s, _, h => h
  | r :: pre, s, hf, h => by
    cases ho : ops[r]? with
    | none => exact absurd h (by show ¬ pstep cx inl call ops base A r s _; unfold pstep; rw [ho]; exact id)
    | some o =>
      have F := hf r List.mem_cons_self o ho
      have h' : pstep cx inl call ops base A r s fun s' => pstep cx inl call ops base A i s' fun s' => pchain cx inl call ops base A (pre ++ post) s' K :=
        pstep_mono ho F.li (fun s' h => bubble hi post pre s' (fun q hq => hf q (List.mem_cons_of_mem _ hq)) h) h
      exact diamond ho hi F h'
end
end Go.Lift

/- Typed states: what is carried over a loop or a join, and how a state of a run becomes one. Own work. -/
set_option linter.unusedVariables false
set_option linter.unusedSimpArgs false
namespace Go.Lift

/-! ### Data without looking into rows -/

theorem SV.take0_rep {c : RC} : ∀ {k : K} {s : SV} {x : k.T} {u : Value}, s.take [] k = some x → s.rel c u → k.rep c.w c.ok x [u] := by
  intro k s x u ht hr
  cases k with
  | int ik =>
    cases s with
    | val v =>
      cases v with
      | int j n =>
        simp only [SV.take] at ht
        split at ht
        · rename_i e; cases ht; subst e; rw [show u = _ from hr]; rfl
        · cases ht
      | _ => simp [SV.take] at ht
    | _ => simp [SV.take] at ht
  | bool =>
    cases s with
    | val v =>
      cases v with
      | bool b => obtain rfl := Option.some.inj ht; rw [show u = _ from hr]; rfl
      | _ => simp [SV.take] at ht
    | _ => simp [SV.take] at ht
  | flt fk =>
    cases s with
    | val v =>
      cases v with
      | float j n =>
        simp only [SV.take] at ht
        split at ht
        · rename_i e; cases ht; subst e; rw [show u = _ from hr]; rfl
        · cases ht
      | _ => simp [SV.take] at ht
    | _ => simp [SV.take] at ht
  | unit => cases s <;> simp [SV.take] at ht
  | pair a b => cases s <;> simp [SV.take] at ht
  | arr n e => cases s <;> simp [SV.take] at ht
  | slice e =>
    cases s with
    | val v =>
      have hu : u = v := hr
      subst hu
      simp only [SV.take] at ht
      split at ht
      · rename_i hn
        obtain rfl := Option.some.inj ht
        rw [isNilS_eq hn]
        exact ⟨none, 0, rfl, Nat.le_refl _, by simp [maxN], .inl rfl⟩
      · cases ht
    | void =>
      obtain rfl := Option.some.inj ht
      obtain ⟨A, rfl⟩ := hr
      exact ⟨A, 0, rfl, Nat.le_refl _, by simp [maxN], .inl rfl⟩
    | data k' y =>
      simp only [SV.take] at ht
      split at ht
      · rename_i q; subst q; obtain rfl := Option.some.inj ht
        exact hr
      · cases ht
    | _ => simp [SV.take] at ht
  | ptr e =>
    cases s with
    | val v =>
      have hu : u = v := hr
      subst hu
      simp only [SV.take] at ht
      split at ht
      · rename_i hn
        obtain rfl := Option.some.inj ht
        rw [isNilP_eq hn]
        exact .inl ⟨rfl, rfl⟩
      · cases ht
    | data k' y =>
      simp only [SV.take] at ht
      split at ht
      · rename_i q; subst q; obtain rfl := Option.some.inj ht
        exact hr
      · cases ht
    | _ => simp [SV.take] at ht

theorem K.takeL0_rep {c : RC} : ∀ (k : K) (cs : List SV) (vs : List Value) (x : k.T) (r : List SV), k.takeL [] cs = some (x, r) → All2 (SV.rel c) cs vs →
    ∃ v1 v2, vs = v1 ++ v2 ∧ k.rep c.w c.ok x v1 ∧ All2 (SV.rel c) r v2 := by
  intro k
  induction k with
  | unit =>
    intro cs vs x r h ha
    simp only [K.takeL, Option.some.injEq, Prod.mk.injEq] at h
    obtain ⟨_, rfl⟩ := h
    exact ⟨[], vs, rfl, rfl, ha⟩
  | pair a b iha ihb =>
    intro cs vs x r h ha
    simp only [K.takeL] at h
    split at h
    · rename_i x1 r1 h1
      split at h
      · rename_i x2 r2 h2
        obtain ⟨rfl, rfl⟩ := Prod.mk.inj (Option.some.inj h)
        obtain ⟨v1, v2, rfl, hr, ha2⟩ := iha _ _ _ _ h1 ha
        obtain ⟨v3, v4, rfl, hr2, ha3⟩ := ihb _ _ _ _ h2 ha2
        exact ⟨v1 ++ v3, v4, by simp, ⟨v1, v3, rfl, hr, hr2⟩, ha3⟩
      · cases h
    · cases h
  | arr n e ih =>
    intro cs vs x r h ha
    simp only [K.takeL] at h
    obtain ⟨hl, v1, v2, e1, hr, ha2⟩ := takeN_rep (fun cs vs x r => ih cs vs x r) n cs vs x r h ha
    exact ⟨v1, v2, e1, ⟨hl, hr⟩, ha2⟩
  | int ik => exact one c (.int ik) rfl
  | bool => exact one c .bool rfl
  | flt fk => exact one c (.flt fk) rfl
  | slice e _ => exact one c (.slice e) rfl
  | ptr e _ => exact one c (.ptr e) rfl
where
  one (c : RC) (k : K) (hk : k.agg = false) : ∀ (cs : List SV) (vs : List Value) (x : k.T) (r : List SV), k.takeL [] cs = some (x, r) → All2 (SV.rel c) cs vs →
      ∃ v1 v2, vs = v1 ++ v2 ∧ k.rep c.w c.ok x v1 ∧ All2 (SV.rel c) r v2 := by
    intro cs vs x r h ha
    have h' : take1 [] k cs = some (x, r) := by
      cases k <;> first | (cases hk; done) | exact h
    have : ∃ s, cs = s :: r ∧ s.take [] k = some x := by
      cases cs with
      | nil => cases h'
      | cons s r' =>
        simp only [take1] at h'
        split at h'
        · rename_i x1 h1
          obtain ⟨rfl, rfl⟩ := Prod.mk.inj (Option.some.inj h')
          exact ⟨s, rfl, h1⟩
        · cases h'
    obtain ⟨s, rfl, hs⟩ := this
    cases ha with
    | cons h1 h2 => exact ⟨[_], _, rfl, SV.take0_rep hs h1, h2⟩

theorem XV.take0_rep {c : RC} {k : K} {v : XV} {x : k.T} {u : Value} (h : v.take [] k = some x) (hr : v.rel c u) : KRep c.w c.ok k x u := by
  unfold KRep
  cases v with
  | one s =>
    simp only [XV.take] at h
    split at h
    · cases h
    · rename_i hk; rw [if_neg hk]; exact SV.take0_rep h hr
  | agg cs =>
    simp only [XV.take] at h
    split at h
    · rename_i hk
      rw [if_pos hk]
      split at h
      · rename_i y h1
        obtain rfl := Option.some.inj h
        obtain ⟨vs, rfl, ha⟩ := hr
        obtain ⟨v1, v2, e, hr, h2⟩ := K.takeL0_rep k cs vs.toList _ _ h1 ha
        cases h2
        exact ⟨vs, rfl, by rw [e]; simpa using hr⟩
      · cases h
    · cases h
  | dat k' y =>
    simp only [XV.take] at h
    split at h
    · rename_i q; subst q
      split at h
      · rename_i hk
        obtain rfl := Option.some.inj h
        rw [if_pos hk]
        obtain ⟨vs, rfl, hr⟩ := hr
        exact ⟨vs, rfl, hr⟩
      · cases h
    · cases h


/-! ### Below -/

def LV.below (n : Nat) : LV → Prop
  | .ref id _ => id < n
  | _ => True

def SV.below (n : Nat) : SV → Prop
  | .osl id _ _ | .ref id _ | .eref id _ _ => id < n
  | .clo _ fs cs => (∀ l ∈ fs, l.below n) ∧ ∀ l ∈ cs, l.below n
  | _ => True

def XV.below (n : Nat) : XV → Prop
  | .one s => s.below n
  | .agg cs => ∀ s ∈ cs, s.below n
  | .dat _ _ => True

def EV.below (n : Nat) : EV → Prop
  | .x v => v.below n
  | .tup vs => ∀ v ∈ vs, v.below n

def HObj.below (n : Nat) : HObj → Prop
  | .box _ _ cs => ∀ s ∈ cs, s.below n
  | _ => True

theorem All2.mem {α β : Type} {R : α → β → Prop} {xs : List α} {bs : List β} (h : All2 R xs bs) : ∀ a ∈ xs, ∃ b, R a b := by
  induction h with
  | nil => intro a ha; cases ha
  | cons h1 _ ih =>
    intro a ha
    cases ha with
    | head => exact ⟨_, h1⟩
    | tail _ ha => exact ih a ha

theorem get_lt {α : Type} {l : List α} {i : Nat} {a : α} (h : l[i]? = some a) : i < l.length := by
  rcases Nat.lt_or_ge i l.length with h' | h'
  · exact h'
  · rw [List.getElem?_eq_none h'] at h; cases h

theorem LV.below_of {c : RC} {s : LV} {u : Value} (h : s.rel c u) : s.below c.heap.length := by
  cases s with
  | ref id off =>
    simp only [LV.rel] at h
    cases ho : c.heap[id]? with
    | none => rw [ho] at h; exact h.elim
    | some o => exact get_lt ho
  | _ => trivial

theorem SV.below_of {c : RC} {s : SV} {u : Value} (h : s.rel c u) : s.below c.heap.length := by
  cases s with
  | osl id off len =>
    simp only [SV.rel] at h
    cases ho : c.heap[id]? with
    | none => rw [ho] at h; exact h.elim
    | some o => exact get_lt ho
  | ref id off =>
    simp only [SV.rel] at h
    cases ho : c.heap[id]? with
    | none => rw [ho] at h; exact h.elim
    | some o => exact get_lt ho
  | eref id i off =>
    simp only [SV.rel] at h
    cases ho : c.heap[id]? with
    | none => rw [ho] at h; exact h.elim
    | some o => exact get_lt ho
  | clo f fs cs =>
    obtain ⟨vs, ws, rfl, h1, h2⟩ := h
    exact ⟨fun l hl => (h1.mem l hl).elim fun _ h => LV.below_of h, fun l hl => (h2.mem l hl).elim fun _ h => LV.below_of h⟩
  | _ => trivial

theorem XV.below_of {c : RC} {s : XV} {u : Value} (h : s.rel c u) : s.below c.heap.length := by
  cases s with
  | one s => exact SV.below_of h
  | agg cs => obtain ⟨vs, rfl, h⟩ := h; exact fun l hl => (h.mem l hl).elim fun _ h => SV.below_of h
  | dat _ _ => trivial

theorem EV.below_of {c : RC} {s : EV} {u : Value} (h : s.rel c u) : s.below c.heap.length := by
  cases s with
  | x s => exact XV.below_of h
  | tup cs => obtain ⟨vs, rfl, h⟩ := h; exact fun l hl => (h.mem l hl).elim fun _ h => XV.below_of h

theorem HObj.below_of {c : RC} {id : Nat} {o : HObj} (h : o.rel c id) : o.below c.heap.length := by
  cases o with
  | box m t cs => obtain ⟨b, vs, _, _, h⟩ := h; exact fun l hl => (h.mem l hl).elim fun _ h => SV.below_of h
  | _ => trivial

/-- The same below 'n'. -/
structure Cut (n : Nat) (c c' : RC) : Prop where
  w : c'.w = c.w
  heap : ∀ id, id < n → ∃ o o', c.heap[id]? = some o ∧ c'.heap[id]? = some o' ∧ (o' = o ∨ o' = .dead ∨ ∃ m t cs cs', o = .box m t cs ∧ o' = .box m t cs')
  blk : ∀ id, id < n → c'.blk id = c.blk id
  ok : ∀ b, c.ok b → c'.ok b

theorem LV.cut {n : Nat} {c c' : RC} (h : Cut n c c') {s : LV} {u : Value} (hb : s.below n) (r : s.rel c u) : s.rel c' u := by
  cases s with
  | val v => exact r
  | data k x => exact K.rep_mono (fun b hb => ⟨h.ok b hb, by rw [h.w]⟩) _ _ _ r
  | ref id off =>
    obtain ⟨o, o', h1, h2, h3⟩ := h.heap id hb
    simp only [LV.rel, h1, h2, h.blk id hb] at r ⊢
    rcases h3 with rfl | rfl | ⟨m, t, cs, cs', rfl, rfl⟩
    · exact r
    · trivial
    · exact r

theorem All2.lvcut {n : Nat} {c c' : RC} (h : Cut n c c') : ∀ {fs : List LV} {vs : List Value}, (∀ l ∈ fs, l.below n) → All2 (LV.rel c) fs vs → All2 (LV.rel c') fs vs
  | _, _, _, .nil => .nil
  | _, _, hb, .cons h1 h2 => .cons (LV.cut h (hb _ List.mem_cons_self) h1) (All2.lvcut h (fun l hl => hb l (List.mem_cons_of_mem _ hl)) h2)

theorem SV.cut {n : Nat} {c c' : RC} (h : Cut n c c') {s : SV} {u : Value} (hb : s.below n) (r : s.rel c u) : s.rel c' u := by
  cases s with
  | val v => exact r
  | data k x => exact K.rep_mono (fun b hb => ⟨h.ok b hb, by rw [h.w]⟩) _ _ _ r
  | osl id off len =>
    obtain ⟨o, o', h1, h2, h3⟩ := h.heap id hb
    simp only [SV.rel, h1, h2, h.blk id hb, h.w] at r ⊢
    rcases h3 with rfl | rfl | ⟨m, t, cs, cs', rfl, rfl⟩
    · exact r
    · trivial
    · exact r
  | ref id off =>
    obtain ⟨o, o', h1, h2, h3⟩ := h.heap id hb
    simp only [SV.rel, h1, h2, h.blk id hb] at r ⊢
    rcases h3 with rfl | rfl | ⟨m, t, cs, cs', rfl, rfl⟩
    · exact r
    · trivial
    · exact r
  | eref id i off =>
    obtain ⟨o, o', h1, h2, h3⟩ := h.heap id hb
    simp only [SV.rel, h1, h2, h.blk id hb] at r ⊢
    rcases h3 with rfl | rfl | ⟨m, t, cs, cs', rfl, rfl⟩
    · exact r
    · trivial
    · exact r
  | void => exact r
  | clo f fs cs =>
    obtain ⟨vs, ws, rfl, h1, h2⟩ := r
    refine ⟨vs, ws, rfl, ?_, ?_⟩
    · exact All2.lvcut h hb.1 h1
    · exact All2.lvcut h hb.2 h2
  | bstr bs => exact r
  | junk => trivial
theorem All2.svcut {n : Nat} {c c' : RC} (h : Cut n c c') : ∀ {fs : List SV} {vs : List Value}, (∀ l ∈ fs, l.below n) → All2 (SV.rel c) fs vs → All2 (SV.rel c') fs vs
  | _, _, _, .nil => .nil
  | _, _, hb, .cons h1 h2 => .cons (SV.cut h (hb _ List.mem_cons_self) h1) (All2.svcut h (fun l hl => hb l (List.mem_cons_of_mem _ hl)) h2)

theorem XV.cut {n : Nat} {c c' : RC} (h : Cut n c c') {s : XV} {u : Value} (hb : s.below n) (r : s.rel c u) : s.rel c' u := by
  cases s with
  | one s => exact SV.cut h hb r
  | agg cs => obtain ⟨vs, rfl, r⟩ := r; exact ⟨vs, rfl, All2.svcut h hb r⟩
  | dat k x => obtain ⟨vs, rfl, r⟩ := r; exact ⟨vs, rfl, K.rep_mono (fun b hb => ⟨h.ok b hb, by rw [h.w]⟩) _ _ _ r⟩

theorem All2.xvcut {n : Nat} {c c' : RC} (h : Cut n c c') : ∀ {fs : List XV} {vs : List Value}, (∀ l ∈ fs, l.below n) → All2 (XV.rel c) fs vs → All2 (XV.rel c') fs vs
  | _, _, _, .nil => .nil
  | _, _, hb, .cons h1 h2 => .cons (XV.cut h (hb _ List.mem_cons_self) h1) (All2.xvcut h (fun l hl => hb l (List.mem_cons_of_mem _ hl)) h2)

theorem EV.cut {n : Nat} {c c' : RC} (h : Cut n c c') {s : EV} {u : Value} (hb : s.below n) (r : s.rel c u) : s.rel c' u := by
  cases s with
  | x s => exact XV.cut h hb r
  | tup cs => obtain ⟨vs, rfl, r⟩ := r; exact ⟨vs, rfl, All2.xvcut h hb r⟩

end Go.Lift
