/- A part of the proof of VecLengths: an own lifter of code into plain terms, and plain laws. -/
import Derived.OpenShut
import Derived.Handed
import Derived.RowKit
import Derived.Carry
import Derived.Laws.Bits64b
import Derived.Test.YtkgkckjgdajegaaProg
import Derived.Laws.Externs
import Derived.Test.YtkgkckjgdajegaaPtB
set_option linter.unusedVariables false
set_option linter.unusedSimpArgs false
set_option linter.unusedSectionVars false
/- What data is by itself: lengths. Own work. -/
set_option linter.unusedVariables false
namespace Go.Lift

def K.wf : (k : K) → k.T → Prop
  | .pair a b, x => a.wf x.1 ∧ b.wf x.2
  | .arr n e, xs => List.length xs = n ∧ ∀ x, List.Mem (α := e.T) x xs → e.wf x
  | .slice e, xs => List.length xs ≤ maxN ∧ ∀ x, List.Mem (α := e.T) x xs → e.wf x
  | .ptr e, p => ∀ x, p = some x → e.wf x
  | _, _ => True

theorem Rows.mem {α : Type} {R : α → List Value → Prop} : ∀ {xs : List α} {cs : List Value}, Rows R xs cs → ∀ x, List.Mem x xs → ∃ c, R x c
  | [], _, _, x, hx => by cases hx
  | y :: xs, cs, h, x, hx => by
    obtain ⟨c1, c2, rfl, h1, h2⟩ := h
    cases hx with
    | head => exact ⟨c1, h1⟩
    | tail _ hx => exact Rows.mem h2 x hx

theorem K.rep_wf {w : World} {ok : Nat → Prop} : ∀ (k : K) (x : k.T) (cs : List Value), k.rep w ok x cs → k.wf x := by
  intro k
  induction k with
  | pair a b iha ihb => intro x cs h; obtain ⟨c1, c2, rfl, h1, h2⟩ := h; exact ⟨iha _ _ h1, ihb _ _ h2⟩
  | arr n e ih => intro xs cs h; exact ⟨h.1, fun x hx => let ⟨c, hc⟩ := Rows.mem h.2 x hx; ih x c hc⟩
  | slice e ih =>
    intro xs cs h
    obtain ⟨A, cap, rfl, h1, h2, h3⟩ := h
    refine ⟨h2, fun x hx => ?_⟩
    rcases h3 with h3 | ⟨b, off, vs, _, _, h4, _⟩
    · have e0 : (xs : List e.T) = [] := h3
      rw [e0] at hx; cases hx
    · obtain ⟨c, hc⟩ := Rows.mem h4 x hx; exact ih x c hc
  | ptr e ih =>
    intro p cs h x hx
    rcases h with ⟨h1, _⟩ | ⟨y, b, off, vs, h1, _, _, h2, _⟩
    · rw [h1] at hx; cases hx
    · rw [h1] at hx; cases hx; exact ih _ _ h2
  | _ => intro x cs h; trivial

theorem KRep.wf {w : World} {ok : Nat → Prop} {k : K} {x : k.T} {v : Value} (h : KRep w ok k x v) : k.wf x := by
  unfold KRep at h
  split at h
  · obtain ⟨vs, _, h⟩ := h; exact K.rep_wf _ _ _ h
  · exact K.rep_wf _ _ _ h

def KS.wf : (ks : List K) → KS ks → Prop
  | [], _ => True
  | k :: ks, x => k.wf x.1 ∧ KS.wf ks x.2

theorem ArgsRep.wf {w : World} {ok : Nat → Prop} : ∀ (ks : List K) (x : KS ks) (vs : List Value), ArgsRep w ok ks x vs → KS.wf ks x
  | [], _, _, _ => trivial
  | k :: ks, x, vs, h => by obtain ⟨v, r, rfl, h1, h2⟩ := h; exact ⟨h1.wf, ArgsRep.wf ks x.2 r h2⟩

section
variable {P : Program} {cx : Cx} (hx : CxOk P cx) (hmix : P.follows .mixedOrders = true) (hn : Hn)
include hx hmix

theorem det_holds_wf {f : FuncId} {nt : Nat} {vars : List ResultVar} {code : Code} (hf : FnAt P f nt vars code) {ks : List K} {rs : List RK} {pre : KS ks → Prop} {g : KS ks → RS rs}
    (h : ∀ x, pre x → KS.wf ks x → fnEval cx hn nt vars code ks rs x (fun r => r = g x)) : (Con.det ks rs pre g).holds P cx.glob f := by
  intro w x vs ha hg hp
  rcases fn_spec hx hmix hn hf ha hg (h x hp ha.wf) with ⟨v, w', h1, r, rfl, h2⟩ | ⟨h1, h2⟩
  · exact .inl ⟨v, w', h1, h2⟩
  · exact .inr ⟨h1, h2.mono fun e w' => by rintro ⟨v, e1, r, rfl, h3⟩; exact ⟨v, e1, h3⟩⟩

theorem det_holdsI {call : CallEv} (hcall : CallOk P cx call) {f : FuncId} {nt : Nat} {vars : List ResultVar} {code : Code} (hf : FnAt P f nt vars code) {ks : List K} {rs : List RK} {pre : KS ks → Prop} {g : KS ks → RS rs}
    (h : ∀ x, pre x → fnEvalI cx hn call nt vars code ks rs x (fun r => r = g x)) : (Con.det ks rs pre g).holds P cx.glob f := by
  intro w x vs ha hg hp
  rcases fn_specI hx hmix hn hcall hf ha hg (h x hp) with ⟨v, w', h1, r, rfl, h2⟩ | ⟨h1, h2⟩
  · exact .inl ⟨v, w', h1, h2⟩
  · exact .inr ⟨h1, h2.mono fun e w' => by rintro ⟨v, e1, r, rfl, h3⟩; exact ⟨v, e1, h3⟩⟩

theorem rel_holdsI {call : CallEv} (hcall : CallOk P cx call) {f : FuncId} {nt : Nat} {vars : List ResultVar} {code : Code} (hf : FnAt P f nt vars code) {ks : List K} {rs : List RK} {pre : KS ks → Prop} {post : KS ks → RS rs → Prop} {ne : ∀ a, pre a → ∃ r, post a r}
    (h : ∀ x, pre x → KS.wf ks x → fnEvalI cx hn call nt vars code ks rs x (post x)) : (Con.rel ks rs pre post ne).holds P cx.glob f := by
  intro w x vs ha hg hp
  exact fn_specI hx hmix hn hcall hf ha hg (h x hp ha.wf)

theorem det_holdsI_wf {call : CallEv} (hcall : CallOk P cx call) {f : FuncId} {nt : Nat} {vars : List ResultVar} {code : Code} (hf : FnAt P f nt vars code) {ks : List K} {rs : List RK} {pre : KS ks → Prop} {g : KS ks → RS rs}
    (h : ∀ x, pre x → KS.wf ks x → fnEvalI cx hn call nt vars code ks rs x (fun r => r = g x)) : (Con.det ks rs pre g).holds P cx.glob f := by
  intro w x vs ha hg hp
  rcases fn_specI hx hmix hn hcall hf ha hg (h x hp ha.wf) with ⟨v, w', h1, r, rfl, h2⟩ | ⟨h1, h2⟩
  · exact .inl ⟨v, w', h1, h2⟩
  · exact .inr ⟨h1, h2.mono fun e w' => by rintro ⟨v, e1, r, rfl, h3⟩; exact ⟨v, e1, h3⟩⟩

/-! The same, the code's meaning given in print. -/

theorem detP {f : FuncId} {nt : Nat} {vars : List ResultVar} {code : Code} (hf : FnAt P f nt vars code) {ks : List K} {rs : List RK} {pre : KS ks → Prop} {g : KS ks → RS rs}
    {F : KS ks → (RS rs → Prop) → Prop} (he : ∀ x post, fnEval cx hn nt vars code ks rs x post = F x post) (h : ∀ x, pre x → KS.wf ks x → F x (fun r => r = g x)) : (Con.det ks rs pre g).holds P cx.glob f :=
  det_holds_wf hx hmix hn hf fun x hp hw => (he x _).mpr (h x hp hw)
theorem relP {f : FuncId} {nt : Nat} {vars : List ResultVar} {code : Code} (hf : FnAt P f nt vars code) {ks : List K} {rs : List RK} {pre : KS ks → Prop} {post : KS ks → RS rs → Prop} {ne : ∀ a, pre a → ∃ r, post a r}
    {F : KS ks → (RS rs → Prop) → Prop} (he : ∀ x post, fnEval cx hn nt vars code ks rs x post = F x post) (h : ∀ x, pre x → KS.wf ks x → F x (post x)) : (Con.rel ks rs pre post ne).holds P cx.glob f :=
  rel_holdsI hx hmix hn noCall_ok hf fun x hp hw => (he x _).mpr (h x hp hw)
theorem detPI {call : CallEv} (hcall : CallOk P cx call) {f : FuncId} {nt : Nat} {vars : List ResultVar} {code : Code} (hf : FnAt P f nt vars code) {ks : List K} {rs : List RK} {pre : KS ks → Prop} {g : KS ks → RS rs}
    {F : KS ks → (RS rs → Prop) → Prop} (he : ∀ x post, fnEvalI cx hn call nt vars code ks rs x post = F x post) (h : ∀ x, pre x → KS.wf ks x → F x (fun r => r = g x)) : (Con.det ks rs pre g).holds P cx.glob f :=
  det_holdsI_wf hx hmix hn hcall hf fun x hp hw => (he x _).mpr (h x hp hw)
theorem relPI {call : CallEv} (hcall : CallOk P cx call) {f : FuncId} {nt : Nat} {vars : List ResultVar} {code : Code} (hf : FnAt P f nt vars code) {ks : List K} {rs : List RK} {pre : KS ks → Prop} {post : KS ks → RS rs → Prop} {ne : ∀ a, pre a → ∃ r, post a r}
    {F : KS ks → (RS rs → Prop) → Prop} (he : ∀ x post, fnEvalI cx hn call nt vars code ks rs x post = F x post) (h : ∀ x, pre x → KS.wf ks x → F x (post x)) : (Con.rel ks rs pre post ne).holds P cx.glob f :=
  rel_holdsI hx hmix hn hcall hf fun x hp hw => (he x _).mpr (h x hp hw)
end

/-- A contract whose answer gets a name of its own where it is used. -/
def Con.nam (ks : List K) (rs : List RK) (pre : KS ks → Prop) (f : KS ks → RS rs) : Con := .rel ks rs pre (fun x r => r = f x) fun a _ => ⟨f a, rfl⟩
theorem nam_of_det {P : Program} {G : Globs} {f : FuncId} {ks : List K} {rs : List RK} {pre : KS ks → Prop} {g : KS ks → RS rs} (h : (Con.det ks rs pre g).holds P G f) : (Con.nam ks rs pre g).holds P G f := by
  intro w x vs ha hg hp
  rcases h w x vs ha hg hp with ⟨v, w', h1, h2⟩ | ⟨h1, h2⟩
  · exact .inl ⟨v, w', h1, g x, rfl, h2⟩
  · exact .inr ⟨h1, h2.mono fun e w' => by rintro ⟨v, e1, h3⟩; exact ⟨v, e1, g x, rfl, h3⟩⟩
end Go.Lift

/- Arguments that read as data are data of the kinds: what a row needs. Own work. -/
set_option linter.unusedVariables false
set_option linter.unusedSimpArgs false
namespace Go.Lift

/-- Numbers are in their kinds' ranges. -/
def K.rng : (k : K) → k.T → Prop
  | .int k, n => (Lit.int k n).wf = true
  | .flt k, b => (Lit.float k b).wf = true
  | .pair a b, x => a.rng x.1 ∧ b.rng x.2
  | .arr n e, xs => ∀ x, List.Mem (α := e.T) x xs → e.rng x
  | .slice e, xs => (∀ x, List.Mem (α := e.T) x xs → e.rng x)
  | _, _ => True

mutual
/-- What kind a type is. -/
inductive KT (P : Program) : TypeId → K → Prop
  | int {t : TypeId} {k : IntKind} : P.underlying t = some (.int k) → KT P t (.int k)
  | flt {t : TypeId} {k : FloatKind} : P.underlying t = some (.float k) → KT P t (.flt k)
  | bool {t : TypeId} : P.underlying t = some .bool → KT P t .bool
  | slice {t te : TypeId} {e : K} : P.underlying t = some (.slice te) → P.cellsOf te = e.sz → 0 < e.sz → 1 ≤ P.bytesOf te → KT P te e → KT P t (.slice e)
  | arr {t te : TypeId} {n : Nat} {e : K} : P.underlying t = some (.array n te) → P.cellsOf te = e.sz → P.cellsOf t = n * e.sz → KT P te e → KT P t (.arr n e)
  | struct {t : TypeId} {fs : Array Field} {a b : K} : P.underlying t = some (.struct fs) → P.cellsOf t = (K.pair a b).sz → KFs P fs.toList 0 (.pair a b) → KT P t (.pair a b)
inductive KFs (P : Program) : List Field → Nat → K → Prop
  | one {f : Field} {off : Nat} {k : K} : f.offset = off → P.cellsOf f.type = k.sz → KT P f.type k → KFs P [f] off k
  | cons {f : Field} {fs : List Field} {off : Nat} {a b : K} : f.offset = off → P.cellsOf f.type = a.sz → KT P f.type a → KFs P fs (off + a.sz) b → KFs P (f :: fs) off (.pair a b)
end

theorem range_mapM {β : Type} (f : Nat → Option β) : ∀ (n : Nat) (l : List β), (List.range n).mapM f = some l → l.length = n ∧ ∀ i, i < n → ∃ b, l[i]? = some b ∧ f i = some b := by
  intro n l h
  have h2 : ∀ (is : List Nat) (l : List β), is.mapM f = some l → l.length = is.length ∧ ∀ (j i : Nat), is[j]? = some i → ∃ b, l[j]? = some b ∧ f i = some b := by
    intro is
    induction is with
    | nil => intro l h; rw [List.mapM_nil] at h; cases h; exact ⟨rfl, fun j i h => by simp at h⟩
    | cons i is ih =>
      intro l h
      rw [List.mapM_cons] at h
      cases hf : f i with
      | none => rw [hf] at h; cases h
      | some b =>
        rw [hf] at h
        cases hm : is.mapM f with
        | none => rw [hm] at h; cases h
        | some l' =>
          rw [hm] at h
          cases h
          obtain ⟨h1, h2⟩ := ih l' hm
          refine ⟨by simp [h1], fun j i' hj => ?_⟩
          cases j with
          | zero => simp at hj; subst hj; exact ⟨b, rfl, hf⟩
          | succ j => simpa using h2 j i' (by simpa using hj)
  obtain ⟨h3, h4⟩ := h2 _ _ h
  exact ⟨by simpa using h3, fun i hi => h4 i i (by simp [hi])⟩

theorem rows_of {α : Type} {R : α → List Value → Prop} {G : α → Prop} {C : Nat → Value → Prop} {s : Nat} : ∀ (n : Nat), (∀ i, i < n → ∃ x cs, R x cs ∧ G x ∧ cs.length = s ∧ ∀ j v, cs[j]? = some v → C (i * s + j) v) →
    ∃ (xs : List α) (vs : List Value), xs.length = n ∧ Rows R xs vs ∧ vs.length = n * s ∧ (∀ x, List.Mem x xs → G x) ∧ ∀ j v, vs[j]? = some v → C j v
  | 0, _ => ⟨[], [], rfl, rfl, by simp, (fun x h => nomatch h), fun j v h => by simp at h⟩
  | n + 1, h => by
    obtain ⟨xs, vs, h1, h2, h3, h4, h5⟩ := rows_of n fun i hi => h i (by omega)
    obtain ⟨x, cs, g1, g2, g3, g4⟩ := h n (by omega)
    refine ⟨xs ++ [x], vs ++ cs, by simp [h1], Rows.append h2 ⟨cs, [], by simp, g1, rfl⟩, by simp [h3, g3, Nat.add_mul], ?_, ?_⟩
    · intro y hy
      rcases List.mem_append.1 hy with hy | hy
      · exact h4 y hy
      · cases hy with
        | head => exact g2
        | tail _ hy => cases hy
    · intro j v hv
      rw [List.getElem?_append] at hv
      split at hv
      · exact h5 j v hv
      · rename_i hl
        have := g4 (j - vs.length) v hv
        rwa [show n * s + (j - vs.length) = j by omega] at this

theorem cells_at {w : World} {b : Nat} {a : Addr} {n : Nat} {cs : List Value} (h : w.cells? b a n = some cs) : cs.length = n ∧ ∀ j v, cs[j]? = some v → w.cell? (a.add j) = some v := by
  unfold World.cells? at h
  split at h
  · obtain ⟨h1, h2⟩ := range_mapM _ _ _ h
    refine ⟨h1, fun j v hv => ?_⟩
    obtain ⟨v', h3, h4⟩ := h2 j (by rw [← h1]; exact (List.getElem?_eq_some_iff.1 hv).1)
    rw [hv] at h3; cases h3; exact h4
  · cases h

theorem cell_spot {w : World} {a : Addr} {v : Value} (h : w.cell? a = some v) : a.spot = none ∧ a.block < w.heap.size := by
  unfold World.cell? at h
  split at h
  · rename_i hh
    split at h
    · cases h
    · rename_i hs
      exact ⟨by simpa using hs, lt_of_some hh⟩
  · cases h

theorem mem_weightsAll {H : Type} {P : Program} {e : TypeId} {d : DataW H} : ∀ {l : List (DataW H)}, d ∈ l → ∀ m ∈ d.weights P e, m ∈ DataW.weightsAll P e l
  | x :: l, h, m, hm => by
    simp only [DataW.weightsAll, List.mem_append]
    rcases List.mem_cons.1 h with rfl | h
    · exact .inl hm
    · exact .inr (mem_weightsAll h m hm)

section
variable {H : Type} {enc : TypeId × Value → H} {P : Program} {w : World}

def Reached (P : Program) (t : TypeId) (d : DataW H) : Prop := ∀ m ∈ d.weights P t, m ≤ reachBytes

theorem mapM_cons_some {α β : Type} {f : α → Option β} {a : α} {l : List α} {r : List β} (h : (a :: l).mapM f = some r) : ∃ b r', f a = some b ∧ l.mapM f = some r' ∧ r = b :: r' := by
  rw [List.mapM_cons] at h
  cases hf : f a with
  | none => rw [hf] at h; cases h
  | some b =>
    rw [hf] at h
    cases hm : l.mapM f with
    | none => rw [hm] at h; cases h
    | some l' => rw [hm] at h; cases h; exact ⟨b, l', rfl, rfl, rfl⟩

theorem trod_flt {held : Bool} {t : TypeId} {k : FloatKind} {fuel : Nat} {cs : List Value} {x : DataW H × List MemPlace} (ht : P.underlying t = some (.float k)) (h : DataW.trod enc P w 0 (fun _ => true) held fuel t cs = some x) :
    ∃ b, cs = [.float k b] ∧ (Lit.float k b).wf = true := by
  cases fuel with
  | zero => simp [DataW.trod] at h
  | succ n =>
    unfold DataW.trod at h
    rw [ht] at h
    split at h <;> simp_all

mutual
theorem trod_rep {held : Bool} : ∀ {t : TypeId} {k : K} (hk : KT P t k) {fuel : Nat} {cs : List Value} {x : DataW H × List MemPlace}, DataW.trod enc P w 0 (fun _ => true) held fuel t cs = some x → Reached P t x.1 →
    ∃ x : k.T, k.rep w (fun b => b < w.heap.size) x cs ∧ k.rng x
  | _, _, .int (k := k) ht, fuel, cs, x, h, hr => by
    obtain ⟨n, h1, _, h2⟩ := DataW.trod_int ht h
    exact ⟨n, h1, h2⟩
  | t, _, .flt (k := k) ht, fuel, cs, x, h, hr => by
    obtain ⟨b, h1, h2⟩ := trod_flt ht h
    exact ⟨b, h1, h2⟩
  | _, _, .bool ht, fuel, cs, x, h, hr => by
    obtain ⟨b, h1, _⟩ := DataW.trod_bool ht h
    exact ⟨b, h1, trivial⟩
  | t, _, .slice (te := te) (e := e) ht hc hp hb he, fuel, cs, x, h, hr => by
    rcases DataW.trod_slice ht h with ⟨rfl, rfl⟩ | ⟨a, len, cap, elems, rest, n, rfl, rfl, rfl, h1, h2, h3, h4, h5, h6, h7⟩
    · exact ⟨[], ⟨none, 0, rfl, Nat.le_refl _, Nat.zero_le _, .inl rfl⟩, (fun y h => nomatch h)⟩
    · have hlen : len ≤ maxN := by
        have : (elems.length + rest.length) * P.bytesOf te ≤ reachBytes := hr _ (by simp only [DataW.weights, ht]; simp)
        have h8 : elems.length * 1 ≤ (elems.length + rest.length) * P.bytesOf te := Nat.mul_le_mul (by omega) hb
        unfold reachBytes at this
        unfold maxN
        omega
      rw [hc] at h5
      obtain ⟨xs, vs, g1, g2, g3, g4, g5⟩ := rows_of (R := e.rep w (fun b => b < w.heap.size)) (G := e.rng) (C := fun j v => w.cell? (a.add j) = some v) (s := e.sz) len (fun i hi => by
        have h8 := h5 i hi
        rw [List.getElem?_eq_getElem (by omega)] at h8
        obtain ⟨cs, h9, h10⟩ := Option.bind_eq_some_iff.1 h8
        obtain ⟨hl, hat⟩ := cells_at h9
        obtain ⟨y, h11, h12⟩ := trod_rep he h10 (fun m hm => hr m (by
          simp only [DataW.weights, ht, List.mem_cons, List.mem_append]
          exact .inr (.inl (mem_weightsAll (List.mem_map.2 ⟨_, List.getElem_mem _, rfl⟩) m hm))))
        refine ⟨y, cs, h11, h12, hl, fun j v hj => ?_⟩
        have := hat j v hj
        rw [show a.add (i * e.sz + j) = (a.add (i * e.sz)).add j by
          unfold Addr.add
          by_cases e1 : i * e.sz = 0
          · rw [if_pos e1, e1]; simp
          · by_cases e2 : j = 0
            · subst e2; simp
            · rw [if_neg e1, if_neg (by omega), if_neg e2]; simp; omega]
        exact this)
      refine ⟨xs, ⟨some a, cap, by rw [← g1], by show List.length xs ≤ cap; omega, by show List.length xs ≤ maxN; omega, ?_⟩, g4⟩
      by_cases hx : len = 0
      · exact .inl (List.eq_nil_of_length_eq_zero (by omega))
      · have hv0 : 0 < vs.length := by rw [g3]; exact Nat.mul_pos (by omega) hp
        have hc0 := g5 0 _ (List.getElem?_eq_getElem hv0)
        have ha0 : a.add 0 = a := rfl
        rw [ha0] at hc0
        obtain ⟨s1, s2⟩ := cell_spot hc0
        obtain ⟨ab, ao, asp⟩ := a
        obtain rfl : asp = none := s1
        refine .inr ⟨ab, ao, vs, rfl, s2, g2, fun j v hj => ?_⟩
        have := g5 j v hj
        unfold Addr.add at this
        by_cases e : j = 0
        · subst e; exact this
        · rw [if_neg e] at this; exact this
  | t, _, .arr (te := te) (n := n) (e := e) ht hc hs he, fuel, cs, x, h, hr => by
    obtain ⟨xs, m, rfl, rfl, h1, h2, h3⟩ := DataW.trod_array ht h
    rw [hc] at h3
    rw [hs] at h1
    obtain ⟨ys, vs, g1, g2, g3, g4, g5⟩ := rows_of (R := e.rep w (fun b => b < w.heap.size)) (G := e.rng) (C := fun j v => cs[j]? = some v) (s := e.sz) n (fun i hi => by
      have h8 := h3 i hi
      rw [List.getElem?_eq_getElem (by omega)] at h8
      obtain ⟨y, h11, h12⟩ := trod_rep he h8 (fun m hm => hr m (by
        simp only [DataW.weights, ht]
        exact mem_weightsAll (List.mem_map.2 ⟨_, List.getElem_mem _, rfl⟩) m hm))
      have : (i + 1) * e.sz ≤ n * e.sz := Nat.mul_le_mul_right _ (by omega)
      rw [Nat.add_mul] at this
      refine ⟨y, _, h11, h12, by rw [List.length_take, List.length_drop]; omega, fun j v hj => ?_⟩
      rw [List.getElem?_take] at hj
      split at hj
      · rw [List.getElem?_drop] at hj; exact hj
      · cases hj)
    have : vs = cs := by
      apply List.ext_getElem (by omega)
      intro i hi1 hi2
      have := g5 i _ (List.getElem?_eq_getElem hi1)
      rw [List.getElem?_eq_getElem hi2] at this
      exact (Option.some.inj this).symm
    subst this
    exact ⟨ys, ⟨g1, g2⟩, g4⟩
  | t, _, .struct (fs := fs) (a := a) (b := b) ht hs hf, fuel, cs, x, h, hr => by
    obtain ⟨xs, m, rfl, rfl, h1, h2, h3⟩ := DataW.trod_struct ht h
    have h4 : ∀ m ∈ DataW.weightsEach P (fs.toList.map (·.type)) (xs.map (·.1)), m ≤ reachBytes := fun m hm => hr m (by simp only [DataW.weights, ht]; exact hm)
    obtain ⟨y, g1, g2⟩ := trods_rep hf (fun i f hfi => h3 i f (by simpa using hfi)) (by simpa using h2) (by rw [h1, hs]; simp) h4
    refine ⟨y, ?_, g2⟩
    rw [List.drop_zero, List.take_of_length_le (by rw [h1, hs]; exact Nat.le_refl _)] at g1
    exact g1
theorem trods_rep {held : Bool} : ∀ {fs : List Field} {off : Nat} {k : K} (hk : KFs P fs off k) {n : Nat} {cs : List Value} {ds : List (DataW H × List MemPlace)},
    (∀ (i : Nat) (f : Field), fs[i]? = some f → DataW.trod enc P w 0 (fun _ => true) held n f.type ((cs.drop f.offset).take (P.cellsOf f.type)) = ds[i]?) → ds.length = fs.length → off + k.sz ≤ cs.length →
    (∀ m ∈ DataW.weightsEach P (fs.map (·.type)) (ds.map (·.1)), m ≤ reachBytes) → ∃ x : k.T, k.rep w (fun b => b < w.heap.size) x ((cs.drop off).take k.sz) ∧ k.rng x
  | _, _, _, .one (f := f) (off := off) (k := k) ho hs hk, n, cs, ds, h, hd, hl, hr => by
    match ds, hd with
    | [d], _ =>
      have h1 := h 0 f rfl
      rw [ho, hs] at h1
      exact trod_rep hk h1 (fun m hm => hr m (by simp [DataW.weightsEach, hm]))
  | _, _, _, .cons (f := f) (fs := fs) (off := off) (a := a) (b := b) ho hs hk hks, n, cs, ds, h, hd, hl, hr => by
    match ds, hd with
    | d :: ds, hd =>
      have h1 := h 0 f rfl
      rw [ho, hs] at h1
      have hsz : (K.pair a b).sz = a.sz + b.sz := rfl
      obtain ⟨x, g1, g2⟩ := trod_rep hk h1 (fun m hm => hr m (by simp [DataW.weightsEach, hm]))
      obtain ⟨y, g3, g4⟩ := trods_rep hks (ds := ds) (fun i f hf => h (i + 1) f (by simpa using hf)) (by simpa using hd) (by omega) (fun m hm => hr m (by simp only [List.map_cons, DataW.weightsEach, List.mem_append]; exact .inr hm))
      refine ⟨(x, y), ⟨_, _, ?_, g1, g3⟩, g2, g4⟩
      rw [hsz, List.take_add, List.drop_drop]
end
end
end Go.Lift

/- A law's row from its contract. Own work. -/
set_option linter.unusedVariables false
set_option linter.unusedSimpArgs false
namespace Go.Lift
open Go.ChangeShapes Go.WideShapes Go.RowKit

def KS.rng : (ks : List K) → KS ks → Prop
  | [], _ => True
  | k :: ks, x => k.rng x.1 ∧ KS.rng ks x.2

section
variable {H : Type} {enc : TypeId × Value → H} {P : Program}

theorem okWide_cells {W : World} {base : Nat} {t : TypeId} {k : K} {v : Value} (hk : KT P t k) (h : Value.okWide P W .any base t v) : if k.agg then ∃ vs, v = .agg vs else v.cells.toList = [v] := by
  cases hk with
  | int ht => simp only [K.agg]; obtain ⟨n, rfl⟩ := okWide_int ht h; rfl
  | flt ht =>
    simp only [K.agg]
    simp only [Value.okWide, ht, Cell.okWide] at h
    cases v <;> first | rfl | (simp [Cell.ok, ht] at h)
  | bool ht => simp only [K.agg]; obtain ⟨n, rfl⟩ := okWide_bool ht h; rfl
  | slice ht _ _ _ _ =>
    simp only [K.agg]
    simp only [Value.okWide, ht, Cell.okWide] at h
    cases v <;> first | rfl | (simp [Cell.ok, ht] at h)
  | arr ht _ _ _ =>
    simp only [K.agg, if_true]
    simp only [Value.okWide, ht] at h
    obtain ⟨cs, rfl, _⟩ := h
    exact ⟨cs, rfl⟩
  | struct ht _ _ =>
    simp only [K.agg, if_true]
    simp only [Value.okWide, ht] at h
    obtain ⟨cs, rfl, _⟩ := h
    exact ⟨cs, rfl⟩

theorem args_rep {W : World} {base : Nat} : ∀ {ts : List TypeId} {ks : List K}, All2 (KT P) ts ks → ∀ {vs : List Value} {ds : List (DataW H)} {ps : List MemPlace}, DataW.TrodAll enc P W 0 (fun _ => true) true ts vs ds ps →
    (∀ (j : Nat) t v, ts[j]? = some t → vs[j]? = some v → Value.okWide P W .any base t v) → (∀ m ∈ DataW.weightsEach P ts ds, m ≤ reachBytes) →
    ∃ x : KS ks, ArgsRep W (fun b => b < W.heap.size) ks x vs ∧ KS.rng ks x ∧ ds.length = ks.length := by
  intro ts ks hk
  induction hk with
  | nil =>
    intro vs ds ps h _ _
    cases vs with
    | nil => cases ds with
      | nil => exact ⟨(), rfl, trivial, rfl⟩
      | cons d ds => exact h.elim
    | cons v vs => cases ds <;> exact h.elim
  | cons hk1 hks ih =>
    intro vs ds ps h hv hr
    cases vs with
    | nil => cases ds <;> exact h.elim
    | cons v vs => cases ds with
      | nil => exact h.elim
      | cons d ds =>
        obtain ⟨p, q, ⟨fuel, h1⟩, h2, _⟩ := h
        obtain ⟨x, g1, g2⟩ := trod_rep hk1 h1 (fun m hm => hr m (by simp only [DataW.weightsEach, List.mem_append]; exact .inl hm))
        obtain ⟨y, g3, g4, g5⟩ := ih h2 (fun j t v ht hv' => hv (j + 1) t v (by simpa using ht) (by simpa using hv')) (fun m hm => hr m (by simp only [DataW.weightsEach, List.mem_append]; exact .inr hm))
        have hc := okWide_cells hk1 (hv 0 _ v rfl rfl)
        refine ⟨(x, y), ⟨v, vs, rfl, ?_, g3⟩, ⟨g2, g4⟩, by simp [g5]⟩
        unfold KRep
        split
        · rename_i ha
          rw [if_pos ha] at hc
          obtain ⟨cs, rfl⟩ := hc
          exact ⟨cs, rfl, g1⟩
        · rename_i ha
          rw [if_neg ha] at hc
          rw [hc] at g1; exact g1

theorem args_keep (hl : laidOutB P = true) {W W' : World} (hg : Grows W W') {sp : Nat → Bool} : ∀ {ts : List TypeId}, (∀ t ∈ ts, P.readableRec t = true ∧ t < P.types.size) → ∀ {vs : List Value} {ds : List (DataW H)} {ps : List MemPlace},
    DataW.TrodAll enc P W 0 (fun _ => true) true ts vs ds ps → (∀ p ∈ ps, p.block < W.heap.size) → (∀ p ∈ ps, sp p.block = true) → DataW.TrodAll enc P W' 0 sp true ts vs ds ps := by
  intro ts
  induction ts with
  | nil => intro _ vs ds ps h _ _; cases vs <;> cases ds <;> first | exact h | exact h.elim
  | cons t ts ih =>
    intro ht vs ds ps h hlt hs
    cases vs with
    | nil => cases ds <;> exact h.elim
    | cons v vs => cases ds with
      | nil => exact h.elim
      | cons d ds =>
        obtain ⟨p, q, h1, h2, rfl⟩ := h
        have hb : Below W.heap.size W W' := ⟨hg.os, hg.tape, hg.output, hg.size, hg.keep⟩
        exact ⟨p, q, WideElems.Trod_stays hl (ht t List.mem_cons_self).1 (ht t List.mem_cons_self).2 h1 (fun x hx => hb.same (hlt x (List.mem_append_left _ hx))) (fun x hx => hs x (List.mem_append_left _ hx)),
          ih (fun t h => ht t (List.mem_cons_of_mem _ h)) h2 (fun x hx => hlt x (List.mem_append_right _ hx)) (fun x hx => hs x (List.mem_append_right _ hx)), rfl⟩

/-- What a row of a law asks of its specification: true, and what came in. -/
def LawSpec (s : ChangeSpec) (n : Nat) : Prop := s.vars = [] ∧ ∀ (H : Type) (ds : List (DataW H)), ds.length = n → s.fn H ds = { results := [.lit (.bool true)], args := ds }

theorem law_handed {C : Checked} {os : Os} {f : FuncId} {fn : Func} {s : ChangeSpec} {ks : List K} {pre : KS ks → Prop} {tb : TypeId} (own : ownKnob C.prog.godebug = none) (started : os.Started) (noInit : C.prog.inits.idxOf? f = none)
    (hfn : C.prog.funcs[f]? = some fn) (hbody : fn.body.isSome = true) (hname : (fn.name == "runtime.NumGoroutine") = false)
    (witness : ∃ (w : World) (tape : Tape) (i : Input), w.os = os ∧ (w.forCall tape i).Shaped C.prog ∧ i.vars = [] ∧ Input.okWide C.prog (w.forCall tape i) .any w.heap.size f i ∧
      s.pre6 enc C.prog fn [] false (w.forCall tape i).memory i.args ∧ ({} : Assume).holds C.prog (lone (Frame.enter C.prog f i.args .normal) [] (w.forCall tape i)))
    (hl : laidOutB C.prog = true) (hks : All2 (KT C.prog) fn.params.toList ks) (hread : ∀ t ∈ fn.params.toList, C.prog.readableRec t = true ∧ t < C.prog.types.size)
    (hres : fn.resultTypes = #[tb]) (htb : C.prog.underlying tb = some .bool) (hs : LawSpec s ks.length)
    (hcon : (Con.det ks [.snap .bool] pre (fun _ => (true, ()))).holds C.prog (fun _ => none) f) (hpre : ∀ x, KS.rng ks x → KS.wf ks x → pre x) :
    ReturnsInHanded {} C os f .any (s.pre6 enc C.prog fn [] false) (s.post enc C.prog fn false true false false) := by
  refine returnsInHanded_of_calls own started noInit witness ?_
  intro w tape i _ _ _ hok hp hholds
  obtain ⟨_, _, _, fn', hfn', _, _, _, _, hval⟩ := hok
  have e : fn' = fn := Option.some.inj (hfn'.symm.trans hfn)
  subst e
  obtain ⟨⟨ds, gs, before, hw, hc⟩, hz⟩ := hp
  have hW := DataW.Whole.of_heap (w' := w.forCall tape i) (by rfl) hw
  have hwt := hz.weights hw
  generalize w.forCall tape i = W at *
  have hlt : ∀ p ∈ before, p.block < W.heap.size := fun p hp => hW.lt p hp
  obtain ⟨p, q, hA, hV, rfl, hfz, hnd⟩ := id hW
  rw [hs.1] at hV
  obtain ⟨rfl, rfl⟩ := trodVars_none hV
  have hvt : (OpenSpec.ofChange s).bare.plain.varTypes C.prog = [] := by
    show (s.plain.varTypes C.prog) = []
    unfold DataSpec.varTypes
    show s.vars.filterMap _ = []
    rw [hs.1]; rfl
  simp only [List.append_nil] at hwt hW hlt
  rw [hvt, List.append_nil, List.all_eq_true] at hwt
  obtain ⟨x, h1, h2, h3⟩ := args_rep hks hA (fun j t v ht hv => hval j t v (by simpa using ht) (by simpa using hv)) (fun m hm => by simpa using hwt m hm)
  have hspec := hcon W x i.args.toList h1 (fun g k y hg => by cases hg) (hpre x h2 h1.wf)
  obtain ⟨code, hcode⟩ := Option.isSome_iff_exists.1 hbody
  have hcalls : Calls C.prog f i.args W fun e w' => ∃ v, e = .returned v ∧ Grows W w' ∧ ResRep W w' [.snap .bool] (true, ()) v := by
    rcases hspec with ⟨v, w', g1, _⟩ | ⟨_, g2⟩
    · have := callFunc_run hfn hcode hname i.args.toList.toArray W
      rw [this] at g1; cases g1
    · simpa using g2
  refine hcalls.mono fun e W' ⟨v, he, hg, hr⟩ => ?_
  subst he
  refine ChangeSpec.post_blind ?_
  have hv : v = .bool true := by
    obtain ⟨vs, obs, hv, _, v0, vr, o1, o2, rfl, _, ⟨_, h5⟩, rfl, _⟩ := hr
    rw [hv]
    exact (List.cons.inj h5).1
  subst hv
  have hds := hs.2 H ds h3
  have hb : Below W.heap.size W W' := ⟨hg.os, hg.tape, hg.output, hg.size, hg.keep⟩
  refine ⟨ds, [], p, [], p, [], hW, ?_, ?_, ?_, World.keptBut_mono (fun p hp => ⟨hp, .inr (.inl hp)⟩) (hb.frame (· ∈ p)), fun h => by cases h⟩
  · rw [List.append_nil, hds, hres]
    exact trodAll_mk1 (RowKit.shut_bool htb true)
  · rw [List.append_nil, hds]
    exact args_keep hl hg hread hA hlt (fun x hx => by simpa using hlt x hx)
  · rw [List.append_nil, hds, hs.1]
    rfl
end
end Go.Lift

/- Kinds of types, decided. Own work. -/
set_option linter.unusedVariables false
set_option linter.unusedSimpArgs false
namespace Go.Lift

def kfsB (P : Program) (chk : TypeId → K → Bool) : List Field → Nat → K → Bool
  | [], _, _ => false
  | [f], off, k => f.offset == off && P.cellsOf f.type == k.sz && chk f.type k
  | f :: fs, off, .pair a b => f.offset == off && P.cellsOf f.type == a.sz && chk f.type a && kfsB P chk fs (off + a.sz) b
  | _, _, _ => false

def ktB (P : Program) : Nat → TypeId → K → Bool
  | 0, _, _ => false
  | n + 1, t, k => match k, P.underlying t with
    | .int i, some (.int j) => i == j
    | .flt i, some (.float j) => i == j
    | .bool, some .bool => true
    | .slice e, some (.slice te) => P.cellsOf te == e.sz && decide (0 < e.sz) && decide (1 ≤ P.bytesOf te) && ktB P n te e
    | .arr m e, some (.array m' te) => m == m' && P.cellsOf te == e.sz && P.cellsOf t == m * e.sz && ktB P n te e
    | .pair a b, some (.struct fs) => P.cellsOf t == (K.pair a b).sz && kfsB P (ktB P n) fs.toList 0 (.pair a b)
    | _, _ => false

theorem kfsB_sound {P : Program} {chk : TypeId → K → Bool} (hc : ∀ t k, chk t k = true → KT P t k) : ∀ (fs : List Field) (off : Nat) (k : K), kfsB P chk fs off k = true → KFs P fs off k
  | [], _, _, h => by cases h
  | [f], off, k, h => by
    have h' : (f.offset == off && P.cellsOf f.type == k.sz && chk f.type k) = true := by
      unfold kfsB at h; exact h
    simp only [Bool.and_eq_true, beq_iff_eq] at h'
    exact .one h'.1.1 h'.1.2 (hc _ _ h'.2)
  | f :: g :: fs, off, k, h => by
    cases k with
    | pair a b =>
      have h' : (f.offset == off && P.cellsOf f.type == a.sz && chk f.type a && kfsB P chk (g :: fs) (off + a.sz) b) = true := by
        unfold kfsB at h; exact h
      simp only [Bool.and_eq_true, beq_iff_eq] at h'
      exact .cons h'.1.1.1 h'.1.1.2 (hc _ _ h'.1.2) (kfsB_sound hc _ _ _ h'.2)
    | _ => unfold kfsB at h; cases h

theorem ktB_sound {P : Program} : ∀ (n : Nat) (t : TypeId) (k : K), ktB P n t k = true → KT P t k
  | 0, _, _, h => by cases h
  | n + 1, t, k, h => by
    unfold ktB at h
    split at h
    · rename_i i j hu; exact .int (by rw [hu, eq_of_beq h])
    · rename_i i j hu; exact .flt (by rw [hu, eq_of_beq h])
    · rename_i hu; exact .bool hu
    · rename_i e te hu
      simp only [Bool.and_eq_true, beq_iff_eq, decide_eq_true_eq] at h
      exact .slice hu h.1.1.1 h.1.1.2 h.1.2 (ktB_sound n te e h.2)
    · rename_i m e m' te hu
      simp only [Bool.and_eq_true, beq_iff_eq] at h
      obtain ⟨⟨⟨rfl, h2⟩, h3⟩, h4⟩ := h
      exact .arr hu h2 h3 (ktB_sound n te e h4)
    · rename_i a b fs hu
      simp only [Bool.and_eq_true, beq_iff_eq] at h
      exact .struct hu h.1 (kfsB_sound (fun t k => ktB_sound n t k) _ _ _ h.2)
    · cases h

def ktsB (P : Program) : List TypeId → List K → Bool
  | [], [] => true
  | t :: ts, k :: ks => ktB P 9 t k && ktsB P ts ks
  | _, _ => false
theorem ktsB_sound {P : Program} : ∀ (ts : List TypeId) (ks : List K), ktsB P ts ks = true → All2 (KT P) ts ks
  | [], [], _ => .nil
  | t :: ts, k :: ks, h => by
    simp only [ktsB, Bool.and_eq_true] at h
    exact .cons (ktB_sound 9 t k h.1) (ktsB_sound ts ks h.2)
  | [], _ :: _, h => by cases h
  | _ :: _, [], h => by cases h
end Go.Lift

/- A table of types, checked against the program by one reckoning. Own work. -/
set_option linter.unusedVariables false
set_option linter.unusedSimpArgs false
namespace Go.Lift

def eqV : Value → Value → Bool
  | .int k n, .int j m => k == j && decide (n = m)
  | .bool a, .bool b => a == b
  | .float k n, .float j m => k == j && n == m
  | .slice none a b, .slice none c d => a == c && b == d
  | .pointer none, .pointer none => true
  | .nilIface, .nilIface => true
  | .nilFunc, .nilFunc => true
  | .map none, .map none => true
  | .chan none, .chan none => true
  | .string a, .string b => a.data.toList == b.data.toList
  | _, _ => false

theorem eqV_sound {a b : Value} (h : eqV a b = true) : a = b := by
  unfold eqV at h
  split at h <;> simp_all
  rename_i x y
  cases x; cases y; simp_all

def eqVs : List Value → List Value → Bool
  | [], [] => true
  | a :: ra, b :: rb => eqV a b && eqVs ra rb
  | _, _ => false
theorem eqVs_sound : ∀ {a b : List Value}, eqVs a b = true → a = b
  | [], [], _ => rfl
  | a :: ra, b :: rb, h => by
    simp only [eqVs, Bool.and_eq_true] at h
    rw [eqV_sound h.1, eqVs_sound h.2]
  | [], _ :: _, h => by cases h
  | _ :: _, [], h => by cases h

def dfltN (f : List Value → Bool) (s : Nat) : Nat → List Value → Bool
  | 0, [] => true
  | 0, _ :: _ => false
  | n + 1, l => f (l.take s) && dfltN f s n (l.drop s)

/-- Is this the kind's nought? -/
def K.dfltB : K → List Value → Bool
  | .int k, l => eqVs l [.int k 0]
  | .bool, l => eqVs l [.bool false]
  | .flt k, l => eqVs l [.float k 0]
  | .unit, l => l.isEmpty
  | .pair a b, l => a.dfltB (l.take a.sz) && b.dfltB (l.drop a.sz)
  | .arr n e, l => dfltN e.dfltB e.sz n l
  | .slice _, l => eqVs l [.slice none 0 0]
  | .ptr _, l => eqVs l [.pointer none]

theorem K.dfltB_sound : ∀ (k : K) {l : List Value}, k.dfltB l = true → ∀ w ok, k.rep w ok k.dflt l := by
  intro k
  induction k with
  | int k => intro l h w ok; exact eqVs_sound h
  | bool => intro l h w ok; exact eqVs_sound h
  | flt k => intro l h w ok; exact eqVs_sound h
  | unit => intro l h w ok; show l = []; exact List.isEmpty_iff.1 h
  | pair a b iha ihb =>
    intro l h w ok
    simp only [K.dfltB, Bool.and_eq_true] at h
    exact ⟨_, _, (List.take_append_drop a.sz l).symm, iha h.1 w ok, ihb h.2 w ok⟩
  | arr n e ih =>
    intro l h w ok
    refine ⟨by show (List.replicate n e.dflt).length = n; simp, ?_⟩
    have h' : dfltN e.dfltB e.sz n l = true := h
    clear h
    show Rows (e.rep w ok) (List.replicate n e.dflt) l
    induction n generalizing l with
    | zero => cases l with
      | nil => rfl
      | cons _ _ => cases h'
    | succ n ihn =>
      simp only [dfltN, Bool.and_eq_true] at h'
      exact ⟨_, _, (List.take_append_drop e.sz l).symm, ih h'.1 w ok, ihn h'.2⟩
  | slice e _ => intro l h w ok; exact ⟨none, 0, eqVs_sound h, Nat.le_refl _, Nat.zero_le _, .inl rfl⟩
  | ptr e _ => intro l h w ok; exact .inl ⟨rfl, eqVs_sound h⟩

def TK.fitsB (P : Program) (t : TypeId) : TK → Bool
  | .int k => match P.underlying t with | some (.int j) => j == k | _ => false
  | .bool => match P.underlying t with | some .bool => true | _ => false
  | .flt k => match P.underlying t with | some (.float j) => j == k | _ => false
  | .slice e => match P.underlying t with | some (.slice d) => d == e | _ => false
  | .arr n e => match P.underlying t with | some (.array m d) => m == n && d == e | _ => false
  | .struct fs => match P.underlying t with | some (.struct fields) => fields.toList.map (fun f => (f.offset, f.type)) == fs | _ => false
  | .ptr e => match P.underlying t with | some (.pointer d) => d == e | _ => false
  | .str => match P.underlying t with | some .string => true | _ => false
  | .plain => false
  | .other => true

theorem TK.fitsB_sound {P : Program} {t : TypeId} {k : TK} (h : k.fitsB P t = true) : k.fits P t := by
  cases k <;> simp only [TK.fitsB] at h <;> simp only [TK.fits]
  case struct fs =>
    split at h
    · rename_i fields hf; exact ⟨fields, hf, by simpa using h⟩
    · cases h
  case plain => cases h
  all_goals first
    | trivial
    | (split at h <;> first | (cases h; done) | (rename_i hu; rw [hu]; simp_all; done) | (rename_i hu; rw [hu]))

def TD.fitsB (P : Program) (t : TypeId) (d : TD) : Bool :=
  d.k.fitsB P t && (match P.info? t with
    | some i => match i.zero with
      | some z => i.size == d.sz && i.bytes == d.bytes && eqVs z.cells.toList d.zero && z.cells.size == d.sz
      | none => false
    | none => false) && (match d.kind with
    | some k => k.sz == d.sz && d.k.agg == some k.agg && k.dfltB d.zero
    | none => true)

theorem TD.fitsB_sound {P : Program} {t : TypeId} {d : TD} (h : d.fitsB P t = true) : d.Fits P t := by
  simp only [TD.fitsB, Bool.and_eq_true] at h
  obtain ⟨⟨h1, h2⟩, h3⟩ := h
  refine ⟨TK.fitsB_sound h1, ?_, ?_⟩
  · split at h2
    · rename_i i hi
      split at h2
      · rename_i z hz
        simp only [Bool.and_eq_true, beq_iff_eq] at h2
        exact ⟨i, z, hi, h2.1.1.1, h2.1.1.2, hz, eqVs_sound h2.1.2, h2.2⟩
      · cases h2
    · cases h2
  · intro k hk
    rw [hk] at h3
    simp only [Bool.and_eq_true, beq_iff_eq] at h3
    exact ⟨h3.1.1, h3.1.2, K.dfltB_sound k h3.2⟩

def tabOf (L : List (Nat × TD)) (t : Nat) : Option TD := match L with
  | [] => none
  | x :: L => if Nat.beq x.1 t then some x.2 else tabOf L t
def tabB (P : Program) : List (Nat × TD) → Bool
  | [] => true
  | x :: L => x.2.fitsB P x.1 && tabB P L
theorem tabB_sound {P : Program} : ∀ {L : List (Nat × TD)}, tabB P L = true → ∀ t d, tabOf L t = some d → d.Fits P t
  | [], _, t, d, h => by cases h
  | x :: L, hb, t, d, h => by
    simp only [tabB, Bool.and_eq_true] at hb
    simp only [tabOf] at h
    split at h
    · rename_i e
      cases h
      rw [← Nat.eq_of_beq_eq_true e]
      exact TD.fitsB_sound hb.1
    · exact tabB_sound hb.2 t d h

def tInt (k : IntKind) (b : Nat) : TD := ⟨.int k, 1, b, [.int k 0], some (.int k)⟩
def tBool : TD := ⟨.bool, 1, 1, [.bool false], some .bool⟩
def tFlt (k : FloatKind) (b : Nat) : TD := ⟨.flt k, 1, b, [.float k 0], some (.flt k)⟩
def tSlice (e : TypeId) (k : K) : TD := ⟨.slice e, 1, 24, [.slice none 0 0], some (.slice k)⟩
def tStr : TD := ⟨.str, 1, 16, [.string ⟨#[]⟩], none⟩

def noHn : Hn := { loops := fun _ => none, joins := fun _ => none }
def nHn : Hn := { loops := fun _ => none, joins := fun _ => none, named := true }
def lawCon (ks : List K) : Con := .det ks [.snap .bool] (fun x => KS.rng ks x ∧ KS.wf ks x) (fun _ => (true, ()))

/-- A list of contracts, each shown. -/
def conOf (L : List (Nat × Con)) (f : Nat) : Option Con := match L with
  | [] => none
  | x :: L => if Nat.beq x.1 f then some x.2 else conOf L f
def ConsOk (P : Program) (G : Globs) : List (Nat × Con) → Prop
  | [] => True
  | x :: L => x.2.holds P G x.1 ∧ ConsOk P G L
theorem conOf_sound {P : Program} {G : Globs} : ∀ {L : List (Nat × Con)}, ConsOk P G L → ∀ f c, conOf L f = some c → c.holds P G f
  | [], _, f, c, h => by cases h
  | x :: L, hb, f, c, h => by
    simp only [conOf] at h
    split at h
    · rename_i e
      cases h
      rw [← Nat.eq_of_beq_eq_true e]
      exact hb.1
    · exact conOf_sound hb.2 f c h
end Go.Lift

/- What the small functions on floats answer. Own work. -/
set_option linter.unusedVariables false
set_option linter.unusedSimpArgs false
namespace Go.Lift

def r1 {α : Type} (a : α) : α × Unit := (a, ())
def W2 (a b : Nat) : Prop := W64 a ∧ W64 b
def W3 (a b c : Nat) : Prop := W64 a ∧ W64 b ∧ W64 c
def WL (l : List Nat) : Prop := ∀ x ∈ l, W64 x
def bitsR (b : Nat) : Int × Unit := r1 (b : Int)
def fromR (n : Int) : Nat × Unit := r1 n.toNat
def sameR (a b : Nat) : Bool × Unit := r1 (decide (a = b))
def qnR : Nat × Unit := r1 QN
def zeroR : Nat × Unit := r1 0
def absR (b : Nat) : Nat × Unit := r1 (rungOf b)
def nanR (b : Nat) : Bool × Unit := r1 (isN b)
def noR (_ : Int) : Bool × Unit := r1 false
def magI (b : Nat) : Int := (rungOf b : Nat)
def magR (b : Nat) : Int × Unit := r1 (magI b)
def belowR (b : Nat) : Bool × Unit := r1 (sgn b)
def canonR (b : Nat) : Nat × Unit := r1 (canonF b)
def quietR (b : Nat) : Nat × Unit := r1 (quietF b)
def mag2 (b : Nat) : Int := 2 * magI b
def mag2R (b : Nat) : Int × Unit := r1 (mag2 b)
/-- A float's place among all. -/
def placeI (b : Nat) : Int := if sgn b then 18446744073709551615 - (b : Int) else (b : Int) + 9223372036854775808
def placeR (b : Nat) : Int × Unit := r1 (placeI b)
def cmpI (a b : Int) : Int := if a < b then -1 else if a > b then 1 else 0
def cmpR (a b : Int) : Int × Unit := r1 (cmpI a b)
def UU (a b : Int) : Prop := U64 a ∧ U64 b
def ordF (a b : Nat) : Int := cmpI (placeI a) (placeI b)
def ordR (a b : Nat) : Int × Unit := r1 (ordF a b)
def firstNZ : List Int → Int
  | [] => 0
  | x :: l => if x ≠ 0 then x else firstNZ l
def orR (l : List Int) : Int × Unit := r1 (firstNZ l)
/-- By magnitude, then by place. -/
def cmpM (a b : Nat) : Int := if cmpI (mag2 a) (mag2 b) ≠ 0 then cmpI (mag2 a) (mag2 b) else ordF a b
def cmpMR (a b : Nat) : Int × Unit := r1 (cmpM a b)
def aheadR (a b : Nat) : Bool × Unit := r1 (decide (cmpM a b < 0))
def infS (x : Nat) (s : Int) : Bool := if s = 0 then decide (rungOf x = infR) else if s < 0 then decide (rungOf x = infR) && sgn x else decide (rungOf x = infR) && !sgn x
def infSR (x : Nat) (s : Int) : Bool × Unit := r1 (infS x s)
def WI (x : Nat) (_ : Int) : Prop := W64 x
def finF (x : Nat) : Bool := decide (rungOf x < infR)
def finR (x : Nat) : Bool × Unit := r1 (finF x)
def classF (x : Nat) : Int := if rungOf x = 0 then 0 else if rungOf x < bin then 1 else if rungOf x < infR then 2 else if rungOf x = infR then 3 else 4
def classR (x : Nat) : Int × Unit := r1 (classF x)
def relF (q : Nat) (r : Nat × Unit) : Prop := quietF r.1 = q ∧ W64 r.1
def sqrtP (x : Nat) (r : Nat × Unit) : Prop := relF (sqrtQ x) r
theorem relF_ne {q : Nat} (h1 : quietF q = q) (h2 : W64 q) : ∃ r, relF q r := ⟨(q, ()), h1, h2⟩

theorem sgn_iff {b : Nat} (h : W64 b) : sgn b = true ↔ 9223372036854775808 ≤ b := by
  unfold sgn sw W64 at *
  rw [beq_iff_eq]
  omega
theorem sgn_dec {b : Nat} (h : W64 b) : sgn b = decide (9223372036854775808 ≤ b) := by
  rw [Bool.eq_iff_iff, sgn_iff h]; simp
theorem rung_lo {b : Nat} (h : b < 9223372036854775808) : rungOf b = b := by unfold rungOf sw; omega
theorem rung_hi {b : Nat} (h : W64 b) (h1 : 9223372036854775808 ≤ b) : rungOf b = b - 9223372036854775808 := by unfold rungOf sw; unfold W64 at h; omega
theorem rung_lt (b : Nat) : rungOf b < 9223372036854775808 := by unfold rungOf sw; omega
theorem wu (x : Int) (h : U64 x) : IntKind.u64.wrap x = x := by obtain ⟨h1, h2⟩ := h; rw [IntKind.wrap_u64]; omega
theorem U_of {b : Nat} (h : W64 b) : U64 (b : Int) := by unfold W64 at h; unfold U64; omega
theorem bool_case {b : Bool} : b = true ∨ b = false := by cases b <;> simp

theorem wi {x : Int} (h : I64 x) : IntKind.i64.wrap x = x := by obtain ⟨h1, h2⟩ := h; simp [IntKind.wrap, IntKind.bits, IntKind.signed]; omega
theorem beq_nat (a b : Nat) : ((a : Int) == (b : Int)) = decide (a = b) := by
  rw [Bool.eq_iff_iff]; simp; omega
theorem Br_ite (b : Bool) (x y : Prop) : Br b x y = if b = true then x else y := by cases b <;> simp [Br]

theorem ofNat64 {a : Nat} (h : a < 18446744073709551616) : (BitVec.ofInt 64 (a : Int)).toNat = a := by
  rw [BitVec.ofInt_natCast, BitVec.toNat_ofNat]; exact Nat.mod_eq_of_lt h
theorem andNot_sign {a : Nat} (h : W64 a) : Go.bits .andNot .u64 (a : Int) 9223372036854775808 = (rungOf a : Nat) := by
  show IntKind.u64.wrap ((BitVec.ofInt 64 (a : Int) &&& ~~~ BitVec.ofInt 64 ((9223372036854775808 : Nat) : Int)).toNat : Int) = _
  have h1 := ofNat64 h
  have h2 := ofNat64 (a := 9223372036854775808) (by decide)
  have e : (BitVec.ofInt 64 (a : Int) &&& ~~~ BitVec.ofInt 64 ((9223372036854775808 : Nat) : Int)) = BitVec.ofNat 64 (rungOf a) := by
    rw [show BitVec.ofInt 64 (a : Int) = BitVec.ofNat 64 a by rw [BitVec.ofInt_natCast]]
    apply BitVec.eq_of_toNat_eq
    have e3 : ~~~ BitVec.ofInt 64 ((9223372036854775808 : Nat) : Int) = BitVec.ofNat 64 (2 ^ 63 - 1) := by decide
    rw [e3, BitVec.toNat_and, BitVec.toNat_ofNat, BitVec.toNat_ofNat, BitVec.toNat_ofNat]
    have e4 : (2 ^ 63 - 1) % 2 ^ 64 = 2 ^ 63 - 1 := by decide
    rw [e4, Nat.and_two_pow_sub_one_eq_mod]
    unfold rungOf sw; unfold W64 at h; omega
  rw [e, BitVec.toNat_ofNat, IntKind.wrap_u64]
  unfold rungOf sw; omega
theorem xor_ones {a : Nat} (h : W64 a) : Go.bits .xor .u64 (if IntKind.u64.signed = true then -1 else IntKind.u64.max) (a : Int) = 18446744073709551615 - (a : Int) := by
  show IntKind.u64.wrap ((BitVec.ofInt 64 IntKind.u64.max ^^^ BitVec.ofInt 64 (a : Int)).toNat : Int) = _
  have e : BitVec.ofInt 64 IntKind.u64.max = BitVec.allOnes 64 := by decide
  rw [e, BitVec.allOnes_xor, BitVec.toNat_not, ofNat64 h, IntKind.wrap_u64]
  unfold W64 at h; omega
theorem or_sign {a : Nat} (h : a < 9223372036854775808) : Go.bits .or .u64 (a : Int) 9223372036854775808 = (a : Int) + 9223372036854775808 := by
  have := bits_or_u64_nat a 9223372036854775808 (by omega) (by decide)
  rw [show ((9223372036854775808 : Nat) : Int) = 9223372036854775808 from rfl] at this
  rw [this]
  have e : a ||| 9223372036854775808 = 9223372036854775808 + a := by
    rw [Nat.or_comm]
    have := Nat.two_pow_add_eq_or_of_lt (i := 63) h 1
    simpa using this.symm
  rw [e]; omega
theorem rung_negF {a : Nat} (h : W64 a) : rungOf (negF a) = rungOf a ∧ True := by
  refine ⟨?_, trivial⟩
  unfold negF Op.negFloat
  show (a ^^^ 2 ^ 63) % 2 ^ 63 = a % 2 ^ 63
  rw [Nat.xor_mod_two_pow, Nat.mod_self, Nat.xor_zero]
theorem sgn_negF {a : Nat} (h : W64 a) : sgn (negF a) = !sgn a := by
  unfold negF Op.negFloat sgn sw
  show ((a ^^^ 2 ^ 63) / 2 ^ 63 % 2 == 1) = !(a / 2 ^ 63 % 2 == 1)
  rw [Nat.xor_div_two_pow, Nat.div_self (by decide), ← Nat.pow_one 2, Nat.xor_mod_two_pow]
  have : a / 2 ^ 63 % 2 ^ 1 = 0 ∨ a / 2 ^ 63 % 2 ^ 1 = 1 := by omega
  rcases this with e | e <;> rw [e] <;> decide
theorem negF_w {a : Nat} (h : W64 a) : W64 (negF a) := by
  unfold negF Op.negFloat W64 at *
  exact Nat.xor_lt_two_pow (n := 64) h (by decide)
theorem gt_max (x : Nat) : fcmp .gtr (Ieee.double.order x 9218868437227405311) = (decide (rungOf x = infR) && !sgn x) := by
  have h0 : isN 9218868437227405311 = false := by decide
  have k0 : keyOf' 9218868437227405311 = 9218868437227405311 := by decide
  cases h : isN x with
  | true =>
    rw [order_nan (.inl h)]
    have : infR < rungOf x := by simpa [isN] using h
    have : ¬ rungOf x = infR := by omega
    simp [this]; rfl
  | false =>
    rw [order_eq h h0, k0]
    have hle : rungOf x ≤ infR := by simpa [isN] using h
    unfold keyOf'
    cases hs : sgn x with
    | true =>
      simp only [if_true, Bool.not_true, Bool.and_false]
      rw [Std.compare_eq_lt.2 (by omega)]; rfl
    | false =>
      simp only [Bool.false_eq_true, if_false, Bool.not_false, Bool.and_true]
      unfold infR at *
      by_cases e : rungOf x = 9218868437227405312
      · rw [Std.compare_eq_gt.2 (by omega)]; simp [e]; rfl
      · rw [show decide (rungOf x = 9218868437227405312) = false by simpa using e]
        by_cases e2 : rungOf x = 9218868437227405311
        · rw [e2]; rfl
        · rw [Std.compare_eq_lt.2 (by omega)]; rfl
theorem eql_self (x : Nat) : fcmp .eql (Ieee.double.order x x) = !isN x := by
  cases h : isN x with
  | true => rw [order_nan (.inl h)]; rfl
  | false => rw [order_eq h h, Std.compare_self]; rfl

theorem ord_same {a b : Nat} (h : a = b) : ordF a b = 0 := by subst h; unfold ordF cmpI; simp
section
variable {a b : Nat}
theorem ord_np (ha : sgn a = true) (hb : sgn b = false) (h1 : W64 a) (h2 : W64 b) : ordF a b = -1 := by
  have g1 := (sgn_iff h1).1 ha
  have g2 : ¬ 9223372036854775808 ≤ b := by rw [← sgn_iff h2, hb]; simp
  unfold ordF cmpI placeI; rw [ha, hb]; simp only [if_true, Bool.false_eq_true, if_false]
  rw [if_pos (by omega)]
theorem ord_pn (ha : sgn a = false) (hb : sgn b = true) (h1 : W64 a) (h2 : W64 b) : ordF a b = 1 := by
  have g1 := (sgn_iff h2).1 hb
  have g2 : ¬ 9223372036854775808 ≤ a := by rw [← sgn_iff h1, ha]; simp
  unfold ordF cmpI placeI; rw [ha, hb]; simp only [if_true, Bool.false_eq_true, if_false]
  rw [if_neg (by omega), if_pos (by omega)]
theorem ord_pp (ha : sgn a = false) (hb : sgn b = false) (h : (a : Int) < b) : ordF a b = -1 := by
  unfold ordF cmpI placeI; rw [ha, hb]; simp only [Bool.false_eq_true, if_false]
  rw [if_pos (by omega)]
theorem ord_pp' (ha : sgn a = false) (hb : sgn b = false) (hn : a ≠ b) (h : (b : Int) ≤ a) : ordF a b = 1 := by
  unfold ordF cmpI placeI; rw [ha, hb]; simp only [Bool.false_eq_true, if_false]
  rw [if_neg (by omega), if_pos (by omega)]
theorem ord_nn (ha : sgn a = true) (hb : sgn b = true) (h : (a : Int) > b) : ordF a b = -1 := by
  unfold ordF cmpI placeI; rw [ha, hb]; simp only [if_true]
  rw [if_pos (by omega)]
theorem ord_nn' (ha : sgn a = true) (hb : sgn b = true) (hn : a ≠ b) (h : (a : Int) ≤ b) : ordF a b = 1 := by
  unfold ordF cmpI placeI; rw [ha, hb]; simp only [if_true]
  rw [if_neg (by omega), if_pos (by omega)]
end
theorem cmpM_ne {a b : Nat} {c : Int} (h : cmpI (mag2 a) (mag2 b) = c) (hc : c ≠ 0) : cmpM a b = c := by unfold cmpM; rw [if_pos (by rw [h]; exact hc), h]
theorem cmpM_eq {a b : Nat} (h : cmpI (mag2 a) (mag2 b) = 0) : cmpM a b = ordF a b := by unfold cmpM; rw [if_neg (by rw [h]; simp)]
theorem ahead_lt {a b : Nat} (h : magI a < magI b) : decide (cmpM a b < 0) = true := by
  rw [cmpM_ne (c := -1) (by unfold cmpI mag2; rw [if_pos (by omega)]) (by decide)]; rfl
theorem ahead_gt {a b : Nat} (h : magI b < magI a) : decide (cmpM a b < 0) = false := by
  rw [cmpM_ne (c := 1) (by unfold cmpI mag2; rw [if_neg (by omega), if_pos (by omega)]) (by decide)]; rfl
theorem ahead_eq {a b : Nat} (h : magI a = magI b) : decide (cmpM a b < 0) = decide (ordF a b < 0) := by
  rw [cmpM_eq (by unfold cmpI mag2; rw [if_neg (by omega), if_neg (by omega)])]
theorem class_0 {x : Nat} (h : (magI x == 0) = true) : classF x = 0 := by
  have : rungOf x = 0 := by have := eq_of_beq h; unfold magI at this; omega
  unfold classF; rw [if_pos this]
theorem class_nz {x : Nat} (h : (magI x == 0) = false) : rungOf x ≠ 0 := by
  intro e; have : (magI x == 0) = true := by rw [beq_iff_eq]; unfold magI; omega
  rw [this] at h; cases h
theorem class_1 {x : Nat} (h : rungOf x ≠ 0) (h1 : decide (magI x < 4503599627370496) = true) : classF x = 1 := by
  have := of_decide_eq_true h1
  unfold classF; rw [if_neg h, if_pos (by unfold magI at this; unfold bin; omega)]
theorem class_2 {x : Nat} (h : rungOf x ≠ 0) (h1 : decide (magI x < 4503599627370496) = false) (h2 : decide (magI x < 9218868437227405312) = true) : classF x = 2 := by
  have := of_decide_eq_false h1
  have := of_decide_eq_true h2
  unfold magI at *
  unfold classF; rw [if_neg h, if_neg (by unfold bin; omega), if_pos (by unfold infR; omega)]
theorem class_3 {x : Nat} (h : rungOf x ≠ 0) (h1 : decide (magI x < 4503599627370496) = false) (h2 : decide (magI x < 9218868437227405312) = false) (h3 : (magI x == 9218868437227405312) = true) : classF x = 3 := by
  have := of_decide_eq_false h1
  have := of_decide_eq_false h2
  have := eq_of_beq h3
  unfold magI at *
  unfold classF; rw [if_neg h, if_neg (by unfold bin; omega), if_neg (by unfold infR; omega), if_pos (by unfold infR; omega)]
theorem class_4 {x : Nat} (h : rungOf x ≠ 0) (h1 : decide (magI x < 4503599627370496) = false) (h2 : decide (magI x < 9218868437227405312) = false) (h3 : (magI x == 9218868437227405312) = false) : classF x = 4 := by
  have := of_decide_eq_false h1
  have := of_decide_eq_false h2
  have : magI x ≠ 9218868437227405312 := by intro e; rw [e] at h3; cases h3
  unfold magI at *
  unfold classF; rw [if_neg h, if_neg (by unfold bin; omega), if_neg (by unfold infR; omega), if_neg (by unfold infR; omega)]
end Go.Lift

/- Vectors, sums: what is answered. Own work. -/
set_option linter.unusedVariables false
set_option linter.unusedSimpArgs false
namespace Go.Lift
def trueR0 : Bool × Unit := r1 true
def trueR1 {α : Type} (_ : α) : Bool × Unit := r1 true
def trueR2 {α β : Type} (_ : α) (_ : β) : Bool × Unit := r1 true
def trueR3 {α β γ : Type} (_ : α) (_ : β) (_ : γ) : Bool × Unit := r1 true
def WLF (l : List Nat) (x : Nat) : Prop := WL l ∧ W64 x
def WLL (l m : List Nat) : Prop := WL l ∧ WL m
def noHn2 : Hn := noHn
def wholeR (n : Int) : Int × Unit := r1 (n.tmod 1099511627776)
def IsThree (a : Int) : Prop := a = 3
def twoR (_ : Int) : Int × Unit := r1 2
def canons2R (a b : Nat) : Nat × Nat × Unit := (canonF a, canonF b, ())

/-- Added from the first on, NaNs as one. -/
def rowQ : List Nat → Nat
  | [] => 0
  | x :: xs => xs.foldl addQ (quietF x)
def rowR (l : List Nat) : Nat × Unit := r1 (rowQ l)

/-- By halves. -/
def pairsN : Nat → List Nat → Nat
  | 0, _ => 0
  | n + 1, l => if l.length < 2 then rowQ l else addQ (pairsN n (l.take ((l.length + 1) / 2))) (pairsN n (l.drop ((l.length + 1) / 2)))
def pairsQ (l : List Nat) : Nat := pairsN l.length l
theorem rowQ_q' (l : List Nat) : quietF (rowQ l) = rowQ l := by
  cases l with
  | nil => decide
  | cons x xs =>
    show quietF (xs.foldl addQ (quietF x)) = xs.foldl addQ (quietF x)
    have : ∀ (xs : List Nat) (y : Nat), quietF y = y → quietF (xs.foldl addQ y) = xs.foldl addQ y := by
      intro xs
      induction xs with
      | nil => intro y h; exact h
      | cons z xs ih => intro y h; exact ih _ (addQ_q _ _)
    exact this xs _ (quietF_idem x)
theorem rowQ_w {l : List Nat} (h : WL l) : W64 (rowQ l) := by
  cases l with
  | nil => show W64 0; unfold W64; decide
  | cons x xs =>
    show W64 (xs.foldl addQ (quietF x))
    have : ∀ (xs : List Nat) (y : Nat), W64 y → W64 (xs.foldl addQ y) := by
      intro xs
      induction xs with
      | nil => intro y h; exact h
      | cons z xs ih => intro y h; exact ih _ (addQ_w _ _)
    exact this xs _ (quietF_w (h x List.mem_cons_self))
theorem pairsN_w {l : List Nat} (h : WL l) (n : Nat) : W64 (pairsN n l) := by
  cases n with
  | zero => show W64 0; unfold W64; decide
  | succ n =>
    unfold pairsN
    split
    · exact rowQ_w h
    · exact addQ_w _ _
theorem pairsN_q (n : Nat) (l : List Nat) : quietF (pairsN n l) = pairsN n l := by
  cases n with
  | zero => show quietF 0 = 0; decide
  | succ n =>
    unfold pairsN
    split
    · exact rowQ_q' l
    · exact addQ_q _ _
def pairsP (l : List Nat) (r : Nat × Unit) : Prop := quietF r.1 = pairsQ l ∧ (WL l → W64 r.1)
theorem pairsP_ne (l : List Nat) : ∃ r, pairsP l r := ⟨(pairsQ l, ()), pairsN_q _ _, fun h => pairsN_w h _⟩
def pairsR (l : List Nat) : Nat × Unit := r1 (pairsQ l)

def ltF (x y : Nat) : Bool := fcmp .lss (Ieee.double.order x y)
def gtF (x y : Nat) : Bool := fcmp .gtr (Ieee.double.order x y)
/-- A sum, and what rounding took away. -/
def twS (a b : Nat) : Nat × Nat :=
  if finF (addQ a b) then (canonF (addQ a b), if ltF (rungOf a) (rungOf b) then canonF (subQ a (subQ (addQ a b) b)) else canonF (subQ b (subQ (addQ a b) a)))
  else (canonF (addQ a b), 0)
def twR (a b : Nat) : Nat × Nat × Unit := ((twS a b).1, (twS a b).2, ())
def carS (l : List Nat) : Nat × Nat := l.foldl (fun p x => ((twS p.1 x).1, addQ p.2 (twS p.1 x).2)) (0, 0)
def carefulQ (l : List Nat) : Nat := addQ (carS l).1 (carS l).2
def carefulR (l : List Nat) : Nat × Unit := r1 (carefulQ l)

def ltM (a b : Nat) : Bool := decide (cmpM a b < 0)
def sort3 (a b c : Nat) : List Nat :=
  if ltM b a then (if ltM c a then (if ltM c b then [c, b, a] else [b, c, a]) else [b, a, c])
  else (if ltM c b then (if ltM c a then [c, a, b] else [a, c, b]) else [a, b, c])
def three (a b c : Nat) : Nat := rowQ (sort3 a b c)
def threeR (a b c : Nat) : Nat × Unit := r1 (three a b c)

def V3 : Type := Nat × Nat × Nat
def WV (a : Nat × Nat × Nat) : Prop := W64 a.1 ∧ W64 a.2.1 ∧ W64 a.2.2
def WVL (l : List (Nat × Nat × Nat)) : Prop := ∀ v ∈ l, WV v
def WV2 (a b : Nat × Nat × Nat) : Prop := WV a ∧ WV b
def canonV (x y z : Nat) : Nat × Nat × Nat := (canonF x, canonF y, canonF z)
def canonVR (x y z : Nat) : (Nat × Nat × Nat) × Unit := r1 (canonV x y z)
def minusV (a b : Nat × Nat × Nat) : Nat × Nat × Nat := canonV (subQ a.1 b.1) (subQ a.2.1 b.2.1) (subQ a.2.2 b.2.2)
def minusR (a b : Nat × Nat × Nat) : (Nat × Nat × Nat) × Unit := r1 (minusV a b)
def lessQ (p q r s : Nat) : Nat := subQ (mulQ p q) (mulQ r s)
def lessP (p q r s : Nat) (x : Nat × Unit) : Prop := relF (lessQ p q r s) x
def crossV (a b : Nat × Nat × Nat) : Nat × Nat × Nat := canonV (lessQ a.2.1 b.2.2 a.2.2 b.2.1) (lessQ a.2.2 b.1 a.1 b.2.2) (lessQ a.1 b.2.1 a.2.1 b.1)
def crossR (a b : Nat × Nat × Nat) : (Nat × Nat × Nat) × Unit := r1 (crossV a b)
def lengthQ (a : Nat × Nat × Nat) : Nat := canonF (sqrtQ (three (mulQ a.1 a.1) (mulQ a.2.1 a.2.1) (mulQ a.2.2 a.2.2)))
def lengthR (a : Nat × Nat × Nat) : Nat × Unit := r1 (lengthQ a)
def gapQ (a b : Nat × Nat × Nat) : Nat := lengthQ (minusV a b)
def gapR (a b : Nat × Nat × Nat) : Nat × Unit := r1 (gapQ a b)
def unitV (a : Nat × Nat × Nat) : Nat × Nat × Nat :=
  if classF (lengthQ a) = 1 ∨ classF (lengthQ a) = 2 then canonV (divQF a.1 (lengthQ a)) (divQF a.2.1 (lengthQ a)) (divQF a.2.2 (lengthQ a)) else (0, 0, 0)
def unitR (a : Nat × Nat × Nat) : (Nat × Nat × Nat) × Unit := r1 (unitV a)
def atR (x y z : Nat) : (Nat × Nat × Nat) × Unit := r1 (x, y, z)
def movedV (a : Nat × Nat × Nat) : Nat × Nat × Nat := (a.2.1, a.2.2, a.1)
def movedR (a : Nat × Nat × Nat) : (Nat × Nat × Nat) × Unit := r1 (movedV a)
def swappedV (a : Nat × Nat × Nat) : Nat × Nat × Nat := (a.2.1, a.1, a.2.2)
def swappedR (a : Nat × Nat × Nat) : (Nat × Nat × Nat) × Unit := r1 (swappedV a)
def turnedV (a : Nat × Nat × Nat) : Nat × Nat × Nat := (negF a.1, a.2.1, a.2.2)
def turnedR (a : Nat × Nat × Nat) : (Nat × Nat × Nat) × Unit := r1 (turnedV a)
def againstV (a : Nat × Nat × Nat) : Nat × Nat × Nat := canonV (negF a.1) (negF a.2.1) (negF a.2.2)
def againstR (a : Nat × Nat × Nat) : (Nat × Nat × Nat) × Unit := r1 (againstV a)
def alikeR (a b : Nat × Nat × Nat) : Bool × Unit := r1 (decide (a = b))
end Go.Lift

/- Sums and vectors: small laws. Own work. -/
set_option linter.unusedVariables false
set_option linter.unusedSimpArgs false
namespace Go.Lift

theorem finF_quietF (b : Nat) : finF (quietF b) = finF b := by
  unfold quietF
  split
  · rename_i h
    have : infR < rungOf b := by simpa [isN] using h
    have e : finF b = false := by unfold finF; simp; omega
    rw [e]; decide
  · rfl
theorem finF_congr {a b : Nat} (h : quietF a = quietF b) : finF a = finF b := by rw [← finF_quietF a, h, finF_quietF]
theorem rowQ_q (l : List Nat) : quietF (rowQ l) = rowQ l := by
  cases l with
  | nil => decide
  | cons x xs =>
    show quietF (xs.foldl addQ (quietF x)) = xs.foldl addQ (quietF x)
    have : ∀ (xs : List Nat) (y : Nat), quietF y = y → quietF (xs.foldl addQ y) = xs.foldl addQ y := by
      intro xs
      induction xs with
      | nil => intro y h; exact h
      | cons z xs ih => intro y h; exact ih _ (addQ_q _ _)
    exact this xs _ (quietF_idem x)
theorem rowQ_snoc {l : List Nat} (hl : l ≠ []) (x : Nat) : rowQ (l ++ [x]) = addQ (rowQ l) x := by
  cases l with
  | nil => exact absurd rfl hl
  | cons y l => show (l ++ [x]).foldl addQ (quietF y) = _; rw [List.foldl_append]; rfl
theorem rowQ_at {a : List Nat} {i : Nat} (h : i < a.length) (h0 : 1 ≤ i) : rowQ (a.take (i + 1)) = addQ (rowQ (a.take i)) (a.getD i 0) := by
  rw [List.take_succ_eq_append_getElem h, rowQ_snoc (List.ne_nil_of_length_pos (by rw [List.length_take]; omega)), List.getD_eq_getElem?_getD, List.getElem?_eq_getElem h]
  rfl
theorem rowQ_one {a : List Nat} (h : 0 < a.length) : rowQ (a.take 1) = quietF (a.getD 0 0) := by
  cases a with
  | nil => cases h
  | cons x a => rfl
theorem WL_getD {a : List Nat} (h : WL a) (i : Nat) : W64 (a.getD i 0) := by
  rw [List.getD_eq_getElem?_getD]
  cases e : a[i]? with
  | none => show W64 0; unfold W64; decide
  | some y => exact h y (List.mem_of_getElem? e)
theorem twS_w {a b : Nat} : W64 (twS a b).1 ∧ W64 (twS a b).2 := by
  unfold twS
  split
  · refine ⟨canonF_w (addQ_w _ _), ?_⟩
    show W64 (if _ then _ else _)
    split <;> exact canonF_w (subQ_w _ _)
  · exact ⟨canonF_w (addQ_w _ _), by show W64 0; unfold W64; decide⟩
theorem carS_snoc (l : List Nat) (x : Nat) : carS (l ++ [x]) = ((twS (carS l).1 x).1, addQ (carS l).2 (twS (carS l).1 x).2) := by
  unfold carS; rw [List.foldl_append]; rfl
theorem carS_at {a : List Nat} {i : Nat} (h : i < a.length) : carS (a.take (i + 1)) = ((twS (carS (a.take i)).1 (a.getD i 0)).1, addQ (carS (a.take i)).2 (twS (carS (a.take i)).1 (a.getD i 0)).2) := by
  rw [List.take_succ_eq_append_getElem h, carS_snoc, List.getD_eq_getElem?_getD, List.getElem?_eq_getElem h]
  rfl
theorem tw_eq {a b s t e : Nat} (hs : quietF s = addQ a b) (hf : finF s = true) (hc : t = if ltF (rungOf a) (rungOf b) then 1 else 0)
    (he : quietF e = if ltF (rungOf a) (rungOf b) then subQ a (subQ (addQ a b) b) else subQ b (subQ (addQ a b) a)) : twR a b = (canonF s, canonF e, ()) := by
  have h1 : canonF (addQ a b) = canonF s := canonF_congr (by rw [hs, addQ_q])
  have h2 : finF (addQ a b) = true := by rw [← hf]; exact finF_congr (by rw [hs, addQ_q])
  unfold twR twS
  rw [if_pos h2, h1]
  have h3 : (if ltF (rungOf a) (rungOf b) then canonF (subQ a (subQ (addQ a b) b)) else canonF (subQ b (subQ (addQ a b) a))) = canonF e := by
    rw [← canonF_quietF e, he]; split <;> rfl
  rw [h3]
theorem tw_eq0 {a b s : Nat} (hs : quietF s = addQ a b) (hf : finF s = false) : twR a b = (canonF s, 0, ()) := by
  have h1 : canonF (addQ a b) = canonF s := canonF_congr (by rw [hs, addQ_q])
  have h2 : finF (addQ a b) = false := by rw [← hf]; exact finF_congr (by rw [hs, addQ_q])
  unfold twR twS
  rw [h2, h1]; rfl
theorem cmpI_neg (x y : Int) : cmpI y x = - cmpI x y := by unfold cmpI; split <;> split <;> (try split) <;> omega
theorem cmpM_neg (a b : Nat) : cmpM b a = - cmpM a b := by
  unfold cmpM ordF
  rw [cmpI_neg (mag2 a) (mag2 b), cmpI_neg (placeI a) (placeI b)]
  split <;> split <;> omega
theorem ltM_asymm {a b : Nat} (h : ltM a b = true) : ltM b a = false := by
  unfold ltM at *
  have := of_decide_eq_true h
  rw [cmpM_neg]; simp; omega
theorem rowQ3 {a b c s t : Nat} (h : quietF s = addQ a b) (h2 : quietF t = addQ s c) : quietF t = rowQ [a, b, c] := by
  show _ = addQ (addQ (quietF a) b) c
  rw [h2]
  exact addQ_congr (by rw [h, addQ_congr (quietF_idem a) rfl, addQ_q]) rfl
theorem WL3 {a b c : Nat} (ha : W64 a) (hb : W64 b) (hc : W64 c) : WL [a, b, c] := by
  intro x hx; simp at hx; rcases hx with rfl | rfl | rfl <;> assumption

/-! ### Three, with NaNs -/

theorem quiet_cases {x y : Nat} (h : quietF x = quietF y) : (isN x = true ∧ isN y = true) ∨ x = y := by
  have nx : isN x = isN y := by rw [← isN_quietF x, h, isN_quietF]
  by_cases e : isN x = true
  · exact .inl ⟨e, by rw [← nx]; exact e⟩
  · have e1 : isN x = false := by simpa using e
    unfold quietF at h
    rw [← nx, e1] at h
    exact .inr (by simpa using h)
theorem rowQ3_nan {x y z : Nat} (h : isN x = true ∨ isN y = true ∨ isN z = true) : rowQ [x, y, z] = QN := by
  show addQ (addQ (quietF x) y) z = QN
  rcases h with h | h | h
  · rw [addQ_nan (x := quietF x) (.inl (by rw [isN_quietF]; exact h))]; exact addQ_nan (.inl QN_N)
  · rw [addQ_nan (x := quietF x) (.inr h)]; exact addQ_nan (.inl QN_N)
  · exact addQ_nan (.inr h)
theorem three_nan {a b c : Nat} (h : isN a = true ∨ isN b = true ∨ isN c = true) : three a b c = QN := by
  unfold three sort3
  split <;> split <;> (try split) <;> exact rowQ3_nan (by rcases h with h | h | h <;> simp [h])
theorem three_congr {a b c a' b' c' : Nat} (ha : quietF a = quietF a') (hb : quietF b = quietF b') (hc : quietF c = quietF c') : three a b c = three a' b' c' := by
  rcases quiet_cases ha with ⟨h1, h2⟩ | rfl
  · rw [three_nan (.inl h1), three_nan (.inl h2)]
  rcases quiet_cases hb with ⟨h1, h2⟩ | rfl
  · rw [three_nan (.inr (.inl h1)), three_nan (.inr (.inl h2))]
  rcases quiet_cases hc with ⟨h1, h2⟩ | rfl
  · rw [three_nan (.inr (.inr h1)), three_nan (.inr (.inr h2))]
  rfl
theorem three_q (a b c : Nat) : quietF (three a b c) = three a b c := rowQ_q _

/-! ### Lengths -/

theorem rnd_zero (p : Int) : rnd 0 p = 0 := by unfold rnd; simp
theorem sqrt_sgn (x : Nat) (h : sgn (sqrtQ x) = true) : rungOf (sqrtQ x) = 0 := by
  have hn : sgn QN = false := by decide
  have hw : ∀ (r : Nat) (hr : r ≤ infR), sgn (Ieee.double.word false r) = false := fun r hr => (word_le (s := false) hr).2.2.2
  unfold sqrtQ at h ⊢
  have e : Ieee.double.sqrt x = ((Ieee.double.read x).root (Ieee.double.fractionBits + 2)).map Ieee.double.write := rfl
  rw [e] at h ⊢
  cases hd : (Ieee.double.read x).root (Ieee.double.fractionBits + 2) with
  | none => rw [hd] at h; have h : sgn QN = true := h; rw [hn] at h; cases h
  | some d =>
    rw [hd] at h
    have h : sgn (Ieee.double.write d) = true := h
    show rungOf (Ieee.double.write d) = 0
    have key : ∀ (m : Nat) (p : Int), sgn (Ieee.double.write (.number false m p)) = true → False := by
      intro m p h
      have h : sgn (Ieee.double.nearest false m p) = true := h
      rw [nearest_eq, hw _ (rnd_le m p)] at h; cases h
    cases hr : Ieee.double.read x with
    | nan s f => rw [hr] at hd; cases hd
    | infinity s =>
      rw [hr] at hd
      simp only [Ieee.Datum.root] at hd
      split at hd
      · cases hd
      · rename_i hs
        have hs : s = false := by simpa using hs
        subst hs
        cases hd
        have e2 : Ieee.double.write (.infinity false) = Ieee.double.word false infR := by
          show Ieee.double.word false Ieee.double.infRung = _
          rw [show Ieee.double.infRung = infR by decide]
        rw [e2, hw _ (Nat.le_refl _)] at h; cases h
    | number s m p =>
      rw [hr] at hd
      simp only [Ieee.Datum.root] at hd
      split at hd
      · rename_i hm
        cases hd
        subst hm
        show rungOf (Ieee.double.nearest s 0 p) = 0
        rw [nearest_eq, rnd_zero]
        exact (word_le (s := s) (Nat.zero_le _)).2.2.1
      · split at hd
        · cases hd
        · cases hd
          exact (key _ _ h).elim
theorem lengthQ_sgn (a : Nat × Nat × Nat) : sgn (lengthQ a) = false := by
  unfold lengthQ
  generalize three _ _ _ = x
  unfold canonF
  split
  · decide
  · split
    · decide
    · rename_i h
      cases e : sgn (sqrtQ x) with
      | false => rfl
      | true => exact absurd (sqrt_sgn x e) h
theorem lengthQ_w (a : Nat × Nat × Nat) : W64 (lengthQ a) := canonF_w (sqrtQ_w _)
theorem gt_zero {x : Nat} (h : sgn x = false) : fcmp .gtr (Ieee.double.order x 0) = (!isN x && decide (rungOf x ≠ 0)) := by
  have h0 : isN 0 = false := by decide
  have k0 : keyOf' 0 = 0 := by decide
  cases hx : isN x with
  | true => rw [order_nan (.inl hx)]; rfl
  | false =>
    rw [order_eq hx h0, k0]
    unfold keyOf'
    rw [h]
    simp only [Bool.false_eq_true, if_false, Bool.not_false, Bool.true_and]
    by_cases e : rungOf x = 0
    · rw [e]; decide
    · rw [Std.compare_eq_gt.2 (by omega)]
      simp [e]; rfl
theorem class_big {x : Nat} : isN x = true ↔ infR < rungOf x := by simp [isN]
theorem canonV_w {x y z : Nat} (hx : W64 x) (hy : W64 y) (hz : W64 z) : WV (canonV x y z) := ⟨canonF_w hx, canonF_w hy, canonF_w hz⟩
theorem minusV_w (a b : Nat × Nat × Nat) : WV (minusV a b) := canonV_w (subQ_w _ _) (subQ_w _ _) (subQ_w _ _)
theorem canonV_congr {x y z x' y' z' : Nat} (hx : quietF x = x') (hy : quietF y = y') (hz : quietF z = z') : canonV x y z = canonV x' y' z' := by
  unfold canonV
  rw [← hx, ← hy, ← hz, canonF_quietF, canonF_quietF, canonF_quietF]
theorem less_eq {p q r s x y z : Nat} (hx : quietF x = mulQ p q) (hy : quietF y = mulQ r s) (hz : quietF z = subQ x y) : quietF z = lessQ p q r s := by
  rw [hz]; exact subQ_congr (by rw [hx, mulQ_q]) (by rw [hy, mulQ_q])
theorem length_eq {a : Nat × Nat × Nat} {x y z w : Nat} (hx : quietF x = mulQ a.1 a.1) (hy : quietF y = mulQ a.2.1 a.2.1) (hz : quietF z = mulQ a.2.2 a.2.2) (hw : quietF w = sqrtQ (three x y z)) : canonF w = lengthQ a := by
  unfold lengthQ
  rw [← canonF_quietF w, hw, three_congr (a' := mulQ a.1 a.1) (b' := mulQ a.2.1 a.2.1) (c' := mulQ a.2.2 a.2.2) (by rw [hx, mulQ_q]) (by rw [hy, mulQ_q]) (by rw [hz, mulQ_q])]
theorem unit_zero {a : Nat × Nat × Nat} (h : ¬ (classF (lengthQ a) = 1 ∨ classF (lengthQ a) = 2)) : unitV a = (0, 0, 0) := by unfold unitV; rw [if_neg h]
theorem unit_some {a : Nat × Nat × Nat} (h : classF (lengthQ a) = 1 ∨ classF (lengthQ a) = 2) {x y z : Nat} (hx : quietF x = divQF a.1 (lengthQ a)) (hy : quietF y = divQF a.2.1 (lengthQ a)) (hz : quietF z = divQF a.2.2 (lengthQ a)) :
    canonV x y z = unitV a := by
  unfold unitV; rw [if_pos h]; exact canonV_congr hx hy hz
theorem class_le (x : Nat) : 0 ≤ classF x ∧ classF x ≤ 4 := by
  unfold classF; split <;> (try split) <;> (try split) <;> (try split) <;> omega
theorem class12 (x : Nat) : (classF x = 1 ∨ classF x = 2) ↔ rungOf x ≠ 0 ∧ rungOf x < infR := by
  have : bin < infR := by decide
  unfold classF
  split <;> (try split) <;> (try split) <;> (try split) <;> omega
theorem alike_eq (a b : Nat × Nat × Nat) : alikeR a b = r1 (decide (a.1 = b.1) && (decide (a.2.1 = b.2.1) && decide (a.2.2 = b.2.2))) := by
  obtain ⟨a1, a2, a3⟩ := a
  obtain ⟨b1, b2, b3⟩ := b
  unfold alikeR
  congr 1
  rw [Bool.eq_iff_iff]; simp

theorem alike_self (v : Nat × Nat × Nat) : (alikeR v v).fst = true := by unfold alikeR r1; simp
theorem same_self (n : Nat) : (sameR n n).fst = true := by unfold sameR r1; simp
theorem WVL_getD {a : List (Nat × Nat × Nat)} (h : WVL a) (j : Nat) (d : Nat × Nat × Nat) (hd : WV d) : WV (a.getD j d) := by
  rw [List.getD_eq_getElem?_getD]
  cases e : a[j]? with
  | none => exact hd
  | some y => exact h y (List.mem_of_getElem? e)
theorem W0 : W64 0 := by unfold W64; decide
theorem WV0 : WV (0, 0, 0) := ⟨W0, W0, W0⟩
end Go.Lift

/- Signs of sums and products; three in any order. Own work. -/
set_option linter.unusedVariables false
set_option linter.unusedSimpArgs false
namespace Go.Lift
open Ieee

theorem signed_not (s : Bool) (m k : Nat) : signed (!s) m k = - signed s m k := by
  unfold signed; cases s <;> simp
theorem read_negF {b : Nat} (h : W64 b) : double.read (negF b) = (double.read b).opposite := by
  rw [read_eq, read_eq, (rung_negF h).1, sgn_negF h]
  split
  · rfl
  · split <;> rfl
theorem opp_opp (a : Datum) : a.opposite.opposite = a := by cases a <;> simp [Datum.opposite]
theorem sum_comm (a b : Datum) : a.sum b = b.sum a := by
  cases a with
  | nan s f => cases b <;> rfl
  | infinity s =>
    cases b with
    | infinity t =>
      simp only [Datum.sum]
      by_cases e : s = t
      · subst e; rfl
      · rw [if_neg e, if_neg (fun h => e h.symm)]
    | _ => rfl
  | number s m i =>
    cases b with
    | number t n j =>
      simp only [Datum.sum]
      rw [Int.min_comm i j, Int.add_comm (signed s m _), Bool.and_comm]
    | _ => rfl
/-- The one is the other with its sign turned. -/
def OppD : Option Datum → Option Datum → Prop
  | none, none => True
  | some (.number s m p), some (.number t n q) => m = n ∧ p = q ∧ (m ≠ 0 → t = !s)
  | some (.infinity s), some (.infinity t) => t = !s
  | _, _ => False
theorem sum_opp (a b : Datum) : OppD (a.sum b) (a.opposite.sum b.opposite) := by
  cases a with
  | nan s f => cases b <;> trivial
  | infinity s =>
    cases b with
    | infinity t =>
      simp only [Datum.sum, Datum.opposite]
      cases s <;> cases t <;> first | trivial | rfl
    | nan => trivial
    | number t n j => rfl
  | number s m i =>
    cases b with
    | nan => trivial
    | infinity t => rfl
    | number t n j =>
      simp only [Datum.sum, Datum.opposite]
      rw [signed_not, signed_not]
      generalize signed s m _ = x
      generalize signed t n _ = y
      have e : -x + -y = -(x + y) := by omega
      rw [e]
      refine ⟨by rw [Int.natAbs_neg], rfl, fun h => ?_⟩
      have h1 : x + y ≠ 0 := by intro e; rw [e] at h; exact h rfl
      rw [if_neg h1, if_neg (by omega)]
      by_cases g : x + y < 0
      · rw [decide_eq_true g, decide_eq_false (by omega)]; rfl
      · rw [decide_eq_false g, decide_eq_true (by omega)]; rfl
theorem canon_word (s : Bool) {r : Nat} (h : r ≤ infR) : canonF (double.word s r) = if r = 0 then 0 else double.word s r := by
  obtain ⟨h1, h2, h3, h4⟩ := word_le (s := s) h
  unfold canonF; rw [h1, h3]; simp
theorem neg_word (s : Bool) {r : Nat} (h : r ≤ infR) : negF (double.word s r) = double.word (!s) r := by
  obtain ⟨h1, h2, h3, h4⟩ := word_le (s := s) h
  have := word_of (b := negF (double.word s r)) (negF_w h2)
  rw [← this, (rung_negF h2).1, sgn_negF h2, h3, h4]
theorem write_inf (s : Bool) : double.write (.infinity s) = double.word s infR := by
  show double.word s double.infRung = _
  rw [show double.infRung = infR by decide]
theorem canon_neg_word (s : Bool) {r : Nat} (h : r ≤ infR) : canonF (negF (canonF (double.word s r))) = canonF (double.word (!s) r) := by
  rw [canon_word s h, canon_word (!s) h]
  by_cases e : r = 0
  · rw [if_pos e, if_pos e]; decide +kernel
  · rw [if_neg e, if_neg e, neg_word s h, canon_word (!s) h, if_neg e]
theorem write_opp {p q : Option Datum} (h : OppD p q) : canonF ((q.map double.write).getD QN) = canonF (negF (canonF ((p.map double.write).getD QN))) := by
  cases p with
  | none =>
    cases q with
    | none => show canonF QN = canonF (negF (canonF QN)); decide +kernel
    | some d => cases d <;> exact h.elim
  | some d =>
    cases d with
    | nan => cases q <;> exact h.elim
    | infinity s =>
      cases q with
      | none => exact h.elim
      | some d => cases d with
        | infinity t =>
          have h : t = !s := h
          subst h
          show canonF (double.write (.infinity (!s))) = canonF (negF (canonF (double.write (.infinity s))))
          rw [write_inf, write_inf, canon_neg_word s (Nat.le_refl _)]
        | _ => exact h.elim
    | number s m i =>
      cases q with
      | none => exact h.elim
      | some d => cases d with
        | number t n j =>
          obtain ⟨rfl, rfl, h⟩ := h
          show canonF (double.nearest t m i) = canonF (negF (canonF (double.nearest s m i)))
          rw [nearest_eq, nearest_eq, canon_neg_word s (rnd_le m i)]
          by_cases e : m = 0
          · subst e; rw [rnd_zero, canon_word _ (Nat.zero_le _), canon_word _ (Nat.zero_le _)]; rfl
          · rw [h e]
        | _ => exact h.elim
theorem addQ_comm (x y : Nat) : addQ x y = addQ y x := by
  unfold addQ
  show (((double.read x).sum (double.read y)).map double.write).getD QN = (((double.read y).sum (double.read x)).map double.write).getD QN
  rw [sum_comm]
theorem sub_anti (x y : Nat) : canonF (subQ y x) = canonF (negF (canonF (subQ x y))) := by
  have h := write_opp (sum_opp (double.read x) (double.read y).opposite)
  rw [opp_opp, sum_comm] at h
  exact h
theorem sub_neg {x y : Nat} (hx : W64 x) (hy : W64 y) : subQ (negF x) (negF y) = subQ y x := by
  unfold subQ
  show (((double.read (negF x)).sum (double.read (negF y)).opposite).map double.write).getD QN = (((double.read y).sum (double.read x).opposite).map double.write).getD QN
  rw [read_negF hx, read_negF hy, opp_opp, sum_comm]
theorem product_comm (a b : Datum) : a.product b = b.product a := by
  cases a with
  | nan s f => cases b <;> rfl
  | infinity s =>
    cases b with
    | infinity t => simp only [Datum.product]; rw [Bool.xor_comm]
    | nan => rfl
    | number t n j => rfl
  | number s m i =>
    cases b with
    | nan => rfl
    | infinity t => rfl
    | number t n j => simp only [Datum.product]; rw [Bool.xor_comm, Nat.mul_comm, Int.add_comm]
theorem product_opp (a b : Datum) : a.opposite.product b.opposite = a.product b := by
  cases a <;> cases b <;> simp [Datum.product, Datum.opposite]
theorem mulQ_comm (x y : Nat) : mulQ x y = mulQ y x := by
  unfold mulQ
  show (((double.read x).product (double.read y)).map double.write).getD QN = (((double.read y).product (double.read x)).map double.write).getD QN
  rw [product_comm]
theorem mul_neg {x y : Nat} (hx : W64 x) (hy : W64 y) : mulQ (negF x) (negF y) = mulQ x y := by
  unfold mulQ
  show (((double.read (negF x)).product (double.read (negF y))).map double.write).getD QN = (((double.read x).product (double.read y)).map double.write).getD QN
  rw [read_negF hx, read_negF hy, product_opp]
theorem isN_negF {c : Nat} (h : W64 c) : isN (negF c) = isN c := by unfold isN; rw [(rung_negF h).1]
theorem zero_of {c : Nat} (h : W64 c) (hz : rungOf c = 0) : c = 0 ∨ c = negF 0 := by
  have hw := word_of h
  rw [hz] at hw
  cases hs : sgn c with
  | false => rw [hs] at hw; left; rw [← hw]; decide +kernel
  | true => rw [hs] at hw; right; rw [← hw]; decide +kernel
theorem sq_canon {x : Nat} (h : W64 x) : mulQ (canonF x) (canonF x) = mulQ x x := by
  unfold canonF
  split
  · rename_i e; rw [mulQ_nan (.inl e), mulQ_nan (.inl QN_N)]
  · split
    · rename_i e
      rcases zero_of h e with rfl | rfl
      · rfl
      · rw [mul_neg W0 W0]
    · rfl
theorem sq_neg {c : Nat} (h : W64 c) : mulQ (canonF (negF c)) (canonF (negF c)) = mulQ c c := by
  rw [sq_canon (negF_w h), mul_neg h h]
theorem canon_zero {x : Nat} (h : isN x = false) (hz : rungOf x = 0) : canonF x = 0 := by unfold canonF; rw [h, if_neg (by simp), if_pos hz]

/-! ### Nothing added -/

theorem sum_zero {x : Nat} (h : W64 x) (hn : isN x = false) (t : Bool) (j : Int) : ∃ w, ((double.read x).sum (.number t 0 j)).map double.write = some w ∧ isN w = false ∧ rungOf w = rungOf x ∧ (rungOf x ≠ 0 → w = x) := by
  rcases rung_trich x with ⟨h1, _⟩ | ⟨h1, _⟩ | ⟨_, h1⟩
  · rw [read_num h1]
    simp only [Datum.sum]
    have z : signed t 0 (j - min (placeOf (rungOf x)) j).toNat = 0 := by unfold signed; split <;> simp
    rw [z, Int.add_zero]
    have ea : (signed (sgn x) (magOf (rungOf x)) (placeOf (rungOf x) - min (placeOf (rungOf x)) j).toNat).natAbs = magOf (rungOf x) * 2 ^ (placeOf (rungOf x) - min (placeOf (rungOf x)) j).toNat := by
      unfold signed
      split
      · rw [Int.natAbs_neg, Int.natAbs_natCast, Nat.shiftLeft_eq]
      · rw [Int.natAbs_natCast, Nat.shiftLeft_eq]
    rw [ea]
    have er := rnd_scale (magOf (rungOf x)) (placeOf (rungOf x)) (placeOf (rungOf x) - min (placeOf (rungOf x)) j).toNat
    rw [show placeOf (rungOf x) - ((placeOf (rungOf x) - min (placeOf (rungOf x)) j).toNat : Int) = min (placeOf (rungOf x)) j by omega, rnd_exact h1] at er
    generalize hsg : (if signed (sgn x) (magOf (rungOf x)) (placeOf (rungOf x) - min (placeOf (rungOf x)) j).toNat = 0 then sgn x && t else decide (signed (sgn x) (magOf (rungOf x)) (placeOf (rungOf x) - min (placeOf (rungOf x)) j).toNat < 0)) = s'
    refine ⟨double.nearest s' _ _, rfl, ?_⟩
    rw [nearest_eq, er]
    obtain ⟨g1, g2, g3, g4⟩ := word_le (s := s') (Nat.le_of_lt h1)
    refine ⟨g1, g3, fun hz => ?_⟩
    have es : s' = sgn x := by
      have hm : magOf (rungOf x) ≠ 0 := by
        intro e
        have := rnd_exact h1
        rw [e, rnd_zero] at this
        exact hz this.symm
      have hp : 0 < magOf (rungOf x) * 2 ^ (placeOf (rungOf x) - min (placeOf (rungOf x)) j).toNat := Nat.mul_pos (by omega) (Nat.two_pow_pos _)
      rw [← ea] at hp
      rw [if_neg (by omega)] at hsg
      rw [← hsg]
      unfold signed
      cases hs : sgn x with
      | true =>
        simp only [if_true]
        rw [hs] at hp
        unfold signed at hp
        simp only [if_true] at hp
        rw [decide_eq_true]; omega
      | false =>
        simp only [Bool.false_eq_true, if_false]
        rw [decide_eq_false]; omega
    rw [es]; exact word_of h
  · rw [read_inf h1]
    refine ⟨double.write (.infinity (sgn x)), rfl, ?_⟩
    rw [write_inf]
    have e : double.word (sgn x) infR = x := by rw [← h1]; exact word_of h
    rw [e]
    exact ⟨hn, rfl, fun _ => rfl⟩
  · rw [hn] at h1; cases h1
theorem sub_zero {x : Nat} (h : W64 x) : canonF (subQ x 0) = canonF x := by
  cases hn : isN x with
  | true => rw [subQ_nan (.inl hn)]; unfold canonF; rw [hn, QN_N]; rfl
  | false =>
    obtain ⟨w, h1, h2, h3, h4⟩ := sum_zero h hn true (-1074)
    have e0 : (double.read 0).opposite = .number true 0 (-1074) := by decide +kernel
    have e : subQ x 0 = w := by
      unfold subQ
      show (((double.read x).sum (double.read 0).opposite).map double.write).getD QN = w
      rw [e0, h1]; rfl
    rw [e]
    by_cases hz : rungOf x = 0
    · rw [canon_zero hn hz, canon_zero h2 (by rw [h3, hz])]
    · rw [h4 hz]
theorem add_zero {x : Nat} (h : W64 x) (hn : isN x = false) : isN (addQ x 0) = false ∧ rungOf (addQ x 0) = rungOf x ∧ (rungOf x ≠ 0 → addQ x 0 = x) := by
  obtain ⟨w, h1, h2, h3, h4⟩ := sum_zero h hn false (-1074)
  have e0 : double.read 0 = .number false 0 (-1074) := by decide +kernel
  have e : addQ x 0 = w := by
    unfold addQ
    show (((double.read x).sum (double.read 0)).map double.write).getD QN = w
    rw [e0, h1]; rfl
  rw [e]; exact ⟨h2, h3, h4⟩

/-! ### Three in any order -/

def kM (a : Nat) : Int := mag2 a * 18446744073709551616 + placeI a
theorem placeI_rng {a : Nat} (h : W64 a) : 0 ≤ placeI a ∧ placeI a < 18446744073709551616 := by
  unfold placeI
  cases hs : sgn a with
  | true => unfold W64 at h; simp only [if_true]; omega
  | false =>
    have : ¬ 9223372036854775808 ≤ a := by rw [← sgn_iff h, hs]; simp
    simp only [Bool.false_eq_true, if_false]; omega
theorem ltM_key {a b : Nat} (ha : W64 a) (hb : W64 b) : ltM a b = decide (kM a < kM b) := by
  have h1 := placeI_rng ha
  have h2 := placeI_rng hb
  unfold ltM kM cmpM ordF
  rw [Bool.eq_iff_iff, decide_eq_true_eq, decide_eq_true_eq]
  unfold cmpI
  split <;> split <;> (try split) <;> (try split) <;> omega
theorem kM_inj {a b : Nat} (ha : W64 a) (hb : W64 b) (h : kM a = kM b) : a = b := by
  have h1 := placeI_rng ha
  have h2 := placeI_rng hb
  unfold kM at h
  have e : placeI a = placeI b := by omega
  unfold placeI at e
  have g1 := sgn_iff ha
  have g2 := sgn_iff hb
  unfold W64 at ha hb
  cases hs : sgn a <;> cases ht : sgn b <;> rw [hs] at e g1 <;> rw [ht] at e g2 <;> simp at e g1 g2 <;> omega
theorem three_rot {a b c : Nat} (ha : W64 a) (hb : W64 b) (hc : W64 c) : three b c a = three a b c := by
  unfold three
  congr 1
  have e1 : a = b ∨ kM a ≠ kM b := (Decidable.em _).imp (kM_inj ha hb) id
  have e2 : b = c ∨ kM b ≠ kM c := (Decidable.em _).imp (kM_inj hb hc) id
  have e3 : a = c ∨ kM a ≠ kM c := (Decidable.em _).imp (kM_inj ha hc) id
  unfold sort3
  rw [ltM_key hc hb, ltM_key ha hb, ltM_key ha hc, ltM_key hb ha, ltM_key hc ha]
  simp only [decide_eq_true_eq]
  clear ha hb hc
  rcases e1 with rfl | e1 <;> rcases e2 with rfl | e2 <;> (try rcases e3 with rfl | e3) <;>
    (split <;> (try split) <;> (try split) <;> (try split) <;> (try split) <;> (try split) <;> first | rfl | (exfalso; omega))
theorem three_swap {a b c : Nat} (ha : W64 a) (hb : W64 b) (hc : W64 c) : three b a c = three a b c := by
  unfold three
  congr 1
  have e1 : a = b ∨ kM a ≠ kM b := (Decidable.em _).imp (kM_inj ha hb) id
  have e2 : b = c ∨ kM b ≠ kM c := (Decidable.em _).imp (kM_inj hb hc) id
  have e3 : a = c ∨ kM a ≠ kM c := (Decidable.em _).imp (kM_inj ha hc) id
  unfold sort3
  rw [ltM_key ha hb, ltM_key hc hb, ltM_key hc ha, ltM_key hb ha]
  simp only [decide_eq_true_eq]
  clear ha hb hc
  rcases e1 with rfl | e1 <;> rcases e2 with rfl | e2 <;> (try rcases e3 with rfl | e3) <;>
    (split <;> (try split) <;> (try split) <;> (try split) <;> (try split) <;> (try split) <;> first | rfl | (exfalso; omega))
end Go.Lift

/- Vectors: axes and opposites. Own work. -/
set_option linter.unusedVariables false
set_option linter.unusedSimpArgs false
namespace Go.Lift
open Ieee

theorem alike_of {u v : Nat × Nat × Nat} (h : u = v) : (alikeR u v).fst = true := by subst h; exact alike_self u
theorem same_of {u v : Nat} (h : u = v) : (sameR u v).fst = true := by subst h; exact same_self u
theorem no_not {b : Bool} (h : b = true) (e : (!b) = true) : False := by subst h; cases e
theorem no_false {b : Bool} (h : b = true) (e : b = false) : False := by subst h; cases e
theorem length_moved (a : Nat × Nat × Nat) : lengthQ (movedV a) = lengthQ a := by
  unfold lengthQ
  rw [← three_rot (mulQ_w a.1 a.1) (mulQ_w a.2.1 a.2.1) (mulQ_w a.2.2 a.2.2)]
  rfl
theorem length_swapped (a : Nat × Nat × Nat) : lengthQ (swappedV a) = lengthQ a := by
  unfold lengthQ
  rw [← three_swap (mulQ_w a.1 a.1) (mulQ_w a.2.1 a.2.1) (mulQ_w a.2.2 a.2.2)]
  rfl
theorem length_turned {a : Nat × Nat × Nat} (h : WV a) : lengthQ (turnedV a) = lengthQ a := by
  unfold lengthQ turnedV
  dsimp only
  rw [mul_neg h.1 h.1]
theorem length_against {a : Nat × Nat × Nat} (h : WV a) : lengthQ (againstV a) = lengthQ a := by
  unfold lengthQ againstV canonV
  dsimp only
  rw [sq_neg h.1, sq_neg h.2.1, sq_neg h.2.2]
theorem length_canon {a : Nat × Nat × Nat} (h : WV a) : lengthQ (canonF a.1, canonF a.2.1, canonF a.2.2) = lengthQ a := by
  unfold lengthQ
  dsimp only
  rw [sq_canon h.1, sq_canon h.2.1, sq_canon h.2.2]
theorem minus_anti (a b : Nat × Nat × Nat) : minusV b a = againstV (minusV a b) := by
  unfold minusV againstV canonV
  dsimp only
  rw [sub_anti a.1 b.1, sub_anti a.2.1 b.2.1, sub_anti a.2.2 b.2.2]
theorem less_anti (p q r s : Nat) : canonF (lessQ r s p q) = canonF (negF (canonF (lessQ p q r s))) := sub_anti _ _
theorem cross_swapped (a b : Nat × Nat × Nat) : crossV (swappedV a) (swappedV b) = swappedV (againstV (crossV a b)) := by
  unfold crossV swappedV againstV canonV
  dsimp only
  rw [less_anti a.2.2 b.1 a.1 b.2.2, less_anti a.2.1 b.2.2 a.2.2 b.2.1, less_anti a.1 b.2.1 a.2.1 b.1]
theorem less_comm (p q r s : Nat) : lessQ p q r s = lessQ q p s r := by unfold lessQ; rw [mulQ_comm p q, mulQ_comm r s]
theorem cross_anti (a b : Nat × Nat × Nat) : crossV b a = againstV (crossV a b) := by
  unfold crossV againstV canonV
  dsimp only
  rw [less_comm b.2.1, less_comm b.2.2, less_comm b.1, less_anti a.2.1 b.2.2 a.2.2 b.2.1, less_anti a.2.2 b.1 a.1 b.2.2, less_anti a.1 b.2.1 a.2.1 b.1]
theorem gap_anti (a b : Nat × Nat × Nat) : gapQ b a = gapQ a b := by
  unfold gapQ
  rw [minus_anti a b, length_against (minusV_w a b)]
theorem gap_moved (a b : Nat × Nat × Nat) : gapQ (movedV a) (movedV b) = gapQ a b := length_moved (minusV a b)
theorem gap_swapped (a b : Nat × Nat × Nat) : gapQ (swappedV a) (swappedV b) = gapQ a b := length_swapped (minusV a b)
theorem gap_turned {a b : Nat × Nat × Nat} (ha : WV a) (hb : WV b) : gapQ (turnedV a) (turnedV b) = gapQ a b := by
  unfold gapQ lengthQ minusV turnedV canonV
  dsimp only
  rw [sub_neg ha.1 hb.1, sub_anti a.1 b.1, sq_neg (canonF_w (subQ_w _ _))]
theorem unit_moved (a : Nat × Nat × Nat) : unitV (movedV a) = movedV (unitV a) := by
  unfold unitV
  rw [length_moved]
  split <;> rfl
theorem unit_swapped (a : Nat × Nat × Nat) : unitV (swappedV a) = swappedV (unitV a) := by
  unfold unitV
  rw [length_swapped]
  split <;> rfl
theorem neq_eql (o : Option Ordering) : fcmp .neq o = !fcmp .eql o := by
  cases o with
  | none => rfl
  | some o => cases o <;> rfl
theorem neq_zero {w : Nat} (h : fcmp .neq (double.order w 0) = false) : isN w = false ∧ rungOf w = 0 := by
  rw [neq_eql, eql_zero] at h
  simpa using h
theorem canon_self {x w : Nat} (h1 : quietF w = subQ x x) (h : fcmp .neq (double.order w 0) = false) : canonF (subQ x x) = 0 := by
  obtain ⟨g1, g2⟩ := neq_zero h
  rw [← h1, canonF_quietF, canon_zero g1 g2]
theorem minus_zero {a : Nat × Nat × Nat} (h : WV a) : minusV a (0, 0, 0) = (canonF a.1, canonF a.2.1, canonF a.2.2) := by
  unfold minusV canonV
  dsimp only
  rw [sub_zero h.1, sub_zero h.2.1, sub_zero h.2.2]
theorem length_zero : lengthQ (0, 0, 0) = 0 := by decide +kernel
theorem gap_zero {a : Nat × Nat × Nat} (h : WV a) : gapQ a (0, 0, 0) = lengthQ a := by
  unfold gapQ
  rw [minus_zero h, length_canon h]

/-! ### By halves -/

theorem pairsN_fuel : ∀ (n m : Nat) (l : List Nat), l.length ≤ n → l.length ≤ m → pairsN n l = pairsN m l := by
  have low : ∀ (k : Nat) (l : List Nat), l.length < 2 → l.length ≤ k → pairsN k l = rowQ l := by
    intro k l h1 h2
    cases k with
    | zero =>
      have : l = [] := List.eq_nil_of_length_eq_zero (by omega)
      subst this; rfl
    | succ k => unfold pairsN; rw [if_pos h1]
  intro n
  induction n with
  | zero => intro m l h1 h2; rw [low 0 l (by omega) h1, low m l (by omega) h2]
  | succ n ih =>
    intro m l h1 h2
    by_cases h : l.length < 2
    · rw [low _ l h h1, low _ l h h2]
    · cases m with
      | zero => omega
      | succ m =>
        unfold pairsN
        rw [if_neg h, if_neg h, ih m (l.take _) (by rw [List.length_take]; omega) (by rw [List.length_take]; omega), ih m (l.drop _) (by rw [List.length_drop]; omega) (by rw [List.length_drop]; omega)]
theorem pairs_low {l : List Nat} (h : l.length < 2) : pairsQ l = rowQ l := by
  unfold pairsQ
  rw [pairsN_fuel l.length 2 l (Nat.le_refl _) (by omega)]
  unfold pairsN; rw [if_pos h]
theorem pairs_step {l : List Nat} (h : 2 ≤ l.length) : pairsQ l = addQ (pairsQ (l.take ((l.length + 1) / 2))) (pairsQ (l.drop ((l.length + 1) / 2))) := by
  unfold pairsQ
  rw [pairsN_fuel l.length (l.length + 1) l (Nat.le_refl _) (by omega)]
  rw [show pairsN (l.length + 1) l = if l.length < 2 then rowQ l else addQ (pairsN l.length (l.take ((l.length + 1) / 2))) (pairsN l.length (l.drop ((l.length + 1) / 2))) from rfl]
  rw [if_neg (by omega), pairsN_fuel l.length (l.take ((l.length + 1) / 2)).length (l.take ((l.length + 1) / 2)) (by rw [List.length_take]; omega) (Nat.le_refl _), pairsN_fuel l.length (l.drop ((l.length + 1) / 2)).length (l.drop ((l.length + 1) / 2)) (by rw [List.length_drop]; omega) (Nat.le_refl _)]
theorem pairs_q (l : List Nat) : quietF (pairsQ l) = pairsQ l := pairsN_q _ _
theorem pairs_w {l : List Nat} (h : WL l) : W64 (pairsQ l) := pairsN_w h _
theorem WL_take {l : List Nat} (h : WL l) (k : Nat) : WL (l.take k) := fun x hx => h x (List.mem_of_mem_take hx)
theorem WL_drop {l : List Nat} (h : WL l) (k : Nat) : WL (l.drop k) := fun x hx => h x (List.mem_of_mem_drop hx)

/-! ### A sum goes on -/

theorem rowQ_append {a : List Nat} (h : a ≠ []) (b : List Nat) : rowQ (a ++ b) = rowQ (rowQ a :: b) := by
  show _ = b.foldl addQ (quietF (rowQ a))
  rw [rowQ_q]
  cases a with
  | nil => exact absurd rfl h
  | cons x a => show (a ++ b).foldl addQ (quietF x) = _; rw [List.foldl_append]; rfl
theorem WL_app {a b : List Nat} (ha : WL a) (hb : WL b) : WL (a ++ b) := by
  intro x hx; rcases List.mem_append.1 hx with h | h
  · exact ha x h
  · exact hb x h
end Go.Lift

/- Sums of nothing, sums that grow. Own work. -/
set_option linter.unusedVariables false
set_option linter.unusedSimpArgs false
namespace Go.Lift
open Ieee

/-- Neither NaN nor below zero. -/
def NN (x : Nat) : Prop := W64 x ∧ isN x = false ∧ 0 ≤ keyOf' x
theorem NN.key {x : Nat} (h : NN x) : keyOf' x = rungOf x := by
  have := h.2.2
  unfold keyOf' at this ⊢
  split at this
  · rw [if_pos (by assumption)]; omega
  · rw [if_neg (by assumption)]
theorem NN.sgn0 {x : Nat} (h : NN x) (hs : sgn x = true) : rungOf x = 0 := by
  have := h.2.2; unfold keyOf' at this; rw [if_pos hs] at this; omega
theorem NN.le {x : Nat} (h : NN x) : rungOf x ≤ infR := by have := h.2.1; unfold isN at this; simpa using this
theorem key_word (s : Bool) {r : Nat} (h : r ≤ infR) (hs : s = true → r = 0) : W64 (double.word s r) ∧ isN (double.word s r) = false ∧ keyOf' (double.word s r) = r := by
  obtain ⟨h1, h2, h3, h4⟩ := word_le (s := s) h
  refine ⟨h2, h1, ?_⟩
  unfold keyOf'
  rw [h3, h4]
  split
  · rename_i e; rw [hs e]; rfl
  · rfl
theorem num_part {x : Nat} (h : NN x) (h1 : rungOf x < infR) (base : Int) (hb : base ≤ placeOf (rungOf x)) :
    ∃ A : Nat, signed (sgn x) (magOf (rungOf x)) (placeOf (rungOf x) - base).toNat = (A : Int) ∧ rnd A base = rungOf x := by
  refine ⟨magOf (rungOf x) * 2 ^ (placeOf (rungOf x) - base).toNat, ?_, ?_⟩
  · unfold signed
    cases hs : sgn x with
    | true =>
      rw [h.sgn0 hs]
      rw [show magOf 0 = 0 by decide]; simp
    | false => simp [Nat.shiftLeft_eq]
  · have er := rnd_scale (magOf (rungOf x)) (placeOf (rungOf x)) (placeOf (rungOf x) - base).toNat
    rw [show placeOf (rungOf x) - ((placeOf (rungOf x) - base).toNat : Int) = base by omega, rnd_exact h1] at er
    exact er
theorem add_of {x y : Nat} {d : Datum} (h : (double.read x).sum (double.read y) = some d) : addQ x y = double.write d := by
  unfold addQ
  show (((double.read x).sum (double.read y)).map double.write).getD QN = _
  rw [h]; rfl
theorem write_num (s : Bool) (m : Nat) (p : Int) : double.write (.number s m p) = double.word s (rnd m p) := nearest_eq s m p
theorem add_nn {x y : Nat} (hx : NN x) (hy : NN y) : NN (addQ x y) ∧ keyOf' x ≤ keyOf' (addQ x y) ∧ keyOf' y ≤ keyOf' (addQ x y) := by
  have main : ∃ s r, r ≤ infR ∧ (s = true → r = 0) ∧ addQ x y = double.word s r ∧ rungOf x ≤ r ∧ rungOf y ≤ r := by
    rcases rung_trich x with ⟨h1, _⟩ | ⟨h1, _⟩ | ⟨_, h1⟩
    · rcases rung_trich y with ⟨g1, _⟩ | ⟨g1, _⟩ | ⟨_, g1⟩
      · obtain ⟨A, a1, a2⟩ := num_part hx h1 (min (placeOf (rungOf x)) (placeOf (rungOf y))) (by omega)
        obtain ⟨B, b1, b2⟩ := num_part hy g1 (min (placeOf (rungOf x)) (placeOf (rungOf y))) (by omega)
        generalize hp : min (placeOf (rungOf x)) (placeOf (rungOf y)) = p at *
        have hs : (double.read x).sum (double.read y) = some (.number (if (A : Int) + B = 0 then sgn x && sgn y else decide ((A : Int) + B < 0)) (A + B) p) := by
          rw [read_num h1, read_num g1]
          simp only [Datum.sum]
          rw [hp, a1, b1, ← Int.natCast_add, Int.natAbs_natCast]
        generalize hq : (if (A : Int) + B = 0 then sgn x && sgn y else decide ((A : Int) + B < 0)) = q at hs
        refine ⟨q, rnd (A + B) p, rnd_le (A + B) p, ?_, ?_, ?_, ?_⟩
        · intro e
          have : A + B = 0 := by
            rw [← hq] at e
            split at e
            · omega
            · have := of_decide_eq_true e; omega
          rw [this, rnd_zero]
        · rw [add_of hs, write_num]
        · rw [← a2]; exact rnd_mono' _ (by omega)
        · rw [← b2]; exact rnd_mono' _ (by omega)
      · have hs : sgn y = false := by
          cases e : sgn y with
          | false => rfl
          | true => have := hy.sgn0 e; unfold infR at g1; omega
        refine ⟨false, infR, Nat.le_refl _, by simp, ?_, hx.le, hy.le⟩
        rw [add_of (d := .infinity false) (by rw [read_num h1, read_inf g1, hs]; rfl), write_inf]
      · rw [hy.2.1] at g1; cases g1
    · have hs : sgn x = false := by
        cases e : sgn x with
        | false => rfl
        | true => have := hx.sgn0 e; unfold infR at h1; omega
      refine ⟨false, infR, Nat.le_refl _, by simp, ?_, hx.le, hy.le⟩
      rcases rung_trich y with ⟨g1, _⟩ | ⟨g1, _⟩ | ⟨_, g1⟩
      · rw [add_of (d := .infinity false) (by rw [read_inf h1, read_num g1, hs]; rfl), write_inf]
      · have hs2 : sgn y = false := by
          cases e : sgn y with
          | false => rfl
          | true => have := hy.sgn0 e; unfold infR at g1; omega
        rw [add_of (d := .infinity false) (by rw [read_inf h1, read_inf g1, hs, hs2]; rfl), write_inf]
      · rw [hy.2.1] at g1; cases g1
    · rw [hx.2.1] at h1; cases h1
  obtain ⟨s, r, h1, h2, h3, h4, h5⟩ := main
  obtain ⟨k1, k2, k3⟩ := key_word s h1 h2
  rw [h3, hx.key, hy.key]
  unfold NN
  rw [k3]
  exact ⟨⟨k1, k2, by omega⟩, by omega, by omega⟩
theorem row3_ge {x y z : Nat} (hx : NN x) (hy : NN y) (hz : NN z) : NN (rowQ [x, y, z]) ∧ ∀ w ∈ [x, y, z], keyOf' w ≤ keyOf' (rowQ [x, y, z]) := by
  have e : rowQ [x, y, z] = addQ (addQ x y) z := by
    show addQ (addQ (quietF x) y) z = _
    have : quietF x = x := by unfold quietF; rw [hx.2.1]; rfl
    rw [this]
  rw [e]
  obtain ⟨h1, h2, h3⟩ := add_nn hx hy
  obtain ⟨g1, g2, g3⟩ := add_nn h1 hz
  refine ⟨g1, ?_⟩
  intro w hw
  simp at hw
  rcases hw with rfl | rfl | rfl <;> omega
theorem sort3_perm (a b c : Nat) : ∃ x y z, sort3 a b c = [x, y, z] ∧ a ∈ [x, y, z] ∧ b ∈ [x, y, z] ∧ c ∈ [x, y, z] ∧ ∀ w ∈ [x, y, z], w = a ∨ w = b ∨ w = c := by
  unfold sort3
  split <;> split <;> (try split) <;> exact ⟨_, _, _, rfl, by simp, by simp, by simp, by intro w hw; simp at hw; rcases hw with rfl | rfl | rfl <;> simp⟩
theorem three_ge {a b c : Nat} (ha : NN a) (hb : NN b) (hc : NN c) : NN (three a b c) ∧ keyOf' a ≤ keyOf' (three a b c) ∧ keyOf' b ≤ keyOf' (three a b c) ∧ keyOf' c ≤ keyOf' (three a b c) := by
  obtain ⟨x, y, z, e, m1, m2, m3, m4⟩ := sort3_perm a b c
  have nn : ∀ w ∈ [x, y, z], NN w := by
    intro w hw
    rcases m4 w hw with rfl | rfl | rfl <;> assumption
  obtain ⟨h1, h2⟩ := row3_ge (nn x (by simp)) (nn y (by simp)) (nn z (by simp))
  unfold three
  rw [e]
  exact ⟨h1, h2 a m1, h2 b m2, h2 c m3⟩
theorem not_lss_zero {x : Nat} (h : W64 x) (hn : isN x = false) (hl : fcmp .lss (double.order x 0) = false) : NN x := by
  refine ⟨h, hn, ?_⟩
  have h0 : isN 0 = false := by decide
  have k0 : keyOf' 0 = 0 := by decide
  rw [order_eq hn h0, k0] at hl
  rcases Int.lt_or_le (keyOf' x) 0 with g | g
  · rw [Std.compare_eq_lt.2 g] at hl; cases hl
  · exact g
theorem geq_of {s a : Nat} (hs : isN s = false) (ha : isN a = false) (h : keyOf' a ≤ keyOf' s) : fcmp .geq (double.order s a) = true := by
  rw [order_eq hs ha]
  rcases Int.lt_trichotomy (keyOf' s) (keyOf' a) with g | g | g
  · omega
  · rw [g, Std.compare_self]; rfl
  · rw [Std.compare_eq_gt.2 g]; rfl
theorem three_swap2 {a b c : Nat} (ha : W64 a) (hb : W64 b) (hc : W64 c) : three a c b = three a b c := by
  rw [three_swap hc ha hb, three_rot hc ha hb]
theorem three_rev {a b c : Nat} (ha : W64 a) (hb : W64 b) (hc : W64 c) : three c b a = three a b c := by
  rw [three_swap hb hc ha, three_rot ha hb hc]
theorem three_rot2 {a b c : Nat} (ha : W64 a) (hb : W64 b) (hc : W64 c) : three c a b = three a b c := by
  rw [← three_rot hc ha hb]
end Go.Lift

/- Nothing added changes nothing. Own work. -/
set_option linter.unusedVariables false
set_option linter.unusedSimpArgs false
namespace Go.Lift
open Ieee

/-- A zero. -/
def Z (x : Nat) : Prop := W64 x ∧ isN x = false ∧ rungOf x = 0
/-- The same, or both zero. -/
def Eqv (r x : Nat) : Prop := isN r = false ∧ rungOf r = rungOf x ∧ (rungOf x ≠ 0 → r = x)
theorem Z0 : Z 0 := ⟨W0, by decide, by decide⟩
theorem read_Z {z : Nat} (h : Z z) : double.read z = .number (sgn z) 0 (-1074) := by
  rw [read_num (by rw [h.2.2]; decide), h.2.2]; rfl
theorem sub_of {x y : Nat} {d : Datum} (h : (double.read x).sum (double.read y).opposite = some d) : subQ x y = double.write d := by
  unfold subQ
  show (((double.read x).sum (double.read y).opposite).map double.write).getD QN = _
  rw [h]; rfl
theorem add_Z {x z : Nat} (hx : W64 x) (hn : isN x = false) (hz : Z z) : Eqv (addQ x z) x := by
  obtain ⟨w, h1, h2, h3, h4⟩ := sum_zero hx hn (sgn z) (-1074)
  have e : addQ x z = w := by
    unfold addQ
    show (((double.read x).sum (double.read z)).map double.write).getD QN = w
    rw [read_Z hz, h1]; rfl
  rw [e]; exact ⟨h2, h3, h4⟩
theorem sub_Z {x z : Nat} (hx : W64 x) (hn : isN x = false) (hz : Z z) : Eqv (subQ x z) x := by
  obtain ⟨w, h1, h2, h3, h4⟩ := sum_zero hx hn (!sgn z) (-1074)
  have e : subQ x z = w := by
    unfold subQ
    show (((double.read x).sum (double.read z).opposite).map double.write).getD QN = w
    rw [read_Z hz]
    show (((double.read x).sum (.number (!sgn z) 0 (-1074))).map double.write).getD QN = w
    rw [h1]; rfl
  rw [e]; exact ⟨h2, h3, h4⟩
theorem Eqv.zero {r x : Nat} (hw : W64 r) (h : Eqv r x) (hx : rungOf x = 0) : Z r := ⟨hw, h.1, h.2.1.trans hx⟩
theorem sub_self {x : Nat} (h : rungOf x < infR) : Z (subQ x x) := by
  have hs : (double.read x).sum (double.read x).opposite = some (.number (sgn x && !sgn x) 0 (placeOf (rungOf x))) := by
    rw [read_num h]
    simp only [Datum.sum, Datum.opposite]
    rw [signed_not, Int.add_right_neg, Int.min_self]
    rfl
  have e := sub_of hs
  rw [write_num, rnd_zero] at e
  obtain ⟨h1, h2, h3, h4⟩ := word_le (s := sgn x && !sgn x) (Nat.zero_le infR)
  rw [e]; exact ⟨h2, h1, h3⟩
theorem add_neg {x : Nat} (hx : W64 x) (h : rungOf x < infR) : Z (addQ x (negF x)) := by
  have e : addQ x (negF x) = subQ x x := by
    unfold addQ subQ
    show (((double.read x).sum (double.read (negF x))).map double.write).getD QN = (((double.read x).sum (double.read x).opposite).map double.write).getD QN
    rw [read_negF hx]
  rw [e]; exact sub_self h
theorem add_ZZ {x z : Nat} (hx : Z x) (hz : Z z) : Z (addQ x z) := (add_Z hx.1 hx.2.1 hz).zero (addQ_w _ _) hx.2.2
theorem sub_ZZ {x z : Nat} (hx : Z x) (hz : Z z) : Z (subQ x z) := (sub_Z hx.1 hx.2.1 hz).zero (subQ_w _ _) hx.2.2
theorem Z.canon {x : Nat} (h : Z x) : canonF x = 0 := canon_zero h.2.1 h.2.2
theorem eql_Z {x : Nat} (h : Z x) : fcmp .eql (double.order x 0) = true := by rw [eql_zero, h.2.1, h.2.2]; rfl
theorem eql_Eqv {r x : Nat} (hn : isN x = false) (h : Eqv r x) : fcmp .eql (double.order r x) = true := by
  rw [order_eq h.1 hn]
  have : keyOf' r = keyOf' x := by
    by_cases hz : rungOf x = 0
    · rw [keyOf_zero.2 hz, keyOf_zero.2 (h.2.1.trans hz)]
    · rw [h.2.2 hz]
  rw [this, Std.compare_self]; rfl
theorem fin_nn {x : Nat} (h : rungOf x < infR) : isN x = false := by unfold isN; simp; omega
theorem quiet_nn {x : Nat} (h : isN x = false) : quietF x = x := by unfold quietF; rw [h]; rfl
theorem rowQ3_eq (x y z : Nat) : rowQ [x, y, z] = addQ (addQ (quietF x) y) z := rfl
theorem three_out {b : Nat} (hb : W64 b) (hf : rungOf b < infR) : Z (three b 0 (negF b)) := by
  have hn := negF_w hb
  have r2 := (rung_negF hb).1
  have n1 := fin_nn hf
  have n2 : isN (negF b) = false := by rw [isN_negF hb]; exact n1
  have q1 := quiet_nn n1
  have q2 := quiet_nn n2
  have q3 : quietF 0 = 0 := by decide
  by_cases hz : rungOf b = 0
  · have z1 : Z b := ⟨hb, n1, hz⟩
    have z2 : Z (negF b) := ⟨hn, n2, r2.trans hz⟩
    unfold three sort3
    split <;> split <;> (try split) <;> rw [rowQ3_eq] <;> (try rw [q1]) <;> (try rw [q2]) <;> (try rw [q3]) <;> exact add_ZZ (add_ZZ (by first | exact z1 | exact z2 | exact Z0) (by first | exact z1 | exact z2 | exact Z0)) (by first | exact z1 | exact z2 | exact Z0)
  · have a1 : addQ b 0 = b := (add_Z hb n1 Z0).2.2 hz
    have a2 : addQ 0 b = b := by rw [addQ_comm]; exact a1
    have a3 : addQ (negF b) 0 = negF b := (add_Z hn n2 Z0).2.2 (by rw [r2]; exact hz)
    have a4 : addQ 0 (negF b) = negF b := by rw [addQ_comm]; exact a3
    have k1 := add_neg hb hf
    have k2 : Z (addQ (negF b) b) := by rw [addQ_comm]; exact k1
    unfold three sort3
    split <;> split <;> (try split) <;> simp only [rowQ3_eq, q1, q2, q3, a1, a2, a3, a4] <;> first | exact k1 | exact k2 | exact add_ZZ k1 Z0 | exact add_ZZ k2 Z0
theorem three_00 {b : Nat} (hb : W64 b) (hf : rungOf b < infR) : Eqv (three b 0 0) b := by
  have n1 := fin_nn hf
  have q1 := quiet_nn n1
  have q3 : quietF 0 = 0 := by decide
  by_cases hz : rungOf b = 0
  · have z1 : Z b := ⟨hb, n1, hz⟩
    have k : Z (three b 0 0) := by
      unfold three sort3
      split <;> split <;> (try split) <;> rw [rowQ3_eq] <;> (try rw [q1]) <;> (try rw [q3]) <;> exact add_ZZ (add_ZZ (by first | exact z1 | exact Z0) (by first | exact z1 | exact Z0)) (by first | exact z1 | exact Z0)
    exact ⟨k.2.1, k.2.2.trans hz.symm, fun h => absurd hz h⟩
  · have a1 : addQ b 0 = b := (add_Z hb n1 Z0).2.2 hz
    have a2 : addQ 0 b = b := by rw [addQ_comm]; exact a1
    have a0 : addQ 0 0 = 0 := by decide +kernel
    have k : three b 0 0 = b := by
      unfold three sort3
      split <;> split <;> (try split) <;> simp only [rowQ3_eq, q1, q3, a0, a1, a2]
    rw [k]; exact ⟨n1, rfl, fun _ => rfl⟩
theorem Eqv.same {r x : Nat} (h : Eqv r x) (hx : rungOf x < infR) (hw : W64 r) (hxw : W64 x) : Z (subQ r x) ∧ Z (subQ x r) := by
  by_cases hz : rungOf x = 0
  · have z1 : Z x := ⟨hxw, fin_nn hx, hz⟩
    have z2 := h.zero hw hz
    exact ⟨sub_ZZ z2 z1, sub_ZZ z1 z2⟩
  · rw [h.2.2 hz]; exact ⟨sub_self hx, sub_self hx⟩
theorem careful_one {b : Nat} (hb : W64 b) (hf : rungOf b < infR) : Eqv (carefulQ [b]) b := by
  have n1 := fin_nn hf
  have es : Eqv (addQ 0 b) b := by rw [addQ_comm]; exact add_Z hb n1 Z0
  have a0 : addQ 0 0 = 0 := by decide +kernel
  have hfin : finF (addQ 0 b) = true := by unfold finF; rw [es.2.1]; exact decide_eq_true hf
  have e2 : (twS 0 b).2 = 0 := by
    unfold twS
    rw [if_pos hfin]
    show (if _ then _ else _) = 0
    split
    · exact (sub_ZZ Z0 (es.same hf (addQ_w _ _) hb).1).canon
    · have h1 := sub_Z (addQ_w 0 b) es.1 Z0
      have h2 : Eqv (subQ (addQ 0 b) 0) b := ⟨h1.1, h1.2.1.trans es.2.1, fun hz => (h1.2.2 (by rw [es.2.1]; exact hz)).trans (es.2.2 hz)⟩
      exact (h2.same hf (subQ_w _ _) hb).2.canon
  have e1 : (twS 0 b).1 = canonF (addQ 0 b) := by unfold twS; split <;> rfl
  have e : carefulQ [b] = addQ (canonF (addQ 0 b)) 0 := by
    show addQ (twS 0 b).1 (addQ 0 (twS 0 b).2) = _
    rw [e1, e2, a0]
  rw [e]
  by_cases hz : rungOf b = 0
  · have k : Z (addQ (canonF (addQ 0 b)) 0) := by rw [(es.zero (addQ_w _ _) hz).canon, a0]; exact Z0
    exact ⟨k.2.1, k.2.2.trans hz.symm, fun h => absurd hz h⟩
  · have c : canonF b = b := by unfold canonF; rw [n1, if_neg (by simp), if_neg hz]
    rw [es.2.2 hz, c]
    exact add_Z hb n1 Z0
theorem canonF_nan {s : Nat} (h : canonF s = s) (hn : isN s = true) : s = QN := by rw [← h]; unfold canonF; rw [if_pos hn]
theorem canonF_z {s : Nat} (h : canonF s = s) (hn : isN s = false) (hz : rungOf s = 0) : s = 0 := by rw [← h]; exact canon_zero hn hz
theorem tw_zero {s : Nat} (hw : W64 s) (hc : canonF s = s) : twS s 0 = (s, 0) := by
  cases hn : isN s with
  | true => rw [canonF_nan hc hn]; decide +kernel
  | false =>
    by_cases hz : rungOf s = 0
    · rw [canonF_z hc hn hz]; decide +kernel
    · have e := (add_Z hw hn Z0).2.2 hz
      unfold twS
      rw [e, hc]
      split
      · rename_i hf
        have hf : rungOf s < infR := by unfold finF at hf; simpa using hf
        have e3 : subQ s 0 = s := (sub_Z hw hn Z0).2.2 hz
        have z := sub_self hf
        congr 1
        split
        · rw [e3]; exact z.canon
        · exact (sub_ZZ Z0 z).canon
      · rfl
theorem carS_canon (l : List Nat) : canonF (carS l).1 = (carS l).1 ∧ W64 (carS l).1 ∧ W64 (carS l).2 := by
  have : ∀ (l : List Nat) (p : Nat × Nat), canonF p.1 = p.1 ∧ W64 p.1 ∧ W64 p.2 → canonF (l.foldl (fun p x => ((twS p.1 x).1, addQ p.2 (twS p.1 x).2)) p).1 = (l.foldl (fun p x => ((twS p.1 x).1, addQ p.2 (twS p.1 x).2)) p).1 ∧ W64 (l.foldl (fun p x => ((twS p.1 x).1, addQ p.2 (twS p.1 x).2)) p).1 ∧ W64 (l.foldl (fun p x => ((twS p.1 x).1, addQ p.2 (twS p.1 x).2)) p).2 := by
    intro l
    induction l with
    | nil => intro p h; exact h
    | cons x l ih =>
      intro p h
      refine ih _ ⟨?_, twS_w.1, addQ_w _ _⟩
      show canonF (twS p.1 x).1 = (twS p.1 x).1
      unfold twS
      split <;> exact canonF_idem _
  exact this l (0, 0) ⟨by decide, W0, W0⟩
theorem neq_out {w : Nat} (h : fcmp .neq (double.order w 0) = true) : ¬ Z w := by
  intro z
  rw [neq_eql, eql_Z z] at h; cases h
theorem careful_zero (l : List Nat) (h : fcmp .neq (double.order (carefulQ l) 0) = true) : carefulQ (l ++ [0]) = carefulQ l := by
  obtain ⟨c1, c2, c3⟩ := carS_canon l
  unfold carefulQ at h ⊢
  rw [carS_snoc, tw_zero c2 c1]
  show addQ (carS l).1 (addQ (carS l).2 0) = addQ (carS l).1 (carS l).2
  generalize (carS l).1 = s at *
  generalize (carS l).2 = lo at *
  cases hn : isN lo with
  | true =>
    rw [addQ_nan (x := lo) (.inl hn), addQ_nan (x := s) (.inr hn)]
    exact addQ_nan (.inr QN_N)
  | false =>
    have e := add_Z c3 hn Z0
    by_cases hz : rungOf lo = 0
    · have z1 : Z lo := ⟨c3, hn, hz⟩
      have z2 := e.zero (addQ_w _ _) hz
      cases hs : isN s with
      | true => rw [addQ_nan (x := s) (.inl hs), addQ_nan (x := s) (.inl hs)]
      | false =>
        have f1 := add_Z c2 hs z1
        have f2 := add_Z c2 hs z2
        by_cases hsz : rungOf s = 0
        · exact absurd (f1.zero (addQ_w _ _) hsz) (neq_out h)
        · rw [f1.2.2 hsz, f2.2.2 hsz]
    · rw [e.2.2 hz]
theorem row_zero {l : List Nat} (hl : WL l) (h : fcmp .neq (double.order (rowQ l) 0) = true) : rowQ (l ++ [0]) = rowQ l := by
  by_cases he : l = []
  · subst he; rfl
  · rw [rowQ_snoc he]
    cases hn : isN (rowQ l) with
    | true =>
      rw [addQ_nan (.inl hn)]
      have := rowQ_q l
      unfold quietF at this
      rw [if_pos hn] at this
      exact this
    | false =>
      by_cases hz : rungOf (rowQ l) = 0
      · exact absurd (show Z (rowQ l) from ⟨rowQ_w hl, hn, hz⟩) (neq_out h)
      · exact (add_Z (rowQ_w hl) hn Z0).2.2 hz
theorem sub_fin {b w : Nat} (hn : isN b = false) (h1 : quietF w = subQ b b) (h : fcmp .neq (double.order w 0) = false) : rungOf b < infR := by
  rcases rung_trich b with ⟨g, _⟩ | ⟨g, _⟩ | ⟨_, g⟩
  · exact g
  · obtain ⟨k1, k2⟩ := neq_zero h
    have e : subQ b b = QN := by
      unfold subQ
      show (((double.read b).sum (double.read b).opposite).map double.write).getD QN = QN
      rw [read_inf g]
      simp only [Datum.sum, Datum.opposite]
      rw [if_neg (by cases sgn b <;> simp)]
      rfl
    rw [e] at h1
    have : isN w = true := by rw [← isN_quietF, h1]; exact QN_N
    rw [this] at k1; cases k1
  · rw [hn] at g; cases g

/-! ### A list and what stands behind it -/

def gK (a : List Nat) (j : Nat) : Nat := if j < a.length then a.getD j 0 else 4635118810238550016
theorem set_same' {l : List Nat} {i v : Nat} (h : i < l.length) : (l.set i v).getD i 0 = v := by
  rw [List.getD_eq_getElem?_getD, List.getElem?_set]; simp [h]
theorem set_other {l : List Nat} {i j v : Nat} (h : i ≠ j) : (l.set i v).getD j 0 = l.getD j 0 := by
  rw [List.getD_eq_getElem?_getD, List.getElem?_set, if_neg h, ← List.getD_eq_getElem?_getD]
theorem take_eq {x a : List Nat} (hl : a.length ≤ x.length) (h : ∀ j, j < a.length → x.getD j 0 = a.getD j 0) : x.take a.length = a := by
  refine List.ext_getElem (by rw [List.length_take]; omega) fun j h1 h2 => ?_
  have g := h j h2
  rw [List.getD_eq_getElem?_getD, List.getD_eq_getElem?_getD, List.getElem?_eq_getElem h2, List.getElem?_eq_getElem (by omega)] at g
  simpa using g
end Go.Lift

/- Sums of whole numbers are exact. Own work. -/
set_option linter.unusedVariables false
set_option linter.unusedSimpArgs false
namespace Go.Lift
open Ieee

theorem rnd_int {m : Nat} (h : m < 9007199254740992) : rnd m 0 < infR ∧ ∃ e : Nat, magOf (rnd m 0) = m * 2 ^ e ∧ placeOf (rnd m 0) = -(e : Int) := by
  by_cases h0 : m = 0
  · subst h0
    rw [rnd_zero]
    have z : ∀ e : Nat, magOf 0 = 0 * 2 ^ e := fun e => by rw [Nat.zero_mul]; decide
    refine ⟨by decide, ?_⟩
    obtain ⟨e, he⟩ : ∃ e : Nat, e = 1074 := ⟨_, rfl⟩
    exact ⟨e, z e, by rw [he]; decide⟩
  · have h1 : m.log2 ≤ 52 := by have := (Nat.log2_lt h0 (k := 53)).2 (by omega); omega
    have hL : lastP m 0 = (m.log2 : Int) - 52 := by unfold lastP; omega
    have hq1 : bin ≤ m * 2 ^ (52 - m.log2) := by
      have := (Nat.le_log2 h0 (k := m.log2)).1 (Nat.le_refl _)
      have h2 := Nat.mul_le_mul_right (2 ^ (52 - m.log2)) this
      rw [← Nat.pow_add, show m.log2 + (52 - m.log2) = 52 by omega] at h2
      exact h2
    have hq2 : m * 2 ^ (52 - m.log2) < 2 * bin := by
      have := (Nat.log2_lt h0 (k := m.log2 + 1)).1 (by omega)
      have h2 := Nat.mul_lt_mul_of_pos_right this (Nat.two_pow_pos (52 - m.log2))
      rw [← Nat.pow_add, show m.log2 + 1 + (52 - m.log2) = 53 by omega] at h2
      exact h2
    have hr : rnd m 0 = (m.log2 + 1022) * bin + m * 2 ^ (52 - m.log2) := by
      unfold rnd
      rw [if_neg h0, hL, show (0 - ((m.log2 : Int) - 52)).toNat = 52 - m.log2 by omega, show ((m.log2 : Int) - 52 - 0).toNat = 0 by omega, show ((m.log2 : Int) - 52 + 1074).toNat = m.log2 + 1022 by omega, cutE_zero]
      refine Nat.min_eq_left ?_
      unfold infR; unfold bin at *; omega
    rw [hr]
    obtain ⟨q, hq⟩ : ∃ q, q = m * 2 ^ (52 - m.log2) := ⟨_, rfl⟩
    rw [← hq] at hq1 hq2 ⊢
    unfold bin infR at *
    refine ⟨by omega, 52 - m.log2, ?_, ?_⟩
    · unfold magOf bin
      rw [if_neg (by omega)]
      rw [← hq]; omega
    · unfold placeOf bin
      rw [if_neg (by omega)]
      omega

def fI (n : Int) : Nat := FloatKind.f64.nearest n
/-- x is the whole number n. -/
def IsInt (x : Nat) (n : Int) : Prop := W64 x ∧ rungOf x = rnd n.natAbs 0 ∧ (n ≠ 0 → sgn x = decide (n < 0))
def Sm (n : Int) : Prop := -9007199254740992 < n ∧ n < 9007199254740992
theorem Sm.nat {n : Int} (h : Sm n) : n.natAbs < 9007199254740992 := by unfold Sm at h; omega
theorem IsInt.cast {x : Nat} {n m : Int} (h : IsInt x n) (e : n = m) : IsInt x m := by subst e; exact h
theorem IsInt.fin {x : Nat} {n : Int} (h : IsInt x n) (hs : Sm n) : rungOf x < infR := by rw [h.2.1]; exact (rnd_int hs.nat).1
theorem IsInt.nn {x : Nat} {n : Int} (h : IsInt x n) (hs : Sm n) : isN x = false := fin_nn (h.fin hs)
theorem int_of (n : Int) : IsInt (fI n) n := by
  have e : fI n = double.word (decide (n < 0)) (rnd n.natAbs 0) := write_num _ _ _
  obtain ⟨h1, h2, h3, h4⟩ := word_le (s := decide (n < 0)) (rnd_le n.natAbs 0)
  rw [e]; exact ⟨h2, h3, fun _ => h4⟩
theorem IsInt.zero {x : Nat} (h : IsInt x 0) : Z x := ⟨h.1, h.nn (by unfold Sm; omega), by rw [h.2.1]; exact rnd_zero 0⟩
theorem Z.int {x : Nat} (h : Z x) : IsInt x 0 := ⟨h.1, by rw [h.2.2]; exact (rnd_zero 0).symm, fun e => absurd rfl e⟩
theorem IsInt.canon {x : Nat} {n : Int} (h : IsInt x n) (hs : Sm n) : IsInt (canonF x) n := by
  unfold canonF
  rw [h.nn hs, if_neg (by simp)]
  split
  · rename_i hz
    have e : n = 0 := by
      rcases Decidable.em (n = 0) with e | e
      · exact e
      · exfalso
        obtain ⟨k, h1, h2⟩ := (rnd_int hs.nat).2
        rw [← h.2.1, hz] at h1
        have : magOf 0 = 0 := by decide
        rw [this] at h1
        have := Nat.two_pow_pos k
        have : n.natAbs * 2 ^ k > 0 := Nat.mul_pos (by omega) this
        omega
    subst e; exact Z0.int
  · exact h
theorem num_int {x : Nat} {n : Int} (h : IsInt x n) (hs : Sm n) : ∃ e : Nat, placeOf (rungOf x) = -(e : Int) ∧ ∀ g : Nat, e ≤ g → signed (sgn x) (magOf (rungOf x)) (placeOf (rungOf x) - (-(g : Int))).toNat = n * ((2 ^ g : Nat) : Int) := by
  obtain ⟨e, h1, h2⟩ := (rnd_int hs.nat).2
  rw [← h.2.1] at h1 h2
  refine ⟨e, h2, fun g hg => ?_⟩
  rw [h1, h2, show (-(e : Int) - -(g : Int)).toNat = g - e by omega]
  unfold signed
  rw [Nat.shiftLeft_eq, Nat.mul_assoc, ← Nat.pow_add, show e + (g - e) = g by omega]
  by_cases hn : n = 0
  · subst hn; split <;> simp
  · rw [h.2.2 hn]
    by_cases hl : n < 0
    · rw [if_pos (decide_eq_true hl), Int.natCast_mul, show ((n.natAbs : Nat) : Int) = -n by omega, Int.neg_mul, Int.neg_neg]
    · rw [if_neg (by rw [decide_eq_false hl]; simp), Int.natCast_mul, show ((n.natAbs : Nat) : Int) = n by omega]
theorem sum_int {x : Nat} {a b : Int} (hx : IsInt x a) (ha : Sm a) {d : Datum} {t : Bool} {f : Nat} {m : Nat} (hd : d = .number t m (-(f : Int))) (hb : ∀ g : Nat, f ≤ g → signed t m (-(f : Int) - (-(g : Int))).toNat = b * ((2 ^ g : Nat) : Int)) (w : Nat)
    (hw : ∀ d', (double.read x).sum d = some d' → w = double.write d') : IsInt w (a + b) := by
  obtain ⟨e, h1, h2⟩ := num_int hx ha
  have hmin : min (-(e : Int)) (-(f : Int)) = -((max e f : Nat) : Int) := by omega
  have hs : (double.read x).sum d = some (.number (if (a + b) * ((2 ^ max e f : Nat) : Int) = 0 then sgn x && t else decide ((a + b) * ((2 ^ max e f : Nat) : Int) < 0)) ((a + b) * ((2 ^ max e f : Nat) : Int)).natAbs (-((max e f : Nat) : Int))) := by
    rw [read_num (hx.fin ha), hd]
    have k1 := h2 (max e f) (by omega)
    have k2 := hb (max e f) (by omega)
    rw [h1] at k1 ⊢
    simp only [Datum.sum]
    rw [hmin, k1, k2, ← Int.add_mul]
  have hp := Nat.two_pow_pos (max e f)
  rw [hw _ hs, write_num]
  have hr : rnd ((a + b) * ((2 ^ max e f : Nat) : Int)).natAbs (-((max e f : Nat) : Int)) = rnd (a + b).natAbs 0 := by
    rw [Int.natAbs_mul, Int.natAbs_natCast]
    have := rnd_scale (a + b).natAbs 0 (max e f)
    rw [show (0 : Int) - ((max e f : Nat) : Int) = -((max e f : Nat) : Int) by omega] at this
    exact this
  rw [hr]
  generalize hq : (if (a + b) * ((2 ^ max e f : Nat) : Int) = 0 then sgn x && t else decide ((a + b) * ((2 ^ max e f : Nat) : Int) < 0)) = q
  obtain ⟨g1, g2, g3, g4⟩ := word_le (s := q) (rnd_le (a + b).natAbs 0)
  refine ⟨g2, g3, fun hn => ?_⟩
  rw [g4, ← hq]
  have hpi : (0 : Int) < ((2 ^ max e f : Nat) : Int) := by omega
  rw [if_neg (fun hz => by rcases Int.mul_eq_zero.1 hz with h | h <;> omega)]
  by_cases hl : a + b < 0
  · rw [decide_eq_true hl, decide_eq_true (Int.mul_neg_of_neg_of_pos hl hpi)]
  · rw [decide_eq_false hl, decide_eq_false]
    have := Int.mul_nonneg (show 0 ≤ a + b by omega) (Int.le_of_lt hpi)
    omega
theorem int_add {x y : Nat} {a b : Int} (hx : IsInt x a) (hy : IsInt y b) (ha : Sm a) (hb : Sm b) : IsInt (addQ x y) (a + b) := by
  obtain ⟨f, h1, h2⟩ := num_int hy hb
  refine sum_int hx ha (d := double.read y) (t := sgn y) (m := magOf (rungOf y)) (f := f) (by rw [read_num (hy.fin hb), h1]) (fun g hg => by rw [← h1]; exact h2 g hg) _ fun d' hd => add_of hd
theorem int_sub {x y : Nat} {a b : Int} (hx : IsInt x a) (hy : IsInt y b) (ha : Sm a) (hb : Sm b) : IsInt (subQ x y) (a - b) := by
  obtain ⟨f, h1, h2⟩ := num_int hy hb
  refine (sum_int hx ha (b := -b) (d := (double.read y).opposite) (t := !sgn y) (m := magOf (rungOf y)) (f := f) (by rw [read_num (hy.fin hb), h1]; rfl) (fun g hg => by rw [← h1, signed_not, h2 g hg, Int.neg_mul]) _ fun d' hd => sub_of hd).cast (by omega)
theorem int_eql {x y : Nat} {n : Int} (hx : IsInt x n) (hy : IsInt y n) (hs : Sm n) : fcmp .eql (double.order x y) = true := by
  refine eql_Eqv (hy.nn hs) ⟨hx.nn hs, hx.2.1.trans hy.2.1.symm, fun hz => ?_⟩
  have hn : n ≠ 0 := by
    rintro rfl
    exact hz hy.zero.2.2
  have e1 := word_of hx.1
  have e2 := word_of hy.1
  rw [← e1, ← e2, hx.2.1, hy.2.1, hx.2.2 hn, hy.2.2 hn]
/-! ### Lists -/

def BL (l : List Int) : Prop := ∀ v ∈ l, -1099511627776 < v ∧ v < 1099511627776
theorem BL.sum {l : List Int} (h : BL l) : -(1099511627776 * (l.length : Int)) ≤ l.sum ∧ l.sum ≤ 1099511627776 * (l.length : Int) := by
  induction l with
  | nil => simp
  | cons v l ih =>
    have h1 := h v List.mem_cons_self
    have h2 := ih fun x hx => h x (List.mem_cons_of_mem _ hx)
    rw [List.sum_cons, List.length_cons]
    omega
theorem fold_int : ∀ (l : List Int) (x : Nat) (n : Int), BL l → IsInt x n → -(4398046511104 * 1024) ≤ n - 1099511627776 * (l.length : Int) → n + 1099511627776 * (l.length : Int) ≤ 4398046511104 * 1024 → IsInt ((l.map fI).foldl addQ x) (n + l.sum)
  | [], x, n, _, hx, _, _ => hx.cast (by simp)
  | v :: l, x, n, hb, hx, h1, h2 => by
    have h3 := hb v List.mem_cons_self
    rw [List.length_cons] at h1 h2
    have := fold_int l (addQ x (fI v)) (n + v) (fun y hy => hb y (List.mem_cons_of_mem _ hy)) (int_add hx (int_of v) (by unfold Sm; omega) (by unfold Sm; omega)) (by omega) (by omega)
    exact this.cast (by rw [List.sum_cons]; omega)
theorem row_int {l : List Int} (hb : BL l) (hl : l.length ≤ 4096) : IsInt (rowQ (l.map fI)) l.sum := by
  cases l with
  | nil => exact Z0.int
  | cons v l =>
    have h3 := hb v List.mem_cons_self
    have hq : quietF (fI v) = fI v := quiet_nn ((int_of v).nn (by unfold Sm; omega))
    rw [List.length_cons] at hl
    show IsInt ((l.map fI).foldl addQ (quietF (fI v))) _
    rw [hq]
    exact (fold_int l (fI v) v (fun y hy => hb y (List.mem_cons_of_mem _ hy)) (int_of v) (by omega) (by omega)).cast (by rw [List.sum_cons])
theorem BL.sm {l : List Int} (h : BL l) (hl : l.length ≤ 4096) : Sm l.sum := by
  have := h.sum
  unfold Sm; omega
theorem BL.take {l : List Int} (h : BL l) (k : Nat) : BL (l.take k) := fun x hx => h x (List.mem_of_mem_take hx)
theorem BL.drop {l : List Int} (h : BL l) (k : Nat) : BL (l.drop k) := fun x hx => h x (List.mem_of_mem_drop hx)
theorem pairs_int : ∀ (n : Nat) (l : List Int), l.length ≤ n → BL l → l.length ≤ 4096 → IsInt (pairsQ (l.map fI)) l.sum := by
  intro n
  induction n with
  | zero =>
    intro l h hb hl
    rw [pairs_low (by rw [List.length_map]; omega)]
    exact row_int hb hl
  | succ n ih =>
    intro l h hb hl
    by_cases h2 : l.length < 2
    · rw [pairs_low (by rw [List.length_map]; omega)]
      exact row_int hb hl
    · rw [pairs_step (by rw [List.length_map]; omega), List.length_map, ← List.map_take, ← List.map_drop]
      have l1 : (l.take ((l.length + 1) / 2)).length ≤ n := by rw [List.length_take]; omega
      have l2 : (l.drop ((l.length + 1) / 2)).length ≤ n := by rw [List.length_drop]; omega
      have k1 : (l.take ((l.length + 1) / 2)).length ≤ 4096 := by rw [List.length_take]; omega
      have k2 : (l.drop ((l.length + 1) / 2)).length ≤ 4096 := by rw [List.length_drop]; omega
      refine (int_add (ih _ l1 (hb.take _) k1) (ih _ l2 (hb.drop _) k2) ((hb.take _).sm k1) ((hb.drop _).sm k2)).cast ?_
      rw [← List.sum_append, List.take_append_drop]
theorem tw_int {x y : Nat} {a b : Int} (hx : IsInt x a) (hy : IsInt y b) (ha : Sm a) (hb : Sm b) (hab : Sm (a + b)) : IsInt (twS x y).1 (a + b) ∧ (twS x y).2 = 0 := by
  have hs := int_add hx hy ha hb
  have hf : finF (addQ x y) = true := by unfold finF; exact decide_eq_true (hs.fin hab)
  unfold twS
  rw [if_pos hf]
  refine ⟨hs.canon hab, ?_⟩
  show (if _ then _ else _) = 0
  split
  · have h1 := (int_sub hs hy hab hb).cast (show a + b - b = a by omega)
    exact ((int_sub hx h1 ha ha).cast (show a - a = 0 by omega)).zero.canon
  · have h1 := (int_sub hs hx hab ha).cast (show a + b - a = b by omega)
    exact ((int_sub hy h1 hb hb).cast (show b - b = 0 by omega)).zero.canon
theorem car_int : ∀ (l : List Int) (p : Nat × Nat) (n : Int), BL l → IsInt p.1 n → p.2 = 0 → -(4398046511104 * 1024) ≤ n - 1099511627776 * (l.length : Int) → n + 1099511627776 * (l.length : Int) ≤ 4398046511104 * 1024 →
    IsInt ((l.map fI).foldl (fun p x => ((twS p.1 x).1, addQ p.2 (twS p.1 x).2)) p).1 (n + l.sum) ∧ ((l.map fI).foldl (fun p x => ((twS p.1 x).1, addQ p.2 (twS p.1 x).2)) p).2 = 0
  | [], p, n, _, hx, h0, _, _ => ⟨hx.cast (by simp), h0⟩
  | v :: l, p, n, hb, hx, h0, h1, h2 => by
    have h3 := hb v List.mem_cons_self
    rw [List.length_cons] at h1 h2
    obtain ⟨t1, t2⟩ := tw_int hx (int_of v) (by unfold Sm; omega) (by unfold Sm; omega) (by unfold Sm; omega)
    have a0 : addQ 0 0 = 0 := by decide +kernel
    have := car_int l ((twS p.1 (fI v)).1, addQ p.2 (twS p.1 (fI v)).2) (n + v) (fun y hy => hb y (List.mem_cons_of_mem _ hy)) t1 (by show addQ p.2 (twS p.1 (fI v)).2 = 0; rw [t2, h0, a0]) (by omega) (by omega)
    exact ⟨this.1.cast (by rw [List.sum_cons]; omega), this.2⟩
theorem careful_int {l : List Int} (hb : BL l) (hl : l.length ≤ 4096) : IsInt (carefulQ (l.map fI)) l.sum := by
  obtain ⟨h1, h2⟩ := car_int l (0, 0) 0 hb Z0.int rfl (by omega) (by omega)
  unfold carefulQ
  have h1 : IsInt (carS (l.map fI)).1 (0 + l.sum) := h1
  have h2 : (carS (l.map fI)).2 = 0 := h2
  rw [h2]
  exact (int_add h1 Z0.int (by rw [Int.zero_add]; exact hb.sm hl) (by unfold Sm; omega)).cast (by omega)
theorem row3_int {x y z : Nat} {a b c : Int} (hx : IsInt x a) (hy : IsInt y b) (hz : IsInt z c) (ha : Sm a) (hb : Sm b) (hc : Sm c) (hab : Sm (a + b)) : IsInt (rowQ [x, y, z]) (a + b + c) := by
  rw [rowQ3_eq, quiet_nn (hx.nn ha)]
  exact int_add (int_add hx hy ha hb) hz hab hc
theorem three_int {x y z : Nat} {a b c : Int} (hx : IsInt x a) (hy : IsInt y b) (hz : IsInt z c) (h1 : -1099511627776 < a ∧ a < 1099511627776) (h2 : -1099511627776 < b ∧ b < 1099511627776) (h3 : -1099511627776 < c ∧ c < 1099511627776) : IsInt (three x y z) (a + b + c) := by
  have s1 : Sm a := by unfold Sm; omega
  have s2 : Sm b := by unfold Sm; omega
  have s3 : Sm c := by unfold Sm; omega
  have s12 : Sm (a + b) := by unfold Sm; omega
  have s21 : Sm (b + a) := by unfold Sm; omega
  have s13 : Sm (a + c) := by unfold Sm; omega
  have s31 : Sm (c + a) := by unfold Sm; omega
  have s23 : Sm (b + c) := by unfold Sm; omega
  have s32 : Sm (c + b) := by unfold Sm; omega
  unfold three sort3
  split <;> split <;> (try split) <;> first
    | exact (row3_int hz hy hx s3 s2 s1 s32).cast (by omega)
    | exact (row3_int hy hz hx s2 s3 s1 s23).cast (by omega)
    | exact (row3_int hy hx hz s2 s1 s3 s21).cast (by omega)
    | exact (row3_int hz hx hy s3 s1 s2 s31).cast (by omega)
    | exact (row3_int hx hz hy s1 s3 s2 s13).cast (by omega)
    | exact (row3_int hx hy hz s1 s2 s3 s12).cast (by omega)
theorem tmod_rng (n : Int) : -1099511627776 < n.tmod 1099511627776 ∧ n.tmod 1099511627776 < 1099511627776 := by
  have h := Int.natAbs_tmod n 1099511627776
  have : n.natAbs % (1099511627776 : Int).natAbs < 1099511627776 := Nat.mod_lt _ (by decide)
  omega
end Go.Lift

/- Square roots: plain laws. Own work. -/
set_option linter.unusedVariables false
set_option linter.unusedSimpArgs false
namespace Go.Lift
open Ieee

theorem rootFrom_spec (n : Nat) : ∀ (todo r : Nat), r * r ≤ n → n < (r + 2 ^ todo) * (r + 2 ^ todo) → Datum.rootFrom n todo r * Datum.rootFrom n todo r ≤ n ∧ n < (Datum.rootFrom n todo r + 1) * (Datum.rootFrom n todo r + 1)
  | 0, r, h1, h2 => ⟨h1, h2⟩
  | todo + 1, r, h1, h2 => by
    have e : (1 <<< todo : Nat) = 2 ^ todo := by rw [Nat.shiftLeft_eq, Nat.one_mul]
    simp only [Datum.rootFrom, e]
    split
    · rename_i h
      refine rootFrom_spec n todo _ h ?_
      rw [Nat.add_assoc, show 2 ^ todo + 2 ^ todo = 2 ^ (todo + 1) by rw [Nat.pow_succ]; omega]
      exact h2
    · rename_i h
      exact rootFrom_spec n todo r h1 (by omega)
theorem isqrt_spec (n : Nat) : ∃ w, Datum.rootFrom n (n.log2 / 2 + 1) 0 = w ∧ w * w ≤ n ∧ n < (w + 1) * (w + 1) := by
  obtain ⟨h1, h2⟩ := rootFrom_spec n (n.log2 / 2 + 1) 0 (by simp) (by
    rw [Nat.zero_add, ← Nat.pow_add]
    by_cases h0 : n = 0
    · subst h0; exact Nat.two_pow_pos _
    · refine (Nat.log2_lt h0).1 ?_
      omega)
  exact ⟨_, rfl, h1, h2⟩
/-- The root of a number that is not below zero: what is rounded. -/
theorem root_num {x : Nat} (hx : NN x) (hf : rungOf x < infR) (h0 : rungOf x ≠ 0) : ∃ (k w : Nat) (q : Int), k ≤ 109 ∧ placeOf (rungOf x) - (k : Int) = 2 * q ∧
    w * w ≤ magOf (rungOf x) * 2 ^ k ∧ magOf (rungOf x) * 2 ^ k < (w + 1) * (w + 1) ∧ 2 ^ 108 ≤ magOf (rungOf x) * 2 ^ k ∧
    sqrtQ x = double.word false (rnd (2 * w + (w * w != magOf (rungOf x) * 2 ^ k).toNat) (q - 1)) := by
  have hm : magOf (rungOf x) ≠ 0 := by
    intro e
    have := rnd_exact hf
    rw [e, rnd_zero] at this
    exact h0 this.symm
  have hs : sgn x = false := by
    cases e : sgn x with
    | false => rfl
    | true => exact absurd (hx.sgn0 e) h0
  generalize hm0 : magOf (rungOf x) = m at *
  generalize hi0 : placeOf (rungOf x) = i at *
  have hr : double.read x = .number false m i := by rw [read_num hf, hs, hm0, hi0]
  generalize hmore : 2 * 54 - m.log2 = more
  generalize hk : more + ((i - (more : Int)) % 2).toNat = k
  obtain ⟨w, hw, w1, w2⟩ := isqrt_spec (m * 2 ^ k)
  have hroot : (double.read x).root (double.fractionBits + 2) = some (.number false (2 * w + (w * w != m * 2 ^ k).toNat) ((i - (k : Int)) / 2 - 1)) := by
    rw [hr]
    simp only [Datum.root]
    rw [if_neg hm, if_neg (by simp)]
    show some (Datum.number false _ _) = _
    have e1 : 2 * (double.fractionBits + 2) - m.log2 = more := hmore
    rw [e1, hk, Nat.shiftLeft_eq, hw]
  refine ⟨k, w, (i - (k : Int)) / 2, ?_, ?_, w1, w2, ?_, ?_⟩
  · omega
  · omega
  · have hl : 2 ^ m.log2 ≤ m := (Nat.le_log2 hm).1 (Nat.le_refl _)
    have : 2 ^ (m.log2 + k) ≤ m * 2 ^ k := by rw [Nat.pow_add]; exact Nat.mul_le_mul_right _ hl
    refine Nat.le_trans (Nat.pow_le_pow_right (by decide) ?_) this
    omega
  · unfold sqrtQ
    show (((double.read x).root (double.fractionBits + 2)).map double.write).getD QN = _
    rw [hroot]
    show double.write (.number false _ _) = _
    rw [write_num]

/-! ### To the nearest -/

/-- Above the middle it goes up. -/
theorem cutE_up {n d q : Nat} (h : (2 * q - 1) * 2 ^ d < 2 * n) (hq : 1 ≤ q) : q ≤ cutE n d := by
  have hp : 0 < 2 ^ d := Nat.two_pow_pos d
  rcases Nat.lt_or_ge n (q * 2 ^ d) with g | g
  · obtain ⟨p, rfl⟩ : ∃ p, q = p + 1 := ⟨q - 1, by omega⟩
    have h1 := Nat.div_add_mod n (2 ^ d)
    have h3 := Nat.mod_lt n hp
    unfold cutE
    generalize n % 2 ^ d = r at *
    generalize hD : 2 ^ d = D at *
    have e1 : (2 * (p + 1) - 1) * D = 2 * (p * D) + D := by
      rw [show 2 * (p + 1) - 1 = 2 * p + 1 by omega, Nat.add_mul, Nat.mul_assoc, Nat.one_mul]
    have e2 : (p + 1) * D = p * D + D := by rw [Nat.add_mul, Nat.one_mul]
    rw [e1] at h
    rw [e2] at g
    have hd : n / D = p := by
      refine Nat.div_eq_of_lt_le ?_ ?_
      · rw [← hD] at *
        have : p * 2 ^ d ≤ n := by omega
        exact this
      · rw [e2]; omega
    rw [hd] at h1 ⊢
    rw [Nat.mul_comm D p] at h1
    rw [if_pos (.inl (by omega))]
    exact Nat.le_refl _
  · exact le_cutE g
/-- Below the middle it goes down. -/
theorem cutE_dn {n d q : Nat} (h : 2 * n < (2 * q + 1) * 2 ^ d) : cutE n d ≤ q := by
  have hp : 0 < 2 ^ d := Nat.two_pow_pos d
  rcases Nat.lt_or_ge (q * 2 ^ d) n with g | g
  · have h1 := Nat.div_add_mod n (2 ^ d)
    have h3 := Nat.mod_lt n hp
    unfold cutE
    generalize hr : n % 2 ^ d = r at *
    generalize hD : 2 ^ d = D at *
    have e1 : (2 * q + 1) * D = 2 * (q * D) + D := by rw [Nat.add_mul, Nat.mul_assoc, Nat.one_mul]
    have e2 : (q + 1) * D = q * D + D := by rw [Nat.add_mul, Nat.one_mul]
    rw [e1] at h
    have hd : n / D = q := by
      refine Nat.div_eq_of_lt_le (by omega) ?_
      rw [e2]; omega
    rw [hd] at h1 ⊢
    rw [Nat.mul_comm D q] at h1
    rw [if_neg (by omega)]
    omega
  · exact cutE_le g
/-- A rung from its magnitude and place, where it is not among the least. -/
theorem rung_parts {r : Nat} (h : bin ≤ r) : (placeOf r + 1074).toNat * bin + magOf r = r ∧ bin ≤ magOf r ∧ magOf r < 2 * bin := by
  unfold placeOf magOf
  rw [if_neg (by omega), if_neg (by omega)]
  unfold bin at *
  omega
theorem mid_up {r V : Nat} {p : Int} (hr : bin ≤ r) (hf : r < infR) (hM : bin < magOf r) (hp : p < placeOf r) (h : (2 * magOf r - 1) * 2 ^ (placeOf r - 1 - p).toNat < V) : r ≤ rnd V p := by
  obtain ⟨e1, e2, e3⟩ := rung_parts hr
  have hE := placeOf_ge r
  generalize hE0 : placeOf r = E at *
  generalize hM0 : magOf r = M at *
  have hj : (E - p).toNat = (E - 1 - p).toNat + 1 := by omega
  generalize hj0 : (E - 1 - p).toNat = j at *
  have hX := rnd_mono' p (show (2 * M - 1) * 2 ^ j + 1 ≤ V by omega)
  refine Nat.le_trans ?_ hX
  have hpj := Nat.two_pow_pos j
  have hX0 : (2 * M - 1) * 2 ^ j + 1 ≠ 0 := by omega
  have l1 : 53 + j ≤ ((2 * M - 1) * 2 ^ j + 1).log2 := by
    refine (Nat.le_log2 hX0).2 ?_
    rw [Nat.pow_add]
    have : 2 ^ 53 * 2 ^ j ≤ (2 * M - 1) * 2 ^ j := Nat.mul_le_mul_right _ (by unfold bin at hM; omega)
    omega
  have l2 : ((2 * M - 1) * 2 ^ j + 1).log2 < 54 + j := by
    refine (Nat.log2_lt hX0).2 ?_
    rw [Nat.pow_add]
    have : (2 * M - 1 + 1) * 2 ^ j ≤ 2 ^ 54 * 2 ^ j := Nat.mul_le_mul_right _ (by unfold bin at e3; omega)
    rw [Nat.add_mul, Nat.one_mul] at this
    have h2 : (2 * M - 1 + 1) * 2 ^ j < 2 ^ 54 * 2 ^ j := Nat.mul_lt_mul_of_pos_right (by unfold bin at e3; omega) hpj
    rw [Nat.add_mul, Nat.one_mul] at h2
    omega
  have hL : lastP ((2 * M - 1) * 2 ^ j + 1) p = E := by unfold lastP; omega
  unfold rnd
  rw [if_neg hX0, hL, show (p - E).toNat = 0 by omega, Nat.pow_zero, Nat.mul_one, hj]
  have hc : M ≤ cutE ((2 * M - 1) * 2 ^ j + 1) (j + 1) := by
    refine cutE_up ?_ (by omega)
    rw [Nat.pow_succ]
    have : (2 * M - 1) * (2 ^ j * 2) = 2 * ((2 * M - 1) * 2 ^ j) := by rw [← Nat.mul_assoc]; omega
    omega
  refine Nat.le_min.2 ⟨?_, Nat.le_of_lt hf⟩
  exact Nat.le_trans (Nat.le_of_eq e1.symm) (Nat.add_le_add_left hc _)
/-- At a float or above it, it stays there or above. -/
theorem rnd_ge {r V : Nat} {p : Int} (hf : r < infR) (hp : p ≤ placeOf r) (h : magOf r * 2 ^ (placeOf r - p).toNat ≤ V) : r ≤ rnd V p := by
  have e := rnd_exact hf
  have := rnd_mono (m := magOf r) (p := placeOf r) (m' := V) (p' := p) (by
    unfold leV
    rw [show min (placeOf r) p = p by omega, Int.sub_self]
    simpa using h)
  omega

/-! ### Roots that are large enough -/

theorem sq_lt {a b : Nat} (h : a * a < b * b) : a < b := by
  rcases Nat.lt_or_ge a b with g | g
  · exact g
  · have := Nat.mul_le_mul g g; omega
theorem pow_two_mul (c j : Nat) : c * 2 ^ j * (c * 2 ^ j) = c * c * 2 ^ (2 * j) := by
  rw [show 2 * j = j + j by omega, Nat.pow_add, Nat.mul_mul_mul_comm]
theorem root_core {n w M a b : Nat} (w2 : n < (w + 1) * (w + 1)) (hlt : a < b) (H : (2 * M - 1) * (2 * M - 1) * 2 ^ (2 * b) < 4 * n * 2 ^ (2 * a)) : (2 * M - 1) * 2 ^ (b - a) < 2 * w + (w * w != n).toNat := by
  obtain ⟨j, rfl⟩ : ∃ j, b = a + j + 1 := ⟨b - a - 1, by omega⟩
  rw [show a + j + 1 - a = j + 1 by omega]
  generalize 2 * M - 1 = c at *
  have hp := Nat.two_pow_pos (2 * a)
  have e1 : c * c * 2 ^ (2 * (a + j + 1)) = (4 * (c * 2 ^ j * (c * 2 ^ j))) * 2 ^ (2 * a) := by
    rw [pow_two_mul, show 2 * (a + j + 1) = 2 * j + 2 * a + 2 by omega, Nat.pow_add, Nat.pow_add, show (2 : Nat) ^ 2 = 4 from rfl]
    rw [Nat.mul_comm 4 (c * c * 2 ^ (2 * j)), ← Nat.mul_assoc, ← Nat.mul_assoc, Nat.mul_right_comm _ 4 _]
  rw [e1] at H
  have h1 := Nat.lt_of_mul_lt_mul_right H
  have h2 : c * 2 ^ j * (c * 2 ^ j) < n := by omega
  have e2 : c * 2 ^ (j + 1) = 2 * (c * 2 ^ j) := by rw [Nat.pow_succ, ← Nat.mul_assoc, Nat.mul_comm _ 2]
  rw [e2]
  generalize c * 2 ^ j = t at *
  have h3 : t < w + 1 := sq_lt (by omega)
  rcases Nat.lt_or_ge t w with g | g
  · omega
  · have : t = w := by omega
    subst this
    have hb : (t * t != n) = true := by
      rw [bne_iff_ne]; omega
    rw [hb]
    show 2 * t < 2 * t + 1
    omega
theorem root_core' {n w M a b : Nat} (w2 : n < (w + 1) * (w + 1)) (hlt : a ≤ b) (H : M * M * 2 ^ (2 * b) ≤ n * 2 ^ (2 * a)) : M * 2 ^ (b - a) ≤ w := by
  obtain ⟨j, rfl⟩ : ∃ j, b = a + j := ⟨b - a, by omega⟩
  rw [show a + j - a = j by omega]
  have hp := Nat.two_pow_pos (2 * a)
  have e1 : M * M * 2 ^ (2 * (a + j)) = (M * 2 ^ j * (M * 2 ^ j)) * 2 ^ (2 * a) := by
    rw [pow_two_mul, show 2 * (a + j) = 2 * j + 2 * a by omega, Nat.pow_add, ← Nat.mul_assoc]
  rw [e1] at H
  have h1 := Nat.le_of_mul_le_mul_right H hp
  have h3 : M * 2 ^ j < w + 1 := sq_lt (by omega)
  omega
/-- 1074, not to be reckoned with. -/
def U74 : Nat := 1074
/-- What a root must reach so that the float r is reached. -/
def Reach (r v : Nat) : Prop := (bin < magOf r ∧ (2 * magOf r - 1) * (2 * magOf r - 1) * 2 ^ (2 * (placeOf r + 1074).toNat) < 4 * v) ∨ magOf r * magOf r * 2 ^ (2 * (placeOf r + 1074).toNat) ≤ v
theorem Reach.mono {r v v' : Nat} (h : Reach r v) (hv : v ≤ v') : Reach r v' := by
  rcases h with ⟨h1, h2⟩ | h
  · exact .inl ⟨h1, by omega⟩
  · exact .inr (by omega)
theorem sqrt_ge {s r : Nat} (hs : NN s) (hf : rungOf s < infR) (hr : bin ≤ r) (hrf : r < infR) (h0 : rungOf s ≠ 0) (H : Reach r (valR (rungOf s) * 2 ^ U74)) : r ≤ rungOf (sqrtQ s) := by
  obtain ⟨k, w, q, hk, hq, w1, w2, hn, e⟩ := root_num hs hf h0
  rw [e, (word_le (s := false) (rnd_le _ _)).2.2.1]
  have hi := placeOf_ge (rungOf s)
  have hE := placeOf_ge r
  obtain ⟨e1, e2, e3⟩ := rung_parts hr
  have hv : valR (rungOf s) * 2 ^ U74 = magOf (rungOf s) * 2 ^ k * 2 ^ (2 * (q + 1074).toNat) := by
    unfold valR
    rw [Nat.mul_assoc, Nat.mul_assoc, ← Nat.pow_add, ← Nat.pow_add]
    congr 2; unfold U74; omega
  rw [hv] at H
  generalize magOf (rungOf s) * 2 ^ k = n at *
  have hw : 2 ^ 54 ≤ w := by
    have : 2 ^ 54 * 2 ^ 54 < (w + 1) * (w + 1) := by
      rw [← Nat.pow_add]; exact Nat.lt_of_le_of_lt hn w2
    have := sq_lt this
    omega
  have hbin : bin = 2 ^ 52 := by decide
  have hM : magOf r < 2 ^ 53 := by rw [hbin] at e3; omega
  generalize hV : 2 * w + (w * w != n).toNat = V at *
  have hVw : 2 * w ≤ V := by omega
  rcases Int.lt_or_le (placeOf r) q with g | g
  · have e4 := rnd_exact hrf
    have := rnd_mono (m := magOf r) (p := placeOf r) (m' := V) (p' := q - 1) (by
      unfold leV
      rw [show min (placeOf r) (q - 1) = placeOf r by omega, Int.sub_self]
      have hp := Nat.two_pow_pos (q - 1 - placeOf r).toNat
      have : V * 1 ≤ V * 2 ^ (q - 1 - placeOf r).toNat := Nat.mul_le_mul_left _ hp
      simp only [Int.toNat_zero, Nat.pow_zero, Nat.mul_one] at this ⊢
      omega)
    omega
  · rcases H with ⟨hMb, H⟩ | H
    · refine mid_up hr hrf hMb (by omega) ?_
      rcases Int.lt_or_le q (placeOf r) with g2 | g2
      · have := root_core (a := (q + 1074).toNat) (b := (placeOf r + 1074).toNat) w2 (by omega) (by rw [Nat.mul_assoc 4]; exact H)
        rw [hV] at this
        rw [show (placeOf r - 1 - (q - 1)).toNat = (placeOf r + 1074).toNat - (q + 1074).toNat by omega]
        exact this
      · rw [show (placeOf r - 1 - (q - 1)).toNat = 0 by omega, Nat.pow_zero, Nat.mul_one]
        omega
    · refine rnd_ge hrf (by omega) ?_
      have := root_core' (a := (q + 1074).toNat) (b := (placeOf r + 1074).toNat) w2 (by omega) H
      rw [show (placeOf r - (q - 1)).toNat = (placeOf r + 1074).toNat - (q + 1074).toNat + 1 by omega, Nat.pow_succ, ← Nat.mul_assoc]
      omega

end Go.Lift

/- Squares, rounded. Own work. -/
set_option linter.unusedVariables false
set_option linter.unusedSimpArgs false
namespace Go.Lift
open Ieee

/-! ### Squares -/

theorem cutE_err (n d : Nat) : 2 * n ≤ (2 * cutE n d + 1) * 2 ^ d ∧ (1 ≤ cutE n d → (2 * cutE n d - 1) * 2 ^ d ≤ 2 * n) := by
  constructor
  · rcases Nat.lt_or_ge ((2 * cutE n d + 1) * 2 ^ d) (2 * n) with g | g
    · have := cutE_up (n := n) (d := d) (q := cutE n d + 1) (by rw [show 2 * (cutE n d + 1) - 1 = 2 * cutE n d + 1 by omega]; exact g) (by omega)
      omega
    · exact g
  · intro h
    rcases Nat.lt_or_ge (2 * n) ((2 * cutE n d - 1) * 2 ^ d) with g | g
    · have := cutE_dn (n := n) (d := d) (q := cutE n d - 1) (by rw [show 2 * (cutE n d - 1) + 1 = 2 * cutE n d - 1 by omega]; exact g)
      omega
    · exact g
/-- The square, rounded: how far from the square. -/
theorem square_parts {r : Nat} (hr : bin ≤ r) (hf : rnd (magOf r * magOf r) (placeOf r + placeOf r) < infR) (hb : bin ≤ rnd (magOf r * magOf r) (placeOf r + placeOf r)) :
    ∃ c d : Nat, valR (rnd (magOf r * magOf r) (placeOf r + placeOf r)) * 2 ^ U74 = c * 2 ^ d * 2 ^ (2 * (placeOf r + 1074).toNat) ∧ bin ≤ c ∧ 52 ≤ d ∧ c = cutE (magOf r * magOf r) d := by
  obtain ⟨e1, e2, e3⟩ := rung_parts hr
  have hE := placeOf_ge r
  generalize placeOf r = E at *
  generalize magOf r = M at *
  have hbin : bin = 2 ^ 52 := by decide
  have hm0 : M * M ≠ 0 := by
    have : 0 < M * M := Nat.mul_pos (by rw [hbin] at e2; omega) (by rw [hbin] at e2; omega)
    omega
  have hl1 : 104 ≤ (M * M).log2 := by
    refine (Nat.le_log2 hm0).2 ?_
    have := Nat.mul_le_mul e2 e2
    rw [hbin, ← Nat.pow_add] at this
    exact this
  generalize hLp : lastP (M * M) (E + E) = Lp
  have hLp1 : Lp = max (E + E + ((M * M).log2 : Int) - 52) (-1074) := hLp.symm
  generalize hd : (Lp - (E + E)).toNat = d
  have hd52 : 52 ≤ d := by omega
  have b1 : (M * M).log2 + 1 ≤ 53 + d := by omega
  have b2 : -1074 < Lp → 52 + d = (M * M).log2 := by intro g; omega
  have b3 : Lp ≤ -1074 → (Lp + 1074).toNat = 0 := by intro g; omega
  have b4 : (Lp + 1074).toNat + U74 = d + 2 * (E + 1074).toNat := by unfold U74; omega
  have b5 : (E + E - Lp).toNat = 0 := by omega
  have hρ : rnd (M * M) (E + E) = min ((Lp + 1074).toNat * bin + cutE (M * M) d) infR := by
    unfold rnd
    rw [if_neg hm0, hLp, hd, b5, Nat.pow_zero, Nat.mul_one]
  generalize hc : cutE (M * M) d = c at *
  have hρ2 : rnd (M * M) (E + E) = (Lp + 1074).toNat * bin + c := by
    rw [hρ] at hf ⊢
    rcases Nat.le_total ((Lp + 1074).toNat * bin + c) infR with g | g
    · exact Nat.min_eq_left g
    · rw [Nat.min_eq_right g] at hf; exact absurd hf (Nat.lt_irrefl _)
  have hcu : c ≤ 2 * bin := by
    rw [← hc]
    refine cutE_le ?_
    have h1 := (Nat.log2_lt hm0 (k := (M * M).log2 + 1)).1 (Nat.lt_succ_self _)
    have h2 : 2 ^ ((M * M).log2 + 1) ≤ 2 * bin * 2 ^ d := by
      rw [hbin, show 2 * 2 ^ 52 = 2 ^ 53 from rfl, ← Nat.pow_add]
      exact Nat.pow_le_pow_right (by decide) b1
    exact Nat.le_of_lt (Nat.lt_of_lt_of_le h1 h2)
  have hcl : bin ≤ c := by
    rcases Int.lt_or_le (-1074) Lp with g | g
    · rw [← hc]
      refine le_cutE ?_
      have h1 := (Nat.le_log2 hm0 (k := (M * M).log2)).1 (Nat.le_refl _)
      rw [hbin, ← Nat.pow_add, b2 g]
      exact h1
    · rw [hρ2, b3 g, Nat.zero_mul, Nat.zero_add] at hb
      exact hb
  refine ⟨c, d, ?_, hcl, hd52, hc.symm⟩
  have hv : valR (rnd (M * M) (E + E)) = c * 2 ^ (Lp + 1074).toNat := by
    rw [valR_hi (Nat.not_lt.2 hb), hρ2]
    clear hρ hρ2 hf hb b1 b2 b3 b4 b5 hd hLp1
    generalize (Lp + 1074).toNat = A
    rcases Nat.lt_or_ge c (2 * bin) with g | g
    · have h1 : (A * bin + c) / bin = A + 1 := by unfold bin at *; omega
      have h2 : (A * bin + c) % bin = c - bin := by unfold bin at *; omega
      rw [h1, h2, show bin + (c - bin) = c by omega, Nat.add_sub_cancel]
    · have h0 : c = 2 * bin := by omega
      have h1 : (A * bin + c) / bin = A + 2 := by unfold bin at *; omega
      have h2 : (A * bin + c) % bin = 0 := by unfold bin at *; omega
      rw [h1, h2, h0, Nat.add_zero, show A + 2 - 1 = A + 1 by omega, Nat.pow_succ, Nat.mul_comm 2 bin, Nat.mul_assoc, Nat.mul_comm 2]
  rw [hv, Nat.mul_assoc, Nat.mul_assoc, ← Nat.pow_add, ← Nat.pow_add]
  rw [b4]
theorem square_reach {r : Nat} (hr : bin ≤ r) (hf : rnd (magOf r * magOf r) (placeOf r + placeOf r) < infR) (hb : bin ≤ rnd (magOf r * magOf r) (placeOf r + placeOf r)) :
    Reach r (valR (rnd (magOf r * magOf r) (placeOf r + placeOf r)) * 2 ^ U74) := by
  obtain ⟨c, d, e, hc, hd, hcc⟩ := square_parts hr hf hb
  obtain ⟨e1, e2, e3⟩ := rung_parts hr
  rw [e]
  have hbin : bin = 2 ^ 52 := by decide
  have hp := Nat.two_pow_pos (2 * (placeOf r + 1074).toNat)
  unfold Reach
  generalize 2 ^ (2 * (placeOf r + 1074).toNat) = P at *
  generalize magOf r = M at *
  rcases Nat.lt_or_ge bin M with g | g
  · left
    refine ⟨g, ?_⟩
    rw [← Nat.mul_assoc]
    refine Nat.mul_lt_mul_of_pos_right ?_ hp
    obtain ⟨h1, h2⟩ := cutE_err (M * M) d
    rw [← hcc] at h1 h2
    have h2 := h2 (by rw [hbin] at hc; omega)
    generalize hD : 2 ^ d = D at *
    have hM2 : M * M ≤ M * (2 * bin - 1) := Nat.mul_le_mul_left _ (by omega)
    have hc1 : (2 * bin - 1) * D ≤ (2 * c - 1) * D := Nat.mul_le_mul_right _ (by omega)
    have hDM : D ≤ 2 * M := by
      have h3 : D * (2 * bin - 1) ≤ 2 * M * (2 * bin - 1) := by
        rw [Nat.mul_comm D, Nat.mul_assoc]; omega
      exact Nat.le_of_mul_le_mul_right h3 (by rw [hbin]; omega)
    have hd53 : d ≤ 53 := by
      rcases Nat.lt_or_ge 53 d with q | q
      · have : 2 ^ 54 ≤ 2 ^ d := Nat.pow_le_pow_right (by decide) q
        rw [hD] at this
        rw [hbin] at e3; omega
      · exact q
    have hD53 : D ≤ 2 ^ 53 := by rw [← hD]; exact Nat.pow_le_pow_right (by decide) hd53
    have hDM2 : D ≤ 2 * M - 2 := by rw [hbin] at g; omega
    have e4 : (2 * M - 1) * (2 * M - 1) + 4 * M = 4 * (M * M) + 1 := by
      obtain ⟨N, rfl⟩ : ∃ N, M = N + 1 := ⟨M - 1, by rw [hbin] at g; omega⟩
      rw [show 2 * (N + 1) - 1 = 2 * N + 1 by omega]
      simp only [Nat.add_mul, Nat.mul_add, Nat.mul_one, Nat.one_mul, Nat.mul_assoc, Nat.mul_left_comm N 2]
      omega
    have e5 : (2 * c + 1) * D = 2 * (c * D) + D := by rw [Nat.add_mul, Nat.mul_assoc, Nat.one_mul]
    rw [e5] at h1
    rw [← Nat.mul_assoc 4]
    have e6 : 4 * c * D = 4 * (c * D) := Nat.mul_assoc _ _ _
    rw [e6]
    omega
  · right
    have hM : M = bin := by omega
    refine Nat.mul_le_mul_right _ ?_
    rw [hM]
    exact Nat.mul_le_mul hc (by rw [hbin]; exact Nat.pow_le_pow_right (by decide) hd)
end Go.Lift

/- The root of a square is no less. Own work. -/
set_option linter.unusedVariables false
set_option linter.unusedSimpArgs false
namespace Go.Lift
open Ieee

theorem sq_word {x : Nat} (hf : rungOf x < infR) : mulQ x x = double.word false (rnd (magOf (rungOf x) * magOf (rungOf x)) (placeOf (rungOf x) + placeOf (rungOf x))) := by
  have h : (double.read x).product (double.read x) = some (.number false (magOf (rungOf x) * magOf (rungOf x)) (placeOf (rungOf x) + placeOf (rungOf x))) := by
    rw [read_num hf]
    simp only [Datum.product]
    rw [Bool.xor_self]
  unfold mulQ
  show (((double.read x).product (double.read x)).map double.write).getD QN = _
  rw [h]
  show double.write (.number false _ _) = _
  rw [write_num]
theorem sq_rung {x : Nat} (hf : rungOf x < infR) : rungOf (mulQ x x) = rnd (magOf (rungOf x) * magOf (rungOf x)) (placeOf (rungOf x) + placeOf (rungOf x)) := by
  rw [sq_word hf]; exact (word_le (s := false) (rnd_le _ _)).2.2.1
theorem sq_small {r : Nat} (h : r < bin) : rnd (magOf r * magOf r) (placeOf r + placeOf r) ≤ 1 := by
  have e1 : magOf r = r := by unfold magOf; rw [if_pos h]
  have e2 : placeOf r = -1074 := by unfold placeOf; rw [if_pos h]
  rw [e1, e2]
  have h1 := rnd_exact (r := 1) (by decide)
  rw [show magOf 1 = 1 by decide, show placeOf 1 = -1074 by decide] at h1
  have hb : bin = 2 ^ 52 := by decide
  have := rnd_mono (m := r * r) (p := -1074 + -1074) (m' := 1) (p' := -1074) (by
    unfold leV
    rw [show min (-1074 + -1074 : Int) (-1074) = -1074 + -1074 by decide, Int.sub_self, Int.toNat_zero, Nat.pow_zero, Nat.mul_one, Nat.one_mul]
    have h2 : r * r ≤ 2 ^ 104 := by
      have := Nat.mul_le_mul (Nat.le_of_lt h) (Nat.le_of_lt h)
      rw [hb, ← Nat.pow_add] at this
      exact this
    refine Nat.le_trans h2 (Nat.pow_le_pow_right (by decide) (by decide)))
  rw [h1] at this
  exact this
theorem sqrt_sq_ge {x s : Nat} (hf : rungOf x < infR) (hg : bin ≤ rungOf (mulQ x x)) (hg2 : rungOf (mulQ x x) < infR) (hs : NN s) (hsf : rungOf s < infR) (hle : rungOf (mulQ x x) ≤ rungOf s) : rungOf x ≤ rungOf (sqrtQ s) := by
  rw [sq_rung hf] at hg hg2 hle
  have hb : bin ≤ rungOf x := by
    rcases Nat.lt_or_ge (rungOf x) bin with g | g
    · have h1 := Nat.le_trans hg (sq_small g)
      exact absurd h1 (by decide)
    · exact g
  have h0 : rungOf s ≠ 0 := by
    intro e
    rw [e] at hle
    have h1 := Nat.le_trans hg hle
    exact absurd h1 (by decide)
  refine sqrt_ge hs hsf hb hf h0 ((square_reach hb hg2 hg).mono ?_)
  exact Nat.mul_le_mul_right _ (valR_le.2 hle)

/-- The root of what is above zero is above zero. -/
theorem sqrt_pos {s : Nat} (hs : NN s) (h0 : rungOf s ≠ 0) : isN (sqrtQ s) = false ∧ 1 ≤ rungOf (sqrtQ s) := by
  rcases rung_trich s with ⟨hf, _⟩ | ⟨hf, _⟩ | ⟨_, hn⟩
  · obtain ⟨k, w, q, hk, hq, w1, w2, hn, e⟩ := root_num hs hf h0
    have hi := placeOf_ge (rungOf s)
    generalize hV : 2 * w + (w * w != magOf (rungOf s) * 2 ^ k).toNat = V at *
    have hw : 1 ≤ w := by
      rcases Nat.eq_zero_or_pos w with g | g
      · subst g
        have : 2 ^ 108 < (0 + 1) * (0 + 1) := Nat.lt_of_le_of_lt hn w2
        exact absurd this (by decide)
      · exact g
    have hV1 : 1 ≤ V := by omega
    have h1 := rnd_exact (r := 1) (by decide)
    rw [show magOf 1 = 1 by decide, show placeOf 1 = -1074 by decide] at h1
    have h2 := rnd_mono (m := 1) (p := -1074) (m' := V) (p' := q - 1) (by
      unfold leV
      rw [show min (-1074) (q - 1) = -1074 by omega, Int.sub_self, Int.toNat_zero, Nat.pow_zero, Nat.mul_one]
      exact Nat.mul_pos hV1 (Nat.two_pow_pos _))
    rw [h1] at h2
    obtain ⟨g1, g2, g3, g4⟩ := word_le (s := false) (rnd_le V (q - 1))
    rw [e, g3]
    exact ⟨g1, h2⟩
  · have hsg : sgn s = false := by
      cases e : sgn s with
      | false => rfl
      | true => exact absurd (hs.sgn0 e) h0
    have e : sqrtQ s = double.word false infR := by
      unfold sqrtQ
      show (((double.read s).root (double.fractionBits + 2)).map double.write).getD QN = _
      rw [read_inf hf, hsg]
      show double.write (.infinity false) = _
      rw [write_inf]
    obtain ⟨g1, g2, g3, g4⟩ := word_le (s := false) (Nat.le_refl infR)
    rw [e, g3]
    exact ⟨g1, by decide⟩
  · rw [hs.2.1] at hn; cases hn
end Go.Lift

/- Roots that are small enough. Own work. -/
set_option linter.unusedVariables false
set_option linter.unusedSimpArgs false
namespace Go.Lift
open Ieee

theorem mid_dn {r V : Nat} {p : Int} (hr : bin ≤ r) (hf : r < infR) (hp : p < placeOf r) (h : V < (2 * magOf r + 1) * 2 ^ (placeOf r - 1 - p).toNat) : rnd V p ≤ r := by
  obtain ⟨e1, e2, e3⟩ := rung_parts hr
  have hE := placeOf_ge r
  generalize hE0 : placeOf r = E at *
  generalize hM0 : magOf r = M at *
  have hj : (E - p).toNat = (E - 1 - p).toNat + 1 := by omega
  generalize hj0 : (E - 1 - p).toNat = j at *
  have hpj := Nat.two_pow_pos j
  have hbin : bin = 2 ^ 52 := by decide
  have hX := rnd_mono' p (show V ≤ (2 * M + 1) * 2 ^ j - 1 by omega)
  refine Nat.le_trans hX ?_
  have lo : 2 ^ 53 * 2 ^ j + 2 ^ j ≤ (2 * M + 1) * 2 ^ j := by
    have : (2 ^ 53 + 1) * 2 ^ j ≤ (2 * M + 1) * 2 ^ j := Nat.mul_le_mul_right _ (by rw [hbin] at e2; omega)
    rw [Nat.add_mul, Nat.one_mul] at this
    exact this
  have up : (2 * M + 1) * 2 ^ j ≤ 2 ^ 54 * 2 ^ j := Nat.mul_le_mul_right _ (by rw [hbin] at e3; omega)
  have h53 : 0 < 2 ^ 53 * 2 ^ j := Nat.mul_pos (by decide) hpj
  generalize hX1 : (2 * M + 1) * 2 ^ j - 1 = X
  have hX0 : X ≠ 0 := by omega
  have l1 : 53 + j ≤ X.log2 := by
    refine (Nat.le_log2 hX0).2 ?_
    rw [Nat.pow_add]; omega
  have l2 : X.log2 < 54 + j := by
    refine (Nat.log2_lt hX0).2 ?_
    rw [Nat.pow_add]; omega
  have hL : lastP X p = E := by unfold lastP; omega
  unfold rnd
  rw [if_neg hX0, hL, show (p - E).toNat = 0 by omega, Nat.pow_zero, Nat.mul_one, hj]
  have hc : cutE X (j + 1) ≤ M := by
    refine cutE_dn ?_
    rw [Nat.pow_succ]
    have : (2 * M + 1) * (2 ^ j * 2) = 2 * ((2 * M + 1) * 2 ^ j) := by rw [← Nat.mul_assoc, Nat.mul_comm _ 2]
    omega
  refine Nat.le_trans (Nat.min_le_left _ _) ?_
  exact Nat.le_trans (Nat.add_le_add_left hc _) (Nat.le_of_eq e1)

theorem root_core_dn {n w M a b : Nat} (w1 : w * w ≤ n) (hlt : a < b) (H : 4 * n * 2 ^ (2 * a) < (2 * M + 1) * (2 * M + 1) * 2 ^ (2 * b)) : 2 * w + (w * w != n).toNat < (2 * M + 1) * 2 ^ (b - a) := by
  obtain ⟨j, rfl⟩ : ∃ j, b = a + j + 1 := ⟨b - a - 1, by omega⟩
  rw [show a + j + 1 - a = j + 1 by omega]
  generalize 2 * M + 1 = c at *
  have e1 : c * c * 2 ^ (2 * (a + j + 1)) = (4 * (c * 2 ^ j * (c * 2 ^ j))) * 2 ^ (2 * a) := by
    rw [pow_two_mul, show 2 * (a + j + 1) = 2 * j + 2 * a + 2 by omega, Nat.pow_add, Nat.pow_add, show (2 : Nat) ^ 2 = 4 from rfl]
    rw [Nat.mul_comm 4 (c * c * 2 ^ (2 * j)), ← Nat.mul_assoc, ← Nat.mul_assoc, Nat.mul_right_comm _ 4 _]
  rw [e1] at H
  have h1 := Nat.lt_of_mul_lt_mul_right H
  have h2 : n < c * 2 ^ j * (c * 2 ^ j) := by omega
  have e2 : c * 2 ^ (j + 1) = 2 * (c * 2 ^ j) := by rw [Nat.pow_succ, ← Nat.mul_assoc, Nat.mul_comm _ 2]
  rw [e2]
  generalize c * 2 ^ j = t at *
  have h3 : w < t := sq_lt (by omega)
  have : (w * w != n).toNat ≤ 1 := by cases (w * w != n) <;> decide
  omega
theorem sqrt_le {s r : Nat} (hs : NN s) (hf : rungOf s < infR) (hr : bin ≤ r) (hrf : r < infR) (h0 : rungOf s ≠ 0) (H : 4 * (valR (rungOf s) * 2 ^ U74) < (2 * magOf r + 1) * (2 * magOf r + 1) * 2 ^ (2 * (placeOf r + 1074).toNat)) : rungOf (sqrtQ s) ≤ r := by
  obtain ⟨k, w, q, hk, hq, w1, w2, hn, e⟩ := root_num hs hf h0
  rw [e, (word_le (s := false) (rnd_le _ _)).2.2.1]
  have hi := placeOf_ge (rungOf s)
  have hE := placeOf_ge r
  obtain ⟨e1, e2, e3⟩ := rung_parts hr
  have hv : valR (rungOf s) * 2 ^ U74 = magOf (rungOf s) * 2 ^ k * 2 ^ (2 * (q + 1074).toNat) := by
    unfold valR
    rw [Nat.mul_assoc, Nat.mul_assoc, ← Nat.pow_add, ← Nat.pow_add]
    congr 2; unfold U74; omega
  rw [hv] at H
  generalize magOf (rungOf s) * 2 ^ k = n at *
  have hbin : bin = 2 ^ 52 := by decide
  have hM : 2 * magOf r + 1 ≤ 2 ^ 54 := by rw [hbin] at e3; omega
  have hqE : q < placeOf r := by
    rcases Int.lt_or_le q (placeOf r) with g | g
    · exact g
    · exfalso
      have h1 : 2 ^ (2 * (placeOf r + 1074).toNat) ≤ 2 ^ (2 * (q + 1074).toNat) := Nat.pow_le_pow_right (by decide) (by omega)
      have h2 : (2 * magOf r + 1) * (2 * magOf r + 1) ≤ n := by
        have := Nat.mul_le_mul hM hM
        rw [← Nat.pow_add] at this
        exact Nat.le_trans this hn
      have h3 := Nat.mul_le_mul h2 h1
      have h4 : n * 2 ^ (2 * (q + 1074).toNat) ≤ 4 * (n * 2 ^ (2 * (q + 1074).toNat)) := Nat.le_mul_of_pos_left _ (by decide)
      exact absurd H (Nat.not_lt.2 (Nat.le_trans h3 h4))
  refine mid_dn hr hrf (by omega) ?_
  have := root_core_dn (a := (q + 1074).toNat) (b := (placeOf r + 1074).toNat) w1 (by omega) (by rw [Nat.mul_assoc 4]; exact H)
  rw [show (placeOf r - 1 - (q - 1)).toNat = (placeOf r + 1074).toNat - (q + 1074).toNat by omega]
  exact this

theorem square_dn {r : Nat} (hr : bin ≤ r) (hf : rnd (magOf r * magOf r) (placeOf r + placeOf r) < infR) (hb : bin ≤ rnd (magOf r * magOf r) (placeOf r + placeOf r)) :
    4 * (valR (rnd (magOf r * magOf r) (placeOf r + placeOf r)) * 2 ^ U74) < (2 * magOf r + 1) * (2 * magOf r + 1) * 2 ^ (2 * (placeOf r + 1074).toNat) := by
  obtain ⟨c, d, e, hc, hd, hcc⟩ := square_parts hr hf hb
  obtain ⟨e1, e2, e3⟩ := rung_parts hr
  rw [e]
  have hbin : bin = 2 ^ 52 := by decide
  have hp := Nat.two_pow_pos (2 * (placeOf r + 1074).toNat)
  generalize 2 ^ (2 * (placeOf r + 1074).toNat) = P at *
  clear e e1 hf hb
  generalize magOf r = M at *
  rw [← Nat.mul_assoc]
  refine Nat.mul_lt_mul_of_pos_right ?_ hp
  obtain ⟨h1, h2⟩ := cutE_err (M * M) d
  rw [← hcc] at h1 h2
  have h2 := h2 (by rw [hbin] at hc; omega)
  generalize hD : 2 ^ d = D at *
  have hM2 : M * M ≤ M * (2 * bin - 1) := Nat.mul_le_mul_left _ (by omega)
  have hc1 : (2 * bin - 1) * D ≤ (2 * c - 1) * D := Nat.mul_le_mul_right _ (by omega)
  have hDM : D ≤ 2 * M := by
    have h3 : D * (2 * bin - 1) ≤ 2 * M * (2 * bin - 1) := by
      rw [Nat.mul_comm D, Nat.mul_assoc]; omega
    exact Nat.le_of_mul_le_mul_right h3 (by rw [hbin]; omega)
  have e5 : (2 * c - 1) * D + D = 2 * (c * D) := by
    obtain ⟨g, rfl⟩ : ∃ g, c = g + 1 := ⟨c - 1, by rw [hbin] at hc; omega⟩
    rw [show 2 * (g + 1) - 1 = 2 * g + 1 by omega, Nat.add_mul, Nat.add_mul, Nat.mul_assoc, Nat.one_mul]
    omega
  have e4 : (2 * M + 1) * (2 * M + 1) = 4 * (M * M) + 4 * M + 1 := by
    simp only [Nat.add_mul, Nat.mul_add, Nat.mul_one, Nat.one_mul, Nat.mul_assoc, Nat.mul_left_comm M 2]
    omega
  rw [e4]
  have e6 : 4 * (c * D) = 2 * (2 * (c * D)) := by omega
  rw [e6, ← e5]
  clear hM2 hc1 hc hD hcc e6 e5 e4
  omega
/-- The root of the square is the number, signs apart. -/
theorem sqrt_sq {x : Nat} (hf : rungOf x < infR) (hg : bin ≤ rungOf (mulQ x x)) (hg2 : rungOf (mulQ x x) < infR) : rungOf (sqrtQ (mulQ x x)) = rungOf x := by
  have hn : NN (mulQ x x) := by
    rw [sq_word hf]
    obtain ⟨h1, h2, h3, h4⟩ := word_le (s := false) (rnd_le (magOf (rungOf x) * magOf (rungOf x)) (placeOf (rungOf x) + placeOf (rungOf x)))
    refine ⟨h2, h1, ?_⟩
    unfold keyOf'
    rw [h4, if_neg (by simp)]
    exact Int.natCast_nonneg _
  have lo := sqrt_sq_ge hf hg hg2 hn hg2 (Nat.le_refl _)
  have h0 : rungOf (mulQ x x) ≠ 0 := by
    intro e; rw [e] at hg; exact absurd hg (by decide)
  have hb : bin ≤ rungOf x := by
    rcases Nat.lt_or_ge (rungOf x) bin with g | g
    · rw [sq_rung hf] at hg
      exact absurd (Nat.le_trans hg (sq_small g)) (by decide)
    · exact g
  have up := sqrt_le hn hg2 hb hf h0 (by
    rw [sq_rung hf] at hg hg2 ⊢
    exact square_dn hb hg2 hg)
  exact Nat.le_antisymm up lo
end Go.Lift

/- What is divided by no less is at most one. Own work. -/
set_option linter.unusedVariables false
set_option linter.unusedSimpArgs false
namespace Go.Lift
open Ieee

def oneR : Nat := 4607182418800017408
theorem quot_core {D n e : Nat} (hn : 0 < n) (h : D ≤ n * 2 ^ e) : 2 * (D / n) + (D % n != 0).toNat ≤ 2 * 2 ^ e := by
  have h1 := Nat.div_add_mod D n
  have h2 := Nat.mod_lt D hn
  rcases Nat.lt_or_ge (D / n) (2 ^ e) with g | g
  · have : (D % n != 0).toNat ≤ 1 := by cases (D % n != 0) <;> decide
    omega
  · have h3 := Nat.mul_le_mul_left n g
    have h4 : D % n = 0 := by omega
    have h5 : D / n ≤ 2 ^ e := by
      refine Nat.div_le_of_le_mul ?_
      exact h
    rw [h4]
    show 2 * (D / n) + 0 ≤ _
    omega
theorem div_le_one {x y : Nat} (hx : rungOf x ≤ rungOf y) (hf : rungOf y < infR) (h0 : rungOf y ≠ 0) : isN (divQF x y) = false ∧ rungOf (divQF x y) ≤ oneR ∧ sgn (divQF x y) = (sgn x ^^ sgn y) := by
  have hxf : rungOf x < infR := Nat.lt_of_le_of_lt hx hf
  have hv := valR_le.2 hx
  unfold valR at hv
  have i1 := placeOf_ge (rungOf x)
  have j1 := placeOf_ge (rungOf y)
  have hn : magOf (rungOf y) ≠ 0 := by
    intro e
    have := rnd_exact hf
    rw [e, rnd_zero] at this
    exact h0 this.symm
  have hrx := read_num hxf
  have hry := read_num hf
  generalize magOf (rungOf x) = m at *
  generalize placeOf (rungOf x) = i at *
  generalize magOf (rungOf y) = n at *
  generalize placeOf (rungOf y) = j at *
  generalize hmore : 54 + n.log2 - m.log2 = more
  have hq : (double.read x).quotient (double.fractionBits + 2) (double.read y) = some (.number (sgn x ^^ sgn y) (2 * (m * 2 ^ more / n) + (m * 2 ^ more % n != 0).toNat) (i - j - (more : Int) - 1)) := by
    rw [hrx, hry]
    simp only [Datum.quotient]
    rw [if_neg hn]
    have e1 : double.fractionBits + 2 + n.log2 - m.log2 = more := hmore
    rw [e1, Nat.shiftLeft_eq]
  have e : divQF x y = double.word (sgn x ^^ sgn y) (rnd (2 * (m * 2 ^ more / n) + (m * 2 ^ more % n != 0).toNat) (i - j - (more : Int) - 1)) := by
    unfold divQF
    show (((double.read x).quotient (double.fractionBits + 2) (double.read y)).map double.write).getD QN = _
    rw [hq]
    show double.write (.number _ _ _) = _
    rw [write_num]
  obtain ⟨g1, g2, g3, g4⟩ := word_le (s := sgn x ^^ sgn y) (rnd_le (2 * (m * 2 ^ more / n) + (m * 2 ^ more % n != 0).toNat) (i - j - (more : Int) - 1))
  rw [e, g3]
  refine ⟨g1, ?_, g4⟩
  have h1 := rnd_exact (r := oneR) (by decide)
  rw [show magOf oneR = 2 ^ 52 by decide, show placeOf oneR = -52 by decide] at h1
  rw [← h1]
  by_cases hm : m = 0
  · subst hm
    rw [Nat.zero_mul, Nat.zero_div, Nat.zero_mod]
    show rnd 0 _ ≤ _
    rw [rnd_zero]; exact Nat.zero_le _
  have lm := (Nat.log2_lt hm (k := m.log2 + 1)).1 (Nat.lt_succ_self _)
  have lm2 := (Nat.le_log2 hm (k := m.log2)).1 (Nat.le_refl _)
  have ln := (Nat.log2_lt hn (k := n.log2 + 1)).1 (Nat.lt_succ_self _)
  -- the places stand far enough apart
  have he : i ≤ (more : Int) + j := by
    rcases Int.lt_or_le ((more : Int) + j) i with g | g
    · exfalso
      have k1 : 2 ^ (m.log2 + (i + 1074).toNat) ≤ m * 2 ^ (i + 1074).toNat := by rw [Nat.pow_add]; exact Nat.mul_le_mul_right _ lm2
      have k2 : n * 2 ^ (j + 1074).toNat < 2 ^ (n.log2 + 1 + (j + 1074).toNat) := by rw [Nat.pow_add]; exact Nat.mul_lt_mul_of_pos_right ln (Nat.two_pow_pos _)
      have k3 := Nat.lt_of_le_of_lt (Nat.le_trans k1 hv) k2
      have k4 := (Nat.pow_lt_pow_iff_right (a := 2) (by decide)).1 k3
      omega
    · exact g
  have hD : m * 2 ^ more ≤ n * 2 ^ ((more : Int) + j - i).toNat := by
    have hp := Nat.two_pow_pos (i + 1074).toNat
    refine Nat.le_of_mul_le_mul_right ?_ hp
    have k1 : m * 2 ^ more * 2 ^ (i + 1074).toNat = m * 2 ^ (i + 1074).toNat * 2 ^ more := Nat.mul_right_comm _ _ _
    have k2 : n * 2 ^ ((more : Int) + j - i).toNat * 2 ^ (i + 1074).toNat = n * 2 ^ (j + 1074).toNat * 2 ^ more := by
      rw [Nat.mul_assoc, Nat.mul_assoc, ← Nat.pow_add, ← Nat.pow_add]; congr 2; omega
    rw [k1, k2]
    exact Nat.mul_le_mul_right _ hv
  have hc := quot_core (Nat.pos_of_ne_zero hn) hD
  generalize 2 * (m * 2 ^ more / n) + (m * 2 ^ more % n != 0).toNat = V at *
  have s1 := rnd_mono' (i - j - (more : Int) - 1) hc
  refine Nat.le_trans s1 ?_
  refine Nat.le_of_eq ?_
  have s2 := rnd_scale 1 0 (((more : Int) + j - i).toNat + 1)
  have s3 := rnd_scale 1 0 52
  rw [Nat.one_mul, show (0 : Int) - ((((more : Int) + j - i).toNat + 1 : Nat) : Int) = i - j - (more : Int) - 1 by omega, Nat.pow_succ, Nat.mul_comm _ 2] at s2
  rw [Nat.one_mul] at s3
  rw [s2]
  exact s3.symm
end Go.Lift

/- Lengths and units: no less than the greatest part, parts at most one. Own work. -/
set_option linter.unusedVariables false
set_option linter.unusedSimpArgs false
namespace Go.Lift
open Ieee

def goodF (x : Nat) : Bool := fcmp .eql (double.order x 0) || decide (classF (mulQ x x) = 2)
def goodR (x : Nat) : Bool × Unit := r1 (goodF x)
def nil0 (x : Nat) : Bool := fcmp .eql (double.order (mulQ x x) 0)
def tinyF (a : Nat × Nat × Nat) : Bool := (nil0 a.1 && nil0 a.2.1) && nil0 a.2.2
def tinyR (a : Nat × Nat × Nat) : Bool × Unit := r1 (tinyF a)
def maxF (a b : Nat) : Nat := if isN a || isN b then QN else if ordF a b < 0 then b else a
def maxR (a b : Nat) : Nat × Unit := r1 (maxF a b)
def mone : Nat := 13830554455654793216
def partF (u x : Nat) : Bool := ((fcmp .geq (double.order u mone) && fcmp .leq (double.order u oneR)) && (fcmp .leq (double.order u 0) || fcmp .gtr (double.order x 0))) && (fcmp .geq (double.order u 0) || fcmp .lss (double.order x 0))
def partR (u x : Nat) : Bool × Unit := r1 (partF u x)

theorem order_quiet {w v : Nat} (h : quietF w = v) (y : Nat) : double.order w y = double.order v y := by
  subst h
  unfold quietF
  split
  · rename_i e
    rw [order_nan (.inl e), order_nan (.inl QN_N)]
  · rfl

/-- Not NaN, and its square in the normal range, or a nought. -/
def Gd (x : Nat) : Prop := (isN x = false ∧ rungOf x = 0) ∨ (rungOf x < infR ∧ bin ≤ rungOf (mulQ x x) ∧ rungOf (mulQ x x) < infR)
theorem mul_inf {x : Nat} (h : rungOf x = infR) : mulQ x x = double.word false infR := by
  unfold mulQ
  show (((double.read x).product (double.read x)).map double.write).getD QN = _
  rw [read_inf h]
  show double.write (.infinity (sgn x ^^ sgn x)) = _
  rw [write_inf]; simp
theorem gd_of {x : Nat} (h : goodF x = true) : Gd x := by
  unfold goodF at h
  rw [Bool.or_eq_true] at h
  rcases h with h | h
  · rw [eql_zero, Bool.and_eq_true] at h
    exact .inl ⟨by simpa using h.1, of_decide_eq_true h.2⟩
  · right
    have h := of_decide_eq_true h
    have hc : rungOf (mulQ x x) ≠ 0 ∧ bin ≤ rungOf (mulQ x x) ∧ rungOf (mulQ x x) < infR := by
      unfold classF at h
      split at h
      · cases h
      · split at h
        · cases h
        · split at h
          · exact ⟨by assumption, by omega, by assumption⟩
          · split at h <;> cases h
    refine ⟨?_, hc.2⟩
    rcases rung_trich x with ⟨e, _⟩ | ⟨e, _⟩ | ⟨_, e⟩
    · exact e
    · rw [mul_inf e] at hc
      have := (word_le (s := false) (Nat.le_refl infR)).2.2.1
      omega
    · rw [mulQ_nan (.inl e)] at hc
      have : infR < rungOf QN := by decide
      omega
theorem Gd.nn {x : Nat} (h : Gd x) : isN x = false := by
  rcases h with h | h
  · exact h.1
  · exact fin_nn h.1
theorem Gd.fin {x : Nat} (h : Gd x) : rungOf x < infR := by
  rcases h with h | h
  · rw [h.2]; decide
  · exact h.1
theorem sq_nn {x : Nat} (h : isN x = false) : NN (mulQ x x) := by
  rcases rung_trich x with ⟨e, _⟩ | ⟨e, _⟩ | ⟨_, e⟩
  · rw [sq_word e]
    obtain ⟨k1, k2, k3⟩ := key_word false (rnd_le (magOf (rungOf x) * magOf (rungOf x)) (placeOf (rungOf x) + placeOf (rungOf x))) (by simp)
    exact ⟨k1, k2, by omega⟩
  · rw [mul_inf e]
    obtain ⟨k1, k2, k3⟩ := key_word false (Nat.le_refl infR) (by simp)
    exact ⟨k1, k2, by omega⟩
  · rw [h] at e; cases e

/-- The sum of the squares. -/
def sq3 (a : Nat × Nat × Nat) : Nat := three (mulQ a.1 a.1) (mulQ a.2.1 a.2.1) (mulQ a.2.2 a.2.2)
theorem length_sq (a : Nat × Nat × Nat) : lengthQ a = canonF (sqrtQ (sq3 a)) := rfl
theorem NN.rung_le {x y : Nat} (hx : NN x) (hy : NN y) (h : keyOf' x ≤ keyOf' y) : rungOf x ≤ rungOf y := by
  rw [hx.key, hy.key] at h; omega
theorem sq3_ge {a : Nat × Nat × Nat} (hx : isN a.1 = false) (hy : isN a.2.1 = false) (hz : isN a.2.2 = false) : NN (sq3 a) ∧ rungOf (mulQ a.1 a.1) ≤ rungOf (sq3 a) ∧ rungOf (mulQ a.2.1 a.2.1) ≤ rungOf (sq3 a) ∧ rungOf (mulQ a.2.2 a.2.2) ≤ rungOf (sq3 a) := by
  obtain ⟨h1, h2, h3, h4⟩ := three_ge (sq_nn hx) (sq_nn hy) (sq_nn hz)
  exact ⟨h1, (sq_nn hx).rung_le h1 h2, (sq_nn hy).rung_le h1 h3, (sq_nn hz).rung_le h1 h4⟩
theorem NN.pos {x : Nat} (h : NN x) (h0 : rungOf x ≠ 0) : sgn x = false := by
  cases e : sgn x with
  | false => rfl
  | true => exact absurd (h.sgn0 e) h0
theorem sqrt_inf {s : Nat} (h : NN s) (e : rungOf s = infR) : sqrtQ s = double.word false infR := by
  have hs := h.pos (by rw [e]; decide)
  unfold sqrtQ
  show (((double.read s).root _).map double.write).getD QN = _
  rw [read_inf e, hs]
  show double.write (.infinity false) = _
  rw [write_inf]
theorem sqrt_0 {s : Nat} (h : NN s) (e : rungOf s = 0) : isN (sqrtQ s) = false ∧ rungOf (sqrtQ s) = 0 := by
  unfold sqrtQ
  show isN ((((double.read s).root _).map double.write).getD QN) = false ∧ rungOf ((((double.read s).root _).map double.write).getD QN) = 0
  rw [read_num (by rw [e]; decide), e]
  have hm : magOf 0 = 0 := by decide
  have hp : placeOf 0 = -1074 := by decide
  rw [hm, hp]
  simp only [Datum.root]
  simp only [if_true, Option.map_some, Option.getD_some, write_num, rnd_zero]
  obtain ⟨k1, k2, k3, k4⟩ := word_le (s := sgn s) (Nat.zero_le infR)
  exact ⟨k1, k3⟩
theorem canon_rung {x : Nat} (h : isN x = false) : rungOf (canonF x) = rungOf x ∧ (rungOf x ≠ 0 → canonF x = x) := by
  unfold canonF
  rw [h, if_neg (by simp)]
  split
  · rename_i e; rw [e]; exact ⟨by decide, fun f => absurd rfl f⟩
  · exact ⟨rfl, fun _ => rfl⟩

/-- The root of the sum of squares: is no NaN, reaches each part whose square is normal, is a nought just of noughts. -/
theorem length_ge {a : Nat × Nat × Nat} (hx : isN a.1 = false) (hy : isN a.2.1 = false) (hz : isN a.2.2 = false) :
    isN (lengthQ a) = false ∧ (rungOf (lengthQ a) = 0 ↔ rungOf (sq3 a) = 0) ∧ ∀ x, rungOf x < infR → bin ≤ rungOf (mulQ x x) → rungOf (mulQ x x) ≤ rungOf (sq3 a) → rungOf x ≤ rungOf (lengthQ a) := by
  obtain ⟨h1, _⟩ := sq3_ge hx hy hz
  rw [length_sq]
  rcases Nat.lt_or_ge (rungOf (sq3 a)) infR with g | g
  · by_cases z : rungOf (sq3 a) = 0
    · obtain ⟨k1, k2⟩ := sqrt_0 h1 z
      rw [isN_canonF, (canon_rung k1).1]
      refine ⟨k1, ⟨fun _ => z, fun _ => k2⟩, fun x _ hb hl => ?_⟩
      have : 0 < bin := by decide
      omega
    · obtain ⟨k1, k2⟩ := sqrt_pos h1 z
      rw [isN_canonF, (canon_rung k1).1]
      refine ⟨k1, ⟨fun e => by omega, fun e => absurd e z⟩, fun x hf hb hl => ?_⟩
      exact sqrt_sq_ge hf hb (by omega) h1 g hl
  · have e : rungOf (sq3 a) = infR := Nat.le_antisymm h1.le g
    rw [sqrt_inf h1 e]
    obtain ⟨k1, k2, k3, k4⟩ := word_le (s := false) (Nat.le_refl infR)
    rw [isN_canonF, (canon_rung k1).1, k3, e]
    refine ⟨k1, Iff.rfl, fun x hf _ _ => Nat.le_of_lt hf⟩

theorem Gd.sq0 {x : Nat} (h : Gd x) (h0 : rungOf x = 0) : Z (mulQ x x) := by
  have hn := sq_nn h.nn
  refine ⟨hn.1, hn.2.1, ?_⟩
  rw [sq_rung (by rw [h0]; decide), h0]; decide
theorem Gd.big {x : Nat} (h : Gd x) (h0 : rungOf x ≠ 0) : rungOf x < infR ∧ bin ≤ rungOf (mulQ x x) ∧ rungOf (mulQ x x) < infR := by
  rcases h with h | h
  · exact absurd h.2 h0
  · exact h
theorem three_Z {a b c : Nat} (ha : Z a) (hb : Z b) (hc : Z c) : rungOf (three a b c) = 0 := by
  obtain ⟨x, y, z, e, m1, m2, m3, m4⟩ := sort3_perm a b c
  have nn : ∀ w ∈ [x, y, z], Z w := by
    intro w hw
    rcases m4 w hw with rfl | rfl | rfl <;> assumption
  unfold three
  rw [e, rowQ3_eq, quiet_nn (nn x (by simp)).2.1]
  exact (add_ZZ (add_ZZ (nn x (by simp)) (nn y (by simp))) (nn z (by simp))).2.2
theorem length_good {a : Nat × Nat × Nat} (hx : Gd a.1) (hy : Gd a.2.1) (hz : Gd a.2.2) :
    isN (lengthQ a) = false ∧ rungOf a.1 ≤ rungOf (lengthQ a) ∧ rungOf a.2.1 ≤ rungOf (lengthQ a) ∧ rungOf a.2.2 ≤ rungOf (lengthQ a) ∧
    (rungOf (lengthQ a) = 0 ↔ rungOf a.1 = 0 ∧ rungOf a.2.1 = 0 ∧ rungOf a.2.2 = 0) := by
  obtain ⟨g1, g2, g3⟩ := length_ge hx.nn hy.nn hz.nn
  obtain ⟨_, s1, s2, s3⟩ := sq3_ge hx.nn hy.nn hz.nn
  have one : ∀ x, Gd x → rungOf (mulQ x x) ≤ rungOf (sq3 a) → rungOf x ≤ rungOf (lengthQ a) := by
    intro x h hs
    by_cases h0 : rungOf x = 0
    · omega
    · obtain ⟨k1, k2, k3⟩ := h.big h0
      exact g3 x k1 k2 hs
  have a1 := one _ hx s1
  have a2 := one _ hy s2
  have a3 := one _ hz s3
  refine ⟨g1, a1, a2, a3, ⟨fun e => by omega, fun ⟨e1, e2, e3⟩ => g2.2 ?_⟩⟩
  exact three_Z (hx.sq0 e1) (hy.sq0 e2) (hz.sq0 e3)

/-- Where a length is neither NaN nor above nothing, all squares are noughts. -/
theorem length_tiny {a : Nat × Nat × Nat} (hn : isN (lengthQ a) = false) (h0 : rungOf (lengthQ a) = 0) : tinyF a = true := by
  have hs : isN (sq3 a) = false := by
    cases e : isN (sq3 a) with
    | false => rfl
    | true =>
      rw [length_sq, isN_canonF, sqrtQ_nan e] at hn
      exact absurd QN_N (by rw [hn]; simp)
  have nn : isN (mulQ a.1 a.1) = false ∧ isN (mulQ a.2.1 a.2.1) = false ∧ isN (mulQ a.2.2 a.2.2) = false := by
    refine ⟨?_, ?_, ?_⟩
    all_goals
      rw [← Bool.not_eq_true]
      intro e
      have : sq3 a = QN := three_nan (by simp [e])
      rw [this] at hs
      exact absurd QN_N (by rw [hs]; simp)
  have one : ∀ x, isN (mulQ x x) = false → isN x = false := by
    intro x h
    cases e : isN x with
    | false => rfl
    | true => rw [mulQ_nan (.inl e)] at h; exact absurd QN_N (by rw [h]; simp)
  obtain ⟨n1, n2, n3⟩ := nn
  obtain ⟨g1, g2, g3⟩ := length_ge (one _ n1) (one _ n2) (one _ n3)
  obtain ⟨_, s1, s2, s3⟩ := sq3_ge (one _ n1) (one _ n2) (one _ n3)
  have z := g2.1 h0
  have q : ∀ x, isN (mulQ x x) = false → rungOf (mulQ x x) ≤ rungOf (sq3 a) → nil0 x = true := by
    intro x h hl
    unfold nil0
    rw [eql_zero, h, decide_eq_true (by omega)]; rfl
  unfold tinyF
  rw [q _ n1 s1, q _ n2 s2, q _ n3 s3]; rfl

/-- The greater of a float and its opposite. -/
theorem max_neg {x : Nat} (hw : W64 x) (h : isN x = false) : maxF x (negF x) = rungOf x := by
  have hr := rung_lt x
  have w1 := rung_lo hr
  unfold maxF
  rw [isN_negF hw, h, if_neg (by simp)]
  have hq : rungOf (negF x) = rungOf x := (rung_negF hw).1
  cases e : sgn x with
  | true =>
    have e' : sgn (negF x) = false := by rw [sgn_negF hw, e]; rfl
    rw [ord_np e e' hw (negF_w hw), if_pos (by decide), ← hq]
    exact (rung_lo (by have := sgn_iff (negF_w hw); rw [e'] at this; simp at this; exact this)).symm
  | false =>
    have e' : sgn (negF x) = true := by rw [sgn_negF hw, e]; rfl
    rw [ord_pn e e' hw (negF_w hw), if_neg (by decide)]
    exact (rung_lo (by have := sgn_iff hw; rw [e] at this; simp at this; exact this)).symm
theorem small_sgn {r : Nat} (h : r < 9223372036854775808) : sgn r = false ∧ rungOf r = r ∧ W64 r := by
  have hw : W64 r := by unfold W64; omega
  refine ⟨?_, rung_lo h, hw⟩
  rw [sgn_dec hw]; simp; omega
theorem max_pos {r s : Nat} (hr : r ≤ infR) (hs : s ≤ infR) : maxF r s = max r s := by
  have b : infR < 9223372036854775808 := by decide
  obtain ⟨a1, a2, a3⟩ := small_sgn (r := r) (by omega)
  obtain ⟨b1, b2, b3⟩ := small_sgn (r := s) (by omega)
  unfold maxF
  have n1 : isN r = false := by unfold isN; rw [a2]; simp; omega
  have n2 : isN s = false := by unfold isN; rw [b2]; simp; omega
  rw [n1, n2, if_neg (by simp)]
  rcases Nat.lt_or_ge r s with g | g
  · rw [ord_pp a1 b1 (by omega), if_pos (by decide)]; omega
  · rcases Nat.eq_or_lt_of_le g with g | g
    · rw [ord_same g.symm, if_neg (by decide)]; omega
    · rw [ord_pp' a1 b1 (by omega) (by omega), if_neg (by decide)]; omega
/-- The greatest part. -/
def most3 (a : Nat × Nat × Nat) : Nat := max (max (rungOf a.1) (rungOf a.2.1)) (rungOf a.2.2)
theorem max_3 {a : Nat × Nat × Nat} (h : WV a) (hx : isN a.1 = false) (hy : isN a.2.1 = false) (hz : isN a.2.2 = false) :
    maxF (maxF (maxF a.1 (negF a.1)) (maxF a.2.1 (negF a.2.1))) (maxF a.2.2 (negF a.2.2)) = most3 a := by
  have le : ∀ x, isN x = false → rungOf x ≤ infR := fun x e => by unfold isN at e; simpa using e
  rw [max_neg h.1 hx, max_neg h.2.1 hy, max_neg h.2.2 hz, max_pos (le _ hx) (le _ hy), max_pos (by have := le _ hx; have := le _ hy; omega) (le _ hz)]
  rfl
theorem most_le {a : Nat × Nat × Nat} (hx : isN a.1 = false) (hy : isN a.2.1 = false) (hz : isN a.2.2 = false) : most3 a ≤ infR := by
  have le : ∀ x, isN x = false → rungOf x ≤ infR := fun x e => by unfold isN at e; simpa using e
  have := le _ hx; have := le _ hy; have := le _ hz
  unfold most3; omega

/-- A vector along the first axis alone. -/
theorem length_axis {x : Nat} (hx : Gd x) (h0 : rungOf x ≠ 0) : lengthQ (x, 0, 0) = rungOf x := by
  obtain ⟨k1, k2, k3⟩ := hx.big h0
  have e0 : mulQ 0 0 = 0 := by decide +kernel
  have hn := sq_nn hx.nn
  have hq := three_00 hn.1 k3
  have e : sq3 (x, 0, 0) = mulQ x x := by
    show three (mulQ x x) (mulQ 0 0) (mulQ 0 0) = _
    rw [e0]
    exact hq.2.2 (by have : 0 < bin := by decide
                     omega)
  rw [length_sq, e]
  have hr := sqrt_sq k1 k2 k3
  have hp := sqrt_pos hn (by have : 0 < bin := by decide
                             omega)
  rw [(canon_rung hp.1).2 (by omega)]
  have hs : sgn (sqrtQ (mulQ x x)) = false := by
    cases f : sgn (sqrtQ (mulQ x x)) with
    | false => rfl
    | true => have := sqrt_sgn _ f; omega
  have hw := sqrtQ_w (mulQ x x)
  rw [← hr]
  exact (rung_lo (by have := sgn_iff hw; rw [hs] at this; simp at this; exact this)).symm

theorem key_le_one {u : Nat} (hn : isN u = false) (h : rungOf u ≤ oneR) : fcmp .geq (double.order u mone) = true ∧ fcmp .leq (double.order u oneR) = true := by
  have m1 : keyOf' mone = -(oneR : Int) := by decide
  have m2 : keyOf' oneR = oneR := by decide
  have n1 : isN mone = false := by decide
  have n2 : isN oneR = false := by decide
  have hk : -(oneR : Int) ≤ keyOf' u ∧ keyOf' u ≤ oneR := by unfold keyOf'; split <;> omega
  refine ⟨geq_of hn n1 (by rw [m1]; exact hk.1), ?_⟩
  rw [order_eq hn n2, m2]
  rcases Int.lt_trichotomy (keyOf' u) oneR with g | g | g
  · rw [Std.compare_eq_lt.2 g]; rfl
  · rw [g, Std.compare_self]; rfl
  · omega
theorem part_ok {u x : Nat} (hn : isN u = false) (h : rungOf u ≤ oneR) (hx : isN x = false) (hs : rungOf u ≠ 0 → sgn u = sgn x ∧ rungOf x ≠ 0) : partF u x = true := by
  obtain ⟨h1, h2⟩ := key_le_one hn h
  unfold partF
  rw [h1, h2]
  have n0 : isN 0 = false := by decide
  have k0 : keyOf' 0 = 0 := by decide
  rw [order_eq hn n0, order_eq hx n0, k0]
  by_cases hz : rungOf u = 0
  · rw [keyOf_zero.2 hz]; rfl
  · obtain ⟨a, b⟩ := hs hz
    have k1 : keyOf' u = if sgn x then -(rungOf u : Int) else rungOf u := by unfold keyOf'; rw [a]
    have k2 : keyOf' x = if sgn x then -(rungOf x : Int) else rungOf x := rfl
    rw [k1, k2]
    cases sgn x with
    | true =>
      rw [if_pos rfl, if_pos rfl, Std.compare_eq_lt.2 (show -(rungOf u : Int) < 0 by omega), Std.compare_eq_lt.2 (show -(rungOf x : Int) < 0 by omega)]; rfl
    | false =>
      rw [if_neg (by simp), if_neg (by simp), Std.compare_eq_gt.2 (show (rungOf u : Int) > 0 by omega), Std.compare_eq_gt.2 (show (rungOf x : Int) > 0 by omega)]; rfl
/-- A unit's part. -/
theorem unit_part {x l : Nat} (hx : isN x = false) (hl : rungOf x ≤ rungOf l) (hs : sgn l = false) (hf : rungOf l < infR) (h0 : rungOf l ≠ 0) : partF (canonF (divQF x l)) x = true := by
  obtain ⟨d1, d2, d3⟩ := div_le_one hl hf h0
  have c := canon_rung d1
  refine part_ok (by rw [isN_canonF]; exact d1) (by rw [c.1]; exact d2) hx ?_
  intro h
  rw [c.1] at h
  rw [c.2 h, d3, hs]
  refine ⟨by simp, ?_⟩
  intro e
  apply h
  -- a nought over something is a nought
  have e1 : rungOf x < infR := by rw [e]; decide
  unfold divQF
  show rungOf ((((double.read x).quotient _ (double.read l)).map double.write).getD QN) = 0
  rw [read_num e1, read_num hf, e, show magOf 0 = 0 by decide]
  simp only [Datum.quotient]
  have hm : magOf (rungOf l) ≠ 0 := by
    intro e
    have := rnd_exact hf
    rw [e, rnd_zero] at this
    exact h0 this.symm
  rw [if_neg hm]
  simp [write_num, Nat.zero_shiftLeft, rnd_zero]
  exact (word_le (Nat.zero_le infR)).2.2.1
end Go.Lift

/- Contracts of seat r2, typed. Own work. -/
set_option linter.unusedVariables false

namespace Go.Lift
open Go.Proofs
def Ytab : List (Nat × TD) := [
  (2, ⟨.int .i64, 1, 8, [.int .i64 0], some (.int .i64)⟩),
  (3, ⟨.int .i64, 1, 8, [.int .i64 0], some (.int .i64)⟩),
  (4, ⟨.bool, 1, 1, [.bool false], some (.bool)⟩),
  (5, ⟨.int .u8, 1, 1, [.int .u8 0], some (.int .u8)⟩),
  (9, ⟨.str, 1, 16, [.string ⟨#[]⟩], none⟩),
  (22, ⟨.slice 25, 1, 24, [.slice none 0 0], some (.slice (.flt .f64))⟩),
  (25, ⟨.flt .f64, 1, 8, [.float .f64 0], some (.flt .f64)⟩),
  (29, ⟨.int .u64, 1, 8, [.int .u64 0], some (.int .u64)⟩),
  (32, ⟨.slice 2, 1, 24, [.slice none 0 0], some (.slice (.int .i64))⟩),
  (38, ⟨.slice 40, 1, 24, [.slice none 0 0], some (.slice (.pair (.flt .f64) (.pair (.flt .f64) (.flt .f64))))⟩),
  (40, ⟨.struct [(0, 25), (1, 25), (2, 25)], 3, 24, [.float .f64 0, .float .f64 0, .float .f64 0], some (.pair (.flt .f64) (.pair (.flt .f64) (.flt .f64)))⟩),
  (55, ⟨.arr 3 25, 3, 24, [.float .f64 0, .float .f64 0, .float .f64 0], some (.arr 3 (.flt .f64))⟩),
  (70, ⟨.int .u64, 1, 8, [.int .u64 0], some (.int .u64)⟩),
  (71, ⟨.slice 3, 1, 24, [.slice none 0 0], some (.slice (.int .i64))⟩),
  (74, ⟨.int .i64, 1, 8, [.int .i64 0], some (.int .i64)⟩),
  (82, ⟨.int .u32, 1, 4, [.int .u32 0], some (.int .u32)⟩)]

theorem Ytab_ok : tabB Try.prog Ytab = true := by kernel_rfl
theorem Ymixed : Try.prog.follows .mixedOrders = true := by kernel_rfl
def kVec : K := .pair (.flt .f64) (.pair (.flt .f64) (.flt .f64))

def Yq64 : Con := .det [.flt .f64] [.snap (.int .u64)] (fun _ => True) (fun x => bitsR x.1)
def Yq92 : Con := .det [.int .u64] [.snap (.flt .f64)] (fun _ => True) (fun x => fromR x.1)
def Yq93 : Con := .rel [.flt .f64] [.snap (.flt .f64)] (fun _ => True) (fun x r => sqrtP x.1 r) (fun x h => relF_ne (sqrtQ_q _) (sqrtQ_w _))
def Yq65 : Con := .det [.int .u64] [.snap (.flt .f64)] (fun _ => True) (fun x => fromR x.1)
def Yq24 : Con := .det [.flt .f64] [.snap (.int .u64)] (fun _ => True) (fun x => bitsR x.1)
def Yq50 : Con := .det [.flt .f64, .flt .f64] [.snap .bool] (fun _ => True) (fun x => sameR x.1 x.2.1)
def Yq15 : Con := .det [.flt .f64, .flt .f64] [.snap .bool] (fun _ => True) (fun x => sameR x.1 x.2.1)
def Yq33 : Con := .det [.flt .f64, .flt .f64] [.snap .bool] (fun _ => True) (fun x => sameR x.1 x.2.1)
def Yq74 : Con := .det [] [.snap (.flt .f64)] (fun _ => True) (fun x => qnR)
def Yq78 : Con := .det [] [.snap (.flt .f64)] (fun _ => True) (fun x => qnR)
def Yq52 : Con := .det [] [.snap (.flt .f64)] (fun _ => True) (fun x => zeroR)
def Yq80 : Con := .det [.flt .f64] [.snap (.flt .f64)] (fun x => W64 x.1) (fun x => absR x.1)
def Yq95 : Con := .det [.flt .f64] [.snap .bool] (fun _ => True) (fun x => nanR x.1)
def Yq82 : Con := .det [.flt .f64] [.snap (.int .u64)] (fun x => W64 x.1) (fun x => magR x.1)
def Yq77 : Con := .det [.flt .f64] [.snap .bool] (fun x => W64 x.1) (fun x => nanR x.1)
def Yq94 : Con := .det [.flt .f64] [.snap (.int .u64)] (fun x => W64 x.1) (fun x => magR x.1)
def Yq85 : Con := .det [.flt .f64] [.snap .bool] (fun x => W64 x.1) (fun x => belowR x.1)
def Yq45 : Con := .det [.flt .f64] [.snap (.flt .f64)] (fun _ => True) (fun x => canonR x.1)
def Yq70 : Con := .det [.flt .f64] [.snap (.flt .f64)] (fun x => W64 x.1) (fun x => canonR x.1)
def Yq76 : Con := .det [.flt .f64] [.snap (.flt .f64)] (fun _ => True) (fun x => quietR x.1)
def Yq53 : Con := .det [.flt .f64] [.snap (.flt .f64)] (fun x => W64 x.1) (fun x => quietR x.1)
def Yq26 : Con := .det [.flt .f64] [.snap (.flt .f64)] (fun _ => True) (fun x => quietR x.1)
def Yq61 : Con := .det [.flt .f64] [.snap (.int .u64)] (fun x => W64 x.1) (fun x => mag2R x.1)
def Yq90 : Con := .det [.flt .f64] [.snap (.int .u64)] (fun x => W64 x.1) (fun x => placeR x.1)
def Yq89 : Con := .det [.int .u64] [.snap .bool] (fun _ => True) (fun x => noR x.1)
def Yq60 : Con := .det [.int .u64, .int .u64] [.snap (.int .i64)] (fun _ => True) (fun x => cmpR x.1 x.2.1)
def Yq62 : Con := .det [.flt .f64, .flt .f64] [.snap (.int .i64)] (fun x => W2 x.1 x.2.1) (fun x => ordR x.1 x.2.1)
def Yq59 : Con := .det [.slice (.int .i64)] [.snap (.int .i64)] (fun _ => True) (fun x => orR x.1)
def Yq58 : Con := .det [.flt .f64, .flt .f64] [.snap (.int .i64)] (fun x => W2 x.1 x.2.1) (fun x => cmpMR x.1 x.2.1)
def Yq91 : Con := .det [.flt .f64, .flt .f64] [.snap (.int .i64)] (fun x => W2 x.1 x.2.1) (fun x => ordR x.1 x.2.1)
def Yq63 : Con := .det [.flt .f64, .flt .f64] [.snap .bool] (fun x => W2 x.1 x.2.1) (fun x => aheadR x.1 x.2.1)
def Yq72 : Con := .det [.flt .f64, .int .i64] [.snap .bool] (fun x => WI x.1 x.2.1) (fun x => infSR x.1 x.2.1)
def Yq79 : Con := .det [.flt .f64] [.snap .bool] (fun x => W64 x.1) (fun x => finR x.1)
def Yq73 : Con := .det [.flt .f64] [.snap (.int .i64)] (fun x => W64 x.1) (fun x => classR x.1)
def Yq75 : Con := .det [.flt .f64] [.snap (.int .i64)] (fun x => W64 x.1) (fun x => classR x.1)
def Yq81 : Con := .det [.flt .f64, .flt .f64] [.snap (.flt .f64), .snap (.flt .f64)] (fun _ => True) (fun x => canons2R x.1 x.2.1)
def Yq51 : Con := .det [.slice (.flt .f64)] [.snap (.flt .f64)] (fun x => WL x.1) (fun x => rowR x.1)
def Yq16 : Con := .det [.slice (.flt .f64)] [.snap (.flt .f64)] (fun x => WL x.1) (fun x => rowR x.1)
def Yq17 : Con := .det [.slice (.flt .f64)] [.snap (.flt .f64)] (fun x => WL x.1) (fun x => rowR x.1)
def Yq55 : Con := .det [.flt .f64, .flt .f64] [.snap (.flt .f64), .snap (.flt .f64)] (fun x => W2 x.1 x.2.1) (fun x => twR x.1 x.2.1)
def Yq20 : Con := .det [.slice (.flt .f64)] [.snap (.flt .f64)] (fun x => WL x.1) (fun x => carefulR x.1)
def Yq105 : Con := .det [.int .u64] [.snap (.int .i64)] (fun x => IsThree x.1) (fun x => twoR x.1)
def Yq88 : Con := .det [.int .u64] [.snap (.int .i64)] (fun x => IsThree x.1) (fun x => twoR x.1)
def Yq22 : Con := .det [.flt .f64, .flt .f64, .flt .f64] [.snap (.flt .f64)] (fun x => W3 x.1 x.2.1 x.2.2.1) (fun x => threeR x.1 x.2.1 x.2.2.1)
def Yq23 : Con := .det [.flt .f64, .flt .f64, .flt .f64] [.snap (.flt .f64)] (fun x => W3 x.1 x.2.1 x.2.2.1) (fun x => threeR x.1 x.2.1 x.2.2.1)
def Yq66 : Con := .det [.flt .f64, .flt .f64, .flt .f64] [.snap kVec] (fun _ => True) (fun x => canonVR x.1 x.2.1 x.2.2.1)
def Yq67 : Con := .det [.flt .f64, .flt .f64, .flt .f64] [.snap kVec] (fun x => W3 x.1 x.2.1 x.2.2.1) (fun x => canonVR x.1 x.2.1 x.2.2.1)
def Yq29 : Con := .det [kVec, kVec] [.snap kVec] (fun x => WV2 x.1 x.2.1) (fun x => minusR x.1 x.2.1)
def Yq30 : Con := .det [kVec, kVec] [.snap kVec] (fun x => WV2 x.1 x.2.1) (fun x => minusR x.1 x.2.1)
def Yq68 : Con := .rel [.flt .f64, .flt .f64, .flt .f64, .flt .f64] [.snap (.flt .f64)] (fun _ => True) (fun x r => lessP x.1 x.2.1 x.2.2.1 x.2.2.2.1 r) (fun x h => relF_ne (subQ_q _ _) (subQ_w _ _))
def Yq31 : Con := .det [kVec, kVec] [.snap kVec] (fun _ => True) (fun x => crossR x.1 x.2.1)
def Yq32 : Con := .det [kVec, kVec] [.snap kVec] (fun _ => True) (fun x => crossR x.1 x.2.1)
def Yq69 : Con := .rel [.flt .f64] [.snap (.flt .f64)] (fun _ => True) (fun x r => sqrtP x.1 r) (fun x h => relF_ne (sqrtQ_q _) (sqrtQ_w _))
def Yq71 : Con := .rel [.flt .f64] [.snap (.flt .f64)] (fun _ => True) (fun x r => sqrtP x.1 r) (fun x h => relF_ne (sqrtQ_q _) (sqrtQ_w _))
def Yq36 : Con := .det [kVec] [.snap (.flt .f64)] (fun x => WV x.1) (fun x => lengthR x.1)
def Yq37 : Con := .det [kVec] [.snap (.flt .f64)] (fun x => WV x.1) (fun x => lengthR x.1)
def Yq34 : Con := .det [kVec, kVec] [.snap (.flt .f64)] (fun x => WV2 x.1 x.2.1) (fun x => gapR x.1 x.2.1)
def Yq35 : Con := .det [kVec, kVec] [.snap (.flt .f64)] (fun x => WV2 x.1 x.2.1) (fun x => gapR x.1 x.2.1)
def Yq38 : Con := .det [kVec] [.snap kVec] (fun x => WV x.1) (fun x => unitR x.1)
def Yq39 : Con := .det [kVec] [.snap kVec] (fun x => WV x.1) (fun x => unitR x.1)
def Yq44 : Con := .det [.flt .f64, .flt .f64, .flt .f64] [.snap kVec] (fun _ => True) (fun x => atR x.1 x.2.1 x.2.2.1)
def Yq40 : Con := .det [kVec] [.snap kVec] (fun _ => True) (fun x => movedR x.1)
def Yq41 : Con := .det [kVec] [.snap kVec] (fun _ => True) (fun x => swappedR x.1)
def Yq43 : Con := .det [kVec] [.snap kVec] (fun _ => True) (fun x => turnedR x.1)
def Yq42 : Con := .det [kVec] [.snap kVec] (fun _ => True) (fun x => againstR x.1)
def Yq28 : Con := .det [kVec, kVec] [.snap .bool] (fun _ => True) (fun x => alikeR x.1 x.2.1)
def Yq27 : Con := .det [] [.snap .bool] (fun _ => True) (fun x => trueR0)
def Yq9 : Con := .det [.slice kVec] [.snap .bool] (fun x => WVL x.1) (fun x => trueR1 x.1)
def Yq10 : Con := .det [kVec, kVec] [.snap .bool] (fun x => WV2 x.1 x.2.1) (fun x => trueR2 x.1 x.2.1)
def Yq11 : Con := .det [kVec, kVec] [.snap .bool] (fun x => WV2 x.1 x.2.1) (fun x => trueR2 x.1 x.2.1)
def Yq7 : Con := .det [.slice (.flt .f64), .flt .f64] [.snap .bool] (fun x => WLF x.1 x.2.1) (fun x => trueR2 x.1 x.2.1)
def Yq4 : Con := .det [.flt .f64, .flt .f64, .flt .f64] [.snap .bool] (fun x => W3 x.1 x.2.1 x.2.2.1) (fun x => trueR3 x.1 x.2.1 x.2.2.1)
def Yq18 : Con := .det [.slice (.flt .f64)] [.snap (.flt .f64)] (fun x => WL x.1) (fun x => pairsR x.1)
def Yq19 : Con := .det [.slice (.flt .f64)] [.snap (.flt .f64)] (fun x => WL x.1) (fun x => pairsR x.1)
def Yq54 : Con := .rel [.slice (.flt .f64)] [.snap (.flt .f64)] (fun x => WL x.1) (fun x r => pairsP x.1 r) (fun x h => pairsP_ne _)
def Yq14 : Con := .det [] [.snap .bool] (fun _ => True) (fun x => trueR0)
def Yq8 : Con := .det [.slice (.flt .f64)] [.snap .bool] (fun x => WL x.1) (fun x => trueR1 x.1)
def Yq6 : Con := .det [.slice (.flt .f64), .slice (.flt .f64)] [.snap .bool] (fun x => WLL x.1 x.2.1) (fun x => trueR2 x.1 x.2.1)
def Yq25 : Con := .det [.int .i64] [.snap (.int .i64)] (fun _ => True) (fun x => wholeR x.1)
def Yq5 : Con := .det [.slice (.int .i64)] [.snap .bool] (fun _ => True) (fun x => trueR1 x.1)
def Yq46 : Con := .det [.flt .f64] [.snap .bool] (fun x => W64 x.1) (fun x => goodR x.1)
def Yq47 : Con := .det [kVec] [.snap .bool] (fun x => WV x.1) (fun x => tinyR x.1)
def Yq48 : Con := .det [.flt .f64, .flt .f64] [.snap (.flt .f64)] (fun x => W2 x.1 x.2.1) (fun x => maxR x.1 x.2.1)
def Yq49 : Con := .det [.flt .f64, .flt .f64] [.snap .bool] (fun x => W2 x.1 x.2.1) (fun x => partR x.1 x.2.1)
def Yq13 : Con := .det [kVec] [.snap .bool] (fun x => WV x.1) (fun x => trueR1 x.1)
def Yq12 : Con := .det [kVec, kVec] [.snap .bool] (fun x => WV2 x.1 x.2.1) (fun x => trueR2 x.1 x.2.1)
def Yhn59 : Hn := { loops := fun k => match k with | 3 => some { ls := [(.slot 8, .data (.int .i64))], os := [] } | _ => none, joins := fun _ => none, named := true }
def Yhn51 : Hn := { loops := fun k => match k with | 5 => some { ls := [(.slot 3, .data (.flt .f64)), (.slot 15, .data (.int .i64))], os := [] } | _ => none, joins := fun _ => none, named := true }
def Yhn17 : Hn := { loops := fun k => match k with | 5 => some { ls := [(.slot 3, .data (.flt .f64)), (.slot 4, .data (.int .i64))], os := [] } | _ => none, joins := fun _ => none, named := true }
def Yhn20 : Hn := { loops := fun k => match k with | 3 => some { ls := [(.slot 3, .data (.flt .f64)), (.slot 4, .data (.flt .f64)), (.slot 11, .data (.int .i64))], os := [] } | _ => none, joins := fun _ => none, named := true }
def Yhn22 : Hn := { loops := fun _ => none, joins := fun _ => none, inl := fun f => match f with | 57 => true | _ => false }
def Yhn27 : Hn := noHn2
def Yhn9 : Hn := { loops := fun k => match k with | 4 => some { ls := [(.slot 3, .data (.int .i64))], os := [] } | _ => none, joins := fun _ => none, named := true }
def Yhn14 : Hn := noHn2
def Yhn8 : Hn := { loops := fun k => match k with | 7 => some { ls := [(.slot 3, .row 25 (.flt .f64)), (.slot 4, .data (.int .i64))], os := [] } | 17 => some { ls := [(.slot 9, .data (.int .i64))], os := [] } | _ => none, joins := fun _ => none, named := true }
def Yhn5 : Hn := { loops := fun k => match k with | 8 => some { ls := [(.slot 3, .row 25 (.flt .f64)), (.slot 4, .data (.int .i64)), (.slot 5, .data (.int .i64))], os := [] } | 14 => some { ls := [(.slot 7, .data (.int .i64))], os := [] } | _ => none, joins := fun _ => none, named := true }
def YinHn : Hn := { loops := fun _ => none, joins := fun _ => none, inl := fun f => match f with | 57 => true | 87 => true | 96 => true | _ => false, unroll := fun k => some 4 }
noncomputable def Yfns (f : Nat) : Option InFn := match f with
  | 57 => some ⟨Try.f57.ntmps, Try.f57.results.toList, Try.f57.body.getD .skip, YinHn⟩
  | 87 => some ⟨Try.f87.ntmps, Try.f87.results.toList, Try.f87.body.getD .skip, YinHn⟩
  | 96 => some ⟨Try.f96.ntmps, Try.f96.results.toList, Try.f96.body.getD .skip, YinHn⟩
  | _ => none
theorem Yfns_ok : FnsOk Try.prog Yfns := by
  intro f fn h
  unfold Yfns at h
  split at h
  · cases h; exact ⟨Try.f57, Try.func57, rfl, rfl, by simp, by decide⟩
  · cases h; exact ⟨Try.f87, Try.func87, rfl, rfl, by simp, by decide⟩
  · cases h; exact ⟨Try.f96, Try.func96, rfl, rfl, by simp, by decide⟩
  · cases h

end Go.Lift

/- Functions of Go's library that have no body: their contracts. Own work. -/
set_option linter.unusedVariables false
set_option linter.unusedSimpArgs false
namespace Go.Lift

theorem ResRep.one {w w' : World} {k : K} {x : k.T} {v : Value} (h : ∀ fr, KRep w' fr k x v) : ResRep w w' [.snap k] (x, ()) v :=
  ⟨[v], [], rfl, fun i j b h => by simp at h, v, [], [], [], rfl, rfl, ⟨rfl, h _⟩, rfl, rfl⟩

section
variable {P : Program} {f : FuncId} {fn : Func} (hf : P.funcs[f]? = some fn) (hname : (fn.name == "runtime.NumGoroutine") = false) (hb : fn.body.isNone = true) (hn : Extern.findNext fn = none)
include hf hname hb hn

theorem ext_bits64 (he : Extern.find fn = some Extern.MathFloatBits.float64bits) : (Con.det [.flt .f64] [.snap (.int .u64)] (fun _ => True) (fun x => bitsR x.1)).holds P (fun _ => none) f := by
  have main : ∀ (w : World) (b : Nat) (vs : List Value), vs = [.float .f64 b] → CallSpec P f vs.toArray w fun v w' => Grows w w' ∧ ResRep w w' [.snap (.int .u64)] (bitsR b) v := by
    rintro w b _ rfl
    refine .inl ⟨.int .u64 b, w, ?_, Grows.refl w, ResRep.one fun _ => rfl⟩
    rw [run_callFunc_extern hf hname hb hn he]; rfl
  rintro w ⟨b, ⟨⟩⟩ vs ⟨v, r, rfl, h1, rfl⟩ _ _
  exact main w b _ h1

theorem ext_from64 (he : Extern.find fn = some Extern.MathFloatBits.float64frombits) : (Con.det [.int .u64] [.snap (.flt .f64)] (fun _ => True) (fun x => fromR x.1)).holds P (fun _ => none) f := by
  have main : ∀ (w : World) (b : Int) (vs : List Value), vs = [.int .u64 b] → CallSpec P f vs.toArray w fun v w' => Grows w w' ∧ ResRep w w' [.snap (.flt .f64)] (fromR b) v := by
    rintro w b _ rfl
    refine .inl ⟨.float .f64 b.toNat, w, ?_, Grows.refl w, ResRep.one fun _ => rfl⟩
    rw [run_callFunc_extern hf hname hb hn he]; rfl
  rintro w ⟨b, ⟨⟩⟩ vs ⟨v, r, rfl, h1, rfl⟩ _ _
  exact main w b _ h1

theorem ext_sqrt (he : Extern.find fn = some Extern.MathSqrt.sqrt) {ne} : (Con.rel [.flt .f64] [.snap (.flt .f64)] (fun _ => True) (fun x r => sqrtP x.1 r) ne).holds P (fun _ => none) f := by
  have main : ∀ (w : World) (b : Nat) (vs : List Value), vs = [.float .f64 b] → CallSpec P f vs.toArray w fun v w' => ∃ r : RS [.snap (.flt .f64)], sqrtP b r ∧ Grows w w' ∧ ResRep w w' [.snap (.flt .f64)] r v := by
    rintro w b _ rfl
    have e : Extern.MathSqrt.sqrt [Value.float .f64 b].toArray = (match FloatKind.f64.format.sqrt b with
      | some r => pure (.float .f64 r)
      | none => do pure (.float .f64 (← choose (.nanBits .f64 b b)))) := rfl
    have key : ∀ (r : Nat) (w' : World), FRes .f64 (FloatKind.f64.format.sqrt b) r → Grows w w' → (Extern.MathSqrt.sqrt [Value.float .f64 b].toArray).run P w = .ok (.float .f64 r) w' →
        CallSpec P f [Value.float .f64 b].toArray w fun v w' => ∃ r : RS [.snap (.flt .f64)], sqrtP b r ∧ Grows w w' ∧ ResRep w w' [.snap (.flt .f64)] r v := by
      intro r w' hr hg hrun
      refine .inl ⟨.float .f64 r, w', ?_, (r, ()), fsqrt hr, hg, ResRep.one fun _ => rfl⟩
      rw [run_callFunc_extern hf hname hb hn he, hrun]; rfl
    cases hs : FloatKind.f64.format.sqrt b with
    | some r => exact key r w (by rw [hs]; rfl) (Grows.refl w) (by rw [e, hs]; rfl)
    | none =>
      refine key ((Question.nanBits .f64 b b).cut (w.tape w.drawn (.nanBits .f64 b b))) w.drew (by rw [hs]; exact nan_cut _ _ _ _) (Grows.drew w) ?_
      have hq : (Question.nanBits .f64 b b).forced = false := rfl
      rw [e, hs]
      simp [hq]
  rintro w ⟨b, ⟨⟩⟩ vs ⟨v, r, rfl, h1, rfl⟩ _ _
  exact main w b _ h1
end
end Go.Lift
