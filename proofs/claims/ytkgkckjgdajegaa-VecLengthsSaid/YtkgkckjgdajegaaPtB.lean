/- A part of the proof of VecLengths: an own lifter of code into plain terms, and plain laws. -/
import Derived.StillTail
import Derived.Deep.LoopGhost
import Derived.Test.YtkgkckjgdajegaaPtA
set_option linter.unusedVariables false
set_option linter.unusedSimpArgs false
set_option linter.unusedSectionVars false
/- Small operations: one operand, conversions, least and greatest, built values, parts of values, comparisons; their soundness. Own work. -/
set_option linter.unusedVariables false
set_option linter.unusedSimpArgs false
set_option linter.unusedSectionVars false
namespace Go.Lift

def opUn (op : UnOp) (v : EV) : Res := match op, v with
  | .neg, .x (.one (.val (.int k n))) => vI k (k.wrap (0 - n))
  | .xor, .x (.one (.val (.int k n))) => vI k (Go.bits .xor k (if k.signed then -1 else k.max) n)
  | .neg, .x (.one (.val (.float k b))) => .ret (.val (.float k (Op.negFloat k b))) []
  | .not, .x (.one (.val (.bool b))) => vB (!b)
  | _, _ => .fail

/-- What a float becomes as a whole number. -/
def F2I (s : FloatKind) (b : Nat) (d : IntKind) (n : Int) : Prop :=
  match (s.format.read b).toInt .zero with
  | some m => if d.min ≤ m ∧ m ≤ d.max then n = m else d.min ≤ n ∧ n ≤ d.max
  | none => d.min ≤ n ∧ n ≤ d.max

theorem in_range0 (d : IntKind) : d.min ≤ 0 ∧ 0 ≤ d.max := by cases d <;> decide

theorem F2I.ne (s : FloatKind) (b : Nat) (d : IntKind) : ∃ n, F2I s b d n := by
  unfold F2I
  split
  · split
    · exact ⟨_, rfl⟩
    · exact ⟨0, in_range0 d⟩
  · exact ⟨0, in_range0 d⟩

/-- What a float becomes as a float of another size. -/
def F2F (s : FloatKind) (b : Nat) (d : FloatKind) (r : Nat) : Prop :=
  if s = d then r = b else
  match s.format.read b with
  | .nan _ _ => IsNaN d r
  | .infinity t => r = d.format.write (.infinity t)
  | .number t m e => if (d.format.read (d.format.write (.number t m e))).isInfinity then r < 2 ^ 32 else r = d.format.write (.number t m e)

theorem F2F.ne (s : FloatKind) (b : Nat) (d : FloatKind) : ∃ n, F2F s b d n := by
  unfold F2F
  split
  · exact ⟨_, rfl⟩
  · split
    · exact ⟨_, aNaN_is d⟩
    · exact ⟨_, rfl⟩
    · split
      · exact ⟨0, by decide⟩
      · exact ⟨_, rfl⟩

def opConv (cx : Cx) (s d : TypeId) (v : EV) : Res := match cx.tab s, cx.tab d, v with
  | some ⟨.int _, _, _, _, _⟩, some ⟨.int k, _, _, _, _⟩, .x (.one (.val (.int _ n))) => vI k (k.wrap n)
  | some ⟨.int _, _, _, _, _⟩, some ⟨.flt k, _, _, _, _⟩, .x (.one (.val (.int _ n))) => .ret (.val (.float k (k.nearest n))) []
  | some ⟨.flt _, _, _, _, _⟩, some ⟨.int k, _, _, _, _⟩, .x (.one (.val (.float s b))) => .all Int (F2I s b k) (F2I.ne s b k) fun n => .ret (.val (.int k n)) []
  | some ⟨.flt _, _, _, _, _⟩, some ⟨.flt k, _, _, _, _⟩, .x (.one (.val (.float s b))) => .all Nat (F2F s b k) (F2F.ne s b k) fun n => .ret (.val (.float k n)) []
  | _, _, _ => .fail

def imin (a b : Int) : Int := if b < a then b else a
def imax (a b : Int) : Int := if b > a then b else a

def foldMM (f : Int → Int → Int) (k : IntKind) : Int → List EV → Option Int
  | a, [] => some a
  | a, .x (.one (.val (.int j n))) :: r => if j = k then foldMM f k (f a n) r else none
  | _, _ => none

def opMM (f : Int → Int → Int) : List EV → Res
  | .x (.one (.val (.int k n))) :: r => match foldMM f k n r with
    | some m => vI k m
    | none => .fail
  | _ => .fail

def opNil (h : List HObj) (v : EV) : Res := match v with
  | .x (.one (.data (.ptr k) p)) => .ask (p ≠ none) fun _ => .ret v []
  | .x (.one (.ref id _)) => match h[id]? with | some (.box ..) | some (.row ..) => .ret v [] | _ => .fail
  | .x (.one (.eref id _ _)) => match h[id]? with | some (.row ..) => .ret v [] | _ => .fail
  | _ => .fail

def isNilPV : EV → Bool
  | .x (.one (.val v)) => isNilP v
  | _ => false

/-- Equal: bools; a pointer and nil. -/
def opEq (cx : Cx) (h : List HObj) (neg : Bool) (t : TypeId) (x y : EV) : Res := match cx.tab t with
  | some ⟨.bool, _, _, _, _⟩ => match x, y with
    | .x (.one (.val (.bool a))), .x (.one (.val (.bool b))) => vB (if neg then a != b else a == b)
    | _, _ => .fail
  | some ⟨.ptr _, _, _, _, _⟩ => if isNilPV y then (match x with
    | .x (.one (.data (.ptr k) p)) => vB (if neg then (Option.isSome (α := k.T) p) else (Option.isNone (α := k.T) p))
    | .x (.one (.ref id _)) => (match h[id]? with | some (.box ..) | some (.row ..) => vB neg | _ => .fail)
    | _ => .fail) else .fail
  | _ => .fail

def opBin (cx : Cx) (h : List HObj) (op : BinOp) (t : TypeId) (x y : EV) : Res := match x, y with
  | .x (.one (.val (.int k a))), .x (.one (.val (.int j b))) => binInt op k a j b
  | .x (.one (.val (.float k a))), .x (.one (.val (.float j b))) => binFlt op k a j b
  | x, y => match op with
    | .eql => opEq cx h false t x y
    | .neq => opEq cx h true t x y
    | _ => .fail

section
variable {P : Program} {cx : Cx} (hT : ∀ t d, cx.tab t = some d → d.Fits P t) {c : RC} (hi : c.Inv) {k : EV → List (Nat × HObj) → Prop}
include hT hi

theorem opUn_run {op : UnOp} {v : EV} {u : Value} (h : (opUn op v).wp k) (r : v.rel c u) : Runs P c (Op.unary op u) k := by
  unfold opUn at h
  split at h
  · rename_i kd n
    obtain rfl : u = .int kd n := r
    exact vI_run hi (by simp [Op.unary, Op.intArith]) h
  · rename_i kd n
    obtain rfl : u = .int kd n := r
    exact vI_run hi (by simp [Op.unary]; rfl) h
  · rename_i kd b
    obtain rfl : u = .float kd b := r
    exact Runs.pure hi (by simp [Op.unary]) h rfl
  · rename_i b
    obtain rfl : u = .bool b := r
    exact vB_run hi (by simp [Op.unary]) h
  · exact h.elim

theorem wrap_range (d : IntKind) (n : Int) : d.min ≤ d.wrap n ∧ d.wrap n ≤ d.max := by
  cases d <;> simp [IntKind.wrap, IntKind.min, IntKind.max, IntKind.bits, IntKind.signed] <;> omega

theorem opConv_run {s d : TypeId} {v : EV} {u : Value} (h : (opConv cx s d v).wp k) (r : v.rel c u) : Runs P c (convert s d u) k := by
  unfold opConv at h
  split at h
  · rename_i k0 _ _ _ _ kd _ _ _ _ k1 n hs hd
    have fs : P.underlying s = some (.int k0) := (hT s _ hs).k
    have fd : P.underlying d = some (.int kd) := (hT d _ hd).k
    obtain rfl : u = .int k1 n := r
    exact vI_run hi (by simp [convert, run_underlying fs, run_underlying fd, Conv.intToInt]) h
  · rename_i k0 _ _ _ _ kd _ _ _ _ k1 n hs hd
    have fs : P.underlying s = some (.int k0) := (hT s _ hs).k
    have fd : P.underlying d = some (.float kd) := (hT d _ hd).k
    obtain rfl : u = .int k1 n := r
    exact Runs.pure hi (by simp [convert, run_underlying fs, run_underlying fd, Conv.intToFloat]) h rfl
  · rename_i k0 _ _ _ _ kd _ _ _ _ k1 b hs hd
    have fs : P.underlying s = some (.float k0) := (hT s _ hs).k
    have fd : P.underlying d = some (.int kd) := (hT d _ hd).k
    obtain rfl : u = .float k1 b := r
    have e : (convert s d (.float k1 b)).run P c.w = (Conv.floatToInt k1 b kd).run P c.w := by simp [convert, run_underlying fs, run_underlying fd]
    have hfo : ∀ a b' e', (Question.floatToInt a b' e').forced = false := fun _ _ _ => rfl
    unfold Runs
    rw [e]
    unfold Conv.floatToInt FloatKind.decode
    have any : ∀ n, F2I k1 b kd n → k (.val (.int kd n)) [] := fun n hn => h n hn
    unfold F2I at any
    have many : (∀ n, kd.min ≤ n ∧ n ≤ kd.max → k (.val (.int kd n)) []) → ∃ v w', (do pure (.int kd (kd.wrap (← choose (.floatToInt k1 b kd)))) : Sem Value).run P c.w = .ok v w' ∧ Done c k v w' := by
      intro hk
      exact ⟨_, c.w.drew, by simp [hfo]; rfl, Done.drew hi (hk _ (wrap_range hT hi kd _)) rfl⟩
    split
    · rename_i m hm
      rw [hm] at any
      simp only at any
      split
      · rename_i hr
        simp only [if_pos hr] at any
        exact ⟨_, _, rfl, Done.pure hi (any m rfl) rfl⟩
      · rename_i hr
        simp only [if_neg hr] at any
        exact many any
    · rename_i hm
      rw [hm] at any
      exact many any
  · rename_i k0 _ _ _ _ kd _ _ _ _ k1 b hs hd
    have fs : P.underlying s = some (.float k0) := (hT s _ hs).k
    have fd : P.underlying d = some (.float kd) := (hT d _ hd).k
    obtain rfl : u = .float k1 b := r
    have e : (convert s d (.float k1 b)).run P c.w = (Conv.floatToFloat k1 b kd).run P c.w := by simp [convert, run_underlying fs, run_underlying fd]
    unfold Runs
    rw [e]
    unfold Conv.floatToFloat
    have any : ∀ n, F2F k1 b kd n → k (.val (.float kd n)) [] := fun n hn => h n hn
    unfold F2F at any
    split
    · rename_i hq
      simp only [if_pos hq] at any
      exact ⟨_, _, rfl, Done.pure hi (any b rfl) rfl⟩
    · rename_i hq
      simp only [if_neg hq] at any
      simp only [FloatKind.decode]
      split
      · rename_i s' t' hm
        rw [hm] at any
        have hfo : (Question.nanConv kd b).forced = false := rfl
        refine ⟨_, c.w.drew, by simp [hfo]; rfl, Done.drew hi (any _ ?_) rfl⟩
        cases kd
        · exact nan_cut_f32 0 0 _
        · exact nan_cut_f64 0 0 _
      · rename_i s' hm
        rw [hm] at any
        exact ⟨_, _, rfl, Done.pure hi (any _ rfl) rfl⟩
      · rename_i s' m' e' hm
        rw [hm] at any
        simp only [FloatKind.encode] at any ⊢
        by_cases hinf : (kd.format.read (kd.format.write (Ieee.Datum.number s' m' e'))).isInfinity = true
        · simp only [if_pos hinf] at any
          have hfo : (Question.floatToFloat b).forced = false := rfl
          refine ⟨.float kd ((Question.floatToFloat b).cut (c.w.tape c.w.drawn (.floatToFloat b))), c.w.drew, (congrArg (fun s : Sem Value => s.run P c.w) (if_pos hinf)).trans ?_, Done.drew hi (any _ (Nat.mod_lt _ (by decide))) rfl⟩
          simp [hfo]
        · simp only [if_neg hinf] at any
          exact ⟨_, c.w, (congrArg (fun s : Sem Value => s.run P c.w) (if_neg hinf)).trans rfl, Done.pure hi (any _ rfl) rfl⟩
  · exact h.elim

theorem foldMM_run (f : Int → Int → Int) (g : Value → Value → Sem Value) (hg : ∀ kd a b, g (.int kd a) (.int kd b) = pure (.int kd (f a b))) (kd : IntKind) : ∀ (r : List EV) (us : List Value) (a m : Int), foldMM f kd a r = some m → All2 (EV.rel c) r us →
    (us.foldlM g (.int kd a)).run P c.w = .ok (.int kd m) c.w
  | [], us, a, m, h, ha => by cases ha; cases h; rfl
  | x :: r, us, a, m, h, ha => by
    cases ha with
    | cons h1 h2 =>
      unfold foldMM at h
      split at h
      · rename_i h'; cases h'
      · rename_i j n r' he
        injection he with he1 he2
        subst he1; subst he2
        split at h
        · rename_i hj; subst hj
          obtain rfl : _ = Value.int j n := h1
          simp only [List.foldlM_cons, hg, Sem.run_bind, Sem.run_pure, Result.andThen_ok]
          exact foldMM_run f g hg j _ _ _ _ h h2
        · cases h
      · cases h

theorem opMax_run {ts : Array TypeId} {ty : TypeId} {vs : List EV} {us : Array Value} (h : (opMM imax vs).wp k) (r : All2 (EV.rel c) vs us.toList) : Runs P c (Builtin.max_ ts ty us) k := by
  unfold opMM at h
  split at h
  case h_2 => exact h.elim
  rename_i kd n rest
  split at h
  case h_2 => exact h.elim
  rename_i m hm
  cases hu : us.toList with
  | nil => rw [hu] at r; cases r
  | cons u us' =>
    rw [hu] at r
    cases r with
    | cons h1 h2 =>
      obtain rfl : u = .int kd n := h1
      refine vI_run hi ?_ h
      unfold Builtin.max_
      rw [hu]
      exact foldMM_run hT hi imax Builtin.max2 (fun _ _ _ => rfl) kd rest us' n m hm h2

theorem opMin_run {ts : Array TypeId} {ty : TypeId} {vs : List EV} {us : Array Value} (h : (opMM imin vs).wp k) (r : All2 (EV.rel c) vs us.toList) : Runs P c (Builtin.min_ ts ty us) k := by
  unfold opMM at h
  split at h
  case h_2 => exact h.elim
  rename_i kd n rest
  split at h
  case h_2 => exact h.elim
  rename_i m hm
  cases hu : us.toList with
  | nil => rw [hu] at r; cases r
  | cons u us' =>
    rw [hu] at r
    cases r with
    | cons h1 h2 =>
      obtain rfl : u = .int kd n := h1
      refine vI_run hi ?_ h
      unfold Builtin.min_
      rw [hu]
      exact foldMM_run hT hi imin Builtin.min2 (fun _ _ _ => rfl) kd rest us' n m hm h2

theorem opNil_rel {v : EV} {u : Value} (h : (opNil c.heap v).wp k) (r : v.rel c u) : (∃ a, u = .pointer (some a)) ∧ k v [] := by
  unfold opNil at h
  split at h
  · rename_i kd p
    obtain ⟨hp, h⟩ := h
    rcases (r : K.rep c.w c.ok (.ptr kd) p [u]) with ⟨h1, _⟩ | ⟨y, b, o, vs, h2, h3, _⟩
    · exact absurd h1 hp
    · exact ⟨⟨_, (List.cons.inj h3).1⟩, h⟩
  · rename_i id off
    split at h
    · rename_i m t cs ho
      obtain ⟨b, _, rfl⟩ := ref_obj hT hi ho rfl r
      exact ⟨⟨_, rfl⟩, h⟩
    · rename_i m t e xs ho
      obtain ⟨b, _, rfl⟩ := ref_obj hT hi ho rfl r
      exact ⟨⟨_, rfl⟩, h⟩
    · exact h.elim
  · rename_i id i off
    split at h
    · rename_i m t e xs ho
      obtain ⟨_, b, _, rfl⟩ := eref_row hT hi ho r
      exact ⟨⟨_, rfl⟩, h⟩
    · exact h.elim
  · exact h.elim

theorem equalIn_bool {d : Nat} {t : TypeId} (hf : P.underlying t = some .bool) (a b : Bool) (w : World) : (Op.equalIn (d + 1) t (.bool a) (.bool b)).run P w = .ok (a == b) w := by
  simp [Op.equalIn, run_underlying hf]

theorem equalIn_nil {d : Nat} {t e : TypeId} (hf : P.underlying t = some (.pointer e)) (a : Option Addr) (w : World) : (Op.equalIn (d + 1) t (.pointer a) (.pointer none)).run P w = .ok a.isNone w := by
  cases a <;> simp [Op.equalIn, run_underlying hf]

theorem equal_bool {t : TypeId} (hf : P.underlying t = some .bool) (a b : Bool) (w : World) : (Op.equal t (.bool a) (.bool b)).run P w = .ok (a == b) w :=
  equalIn_bool (d := 9999) hT hi hf a b w

theorem equal_nil {t e : TypeId} (hf : P.underlying t = some (.pointer e)) (a : Option Addr) (w : World) : (Op.equal t (.pointer a) (.pointer none)).run P w = .ok a.isNone w :=
  equalIn_nil (d := 9999) hT hi hf a w

theorem opEq_guard {neg : Bool} {t : TypeId} {x y : EV} {u uy : Value} (h : (opEq cx c.heap neg t x y).wp k) (rx : x.rel c u) (ry : y.rel c uy) (op : BinOp) (ox oy : Operand) :
    eqGuard op t ox oy u uy = pure () := by
  unfold opEq at h
  split at h
  · split at h
    · rename_i a b
      obtain rfl : u = .bool a := rx
      exact eqGuard_at_bool ..
    · exact h.elim
  · split at h
    · split at h
      · rename_i kd p
        rcases (rx : K.rep c.w c.ok (.ptr kd) p [u]) with ⟨_, h2⟩ | ⟨_, b, o, _, _, h3, _⟩
        · obtain rfl := (List.cons.inj h2).1; exact eqGuard_at_pointer ..
        · obtain rfl := (List.cons.inj h3).1; exact eqGuard_at_pointer ..
      · rename_i id off
        split at h
        · rename_i m t' cs ho
          obtain ⟨b, _, rfl⟩ := ref_obj hT hi ho rfl rx
          exact eqGuard_at_pointer ..
        · rename_i m t' e' xs ho
          obtain ⟨b, _, rfl⟩ := ref_obj hT hi ho rfl rx
          exact eqGuard_at_pointer ..
        · exact h.elim
      · exact h.elim
    · exact h.elim
  · exact h.elim

theorem opEq_run {neg : Bool} {t : TypeId} {x y : EV} {u uy : Value} (h : (opEq cx c.heap neg t x y).wp k) (rx : x.rel c u) (ry : y.rel c uy) :
    Runs P c (binOp (if neg then .neq else .eql) t u uy) k := by
  unfold opEq at h
  split at h
  · rename_i sz by_ z kd ht
    have hf : P.underlying t = some .bool := (hT t _ ht).k
    split at h
    · rename_i a b
      obtain rfl : u = .bool a := rx
      obtain rfl : uy = .bool b := ry
      refine vB_run hi ?_ h
      cases neg <;> simp [binOp, equal_bool hT hi hf]
      · cases a <;> cases b <;> rfl
    · exact h.elim
  · rename_i e sz by_ z kd ht
    have hf : P.underlying t = some (.pointer e) := (hT t _ ht).k
    split at h
    case isFalse => exact h.elim
    rename_i hn
    have hy : uy = .pointer none := by
      unfold isNilPV at hn
      split at hn
      · rename_i v
        obtain rfl : uy = v := ry
        exact isNilP_eq hn
      · cases hn
    subst hy
    have some_ : ∀ a : Addr, (binOp (if neg then .neq else .eql) t (.pointer (some a)) (.pointer none)).run P c.w = .ok (.bool neg) c.w := by
      intro a
      cases neg <;> simp [binOp, equal_nil hT hi hf]
    split at h
    · rename_i kd p
      rcases (rx : K.rep c.w c.ok (.ptr kd) p [u]) with ⟨h1, h2⟩ | ⟨y, b, o, vs, h2, h3, _⟩
      · obtain rfl := (List.cons.inj h2).1
        subst h1
        refine vB_run hi ?_ h
        cases neg <;> simp [binOp, equal_nil hT hi hf]
      · obtain rfl := (List.cons.inj h3).1
        subst h2
        refine vB_run hi (some_ _) ?_
        cases neg <;> exact h
    · rename_i id off
      split at h
      · rename_i m t' cs ho
        obtain ⟨b, _, rfl⟩ := ref_obj hT hi ho rfl rx
        exact vB_run hi (some_ _) h
      · rename_i m t' e' xs ho
        obtain ⟨b, _, rfl⟩ := ref_obj hT hi ho rfl rx
        exact vB_run hi (some_ _) h
      · exact h.elim
    · exact h.elim
  · exact h.elim

theorem opBin_run {op : BinOp} {t : TypeId} {x y : EV} {u uy : Value} (h : (opBin cx c.heap op t x y).wp k) (rx : x.rel c u) (ry : y.rel c uy) (ox oy : Operand) :
    Runs P c (do eqGuard op t ox oy u uy; binOp op t u uy) k := by
  unfold opBin at h
  split at h
  · rename_i kd a j b
    obtain rfl : u = .int kd a := rx
    obtain rfl : uy = .int j b := ry
    rw [eqGuard_at_int]
    exact binInt_run hi op t kd j a b h
  · rename_i kd a j b
    obtain rfl : u = .float kd a := rx
    obtain rfl : uy = .float j b := ry
    rw [eqGuard_at_float]
    exact binFlt_run hi op t kd j a b h
  · split at h
    · rw [opEq_guard hT hi h rx ry]
      exact opEq_run hT hi (neg := false) h rx ry
    · rw [opEq_guard hT hi h rx ry]
      exact opEq_run hT hi (neg := true) h rx ry
    · exact h.elim
end

def strAt (s : ByteArray) (n : Int) : Int := match s[n.toNat]? with
  | some b => b.toNat
  | none => 0

def opIndex (cx : Cx) (t : TypeId) (x i : EV) : Res := match cx.tab t with
  | some ⟨.str, _, _, _, _⟩ => match x, i with
    | .x (.one (.val (.string s))), .x (.one (.val (.int _ n))) => .ask (0 ≤ n ∧ n < (s.size : Int)) fun _ => vI .u8 (strAt s n)
    | _, _ => .fail
  | _ => .fail

section
variable {P : Program} {cx : Cx} (hT : ∀ t d, cx.tab t = some d → d.Fits P t) {c : RC} (hi : c.Inv) {k : EV → List (Nat × HObj) → Prop}
include hT hi

theorem opIndex_run {t : TypeId} {x i : EV} {u v : Value} (h : (opIndex cx t x i).wp k) (hx : x.rel c u) (hv : i.rel c v) : Runs P c (Instr.index t u v) k := by
  unfold opIndex at h
  split at h
  · rename_i ht
    have hf : P.underlying t = some .string := (hT t _ ht).k
    split at h
    · rename_i s kd n
      obtain ⟨⟨h1, h2⟩, h⟩ := h
      obtain rfl : u = .string s := hx
      obtain rfl : v = .int kd n := hv
      have hlt : n.toNat < s.size := by omega
      refine vI_run hi ?_ h
      have hs : s[n.toNat]? = some s[n.toNat] := by simp [hlt]
      simp [Instr.index, asIntOf, run_underlying hf, h1, hs, strAt]
    · exact h.elim
  · exact h.elim
end

end Go.Lift

/- Structs and arrays built of parts. Own work. -/
set_option linter.unusedVariables false
set_option linter.unusedSimpArgs false
set_option linter.unusedSectionVars false
namespace Go.Lift

def fillA (h : List HObj) (place : Nat → Option (Nat × Nat)) : List SV → List Nat → List EV → Option (List SV)
  | cs, [], [] => some cs
  | cs, i :: is, .x v :: r => match place i, v.cells h with
    | some (off, size), some us => if us.length = size ∧ off + size ≤ cs.length then fillA h place (cs.take off ++ us ++ cs.drop (off + us.length)) is r else none
    | _, _ => none
  | _, _, _ => none

def placeOf' (cx : Cx) (k : TK) (i : Nat) : Option (Nat × Nat) := match k with
  | .struct fs => match fs[i]? with
    | some (off, ft) => match cx.tab ft with
      | some d => some (off, d.sz)
      | none => none
    | none => none
  | .arr _ e => match cx.tab e with
    | some d => some (i * d.sz, d.sz)
    | none => none
  | _ => none

def tabAll (cx : Cx) : List (Nat × TypeId) → Bool
  | [] => true
  | (_, ft) :: fs => match cx.tab ft with
    | some _ => tabAll cx fs
    | none => false

/-- The types of all parts are known. -/
def partsKnown (cx : Cx) : TK → Bool
  | .struct fs => tabAll cx fs
  | .arr _ e => match cx.tab e with
    | some _ => true
    | none => false
  | _ => false

def opBuild (cx : Cx) (h : List HObj) (t : TypeId) (is : List Nat) (vs : List EV) : Res := match cx.tab t with
  | some d => if partsKnown cx d.k then (match fillA h (placeOf' cx d.k) (d.zero.map .val) is vs with
    | some cs => .ret (.x (.agg cs)) []
    | none => .fail) else .fail
  | none => .fail

theorem put_cells (us : Array Value) (off : Nat) (cs : Array Value) (hl : off + us.size ≤ cs.size) :
    (us.zipIdx.foldl (fun cs (x : Value × Nat) => cs.setIfInBounds (off + x.2) x.1) cs).toList = cs.toList.take off ++ us.toList ++ cs.toList.drop (off + us.size) := by
  have key : ∀ (l : List Value) (n : Nat) (cs : Array Value), off + n + l.length ≤ cs.size →
      ((l.zipIdx n).foldl (fun (cs : Array Value) (x : Value × Nat) => cs.setIfInBounds (off + x.2) x.1) cs).toList = cs.toList.take (off + n) ++ l ++ cs.toList.drop (off + n + l.length) := by
    intro l
    induction l with
    | nil => intro n cs _; simp
    | cons v l ih =>
      intro n cs h
      simp only [List.zipIdx_cons, List.foldl_cons, List.length_cons] at h ⊢
      rw [ih (n + 1) _ (by simp; omega)]
      simp only [Array.toList_setIfInBounds]
      apply List.ext_getElem?
      intro j
      have hsz : off + n < cs.toList.length := by simp; omega
      rw [List.getElem?_append, List.getElem?_append, List.getElem?_append, List.getElem?_append]
      simp only [List.length_append, List.length_take, List.length_cons, List.length_set, List.getElem?_take, List.getElem?_drop, List.getElem?_set]
      have hcs : cs.toList.length = cs.size := by simp
      by_cases h1 : j < off + n
      · rw [if_pos (by omega), if_pos (by omega), if_pos (by omega), if_neg (by omega), if_pos (by omega), if_pos (by omega), if_pos (by omega)]
      · by_cases h2 : j = off + n
        · subst h2
          rw [if_pos (by omega), if_pos (by omega), if_pos (by omega), if_pos rfl, if_pos (by omega), if_pos (by omega), if_neg (by omega)]
          simp [show off + n - min (off + n) cs.size = 0 by omega]
        · by_cases h3 : j < off + n + 1 + l.length
          · rw [if_pos (by omega), if_neg (by omega), if_pos (by omega), if_neg (by omega)]
            rw [show j - min (off + n) cs.toList.length = (j - min (off + (n + 1)) cs.toList.length) + 1 by omega, List.getElem?_cons_succ]
          · rw [if_neg (by omega), if_neg (by omega), if_neg (by omega)]
            congr 1; omega
  have e : us.zipIdx = (us.toList.zipIdx 0).toArray := by
    apply Array.ext'; simp
  rw [e, List.foldl_toArray]
  have := key us.toList 0 cs (by simpa using hl)
  simpa using this

theorem fillA_run {c : RC} {place : Nat → Option (Nat × Nat)} : ∀ {is : List Nat} {vs : List EV} {cs cs' : List SV} {us : List Value} {zs : Array Value}, fillA c.heap place cs is vs = some cs' → All2 (EV.rel c) vs us → All2 (SV.rel c) cs zs.toList →
    ∃ zs', Instr.fill place zs (is.zip us) = some zs' ∧ All2 (SV.rel c) cs' zs'.toList := by
  intro is
  induction is with
  | nil =>
    intro vs cs cs' us zs h hv hz
    cases vs with
    | nil => cases hv; cases h; exact ⟨zs, rfl, hz⟩
    | cons v vs => cases h
  | cons i is ih =>
    intro vs cs cs' us zs h hv hz
    cases vs with
    | nil => cases h
    | cons v vs =>
      cases v with
      | tup _ => cases h
      | x v =>
        simp only [fillA] at h
        split at h
        · rename_i off size us1 hp hu
          split at h
          · rename_i hq
            cases hv with
            | cons h1 h2 =>
              rename_i u us2
              obtain ⟨g1, _⟩ := XV.cells_rel hu h1
              have hl := g1.len
              have hzl := hz.len
              have hsz : u.cells.size = size := by have : u.cells.toList.length = u.cells.size := by simp
                                                   omega
              have hzs : zs.toList.length = zs.size := by simp
              simp only [List.zip_cons_cons, Instr.fill, hp]
              rw [if_neg (by simp [hsz]; omega)]
              refine ih h h2 ?_
              rw [put_cells _ _ _ (by omega)]
              rw [show off + u.cells.size = off + us1.length by omega]
              exact All2.append (All2.append (hz.take off) g1) (hz.drop _)
          · cases h
        · cases h

section
variable {P : Program} {cx : Cx} (hT : ∀ t d, cx.tab t = some d → d.Fits P t) {c : RC} (hi : c.Inv) {k : EV → List (Nat × HObj) → Prop}
include hT hi

theorem opBuild_run {t : TypeId} {parts : Array (Nat × Value)} {vs : List EV} (h : (opBuild cx c.heap t (parts.toList.map (·.1)) vs).wp k) (r : All2 (EV.rel c) vs (parts.toList.map (·.2))) : Runs P c (Instr.build t parts) k := by
  unfold opBuild at h
  split at h
  · rename_i d hd
    split at h
    · rename_i hpk
      split at h
      · rename_i cs hcs
        have F := hT t d hd
        obtain ⟨i, z, h1, h2, h3, h4, h5, h6⟩ := F.info
        have hzip : (parts.toList.map (·.1)).zip (parts.toList.map (·.2)) = parts.toList := by
          rw [List.zip_map']; simp
        have hz : All2 (SV.rel c) (d.zero.map .val) z.cells.toList := by rw [h5]; exact All2.vals c _
        obtain ⟨zs, g1, g2⟩ := fillA_run hcs r hz
        rw [hzip] at g1
        have hzv : (zeroValue t).run P c.w = .ok z c.w := by simp [zeroValue, typeInfo, h1, h4]
        have tabAll_at : ∀ (fs : List (Nat × TypeId)), tabAll cx fs = true → ∀ f ∈ fs, ∃ d, cx.tab f.2 = some d := by
          intro fs
          induction fs with
          | nil => intro _ f hf; cases hf
          | cons g fs ih =>
            intro ht f hf
            obtain ⟨o, ft⟩ := g
            simp only [tabAll] at ht
            split at ht
            · rename_i d' hd'
              rcases List.mem_cons.1 hf with rfl | hf
              · exact ⟨d', hd'⟩
              · exact ih ht f hf
            · cases ht
        have run : (Instr.build t parts).run P c.w = .ok (.agg zs) c.w := by
          have hk := F.k
          cases hkk : d.k with
          | struct fs =>
            rw [hkk] at hk hpk g1
            obtain ⟨fields, hf, hfs⟩ := hk
            have places : ∀ (l : List Field), (∀ f ∈ l, ∃ d, cx.tab f.type = some d) → (l.mapM fun f => (do pure (f.offset, ← sizeOf f.type) : Sem (Nat × Nat))).run P c.w = .ok (l.map fun f => (f.offset, ((cx.tab f.type).map (·.sz)).getD 0)) c.w := by
              intro l
              induction l with
              | nil => intro _; rw [List.mapM_nil]; rfl
              | cons f l ih =>
                intro hall
                obtain ⟨fd, hfd⟩ := hall f List.mem_cons_self
                obtain ⟨fi, _, q1, q2, _⟩ := (hT _ fd hfd).info
                rw [List.mapM_cons]
                have hs : (sizeOf f.type).run P c.w = .ok fd.sz c.w := by simp [sizeOf, typeInfo, q1, q2]
                simp only [Sem.run_bind, Sem.run_pure, hs, Result.andThen, ih (fun f hf => hall f (List.mem_cons_of_mem _ hf))]
                simp only [List.map_cons, hfd, Option.map_some, Option.getD_some]
            have hall : ∀ f ∈ fields.toList, ∃ d, cx.tab f.type = some d := by
              intro f hf
              have : (f.offset, f.type) ∈ fs := by rw [← hfs]; exact List.mem_map.2 ⟨f, hf, rfl⟩
              exact tabAll_at fs hpk _ this
            have hp := places fields.toList hall
            have hplace : (fun i => ((fields.toList.map fun f => (f.offset, ((cx.tab f.type).map (·.sz)).getD 0)).toArray)[i]?) = placeOf' cx (.struct fs) := by
              funext j
              unfold placeOf'
              rw [← hfs]
              simp only [List.getElem?_toArray, List.getElem?_map]
              cases hj : fields.toList[j]? with
              | none => rfl
              | some f =>
                obtain ⟨fd, hfd⟩ := hall f (List.mem_of_getElem? hj)
                simp [hfd]
            rw [← hplace] at g1
            have hp2 : (fields.mapM fun f => (do pure (f.offset, ← sizeOf f.type) : Sem (Nat × Nat))).run P c.w = .ok ((fields.toList.map fun f => (f.offset, ((cx.tab f.type).map (·.sz)).getD 0)).toArray) c.w := by
              have e : (fields.mapM fun f => (do pure (f.offset, ← sizeOf f.type) : Sem (Nat × Nat))) = (do
                  let l ← fields.toList.mapM fun f => (do pure (f.offset, ← sizeOf f.type) : Sem (Nat × Nat))
                  pure l.toArray) := by
                have e1 : fields = fields.toList.toArray := by simp
                conv => lhs; rw [e1]
                rw [List.mapM_toArray, map_eq_pure_bind]
              rw [e]
              simp only [Sem.run_bind, hp, Result.andThen, Sem.run_pure]
            simp only [Instr.build, Sem.run_bind, hzv, Result.andThen, run_underlying hf, hp2]
            rw [g1]
            rfl
          | arr n e =>
            rw [hkk] at hk hpk g1
            have hk' : P.underlying t = some (.array n e) := hk
            simp only [partsKnown] at hpk
            split at hpk
            · rename_i ed he
              obtain ⟨ei, _, q1, q2, _⟩ := (hT e ed he).info
              have hs : (sizeOf e).run P c.w = .ok ed.sz c.w := by simp [sizeOf, typeInfo, q1, q2]
              have hplace : (fun i => some (i * ed.sz, ed.sz)) = placeOf' cx (.arr n e) := by funext j; simp [placeOf', he]
              rw [← hplace] at g1
              simp only [Instr.build, Sem.run_bind, hzv, Result.andThen, run_underlying hk', hs]
              rw [g1]
              rfl
            · cases hpk
          | _ => rw [hkk] at hpk; cases hpk
        exact Runs.pure hi run h ⟨zs, rfl, g2⟩
      · exact h.elim
    · exact h.elim
  · exact h.elim
end
end Go.Lift

/- All operations together: what each comes to, that it is sound, and which objects it touches. Own work. -/
set_option linter.unusedVariables false
set_option linter.unusedSimpArgs false
set_option linter.unusedSectionVars false
namespace Go.Lift

def Con.n : Con → Nat
  | .det _ res _ _ => RKn res
  | .rel _ res _ _ _ => RKn res

def xvs : List EV → Option (List XV)
  | [] => some []
  | .x v :: r => match xvs r with | some vs => some (v :: vs) | none => none
  | _ => none

def opCall (cx : Cx) (h : List HObj) (f : FuncId) (args : List EV) (tgt : Nat) : Res := match cx.con f, xvs args with
  | some (.det ks rs pre g), some vs => match takes h ks vs with
    | some x => .ask (pre x) fun _ => .ret (EV.of (gives tgt rs (g x)).1) (gives tgt rs (g x)).2
    | none => .fail
  | some (.rel ks rs pre post ne), some vs => match takes h ks vs with
    | some x => .ask (pre x) fun hp => .all (RS rs) (post x) (ne x hp) fun r => .ret (EV.of (gives tgt rs r).1) (gives tgt rs r).2
    | none => .fail
  | _, _ => .fail

def opBuiltin (cx : Cx) (h : List HObj) (b : Builtin) (ts : List TypeId) (args : List EV) (tgt : Nat) : Res := match b, ts, args with
  | .len, [t], [x] => opLen cx h t x
  | .append, [t, t'], [x, y] => if t = t' then opAppend cx h t x y tgt else .fail
  | .max, _, vs => opMM imax vs
  | .min, _, vs => opMM imin vs
  | _, _, _ => .fail

def nAlloc (cx : Cx) (o : Oper) : Nat := match o.op with
  | .alloc _ | .box .. | .buildSlice .. | .makeSlice .. => 1
  | .call c => match c.callee with
    | .builtin b => match b with | .append => 1 | _ => 0
    | .value (.func f) => match cx.con f with | some con => con.n | none => 0
    | _ => 0
  | _ => 0

def LV.ev : LV → EV
  | .val v => .val v
  | .ref id off => .x (.one (.ref id off))
  | .data k x => .x (.one (.data k x))

def conN0 (cx : Cx) (f : FuncId) : Bool := match cx.con f with
  | some con => con.n == 0
  | none => false

/-- A call of a function value that bears nothing. -/
def opClo (cx : Cx) (h : List HObj) (x : EV) (args : List EV) (tgt : Nat) : Res := match x with
  | .x (.one (.clo f [] [])) => if conN0 cx f then opCall cx h f args tgt else .fail
  | _ => .fail

def aop (cx : Cx) (o : Oper) (env : List EV) (h : List HObj) (tgt : Nat) : Res := match o.op with
  | .move x => .ret (cx.eval env x) []
  | .assign x => .ret (cx.eval env x) []
  | .pick c a b => opPick (cx.eval env c) (cx.eval env a) (cx.eval env b)
  | .alloc t => opAlloc cx t tgt
  | .box t x => opBox cx h t (cx.eval env x) tgt
  | .build t ps => opBuild cx h t (ps.toList.map (·.1)) (ps.toList.map fun p => cx.eval env p.2)
  | .buildSlice t n ps => opBuildSlice cx h t n (ps.toList.map (·.1)) (ps.toList.map fun p => cx.eval env p.2) tgt
  | .load t x => opLoad cx h t (cx.eval env x)
  | .store t x v => opStore cx h t (cx.eval env x) (cx.eval env v)
  | .nilCheck x => opNil h (cx.eval env x)
  | .binOp op t x y _ => opBin cx h op t (cx.eval env x) (cx.eval env y)
  | .unOp op _ x => opUn op (cx.eval env x)
  | .convert s d x => opConv cx s d (cx.eval env x)
  | .makeSlice t l c => opMakeSlice cx t (cx.eval env l) (cx.eval env c) tgt
  | .slice t x lo hi mx => match mx, hi with
    | some _, none => .fail
    | mx, hi => opSlice cx h t (cx.eval env x) (lo.map (cx.eval env)) (hi.map (cx.eval env)) (mx.map (cx.eval env))
  | .fieldAddr t x f => opFieldAddr cx h t (cx.eval env x) f
  | .indexAddr t x i => opIndexAddr cx h t (cx.eval env x) (cx.eval env i)
  | .extract x i => opExtract (cx.eval env x) i
  | .index t x i => opIndex cx t (cx.eval env x) (cx.eval env i)
  | .call c => match c.callee with
    | .builtin b => opBuiltin cx h b c.argTypes.toList (c.args.toList.map (cx.eval env)) tgt
    | .value (.func f) => opCall cx h f (c.args.toList.map (cx.eval env)) tgt
    | .value x => opClo cx h (cx.eval env x) (c.args.toList.map (cx.eval env)) tgt
    | _ => .fail
  | _ => .fail

/-! ### Which objects are touched -/

def Res.All (p : List (Nat × HObj) → Prop) : Res → Prop
  | .fail => True
  | .ret _ us => p us
  | .ask _ f => ∀ h, (f h).All p
  | .all _ _ _ f => ∀ a, (f a).All p
  | .br _ x y => x.All p ∧ y.All p

theorem Res.wp_all {p : List (Nat × HObj) → Prop} {k : EV → List (Nat × HObj) → Prop} : ∀ {r : Res}, r.All p → r.wp k → r.wp fun ev us => k ev us ∧ p us
  | .fail, _, h => h
  | .ret _ _, hp, h => ⟨h, hp⟩
  | .ask _ f, hp, ⟨q, h⟩ => ⟨q, Res.wp_all (hp q) h⟩
  | .all _ _ _ f, hp, h => fun a ha => Res.wp_all (hp a) (h a ha)
  | .br b x y, hp, h => Br.intro (fun e => Res.wp_all (r := x) hp.1 (Br.t h e)) (fun e => Res.wp_all (r := y) hp.2 (Br.f h e))

theorem Res.wp_mono {k k' : EV → List (Nat × HObj) → Prop} (hk : ∀ ev us, k ev us → k' ev us) : ∀ {r : Res}, r.wp k → r.wp k'
  | .fail, h => h
  | .ret _ _, h => hk _ _ h
  | .ask _ f, ⟨q, h⟩ => ⟨q, Res.wp_mono hk h⟩
  | .all _ _ _ f, h => fun a ha => Res.wp_mono hk (h a ha)
  | .br b x y, h => Br.intro (fun e => Res.wp_mono (r := x) hk (Br.t h e)) (fun e => Res.wp_mono (r := y) hk (Br.f h e))

/-- Only what lives, and the places from 'tgt' on, n of them. -/
def Touch (h : List HObj) (tgt n : Nat) (us : List (Nat × HObj)) : Prop := ∀ u ∈ us, (tgt ≤ u.1 ∧ u.1 < tgt + n) ∨ ∃ o, h[u.1]? = some o ∧ o ≠ .pend

theorem Touch.nil {h : List HObj} {tgt n : Nat} : Touch h tgt n [] := fun u hu => by cases hu
theorem Touch.new {h : List HObj} {tgt : Nat} {o : HObj} : Touch h tgt 1 [(tgt, o)] := fun u hu => by
  cases hu with
  | head => exact .inl ⟨Nat.le_refl _, Nat.lt_succ_self _⟩
  | tail _ hu => cases hu
theorem Touch.live {h : List HObj} {tgt n id : Nat} {o o' : HObj} (ho : h[id]? = some o) (hn : o ≠ .pend) : Touch h tgt n [(id, o')] := fun u hu => by
  cases hu with
  | head => exact .inr ⟨o, ho, hn⟩
  | tail _ hu => cases hu

theorem give1_ids (t : Nat) (r : RK) (x : r.T) : ∀ u ∈ (give1 t r x).2, t ≤ u.1 ∧ u.1 < t + r.n := by
  cases r with
  | own ty e => intro u hu; cases hu with
    | head => exact ⟨Nat.le_refl _, Nat.lt_succ_self _⟩
    | tail _ hu => cases hu
  | snap k => intro u hu; cases hu

theorem gives_ids : ∀ (rs : List RK) (t : Nat) (x : RS rs), ∀ u ∈ (gives t rs x).2, t ≤ u.1 ∧ u.1 < t + RKn rs := by
  intro rs
  induction rs with
  | nil => intro t x u hu; cases hu
  | cons r rs ih =>
    intro t x u hu
    have e : RKn (r :: rs) = r.n + RKn rs := by simp [RKn]
    rcases List.mem_append.1 hu with h | h
    · have := give1_ids t r x.1 u h; omega
    · have := ih (t + r.n) x.2 u h; omega

section
variable {cx : Cx} {h : List HObj} {tgt n : Nat}

theorem vI_touch {k : IntKind} {m : Int} : (vI k m).All (Touch h tgt n) := Touch.nil
theorem vB_touch {b : Bool} : (vB b).All (Touch h tgt n) := Touch.nil
theorem vF_touch {k : FloatKind} {b : Option Nat} : (vF k b).All (Touch h tgt n) := fun _ => Touch.nil

theorem opPick_touch {a b c : EV} : (opPick c a b).All (Touch h tgt n) := by
  unfold opPick; split
  · exact ⟨Touch.nil, Touch.nil⟩
  · trivial
theorem opAlloc_touch {t : TypeId} : (opAlloc cx t tgt).All (Touch h tgt 1) := by
  unfold opAlloc; (repeat' split) <;> first | trivial | exact Touch.new
theorem opBox_touch {h' : List HObj} {t : TypeId} {v : EV} : (opBox cx h' t v tgt).All (Touch h tgt 1) := by
  unfold opBox; (repeat' split) <;> first | trivial | exact Touch.new
theorem opBuildSlice_touch {h' : List HObj} {t : TypeId} {m : Nat} {is : List Nat} {vs : List EV} : (opBuildSlice cx h' t m is vs tgt).All (Touch h tgt 1) := by
  unfold opBuildSlice; (repeat' split) <;> first | trivial | exact Touch.new
theorem opLoad_touch {h' : List HObj} {t : TypeId} {v : EV} : (opLoad cx h' t v).All (Touch h tgt n) := by
  unfold opLoad; (repeat' split) <;> first | trivial | exact Touch.nil | exact fun _ => Touch.nil
theorem opNil_touch {h' : List HObj} {v : EV} : (opNil h' v).All (Touch h tgt n) := by
  unfold opNil; (repeat' split) <;> first | trivial | exact Touch.nil | exact fun _ => Touch.nil
theorem opUn_touch {op : UnOp} {v : EV} : (opUn op v).All (Touch h tgt n) := by
  unfold opUn; split <;> first | trivial | exact Touch.nil
theorem opConv_touch {s d : TypeId} {v : EV} : (opConv cx s d v).All (Touch h tgt n) := by
  unfold opConv; split <;> first | trivial | exact Touch.nil | exact fun _ => Touch.nil
theorem opMakeSlice_touch {t : TypeId} {l c : EV} : (opMakeSlice cx t l c tgt).All (Touch h tgt 1) := by
  unfold opMakeSlice; (repeat' split) <;> first | trivial | exact fun _ => Touch.new
theorem opExtract_touch {v : EV} {i : Nat} : (opExtract v i).All (Touch h tgt n) := by
  unfold opExtract; (repeat' split) <;> first | trivial | exact Touch.nil
theorem opLen_touch {h' : List HObj} {t : TypeId} {v : EV} : (opLen cx h' t v).All (Touch h tgt n) := by
  unfold opLen; (repeat' split) <;> first | trivial | exact Touch.nil
theorem opIndexAddr_touch {h' : List HObj} {t : TypeId} {v i : EV} : (opIndexAddr cx h' t v i).All (Touch h tgt n) := by
  unfold opIndexAddr; (repeat' split) <;> first | trivial | exact fun _ => Touch.nil
theorem opFieldAddr_touch {h' : List HObj} {t : TypeId} {v : EV} {i : Nat} : (opFieldAddr cx h' t v i).All (Touch h tgt n) := by
  unfold opFieldAddr; (repeat' split) <;> first | trivial | exact Touch.nil
theorem opSlice_touch {h' : List HObj} {t : TypeId} {v : EV} {a b c : Option EV} : (opSlice cx h' t v a b c).All (Touch h tgt n) := by
  unfold opSlice; (repeat' split) <;> first | trivial | exact fun _ => Touch.nil
theorem opMM_touch {f : Int → Int → Int} {vs : List EV} : (opMM f vs).All (Touch h tgt n) := by
  unfold opMM; (repeat' split) <;> first | trivial | exact Touch.nil
theorem binInt_touch {op : BinOp} {k j : IntKind} {a b : Int} : (binInt op k a j b).All (Touch h tgt n) := by
  cases op <;> simp only [binInt] <;> (repeat' split) <;> first | trivial | exact Touch.nil | exact fun _ => Touch.nil
theorem binFlt_touch {op : BinOp} {k j : FloatKind} {a b : Nat} : (binFlt op k a j b).All (Touch h tgt n) := by
  cases op <;> simp only [binFlt] <;> (repeat' split) <;> first | trivial | exact Touch.nil | exact fun _ => Touch.nil
theorem opEq_touch {h' : List HObj} {neg : Bool} {t : TypeId} {x y : EV} : (opEq cx h' neg t x y).All (Touch h tgt n) := by
  unfold opEq; (repeat' split) <;> first | trivial | exact Touch.nil
theorem opBin_touch {h' : List HObj} {op : BinOp} {t : TypeId} {x y : EV} : (opBin cx h' op t x y).All (Touch h tgt n) := by
  unfold opBin; split
  · exact binInt_touch
  · exact binFlt_touch
  · split
    · exact opEq_touch
    · exact opEq_touch
    · trivial
theorem opStore_touch {t : TypeId} {x v : EV} : (opStore cx h t x v).All (Touch h tgt n) := by
  unfold opStore
  split
  case h_2 => trivial
  split
  · split
    case h_2 => trivial
    rename_i ho
    (repeat' split) <;> first | trivial | exact Touch.live ho (by simp)
  · split
    · rename_i ho
      (repeat' split) <;> first | trivial | exact Touch.live ho (by simp)
    · rename_i ho
      (repeat' split) <;> first | trivial | exact fun _ => Touch.live ho (by simp)
    · trivial
  · trivial
theorem opAppend_touch {t : TypeId} {x y : EV} : (opAppend cx h t x y tgt).All (Touch h tgt 1) := by
  unfold opAppend
  split
  case h_2 => trivial
  split
  case h_2 => trivial
  split
  case isFalse => trivial
  split
  · (repeat' split) <;> first | trivial | exact fun _ => Touch.new
  · split
    case h_2 => trivial
    split
    case h_2 => trivial
    rename_i ho
    (repeat' split) <;> first
      | trivial
      | (intro _ u hu
         cases hu with
         | head => exact .inr ⟨_, ho, by simp⟩
         | tail _ hu => exact Touch.new u hu)
theorem opCall_touch {f : FuncId} {args : List EV} {h' : List HObj} : (opCall cx h' f args tgt).All (Touch h tgt (match cx.con f with | some con => con.n | none => 0)) := by
  unfold opCall
  cases hc : cx.con f with
  | none => trivial
  | some con =>
    cases hx : xvs args with
    | none => cases con <;> trivial
    | some vs =>
      cases con with
      | det ks rs pre g =>
        simp only
        split
        · exact fun _ u hu => .inl (gives_ids _ _ _ u hu)
        · trivial
      | rel ks rs pre post ne =>
        simp only
        split
        · exact fun _ r u hu => .inl (gives_ids _ _ _ u hu)
        · trivial
end

theorem opIndex_touch {cx : Cx} {h : List HObj} {tgt n : Nat} {t : TypeId} {v i : EV} : (opIndex cx t v i).All (Touch h tgt n) := by
  unfold opIndex; repeat' split
  all_goals first | trivial | exact fun _ => Touch.nil

theorem opClo_touch {cx : Cx} {h h' : List HObj} {tgt : Nat} {x : EV} {args : List EV} : (opClo cx h' x args tgt).All (Touch h tgt 0) := by
  unfold opClo
  split
  · split
    · rename_i f hn
      have := opCall_touch (cx := cx) (h := h) (tgt := tgt) (f := f) (args := args) (h' := h')
      unfold conN0 at hn
      split at hn
      · rename_i con hcon
        rw [hcon] at this
        have e : con.n = 0 := by simpa using hn
        simp only [e] at this
        exact this
      · cases hn
    · trivial
  · trivial

theorem opBuild_touch {cx : Cx} {h h' : List HObj} {tgt n : Nat} {t : TypeId} {is : List Nat} {vs : List EV} : (opBuild cx h' t is vs).All (Touch h tgt n) := by
  unfold opBuild; (repeat' split) <;> first | trivial | exact Touch.nil

theorem aop_touch (cx : Cx) (o : Oper) (env : List EV) (h : List HObj) (tgt : Nat) : (aop cx o env h tgt).All (Touch h tgt (nAlloc cx o)) := by
  cases hop : o.op <;> simp only [aop, nAlloc, hop]
  case move => exact Touch.nil
  case assign => exact Touch.nil
  case pick => exact opPick_touch
  case alloc => exact opAlloc_touch
  case box => exact opBox_touch
  case build => exact opBuild_touch
  case buildSlice => exact opBuildSlice_touch
  case load => exact opLoad_touch
  case store => exact opStore_touch
  case nilCheck => exact opNil_touch
  case binOp => exact opBin_touch
  case unOp => exact opUn_touch
  case convert => exact opConv_touch
  case makeSlice => exact opMakeSlice_touch
  case slice =>
    split
    · trivial
    · exact opSlice_touch
  case fieldAddr => exact opFieldAddr_touch
  case indexAddr => exact opIndexAddr_touch
  case extract => exact opExtract_touch
  case index => exact opIndex_touch
  case call c =>
    cases hc : c.callee with
    | builtin b =>
      simp only
      cases b <;> simp only [opBuiltin] <;> (repeat' split) <;> first | trivial | exact opLen_touch | exact opAppend_touch | exact opMM_touch | simp_all
    | value f =>
      cases f with
      | func f => exact opCall_touch
      | _ => exact opClo_touch
    | invoke => trivial
  all_goals trivial

end Go.Lift

/- Every abstract operation is sound; regions in the order of the text. Own work. -/
set_option linter.unusedVariables false
set_option linter.unusedSimpArgs false
set_option linter.unusedSectionVars false
namespace Go.Lift

/-- A call of a function by its number: carried out at once, or entered and left. -/
def CallSpec (P : Program) (f : FuncId) (args : Array Value) (w : World) (R : Value → World → Prop) : Prop :=
  (∃ v w', (callFunc f args).run P w = .ok (.value v) w' ∧ R v w') ∨
  ((callFunc f args).run P w = .ok (.enter f args) w ∧ Calls P f args w fun e w' => ∃ v, e = .returned v ∧ R v w')

/-- The variables that a contract speaks of hold what is said of them. -/
def GW (G : Globs) (w : World) : Prop := ∀ (g : Nat) (k : K) (x : k.T), G g = some ⟨k, x⟩ → (K.ptr k).rep w (fun b => b < w.heap.size) (some x) [.pointer (some ⟨g, 0, none⟩)]

def Con.holds (P : Program) (G : Globs) (f : FuncId) : Con → Prop
  | .det ks rs pre g => ∀ (w : World) (x : KS ks) (vs : List Value), ArgsRep w (fun b => b < w.heap.size) ks x vs → GW G w → pre x → CallSpec P f vs.toArray w fun v w' => Grows w w' ∧ ResRep w w' rs (g x) v
  | .rel ks rs pre post _ => ∀ (w : World) (x : KS ks) (vs : List Value), ArgsRep w (fun b => b < w.heap.size) ks x vs → GW G w → pre x → CallSpec P f vs.toArray w fun v w' => ∃ r, post x r ∧ Grows w w' ∧ ResRep w w' rs r v

def CxOk (P : Program) (cx : Cx) : Prop := (∀ t d, cx.tab t = some d → d.Fits P t) ∧ ∀ f con, cx.con f = some con → con.holds P cx.glob f

theorem GOk.world {G : Globs} {c : RC} (h : GOk G c) : GW G c.w := fun g k x hg => K.rep_mono (fun b hb => RC.ok_all b hb) (K.ptr k) _ _ (h g k x hg)

theorem evals_rel {cx : Cx} {c : RC} {env : List EV} {a : Act} (hg : GOk cx.glob c) (he : EnvRel c env a.tmps) : ∀ xs : List Operand, All2 (EV.rel c) (xs.map (cx.eval env)) (xs.map a.eval)
  | [] => .nil
  | x :: xs => .cons (eval_rel hg he x) (evals_rel hg he xs)

theorem xvs_rel {c : RC} : ∀ {es : List EV} {vs : List XV} {us : List Value}, xvs es = some vs → All2 (EV.rel c) es us → All2 (XV.rel c) vs us
  | [], vs, us, h, ha => by cases ha; cases h; exact .nil
  | .x v :: es, vs, us, h, ha => by
    simp only [xvs] at h
    split at h
    · rename_i vs' hv
      cases h
      cases ha with
      | cons h1 h2 => exact .cons h1 (xvs_rel hv h2)
    · cases h
  | .tup _ :: _, _, _, h, _ => by cases h

theorem Yields.runs {P : Program} {o : Oper} {a : Act} {c : RC} {k : EV → List (Nat × HObj) → Prop} {s : Sem Value} (he : execOp a.eval o = (do return .value (← s))) (h : Runs P c s k) : Yields P o a c.w (Done c k) := by
  obtain ⟨v, w', h1, h2⟩ := h
  exact Yields.sem he h1 h2

theorem Yields.runsU {P : Program} {o : Oper} {a : Act} {c : RC} {k : EV → List (Nat × HObj) → Prop} {s : Sem Unit} (he : execOp a.eval o = (do s; return .skip)) (h : RunsU P c s k) : Yields P o a c.w (Done c k) := by
  obtain ⟨w', h1, h2⟩ := h
  exact Yields.semU he h1 h2

section
variable {P : Program} {cx : Cx} (hx : CxOk P cx) {c : RC} (hi : c.Inv) {env : List EV} {a : Act} (hg : GOk cx.glob c) (he : EnvRel c env a.tmps) {k : EV → List (Nat × HObj) → Prop}
include hx hi hg he

theorem call_yields {o : Oper} {cl : Call} {f : FuncId} (ho : o.op = .call cl) (hf : cl.callee = .value (.func f)) {R : Value → World → Prop}
    (h : CallSpec P f (cl.args.map a.eval) c.w R) : Yields P o a c.w R := by
  have hrun : (execOp a.eval o).run P c.w = (callFunc f (cl.args.map a.eval)).run P c.w := by
    simp [execOp, ho, resolve, hf, Act.eval, Deferred.ofValue, invoke]
  intro next Q hn
  unfold Oper.wp
  rw [hrun]
  rcases h with ⟨v, w', h1, h2⟩ | ⟨h1, h2⟩
  · rw [h1]; exact hn v w' h2
  · rw [h1]
    refine h2.mono fun e w' ⟨v, e1, h3⟩ => ?_
    subst e1
    exact hn v w' h3

theorem adopt_done {w' : World} (hgr : Grows c.w w') {rs : List RK} {r : RS rs} {v : Value} (hr : ResRep c.w w' rs r v) {t : Nat} (hp : ∀ i, i < RKn rs → c.heap[t + i]? = some .pend) (hk : k (EV.of (gives t rs r).1) (gives t rs r).2) : Done c k v w' := by
  obtain ⟨c', h1, h2, h3, h4, h5⟩ := adopt hi hgr hr hp
  exact ⟨_, _, c', hk, h1, h2, h3, h4, h5⟩

theorem opCall_yields {o : Oper} {cl : Call} {f : FuncId} {tgt : Nat} (ho : o.op = .call cl) (hf : cl.callee = .value (.func f)) (hp : ∀ i, i < (match cx.con f with | some con => con.n | none => 0) → c.heap[tgt + i]? = some .pend)
    (h : (opCall cx c.heap f (cl.args.toList.map (cx.eval env)) tgt).wp k) : Yields P o a c.w (Done c k) := by
  unfold opCall at h
  cases hc : cx.con f with
  | none => rw [hc] at h; exact h.elim
  | some con =>
    have hcon := hx.2 f con hc
    rw [hc] at h hp
    cases hv : xvs (cl.args.toList.map (cx.eval env)) with
    | none => rw [hv] at h; cases con <;> exact h.elim
    | some vs =>
      rw [hv] at h
      have hall := xvs_rel hv (evals_rel hg he cl.args.toList)
      have hargs : (cl.args.toList.map a.eval).toArray = cl.args.map a.eval := by apply Array.ext'; simp
      cases con with
      | det ks rs pre g =>
        simp only at h
        split at h
        · rename_i x hxx
          obtain ⟨hpre, h⟩ := h
          have hr := takes_rep hi ks vs x _ hxx hall
          have := hcon c.w x _ hr (GOk.world hg) hpre
          rw [hargs] at this
          refine call_yields hx hi hg he ho hf ?_
          rcases this with ⟨v, w', h1, h2, h3⟩ | ⟨h1, h2⟩
          · exact .inl ⟨v, w', h1, adopt_done hx hi hg he h2 h3 hp h⟩
          · exact .inr ⟨h1, h2.mono fun e w' ⟨v, e1, g1, g2⟩ => ⟨v, e1, adopt_done hx hi hg he g1 g2 hp h⟩⟩
        · exact h.elim
      | rel ks rs pre post ne =>
        simp only at h
        split at h
        · rename_i x hxx
          obtain ⟨hpre, h⟩ := h
          have hr := takes_rep hi ks vs x _ hxx hall
          have := hcon c.w x _ hr (GOk.world hg) hpre
          rw [hargs] at this
          refine call_yields hx hi hg he ho hf ?_
          rcases this with ⟨v, w', h1, r, h0, h2, h3⟩ | ⟨h1, h2⟩
          · exact .inl ⟨v, w', h1, adopt_done hx hi hg he h2 h3 hp (h r h0)⟩
          · exact .inr ⟨h1, h2.mono fun e w' ⟨v, e1, r, g0, g1, g2⟩ => ⟨v, e1, adopt_done hx hi hg he g1 g2 hp (h r g0)⟩⟩
        · exact h.elim

theorem call_yields' {o : Oper} {cl : Call} {x : Operand} {f : FuncId} (ho : o.op = .call cl) (hf : cl.callee = .value x) (hxv : a.eval x = .func (.func f) #[] #[]) {R : Value → World → Prop}
    (h : CallSpec P f (cl.args.map a.eval) c.w R) : Yields P o a c.w R := by
  have hrun : (execOp a.eval o).run P c.w = (callFunc f (cl.args.map a.eval)).run P c.w := by
    simp [execOp, ho, resolve, hf, hxv, Deferred.ofValue, invoke]
  intro next Q hn
  unfold Oper.wp
  rw [hrun]
  rcases h with ⟨v, w', h1, h2⟩ | ⟨h1, h2⟩
  · rw [h1]; exact hn v w' h2
  · rw [h1]
    refine h2.mono fun e w' ⟨v, e1, h3⟩ => ?_
    subst e1
    exact hn v w' h3

theorem opCall_yields' {o : Oper} {cl : Call} {x : Operand} {f : FuncId} {tgt : Nat} (ho : o.op = .call cl) (hf : cl.callee = .value x) (hxv : a.eval x = .func (.func f) #[] #[]) (hp : ∀ i, i < (match cx.con f with | some con => con.n | none => 0) → c.heap[tgt + i]? = some .pend)
    (h : (opCall cx c.heap f (cl.args.toList.map (cx.eval env)) tgt).wp k) : Yields P o a c.w (Done c k) := by
  unfold opCall at h
  cases hc : cx.con f with
  | none => rw [hc] at h; exact h.elim
  | some con =>
    have hcon := hx.2 f con hc
    rw [hc] at h hp
    cases hv : xvs (cl.args.toList.map (cx.eval env)) with
    | none => rw [hv] at h; cases con <;> exact h.elim
    | some vs =>
      rw [hv] at h
      have hall := xvs_rel hv (evals_rel hg he cl.args.toList)
      have hargs : (cl.args.toList.map a.eval).toArray = cl.args.map a.eval := by apply Array.ext'; simp
      cases con with
      | det ks rs pre g =>
        simp only at h
        split at h
        · rename_i x hxx
          obtain ⟨hpre, h⟩ := h
          have hr := takes_rep hi ks vs x _ hxx hall
          have := hcon c.w x _ hr (GOk.world hg) hpre
          rw [hargs] at this
          refine call_yields' hx hi hg he ho hf hxv ?_
          rcases this with ⟨v, w', h1, h2, h3⟩ | ⟨h1, h2⟩
          · exact .inl ⟨v, w', h1, adopt_done hx hi hg he h2 h3 hp h⟩
          · exact .inr ⟨h1, h2.mono fun e w' ⟨v, e1, g1, g2⟩ => ⟨v, e1, adopt_done hx hi hg he g1 g2 hp h⟩⟩
        · exact h.elim
      | rel ks rs pre post ne =>
        simp only at h
        split at h
        · rename_i x hxx
          obtain ⟨hpre, h⟩ := h
          have hr := takes_rep hi ks vs x _ hxx hall
          have := hcon c.w x _ hr (GOk.world hg) hpre
          rw [hargs] at this
          refine call_yields' hx hi hg he ho hf hxv ?_
          rcases this with ⟨v, w', h1, r, h0, h2, h3⟩ | ⟨h1, h2⟩
          · exact .inl ⟨v, w', h1, adopt_done hx hi hg he h2 h3 hp (h r h0)⟩
          · exact .inr ⟨h1, h2.mono fun e w' ⟨v, e1, r, g0, g1, g2⟩ => ⟨v, e1, adopt_done hx hi hg he g1 g2 hp (h r g0)⟩⟩
        · exact h.elim

theorem aop_sound (o : Oper) (tgt : Nat) (hp : ∀ i, i < nAlloc cx o → c.heap[tgt + i]? = some .pend) (h : (aop cx o env c.heap tgt).wp k) : Yields P o a c.w (Done c k) := by
  have ev := eval_rel hg he
  have hT := hx.1
  cases hop : o.op <;> simp only [aop, nAlloc, hop] at h hp
  case move x => exact Yields.val (v := a.eval x) (w' := c.w) (by simp [execOp, hop]) (Done.pure hi h (ev x))
  case assign x => exact Yields.val (v := a.eval x) (w' := c.w) (by simp [execOp, hop]) (Done.pure hi h (ev x))
  case pick b x y =>
    unfold opPick at h
    split at h
    · rename_i t ht
      have hb : a.eval b = .bool t := by have := ev b; rw [ht] at this; exact this
      cases t with
      | true => exact Yields.val (v := a.eval x) (w' := c.w) (by simp [execOp, hop, hb, asBool]) (Done.pure hi (show k _ [] from Br.t h rfl) (ev x))
      | false => exact Yields.val (v := a.eval y) (w' := c.w) (by simp [execOp, hop, hb, asBool]) (Done.pure hi (show k _ [] from Br.f h rfl) (ev y))
    · exact h.elim
  case alloc t => exact Yields.runs (s := Instr.alloc t true (.tuple #[])) (by simp [execOp, hop]) (opAlloc_run hT hi (by simpa using hp 0 (by omega)) h)
  case box t x => exact Yields.runs (s := Instr.box t (a.eval x)) (by simp [execOp, hop]) (opBox_run hT hi (by simpa using hp 0 (by omega)) h (ev x))
  case build t ps =>
    refine Yields.runs (s := Instr.build t (ps.map fun x => (x.1, a.eval x.2))) (by simp [execOp, hop]) (opBuild_run hT hi (vs := ps.toList.map fun p => cx.eval env p.2) ?_ ?_)
    · have : (ps.map fun x => (x.1, a.eval x.2)).toList.map (·.1) = ps.toList.map (·.1) := by simp
      rw [this]; exact h
    · have e1 : (ps.map fun x => (x.1, a.eval x.2)).toList.map (·.2) = (ps.toList.map (·.2)).map a.eval := by simp
      have e2 : (ps.toList.map fun p => cx.eval env p.2) = (ps.toList.map (·.2)).map (cx.eval env) := by simp
      rw [e1, e2]; exact evals_rel hg he _
  case buildSlice t n ps =>
    refine Yields.runs (s := Instr.buildSlice t n (ps.map fun x => (x.1, a.eval x.2))) (by simp [execOp, hop]) (opBuildSlice_run hT hi (by simpa using hp 0 (by omega)) (vs := ps.toList.map fun p => cx.eval env p.2) ?_ ?_)
    · have : (ps.map fun x => (x.1, a.eval x.2)).toList.map (·.1) = ps.toList.map (·.1) := by simp
      rw [this]; exact h
    · have e1 : (ps.map fun x => (x.1, a.eval x.2)).toList.map (·.2) = (ps.toList.map (·.2)).map a.eval := by simp
      have e2 : (ps.toList.map fun p => cx.eval env p.2) = (ps.toList.map (·.2)).map (cx.eval env) := by simp
      rw [e1, e2]; exact evals_rel hg he _
  case load t x => exact Yields.runs (s := Instr.loadAt t (a.eval x)) (by simp [execOp, hop]) (opLoad_run hT hi h (ev x))
  case store t x v => exact Yields.runsU (s := Instr.storeAt t (a.eval x) (a.eval v)) (by simp [execOp, hop]) (opStore_run hT hi h (ev x) (ev v))
  case nilCheck x =>
    obtain ⟨⟨p, hp1⟩, h2⟩ := opNil_rel hT hi h (ev x)
    exact Yields.val (v := a.eval x) (w' := c.w) (by simp [execOp, hop, hp1]) (Done.pure hi h2 (ev x))
  case binOp op t x y _ => exact Yields.runs (s := do eqGuard op t x y (a.eval x) (a.eval y); binOp op t (a.eval x) (a.eval y)) (by simp [execOp, hop]) (opBin_run hT hi h (ev x) (ev y) x y)
  case unOp op t x => exact Yields.runs (s := Op.unary op (a.eval x)) (by simp [execOp, hop]) (opUn_run hT hi h (ev x))
  case convert s d x => exact Yields.runs (s := convert s d (a.eval x)) (by simp [execOp, hop]) (opConv_run hT hi h (ev x))
  case makeSlice t l m => exact Yields.runs (s := Instr.makeSlice t (a.eval l) (a.eval m)) (by simp [execOp, hop]) (opMakeSlice_run hT hi (by simpa using hp 0 (by omega)) h (ev l) (ev m))
  case slice t x lo hi' mx =>
    refine Yields.runs (s := Instr.sliceAt t (a.eval x) (lo.map a.eval) (hi'.map a.eval) (mx.map a.eval)) (by simp [execOp, hop]) ?_
    split at h
    · exact h.elim
    · rename_i hne
      refine opSlice_run hT hi h (ev x) (by cases lo <;> rfl) (by cases hi' <;> rfl) (by cases mx <;> rfl) ?_ ?_ ?_ ?_
      · intro e v h1 h2; cases lo with
        | none => cases h1
        | some z => cases h1; cases h2; exact ev z
      · intro e v h1 h2; cases hi' with
        | none => cases h1
        | some z => cases h1; cases h2; exact ev z
      · intro e v h1 h2; cases mx with
        | none => cases h1
        | some z => cases h1; cases h2; exact ev z
      · intro hm
        cases mx with
        | none => cases hm
        | some z => cases hi' with
          | none => exact absurd rfl (hne z rfl)
          | some y => rfl
  case fieldAddr t x f => exact Yields.runs (s := Instr.fieldAt t (a.eval x) f) (by simp [execOp, hop]) (opFieldAddr_run hT hi h (ev x))
  case indexAddr t x i => exact Yields.runs (s := Instr.indexAt t (a.eval x) (a.eval i)) (by simp [execOp, hop]) (opIndexAddr_run hT hi h (ev x) (ev i))
  case index t x i => exact Yields.runs (s := Instr.index t (a.eval x) (a.eval i)) (by simp [execOp, hop]) (opIndex_run hT hi h (ev x) (ev i))
  case extract x i => exact Yields.runs (s := Instr.extract (a.eval x) i) (by simp [execOp, hop]) (opExtract_run hT hi h (ev x))
  case call cl =>
    have hall := evals_rel hg he cl.args.toList
    have hargs : cl.args.toList.map a.eval = (cl.args.map a.eval).toList := by simp
    cases hc : cl.callee with
    | builtin b =>
      rw [hc] at h hp
      simp only at h hp
      have run : ∀ (s : Sem Value), builtin b cl.argTypes o.type (cl.args.map fun | .const _ => true | _ => false) (cl.args.map a.eval) = (do return .value (← s)) → execOp a.eval o = (do return .value (← s)) := by
        intro s hs
        rw [← hs]
        simp only [execOp, hop, resolve, hc, pure_bind, invoke]
        congr 1
      unfold opBuiltin at h
      split at h
      · rename_i t x e1 e2
        have et : cl.argTypes = #[t] := by apply Array.ext'; simpa using e1
        rw [e2, hargs] at hall
        cases hu : (cl.args.map a.eval).toList with
        | nil => rw [hu] at hall; cases hall
        | cons u us =>
          rw [hu] at hall
          cases hall with
          | cons h1 h2 =>
            cases h2
            have ea : cl.args.map a.eval = #[u] := by apply Array.ext'; simpa using hu
            exact Yields.runs (run (Builtin.len_ #[t] o.type #[u]) (by rw [et, ea]; rfl)) (opLen_run hT hi h h1)
      · rename_i t t' x y e1 e2
        split at h
        · rename_i ett
          subst ett
          have et : cl.argTypes = #[t, t] := by apply Array.ext'; simpa using e1
          rw [e2, hargs] at hall
          cases hu : (cl.args.map a.eval).toList with
          | nil => rw [hu] at hall; cases hall
          | cons u us =>
            rw [hu] at hall
            cases hall with
            | cons h1 h2 =>
              cases us with
              | nil => cases h2
              | cons u2 us2 =>
                cases h2 with
                | cons h3 h4 =>
                  cases h4
                  have ea : cl.args.map a.eval = #[u, u2] := by apply Array.ext'; simpa using hu
                  exact Yields.runs (run (Builtin.append_ #[t, t] o.type #[u, u2]) (by rw [et, ea]; rfl)) (opAppend_run hT hi (by simpa using hp 0 (by decide)) h h1 h3)
        · exact h.elim
      · exact Yields.runs (run (Builtin.max_ cl.argTypes o.type (cl.args.map a.eval)) rfl) (opMax_run hT hi h (by rw [← hargs]; exact hall))
      · exact Yields.runs (run (Builtin.min_ cl.argTypes o.type (cl.args.map a.eval)) rfl) (opMin_run hT hi h (by rw [← hargs]; exact hall))
      · exact h.elim
    | value f =>
      rw [hc] at h hp
      have clo : ∀ x, f = x → (opClo cx c.heap (cx.eval env x) (cl.args.toList.map (cx.eval env)) tgt).wp k → Yields P o a c.w (Done c k) := by
        rintro x rfl hh
        unfold opClo at hh
        split at hh
        · rename_i f' he'
          split at hh
          · rename_i hn0
            have hv := ev f
            rw [he'] at hv
            obtain ⟨fs, ws, hv1, r1, r2⟩ := hv
            have ef : fs = #[] := by cases h0 : fs.toList with
              | nil => apply Array.ext'; simpa using h0
              | cons _ _ => rw [h0] at r1; cases r1
            have ew : ws = #[] := by cases h0 : ws.toList with
              | nil => apply Array.ext'; simpa using h0
              | cons _ _ => rw [h0] at r2; cases r2
            subst ef; subst ew
            exact opCall_yields' hx hi hg he hop hc hv1 (fun i hi' => by
              unfold conN0 at hn0
              split at hn0
              · rename_i con hcon
                rw [hcon] at hi'
                have : con.n = 0 := by simpa using hn0
                simp only at hi'; omega
              · cases hn0) hh
          · exact hh.elim
        · exact hh.elim
      cases f with
      | func f => exact opCall_yields hx hi hg he hop hc hp h
      | tmp t => exact clo _ rfl h
      | const v => exact clo _ rfl h
      | global g => exact clo _ rfl h
    | invoke => rw [hc] at h; exact h.elim
  all_goals exact h.elim
end

/-! ### Regions in the order of the text -/

structure St where
  env : List EV
  heap : List HObj

def putE (env : List EV) (d : Option Tmp) (v : EV) : List EV := match d with
  | some t => env.set t v
  | none => env

/-- Nothing has turned but the slots D. -/
structure Kp (D : List Nat) (a a' : Act) : Prop where
  defers : a'.defers = a.defers
  size : a'.tmps.size = a.tmps.size
  get : ∀ t, t ∉ D → a'.tmps[t]? = a.tmps[t]?

theorem Kp.refl {D : List Nat} {a : Act} : Kp D a a := ⟨rfl, rfl, fun _ _ => rfl⟩
theorem Kp.trans {D : List Nat} {a b c : Act} (h : Kp D b c) (h' : Kp D a b) : Kp D a c := ⟨h.defers.trans h'.defers, h.size.trans h'.size, fun t ht => (h.get t ht).trans (h'.get t ht)⟩
theorem Kp.put {D : List Nat} {a : Act} {d : Option Tmp} {v : Value} (hd : ∀ t, d = some t → t ∈ D) : Kp D a (a.put d v) := by
  cases d with
  | none => exact Kp.refl
  | some d =>
    refine ⟨rfl, by simp [Act.put], fun t ht => ?_⟩
    simp only [Act.put, Array.getElem?_setIfInBounds]
    rw [if_neg (fun (e : d = t) => ht (e ▸ hd d rfl))]

/-- The slot of a guard, and what it holds. -/
def guardOf (ops : Array Oper) (env : List EV) (j : Nat) : Option (Tmp × Bool) := match (ops[j]?).bind (·.dst) with
  | some d => match env[d]? with
    | some (.x (.one (.val (.bool b)))) => some (d, b)
    | _ => none
  | none => none

def isUndef : Value → Bool
  | .tuple vs => vs.toList.isEmpty
  | _ => false
theorem isUndef_eq {v : Value} (h : isUndef v = true) : v = undef := by
  unfold isUndef at h
  split at h
  · rename_i vs
    obtain ⟨l⟩ := vs
    cases l with
    | nil => rfl
    | cons x l => simp at h
  · cases h
/-- What stands in the slot of an operation that was passed over. -/
def EV.skip : EV := .val undef
/-- Was the guard itself passed over? -/
def gone (ops : Array Oper) (env : List EV) (j : Nat) : Bool := match (ops[j]?).bind (·.dst) with
  | some d => match env[d]? with
    | some (.x (.one (.val v))) => isUndef v
    | _ => false
  | none => false

/-- A call that is walked in place. -/
abbrev CallEv := FuncId → List EV → List HObj → (EV → List HObj → Prop) → Prop

def inlOf (cx : Cx) (inl : FuncId → Bool) (env : List EV) (o : Oper) : Option (FuncId × List EV) := match o.op with
  | .call cl => match cl.callee with
    | .value x => match cx.eval env x with
      | .x (.one (.clo f first caps)) => if inl f then some (f, first.map LV.ev ++ (cl.args.toList.map (cx.eval env) ++ caps.map LV.ev)) else none
      | _ => none
    | _ => none
  | _ => none

def pendKept : List HObj → List HObj → Bool
  | [], _ => true
  | .pend :: h, .pend :: h' => pendKept h h'
  | .pend :: _, _ => false
  | .dead :: h, _ :: h' => pendKept h h'
  | .box .. :: h, _ :: h' => pendKept h h'
  | .row .. :: h, _ :: h' => pendKept h h'
  | _ :: _, [] => false

/-- A truth gets a name of its own. -/
def Res.name : Res → Res
  | .ret (.x (.one (.val (.bool b)))) us => .all Bool (fun t => t = b) ⟨b, rfl⟩ fun t => .ret (.x (.one (.val (.bool t)))) us
  | .ask p f => .ask p fun h => (f h).name
  | .all α p ne f => .all α p ne fun a => (f a).name
  | r => r
theorem Res.name_wp {k : EV → List (Nat × HObj) → Prop} : ∀ {r : Res}, r.name.wp k → r.wp k
  | .fail, h => h
  | .br _ _ _, h => h
  | .ask p f, ⟨q, h⟩ => ⟨q, Res.name_wp (r := f q) h⟩
  | .all _ _ _ f, h => fun a ha => Res.name_wp (r := f a) (h a ha)
  | .ret ev us, h => by
    unfold Res.name at h
    split at h
    · rename_i e; cases e; exact h _ rfl
    · rename_i e; cases e
    · rename_i e; cases e
    · exact h

/-- Comparisons, and calls. -/
def nameable (o : Oper) : Bool := match o.op with
  | .binOp .. | .call _ => true
  | _ => false
def aopN (nm : Bool) (cx : Cx) (o : Oper) (env : List EV) (h : List HObj) (tgt : Nat) : Res := match nm, nameable o with
  | true, true => (aop cx o env h tgt).name
  | _, _ => aop cx o env h tgt
theorem aopN_wp {nm : Bool} {cx : Cx} {o : Oper} {env : List EV} {h : List HObj} {tgt : Nat} {k : EV → List (Nat × HObj) → Prop} (hk : (aopN nm cx o env h tgt).wp k) : (aop cx o env h tgt).wp k := by
  unfold aopN at hk
  split at hk
  · exact Res.name_wp hk
  · exact hk

structure Wk where
  inl : FuncId → Bool
  named : Bool

def stepOp (cx : Cx) (wk : Wk) (call : CallEv) (o : Oper) (env : List EV) (h : List HObj) (tgt : Nat) (k : EV → List HObj → Prop) : Prop := match inlOf cx wk.inl env o with
  | some fa => call fa.1 fa.2 h fun v h' => if pendKept h h' then k v h' else False
  | none => (aopN wk.named cx o env h tgt).wp fun ev us => k ev (applyU h us)

def runOps (cx : Cx) (wk : Wk) (call : CallEv) (ops : Array Oper) : List Oper → List EV → List HObj → Nat → (List EV → List HObj → Prop) → Prop
  | [], env, h, _, k => k env h
  | o :: l, env, h, tgt, k => match o.guard with
    | none => stepOp cx wk call o env h tgt fun ev h' => runOps cx wk call ops l (putE env o.dst ev) h' (tgt + nAlloc cx o) k
    | some (j, want) => match guardOf ops env j with
      | none => if gone ops env j then runOps cx wk call ops l (putE env o.dst .skip) h (tgt + nAlloc cx o) k else False
      | some (d, b) => Br b
        (if want then stepOp cx wk call o (env.set d (.val (.bool true))) h tgt fun ev h' => runOps cx wk call ops l (putE (env.set d (.val (.bool true))) o.dst ev) h' (tgt + nAlloc cx o) k
         else runOps cx wk call ops l (putE (env.set d (.val (.bool true))) o.dst .skip) h (tgt + nAlloc cx o) k)
        (if want then runOps cx wk call ops l (putE (env.set d (.val (.bool false))) o.dst .skip) h (tgt + nAlloc cx o) k
         else stepOp cx wk call o (env.set d (.val (.bool false))) h tgt fun ev h' => runOps cx wk call ops l (putE (env.set d (.val (.bool false))) o.dst ev) h' (tgt + nAlloc cx o) k)

def allocs (cx : Cx) (l : List Oper) : Nat := (l.map (nAlloc cx)).sum

theorem EnvRel.put {c : RC} {env : List EV} {a : Act} (h : EnvRel c env a.tmps) (d : Option Tmp) {ev : EV} {v : Value} (r : ev.rel c v) : EnvRel c (putE env d ev) (a.put d v).tmps := by
  cases d with
  | none => exact h
  | some t =>
    refine ⟨by simp [putE, Act.put, h.1], fun i e hi => ?_⟩
    simp only [putE] at hi
    simp only [Act.put, Array.getElem?_setIfInBounds]
    rcases set_get hi with ⟨rfl, rfl, hl⟩ | ⟨hne, hi⟩
    · rw [if_pos rfl, if_pos (by rw [← h.1]; exact hl)]; exact ⟨v, rfl, r⟩
    · rw [if_neg hne]; exact h.2 i e hi

theorem EnvRel.refine {c : RC} {env : List EV} {tmps : Array Value} (h : EnvRel c env tmps) {d : Nat} {ev ev' : EV} (hd : env[d]? = some ev) (hr : ∀ v, ev.rel c v → ev'.rel c v) : EnvRel c (env.set d ev') tmps := by
  refine ⟨by simp [h.1], fun i e hi => ?_⟩
  rcases set_get hi with ⟨rfl, rfl, _⟩ | ⟨_, hi⟩
  · obtain ⟨v, h1, h2⟩ := h.2 _ _ hd; exact ⟨v, h1, hr v h2⟩
  · exact h.2 i e hi

theorem guardOf_some {c : RC} {ops : Array Oper} {env : List EV} {a : Act} {j : Nat} {d : Tmp} {b : Bool} (he : EnvRel c env a.tmps) (h : guardOf ops env j = some (d, b)) :
    env[d]? = some (.val (.bool b)) ∧ yielded ops a.tmps j = some b := by
  unfold guardOf at h
  split at h
  · rename_i d' hd
    split at h
    · rename_i b' hb
      cases h
      refine ⟨hb, ?_⟩
      obtain ⟨v, h1, h2⟩ := he.2 _ _ hb
      obtain rfl : v = .bool b := h2
      unfold yielded
      rw [hd]
      simp [h1]
    · cases h
  · cases h

theorem gone_spec {c : RC} {ops : Array Oper} {env : List EV} {a : Act} {j : Nat} (he : EnvRel c env a.tmps) (h : gone ops env j = true) : yielded ops a.tmps j = none := by
  unfold gone at h
  split at h
  · rename_i d hd
    split at h
    · rename_i v hv
      obtain ⟨u, h1, h2⟩ := he.2 _ _ hv
      obtain rfl : u = undef := by rw [show u = v from h2]; exact isUndef_eq h
      unfold yielded
      rw [hd]
      simp [h1, undef]
    · cases h
  · cases h

theorem pendKept_spec : ∀ {h h' : List HObj}, pendKept h h' = true → ∀ i : Nat, h[i]? = some HObj.pend → h'[i]? = some HObj.pend
  | [], _, _, i, hi => by simp at hi
  | .pend :: h, .pend :: h', hk, i, hi => by
    cases i with
    | zero => rfl
    | succ i => exact pendKept_spec (h := h) (h' := h') hk i (by simpa using hi)
  | .dead :: h, _ :: h', hk, i, hi => by
    cases i with
    | zero => simp at hi
    | succ i => exact pendKept_spec (h := h) (h' := h') hk i (by simpa using hi)
  | .box .. :: h, _ :: h', hk, i, hi => by
    cases i with
    | zero => simp at hi
    | succ i => exact pendKept_spec (h := h) (h' := h') hk i (by simpa using hi)
  | .row .. :: h, _ :: h', hk, i, hi => by
    cases i with
    | zero => simp at hi
    | succ i => exact pendKept_spec (h := h) (h' := h') hk i (by simpa using hi)
  | .pend :: _, .dead :: _, hk, _, _ => by cases hk
  | .pend :: _, .box .. :: _, hk, _, _ => by cases hk
  | .pend :: _, .row .. :: _, hk, _, _ => by cases hk
  | .pend :: _, [], hk, _, _ => by cases hk
  | .dead :: _, [], hk, _, _ => by cases hk
  | .box .. :: _, [], hk, _, _ => by cases hk
  | .row .. :: _, [], hk, _, _ => by cases hk

theorem LV.ev_rel {c : RC} : ∀ {s : LV} {u : Value}, s.rel c u → s.ev.rel c u
  | .val _, _, r => r
  | .ref _ _, _, r => r
  | .data _ _, _, r => r
theorem LV.evs_rel {c : RC} {l : List LV} {us : List Value} (h : All2 (LV.rel c) l us) : All2 (EV.rel c) (l.map LV.ev) us := by
  induction h with
  | nil => exact .nil
  | cons h1 _ ih => exact .cons (LV.ev_rel h1) ih

/-- What is asked of calls that are walked in place. -/
def CallOk (P : Program) (cx : Cx) (call : CallEv) : Prop := ∀ (c : RC) (_ : c.Inv) (_ : GOk cx.glob c) {f : FuncId} {args : List EV} {vs : List Value} {k : EV → List HObj → Prop}, All2 (EV.rel c) args vs → call f args c.heap k →
  CallSpec P f vs.toArray c.w fun v w' => ∃ ev c', k ev c'.heap ∧ c'.w = w' ∧ Ext c c' ∧ c'.Inv ∧ ev.rel c' v

def noCall : CallEv := fun _ _ _ _ => False
theorem noCall_ok {P : Program} {cx : Cx} : CallOk P cx noCall := fun _ _ _ _ _ _ _ _ h => h.elim

theorem inlOf_some {cx : Cx} {inl : FuncId → Bool} {env : List EV} {o : Oper} {fa : FuncId × List EV} (h : inlOf cx inl env o = some fa) : ∃ cl x f first caps, o.op = .call cl ∧ cl.callee = .value x ∧ cx.eval env x = .x (.one (.clo f first caps)) ∧
    fa = (f, first.map LV.ev ++ (cl.args.toList.map (cx.eval env) ++ caps.map LV.ev)) := by
  unfold inlOf at h
  split at h
  · rename_i cl ho
    split at h
    · rename_i x hx
      split at h
      · rename_i f first caps he
        split at h
        · cases h; exact ⟨cl, x, f, first, caps, ho, hx, he, rfl⟩
        · cases h
      · cases h
    · cases h
  · cases h

theorem inl_yields {P : Program} {cx : Cx} {call : CallEv} (hcall : CallOk P cx call) {c : RC} (hi : c.Inv) (hg : GOk cx.glob c) {env : List EV} {a : Act} (he : EnvRel c env a.tmps) {inl : FuncId → Bool} {o : Oper} {fa : FuncId × List EV} (h : inlOf cx inl env o = some fa)
    {k : EV → List HObj → Prop} (hk : call fa.1 fa.2 c.heap k) : Yields P o a c.w fun v w' => ∃ ev c', k ev c'.heap ∧ c'.w = w' ∧ Ext c c' ∧ c'.Inv ∧ ev.rel c' v := by
  obtain ⟨cl, x, f, first, caps, ho, hx, hev, rfl⟩ := inlOf_some h
  have hr := eval_rel hg he x
  rw [hev] at hr
  obtain ⟨fs, ws, hv, r1, r2⟩ := hr
  have hall : All2 (EV.rel c) (first.map LV.ev ++ (cl.args.toList.map (cx.eval env) ++ caps.map LV.ev)) (fs.toList ++ (cl.args.toList.map a.eval ++ ws.toList)) :=
    All2.append (LV.evs_rel r1) (All2.append (evals_rel hg he cl.args.toList) (LV.evs_rel r2))
  have hs := hcall c hi hg hall hk
  have hargs : (fs.toList ++ (cl.args.toList.map a.eval ++ ws.toList)).toArray = fs ++ cl.args.map a.eval ++ ws := by apply Array.ext'; simp
  rw [hargs] at hs
  have hrun : (execOp a.eval o).run P c.w = (callFunc f (fs ++ cl.args.map a.eval ++ ws)).run P c.w := by
    simp [execOp, ho, resolve, hx, hv, Deferred.ofValue, invoke]
  intro next Q hn
  unfold Oper.wp
  rw [hrun]
  rcases hs with ⟨v, w', h1, h2⟩ | ⟨h1, h2⟩
  · rw [h1]; exact hn v w' h2
  · rw [h1]
    refine h2.mono fun e w' ⟨v, e1, h3⟩ => ?_
    subst e1
    exact hn v w' h3

theorem Ext.pend_keep {c c' : RC} {us : List (Nat × HObj)} {tgt n m i : Nat} (hh : c'.heap = applyU c.heap us) (ht : Touch c.heap tgt n us) (hp : c.heap[tgt + n + i]? = some .pend) : c'.heap[tgt + n + i]? = some .pend := by
  rw [hh, applyU_ne _ _ _ (fun u hu => ?_)]
  · exact hp
  · rcases ht u hu with h | ⟨o, h1, h2⟩
    · omega
    · intro e; rw [e, hp] at h1; cases h1; exact h2 rfl

section
variable {P : Program} {cx : Cx} (hx : CxOk P cx) {wk : Wk} {call : CallEv} (hcall : CallOk P cx call)
include hx hcall

theorem runOps_sound (ops : Array Oper) {D : List Nat} : ∀ (l : List Oper) (n : Nat) (hl : ops.toList.drop n = l) (hD : ∀ o ∈ l, ∀ t, o.dst = some t → t ∈ D) {c : RC} (hi : c.Inv) {env : List EV} {a : Act} (hg : GOk cx.glob c) (he : EnvRel c env a.tmps) {tgt : Nat} {k : List EV → List HObj → Prop}
    (hp : ∀ i, i < allocs cx l → c.heap[tgt + i]? = some .pend) (h : runOps cx wk call ops l env c.heap tgt k) {Q : Exit → Act → World → Prop}
    (hq : ∀ (c' : RC) (env' : List EV) (a' : Act), k env' c'.heap → Ext c c' → c'.Inv → EnvRel c' env' a'.tmps → Kp D a a' → Q .normal a' c'.w), wpOps P ops Q (List.range' n l.length) a c.w
  | [], n, hl, hD, c, hi, env, a, hg, he, tgt, k, hp, h, Q, hq => hq c env a h (Ext.refl c) hi he Kp.refl
  | o :: l, n, hl, hD, c, hi, env, a, hg, he, tgt, k, hp, h, Q, hq => by
    have ho : ops[n]? = some o := by
      have h0 := congrArg (fun l => l[0]?) hl
      rw [List.getElem?_drop] at h0
      simpa using h0
    have hl' : ops.toList.drop (n + 1) = l := by
      have h1 := congrArg List.tail hl
      rw [List.tail_drop] at h1
      simpa using h1
    have hsum : allocs cx (o :: l) = nAlloc cx o + allocs cx l := by simp [allocs]
    simp only [List.length_cons, List.range'_succ, wpOps, ho]
    -- carry on behind this operation
    have done : ∀ (env1 : List EV), EnvRel c env1 a.tmps → stepOp cx wk call o env1 c.heap tgt (fun ev h' => runOps cx wk call ops l (putE env1 o.dst ev) h' (tgt + nAlloc cx o) k) →
        o.wp P a c.w (wpOps P ops Q (List.range' (n + 1) l.length)) Q := by
      intro env1 he1 hw
      unfold stepOp at hw
      split at hw
      · rename_i fa hfa
        refine inl_yields hcall hi hg he1 hfa hw _ Q fun v w' hd => ?_
        obtain ⟨ev, c', hk, rfl, hext, hinv, hrel⟩ := hd
        split at hk
        · rename_i hpk
          refine runOps_sound ops l (n + 1) hl' (fun o ho => hD o (List.mem_cons_of_mem _ ho)) hinv (GOk.mono hg hext) (EnvRel.put (EnvRel.mono he1 hext) o.dst hrel) (fun i hi' => ?_) hk (fun c2 env2 a2 h1 h2 h3 h4 h5 => hq c2 env2 a2 h1 (hext.trans h2) h3 h4 (h5.trans (Kp.put (hD o List.mem_cons_self))))
          exact pendKept_spec hpk _ (by have := hp (nAlloc cx o + i) (by omega); rwa [← Nat.add_assoc] at this)
        · exact hk.elim
      have hw' := Res.wp_all (aop_touch cx o env1 c.heap tgt) (aopN_wp hw)
      refine aop_sound hx hi hg he1 o tgt (fun i hi' => hp i (by omega)) hw' _ Q fun v w' hd => ?_
      obtain ⟨ev, us, c', ⟨hk, ht⟩, rfl, hh, hext, hinv, hrel⟩ := hd
      rw [← hh] at hk
      refine runOps_sound ops l (n + 1) hl' (fun o ho => hD o (List.mem_cons_of_mem _ ho)) hinv (GOk.mono hg hext) (EnvRel.put (EnvRel.mono he1 hext) o.dst hrel) (fun i hi' => ?_) hk (fun c2 env2 a2 h1 h2 h3 h4 h5 => hq c2 env2 a2 h1 (hext.trans h2) h3 h4 (h5.trans ?_))
      · exact Ext.pend_keep (m := 0) hh ht (by have := hp (nAlloc cx o + i) (by omega); rwa [← Nat.add_assoc] at this)
      · exact Kp.put (hD o List.mem_cons_self)
    have skip : ∀ (env1 : List EV), EnvRel c env1 a.tmps → runOps cx wk call ops l (putE env1 o.dst .skip) c.heap (tgt + nAlloc cx o) k → wpOps P ops Q (List.range' (n + 1) l.length) (a.put o.dst undef) c.w := by
      intro env1 he1 hw
      refine runOps_sound ops l (n + 1) hl' (fun o ho => hD o (List.mem_cons_of_mem _ ho)) hi hg (EnvRel.put he1 o.dst (ev := .skip) rfl) (fun i hi' => ?_) hw (fun c2 env2 a2 h1 h2 h3 h4 h5 => hq c2 env2 a2 h1 h2 h3 h4 (h5.trans ?_))
      · have := hp (nAlloc cx o + i) (by omega); rwa [← Nat.add_assoc] at this
      · exact Kp.put (hD o List.mem_cons_self)
    simp only [runOps] at h
    cases hgd : o.guard with
    | none =>
      rw [hgd] at h
      have : Region.wanted o (yielded ops a.tmps) = true := by simp [Region.wanted, hgd]
      rw [if_pos this]
      exact .inl (done env he h)
    | some jw =>
      obtain ⟨j, want⟩ := jw
      rw [hgd] at h
      simp only at h
      split at h
      · split at h
        · rename_i hgn
          have hw : Region.wanted o (yielded ops a.tmps) = false := by simp [Region.wanted, hgd, gone_spec he hgn]
          rw [if_neg (by rw [hw]; simp)]
          exact skip _ he h
        · exact h.elim
      · rename_i d b hgo
        obtain ⟨hd, hy⟩ := guardOf_some he hgo
        have hw : Region.wanted o (yielded ops a.tmps) = (b == want) := by simp [Region.wanted, hgd, hy]
        cases b with
        | true =>
          have he1 := EnvRel.refine he hd (ev' := .val (.bool true)) (fun v r => r)
          have h' := Br.true h rfl
          cases want with
          | true => rw [if_pos (by rw [hw]; rfl)]; exact .inl (done _ he1 h')
          | false => rw [if_neg (by rw [hw]; simp)]; exact skip _ he1 h'
        | false =>
          have he1 := EnvRel.refine he hd (ev' := .val (.bool false)) (fun v r => r)
          have h' := Br.false h rfl
          cases want with
          | true => rw [if_neg (by rw [hw]; simp)]; exact skip _ he1 h'
          | false => rw [if_pos (by rw [hw]; rfl)]; exact .inl (done _ he1 h')
end
end Go.Lift

/- Regions that draw their order: the order of the text serves. First: what an operation looks at. Own work. -/
set_option linter.unusedVariables false
set_option linter.unusedSimpArgs false
set_option linter.unusedSectionVars false
namespace Go.Lift

def SV.ids : SV → List Nat
  | .osl id _ _ | .ref id _ | .eref id _ _ => [id]
  | _ => []
def XV.ids : XV → List Nat
  | .one s => s.ids
  | .agg cs => cs.flatMap SV.ids
  | .dat _ _ => []
def EV.ids : EV → List Nat
  | .x v => v.ids
  | .tup vs => vs.flatMap XV.ids

/-- Two heaps are the same at these. -/
def Same (h h' : List HObj) (l : List Nat) : Prop := ∀ id ∈ l, h[id]? = h'[id]?

theorem Same.left {h h' : List HObj} {a b : List Nat} (s : Same h h' (a ++ b)) : Same h h' a := fun id hi => s id (List.mem_append_left _ hi)
theorem Same.right {h h' : List HObj} {a b : List Nat} (s : Same h h' (a ++ b)) : Same h h' b := fun id hi => s id (List.mem_append_right _ hi)

section
variable {h h' : List HObj}

theorem SV.isOne_congr {s : SV} (H : Same h h' s.ids) : s.isOne h = s.isOne h' := by
  cases s <;> first | rfl | (have := H _ (List.mem_singleton.2 rfl); simp only [SV.isOne, this])

theorem SV.take_congr {k : K} {s : SV} (H : Same h h' s.ids) : s.take h k = s.take h' k := by
  cases k <;> cases s <;> first | rfl | (have := H _ (List.mem_singleton.2 rfl); simp only [SV.take, this]) | (rename_i v; cases v <;> rfl)

theorem all_congr : ∀ {cs : List SV}, Same h h' (cs.flatMap SV.ids) → cs.all (SV.isOne h) = cs.all (SV.isOne h')
  | [], _ => rfl
  | s :: cs, H => by
    rw [List.flatMap_cons] at H
    rw [List.all_cons, List.all_cons, SV.isOne_congr H.left, all_congr H.right]

theorem take1_congr {k : K} {cs : List SV} (H : Same h h' (cs.flatMap SV.ids)) : take1 h k cs = take1 h' k cs := by
  cases cs with
  | nil => rfl
  | cons s r => rw [List.flatMap_cons] at H; simp only [take1, SV.take_congr H.left]

theorem takeL_mem {h : List HObj} : ∀ (k : K) (cs : List SV) (x : k.T) (r : List SV), k.takeL h cs = some (x, r) → ∃ n, r = cs.drop n := by
  have one : ∀ (k : K) (cs : List SV) (x : k.T) (r : List SV), take1 h k cs = some (x, r) → ∃ n, r = cs.drop n := by
    intro k cs x r hh
    cases cs with
    | nil => cases hh
    | cons s r' =>
      simp only [take1] at hh
      split at hh
      · obtain ⟨_, rfl⟩ := Prod.mk.inj (Option.some.inj hh); exact ⟨1, rfl⟩
      · cases hh
  intro k
  induction k with
  | unit => intro cs x r hh; obtain ⟨_, rfl⟩ := Prod.mk.inj (Option.some.inj hh); exact ⟨0, rfl⟩
  | pair a b iha ihb =>
    intro cs x r hh
    simp only [K.takeL] at hh
    split at hh
    · rename_i x1 r1 h1
      split at hh
      · rename_i x2 r2 h2
        obtain ⟨_, rfl⟩ := Prod.mk.inj (Option.some.inj hh)
        obtain ⟨n, rfl⟩ := iha _ _ _ h1
        obtain ⟨m, rfl⟩ := ihb _ _ _ h2
        exact ⟨n + m, by rw [List.drop_drop]⟩
      · cases hh
    · cases hh
  | arr n e ih =>
    have many : ∀ (n : Nat) (cs : List SV) (xs : List e.T) (r : List SV), takeN (e.takeL h) n cs = some (xs, r) → ∃ m, r = cs.drop m := by
      intro n
      induction n with
      | zero => intro cs xs r hh; obtain ⟨_, rfl⟩ := Prod.mk.inj (Option.some.inj hh); exact ⟨0, rfl⟩
      | succ n ihn =>
        intro cs xs r hh
        simp only [takeN] at hh
        split at hh
        · rename_i x r1 h1
          split at hh
          · rename_i xs1 r2 h2
            obtain ⟨_, rfl⟩ := Prod.mk.inj (Option.some.inj hh)
            obtain ⟨n1, rfl⟩ := ih _ _ _ h1
            obtain ⟨m, rfl⟩ := ihn _ _ _ h2
            exact ⟨n1 + m, by rw [List.drop_drop]⟩
          · cases hh
        · cases hh
    exact fun cs x r hh => many n cs x r hh
  | int ik => exact one (.int ik)
  | bool => exact one .bool
  | flt fk => exact one (.flt fk)
  | slice e _ => exact one (.slice e)
  | ptr e _ => exact one (.ptr e)

theorem Same.drop {cs : List SV} (H : Same h h' (cs.flatMap SV.ids)) (n : Nat) : Same h h' ((cs.drop n).flatMap SV.ids) := by
  intro id hid
  obtain ⟨s, hs, hi⟩ := List.mem_flatMap.1 hid
  exact H id (List.mem_flatMap.2 ⟨s, List.mem_of_mem_drop hs, hi⟩)

theorem K.takeL_congr : ∀ (k : K) {cs : List SV}, Same h h' (cs.flatMap SV.ids) → k.takeL h cs = k.takeL h' cs := by
  intro k
  induction k with
  | unit => intro cs H; rfl
  | pair a b iha ihb =>
    intro cs H
    simp only [K.takeL, ← iha H]
    split
    · rename_i x r h1
      obtain ⟨n, rfl⟩ := takeL_mem _ _ _ _ h1
      rw [ihb (H.drop n)]
    · rfl
  | arr n e ih =>
    intro cs H
    show takeN (e.takeL h) n cs = takeN (e.takeL h') n cs
    induction n generalizing cs with
    | zero => rfl
    | succ n ihn =>
      simp only [takeN, ← ih H]
      split
      · rename_i x r h1
        obtain ⟨m, rfl⟩ := takeL_mem _ _ _ _ h1
        rw [ihn (H.drop m)]
      · rfl
  | int ik => exact fun H => take1_congr H
  | bool => exact fun H => take1_congr H
  | flt fk => exact fun H => take1_congr H
  | slice e _ => exact fun H => take1_congr H
  | ptr e _ => exact fun H => take1_congr H

theorem XV.take_congr {k : K} {v : XV} (H : Same h h' v.ids) : v.take h k = v.take h' k := by
  cases v with
  | one s => simp only [XV.take, SV.take_congr (show Same h h' s.ids from H)]
  | agg cs => simp only [XV.take, K.takeL_congr k (show Same h h' (cs.flatMap SV.ids) from H)]
  | dat k' x => rfl

theorem K.cells_ids : ∀ (k : K) (x : k.T) (s : SV), s ∈ k.cells x → s.ids = [] := by
  intro k
  induction k with
  | unit => intro x s hs; cases hs
  | pair a b iha ihb =>
    intro x s hs
    rcases List.mem_append.1 hs with hs | hs
    · exact iha _ s hs
    · exact ihb _ s hs
  | arr n e ih =>
    intro x s hs
    have key : ∀ (n i : Nat), s ∈ arrC e.cells e.dflt x i n → ∃ y, s ∈ e.cells y := by
      intro n
      induction n with
      | zero => intro i hs; cases hs
      | succ n ihn =>
        intro i hs
        simp only [arrC, List.mem_append] at hs
        rcases hs with hs | hs
        · exact ⟨_, hs⟩
        · exact ihn _ hs
    obtain ⟨y, hy⟩ := key n 0 hs
    exact ih y s hy
  | _ => intro x s hs; obtain rfl := List.mem_singleton.1 hs; rfl

theorem takes_congr : ∀ (ks : List K) {vs : List XV}, Same h h' (vs.flatMap XV.ids) → takes h ks vs = takes h' ks vs
  | [], [], _ => rfl
  | [], _ :: _, _ => rfl
  | _ :: _, [], _ => rfl
  | k :: ks, v :: vs, H => by
    rw [List.flatMap_cons] at H
    simp only [takes, XV.take_congr H.left, takes_congr ks H.right]

theorem takeAll_congr {k : K} : ∀ {vs : List EV}, Same h h' (vs.flatMap EV.ids) → takeAll h k vs = takeAll h' k vs
  | [], _ => rfl
  | .x v :: vs, H => by
    rw [List.flatMap_cons] at H
    simp only [takeAll, XV.take_congr (show Same h h' v.ids from H.left), takeAll_congr H.right]
  | .tup _ :: vs, _ => rfl

theorem XV.cells_congr {v : XV} (H : Same h h' v.ids) : v.cells h = v.cells h' := by
  cases v with
  | one s => simp only [XV.cells, SV.isOne_congr (show Same h h' s.ids from H)]
  | agg cs => simp only [XV.cells, all_congr (show Same h h' (cs.flatMap SV.ids) from H)]
  | dat k x =>
    have e : (k.cells x).all (SV.isOne h) = (k.cells x).all (SV.isOne h') := by
      refine all_congr ?_
      intro id hid
      obtain ⟨s, hs, hi⟩ := List.mem_flatMap.1 hid
      exact absurd hi (by rw [K.cells_ids k x s hs]; simp)
    simp only [XV.cells, e]

variable {cx : Cx} {tgt : Nat}

theorem opLen_congr {t : TypeId} {v : EV} (H : Same h h' v.ids) : opLen cx h t v = opLen cx h' t v := by
  unfold opLen
  split
  · cases v with
    | tup _ => first | rfl | ((repeat' split) <;> first | rfl | (simp_all [Same, EV.ids, XV.ids, SV.ids]; done))
    | x v => cases v with
      | one s => cases s <;> first | rfl | (have := H _ (List.mem_singleton.2 rfl); simp only [this]; done) | ((repeat' split) <;> first | rfl | (simp_all [Same, EV.ids, XV.ids, SV.ids]; done))
      | _ => first | rfl | ((repeat' split) <;> first | rfl | (simp_all [Same, EV.ids, XV.ids, SV.ids]; done))
  · rfl
  · rfl

theorem opIndexAddr_congr {t : TypeId} {v i : EV} (H : Same h h' v.ids) : opIndexAddr cx h t v i = opIndexAddr cx h' t v i := by
  unfold opIndexAddr
  split
  · generalize cx.tab _ = q
    cases q with
    | none => rfl
    | some ed => cases v with
      | tup _ => rfl
      | x v => cases v with
        | one s => cases s with
          | osl id off len => have := H _ (List.mem_singleton.2 rfl); simp only [this]
          | data k x => cases k <;> rfl
          | _ => rfl
        | _ => rfl
  · generalize cx.tab _ = q
    cases q with
    | none => rfl
    | some ed => cases v with
      | tup _ => rfl
      | x v => cases v with
        | one s => cases s with
          | ref id off => cases off with
            | zero => have := H _ (List.mem_singleton.2 rfl); simp only [this]
            | succ n => rfl
          | data k x => cases k with
            | ptr e => cases e <;> first | rfl | (cases x <;> rfl)
            | _ => rfl
          | _ => rfl
        | _ => rfl
  · rfl

theorem opFieldAddr_congr {t : TypeId} {v : EV} {f : Nat} (H : Same h h' v.ids) : opFieldAddr cx h t v f = opFieldAddr cx h' t v f := by
  unfold opFieldAddr
  cases v with
  | tup _ => first | rfl | ((repeat' split) <;> first | rfl | (simp_all [Same, EV.ids, XV.ids, SV.ids]; done))
  | x v => cases v with
    | one s => cases s <;> first | rfl | (have := H _ (List.mem_singleton.2 rfl); simp only [this]; done) | ((repeat' split) <;> first | rfl | (simp_all [Same, EV.ids, XV.ids, SV.ids]; done))
    | _ => first | rfl | ((repeat' split) <;> first | rfl | (simp_all [Same, EV.ids, XV.ids, SV.ids]; done))

theorem opLoad_congr {t : TypeId} {v : EV} (H : Same h h' v.ids) : opLoad cx h t v = opLoad cx h' t v := by
  unfold opLoad
  cases v with
  | tup _ => first | rfl | ((repeat' split) <;> first | rfl | (simp_all [Same, EV.ids, XV.ids, SV.ids]; done))
  | x v => cases v with
    | one s => cases s <;> first | rfl | (have := H _ (List.mem_singleton.2 rfl); simp only [this]; done) | ((repeat' split) <;> first | rfl | (simp_all [Same, EV.ids, XV.ids, SV.ids]; done))
    | _ => first | rfl | ((repeat' split) <;> first | rfl | (simp_all [Same, EV.ids, XV.ids, SV.ids]; done))

theorem opStore_congr {t : TypeId} {x v : EV} (H : Same h h' x.ids) (H' : Same h h' v.ids) : opStore cx h t x v = opStore cx h' t x v := by
  unfold opStore
  generalize cx.tab t = q
  cases q with
  | none => rfl
  | some td => cases v with
    | tup _ => rfl
    | x xv =>
      have H2 : Same h h' xv.ids := H'
      have e1 : ∀ k, xv.take h k = xv.take h' k := fun k => XV.take_congr H2
      have e2 : xv.cells h = xv.cells h' := XV.cells_congr H2
      cases x with
      | tup _ => rfl
      | x v => cases v with
        | one s => cases s with
          | ref id off => have := H _ (List.mem_singleton.2 rfl); simp only [this, e1, e2]
          | eref id i off => cases off with
            | zero => have := H _ (List.mem_singleton.2 rfl); simp only [this, e1, e2]
            | succ n => rfl
          | _ => rfl
        | _ => rfl

theorem opBox_congr {t : TypeId} {v : EV} (H : Same h h' v.ids) : opBox cx h t v tgt = opBox cx h' t v tgt := by
  unfold opBox
  generalize cx.tab t = q
  cases q with
  | none => rfl
  | some td => cases v with
    | tup _ => rfl
    | x xv =>
      have H2 : Same h h' xv.ids := H
      simp only [XV.take_congr H2, XV.cells_congr H2]

theorem opBuildSlice_congr {t : TypeId} {n : Nat} {is : List Nat} {vs : List EV} (H : Same h h' (vs.flatMap EV.ids)) : opBuildSlice cx h t n is vs tgt = opBuildSlice cx h' t n is vs tgt := by
  unfold opBuildSlice
  simp only [takeAll_congr H]

theorem opAppend_congr {t : TypeId} {x y : EV} (H : Same h h' x.ids) (H' : Same h h' y.ids) : opAppend cx h t x y tgt = opAppend cx h' t x y tgt := by
  unfold opAppend
  cases y with
  | tup _ => split <;> first | rfl | (rename_i e; cases e)
  | x yv =>
    have H2 : Same h h' yv.ids := H'
    have e1 : ∀ (yu : XV), EV.x yv = EV.x yu → ∀ k, yu.take h k = yu.take h' k := fun yu e k => by cases e; exact XV.take_congr H2
    split
    · split
      · split
        · split
          · split
            · split
              · rw [e1 _ (by assumption)]
              · rfl
            · rfl
          · cases x with
            | tup _ => rfl
            | x v => cases v with
              | one s => cases s with
                | osl id off len => cases off with
                  | zero =>
                    have := H _ (List.mem_singleton.2 rfl)
                    simp only [← this]
                    split
                    · split
                      · rw [e1 _ (by assumption)]
                      · rfl
                    · rfl
                  | succ n => rfl
                | _ => rfl
              | _ => rfl
        · rfl
      · rfl
    · rfl

theorem opSlice_congr {t : TypeId} {v : EV} {a b m : Option EV} (H : Same h h' v.ids) : opSlice cx h t v a b m = opSlice cx h' t v a b m := by
  unfold opSlice
  split
  · generalize cx.tab _ = q
    cases q with
    | none => rfl
    | some ed => cases v with
      | tup _ => rfl
      | x v => cases v with
        | one s => cases s with
          | osl id off len => have := H _ (List.mem_singleton.2 rfl); simp only [this]
          | data k x => cases k <;> rfl
          | _ => rfl
        | _ => rfl
  · generalize cx.tab _ = q
    cases q with
    | none => rfl
    | some ed => cases v with
      | tup _ => rfl
      | x v => cases v with
        | one s => cases s with
          | ref id off => cases off with
            | zero => have := H _ (List.mem_singleton.2 rfl); simp only [this]
            | succ n => rfl
          | _ => rfl
        | _ => rfl
  · rfl

theorem opNil_congr {v : EV} (H : Same h h' v.ids) : opNil h v = opNil h' v := by
  unfold opNil
  cases v with
  | tup _ => first | rfl | ((repeat' split) <;> first | rfl | (simp_all [Same, EV.ids, XV.ids, SV.ids]; done))
  | x v => cases v with
    | one s => cases s <;> first | rfl | (have := H _ (List.mem_singleton.2 rfl); simp only [this]; done) | ((repeat' split) <;> first | rfl | (simp_all [Same, EV.ids, XV.ids, SV.ids]; done))
    | _ => first | rfl | ((repeat' split) <;> first | rfl | (simp_all [Same, EV.ids, XV.ids, SV.ids]; done))

theorem opEq_congr {neg : Bool} {t : TypeId} {x y : EV} (H : Same h h' x.ids) : opEq cx h neg t x y = opEq cx h' neg t x y := by
  unfold opEq
  cases x with
  | tup _ => first | rfl | ((repeat' split) <;> first | rfl | (simp_all [Same, EV.ids, XV.ids, SV.ids]; done))
  | x v => cases v with
    | one s => cases s <;> first | rfl | (have := H _ (List.mem_singleton.2 rfl); simp only [this]; done) | ((repeat' split) <;> first | rfl | (simp_all [Same, EV.ids, XV.ids, SV.ids]; done))
    | _ => first | rfl | ((repeat' split) <;> first | rfl | (simp_all [Same, EV.ids, XV.ids, SV.ids]; done))

theorem opBin_congr {op : BinOp} {t : TypeId} {x y : EV} (H : Same h h' x.ids) : opBin cx h op t x y = opBin cx h' op t x y := by
  unfold opBin
  split
  · rfl
  · rfl
  · split
    · exact opEq_congr H
    · exact opEq_congr H
    · rfl

theorem xvs_ids : ∀ {es : List EV} {vs : List XV}, xvs es = some vs → vs.flatMap XV.ids = es.flatMap EV.ids
  | [], vs, e => by cases e; rfl
  | .x v :: es, vs, e => by
    simp only [xvs] at e
    split at e
    · rename_i us hu
      cases e
      rw [List.flatMap_cons, List.flatMap_cons, xvs_ids hu]; rfl
    · cases e
  | .tup _ :: _, _, e => by cases e

theorem opCall_congr {f : FuncId} {args : List EV} (H : Same h h' (args.flatMap EV.ids)) : opCall cx h f args tgt = opCall cx h' f args tgt := by
  unfold opCall
  split
  · rename_i vs hc hv
    simp only [takes_congr _ (show Same h h' (vs.flatMap XV.ids) from by rw [xvs_ids hv]; exact H)]
  · rename_i vs hc hv
    simp only [takes_congr _ (show Same h h' (vs.flatMap XV.ids) from by rw [xvs_ids hv]; exact H)]
  · rfl
end

/-- WHAT AN OPERATION COMES TO LIES IN ITS OPERANDS. -/
theorem fillA_congr {h h' : List HObj} {place : Nat → Option (Nat × Nat)} : ∀ {is : List Nat} {vs : List EV} {cs : List SV}, Same h h' (vs.flatMap EV.ids) → fillA h place cs is vs = fillA h' place cs is vs
  | [], [], _, _ => rfl
  | i :: is, .x v :: vs, cs, H => by
    rw [List.flatMap_cons] at H
    simp only [fillA, XV.cells_congr (show Same h h' v.ids from H.left)]
    split
    · split
      · exact fillA_congr H.right
      · rfl
    · rfl
  | [], _ :: _, _, _ => rfl
  | _ :: _, [], _, _ => rfl
  | _ :: _, .tup _ :: _, _, _ => rfl

theorem opBuild_congr {cx : Cx} {h h' : List HObj} {t : TypeId} {is : List Nat} {vs : List EV} (H : Same h h' (vs.flatMap EV.ids)) : opBuild cx h t is vs = opBuild cx h' t is vs := by
  unfold opBuild
  split
  · rw [fillA_congr H]
  · rfl

theorem aop_congr {cx : Cx} {o : Oper} {env env' : List EV} {h h' : List HObj} {tgt : Nat} (H : ∀ x ∈ o.op.operands.toList, cx.eval env x = cx.eval env' x ∧ Same h h' (cx.eval env x).ids) : aop cx o env h tgt = aop cx o env' h' tgt := by
  cases hop : o.op <;> simp only [aop, hop] <;> rw [hop] at H
  case move x => rw [(H x (by simp [Op.operands])).1]
  case assign x => rw [(H x (by simp [Op.operands])).1]
  case pick a b c => rw [(H a (by simp [Op.operands])).1, (H b (by simp [Op.operands])).1, (H c (by simp [Op.operands])).1]
  case box t x => rw [← (H x (by simp [Op.operands])).1, opBox_congr (H x (by simp [Op.operands])).2]
  case load t x => rw [← (H x (by simp [Op.operands])).1, opLoad_congr (H x (by simp [Op.operands])).2]
  case nilCheck x => rw [← (H x (by simp [Op.operands])).1, opNil_congr (H x (by simp [Op.operands])).2]
  case unOp op t x => rw [(H x (by simp [Op.operands])).1]
  case convert s d x => rw [(H x (by simp [Op.operands])).1]
  case index t x i => rw [(H x (by simp [Op.operands])).1, (H i (by simp [Op.operands])).1]
  case extract x i => rw [(H x (by simp [Op.operands])).1]
  case store t x v => rw [← (H x (by simp [Op.operands])).1, ← (H v (by simp [Op.operands])).1, opStore_congr (H x (by simp [Op.operands])).2 (H v (by simp [Op.operands])).2]
  case binOp op t x y r => rw [← (H x (by simp [Op.operands])).1, ← (H y (by simp [Op.operands])).1, opBin_congr (H x (by simp [Op.operands])).2]
  case makeSlice t x y => rw [(H x (by simp [Op.operands])).1, (H y (by simp [Op.operands])).1]
  case fieldAddr t x f => rw [← (H x (by simp [Op.operands])).1, opFieldAddr_congr (H x (by simp [Op.operands])).2]
  case indexAddr t x i => rw [← (H x (by simp [Op.operands])).1, ← (H i (by simp [Op.operands])).1, opIndexAddr_congr (H x (by simp [Op.operands])).2]
  case build t ps =>
    have e : (ps.toList.map fun p => cx.eval env p.2) = ps.toList.map fun p => cx.eval env' p.2 := List.map_congr_left fun p hp => (H p.2 (by simp [Op.operands]; exact ⟨p.1, by simpa using hp⟩)).1
    rw [← e]
    refine opBuild_congr ?_
    intro id hid
    obtain ⟨ev, he, hi⟩ := List.mem_flatMap.1 hid
    obtain ⟨p, hp, rfl⟩ := List.mem_map.1 he
    exact (H p.2 (by simp [Op.operands]; exact ⟨p.1, by simpa using hp⟩)).2 id hi
  case buildSlice t n ps =>
    have e : (ps.toList.map fun p => cx.eval env p.2) = ps.toList.map fun p => cx.eval env' p.2 := List.map_congr_left fun p hp => (H p.2 (by simp [Op.operands]; exact ⟨p.1, by simpa using hp⟩)).1
    rw [← e]
    refine opBuildSlice_congr ?_
    intro id hid
    obtain ⟨ev, he, hi⟩ := List.mem_flatMap.1 hid
    obtain ⟨p, hp, rfl⟩ := List.mem_map.1 he
    exact (H p.2 (by simp [Op.operands]; exact ⟨p.1, by simpa using hp⟩)).2 id hi
  case slice t x lo hi mx =>
    have hx := H x (by simp [Op.operands])
    have e1 : lo.map (cx.eval env) = lo.map (cx.eval env') := by cases lo with | none => rfl | some z => rw [Option.map_some, Option.map_some, (H z (by simp [Op.operands])).1]
    have e2 : hi.map (cx.eval env) = hi.map (cx.eval env') := by cases hi with | none => rfl | some z => rw [Option.map_some, Option.map_some, (H z (by simp [Op.operands])).1]
    have e3 : mx.map (cx.eval env) = mx.map (cx.eval env') := by cases mx with | none => rfl | some z => rw [Option.map_some, Option.map_some, (H z (by simp [Op.operands])).1]
    split
    · rfl
    · rw [← e1, ← e2, ← e3, ← hx.1, opSlice_congr hx.2]
  case call c =>
    have e : c.args.toList.map (cx.eval env) = c.args.toList.map (cx.eval env') := List.map_congr_left fun x hx => (H x (by simp [Op.operands, Call.operands]; exact .inr (by simpa using hx))).1
    have s : Same h h' ((c.args.toList.map (cx.eval env)).flatMap EV.ids) := by
      intro id hid
      obtain ⟨ev, he, hi⟩ := List.mem_flatMap.1 hid
      obtain ⟨x, hx, rfl⟩ := List.mem_map.1 he
      exact (H x (by simp [Op.operands, Call.operands]; exact .inr (by simpa using hx))).2 id hi
    rw [← e]
    split
    · unfold opBuiltin
      split
      · rename_i t x e0 e1 e2
        have e3 : c.args.toList.map (cx.eval env) = [x] := by assumption
        rw [e3] at s
        exact opLen_congr (by simpa using s)
      · rename_i t t' x y e0 e1 e2
        have e3 : c.args.toList.map (cx.eval env) = [x, y] := by assumption
        rw [e3] at s
        have s2 : Same h h' (x.ids ++ y.ids) := by simpa using s
        rw [opAppend_congr s2.left s2.right]
      · rfl
      · rfl
      · rfl
    · exact opCall_congr s
    · rename_i x _ hcx
      have hx2 := H x (by simp [Op.operands, Call.operands, hcx])
      rw [← hx2.1]
      unfold opClo
      split
      · rw [opCall_congr s]
      · rfl
    · rfl
end Go.Lift

/- Regions that draw their order: operations that do not meet may change places. Own work. -/
set_option linter.unusedVariables false
set_option linter.unusedSimpArgs false
set_option linter.unusedSectionVars false
namespace Go.Lift

/-- It makes objects, but turns none. -/
def quietOp (o : Oper) : Bool := match o.op with
  | .store .. => false
  | .call c => match c.callee with
    | .builtin b => match b with
      | .append => false
      | _ => true
    | _ => true
  | _ => true

theorem aop_quiet {cx : Cx} {o : Oper} (hq : quietOp o = true) (env : List EV) (h : List HObj) (tgt : Nat) : (aop cx o env h tgt).All (Touch [] tgt (nAlloc cx o)) := by
  cases hop : o.op <;> simp only [aop, nAlloc, hop] <;> simp only [quietOp, hop] at hq
  case move => exact Touch.nil
  case assign => exact Touch.nil
  case pick => exact opPick_touch
  case alloc => exact opAlloc_touch
  case box => exact opBox_touch
  case build => exact opBuild_touch
  case buildSlice => exact opBuildSlice_touch
  case load => exact opLoad_touch
  case store => cases hq
  case nilCheck => exact opNil_touch
  case binOp => exact opBin_touch
  case unOp => exact opUn_touch
  case convert => exact opConv_touch
  case makeSlice => exact opMakeSlice_touch
  case slice =>
    split
    · trivial
    · exact opSlice_touch
  case fieldAddr => exact opFieldAddr_touch
  case indexAddr => exact opIndexAddr_touch
  case extract => exact opExtract_touch
  case index => exact opIndex_touch
  case call c =>
    cases hc : c.callee with
    | builtin b =>
      rw [hc] at hq
      simp only
      cases b <;> simp only [opBuiltin] <;> (repeat' split) <;> first | trivial | exact opLen_touch | exact opMM_touch | (simp only at hq; cases hq) | simp_all
    | value f =>
      cases f with
      | func f => exact opCall_touch
      | _ => exact opClo_touch
    | invoke => trivial
  all_goals trivial

/-- It looks at no object, and makes none. -/
def pureOp (o : Oper) : Bool := match o.op with
  | .move _ => true
  | .assign _ => true
  | .binOp op _ _ _ _ => match op with
    | .eql => false
    | .neq => false
    | _ => true
  | _ => false

theorem Touch.none {tgt : Nat} {us : List (Nat × HObj)} (h : Touch [] tgt 0 us) : us = [] := by
  cases us with
  | nil => rfl
  | cons u us =>
    rcases h u List.mem_cons_self with h | ⟨o, h, _⟩
    · omega
    · simp at h

theorem pure_all {cx : Cx} {o : Oper} (hp : pureOp o = true) (env : List EV) (h : List HObj) (tgt : Nat) : (aop cx o env h tgt).All (Touch [] tgt 0) := by
  cases hop : o.op <;> simp only [aop, hop] <;> simp only [pureOp, hop] at hp
  case move => exact Touch.nil
  case assign => exact Touch.nil
  case binOp => exact opBin_touch
  all_goals cases hp

theorem pure_congr {cx : Cx} {o : Oper} (hp : pureOp o = true) (env : List EV) (h h' : List HObj) (tgt : Nat) : aop cx o env h tgt = aop cx o env h' tgt := by
  cases hop : o.op <;> simp only [aop, hop] <;> simp only [pureOp, hop] at hp
  case binOp op t x y z =>
    unfold opBin
    split
    · rfl
    · rfl
    · cases op <;> first | rfl | cases hp
  all_goals cases hp

theorem Res.wp_forall {α : Type} {p : α → Prop} (ne : ∃ a, p a) {G : α → EV → List (Nat × HObj) → Prop} : ∀ {r : Res}, (∀ a, p a → r.wp (G a)) → r.wp fun e u => ∀ a, p a → G a e u
  | .fail, h => let ⟨a, ha⟩ := ne; h a ha
  | .ret _ _, h => h
  | .ask _ f, h => let ⟨a, ha⟩ := ne; ⟨(h a ha).1, Res.wp_forall ne fun a ha => (h a ha).2⟩
  | .all _ _ _ f, h => fun b hb => Res.wp_forall ne fun a ha => h a ha b hb
  | .br b x y, h => Br.intro (fun e => Res.wp_forall (r := x) ne fun a ha => Br.t (h a ha) e) (fun e => Res.wp_forall (r := y) ne fun a ha => Br.f (h a ha) e)

theorem Res.swap {r2 : Res} {F : EV → List (Nat × HObj) → EV → List (Nat × HObj) → Prop} : ∀ {r1 : Res}, (r1.wp fun e1 u1 => r2.wp fun e2 u2 => F e1 u1 e2 u2) → r2.wp fun e2 u2 => r1.wp fun e1 u1 => F e1 u1 e2 u2
  | .fail, h => h.elim
  | .ret _ _, h => h
  | .ask _ f, ⟨q, h⟩ => Res.wp_mono (fun _ _ h => ⟨q, h⟩) (Res.swap h)
  | .all _ p ne f, h => Res.wp_forall ne fun a ha => Res.swap (h a ha)
  | .br b x y, h => by
    cases b with
    | true => exact Res.swap (r1 := x) (Br.t h rfl)
    | false => exact Res.swap (r1 := y) (Br.f h rfl)

def chk (cx : Cx) (ok : Nat → Bool) (o : Oper) (env : List EV) : Bool := o.op.operands.toList.all fun x => (cx.eval env x).ids.all ok

def gres (cx : Cx) (ops : Array Oper) (ok : Nat → Bool) (o : Oper) (s : St) (tgt : Nat) : Res := match o.guard with
  | none => if chk cx ok o s.env then aop cx o s.env s.heap tgt else .fail
  | some (g, want) => match guardOf ops s.env g with
    | none => if gone ops s.env g then .ret .skip [] else .fail
    | some (_, b) => if b = want then (if chk cx ok o s.env then aop cx o s.env s.heap tgt else .fail) else .ret .skip []

theorem gres_quiet {cx : Cx} {ops : Array Oper} {ok : Nat → Bool} {o : Oper} (hq : quietOp o = true) {s : St} {tgt : Nat} : (gres cx ops ok o s tgt).All (Touch [] tgt (nAlloc cx o)) := by
  unfold gres
  repeat' split
  all_goals first | exact aop_quiet hq _ _ _ | trivial | exact Touch.nil

theorem eval_congr {cx : Cx} {env env' : List EV} {x : Operand} (h : ∀ t, x = .tmp t → env[t]? = env'[t]?) : cx.eval env x = cx.eval env' x := by
  cases x with
  | tmp t => simp only [Cx.eval, List.getD_eq_getElem?_getD, h t rfl]
  | _ => rfl

theorem gres_pure {cx : Cx} {ops : Array Oper} {ok : Nat → Bool} {o : Oper} (hp : pureOp o = true) {s : St} {tgt : Nat} : (gres cx ops ok o s tgt).All (Touch [] tgt 0) := by
  unfold gres
  repeat' split
  all_goals first | exact pure_all hp _ _ _ | trivial | exact Touch.nil

theorem gres_congr {cx : Cx} {ops : Array Oper} {ok : Nat → Bool} {o : Oper} {s s' : St} {tgt : Nat} (he : ∀ t ∈ o.looksAt ops, s.env[t]? = s'.env[t]?) (hh : pureOp o = true ∨ ∀ id, ok id = true → s.heap[id]? = s'.heap[id]?) :
    gres cx ops ok o s tgt = gres cx ops ok o s' tgt := by
  have hev : ∀ x ∈ o.op.operands.toList, cx.eval s.env x = cx.eval s'.env x := fun x hx => eval_congr fun t ht => he t (by
    subst ht
    exact List.mem_append_left _ (List.mem_filterMap.2 ⟨_, hx, rfl⟩))
  have hc : chk cx ok o s.env = chk cx ok o s'.env := by
    unfold chk
    have : ∀ l : List Operand, (∀ x ∈ l, cx.eval s.env x = cx.eval s'.env x) → (l.all fun x => (cx.eval s.env x).ids.all ok) = l.all fun x => (cx.eval s'.env x).ids.all ok := by
      intro l
      induction l with
      | nil => intro _; rfl
      | cons x l ih => intro h; rw [List.all_cons, List.all_cons, h x List.mem_cons_self, ih fun y hy => h y (List.mem_cons_of_mem _ hy)]
    exact this _ hev
  have ha : chk cx ok o s.env = true → aop cx o s.env s.heap tgt = aop cx o s'.env s'.heap tgt := fun h => by
    rcases hh with hp | hh
    · rw [pure_congr hp s.env s.heap s'.heap]
      exact aop_congr fun x hx => ⟨hev x hx, fun id hid => rfl⟩
    · exact aop_congr fun x hx => ⟨hev x hx, fun id hid => hh id (by
        simp only [chk, List.all_eq_true] at h
        exact h x hx id hid)⟩
  have hgo : ∀ g w, o.guard = some (g, w) → guardOf ops s.env g = guardOf ops s'.env g := by
    intro g w hg
    unfold guardOf
    split
    · rename_i d hd
      rw [he d (by
        refine List.mem_append_right _ ?_
        rw [hg]; simp [hd])]
    · rfl
  have hgn : ∀ g w, o.guard = some (g, w) → gone ops s.env g = gone ops s'.env g := by
    intro g w hg
    unfold gone
    split
    · rename_i d hd
      rw [he d (by
        refine List.mem_append_right _ ?_
        rw [hg]; simp [hd])]
    · rfl
  have e1 : (if chk cx ok o s.env then aop cx o s.env s.heap tgt else .fail) = (if chk cx ok o s'.env then aop cx o s'.env s'.heap tgt else .fail) := by
    rw [← hc]
    split
    · rename_i h; exact ha h
    · rfl
  unfold gres
  cases hg : o.guard with
  | none => exact e1
  | some gw =>
    obtain ⟨g, w⟩ := gw
    simp only [← hgo g w hg, ← hgn g w hg, e1]

theorem putE_ne {env : List EV} {d : Option Tmp} {ev : EV} {t : Nat} (h : d ≠ some t) : (putE env d ev)[t]? = env[t]? := by
  cases d with
  | none => rfl
  | some d => exact set_ne fun e => h (by rw [e])

theorem putE_comm {env : List EV} {d d' : Option Tmp} {a b : EV} (h : ∀ t, d = some t → d' ≠ some t) : putE (putE env d a) d' b = putE (putE env d' b) d a := by
  cases d with
  | none => rfl
  | some d => cases d' with
    | none => rfl
    | some d' => exact List.set_comm _ _ fun e => h d rfl (by rw [e])

theorem applyU_set {id : Nat} {o : HObj} : ∀ (us : List (Nat × HObj)) (h : List HObj), (∀ u ∈ us, u.1 ≠ id) → applyU (h.set id o) us = (applyU h us).set id o
  | [], h, _ => rfl
  | u :: us, h, hn => by
    show applyU ((h.set id o).set u.1 u.2) us = (applyU (h.set u.1 u.2) us).set id o
    rw [List.set_comm _ _ (Ne.symm (hn u List.mem_cons_self)), applyU_set us _ fun v hv => hn v (List.mem_cons_of_mem _ hv)]

theorem applyU_comm : ∀ (us vs : List (Nat × HObj)) (h : List HObj), (∀ u ∈ us, ∀ v ∈ vs, u.1 ≠ v.1) → applyU (applyU h us) vs = applyU (applyU h vs) us
  | [], vs, h, _ => rfl
  | u :: us, vs, h, hn => by
    show applyU (applyU (h.set u.1 u.2) us) vs = applyU ((applyU h vs).set u.1 u.2) us
    rw [applyU_comm us vs _ fun w hw => hn w (List.mem_cons_of_mem _ hw), applyU_set vs h fun v hv => Ne.symm (hn u List.mem_cons_self v hv)]

/-! ### The places of new objects, what an operation may look at -/

def tgAt (cx : Cx) (ops : Array Oper) (base i : Nat) : Nat := base + allocs cx (ops.toList.take i)
def nAt (cx : Cx) (ops : Array Oper) (i : Nat) : Nat := match ops[i]? with
  | some o => nAlloc cx o
  | none => 0
def okId (cx : Cx) (ops : Array Oper) (base : Nat) (A : List (List Nat)) (i id : Nat) : Bool :=
  if Nat.blt id base then true else (A.getD i []).any fun j => if Nat.ble (tgAt cx ops base j) id then Nat.blt id (tgAt cx ops base j + nAt cx ops j) else false

theorem tgAt_succ (cx : Cx) (ops : Array Oper) (base i : Nat) : tgAt cx ops base (i + 1) = tgAt cx ops base i + nAt cx ops i := by
  unfold tgAt nAt allocs
  rw [List.take_add_one]
  simp only [List.map_append, List.sum_append]
  cases h : ops[i]? with
  | none => simp [h]
  | some o => simp [h]; omega

theorem tgAt_le (cx : Cx) (ops : Array Oper) (base : Nat) {i : Nat} : ∀ {j : Nat}, i < j → tgAt cx ops base i + nAt cx ops i ≤ tgAt cx ops base j
  | j + 1, h => by
    rw [tgAt_succ]
    rcases Nat.lt_or_ge i j with h' | h'
    · have := tgAt_le cx ops base h'; omega
    · have : i = j := by omega
      subst this; omega

theorem okId_out {cx : Cx} {ops : Array Oper} {base : Nat} {A : List (List Nat)} {i j id : Nat} (h : okId cx ops base A j id = true) (hn : i ∉ A.getD j []) : ¬ (tgAt cx ops base i ≤ id ∧ id < tgAt cx ops base i + nAt cx ops i) := by
  unfold okId at h
  split at h
  · rename_i hb
    have hb : id < base := by simpa using hb
    have : base ≤ tgAt cx ops base i := by unfold tgAt; omega
    omega
  · obtain ⟨k, hk, hr⟩ := List.any_eq_true.1 h
    split at hr
    · rename_i h1
      have h1 : tgAt cx ops base k ≤ id := by simpa using h1
      have h2 : id < tgAt cx ops base k + nAt cx ops k := by simpa using hr
      rcases Nat.lt_trichotomy i k with hlt | rfl | hlt
      · have := tgAt_le cx ops base hlt; omega
      · exact absurd hk hn
      · have := tgAt_le cx ops base hlt; omega
    · cases hr

section
variable (cx : Cx) (ops : Array Oper) (base : Nat) (A : List (List Nat))

def pstep (i : Nat) (s : St) (K : St → Prop) : Prop := match ops[i]? with
  | none => False
  | some o => (gres cx ops (okId cx ops base A i) o s (tgAt cx ops base i)).wp fun ev us => K ⟨putE s.env o.dst ev, applyU s.heap us⟩

def pchain : List Nat → St → (St → Prop) → Prop
  | [], s, K => K s
  | i :: l, s, K => pstep cx ops base A i s fun s' => pchain l s' K

variable {cx ops base A}

theorem pstep_mono {i : Nat} {s : St} {K K' : St → Prop} (hk : ∀ s, K s → K' s) (h : pstep cx ops base A i s K) : pstep cx ops base A i s K' := by
  unfold pstep at *
  split at h
  · exact h.elim
  · exact Res.wp_mono (fun _ _ h => hk _ h) h

/-- May these change places? -/
structure Free (i j : Nat) (oi oj : Oper) : Prop where
  ne : i ≠ j
  apart : oi.apart ops oj = true
  q : (quietOp oi = true ∧ quietOp oj = true) ∨ pureOp oi = true ∨ pureOp oj = true
  ai : i ∉ A.getD j []
  aj : j ∉ A.getD i []

theorem diamond {i j : Nat} {oi oj : Oper} (hi : ops[i]? = some oi) (hj : ops[j]? = some oj) (F : Free (ops := ops) (A := A) i j oi oj) {s : St} {K : St → Prop}
    (h : pstep cx ops base A i s fun s' => pstep cx ops base A j s' K) : pstep cx ops base A j s fun s' => pstep cx ops base A i s' K := by
  obtain ⟨a1, a2, a3⟩ := Oper.apart_spec F.apart
  unfold pstep at h ⊢
  simp only [hi, hj] at h ⊢
  have ni : nAt cx ops i = nAlloc cx oi := by simp [nAt, hi]
  have nj : nAt cx ops j = nAlloc cx oj := by simp [nAt, hj]
  rcases F.q with ⟨qi, qj⟩ | hp | hp
  rotate_left
  · have h2 : (gres cx ops (okId cx ops base A i) oi s (tgAt cx ops base i)).wp fun e1 u1 => (gres cx ops (okId cx ops base A j) oj s (tgAt cx ops base j)).wp fun e2 u2 =>
        u1 = [] ∧ K ⟨putE (putE s.env oi.dst e1) oj.dst e2, applyU s.heap u2⟩ := by
      refine Res.wp_mono (fun e1 u1 hh => ?_) (Res.wp_all (gres_pure hp) h)
      obtain ⟨hh, ht⟩ := hh
      have ht := ht.none
      subst ht
      rw [← gres_congr (s := s) (s' := ⟨putE s.env oi.dst e1, applyU s.heap []⟩) (fun t ht' => (putE_ne fun e => a1 t e ht').symm) (.inr fun id hid => rfl)] at hh
      exact Res.wp_mono (fun e2 u2 h3 => ⟨rfl, h3⟩) hh
    refine Res.wp_mono (fun e2 u2 hh => ?_) (Res.swap h2)
    rw [← gres_congr (s := s) (s' := ⟨putE s.env oj.dst e2, applyU s.heap u2⟩) (fun t ht' => (putE_ne fun e => a3 t e ht').symm) (.inl hp)]
    refine Res.wp_mono (fun e1 u1 h4 => ?_) hh
    obtain ⟨rfl, h5⟩ := h4
    rw [putE_comm fun t e => a2 t e] at h5
    exact h5
  · have h2 : (gres cx ops (okId cx ops base A i) oi s (tgAt cx ops base i)).wp fun e1 u1 => (gres cx ops (okId cx ops base A j) oj s (tgAt cx ops base j)).wp fun e2 u2 =>
        u2 = [] ∧ K ⟨putE (putE s.env oi.dst e1) oj.dst e2, applyU s.heap u1⟩ := by
      refine Res.wp_mono (fun e1 u1 hh => ?_) h
      rw [← gres_congr (s := s) (s' := ⟨putE s.env oi.dst e1, applyU s.heap u1⟩) (fun t ht' => (putE_ne fun e => a1 t e ht').symm) (.inl hp)] at hh
      refine Res.wp_mono (fun e2 u2 h3 => ?_) (Res.wp_all (gres_pure hp) hh)
      obtain ⟨h3, ht⟩ := h3
      have ht := ht.none
      subst ht
      exact ⟨rfl, h3⟩
    refine Res.wp_mono (fun e2 u2 hh => ?_) (Res.wp_all (gres_pure hp) (Res.swap h2))
    obtain ⟨hh, ht⟩ := hh
    have ht := ht.none
    subst ht
    rw [← gres_congr (s := s) (s' := ⟨putE s.env oj.dst e2, applyU s.heap []⟩) (fun t ht' => (putE_ne fun e => a3 t e ht').symm) (.inr fun id hid => rfl)]
    refine Res.wp_mono (fun e1 u1 h4 => ?_) hh
    obtain ⟨_, h5⟩ := h4
    rw [putE_comm fun t e => a2 t e] at h5
    exact h5
  have h1 := Res.wp_all (gres_quiet qi) h
  have h2 : (gres cx ops (okId cx ops base A i) oi s (tgAt cx ops base i)).wp fun e1 u1 => (gres cx ops (okId cx ops base A j) oj s (tgAt cx ops base j)).wp fun e2 u2 =>
      Touch [] (tgAt cx ops base i) (nAlloc cx oi) u1 ∧ Touch [] (tgAt cx ops base j) (nAlloc cx oj) u2 ∧ K ⟨putE (putE s.env oi.dst e1) oj.dst e2, applyU (applyU s.heap u1) u2⟩ := by
    refine Res.wp_mono (fun e1 u1 hh => ?_) h1
    obtain ⟨hh, ht⟩ := hh
    rw [← gres_congr (s := s) (s' := ⟨putE s.env oi.dst e1, applyU s.heap u1⟩) (fun t ht' => (putE_ne fun e => a1 t e ht').symm) (.inr fun id hid => (applyU_ne _ _ _ fun u hu => ?_).symm)] at hh
    · exact Res.wp_mono (fun e2 u2 h3 => ⟨ht, h3.2, h3.1⟩) (Res.wp_all (gres_quiet qj) hh)
    · rintro rfl
      refine okId_out hid F.ai ?_
      rw [ni]
      rcases ht u hu with h | ⟨o, h, _⟩
      · exact h
      · simp at h
  have h3 := Res.wp_all (gres_quiet qj) (Res.swap h2)
  refine Res.wp_mono (fun e2 u2 hh => ?_) h3
  obtain ⟨hh, ht⟩ := hh
  rw [← gres_congr (s := s) (s' := ⟨putE s.env oj.dst e2, applyU s.heap u2⟩) (fun t ht' => (putE_ne fun e => a3 t e ht').symm) (.inr fun id hid => (applyU_ne _ _ _ fun u hu => ?_).symm)]
  · refine Res.wp_mono (fun e1 u1 h4 => ?_) hh
    obtain ⟨t1, t2, h5⟩ := h4
    rw [putE_comm fun t e => a2 t e, applyU_comm u1 u2 s.heap fun u hu v hv e => ?_] at h5
    · exact h5
    · have g1 : tgAt cx ops base i ≤ u.1 ∧ u.1 < tgAt cx ops base i + nAlloc cx oi := by
        rcases t1 u hu with h | ⟨o, h, _⟩
        · exact h
        · simp at h
      have g2 : tgAt cx ops base j ≤ v.1 ∧ v.1 < tgAt cx ops base j + nAlloc cx oj := by
        rcases t2 v hv with h | ⟨o, h, _⟩
        · exact h
        · simp at h
      rcases Nat.lt_or_ge i j with hlt | hge
      · have := tgAt_le cx ops base hlt; omega
      · have := tgAt_le cx ops base (show j < i from by have := F.ne; omega); omega
  · rintro rfl
    refine okId_out hid F.aj ?_
    rw [nj]
    rcases ht u hu with h | ⟨o, h, _⟩
    · exact h
    · simp at h

theorem bubble {i : Nat} {oi : Oper} (hi : ops[i]? = some oi) (post : List Nat) {K : St → Prop} : ∀ (pre : List Nat) (s : St), (∀ r ∈ pre, ∀ o, ops[r]? = some o → Free (ops := ops) (A := A) r i o oi) →
    pchain cx ops base A (pre ++ i :: post) s K → pstep cx ops base A i s fun s' => pchain cx ops base A (pre ++ post) s' K
  | [], s, _, h => h
  | r :: pre, s, hf, h => by
    have h' : pstep cx ops base A r s fun s' => pstep cx ops base A i s' fun s' => pchain cx ops base A (pre ++ post) s' K :=
      pstep_mono (fun s' h => bubble hi post pre s' (fun q hq => hf q (List.mem_cons_of_mem _ hq)) h) h
    cases ho : ops[r]? with
    | none => exact absurd h' (by unfold pstep; rw [ho]; exact id)
    | some o => exact diamond ho hi (hf r List.mem_cons_self o ho) h'
end
end Go.Lift

/- Typed states: what is carried over a loop or a join, and how a state of a run becomes one. Own work. -/
set_option linter.unusedVariables false
set_option linter.unusedSimpArgs false
namespace Go.Lift

/-! ### Data without looking into rows -/

theorem SV.take0_rep {c : RC} : ∀ {k : K} {s : SV} {x : k.T} {u : Value}, s.take [] k = some x → s.rel c u → k.rep c.w c.ok x [u] := by
  intro k s x u ht hr
  cases k with
  | int ik =>
    cases s with
    | val v =>
      cases v with
      | int j n =>
        simp only [SV.take] at ht
        split at ht
        · rename_i e; cases ht; subst e; rw [show u = _ from hr]; rfl
        · cases ht
      | _ => simp [SV.take] at ht
    | _ => simp [SV.take] at ht
  | bool =>
    cases s with
    | val v =>
      cases v with
      | bool b => obtain rfl := Option.some.inj ht; rw [show u = _ from hr]; rfl
      | _ => simp [SV.take] at ht
    | _ => simp [SV.take] at ht
  | flt fk =>
    cases s with
    | val v =>
      cases v with
      | float j n =>
        simp only [SV.take] at ht
        split at ht
        · rename_i e; cases ht; subst e; rw [show u = _ from hr]; rfl
        · cases ht
      | _ => simp [SV.take] at ht
    | _ => simp [SV.take] at ht
  | unit => cases s <;> simp [SV.take] at ht
  | pair a b => cases s <;> simp [SV.take] at ht
  | arr n e => cases s <;> simp [SV.take] at ht
  | slice e =>
    cases s with
    | val v =>
      have hu : u = v := hr
      subst hu
      simp only [SV.take] at ht
      split at ht
      · rename_i hn
        obtain rfl := Option.some.inj ht
        rw [isNilS_eq hn]
        exact ⟨none, 0, rfl, Nat.le_refl _, by simp [maxN], .inl rfl⟩
      · cases ht
    | void =>
      obtain rfl := Option.some.inj ht
      obtain ⟨A, rfl⟩ := hr
      exact ⟨A, 0, rfl, Nat.le_refl _, by simp [maxN], .inl rfl⟩
    | data k' y =>
      simp only [SV.take] at ht
      split at ht
      · rename_i q; subst q; obtain rfl := Option.some.inj ht
        exact hr
      · cases ht
    | _ => simp [SV.take] at ht
  | ptr e =>
    cases s with
    | val v =>
      have hu : u = v := hr
      subst hu
      simp only [SV.take] at ht
      split at ht
      · rename_i hn
        obtain rfl := Option.some.inj ht
        rw [isNilP_eq hn]
        exact .inl ⟨rfl, rfl⟩
      · cases ht
    | data k' y =>
      simp only [SV.take] at ht
      split at ht
      · rename_i q; subst q; obtain rfl := Option.some.inj ht
        exact hr
      · cases ht
    | _ => simp [SV.take] at ht

theorem K.takeL0_rep {c : RC} : ∀ (k : K) (cs : List SV) (vs : List Value) (x : k.T) (r : List SV), k.takeL [] cs = some (x, r) → All2 (SV.rel c) cs vs →
    ∃ v1 v2, vs = v1 ++ v2 ∧ k.rep c.w c.ok x v1 ∧ All2 (SV.rel c) r v2 := by
  intro k
  induction k with
  | unit =>
    intro cs vs x r h ha
    simp only [K.takeL, Option.some.injEq, Prod.mk.injEq] at h
    obtain ⟨_, rfl⟩ := h
    exact ⟨[], vs, rfl, rfl, ha⟩
  | pair a b iha ihb =>
    intro cs vs x r h ha
    simp only [K.takeL] at h
    split at h
    · rename_i x1 r1 h1
      split at h
      · rename_i x2 r2 h2
        obtain ⟨rfl, rfl⟩ := Prod.mk.inj (Option.some.inj h)
        obtain ⟨v1, v2, rfl, hr, ha2⟩ := iha _ _ _ _ h1 ha
        obtain ⟨v3, v4, rfl, hr2, ha3⟩ := ihb _ _ _ _ h2 ha2
        exact ⟨v1 ++ v3, v4, by simp, ⟨v1, v3, rfl, hr, hr2⟩, ha3⟩
      · cases h
    · cases h
  | arr n e ih =>
    intro cs vs x r h ha
    simp only [K.takeL] at h
    obtain ⟨hl, v1, v2, e1, hr, ha2⟩ := takeN_rep (fun cs vs x r => ih cs vs x r) n cs vs x r h ha
    exact ⟨v1, v2, e1, ⟨hl, hr⟩, ha2⟩
  | int ik => exact one c (.int ik) rfl
  | bool => exact one c .bool rfl
  | flt fk => exact one c (.flt fk) rfl
  | slice e _ => exact one c (.slice e) rfl
  | ptr e _ => exact one c (.ptr e) rfl
where
  one (c : RC) (k : K) (hk : k.agg = false) : ∀ (cs : List SV) (vs : List Value) (x : k.T) (r : List SV), k.takeL [] cs = some (x, r) → All2 (SV.rel c) cs vs →
      ∃ v1 v2, vs = v1 ++ v2 ∧ k.rep c.w c.ok x v1 ∧ All2 (SV.rel c) r v2 := by
    intro cs vs x r h ha
    have h' : take1 [] k cs = some (x, r) := by
      cases k <;> first | (cases hk; done) | exact h
    have : ∃ s, cs = s :: r ∧ s.take [] k = some x := by
      cases cs with
      | nil => cases h'
      | cons s r' =>
        simp only [take1] at h'
        split at h'
        · rename_i x1 h1
          obtain ⟨rfl, rfl⟩ := Prod.mk.inj (Option.some.inj h')
          exact ⟨s, rfl, h1⟩
        · cases h'
    obtain ⟨s, rfl, hs⟩ := this
    cases ha with
    | cons h1 h2 => exact ⟨[_], _, rfl, SV.take0_rep hs h1, h2⟩

theorem XV.take0_rep {c : RC} {k : K} {v : XV} {x : k.T} {u : Value} (h : v.take [] k = some x) (hr : v.rel c u) : KRep c.w c.ok k x u := by
  unfold KRep
  cases v with
  | one s =>
    simp only [XV.take] at h
    split at h
    · cases h
    · rename_i hk; rw [if_neg hk]; exact SV.take0_rep h hr
  | agg cs =>
    simp only [XV.take] at h
    split at h
    · rename_i hk
      rw [if_pos hk]
      split at h
      · rename_i y h1
        obtain rfl := Option.some.inj h
        obtain ⟨vs, rfl, ha⟩ := hr
        obtain ⟨v1, v2, e, hr, h2⟩ := K.takeL0_rep k cs vs.toList _ _ h1 ha
        cases h2
        exact ⟨vs, rfl, by rw [e]; simpa using hr⟩
      · cases h
    · cases h
  | dat k' y =>
    simp only [XV.take] at h
    split at h
    · rename_i q; subst q
      split at h
      · rename_i hk
        obtain rfl := Option.some.inj h
        rw [if_pos hk]
        obtain ⟨vs, rfl, hr⟩ := hr
        exact ⟨vs, rfl, hr⟩
      · cases h
    · cases h


/-! ### Below -/

def LV.below (n : Nat) : LV → Prop
  | .ref id _ => id < n
  | _ => True

def SV.below (n : Nat) : SV → Prop
  | .osl id _ _ | .ref id _ | .eref id _ _ => id < n
  | .clo _ fs cs => (∀ l ∈ fs, l.below n) ∧ ∀ l ∈ cs, l.below n
  | _ => True

def XV.below (n : Nat) : XV → Prop
  | .one s => s.below n
  | .agg cs => ∀ s ∈ cs, s.below n
  | .dat _ _ => True

def EV.below (n : Nat) : EV → Prop
  | .x v => v.below n
  | .tup vs => ∀ v ∈ vs, v.below n

def HObj.below (n : Nat) : HObj → Prop
  | .box _ _ cs => ∀ s ∈ cs, s.below n
  | _ => True

theorem All2.mem {α β : Type} {R : α → β → Prop} {xs : List α} {bs : List β} (h : All2 R xs bs) : ∀ a ∈ xs, ∃ b, R a b := by
  induction h with
  | nil => intro a ha; cases ha
  | cons h1 _ ih =>
    intro a ha
    cases ha with
    | head => exact ⟨_, h1⟩
    | tail _ ha => exact ih a ha

theorem get_lt {α : Type} {l : List α} {i : Nat} {a : α} (h : l[i]? = some a) : i < l.length := by
  rcases Nat.lt_or_ge i l.length with h' | h'
  · exact h'
  · rw [List.getElem?_eq_none h'] at h; cases h

theorem LV.below_of {c : RC} {s : LV} {u : Value} (h : s.rel c u) : s.below c.heap.length := by
  cases s with
  | ref id off =>
    simp only [LV.rel] at h
    cases ho : c.heap[id]? with
    | none => rw [ho] at h; exact h.elim
    | some o => exact get_lt ho
  | _ => trivial

theorem SV.below_of {c : RC} {s : SV} {u : Value} (h : s.rel c u) : s.below c.heap.length := by
  cases s with
  | osl id off len =>
    simp only [SV.rel] at h
    cases ho : c.heap[id]? with
    | none => rw [ho] at h; exact h.elim
    | some o => exact get_lt ho
  | ref id off =>
    simp only [SV.rel] at h
    cases ho : c.heap[id]? with
    | none => rw [ho] at h; exact h.elim
    | some o => exact get_lt ho
  | eref id i off =>
    simp only [SV.rel] at h
    cases ho : c.heap[id]? with
    | none => rw [ho] at h; exact h.elim
    | some o => exact get_lt ho
  | clo f fs cs =>
    obtain ⟨vs, ws, rfl, h1, h2⟩ := h
    exact ⟨fun l hl => (h1.mem l hl).elim fun _ h => LV.below_of h, fun l hl => (h2.mem l hl).elim fun _ h => LV.below_of h⟩
  | _ => trivial

theorem XV.below_of {c : RC} {s : XV} {u : Value} (h : s.rel c u) : s.below c.heap.length := by
  cases s with
  | one s => exact SV.below_of h
  | agg cs => obtain ⟨vs, rfl, h⟩ := h; exact fun l hl => (h.mem l hl).elim fun _ h => SV.below_of h
  | dat _ _ => trivial

theorem EV.below_of {c : RC} {s : EV} {u : Value} (h : s.rel c u) : s.below c.heap.length := by
  cases s with
  | x s => exact XV.below_of h
  | tup cs => obtain ⟨vs, rfl, h⟩ := h; exact fun l hl => (h.mem l hl).elim fun _ h => XV.below_of h

theorem HObj.below_of {c : RC} {id : Nat} {o : HObj} (h : o.rel c id) : o.below c.heap.length := by
  cases o with
  | box m t cs => obtain ⟨b, vs, _, _, h⟩ := h; exact fun l hl => (h.mem l hl).elim fun _ h => SV.below_of h
  | _ => trivial

/-- The same below 'n'. -/
structure Cut (n : Nat) (c c' : RC) : Prop where
  w : c'.w = c.w
  heap : ∀ id, id < n → ∃ o o', c.heap[id]? = some o ∧ c'.heap[id]? = some o' ∧ (o' = o ∨ o' = .dead ∨ ∃ m t cs cs', o = .box m t cs ∧ o' = .box m t cs')
  blk : ∀ id, id < n → c'.blk id = c.blk id
  ok : ∀ b, c.ok b → c'.ok b

theorem LV.cut {n : Nat} {c c' : RC} (h : Cut n c c') {s : LV} {u : Value} (hb : s.below n) (r : s.rel c u) : s.rel c' u := by
  cases s with
  | val v => exact r
  | data k x => exact K.rep_mono (fun b hb => ⟨h.ok b hb, by rw [h.w]⟩) _ _ _ r
  | ref id off =>
    obtain ⟨o, o', h1, h2, h3⟩ := h.heap id hb
    simp only [LV.rel, h1, h2, h.blk id hb] at r ⊢
    rcases h3 with rfl | rfl | ⟨m, t, cs, cs', rfl, rfl⟩
    · exact r
    · trivial
    · exact r

theorem All2.lvcut {n : Nat} {c c' : RC} (h : Cut n c c') : ∀ {fs : List LV} {vs : List Value}, (∀ l ∈ fs, l.below n) → All2 (LV.rel c) fs vs → All2 (LV.rel c') fs vs
  | _, _, _, .nil => .nil
  | _, _, hb, .cons h1 h2 => .cons (LV.cut h (hb _ List.mem_cons_self) h1) (All2.lvcut h (fun l hl => hb l (List.mem_cons_of_mem _ hl)) h2)

theorem SV.cut {n : Nat} {c c' : RC} (h : Cut n c c') {s : SV} {u : Value} (hb : s.below n) (r : s.rel c u) : s.rel c' u := by
  cases s with
  | val v => exact r
  | data k x => exact K.rep_mono (fun b hb => ⟨h.ok b hb, by rw [h.w]⟩) _ _ _ r
  | osl id off len =>
    obtain ⟨o, o', h1, h2, h3⟩ := h.heap id hb
    simp only [SV.rel, h1, h2, h.blk id hb, h.w] at r ⊢
    rcases h3 with rfl | rfl | ⟨m, t, cs, cs', rfl, rfl⟩
    · exact r
    · trivial
    · exact r
  | ref id off =>
    obtain ⟨o, o', h1, h2, h3⟩ := h.heap id hb
    simp only [SV.rel, h1, h2, h.blk id hb] at r ⊢
    rcases h3 with rfl | rfl | ⟨m, t, cs, cs', rfl, rfl⟩
    · exact r
    · trivial
    · exact r
  | eref id i off =>
    obtain ⟨o, o', h1, h2, h3⟩ := h.heap id hb
    simp only [SV.rel, h1, h2, h.blk id hb] at r ⊢
    rcases h3 with rfl | rfl | ⟨m, t, cs, cs', rfl, rfl⟩
    · exact r
    · trivial
    · exact r
  | void => exact r
  | clo f fs cs =>
    obtain ⟨vs, ws, rfl, h1, h2⟩ := r
    refine ⟨vs, ws, rfl, ?_, ?_⟩
    · exact All2.lvcut h hb.1 h1
    · exact All2.lvcut h hb.2 h2
  | junk => trivial
theorem All2.svcut {n : Nat} {c c' : RC} (h : Cut n c c') : ∀ {fs : List SV} {vs : List Value}, (∀ l ∈ fs, l.below n) → All2 (SV.rel c) fs vs → All2 (SV.rel c') fs vs
  | _, _, _, .nil => .nil
  | _, _, hb, .cons h1 h2 => .cons (SV.cut h (hb _ List.mem_cons_self) h1) (All2.svcut h (fun l hl => hb l (List.mem_cons_of_mem _ hl)) h2)

theorem XV.cut {n : Nat} {c c' : RC} (h : Cut n c c') {s : XV} {u : Value} (hb : s.below n) (r : s.rel c u) : s.rel c' u := by
  cases s with
  | one s => exact SV.cut h hb r
  | agg cs => obtain ⟨vs, rfl, r⟩ := r; exact ⟨vs, rfl, All2.svcut h hb r⟩
  | dat k x => obtain ⟨vs, rfl, r⟩ := r; exact ⟨vs, rfl, K.rep_mono (fun b hb => ⟨h.ok b hb, by rw [h.w]⟩) _ _ _ r⟩

theorem All2.xvcut {n : Nat} {c c' : RC} (h : Cut n c c') : ∀ {fs : List XV} {vs : List Value}, (∀ l ∈ fs, l.below n) → All2 (XV.rel c) fs vs → All2 (XV.rel c') fs vs
  | _, _, _, .nil => .nil
  | _, _, hb, .cons h1 h2 => .cons (XV.cut h (hb _ List.mem_cons_self) h1) (All2.xvcut h (fun l hl => hb l (List.mem_cons_of_mem _ hl)) h2)

theorem EV.cut {n : Nat} {c c' : RC} (h : Cut n c c') {s : EV} {u : Value} (hb : s.below n) (r : s.rel c u) : s.rel c' u := by
  cases s with
  | x s => exact XV.cut h hb r
  | tup cs => obtain ⟨vs, rfl, r⟩ := r; exact ⟨vs, rfl, All2.xvcut h hb r⟩

end Go.Lift

/- How a state of a run becomes a typed one: at the head of a loop, at a join. Own work. -/
set_option linter.unusedVariables false
set_option linter.unusedSimpArgs false
namespace Go.Lift

inductive Loc where
  | slot (t : Nat)
  | cell (id j : Nat)

inductive CK where
  | data (k : K)
  | row (t : TypeId) (e : K)

def CK.T : CK → Type
  | .data k => k.T
  | .row _ e => List e.T

def CS : List (Loc × CK) → Type
  | [] => Unit
  | l :: ls => l.2.T × CS ls

def OS : List (Nat × TypeId × K) → Type
  | [] => Unit
  | o :: os => List o.2.2.T × OS os

def setCell (h : List HObj) (id j : Nat) (s : SV) : List HObj := match h[id]? with
  | some (.box m t cs) => h.set id (.box m t (cs.set j s))
  | _ => h

def Loc.put (s : St) : Loc → XV → St
  | .slot t, v => ⟨s.env.set t (.x v), s.heap⟩
  | .cell id j, .one x => ⟨s.env, setCell s.heap id j x⟩
  | .cell id j, _ => ⟨s.env, setCell s.heap id j .junk⟩

def Loc.get (s : St) : Loc → Option XV
  | .slot t => match s.env[t]? with
    | some (.x v) => some v
    | _ => none
  | .cell id j => match s.heap[id]? with
    | some (.box _ _ cs) => match cs[j]? with
      | some x => some (.one x)
      | none => none
    | _ => none

abbrev Mvs := List (Option Nat × HObj)

def grab1 (s : St) (l : Loc) : (k : CK) → (k.T → Mvs → Prop) → Prop
  | .data k, K => match l.get s with
    | some v => match v.take [] k with
      | some x => K x []
      | none => False
    | none => False
  | .row t e, K => match l.get s with
    | some (.one (.osl id off len)) => match s.heap[id]? with
      | some (.row .rw t' e' xs) => if q : e' = e then (if t' = t then (off = 0 ∧ len = List.length xs) ∧ K (q ▸ xs) [(some id, .row .rw t e (q ▸ xs))] else False) else False
      | _ => False
    | some (.one (.val v)) => if isNilS v then K [] [(none, .row .rw t e [])] else False
    | some (.one .void) => K [] [(none, .row .rw t e [])]
    | _ => False

def grabs (s : St) : (ls : List (Loc × CK)) → (CS ls → Mvs → Prop) → Prop
  | [], K => K () []
  | l :: ls, K => grab1 s l.1 l.2 fun x m => grabs s ls fun y m' => K (x, y) (m ++ m')

def grabO (h : List HObj) : (os : List (Nat × TypeId × K)) → (OS os → Prop) → Prop
  | [], K => K ()
  | (id, t, e) :: os, K => match h[id]? with
    | some (.row .rw t' e' xs) => if q : e' = e then (if t' = t then grabO h os fun y => K (q ▸ xs, y) else False) else False
    | _ => False

def placeO : (os : List (Nat × TypeId × K)) → OS os → List HObj → List HObj
  | [], _, h => h
  | (id, t, e) :: os, x, h => placeO os x.2 (h.set id (.row .rw t e x.1))

def CK.rows : (k : CK) → k.T → List HObj
  | .data _, _ => []
  | .row t e, xs => [.row .rw t e xs]

def rowsOf : (ls : List (Loc × CK)) → CS ls → List HObj
  | [], _ => []
  | l :: ls, x => l.2.rows x.1 ++ rowsOf ls x.2

def CK.val (n : Nat) : (k : CK) → k.T → XV
  | .data k, x => XV.ofData k x
  | .row _ _, xs => .one (.osl n 0 (List.length xs))

def CK.n : CK → Nat
  | .data _ => 0
  | .row _ _ => 1

def places : (n : Nat) → (ls : List (Loc × CK)) → CS ls → St → St
  | _, [], _, s => s
  | n, l :: ls, x, s => places (n + l.2.n) ls x.2 (l.1.put s (l.2.val n x.1))

def kill (ms : Mvs) (h : List HObj) : List HObj := ms.foldl (fun h m => match m.1 with | some id => h.set id .dead | none => h) h
def mask (ls : List (Loc × CK)) (s : St) : St := ls.foldl (fun s l => l.1.put s (.one .junk)) s
def maskE (js : List Nat) (env : List EV) : List EV := js.foldl (fun e t => e.set t .junk) env

def elemB (x : Nat) : List Nat → Bool
  | [] => false
  | y :: l => if Nat.beq x y then true else elemB x l
def distB : List Nat → Bool
  | [] => true
  | x :: l => if elemB x l then false else distB l
def srcs (ms : Mvs) : List Nat := ms.filterMap (·.1)

def cellsLt (n : Nat) : List (Loc × CK) → Bool
  | [] => true
  | (.cell id _, _) :: ls => if Nat.blt id n then cellsLt n ls else false
  | (.slot _, _) :: ls => cellsLt n ls

/-- The head of a loop. -/
def headSt (n : Nat) (ls : List (Loc × CK)) (os : List (Nat × TypeId × K)) (env1 : List EV) (h1 : List HObj) (x : CS ls) (y : OS os) : St :=
  places n ls x ⟨env1, placeO os y h1 ++ rowsOf ls x⟩

def Adopt (n : Nat) (ls : List (Loc × CK)) (os : List (Nat × TypeId × K)) (s : St) (K : List HObj → CS ls → OS os → Prop) : Prop :=
  if cellsLt n ls then
    grabs s ls fun x m => grabO s.heap os fun y =>
      if distB (srcs m) then K ((mask ls ⟨s.env, kill m s.heap⟩).heap.take n) x y
      else False
  else False

/-! ### What a state that is masked still is -/

def Sim : HObj → HObj → Prop
  | o, o' => o' = o ∨ o' = .dead ∨ ∃ m t cs cs', o = .box m t cs ∧ o' = .box m t cs' ∧ cs'.length = cs.length

theorem Sim.refl (o : HObj) : Sim o o := .inl rfl
theorem Sim.trans {a b c : HObj} (h : Sim a b) (h' : Sim b c) : Sim a c := by
  rcases h' with rfl | rfl | ⟨m, t, cs, cs', rfl, rfl, hl⟩
  · exact h
  · exact .inr (.inl rfl)
  · rcases h with h | h | ⟨m', t', ds, ds', rfl, h, hl'⟩
    · subst h; exact .inr (.inr ⟨m, t, cs, cs', rfl, rfl, hl⟩)
    · cases h
    · cases h; exact .inr (.inr ⟨m, t, ds, cs', rfl, rfl, hl.trans hl'⟩)

theorem Sim.ev {o o' : HObj} (h : Sim o o') : o.ev o' := by
  rcases h with rfl | rfl | ⟨m, t, cs, cs', rfl, rfl, hl⟩
  · exact HObj.ev_refl _
  · cases o <;> first | trivial | rfl | exact .inl rfl
  · exact .inr ⟨m, cs', rfl, hl, .inl rfl⟩

theorem Sim.md {o o' : HObj} (h : Sim o o') {m : Md} (hm : o'.md? = some m) : o.md? = some m := by
  rcases h with rfl | rfl | ⟨m, t, cs, cs', rfl, rfl, hl⟩
  · exact hm
  · cases hm
  · exact hm

/-- A heap that says less of the same. -/
structure Less (c : RC) (h : List HObj) : Prop where
  len : h.length = c.heap.length
  sim : ∀ (id : Nat) (o : HObj), c.heap[id]? = some o → ∃ o2, h[id]? = some o2 ∧ Sim o o2
  rel : ∀ (id : Nat) (o : HObj), h[id]? = some o → o.rel c id

theorem Less.refl {c : RC} (hi : c.Inv) : Less c c.heap := ⟨rfl, fun id o h => ⟨o, h, .refl o⟩, hi.objs⟩

theorem Less.dead {c : RC} {h : List HObj} (hl : Less c h) (id : Nat) : Less c (h.set id .dead) := by
  refine ⟨by simp [hl.len], fun j o hj => ?_, fun j o hj => ?_⟩
  · obtain ⟨o', h1, h2⟩ := hl.sim j o hj
    by_cases e : id = j
    · subst e; exact ⟨.dead, set_eq h1, .inr (.inl rfl)⟩
    · exact ⟨o', by rw [set_ne e]; exact h1, h2⟩
  · rcases set_get hj with ⟨rfl, rfl, _⟩ | ⟨_, hj⟩
    · trivial
    · exact hl.rel j o hj

theorem Less.kill {c : RC} : ∀ (ms : Mvs) {h : List HObj}, Less c h → Less c (Lift.kill ms h)
  | [], h, hl => hl
  | (some id, o) :: ms, h, hl => Less.kill ms (hl.dead id)
  | (none, o) :: ms, h, hl => Less.kill ms hl

theorem kill_dead {id : Nat} : ∀ (ms : Mvs) {h : List HObj}, id < h.length → (id ∈ srcs ms ∨ h[id]? = some .dead) → (Lift.kill ms h)[id]? = some .dead
  | [], h, hl, hm => by rcases hm with hm | hm; · cases hm
                        · exact hm
  | (some j, o) :: ms, h, hl, hm => by
    refine kill_dead ms (h := h.set j .dead) (by simpa using hl) ?_
    by_cases e : j = id
    · subst e; right; rw [List.getElem?_set]; simp [hl]
    · rcases hm with hm | hm
      · left
        simp only [srcs, List.filterMap_cons, List.mem_cons] at hm
        rcases hm with hm | hm
        · exact absurd hm.symm e
        · exact hm
      · right; rw [set_ne e]; exact hm
  | (none, o) :: ms, h, hl, hm => kill_dead ms (h := h) hl (by simpa [srcs] using hm)

theorem Less.junk {c : RC} {h : List HObj} (hl : Less c h) (id j : Nat) : Less c (setCell h id j .junk) := by
  unfold setCell
  split
  · rename_i m t cs ho
    refine ⟨by simp [hl.len], fun i o hi => ?_, fun i o hi => ?_⟩
    · obtain ⟨o', h1, h2⟩ := hl.sim i o hi
      by_cases e : id = i
      · subst e
        rw [ho] at h1; cases h1
        exact ⟨_, set_eq ho, h2.trans (.inr (.inr ⟨m, t, cs, _, rfl, rfl, by simp⟩))⟩
      · exact ⟨o', by rw [set_ne e]; exact h1, h2⟩
    · rcases set_get hi with ⟨rfl, rfl, _⟩ | ⟨_, hi⟩
      · obtain ⟨b, vs, h1, h2, h3⟩ := hl.rel _ _ ho
        refine ⟨b, vs, h1, h2, ?_⟩
        by_cases hj : j < vs.toList.length
        · have := h3.set j (a := .junk) (b := vs.toList[j]) trivial
          rwa [List.set_getElem_self] at this
        · rw [List.set_eq_of_length_le (by rw [h3.len]; omega)]; exact h3
      · exact hl.rel i o hi
  · exact hl

theorem setCell_dead {h : List HObj} {id i j : Nat} {s : SV} (hd : h[id]? = some .dead) : (setCell h i j s)[id]? = some .dead := by
  unfold setCell
  split
  · rename_i m t cs ho
    by_cases e : i = id
    · subst e; rw [hd] at ho; cases ho
    · rw [set_ne e]; exact hd
  · exact hd

theorem mask_less {c : RC} : ∀ (ls : List (Loc × CK)) {s : St}, Less c s.heap → Less c (mask ls s).heap
  | [], s, hl => hl
  | (.slot t, k) :: ls, s, hl => mask_less ls (s := ⟨s.env.set t (.x (.one .junk)), s.heap⟩) hl
  | (.cell id j, k) :: ls, s, hl => mask_less ls (s := ⟨s.env, setCell s.heap id j .junk⟩) (hl.junk id j)

theorem mask_dead {id : Nat} : ∀ (ls : List (Loc × CK)) {s : St}, s.heap[id]? = some .dead → (mask ls s).heap[id]? = some .dead
  | [], s, hl => hl
  | (.slot t, k) :: ls, s, hl => mask_dead ls (s := ⟨s.env.set t (.x (.one .junk)), s.heap⟩) hl
  | (.cell id j, k) :: ls, s, hl => mask_dead ls (s := ⟨s.env, setCell s.heap id j .junk⟩) (setCell_dead hl)

theorem EnvRel.junk {c : RC} {env : List EV} {tmps : Array Value} (h : EnvRel c env tmps) (t : Nat) : EnvRel c (env.set t .junk) tmps := by
  refine ⟨by simp [h.1], fun i e hi => ?_⟩
  rcases set_get hi with ⟨rfl, rfl, hl⟩ | ⟨_, hi⟩
  · exact ⟨tmps[t]'(by rw [← h.1]; exact hl), by simp, trivial⟩
  · exact h.2 i e hi

theorem maskE_rel {c : RC} {tmps : Array Value} : ∀ (js : List Nat) {env : List EV}, EnvRel c env tmps → EnvRel c (maskE js env) tmps
  | [], env, h => h
  | j :: js, env, h => maskE_rel js (h.junk j)

theorem mask_env {c : RC} {tmps : Array Value} : ∀ (ls : List (Loc × CK)) {s : St}, EnvRel c s.env tmps → EnvRel c (mask ls s).env tmps
  | [], s, h => h
  | (.slot t, k) :: ls, s, h => mask_env ls (s := ⟨s.env.set t (.x (.one .junk)), s.heap⟩) (h.junk t)
  | (.cell id j, k) :: ls, s, h => mask_env ls (s := ⟨s.env, setCell s.heap id j .junk⟩) h

end Go.Lift

/- The adoption of a state by a typed one is sound. Own work. -/
set_option linter.unusedVariables false
set_option linter.unusedSectionVars false
set_option linter.unusedSimpArgs false
namespace Go.Lift

/-- What is asked of what is carried away. -/
def MvOk (c : RC) (m : Option Nat × HObj) : Prop := match m with
  | (some id, o) => c.heap[id]? = some o ∧ o.md? = some .rw ∧ ∃ t e xs, o = .row .rw t e xs
  | (none, o) => ∃ t e, o = .row .rw t e []

/-- The state in which the rows stand behind 'n' objects. -/
def RC.cut (c : RC) (n : Nat) (hA : List HObj) (ms : Mvs) : RC where
  w := c.w
  heap := hA ++ ms.map (·.2)
  blk := fun id => if id < n then c.blk id else match ms[id - n]? with
    | some (some j, _) => c.blk j
    | _ => none
  base := c.base

theorem distB_ne : ∀ {l : List Nat}, distB l = true → ∀ (i j x : Nat), l[i]? = some x → l[j]? = some x → i = j
  | [], h, i, j, x, h1, _ => by simp at h1
  | y :: l, h, i, j, x, h1, h2 => by
    simp only [distB] at h
    split at h
    · cases h
    · rename_i hn
      have key : ∀ (l : List Nat), elemB y l ≠ true → ∀ i : Nat, l[i]? ≠ some y := by
        intro l
        induction l with
        | nil => intro _ i h; simp at h
        | cons z l ih =>
          intro hn i h
          simp only [elemB] at hn
          split at hn
          · exact hn rfl
          · rename_i hz
            cases i with
            | zero => simp at h; subst h; exact hz (Nat.beq_refl _)
            | succ i => exact ih hn i (by simpa using h)
      cases i with
      | zero =>
        simp at h1; subst h1
        cases j with
        | zero => rfl
        | succ j => exact absurd (by simpa using h2) (key l hn j)
      | succ i =>
        cases j with
        | zero => simp at h2; subst h2; exact absurd (by simpa using h1) (key l hn i)
        | succ j => rw [distB_ne h i j x (by simpa using h1) (by simpa using h2)]

theorem srcs_dist : ∀ {ms : Mvs}, distB (srcs ms) = true → ∀ (i j x : Nat) (o o' : HObj), ms[i]? = some (some x, o) → ms[j]? = some (some x, o') → i = j
  | [], _, i, j, x, o, o', h1, _ => by simp at h1
  | (none, z) :: ms, h, i, j, x, o, o', h1, h2 => by
    cases i with
    | zero => simp at h1
    | succ i => cases j with
      | zero => simp at h2
      | succ j => rw [srcs_dist (ms := ms) (by simpa [srcs] using h) i j x o o' (by simpa using h1) (by simpa using h2)]
  | (some y, z) :: ms, h, i, j, x, o, o', h1, h2 => by
    have h' : distB (y :: srcs ms) = true := by simpa [srcs] using h
    have mem : ∀ (i : Nat) (o : HObj), ms[i]? = some (some y, o) → elemB y (srcs ms) = true := by
      have hmem : ∀ (l : List Nat), y ∈ l → elemB y l = true := by
        intro l
        induction l with
        | nil => intro h; cases h
        | cons a l ih =>
          intro h
          simp only [elemB]
          split
          · rfl
          · rename_i hn
            cases h with
            | head => exact absurd (Nat.beq_refl _) hn
            | tail _ h => exact ih h
      intro i o hi
      refine hmem _ ?_
      simp only [srcs, List.mem_filterMap]
      exact ⟨_, List.mem_of_getElem? hi, rfl⟩
    simp only [distB] at h'
    split at h'
    · cases h'
    · rename_i hn
      cases i with
      | zero =>
        have e1 := Option.some.inj (show some (some y, z) = some (some x, o) from by simpa using h1)
        cases e1
        cases j with
        | zero => rfl
        | succ j => exact absurd (mem j o' (by simpa using h2)) hn
      | succ i =>
        cases j with
        | zero =>
          have e1 := Option.some.inj (show some (some y, z) = some (some x, o') from by simpa using h2)
          cases e1
          exact absurd (mem i o (by simpa using h1)) hn
        | succ j => rw [srcs_dist h' i j x o o' (by simpa using h1) (by simpa using h2)]

section
variable {c : RC} (hi : c.Inv) {n : Nat} {h2 : List HObj} {ms : Mvs} (hn : n ≤ c.heap.length) (hL : Less c h2) (hk : ∀ id, id ∈ srcs ms → h2[id]? = some .dead)
  (hm : ∀ m ∈ ms, MvOk c m) (hd : distB (srcs ms) = true) (hb : ∀ (id : Nat) (o : HObj), (h2.take n)[id]? = some o → o.below n)
include hi hn hL hk hm hd

theorem cut_lt {id : Nat} {o : HObj} (h : id < n) : (c.cut n (h2.take n) ms).heap[id]? = h2[id]? := by
  simp only [RC.cut]
  rw [List.getElem?_append_left (by rw [List.length_take, hL.len]; omega), List.getElem?_take, if_pos h]

theorem cut_ge {id : Nat} (h : n ≤ id) : (c.cut n (h2.take n) ms).heap[id]? = (ms[id - n]?).map (·.2) := by
  simp only [RC.cut]
  rw [List.getElem?_append_right (by rw [List.length_take, hL.len]; omega), List.getElem?_map, List.length_take, hL.len, Nat.min_eq_left hn]

/-- A live object of the new state is one of the old. -/
theorem cut_src {id : Nat} {o : HObj} (h : (c.cut n (h2.take n) ms).heap[id]? = some o) (hl : o.live) :
    (∃ j o', c.heap[j]? = some o' ∧ o'.md? = o.md? ∧ (c.cut n (h2.take n) ms).blk id = c.blk j ∧ ((id < n ∧ j = id ∧ Sim o' o ∧ h2[id]? = some o) ∨ (n ≤ id ∧ o' = o ∧ ms[id - n]? = some (some j, o) ∧ o.md? = some .rw ∧ ∃ t e xs, o = .row .rw t e xs))) ∨
    (n ≤ id ∧ (c.cut n (h2.take n) ms).blk id = none ∧ ∃ t e, o = .row .rw t e []) := by
  rcases Nat.lt_or_ge id n with hlt | hge
  · rw [cut_lt hi hn hL hk hm hd (o := o) hlt] at h
    obtain ⟨o', h1, h3⟩ := hL.sim id _ (List.getElem?_eq_getElem (by omega))
    rw [h] at h1; cases h1
    obtain ⟨m, hmd⟩ := HObj.md_of_live hl
    exact .inl ⟨id, _, List.getElem?_eq_getElem (by omega), by rw [hmd, h3.md hmd], by simp [RC.cut, hlt], .inl ⟨hlt, rfl, h3, h⟩⟩
  · rw [cut_ge hi hn hL hk hm hd hge] at h
    cases hms : ms[id - n]? with
    | none => rw [hms] at h; cases h
    | some m =>
      rw [hms] at h
      obtain ⟨src, o'⟩ := m
      obtain rfl : o' = o := by simpa using h
      have := hm _ (List.mem_of_getElem? hms)
      cases src with
      | none => exact .inr ⟨hge, by simp [RC.cut, Nat.not_lt.2 hge, hms], this⟩
      | some j =>
        obtain ⟨h1, h3, h4⟩ := this
        exact .inl ⟨j, o', h1, rfl, by simp [RC.cut, Nat.not_lt.2 hge, hms], .inr ⟨hge, rfl, rfl, h3, h4⟩⟩

theorem cut_own {b : Nat} (h : (c.cut n (h2.take n) ms).own b) : c.own b := by
  obtain ⟨id, o, m, h1, h3, h4, h5⟩ := h
  rcases cut_src hi hn hL hk hm hd h1 (HObj.live_of_md h3) with ⟨j, o', e1, e2, e3, _⟩ | ⟨_, e, _⟩
  · exact ⟨j, o', m, e1, e2.trans h3, h4, by rw [← e3]; exact h5⟩
  · rw [e] at h5; cases h5

theorem cut_cut : Cut n c (c.cut n (h2.take n) ms) where
  w := rfl
  heap := fun id hid => by
    obtain ⟨o', h1, h3⟩ := hL.sim id _ (List.getElem?_eq_getElem (by omega))
    refine ⟨_, o', List.getElem?_eq_getElem (by omega), by rw [cut_lt hi hn hL hk hm hd (o := o') hid]; exact h1, ?_⟩
    rcases h3 with h | h | ⟨m, t, cs, cs', e1, e2, _⟩
    · exact .inl h
    · exact .inr (.inl h)
    · exact .inr (.inr ⟨m, t, cs, cs', e1, e2⟩)
  blk := fun id hid => by simp [RC.cut, hid]
  ok := fun b hb => ⟨hb.1, fun h => hb.2 (cut_own hi hn hL hk hm hd h)⟩

theorem cut_ext {c0 : RC} (he : Ext c0 c) (h0 : c0.heap.length = n) : Ext c0 (c.cut n (h2.take n) ms) where
  base := he.base
  size := he.size
  os := he.os
  tape := he.tape
  output := he.output
  keep := he.keep
  cells := he.cells
  blk := fun id o ho hp => by
    have : id < n := by rw [← h0]; exact get_lt ho
    rw [← he.blk id o ho hp]; simp [RC.cut, this]
  ev := fun id o ho => by
    have hid : id < n := by rw [← h0]; exact get_lt ho
    obtain ⟨o1, h1, e1⟩ := he.ev id o ho
    obtain ⟨o2, h3, e2⟩ := hL.sim id o1 h1
    exact ⟨o2, by rw [cut_lt hi hn hL hk hm hd (o := o2) hid]; exact h3, HObj.ev_trans e1 e2.ev⟩
  fresh := fun id o' b ho' hl hold hblk hb => by
    rcases cut_src hi hn hL hk hm hd ho' hl with ⟨j, o1, e1, e2, e3, h⟩ | ⟨_, e, _⟩
    · rw [e3] at hblk
      rcases h with ⟨_, rfl, _, _⟩ | ⟨hge, rfl, _, hrw, _⟩
      · exact he.fresh j o1 b e1 (by rw [HObj.live, e2]; exact hl) hold hblk hb
      · exact he.wr_back ⟨j, o1, e1, hrw, hblk⟩ hb
    · rw [e] at hblk; cases hblk

include hb
theorem cut_inv : (c.cut n (h2.take n) ms).Inv where
  objs := fun id o ho => by
    have C := cut_cut hi hn hL hk hm hd
    rcases Nat.lt_or_ge id n with hlt | hge
    · have h1 := ho
      rw [cut_lt hi hn hL hk hm hd (o := o) hlt] at h1
      have h3 := hL.rel id o h1
      have h4 := hb id o (by rw [List.getElem?_take, if_pos hlt]; exact h1)
      cases o with
      | pend => trivial
      | dead => trivial
      | box m t cs =>
        obtain ⟨b, vs, e1, e2, e3⟩ := h3
        exact ⟨b, vs, by rw [C.blk id hlt]; exact e1, e2, All2.svcut C h4 e3⟩
      | row m t e xs =>
        obtain ⟨e0, e⟩ := h3
        refine ⟨e0, ?_⟩
        rcases e with ⟨e1, e2⟩ | ⟨b, vs, fr, re, e1, e2, e3, e4⟩
        · exact .inl ⟨by rw [C.blk id hlt]; exact e1, e2⟩
        · exact .inr ⟨b, vs, fr, re, by rw [C.blk id hlt]; exact e1, e2, e3, Rows.mono (fun x cs => K.rep_mono (fun b hb => ⟨C.ok b hb, rfl⟩) _ x cs) e4⟩
    · by_cases hl : o.live
      · rcases cut_src hi hn hL hk hm hd ho hl with ⟨j, o1, e1, e2, e3, h⟩ | ⟨_, e, t, k, rfl⟩
        · rcases h with ⟨hlt, _⟩ | ⟨_, rfl, _, _, t, e, xs, rfl⟩
          · omega
          · obtain ⟨f0, f⟩ := hi.objs j _ e1
            refine ⟨f0, ?_⟩
            rcases f with ⟨f1, f2⟩ | ⟨b, vs, fr, re, f1, f2, f3, f4⟩
            · exact .inl ⟨e3.trans f1, f2⟩
            · exact .inr ⟨b, vs, fr, re, e3.trans f1, f2, f3, Rows.mono (fun x cs => K.rep_mono (fun b hb => ⟨C.ok b hb, rfl⟩) _ x cs) f4⟩
        · exact ⟨by simp [maxN], .inl ⟨e, rfl⟩⟩
      · cases o <;> first | trivial | exact absurd rfl hl
  inj := fun i j oi oj b h1 l1 h3 l3 b1 b3 => by
    rcases cut_src hi hn hL hk hm hd h1 l1 with ⟨i', oi', e1, e2, e3, h⟩ | ⟨_, e, _⟩
    · rcases cut_src hi hn hL hk hm hd h3 l3 with ⟨j', oj', g1, g2, g3, g⟩ | ⟨_, g, _⟩
      · have hij := hi.inj i' j' oi' oj' b e1 (by rw [HObj.live, e2]; exact l1) g1 (by rw [HObj.live, g2]; exact l3) (e3 ▸ b1) (g3 ▸ b3)
        subst hij
        rcases h with ⟨hlt, rfl, _, hd2⟩ | ⟨hge, rfl, hms, _⟩
        · rcases g with ⟨_, e, _⟩ | ⟨gge, rfl, gms, _⟩
          · exact e
          · have := hk i' (by simp only [srcs, List.mem_filterMap]; exact ⟨_, List.mem_of_getElem? gms, rfl⟩)
            rw [this] at hd2; cases hd2; exact absurd l1 (by simp [HObj.live, HObj.md?])
        · rcases g with ⟨glt, rfl, _, gd2⟩ | ⟨gge, rfl, gms, _⟩
          · have := hk i' (by simp only [srcs, List.mem_filterMap]; exact ⟨_, List.mem_of_getElem? hms, rfl⟩)
            rw [this] at gd2; cases gd2; exact absurd l3 (by simp [HObj.live, HObj.md?])
          · have := srcs_dist hd _ _ _ _ _ hms gms; omega
      · rw [g] at b3; cases b3
    · rw [e] at b1; cases b1
  base := fun id o b h1 l1 b1 => by
    rcases cut_src hi hn hL hk hm hd h1 l1 with ⟨i', oi', e1, e2, e3, h⟩ | ⟨_, e, _⟩
    · exact hi.base i' oi' b e1 (by rw [HObj.live, e2]; exact l1) (e3 ▸ b1)
    · rw [e] at b1; cases b1
  basele := hi.basele
end
end Go.Lift

/- The adoption of a state by a typed one: slots and cells. Own work. -/
set_option linter.unusedVariables false
set_option linter.unusedSimpArgs false
namespace Go.Lift

/-- What stands at a place. -/
def Has (c : RC) (tmps : Array Value) (p : Value → Prop) : Loc → Prop
  | .slot t => ∃ u, tmps[t]? = some u ∧ p u
  | .cell id j => ∃ b vs t u, c.blk id = some b ∧ c.w.heap[b]? = some (.cells vs t (0, 0)) ∧ vs.toList[j]? = some u ∧ p u

theorem get_has {c : RC} (hi : c.Inv) {env : List EV} {tmps : Array Value} (he : EnvRel c env tmps) (l : Loc) {v : XV} (h : l.get ⟨env, c.heap⟩ = some v) : Has c tmps (v.rel c) l := by
  cases l with
  | slot t =>
    simp only [Loc.get] at h
    split at h
    · rename_i v' hv
      cases h
      obtain ⟨u, h1, h2⟩ := he.2 _ _ hv
      exact ⟨u, h1, h2⟩
    · cases h
  | cell id j =>
    simp only [Loc.get] at h
    split at h
    · rename_i m t cs ho
      split at h
      · rename_i x hx
        cases h
        obtain ⟨b, vs, h1, h2, h3⟩ := hi.objs _ _ ho
        obtain ⟨u, h4, h5⟩ := h3.get j x hx
        exact ⟨b, vs, t, u, h1, h2, h4, h5⟩
      · cases h
    · cases h

theorem Has.mono {c c' : RC} {tmps : Array Value} {p p' : Value → Prop} {l : Loc} (hw : c'.w = c.w) (hb : ∀ id j, l = .cell id j → c'.blk id = c.blk id) (hp : ∀ u, p u → p' u) (h : Has c tmps p l) : Has c' tmps p' l := by
  cases l with
  | slot t => obtain ⟨u, h1, h2⟩ := h; exact ⟨u, h1, hp u h2⟩
  | cell id j => obtain ⟨b, vs, t, u, h1, h2, h3, h4⟩ := h; exact ⟨b, vs, t, u, by rw [hb id j rfl]; exact h1, by rw [hw]; exact h2, h3, hp u h4⟩

theorem cell_ok {c : RC} (hi : c.Inv) {id j : Nat} {m : Md} {t : TypeId} {cs : List SV} (ho : c.heap[id]? = some (.box m t cs)) {x : SV} (hx : Has c #[] (x.rel c) (.cell id j)) :
    RC.Inv { c with heap := c.heap.set id (.box m t (cs.set j x)) } ∧ Ext c { c with heap := c.heap.set id (.box m t (cs.set j x)) } := by
  have hlen : ∀ (i : Nat) (o : HObj), (c.heap.set id (.box m t (cs.set j x)))[i]? = some o → o.live → ∃ o', c.heap[i]? = some o' ∧ o'.live := by
    intro i o h hl
    rcases set_get h with ⟨rfl, rfl, _⟩ | ⟨_, h⟩
    · exact ⟨_, ho, rfl⟩
    · exact ⟨o, h, hl⟩
  have E : Ext c { c with heap := c.heap.set id (.box m t (cs.set j x)) } := {
    base := rfl, size := Nat.le_refl _, os := rfl, tape := rfl, output := rfl
    keep := fun _ _ _ => rfl
    cells := fun b vs t z h => ⟨vs, h, rfl⟩
    blk := fun _ _ _ _ => rfl
    ev := fun i o h => by
      by_cases e : id = i
      · subst e; rw [ho] at h; cases h
        exact ⟨_, set_eq ho, .inr ⟨m, _, rfl, by simp, .inl rfl⟩⟩
      · exact ⟨o, by simp only; rw [set_ne e]; exact h, HObj.ev_refl o⟩
    fresh := fun i o' b h hl hold _ _ => by
      obtain ⟨o, h1, h2⟩ := hlen i o' h hl
      exact absurd h2 (hold o h1) }
  refine ⟨?_, E⟩
  constructor
  · intro i o h
    rcases set_get h with ⟨rfl, rfl, _⟩ | ⟨hne, h⟩
    · obtain ⟨b, vs, h1, h2, h3⟩ := hi.objs _ _ ho
      obtain ⟨b', vs', t', u, g1, g2, g3, g4⟩ := hx
      rw [h1] at g1; cases g1
      rw [h2] at g2; cases g2
      refine ⟨b, vs, h1, h2, ?_⟩
      have h4 : All2 (SV.rel c) (cs.set j x) vs.toList := by
        have := h3.set j g4
        have hl := get_lt g3
        rw [show vs.toList.set j u = vs.toList from by
          apply List.ext_getElem?; intro i
          rw [List.getElem?_set]
          split
          · rename_i e; subst e; first | exact g3.symm | rw [if_pos hl, g3]
          · rfl] at this
        exact this
      exact h4.mono fun a b r => SV.rel_mono E r
    · exact HObj.rel_mono E h (fun _ _ _ => rfl) (hi.objs i o h)
  · intro i j oi oj b h1 l1 h2 l2 b1 b2
    obtain ⟨o1, e1, e2⟩ := hlen i oi h1 l1
    obtain ⟨o2, e3, e4⟩ := hlen j oj h2 l2
    exact hi.inj i j o1 o2 b e1 e2 e3 e4 b1 b2
  · intro i o b h1 l1 b1
    obtain ⟨o1, e1, e2⟩ := hlen i o h1 l1
    exact hi.base i o1 b e1 e2 b1
  · exact hi.basele

theorem put_ok {c : RC} (hi : c.Inv) {env : List EV} {tmps : Array Value} (he : EnvRel c env tmps) (l : Loc) (v : XV) (hv : Has c tmps (v.rel c) l) :
    RC.Inv { c with heap := (l.put ⟨env, c.heap⟩ v).heap } ∧ Ext c { c with heap := (l.put ⟨env, c.heap⟩ v).heap } ∧ EnvRel { c with heap := (l.put ⟨env, c.heap⟩ v).heap } (l.put ⟨env, c.heap⟩ v).env tmps := by
  cases l with
  | slot t =>
    refine ⟨hi, Ext.refl c, ?_⟩
    obtain ⟨u, h1, h2⟩ := hv
    refine ⟨by simp [Loc.put, he.1], fun i e h => ?_⟩
    simp only [Loc.put] at h
    rcases set_get h with ⟨rfl, rfl, _⟩ | ⟨_, h⟩
    · exact ⟨u, h1, h2⟩
    · exact he.2 i e h
  | cell id j =>
    have hx : ∃ x : SV, Loc.put ⟨env, c.heap⟩ (.cell id j) v = ⟨env, setCell c.heap id j x⟩ ∧ Has c #[] (x.rel c) (.cell id j) := by
      cases v with
      | one x => exact ⟨x, rfl, hv⟩
      | agg cs => exact ⟨.junk, rfl, Has.mono (l := .cell id j) (p' := (SV.junk).rel c) (c := c) (tmps := tmps) rfl (fun _ _ _ => rfl) (fun _ _ => trivial) hv⟩
      | dat k y => exact ⟨.junk, rfl, Has.mono (l := .cell id j) (p' := (SV.junk).rel c) (c := c) (tmps := tmps) rfl (fun _ _ _ => rfl) (fun _ _ => trivial) hv⟩
    obtain ⟨x, e, hx⟩ := hx
    rw [e]
    simp only [setCell]
    split
    · rename_i m t cs ho
      obtain ⟨h1, h2⟩ := cell_ok hi ho hx
      exact ⟨h1, h2, EnvRel.mono he h2⟩
    · exact ⟨hi, Ext.refl c, he⟩

def HasAll (c : RC) (tmps : Array Value) : (n : Nat) → (ls : List (Loc × CK)) → CS ls → Prop
  | _, [], _ => True
  | n, l :: ls, x => Has c tmps ((l.2.val n x.1).rel c) l.1 ∧ HasAll c tmps (n + l.2.n) ls x.2

theorem HasAll.mono {c c' : RC} {tmps : Array Value} (hw : c'.w = c.w) (hb : c'.blk = c.blk) (he : Ext c c') : ∀ (ls : List (Loc × CK)) (n : Nat) (x : CS ls), HasAll c tmps n ls x → HasAll c' tmps n ls x
  | [], _, _, _ => trivial
  | l :: ls, n, x, h => ⟨h.1.mono hw (fun _ _ _ => by rw [hb]) (fun u r => XV.rel_mono he r), HasAll.mono hw hb he ls _ _ h.2⟩

theorem places_ok : ∀ (ls : List (Loc × CK)) (n : Nat) (x : CS ls) {c : RC} (hi : c.Inv) {env : List EV} {tmps : Array Value} (he : EnvRel c env tmps) (h : HasAll c tmps n ls x),
    ∃ c' : RC, c'.w = c.w ∧ c'.Inv ∧ Ext c c' ∧ c'.heap = (places n ls x ⟨env, c.heap⟩).heap ∧ EnvRel c' (places n ls x ⟨env, c.heap⟩).env tmps
  | [], n, x, c, hi, env, tmps, he, h => ⟨c, rfl, hi, Ext.refl c, rfl, he⟩
  | l :: ls, n, x, c, hi, env, tmps, he, h => by
    obtain ⟨h1, h2, h3⟩ := put_ok hi he l.1 (l.2.val n x.1) h.1
    have hh : HasAll { c with heap := (l.1.put ⟨env, c.heap⟩ (l.2.val n x.1)).heap } tmps (n + l.2.n) ls x.2 := HasAll.mono (c := c) (c' := { c with heap := (l.1.put ⟨env, c.heap⟩ (l.2.val n x.1)).heap }) rfl rfl h2 ls _ _ h.2
    obtain ⟨c', e1, e2, e3, e4, e5⟩ := places_ok ls (n + l.2.n) x.2 h1 h3 hh
    exact ⟨c', e1, e2, h2.trans e3, e4, e5⟩

/-- What has been grabbed. -/
def GotAll (c : RC) (tmps : Array Value) : (ls : List (Loc × CK)) → CS ls → Mvs → Prop
  | [], _, m => m = []
  | (l, .data k) :: ls, x, m => Has c tmps (fun u => KRep c.w c.ok k x.1 u) l ∧ GotAll c tmps ls x.2 m
  | (l, .row t e) :: ls, x, m => ∃ src m', m = (src, .row .rw t e x.1) :: m' ∧ MvOk c (src, .row .rw t e x.1) ∧
      (match src with
        | some id => Has c tmps ((SV.osl id 0 (List.length x.1)).rel c) l
        | none => Has c tmps (fun u => ∃ A, u = .slice A 0 0) l ∧ x.1 = []) ∧ GotAll c tmps ls x.2 m'

theorem grabs_got {c : RC} (hi : c.Inv) {env : List EV} {tmps : Array Value} (he : EnvRel c env tmps) : ∀ (ls : List (Loc × CK)) {K : CS ls → Mvs → Prop}, grabs ⟨env, c.heap⟩ ls K → ∃ x m, K x m ∧ GotAll c tmps ls x m
  | [], K, h => ⟨(), [], h, rfl⟩
  | (l, .data k) :: ls, K, h => by
    simp only [grabs, grab1] at h
    split at h
    · rename_i v hv
      split at h
      · rename_i x hx
        obtain ⟨y, m, h1, h2⟩ := grabs_got hi he ls h
        exact ⟨(x, y), m, h1, (get_has hi he l hv).mono rfl (fun _ _ _ => rfl) (fun u r => XV.take0_rep hx r), h2⟩
      · exact h.elim
    · exact h.elim
  | (l, .row t e) :: ls, K, h => by
    simp only [grabs, grab1] at h
    split at h
    · rename_i id off len hv
      split at h
      · rename_i t' e' xs ho
        split at h
        · rename_i q; subst q
          split at h
          · rename_i q; subst q
            obtain ⟨⟨rfl, rfl⟩, h⟩ := h
            obtain ⟨y, m, h1, h2⟩ := grabs_got hi he ls h
            exact ⟨(xs, y), _, h1, some id, m, rfl, ⟨ho, rfl, _, _, _, rfl⟩, get_has hi he l hv, h2⟩
          · exact h.elim
        · exact h.elim
      · exact h.elim
    · rename_i v hv
      split at h
      · rename_i hn
        obtain ⟨y, m, h1, h2⟩ := grabs_got hi he ls h
        exact ⟨([], y), _, h1, none, m, rfl, ⟨_, _, rfl⟩, ⟨(get_has hi he l hv).mono rfl (fun _ _ _ => rfl) (fun u r => ⟨none, by rw [show u = v from r]; exact isNilS_eq hn⟩), rfl⟩, h2⟩
      · exact h.elim
    · rename_i hv
      obtain ⟨y, m, h1, h2⟩ := grabs_got hi he ls h
      exact ⟨([], y), _, h1, none, m, rfl, ⟨_, _, rfl⟩, ⟨get_has hi he l hv, rfl⟩, h2⟩
    · exact h.elim

theorem GotAll.rows {c : RC} {tmps : Array Value} : ∀ (ls : List (Loc × CK)) (x : CS ls) (m : Mvs), GotAll c tmps ls x m → m.map (·.2) = rowsOf ls x ∧ ∀ mm ∈ m, MvOk c mm
  | [], x, m, h => by obtain rfl : m = [] := h; exact ⟨rfl, fun _ h => by cases h⟩
  | (l, .data k) :: ls, x, m, h => by simpa [rowsOf, CK.rows] using GotAll.rows ls x.2 m h.2
  | (l, .row t e) :: ls, x, m, h => by
    obtain ⟨src, m', rfl, h1, _, h2⟩ := h
    obtain ⟨h3, h4⟩ := GotAll.rows ls x.2 m' h2
    exact ⟨by simp [rowsOf, CK.rows, h3], fun mm hm => (List.mem_cons.1 hm).elim (fun e => e ▸ h1) (h4 mm)⟩

theorem GotAll.has {c cA : RC} {n : Nat} {tmps : Array Value} (hc : Cut n c cA) {ms : Mvs}
    (hh : ∀ (i : Nat) (m : Option Nat × HObj), ms[i]? = some m → cA.heap[n + i]? = some m.2 ∧ cA.blk (n + i) = m.1.bind c.blk) :
    ∀ (ls : List (Loc × CK)) (i : Nat) (x : CS ls), cellsLt n ls = true → GotAll c tmps ls x (ms.drop i) → HasAll cA tmps (n + i) ls x
  | [], i, x, _, _ => trivial
  | (l, k) :: ls, i, x, hl, h => by
    have hcell : (∀ id j, l = .cell id j → cA.blk id = c.blk id) ∧ cellsLt n ls = true := by
      cases l with
      | slot t => exact ⟨fun _ _ h => (by cases h), hl⟩
      | cell id j =>
        simp only [cellsLt] at hl
        split at hl
        · rename_i hlt
          exact ⟨fun _ _ h => (by cases h; exact hc.blk id (by simpa using hlt)), hl⟩
        · cases hl
    cases k with
    | data k =>
      refine ⟨h.1.mono hc.w hcell.1 (fun u r => XV.ofData_rel (KRep.mono (w := c.w) (fun b hb => ⟨hc.ok b hb, by rw [hc.w]⟩) r)), ?_⟩
      exact GotAll.has hc hh ls i x.2 hcell.2 h.2
    | row t e =>
      obtain ⟨src, m', hm, h1, h2, h3⟩ := h
      have hi : ms[i]? = some (src, .row .rw t e x.1) := by
        have := congrArg (fun l => l[0]?) hm
        simpa using this
      have hd : ms.drop (i + 1) = m' := by
        have := congrArg List.tail hm
        simpa [List.tail_drop] using this
      obtain ⟨g1, g2⟩ := hh i _ hi
      refine ⟨?_, GotAll.has hc hh ls (i + 1) x.2 hcell.2 (by rw [hd]; exact h3)⟩
      cases src with
      | some id =>
        refine Has.mono hc.w hcell.1 (fun u r => ?_) h2
        have ho : c.heap[id]? = some (.row .rw t e x.1) := h1.1
        simp only [CK.val, XV.rel, SV.rel, g1] at r ⊢
        rw [ho] at r
        obtain ⟨A, cap, r1, r2, r3, r4⟩ := r
        refine ⟨A, cap, r1, r2, r3, ?_⟩
        rcases r4 with r4 | ⟨b, vs, r4, r5⟩
        · exact .inl r4
        · exact .inr ⟨b, vs, g2.trans r4, by rw [hc.w]; exact r5⟩
      | none =>
        refine Has.mono hc.w hcell.1 (fun u r => ?_) h2.1
        obtain ⟨A, rfl⟩ := r
        simp only [CK.val, XV.rel, SV.rel, g1, h2.2]
        exact ⟨A, 0, rfl, Nat.le_refl _, Nat.le_refl _, .inl rfl⟩

/-- ADOPTION. -/
theorem adopt_typed {c0 c : RC} (hi : c.Inv) (he0 : Ext c0 c) {n : Nat} (h0 : c0.heap.length = n) {env : List EV} {tmps : Array Value} (he : EnvRel c env tmps) {ls : List (Loc × CK)} {os : List (Nat × TypeId × K)}
    {K : List HObj → CS ls → OS os → Prop} (h : Adopt n ls os ⟨env, c.heap⟩ K) {env1 : List EV} (hE : EnvRel c env1 tmps) :
    ∃ h1 x y, K h1 x y ∧ (∀ (id : Nat) (o : HObj), h1[id]? = some o → o.rel c id) ∧
      ((∀ (t : Nat) (e : EV), env1[t]? = some e → e.below n) → (∀ (id : Nat) (o : HObj), h1[id]? = some o → o.below n) →
        ∃ c' : RC, c'.w = c.w ∧ c'.Inv ∧ Ext c0 c' ∧ c'.heap = (places n ls x ⟨env1, h1 ++ rowsOf ls x⟩).heap ∧ EnvRel c' (places n ls x ⟨env1, h1 ++ rowsOf ls x⟩).env tmps) := by
  have hn : n ≤ c.heap.length := by
    rcases Nat.lt_or_ge c.heap.length n with hlt | h
    · obtain ⟨o, ho, _⟩ := he0.ev c.heap.length _ (List.getElem?_eq_getElem (by omega))
      exact absurd (get_lt ho) (by omega)
    · exact h
  unfold Adopt at h
  split at h
  · rename_i hcl
    obtain ⟨x, m, h, hgot⟩ := grabs_got hi he ls h
    have hy : ∃ y, (if distB (srcs m) = true then K ((mask ls ⟨env, kill m c.heap⟩).heap.take n) x y else False) := by
      have key : ∀ (os : List (Nat × TypeId × Lift.K)) {K : OS os → Prop}, grabO c.heap os K → ∃ y, K y := by
        intro os
        induction os with
        | nil => intro K h; exact ⟨_, h⟩
        | cons o os ih =>
          obtain ⟨id, t, e⟩ := o
          intro K h
          simp only [grabO] at h
          split at h
          · split at h
            · split at h
              · obtain ⟨y, hy⟩ := ih h; exact ⟨_, hy⟩
              · exact h.elim
            · exact h.elim
          · exact h.elim
      exact key os h
    obtain ⟨y, h⟩ := hy
    split at h
    · rename_i hd
      have hL := mask_less ls (s := ⟨env, kill m c.heap⟩) (Less.kill m (Less.refl hi))
      obtain ⟨hrows, hm⟩ := hgot.rows
      have hk : ∀ id, id ∈ srcs m → (mask ls ⟨env, kill m c.heap⟩).heap[id]? = some .dead := by
        intro id hid
        refine mask_dead ls ?_
        refine kill_dead m ?_ (.inl hid)
        simp only [srcs, List.mem_filterMap] at hid
        obtain ⟨⟨src, o⟩, h1, h2⟩ := hid
        cases h2
        exact get_lt (hm _ h1).1
      refine ⟨_, x, y, h, fun id o ho => ?_, fun b1 b2 => ?_⟩
      · rw [List.getElem?_take] at ho
        split at ho
        · exact hL.rel id o ho
        · cases ho
      · have C := cut_cut hi hn hL hk hm hd
        have I := cut_inv hi hn hL hk hm hd b2
        have X := cut_ext hi hn hL hk hm hd he0 h0
        have hh : ∀ (i : Nat) (mm : Option Nat × HObj), m[i]? = some mm → (c.cut n ((mask ls ⟨env, kill m c.heap⟩).heap.take n) m).heap[n + i]? = some mm.2 ∧ (c.cut n ((mask ls ⟨env, kill m c.heap⟩).heap.take n) m).blk (n + i) = mm.1.bind c.blk := by
          intro i mm hmm
          refine ⟨by rw [cut_ge hi hn hL hk hm hd (by omega)]; simp [hmm], ?_⟩
          obtain ⟨src, o⟩ := mm
          simp only [RC.cut, if_neg (show ¬ n + i < n by omega), Nat.add_sub_cancel_left, hmm]
          cases src <;> rfl
        have E : EnvRel (c.cut n ((mask ls ⟨env, kill m c.heap⟩).heap.take n) m) env1 tmps := by
          refine ⟨hE.1, fun t e hte => ?_⟩
          obtain ⟨v, v1, v2⟩ := hE.2 t e hte
          exact ⟨v, v1, EV.cut C (b1 t e hte) v2⟩
        obtain ⟨c', e1, e2, e3, e4, e5⟩ := places_ok ls n x I E (GotAll.has C hh ls 0 x hcl (by simpa using hgot))
        have hheap : (c.cut n ((mask ls ⟨env, kill m c.heap⟩).heap.take n) m).heap = (mask ls ⟨env, kill m c.heap⟩).heap.take n ++ rowsOf ls x := by
          simp only [RC.cut, hrows]
        rw [hheap] at e4 e5
        exact ⟨c', e1, e2, X.trans e3, e4, e5⟩
    · exact h.elim
  · exact h.elim

end Go.Lift

/- Regions that draw their order: the order of the text serves. Own work. -/
set_option linter.unusedVariables false
set_option linter.unusedSimpArgs false
set_option linter.unusedSectionVars false
namespace Go.Lift

def runD (nm : Bool) (cx : Cx) (ops : Array Oper) (base : Nat) (A : List (List Nat)) : Nat → List Oper → List EV → List HObj → Nat → (List EV → List HObj → Prop) → Prop
  | _, [], env, h, _, k => k env h
  | n, o :: l, env, h, tgt, k => match o.guard with
    | none => if chk cx (okId cx ops base A n) o env then (aopN nm cx o env h tgt).wp fun ev us => runD nm cx ops base A (n + 1) l (putE env o.dst ev) (applyU h us) (tgt + nAlloc cx o) k else False
    | some (j, want) => match guardOf ops env j with
      | none => if gone ops env j then runD nm cx ops base A (n + 1) l (putE env o.dst .skip) h (tgt + nAlloc cx o) k else False
      | some (d, b) => Br b
        (match want with
          | true => if chk cx (okId cx ops base A n) o (env.set d (.val (.bool true))) then (aopN nm cx o (env.set d (.val (.bool true))) h tgt).wp fun ev us => runD nm cx ops base A (n + 1) l (putE (env.set d (.val (.bool true))) o.dst ev) (applyU h us) (tgt + nAlloc cx o) k else False
          | false => runD nm cx ops base A (n + 1) l (putE (env.set d (.val (.bool true))) o.dst .skip) h (tgt + nAlloc cx o) k)
        (match want with
          | true => runD nm cx ops base A (n + 1) l (putE (env.set d (.val (.bool false))) o.dst .skip) h (tgt + nAlloc cx o) k
          | false => if chk cx (okId cx ops base A n) o (env.set d (.val (.bool false))) then (aopN nm cx o (env.set d (.val (.bool false))) h tgt).wp fun ev us => runD nm cx ops base A (n + 1) l (putE (env.set d (.val (.bool false))) o.dst ev) (applyU h us) (tgt + nAlloc cx o) k else False)

theorem guardOf_get {ops : Array Oper} {env : List EV} {j : Nat} {d : Tmp} {b : Bool} (h : guardOf ops env j = some (d, b)) : env[d]? = some (.val (.bool b)) := by
  unfold guardOf at h
  split at h
  · split at h
    · rename_i hb; cases h; exact hb
    · cases h
  · cases h

theorem set_same {env : List EV} {d : Nat} {v : EV} (h : env[d]? = some v) : env.set d v = env := by
  apply List.ext_getElem?; intro i
  rw [List.getElem?_set]
  split
  · rename_i e; subst e; rw [if_pos (get_lt h), h]
  · rfl

theorem runD_chain {nm : Bool} {cx : Cx} {ops : Array Oper} {base : Nat} {A : List (List Nat)} : ∀ (l : List Oper) (n : Nat) (env : List EV) (h : List HObj) (tgt : Nat) {k : List EV → List HObj → Prop}, ops.toList.drop n = l → tgt = tgAt cx ops base n →
    runD nm cx ops base A n l env h tgt k → pchain cx ops base A (List.range' n l.length) ⟨env, h⟩ fun s => k s.env s.heap
  | [], n, env, h, tgt, k, _, _, hr => hr
  | o :: l, n, env, h, tgt, k, hl, ht, hr => by
    have ho : ops[n]? = some o := by
      have h0 := congrArg (fun l => l[0]?) hl
      rw [List.getElem?_drop] at h0
      simpa using h0
    have hl' : ops.toList.drop (n + 1) = l := by
      have h1 := congrArg List.tail hl
      rw [List.tail_drop] at h1
      simpa using h1
    have hn : nAt cx ops n = nAlloc cx o := by simp [nAt, ho]
    have next : ∀ (env : List EV) (h : List HObj), runD nm cx ops base A (n + 1) l env h (tgt + nAlloc cx o) k → pchain cx ops base A (List.range' (n + 1) l.length) ⟨env, h⟩ fun s => k s.env s.heap :=
      fun env h hr => runD_chain l (n + 1) env h _ hl' (by rw [tgAt_succ, hn, ht]) hr
    simp only [List.length_cons, List.range'_succ, pchain, pstep, ho, ← ht]
    unfold gres
    simp only [runD] at hr
    cases hg : o.guard with
    | none =>
      rw [hg] at hr
      simp only at hr ⊢
      split at hr
      · rename_i hc
        rw [if_pos hc]
        exact Res.wp_mono (fun ev us h => next _ _ h) (aopN_wp hr)
      · exact hr.elim
    | some jw =>
      obtain ⟨j, want⟩ := jw
      rw [hg] at hr
      simp only at hr ⊢
      split at hr
      · rename_i hgo
        try rw [hgo]
        try simp only
        split at hr
        · rename_i hgn
          rw [if_pos hgn]
          exact next _ _ hr
        · exact hr.elim
      · rename_i d b hgo
        try rw [hgo]
        have hd := guardOf_get hgo
        try simp only
        cases b with
        | true =>
          have hr := Br.t hr rfl
          rw [set_same hd] at hr
          cases want with
          | true =>
            rw [if_pos rfl]
            simp only at hr
            split at hr
            · rename_i hc
              rw [if_pos hc]
              exact Res.wp_mono (fun ev us h => next _ _ h) (aopN_wp hr)
            · exact hr.elim
          | false =>
            rw [if_neg (by simp)]
            exact next _ _ hr
        | false =>
          have hr := Br.f hr rfl
          rw [set_same hd] at hr
          cases want with
          | false =>
            rw [if_pos rfl]
            simp only at hr
            split at hr
            · rename_i hc
              rw [if_pos hc]
              exact Res.wp_mono (fun ev us h => next _ _ h) (aopN_wp hr)
            · exact hr.elim
          | true =>
            rw [if_neg (by simp)]
            exact next _ _ hr

/-! ### The check of a region -/

def deps (o : Oper) : List Nat := o.after.toList.filterMap fun e => if Region.binds .any e then some e.on else none

def depsOf (ops : Array Oper) (i : Nat) : List Nat := match ops[i]? with
  | some o => deps o
  | none => []

def mkAnc (ops : List Oper) : List (List Nat) := ops.foldl (fun acc o => acc ++ [(deps o).foldr (fun j l => j :: (acc.getD j [] ++ l)) [] |>.eraseDups]) []

def ancOk (ops : Array Oper) (A : List (List Nat)) (i : Nat) : Bool :=
  (A.getD i []).all (fun a => (depsOf ops i).any fun d => if Nat.beq a d then true else elemB a (A.getD d [])) && (depsOf ops i).all fun d => Nat.blt d i

def pairOk (ops : Array Oper) (A : List (List Nat)) (i j : Nat) : Bool :=
  if elemB i (A.getD j []) then true else match ops[i]?, ops[j]? with
    | some oi, some oj => oi.apart ops oj && (quietOp oi && quietOp oj || (pureOp oi || pureOp oj)) && !(elemB j (A.getD i []))
    | _, _ => true

def upTo : Nat → (Nat → Bool) → Bool
  | 0, _ => true
  | n + 1, p => if p n then upTo n p else false

def drawOk (ops : Array Oper) (A : List (List Nat)) : Bool := upTo ops.size (ancOk ops A) && upTo ops.size fun j => upTo j fun i => pairOk ops A i j

theorem upTo_spec : ∀ {n : Nat} {p : Nat → Bool}, upTo n p = true → ∀ i, i < n → p i = true
  | n + 1, p, h, i, hi => by
    simp only [upTo] at h
    split at h
    · rename_i hp
      rcases Nat.lt_or_ge i n with h' | h'
      · exact upTo_spec h i h'
      · have : i = n := by omega
        subst this; exact hp
    · cases h

theorem elemB_iff (x : Nat) : ∀ l : List Nat, elemB x l = true ↔ x ∈ l
  | [] => by simp [elemB]
  | y :: l => by
    simp only [elemB]
    by_cases h : x = y
    · subst h; simp
    · have : ¬ (Nat.beq x y = true) := by simpa using h
      rw [if_neg this, elemB_iff x l]
      simp [h]

theorem deps_mem {o : Oper} {e : Edge} (he : e ∈ o.after) (hb : Region.binds .any e = true) : e.on ∈ deps o :=
  List.mem_filterMap.2 ⟨e, by simpa using he, by rw [if_pos hb]⟩
theorem mem_deps {o : Oper} {d : Nat} (h : d ∈ deps o) : ∃ e ∈ o.after, Region.binds .any e = true ∧ e.on = d := by
  obtain ⟨e, he, hd⟩ := List.mem_filterMap.1 h
  split at hd
  · rename_i hb; cases hd; exact ⟨e, by simpa using he, hb, rfl⟩
  · cases hd

section
variable {P : Program} {cx : Cx} (hx : CxOk P cx)
include hx

theorem any_sound (ops : Array Oper) (base : Nat) (A : List (List Nat)) (hA : drawOk ops A = true) {k : List EV → List HObj → Prop} {Q : Exit → Act → World → Prop} {c0 : RC} {a0 : Act} {D : List Nat} (hD : ∀ o ∈ ops.toList, ∀ t, o.dst = some t → t ∈ D)
    (hq : ∀ (c' : RC) (env' : List EV) (a' : Act), k env' c'.heap → Ext c0 c' → c'.Inv → EnvRel c' env' a'.tmps → Kp D a0 a' → Q .normal a' c'.w) :
    ∀ (N : Nat) (l : List Nat) (listed : Array Bool) {c : RC} (hi : c.Inv) (hext : Ext c0 c) {env : List EV} {a : Act} (hdf : Kp D a0 a) (hg : GOk cx.glob c) (he : EnvRel c env a.tmps),
      l.length = N → listed.size = ops.size → (∀ i, i ∈ l ↔ i < ops.size ∧ listed.getD i true = false) → l.Pairwise (· < ·) →
      (∀ i, i < ops.size → listed.getD i false = true → ∀ d ∈ A.getD i [], listed.getD d false = true) →
      (∀ i ∈ l, ∀ j, j < nAt cx ops i → c.heap[tgAt cx ops base i + j]? = some .pend) →
      pchain cx ops base A l ⟨env, c.heap⟩ (fun s => k s.env s.heap) → wpAny P .any ops Q N listed a c.w := by
  obtain ⟨hA1, hA2⟩ := Bool.and_eq_true_iff.1 hA
  have anc1 : ∀ i, i < ops.size → ∀ d ∈ A.getD i [], ∃ d' ∈ depsOf ops i, d = d' ∨ d ∈ A.getD d' [] := by
    intro i hi d hd
    have h1 := (Bool.and_eq_true_iff.1 (upTo_spec hA1 i hi)).1
    have h2 := List.all_eq_true.1 h1 d hd
    obtain ⟨d', h3, h4⟩ := List.any_eq_true.1 h2
    refine ⟨d', h3, ?_⟩
    split at h4
    · rename_i h5; exact .inl (by simpa using h5)
    · exact .inr ((elemB_iff _ _).1 h4)
  have anc2 : ∀ i, i < ops.size → ∀ d ∈ depsOf ops i, d < i := by
    intro i hi d hd
    have h1 := (Bool.and_eq_true_iff.1 (upTo_spec hA1 i hi)).2
    simpa using List.all_eq_true.1 h1 d hd
  intro N
  induction N with
  | zero =>
    intro l listed c hi hext env a hdf hg he hlen hsz hl hs hLC hp h
    have hl0 : l = [] := List.eq_nil_of_length_eq_zero hlen
    subst hl0
    refine ⟨?_, hq c env a h hext hi he hdf⟩
    cases hr : Region.ready .any ops listed with
    | nil => rfl
    | cons j js =>
      obtain ⟨h1, o, h2, _⟩ := mem_ready.1 (show j ∈ Region.ready .any ops listed by rw [hr]; exact List.mem_cons_self)
      have := (hl j).2 ⟨lt_of_some h2, h1⟩
      cases this
  | succ N ih =>
    intro l listed c hi hext env a hdf hg he hlen hsz hl hs hLC hp h
    have readyL : ∀ i, i ∈ Region.ready .any ops listed → i ∈ l ∧ (∀ d ∈ depsOf ops i, listed.getD d false = true) := by
      intro i hir
      obtain ⟨h1, o, h2, h3⟩ := mem_ready.1 hir
      refine ⟨(hl i).2 ⟨lt_of_some h2, h1⟩, fun d hd => ?_⟩
      simp only [depsOf, h2] at hd
      obtain ⟨e, he, hb, rfl⟩ := mem_deps hd
      exact h3 e he hb
    refine ⟨fun hr => ?_, fun i hir => ?_⟩
    · cases l with
      | nil => cases hlen
      | cons i0 l =>
        obtain ⟨h1, h2⟩ := (hl i0).1 List.mem_cons_self
        have : i0 ∈ Region.ready .any ops listed := by
          refine mem_ready.2 ⟨h2, ops[i0], by simp [h1], fun e he hb => ?_⟩
          have hlt := anc2 i0 h1 e.on (by simp only [depsOf, Array.getElem?_eq_getElem h1]; exact deps_mem he hb)
          have hlt2 : e.on < ops.size := by omega
          cases hv : listed.getD e.on true with
          | false =>
            have hm := (hl e.on).2 ⟨hlt2, hv⟩
            rcases List.mem_cons.1 hm with hm | hm
            · omega
            · have := (List.pairwise_cons.1 hs).1 _ hm; omega
          | true =>
            have hsz2 : e.on < listed.size := by omega
            simp only [Array.getD_eq_getD_getElem?, Array.getElem?_eq_getElem hsz2, Option.getD_some] at hv ⊢
            exact hv
        rw [hr] at this; cases this
    · obtain ⟨hil, hdep⟩ := readyL i hir
      obtain ⟨hisz, hiun⟩ := (hl i).1 hil
      have ho : ops[i]? = some ops[i] := Array.getElem?_eq_getElem hisz
      have hanc : ∀ d ∈ A.getD i [], listed.getD d false = true := by
        intro d hd
        obtain ⟨d', h1, h2⟩ := anc1 i hisz d hd
        have h3 := hdep d' h1
        rcases h2 with rfl | h2
        · exact h3
        · exact hLC d' (by have := anc2 i hisz d' h1; omega) h3 d h2
      obtain ⟨pre, post, rfl⟩ := List.append_of_mem hil
      have hb := bubble (cx := cx) (base := base) ho post pre ⟨env, c.heap⟩ (fun r hr o hor => by
        have hri : r < i := by
          rw [List.pairwise_append] at hs
          exact hs.2.2 r hr i List.mem_cons_self
        have hp2 := upTo_spec (upTo_spec hA2 i hisz) r hri
        unfold pairOk at hp2
        have hrl := (hl r).1 (List.mem_append_left _ hr)
        split at hp2
        · rename_i he
          have := hanc r ((elemB_iff _ _).1 he)
          rw [getD_both hrl.2] at this; cases this
        · rename_i he
          rw [hor, ho] at hp2
          simp only [Bool.and_eq_true, Bool.or_eq_true, Bool.not_eq_true'] at hp2
          obtain ⟨⟨p1, p2⟩, p4⟩ := hp2
          exact ⟨by omega, p1, p2, fun hm => he ((elemB_iff _ _).2 hm), fun hm => by rw [(elemB_iff _ _).2 hm] at p4; cases p4⟩) h
      have hn : nAt cx ops i = nAlloc cx ops[i] := by simp [nAt, ho]
      have hnotin : i ∉ pre ∧ i ∉ post := by
        rw [List.pairwise_append] at hs
        refine ⟨fun hm => ?_, fun hm => ?_⟩
        · have := hs.2.2 i hm i List.mem_cons_self; omega
        · have := (List.pairwise_cons.1 hs.2.1).1 i hm; omega
      have hl2 : ∀ j, j ∈ pre ++ post ↔ j < ops.size ∧ (listed.setIfInBounds i true).getD j true = false := by
        intro j
        by_cases e : i = j
        · subst e
          refine ⟨fun hm => ?_, fun hm => ?_⟩
          · rcases List.mem_append.1 hm with hm | hm
            · exact absurd hm hnotin.1
            · exact absurd hm hnotin.2
          · have : i < listed.size := by omega
            simp [Array.getD_eq_getD_getElem?, Array.getElem?_setIfInBounds, this] at hm
        · rw [getD_set_ne true e, ← hl j]
          simp only [List.mem_append, List.mem_cons]
          constructor
          · rintro (h | h)
            · exact .inl h
            · exact .inr (.inr h)
          · rintro (h | h | h)
            · exact .inl h
            · exact absurd h.symm e
            · exact .inr h
      have hs2 : (pre ++ post).Pairwise (· < ·) := by
        rw [List.pairwise_append] at hs ⊢
        exact ⟨hs.1, (List.pairwise_cons.1 hs.2.1).2, fun a ha b hb => hs.2.2 a ha b (List.mem_cons_of_mem _ hb)⟩
      have hLC2 : ∀ j, j < ops.size → (listed.setIfInBounds i true).getD j false = true → ∀ d ∈ A.getD j [], (listed.setIfInBounds i true).getD d false = true := by
        intro j hj hjl d hd
        refine getD_set_true ?_
        by_cases e : i = j
        · subst e; exact hanc d hd
        · rw [getD_set_ne false e] at hjl; exact hLC j hj hjl d hd
      have hlen2 : (pre ++ post).length = N := by simp at hlen ⊢; omega
      unfold pstep at hb
      simp only [ho] at hb
      simp only [wpOp, ho]
      have keep : ∀ (us : List (Nat × HObj)) (c' : RC), c'.heap = applyU c.heap us → Touch c.heap (tgAt cx ops base i) (nAlloc cx ops[i]) us → ∀ r ∈ pre ++ post, ∀ j, j < nAt cx ops r → c'.heap[tgAt cx ops base r + j]? = some .pend := by
        intro us c' hh ht r hr j hj
        have hr2 : r ∈ pre ++ i :: post := by
          rcases List.mem_append.1 hr with h | h
          · exact List.mem_append_left _ h
          · exact List.mem_append_right _ (List.mem_cons_of_mem _ h)
        have hne : r ≠ i := by
          rintro rfl
          rcases List.mem_append.1 hr with h | h
          · exact hnotin.1 h
          · exact hnotin.2 h
        have hpd := hp r hr2 j hj
        rw [hh, applyU_ne _ _ _ fun u hu e => ?_]
        · exact hpd
        · rcases ht u hu with h | ⟨o, h1, h2⟩
          · rcases Nat.lt_or_ge r i with hlt | hge
            · have := tgAt_le cx ops base hlt; omega
            · have := tgAt_le cx ops base (show i < r by omega); omega
          · rw [e, hpd] at h1; cases h1; exact h2 rfl
      have run : (aop cx ops[i] env c.heap (tgAt cx ops base i)).wp (fun ev us => pchain cx ops base A (pre ++ post) ⟨putE env ops[i].dst ev, applyU c.heap us⟩ fun s => k s.env s.heap) →
          (ops[i]).wp P a c.w (wpAny P .any ops Q N (listed.setIfInBounds i true)) Q := by
        intro hw
        refine aop_sound hx hi hg he ops[i] (tgAt cx ops base i) (fun j hj => hp i hil j (by rw [hn]; exact hj)) (Res.wp_all (aop_touch cx ops[i] env c.heap _) hw) _ Q fun v w' hd => ?_
        obtain ⟨ev, us, c', ⟨hk, ht⟩, rfl, hh, hext', hinv, hrel⟩ := hd
        rw [← hh] at hk
        exact ih (pre ++ post) _ hinv (hext.trans hext') (a := a.put ops[i].dst v) (Kp.trans (Kp.put (hD ops[i] (by simp))) hdf) (GOk.mono hg hext') (EnvRel.put (EnvRel.mono he hext') ops[i].dst hrel) hlen2 (by simp [hsz]) hl2 hs2 hLC2 (keep us c' hh ht) hk
      have skip : pchain cx ops base A (pre ++ post) ⟨putE env ops[i].dst .skip, c.heap⟩ (fun s => k s.env s.heap) → wpAny P .any ops Q N (listed.setIfInBounds i true) (a.put ops[i].dst undef) c.w := by
        intro hw
        exact ih (pre ++ post) _ hi hext (a := a.put ops[i].dst undef) (Kp.trans (Kp.put (hD ops[i] (by simp))) hdf) hg (EnvRel.put he ops[i].dst (ev := .skip) rfl) hlen2 (by simp [hsz]) hl2 hs2 hLC2 (keep [] c rfl Touch.nil) hw
      unfold gres at hb
      cases hgd : (ops[i]).guard with
      | none =>
        rw [hgd] at hb
        have hw : Region.wanted ops[i] (yielded ops a.tmps) = true := by simp [Region.wanted, hgd]
        rw [if_pos hw]
        simp only at hb
        split at hb
        · exact .inl (run hb)
        · exact hb.elim
      | some jw =>
        obtain ⟨j, want⟩ := jw
        rw [hgd] at hb
        simp only at hb
        split at hb
        · split at hb
          · rename_i hgn
            have hw : Region.wanted ops[i] (yielded ops a.tmps) = false := by simp [Region.wanted, hgd, gone_spec he hgn]
            rw [if_neg (by rw [hw]; simp)]
            exact skip hb
          · exact hb.elim
        · rename_i d b hgo
          obtain ⟨hd, hy⟩ := guardOf_some he hgo
          have hw : Region.wanted ops[i] (yielded ops a.tmps) = (b == want) := by simp [Region.wanted, hgd, hy]
          split at hb
          · rename_i e
            rw [if_pos (by rw [hw]; simp [e])]
            split at hb
            · exact .inl (run hb)
            · exact hb.elim
          · rename_i e
            rw [if_neg (by rw [hw]; simpa using e)]
            exact skip hb
end
end Go.Lift

/- Code: what it comes to, and that this is sound. Own work. -/
set_option linter.unusedVariables false
set_option linter.unusedSimpArgs false
set_option linter.unusedSectionVars false
namespace Go.Lift

/-- A typed state: places that are carried; rows that are changed in place; objects that are given up. -/
structure LH where
  ls : List (Loc × CK)
  os : List (Nat × TypeId × K)
  dead : List Nat := []

structure Hn where
  loops : Nat → Option LH
  joins : Nat → Option LH
  binds : Nat → List Nat := fun _ => []
  inl : FuncId → Bool := fun _ => false
  unroll : Nat → Option Nat := fun _ => none
  named : Bool := false

def Hn.wk (hn : Hn) : Wk := ⟨hn.inl, hn.named⟩

/-- Numbers in slots get names of their own. -/
def bindE : List Nat → List EV → (List EV → Prop) → Prop
  | [], env, k => k env
  | t :: ts, env, k => match env[t]? with
    | some (.x (.one (.val (.int ik n)))) => ∀ m : Int, m = n → bindE ts (env.set t (.x (.one (.val (.int ik m))))) k
    | some (.x (.one (.val (.bool n)))) => ∀ m : Bool, m = n → bindE ts (env.set t (.x (.one (.val (.bool m))))) k
    | some (.x (.one (.val (.float fk n)))) => ∀ m : Nat, m = n → bindE ts (env.set t (.x (.one (.val (.float fk m))))) k
    | _ => bindE ts env k

theorem set_self {α : Type} {l : List α} {t : Nat} {x : α} (h : l[t]? = some x) : l.set t x = l := by
  apply List.ext_getElem?
  intro i
  by_cases e : t = i
  · subst e; rw [set_eq h, h]
  · rw [set_ne e]

theorem bindE_out : ∀ {ts : List Nat} {env : List EV} {k : List EV → Prop}, bindE ts env k → k env
  | [], _, _, h => h
  | t :: ts, env, k, h => by
    simp only [bindE] at h
    split at h
    · rename_i ik n e; have := bindE_out (h n rfl); rwa [set_self e] at this
    · rename_i n e; have := bindE_out (h n rfl); rwa [set_self e] at this
    · rename_i fk n e; have := bindE_out (h n rfl); rwa [set_self e] at this
    · exact bindE_out h

/-- The number of the first region. -/
def keyOf : Code → Option Nat
  | .region id _ _ => some id
  | .seq a b => match keyOf a with
    | some k => some k
    | none => keyOf b
  | .cond _ x y => match keyOf x with
    | some k => some k
    | none => keyOf y
  | .block _ c => keyOf c
  | .loop c => keyOf c
  | _ => none

/-- The slots that it writes. -/
def dsts : Code → List Nat
  | .region _ ops _ => ops.toList.filterMap (·.dst)
  | .seq a b => dsts a ++ dsts b
  | .cond _ x y => dsts x ++ dsts y
  | .block _ c => dsts c
  | .loop c => dsts c
  | _ => []

def refineE (env : List EV) (c : Operand) (b : Bool) : List EV := match c with
  | .tmp t => env.set t (.x (.one (.val (.bool b))))
  | _ => env

def boolOf : EV → Option Bool
  | .x (.one (.val (.bool b))) => some b
  | _ => none

def killL (ds : List Nat) (h : List HObj) : List HObj := ds.foldl (fun h id => h.set id .dead) h

/-- The same objects. -/
def HIs (h h' : List HObj) : Prop := h = h'

/-- So many rounds at most. -/
def unr (body : List EV → List HObj → (Exit → List EV → List HObj → Prop) → Prop) : Nat → List EV → List HObj → (Exit → List EV → List HObj → Prop) → Prop
  | 0, _, _, _ => False
  | n + 1, env, h, k => body env h fun e env' h' => match e with
    | .normal => unr body n env' h' k
    | e => k e env' h'

def aeval (cx : Cx) (hn : Hn) (call : CallEv) : Code → List EV → List HObj → (Exit → List EV → List HObj → Prop) → Prop
  | .skip, env, h, k => k .normal env h
  | .label _, env, h, k => k .normal env h
  | .exit id, env, h, k => k (.exit id) env h
  | .ret, env, h, k => k .ret env h
  | .region id ops draw, env, h, k => match draw with
    | false => runOps cx hn.wk call ops ops.toList env (h ++ List.replicate (allocs cx ops.toList) .pend) h.length (fun env h => bindE (hn.binds id) env fun env => k .normal env h)
    | true => if drawOk ops (mkAnc ops.toList) then
        runD hn.named cx ops h.length (mkAnc ops.toList) 0 ops.toList env (h ++ List.replicate (allocs cx ops.toList) .pend) h.length (fun env h => bindE (hn.binds id) env fun env => k .normal env h)
      else False
  | .seq a b, env, h, k => match (keyOf b).bind hn.joins with
    | none => aeval cx hn call a env h fun e env h => match e with
      | .normal => aeval cx hn call b env h k
      | e => k e env h
    | some l =>
      ∃ post : CS l.ls → OS l.os → Prop,
        aeval cx hn call a env h (fun e env' h' => match e with
          | .normal => Adopt h.length l.ls l.os ⟨env', h'⟩ fun h1 x y => HIs h1 (placeO l.os y (mask l.ls ⟨[], killL l.dead h⟩).heap) ∧ post x y
          | e => k e env' h') ∧
        ∀ x y, post x y → aeval cx hn call b (headSt h.length l.ls l.os (maskE (dsts a) env) (mask l.ls ⟨[], killL l.dead h⟩).heap x y).env
          (headSt h.length l.ls l.os (maskE (dsts a) env) (mask l.ls ⟨[], killL l.dead h⟩).heap x y).heap k
  | .cond c x y, env, h, k => match boolOf (cx.eval env c) with
    | some b => Br b (aeval cx hn call x (refineE env c true) h k) (aeval cx hn call y (refineE env c false) h k)
    | none => False
  | .block id c, env, h, k => aeval cx hn call c env h fun e env h => match e with
    | .exit id' => if id' = id then k .normal env h else k (.exit id') env h
    | e => k e env h
  | .loop c, env, h, k => match (keyOf c).bind hn.unroll with
    | some n => unr (fun env h k => aeval cx hn call c env h k) n env h k
    | none => match (keyOf c).bind hn.loops with
    | none => False
    | some l =>
      Adopt h.length l.ls l.os ⟨env, h⟩ fun h1 x0 y0 => HIs (placeO l.os y0 h1) h1 ∧
        ∃ (I : CS l.ls → OS l.os → Prop) (μ : CS l.ls → OS l.os → Nat), I x0 y0 ∧
          ∀ x y, I x y → aeval cx hn call c (headSt h.length l.ls l.os (maskE (dsts c) env) h1 x y).env (headSt h.length l.ls l.os (maskE (dsts c) env) h1 x y).heap fun e env' h' => match e with
            | .normal => Adopt h.length l.ls l.os ⟨env', h'⟩ fun h2 x' y' => HIs h2 (placeO l.os y' h1) ∧ I x' y' ∧ μ x' y' < μ x y
            | e => k e env' h'
  | _, _, _, _ => False

theorem Ext.pends {c : RC} (hi : c.Inv) (n : Nat) : Ext c { c with heap := c.heap ++ List.replicate n .pend } ∧ RC.Inv { c with heap := c.heap ++ List.replicate n .pend } := by
  have back : ∀ (i : Nat) (o : HObj), (c.heap ++ List.replicate n .pend)[i]? = some o → o.live → c.heap[i]? = some o := by
    intro i o h hl
    rw [List.getElem?_append] at h
    split at h
    · exact h
    · rw [List.getElem?_replicate] at h
      split at h
      · cases h; exact absurd hl (by simp [HObj.live, HObj.md?])
      · cases h
  have fwd : ∀ (i : Nat) (o : HObj), c.heap[i]? = some o → (c.heap ++ List.replicate n .pend)[i]? = some o := fun i o h => by
    rw [List.getElem?_append_left (get_lt h)]; exact h
  have E : Ext c { c with heap := c.heap ++ List.replicate n .pend } := {
    base := rfl, size := Nat.le_refl _, os := rfl, tape := rfl, output := rfl
    keep := fun _ _ _ => rfl
    cells := fun b vs t z h => ⟨vs, h, rfl⟩
    blk := fun _ _ _ _ => rfl
    ev := fun i o h => ⟨o, fwd i o h, HObj.ev_refl o⟩
    fresh := fun i o' b h hl hold _ _ => absurd hl (hold o' (back i o' h hl)) }
  refine ⟨E, ?_⟩
  constructor
  · intro i o h
    by_cases hl : o.live
    · exact HObj.rel_mono E (back i o h hl) (fun _ _ _ => rfl) (hi.objs i o (back i o h hl))
    · cases o <;> first | trivial | exact absurd rfl hl
  · intro i j oi oj b h1 l1 h2 l2 b1 b2
    exact hi.inj i j oi oj b (back _ _ h1 l1) l1 (back _ _ h2 l2) l2 b1 b2
  · intro i o b h1 l1 b1
    exact hi.base i o b (back _ _ h1 l1) l1 b1
  · exact hi.basele

theorem Less.killL {c : RC} : ∀ (ms : List Nat) {h : List HObj}, Less c h → Less c (Lift.killL ms h)
  | [], h, hl => hl
  | id :: ms, h, hl => Less.killL ms (hl.dead id)

theorem placeO_below {n : Nat} : ∀ (os : List (Nat × TypeId × K)) (y : OS os) (h : List HObj), (∀ (id : Nat) (o : HObj), h[id]? = some o → o.below n) → ∀ (id : Nat) (o : HObj), (placeO os y h)[id]? = some o → o.below n
  | [], _, h, hb, id, o, ho => hb id o ho
  | (i, t, e) :: os, y, h, hb, id, o, ho => placeO_below os y.2 _ (fun j o hj => by
      rcases set_get hj with ⟨rfl, rfl, _⟩ | ⟨_, hj⟩
      · trivial
      · exact hb j o hj) id o ho

theorem maskE_junk : ∀ (D : List Nat) (env : List EV) (t : Nat) (e : EV), (maskE D env)[t]? = some e → (t ∈ D ∧ e = .junk) ∨ env[t]? = some e
  | [], env, t, e, h => .inr h
  | d :: D, env, t, e, h => by
    rcases maskE_junk D (env.set d .junk) t e h with ⟨h1, h2⟩ | h1
    · exact .inl ⟨List.mem_cons_of_mem _ h1, h2⟩
    · rcases set_get h1 with ⟨rfl, rfl, _⟩ | ⟨_, h1⟩
      · exact .inl ⟨List.mem_cons_self, rfl⟩
      · exact .inr h1

theorem maskE_len : ∀ (D : List Nat) (env : List EV), (maskE D env).length = env.length
  | [], env => rfl
  | d :: D, env => by rw [show maskE (d :: D) env = maskE D (env.set d .junk) from rfl, maskE_len D]; simp

theorem keepE {c c' : RC} {D : List Nat} {env : List EV} {a a' : Act} (he : EnvRel c env a.tmps) (hx : Ext c c') (hk : Kp D a a') : EnvRel c' (maskE D env) a'.tmps := by
  refine ⟨by rw [maskE_len, he.1, hk.size], fun t e h => ?_⟩
  rcases maskE_junk D env t e h with ⟨h1, rfl⟩ | h1
  · have hl := get_lt h
    rw [maskE_len, he.1, ← hk.size] at hl
    exact ⟨a'.tmps[t], by simp [hl], trivial⟩
  · by_cases hd : t ∈ D
    · have hl := get_lt h1
      rw [he.1, ← hk.size] at hl
      have hj : ∀ (D : List Nat) (env : List EV), t ∈ D → t < env.length → (maskE D env)[t]? = some .junk := by
        intro D
        induction D with
        | nil => intro env h _; cases h
        | cons d D ih =>
          intro env h hl
          by_cases h2 : t ∈ D
          · exact ih (env.set d .junk) h2 (by simpa using hl)
          · have : t = d := by
              rcases List.mem_cons.1 h with h | h
              · exact h
              · exact absurd h h2
            subst this
            show (maskE D (env.set t .junk))[t]? = some .junk
            have h3 : (env.set t .junk)[t]? = some .junk := by rw [List.getElem?_set]; simp [hl]
            have key : ∀ (D : List Nat) (env : List EV), env[t]? = some .junk → (maskE D env)[t]? = some .junk := by
              intro D
              induction D with
              | nil => intro env h; exact h
              | cons d D ih =>
                intro env h
                refine ih _ ?_
                by_cases e : d = t
                · subst e; exact set_eq h
                · rw [set_ne e]; exact h
            exact key D _ h3
      rw [hj D env hd (get_lt h1)] at h
      cases h
      exact ⟨a'.tmps[t], by simp [hl], trivial⟩
    · obtain ⟨v, h2, h3⟩ := he.2 t e h1
      exact ⟨v, by rw [hk.get t hd]; exact h2, EV.rel_mono hx h3⟩

section
variable {P : Program} {cx : Cx} (hx : CxOk P cx) (hmix : P.follows .mixedOrders = true) (hn : Hn) {call : CallEv} (hcall : CallOk P cx call)
include hx hmix hcall

theorem region_sound (id : Nat) (ops : Array Oper) (draw : Bool) {D : List Nat} (hD : ∀ o ∈ ops.toList, ∀ t, o.dst = some t → t ∈ D) {c : RC} (hi : c.Inv) {env : List EV} {a : Act} (hg : GOk cx.glob c) (he : EnvRel c env a.tmps) {k : Exit → List EV → List HObj → Prop}
    (h : aeval cx hn call (.region id ops draw) env c.heap k) {Q : Exit → Act → World → Prop}
    (hq : ∀ (e : Exit) (c' : RC) (env' : List EV) (a' : Act), k e env' c'.heap → Ext c c' → c'.Inv → EnvRel c' env' a'.tmps → Kp D a a' → Q e a' c'.w) : (Code.region id ops draw).wp P Q a c.w := by
  obtain ⟨E1, I1⟩ := Ext.pends hi (allocs cx ops.toList)
  cases draw with
  | false =>
    simp only [aeval] at h
    refine wp_region ?_
    have := runOps_sound hx hcall ops ops.toList 0 (by simp) hD (c := { c with heap := c.heap ++ List.replicate (allocs cx ops.toList) .pend }) I1 (a := a) (GOk.mono hg E1) (EnvRel.mono he E1) (tgt := c.heap.length)
      (fun i hi => by simp [hi]) h (Q := Q) (fun c' env' a' h1 h2 h3 h4 h5 => hq .normal c' env' a' (bindE_out h1) (E1.trans h2) h3 h4 h5)
    rw [List.range_eq_range']
    simpa using this
  | true =>
    simp only [aeval] at h
    split at h
    · rename_i hd
      refine wp_region_any hmix ?_
      have E2 := E1.trans (Ext.grows (c := { c with heap := c.heap ++ List.replicate (allocs cx ops.toList) .pend }) (Grows.drew c.w))
      have I2 := RC.Inv.grows I1 (Grows.drew c.w)
      have hc := runD_chain ops.toList 0 env _ c.heap.length (by simp) (by simp [tgAt, allocs]) h
      refine any_sound hx ops c.heap.length (mkAnc ops.toList) hd (k := fun env h => bindE (hn.binds id) env fun env => k .normal env h) (c0 := c) (a0 := a) hD (fun c' env' a' h1 h2 h3 h4 h5 => hq .normal c' env' a' (bindE_out h1) h2 h3 h4 h5) ops.size (List.range' 0 ops.toList.length) _
        (c := { c with heap := c.heap ++ List.replicate (allocs cx ops.toList) .pend, w := c.w.drew }) I2 E2 (a := a) Kp.refl (GOk.mono hg E2) (EnvRel.mono he E2) (by simp) (by simp) ?_ ?_ ?_ ?_ hc
      · intro i
        simp only [List.mem_range', Array.getD_eq_getD_getElem?, Array.getElem?_replicate]
        constructor
        · rintro ⟨j, hj, rfl⟩
          have : 0 + 1 * j < ops.size := by simp at hj; omega
          exact ⟨this, by rw [if_pos this]; rfl⟩
        · rintro ⟨hlt, _⟩
          exact ⟨i, by simpa using hlt, by omega⟩
      · exact List.pairwise_lt_range'
      · intro i hi hl
        rw [getD_replicate_false] at hl; cases hl
      · intro i _ j hj
        have h1 : tgAt cx ops c.heap.length i + nAt cx ops i ≤ c.heap.length + allocs cx ops.toList := by
          rw [← tgAt_succ]
          unfold tgAt allocs
          have : ((ops.toList.take (i + 1)).map (nAlloc cx)).sum ≤ (ops.toList.map (nAlloc cx)).sum := by
            conv => rhs; rw [← List.take_append_drop (i + 1) ops.toList]
            rw [List.map_append, List.sum_append]; omega
          omega
        have h2 : c.heap.length ≤ tgAt cx ops c.heap.length i := by unfold tgAt; omega
        rw [List.getElem?_append_right (by omega), List.getElem?_replicate, if_pos (by omega)]
    · exact h.elim

theorem aeval_sound : ∀ (code : Code) {D : List Nat} (hD : ∀ t ∈ dsts code, t ∈ D) {c : RC} (hi : c.Inv) {env : List EV} {a : Act} (hg : GOk cx.glob c) (he : EnvRel c env a.tmps) {k : Exit → List EV → List HObj → Prop}
    (h : aeval cx hn call code env c.heap k) {Q : Exit → Act → World → Prop}
    (hq : ∀ (e : Exit) (c' : RC) (env' : List EV) (a' : Act), k e env' c'.heap → Ext c c' → c'.Inv → EnvRel c' env' a'.tmps → Kp D a a' → Q e a' c'.w), code.wp P Q a c.w := by
  intro code
  induction code with
  | skip => intro D hD c hi env a hg he k h Q hq; exact wp_skip (hq _ c env a h (Ext.refl c) hi he Kp.refl)
  | label l => intro D hD c hi env a hg he k h Q hq; exact wp_label (hq _ c env a h (Ext.refl c) hi he Kp.refl)
  | exit id => intro D hD c hi env a hg he k h Q hq; exact wp_exit (hq _ c env a h (Ext.refl c) hi he Kp.refl)
  | ret => intro D hD c hi env a hg he k h Q hq; exact wp_ret (hq _ c env a h (Ext.refl c) hi he Kp.refl)
  | region id ops draw =>
    intro D hD c hi env a hg he k h Q hq
    exact region_sound hx hmix hn hcall id ops draw (fun o ho t ht => hD t (List.mem_filterMap.2 ⟨o, ho, ht⟩)) hi hg he h hq
  | block id b ih =>
    intro D hD c hi env a hg he k h Q hq
    refine wp_block (ih hD hi hg he h fun e c' env' a' h1 h2 h3 h4 h5 => ?_)
    cases e with
    | exit id' =>
      simp only [Exit.inBlock] at h1 ⊢
      split
      · rename_i e; rw [if_pos e] at h1; exact hq _ c' env' a' h1 h2 h3 h4 h5
      · rename_i e; rw [if_neg e] at h1; exact hq _ c' env' a' h1 h2 h3 h4 h5
    | _ => exact hq _ c' env' a' h1 h2 h3 h4 h5
  | cond t x y ihx ihy =>
    intro D hD c hi env a hg he k h Q hq
    simp only [aeval] at h
    split at h
    · rename_i b hb
      have hv : a.eval t = .bool b := by
        have := eval_rel hg he t
        unfold boolOf at hb
        split at hb
        · rename_i b' he'; cases hb; rw [he'] at this; exact this
        · cases hb
      have hr : ∀ b', b = b' → EnvRel c (refineE env t b') a.tmps := by
        rintro b' rfl
        unfold refineE
        split
        · rename_i tm
          refine ⟨by simp [he.1], fun i e hi => ?_⟩
          rcases set_get hi with ⟨rfl, rfl, hl⟩ | ⟨_, hi⟩
          · refine ⟨a.tmps[tm]'(by rw [← he.1]; exact hl), by simp, ?_⟩
            have : a.tmps.getD tm undef = .bool b := hv
            simp only [Array.getD_eq_getD_getElem?] at this
            rw [Array.getElem?_eq_getElem (by rw [← he.1]; exact hl)] at this
            exact this
          · exact he.2 i e hi
        · exact he
      cases b with
      | true => exact wp_cond_true hv (ihx (fun t ht => hD t (List.mem_append_left _ ht)) hi hg (hr true rfl) (Br.true h rfl) hq)
      | false => exact wp_cond_false hv (ihy (fun t ht => hD t (List.mem_append_right _ ht)) hi hg (hr false rfl) (Br.false h rfl) hq)
    · exact h.elim
  | seq x y ihx ihy =>
    intro D hD c hi env a hg he k h Q hq
    have hDx : ∀ t ∈ dsts x, t ∈ D := fun t ht => hD t (List.mem_append_left _ ht)
    have hDy : ∀ t ∈ dsts y, t ∈ D := fun t ht => hD t (List.mem_append_right _ ht)
    have up : ∀ {a a' : Act}, Kp (dsts x) a a' → Kp D a a' := fun h => ⟨h.defers, h.size, fun t ht => h.get t fun hm => ht (hDx t hm)⟩
    simp only [aeval] at h
    split at h
    · refine wp_seq (ihx hDx hi hg he h fun e c' env' a' h1 h2 h3 h4 h5 => ?_)
      cases e with
      | normal => exact ihy hDy h3 (GOk.mono hg h2) h4 h1 (fun e c2 env2 a2 g1 g2 g3 g4 g5 => hq e c2 env2 a2 g1 (h2.trans g2) g3 g4 (g5.trans h5))
      | _ => exact hq _ c' env' a' h1 h2 h3 h4 h5
    · rename_i l hl
      obtain ⟨post, ha, hb⟩ := h
      have B1 : ∀ (t : Nat) (e : EV), (maskE (dsts x) env)[t]? = some e → e.below c.heap.length := by
        intro t e hte
        obtain ⟨v, _, hv⟩ := (maskE_rel (dsts x) he).2 t e hte
        exact EV.below_of hv
      have B2 : ∀ (id : Nat) (o : HObj), (mask l.ls ⟨[], killL l.dead c.heap⟩).heap[id]? = some o → o.below c.heap.length := by
        intro id o ho
        exact HObj.below_of ((mask_less l.ls (s := ⟨[], killL l.dead c.heap⟩) (Less.killL l.dead (Less.refl hi))).rel id o ho)
      refine wp_seq (ihx (D := dsts x) (fun t ht => ht) hi hg he ha fun e c' env' a' h1 h2 h3 h4 h5 => ?_)
      cases e with
      | normal =>
        obtain ⟨h1', x, y, ⟨rfl, hp⟩, _, hA⟩ := adopt_typed h3 h2 rfl h4 h1 (keepE he h2 h5)
        obtain ⟨c2, e1, e2, e3, e4, e5⟩ := hA B1 (placeO_below l.os y _ B2)
        have h6 := hb x y hp
        rw [show (headSt c.heap.length l.ls l.os (maskE (dsts _) env) (mask l.ls ⟨[], killL l.dead c.heap⟩).heap x y).heap = c2.heap from e4.symm] at h6
        have := ihy (a := a') hDy e2 (GOk.mono hg e3) e5 h6 (Q := Q) (fun e c3 env3 a3 g1 g2 g3 g4 g5 => hq e c3 env3 a3 g1 (e3.trans g2) g3 g4 (g5.trans (up h5)))
        rw [e1] at this
        exact this
      | _ => exact hq _ c' env' a' h1 h2 h3 h4 (up h5)
  | loop b ih =>
    intro D hD c hi env a hg he k h Q hq
    simp only [aeval] at h
    split at h
    · rename_i N hN
      have up : ∀ {a a' : Act}, Kp (dsts b) a a' → Kp D a a' := fun h => ⟨h.defers, h.size, fun t ht => h.get t fun hm => ht (hD t hm)⟩
      refine wp_loop_ghost (fun n a' w' => ∃ c' env', unr (fun env h k => aeval cx hn call b env h k) n env' c'.heap k ∧ c'.w = w' ∧ c'.Inv ∧ Ext c c' ∧ EnvRel c' env' a'.tmps ∧ Kp D a a') N ⟨c, env, h, rfl, hi, Ext.refl c, he, Kp.refl⟩ ?_
      rintro n a' w' ⟨c', env', hu, rfl, e2, e3, e5, e6⟩
      cases n with
      | zero => exact hu.elim
      | succ n =>
        refine ih (D := D) hD e2 (GOk.mono hg e3) e5 hu fun e c2 env2 a2 g1 g2 g3 g4 g5 => ?_
        cases e with
        | normal => exact ⟨n, Nat.lt_succ_self n, c2, env2, g1, rfl, g3, e3.trans g2, g4, g5.trans e6⟩
        | _ => exact hq _ c2 env2 a2 g1 (e3.trans g2) g3 g4 (g5.trans e6)
    split at h
    · exact h.elim
    · rename_i l hl
      have hE0 : EnvRel c (maskE (dsts b) env) a.tmps := maskE_rel (dsts b) he
      obtain ⟨h1, x0, y0, ⟨hpl, I, μ, h0, hstep⟩, hO1, hA⟩ := adopt_typed hi (Ext.refl c) rfl he h hE0
      have up : ∀ {a a' : Act}, Kp (dsts b) a a' → Kp D a a' := fun h => ⟨h.defers, h.size, fun t ht => h.get t fun hm => ht (hD t hm)⟩
      have B1 : ∀ (t : Nat) (e : EV), (maskE (dsts b) env)[t]? = some e → e.below c.heap.length := fun t e hte => by
        obtain ⟨v, _, hv⟩ := hE0.2 t e hte; exact EV.below_of hv
      have B2 : ∀ (id : Nat) (o : HObj), h1[id]? = some o → o.below c.heap.length := fun id o ho => HObj.below_of (hO1 id o ho)
      refine wp_loop_ghost (fun n a' w' => ∃ x y c', I x y ∧ μ x y = n ∧ c'.w = w' ∧ c'.Inv ∧ Ext c c' ∧ c'.heap = (headSt c.heap.length l.ls l.os (maskE (dsts b) env) h1 x y).heap ∧ EnvRel c' (headSt c.heap.length l.ls l.os (maskE (dsts b) env) h1 x y).env a'.tmps ∧ Kp (dsts b) a a') (μ x0 y0) ?_ ?_
      · obtain ⟨c', e1, e2, e3, e4, e5⟩ := hA B1 B2
        refine ⟨x0, y0, c', h0, rfl, e1, e2, e3, ?_, ?_, Kp.refl⟩
        · simp only [headSt, show placeO l.os y0 h1 = h1 from hpl]; exact e4
        · simp only [headSt, show placeO l.os y0 h1 = h1 from hpl]; exact e5
      · rintro n a' w' ⟨x, y, c', hI, rfl, rfl, e2, e3, e4, e5, e6⟩
        have h6 := hstep x y hI
        rw [← e4] at h6
        refine ih (D := dsts b) (fun t ht => ht) e2 (GOk.mono hg e3) e5 h6 fun e c2 env2 a2 g1 g2 g3 g4 g5 => ?_
        cases e with
        | normal =>
          obtain ⟨h3, x', y', ⟨rfl, hI', hlt⟩, _, hA'⟩ := adopt_typed g3 (e3.trans g2) rfl g4 g1 (keepE he (e3.trans g2) (g5.trans e6))
          obtain ⟨c3, f1, f2, f3, f4, f5⟩ := hA' B1 (placeO_below l.os y' _ B2)
          exact ⟨_, hlt, x', y', c3, hI', rfl, f1, f2, f3, f4, f5, g5.trans e6⟩
        | _ => exact hq _ c2 env2 a2 g1 (e3.trans g2) g3 g4 (up (g5.trans e6))
  | _ => intro D hD c hi env a hg he k h; exact h.elim
end
end Go.Lift

/- A function's contract from what its code comes to. Own work. -/
set_option linter.unusedVariables false
set_option linter.unusedSimpArgs false
set_option linter.unusedSectionVars false
namespace Go.Lift

def out1 (h : List HObj) (v : XV) : (r : RK) → (r.T → Mvs → Prop) → Prop
  | .own t e, K => if e.flat then match v with
    | .one (.osl id off len) => match h[id]? with
      | some (.row .rw t' e' xs) => if q : e' = e then (if t' = t then (off = 0 ∧ len = List.length xs) ∧ K (q ▸ xs) [(some id, .row .rw t e (q ▸ xs))] else False) else False
      | _ => False
    | .one (.val v) => if isNilS v then K [] [(none, .row .rw t e [])] else False
    | .one .void => K [] [(none, .row .rw t e [])]
    | _ => False
    else False
  | .snap k, K => if k.flat then match v.take [] k with
    | some x => K x []
    | none => False
    else False

/-- What a result variable in memory holds. -/
def cellX (cx : Cx) (h : List HObj) (t : TypeId) (e : EV) (K : XV → Prop) : Prop := (opLoad cx h t e).wp fun ev _ => match ev with
  | .x v => K v
  | _ => False

def outs (cx : Cx) (env : List EV) (h : List HObj) : (vars : List ResultVar) → (rs : List RK) → (RS rs → Mvs → Prop) → Prop
  | [], [], K => K () []
  | .tmp t :: vars, r :: rs, K => match env[t]? with
    | some (.x v) => out1 h v r fun x m => outs cx env h vars rs fun y m' => K (x, y) (m ++ m')
    | _ => False
  | .cell a t :: vars, r :: rs, K => cellX cx h t (env.getD a .junk) fun v => out1 h v r fun x m => outs cx env h vars rs fun y m' => K (x, y) (m ++ m')
  | _, _, _ => False

def argsE : (ks : List K) → KS ks → List EV
  | [], _ => []
  | k :: ks, x => .x (XV.ofData k x.1) :: argsE ks x.2

/-- WHAT A CALL COMES TO. -/
def fnEvalI (cx : Cx) (hn : Hn) (call : CallEv) (nt : Nat) (vars : List ResultVar) (code : Code) (ks : List K) (rs : List RK) (x : KS ks) (post : RS rs → Prop) : Prop :=
  aeval cx hn call code (argsE ks x ++ List.replicate (nt - ks.length) (.x (.one .junk))) [] fun e env h => match e with
    | .normal | .ret => outs cx env h vars rs fun r m => if distB (srcs m) then post r else False
    | _ => False

def fnEval (cx : Cx) (hn : Hn) (nt : Nat) (vars : List ResultVar) (code : Code) (ks : List K) (rs : List RK) (x : KS ks) (post : RS rs → Prop) : Prop := fnEvalI cx hn noCall nt vars code ks rs x post

theorem argsE_rel {c : RC} {w : World} (hc : c.w = w) (hok : ∀ b, b < w.heap.size → c.ok b) : ∀ (ks : List K) (x : KS ks) (vs : List Value), ArgsRep w (fun b => b < w.heap.size) ks x vs → All2 (EV.rel c) (argsE ks x) vs ∧ vs.length = ks.length
  | [], x, vs, h => by obtain rfl : vs = [] := h; exact ⟨.nil, rfl⟩
  | k :: ks, x, vs, h => by
    obtain ⟨v, r, rfl, h1, h2⟩ := h
    obtain ⟨h3, h4⟩ := argsE_rel hc hok ks x.2 r h2
    exact ⟨.cons (XV.ofData_rel (by rw [hc]; exact KRep.mono (fun b hb => ⟨hok b hb, rfl⟩) h1)) h3, by simp [h4]⟩

theorem KRep.flat {w w' : World} {ok ok' : Nat → Prop} {k : K} {x : k.T} {v : Value} (hf : k.flat = true) (r : KRep w ok k x v) : KRep w' ok' k x v := by
  unfold KRep at *
  split
  · rename_i h; rw [if_pos h] at r; obtain ⟨vs, e, r⟩ := r; exact ⟨vs, e, K.rep_flat _ _ _ hf r⟩
  · rename_i h; rw [if_neg h] at r; exact K.rep_flat _ _ _ hf r

/-- The blocks of rows that go out. -/
def OutOk (c : RC) (m : Mvs) (obs : List (Option Nat)) : Prop :=
  obs.length = m.length ∧ ∀ (i b : Nat), obs[i]? = some (some b) → ∃ id o, m[i]? = some (some id, o) ∧ c.heap[id]? = some o ∧ o.live ∧ c.blk id = some b

theorem OutOk.append {c : RC} {m m' : Mvs} {o o' : List (Option Nat)} (h : OutOk c m o) (h' : OutOk c m' o') : OutOk c (m ++ m') (o ++ o') := by
  refine ⟨by simp [h.1, h'.1], fun i b hi => ?_⟩
  rw [List.getElem?_append] at hi
  split at hi
  · rename_i hl
    obtain ⟨id, ob, h1, h2⟩ := h.2 i b hi
    exact ⟨id, ob, by rw [List.getElem?_append_left (get_lt h1)]; exact h1, h2⟩
  · rename_i hl
    obtain ⟨id, ob, h1, h2⟩ := h'.2 _ b hi
    exact ⟨id, ob, by rw [List.getElem?_append_right (by rw [← h.1]; omega), ← h.1]; exact h1, h2⟩

theorem out1_rep {c : RC} (hi : c.Inv) {w : World} (hb : w.heap.size ≤ c.base) {v : XV} {u : Value} (hr : v.rel c u) {r : RK} {K : r.T → Mvs → Prop} (h : out1 c.heap v r K) :
    ∃ x m obs, K x m ∧ OutOk c m obs ∧ ∀ fr, Res1 w c.w fr r x u obs := by
  cases r with
  | snap k =>
    simp only [out1] at h
    split at h
    · rename_i hf
      split at h
      · rename_i x hx
        exact ⟨x, [], [], h, ⟨rfl, fun i b h => by simp at h⟩, fun fr => ⟨rfl, KRep.flat hf (XV.take0_rep hx hr)⟩⟩
      · exact h.elim
    · exact h.elim
  | own t e =>
    simp only [out1] at h
    split at h
    · rename_i hf
      split at h
      · rename_i id off len
        split at h
        · rename_i t' e' xs ho
          split at h
          · rename_i q; subst q
            split at h
            · rename_i q; subst q
              obtain ⟨⟨rfl, rfl⟩, h⟩ := h
              simp only [XV.rel, SV.rel, ho] at hr
              obtain ⟨A, cap, rfl, r2, r3, r4⟩ := hr
              obtain ⟨o1, o2⟩ := hi.objs id _ ho
              by_cases hcap : cap = 0
              · have hx : xs = [] := List.eq_nil_of_length_eq_zero (by omega)
                exact ⟨xs, _, [none], h, ⟨rfl, fun i b h => by cases i <;> simp at h⟩, fun fr => ⟨o1, A, cap, rfl, r2, .inl ⟨hcap, hx, rfl⟩⟩⟩
              · rcases r4 with r4 | ⟨b, vs, g1, g2, g3, g4⟩
                · exact absurd r4 hcap
                · rcases o2 with ⟨o2, _⟩ | ⟨b', vs', fr, re, p1, p2, p3, p4⟩
                  · rw [g1] at o2; cases o2
                  · rw [g1] at p1; cases p1
                    rw [g3] at p2; cases p2
                    refine ⟨xs, _, [some b], h, ⟨rfl, fun i b' h => ?_⟩, fun fr => ⟨o1, A, cap, rfl, r2, .inr ⟨b, vs, _, _, rfl, by simpa using g2, ?_, g3, p3, ?_, by simpa using g4⟩⟩⟩
                    · cases i with
                      | zero => simp at h; subst h; exact ⟨id, _, rfl, ho, rfl, g1⟩
                      | succ i => simp at h
                    · exact Nat.le_trans hb (hi.base id _ b ho rfl g1)
                    · exact p4.mono fun x cs r => Lift.K.rep_flat _ _ _ hf r
            · exact h.elim
          · exact h.elim
        · exact h.elim
      · rename_i v
        split at h
        · rename_i hn
          obtain rfl : u = .slice none 0 0 := by rw [show u = v from hr]; exact isNilS_eq hn
          exact ⟨[], _, [none], h, ⟨rfl, fun i b h => by cases i <;> simp at h⟩, fun fr => ⟨by simp [maxN], none, 0, rfl, Nat.le_refl _, .inl ⟨rfl, rfl, rfl⟩⟩⟩
        · exact h.elim
      · obtain ⟨A, rfl⟩ := hr
        exact ⟨[], _, [none], h, ⟨rfl, fun i b h => by cases i <;> simp at h⟩, fun fr => ⟨by simp [maxN], A, 0, rfl, Nat.le_refl _, .inl ⟨rfl, rfl, rfl⟩⟩⟩
      · exact h.elim
    · exact h.elim

def resVal (tmps : Array Value) : ResultVar → Sem Value
  | .tmp t => pure (tmps.getD t undef)
  | .cell a t => do loadVar t (← asAddr (tmps.getD a undef))

/-- A place's value is read as the abstract one says. -/
theorem cellX_run {P : Program} {cx : Cx} (hT : ∀ t d, cx.tab t = some d → d.Fits P t) {c : RC} (hi : c.Inv) {t : TypeId} {e : EV} {u : Value} (he : e.rel c u) {K : XV → Prop} (h : cellX cx c.heap t e K) :
    ∃ v x, K x ∧ x.rel c v ∧ (do loadVar t (← asAddr u) : Sem Value).run P c.w = .ok v c.w := by
  unfold cellX at h
  obtain ⟨v, ev, h1, h2, h3⟩ := opLoad_runQ hT hi (P := P) (u := u) h he
  cases ev with
  | tup _ => exact h2.elim
  | x x =>
    refine ⟨v, x, h2, h3, ?_⟩
    unfold Instr.loadAt Instr.sureAddr at h1
    split at h1
    · exact h1
    · simp [Sem.run_bind, stuck, Result.andThen] at h1

theorem outs_rep {P : Program} {cx : Cx} (hT : ∀ t d, cx.tab t = some d → d.Fits P t) {c : RC} (hi : c.Inv) {w : World} (hb : w.heap.size ≤ c.base) {env : List EV} {tmps : Array Value} (he : EnvRel c env tmps) : ∀ (vars : List ResultVar) (rs : List RK) {K : RS rs → Mvs → Prop}, outs cx env c.heap vars rs K →
    ∃ x m obs vs, K x m ∧ OutOk c m obs ∧ (∀ fr, ResN w c.w fr rs x vs obs) ∧ (vars.mapM (resVal tmps)).run P c.w = Result.ok vs c.w
  | [], [], K, h => ⟨(), [], [], [], h, ⟨rfl, fun i b h => by simp at h⟩, fun _ => ⟨rfl, rfl⟩, by rw [List.mapM_nil]; rfl⟩
  | .tmp t :: vars, r :: rs, K, h => by
    simp only [outs] at h
    split at h
    · rename_i v hv
      obtain ⟨u, h1, h2⟩ := he.2 _ _ hv
      obtain ⟨x, m, obs, h3, h4, h5⟩ := out1_rep hi hb h2 h
      obtain ⟨y, m', obs', vs, g1, g2, g3, g4⟩ := outs_rep hT hi hb he vars rs h3
      refine ⟨(x, y), _, obs ++ obs', u :: vs, g1, h4.append g2, fun fr => ⟨u, vs, obs, obs', rfl, rfl, h5 fr, g3 fr⟩, ?_⟩
      have hu : tmps.getD t undef = u := by simp [h1]
      rw [List.mapM_cons]
      simp only [resVal, Sem.run_bind, Sem.run_pure, hu, Result.andThen, g4]
    · exact h.elim
  | [], _ :: _, K, h => h.elim
  | .tmp _ :: _, [], K, h => h.elim
  | .cell a t :: vars, r :: rs, K, h => by
    simp only [outs] at h
    have hev : (env.getD a .junk).rel c (tmps.getD a undef) := by
      simp only [List.getD_eq_getElem?_getD, Array.getD_eq_getD_getElem?]
      cases hq : env[a]? with
      | none => trivial
      | some ev =>
        obtain ⟨u, h1, h2⟩ := he.2 a ev hq
        rw [h1]; exact h2
    obtain ⟨u, v, hk, h2, hrun⟩ := cellX_run hT hi (P := P) hev h
    obtain ⟨x, m, obs, h3, h4, h5⟩ := out1_rep hi hb h2 hk
    obtain ⟨y, m', obs', vs, g1, g2, g3, g4⟩ := outs_rep hT hi hb he vars rs h3
    refine ⟨(x, y), _, obs ++ obs', u :: vs, g1, h4.append g2, fun fr => ⟨u, vs, obs, obs', rfl, rfl, h5 fr, g3 fr⟩, ?_⟩
    rw [List.mapM_cons]
    simp only [resVal]
    rw [Sem.run_bind, hrun]
    simp only [Result.andThen, Sem.run_bind, Sem.run_pure, g4]
  | .cell _ _ :: _, [], K, h => h.elim

theorem results_run {fn : Func} {vars : List ResultVar} (hf : fn.results = vars.toArray) {tmps : Array Value} {P : Program} {w : World} {vs : List Value} (h : (vars.mapM (resVal tmps)).run P w = Result.ok vs w) :
    ∃ v, v = (match (generalizing := false) vs with | [u] => u | _ => .tuple vs.toArray) ∧ (results fn tmps).run P w = Result.ok v w := by
  have e : results fn tmps = (do
      let vs ← List.toArray <$> vars.mapM (resVal tmps)
      pure (if h : vs.size = 1 then vs[0] else .tuple vs)) := by
    unfold results
    rw [hf, ← List.mapM_toArray]
    congr
  rw [e]
  simp only [map_eq_pure_bind, bind_assoc, pure_bind, Sem.run_bind, h, Result.andThen, Sem.run_pure]
  match vs with
  | [] => exact ⟨_, rfl, rfl⟩
  | [u] => exact ⟨_, rfl, rfl⟩
  | u :: v :: vs => exact ⟨_, rfl, by simp⟩

/-- The facts of a function with a body. -/
structure FnAt (P : Program) (f : FuncId) (nt : Nat) (vars : List ResultVar) (code : Code) : Prop where
  ex : ∃ fn, P.funcs[f]? = some fn ∧ fn.body = some code ∧ fn.ntmps = nt ∧ fn.results = vars.toArray ∧ (fn.name == "runtime.NumGoroutine") = false

theorem callFunc_run {P : Program} {f : FuncId} {fn : Func} {code : Code} (hf : P.funcs[f]? = some fn) (hb : fn.body = some code) (hn : (fn.name == "runtime.NumGoroutine") = false) (args : Array Value) (w : World) :
    (callFunc f args).run P w = .ok (.enter f args) w := by
  have hp : (Go.program).run P w = Result.ok P w := rfl
  unfold callFunc
  simp only [Sem.run_bind, hp, Result.andThen, hf, hn, hb, Option.isNone_some, Bool.false_eq_true, if_false, Sem.run_pure]

/-! ### Calls that are walked in place -/

structure InFn where
  nt : Nat
  vars : List ResultVar
  code : Code
  hn : Hn

def resXs (cx : Cx) (env : List EV) (h : List HObj) : List ResultVar → (List XV → Prop) → Prop
  | [], K => K []
  | .tmp t :: vars, K => match env[t]? with
    | some (.x v) => resXs cx env h vars fun l => K (v :: l)
    | _ => False
  | .cell a t :: vars, K => cellX cx h t (env.getD a .junk) fun v => resXs cx env h vars fun l => K (v :: l)

/-- A call by contract, as one that is walked in place. -/
def callCon (cx : Cx) : CallEv := fun f args h k => match cx.con f with
  | none => False
  | some con => (opCall cx (h ++ List.replicate con.n .pend) f args h.length).wp fun ev us => k ev (applyU (h ++ List.replicate con.n .pend) us)

def callLvl (cx : Cx) (fns : FuncId → Option InFn) : Nat → CallEv
  | 0 => callCon cx
  | n + 1 => fun f args h k => match fns f with
    | none => callCon cx f args h k
    | some fn => aeval cx fn.hn (callLvl cx fns n) fn.code (args ++ List.replicate (fn.nt - args.length) (.x (.one .junk))) h fun e env h' => match e with
      | .normal | .ret => resXs cx env h' fn.vars fun vs => k (EV.of vs) h'
      | _ => False

theorem resXs_run {P : Program} {cx : Cx} (hT : ∀ t d, cx.tab t = some d → d.Fits P t) {c : RC} (hi : c.Inv) {env : List EV} {tmps : Array Value} (he : EnvRel c env tmps) : ∀ (vars : List ResultVar) {K : List XV → Prop}, resXs cx env c.heap vars K →
    ∃ vs us, K vs ∧ All2 (XV.rel c) vs us ∧ (vars.mapM (resVal tmps)).run P c.w = Result.ok us c.w
  | [], K, h => ⟨[], [], h, .nil, by rw [List.mapM_nil]; rfl⟩
  | .tmp t :: vars, K, h => by
    simp only [resXs] at h
    split at h
    · rename_i v hv
      obtain ⟨u, h1, h2⟩ := he.2 _ _ hv
      obtain ⟨vs, us, g1, g2, g3⟩ := resXs_run hT hi he vars h
      refine ⟨v :: vs, u :: us, g1, .cons h2 g2, ?_⟩
      have hu : tmps.getD t undef = u := by simp [h1]
      rw [List.mapM_cons]
      simp only [resVal, Sem.run_bind, Sem.run_pure, hu, Result.andThen, g3]
    · exact h.elim
  | .cell a t :: vars, K, h => by
    simp only [resXs] at h
    have hev : (env.getD a .junk).rel c (tmps.getD a undef) := by
      simp only [List.getD_eq_getElem?_getD, Array.getD_eq_getD_getElem?]
      cases hq : env[a]? with
      | none => trivial
      | some ev =>
        obtain ⟨u, h1, h2⟩ := he.2 a ev hq
        rw [h1]; exact h2
    obtain ⟨u, v, hk, h2, hrun⟩ := cellX_run hT hi (P := P) hev h
    obtain ⟨vs, us, g1, g2, g3⟩ := resXs_run hT hi he vars hk
    refine ⟨v :: vs, u :: us, g1, .cons h2 g2, ?_⟩
    rw [List.mapM_cons]
    simp only [resVal]
    rw [Sem.run_bind, hrun]
    simp only [Result.andThen, Sem.run_bind, Sem.run_pure, g3]

theorem callCon_ok {P : Program} {cx : Cx} (hx : CxOk P cx) : CallOk P cx (callCon cx) := by
  intro c hi hg f args vs k hall h
  unfold callCon at h
  split at h
  · exact h.elim
  · rename_i con hcon
    obtain ⟨E1, I1⟩ := Ext.pends hi con.n
    have hh := hx.2 f con hcon
    have hp : ∀ i, i < con.n → (c.heap ++ List.replicate con.n HObj.pend)[c.heap.length + i]? = some .pend := fun i hi => by
      rw [List.getElem?_append_right (by omega), List.getElem?_replicate, if_pos (by omega)]
    let c1 : RC := { c with heap := c.heap ++ List.replicate con.n .pend }
    have hall1 : All2 (EV.rel c1) args vs := hall.mono fun _ _ r => EV.rel_mono E1 r
    have fin : ∀ (w' : World) (rs : List RK) (r : RS rs) (v : Value), RKn rs = con.n → Grows c.w w' → ResRep c.w w' rs r v → k (EV.of (gives c.heap.length rs r).1) (applyU c1.heap (gives c.heap.length rs r).2) →
        ∃ ev c', k ev c'.heap ∧ c'.w = w' ∧ Ext c c' ∧ c'.Inv ∧ ev.rel c' v := by
      intro w' rs r v hn g1 g2 g3
      obtain ⟨c', q1, q2, q3, q4, q5⟩ := adopt (c := c1) I1 g1 g2 (t := c.heap.length) (fun i hi => hp i (by omega))
      exact ⟨_, c', by rw [q2]; exact g3, q1, E1.trans q3, q4, q5⟩
    unfold opCall at h
    rw [hcon] at h
    cases hv : xvs args with
    | none => rw [hv] at h; cases con <;> exact h.elim
    | some xs =>
      rw [hv] at h
      have hx1 := xvs_rel hv hall1
      cases con with
      | det ks rs pre g =>
        simp only at h
        split at h
        · rename_i x hxx
          obtain ⟨hpre, h⟩ := h
          have hr := takes_rep I1 ks xs x _ hxx hx1
          rcases hh c.w x _ hr (GOk.world hg) hpre with ⟨v, w', h1, h2, h3⟩ | ⟨h1, h2⟩
          · exact .inl ⟨v, w', h1, fin _ _ _ _ rfl h2 h3 h⟩
          · exact .inr ⟨h1, h2.mono fun e w' ⟨v, e1, g1, g2⟩ => ⟨v, e1, fin _ _ _ _ rfl g1 g2 h⟩⟩
        · exact h.elim
      | rel ks rs pre post ne =>
        simp only at h
        split at h
        · rename_i x hxx
          obtain ⟨hpre, h⟩ := h
          have hr := takes_rep I1 ks xs x _ hxx hx1
          rcases hh c.w x _ hr (GOk.world hg) hpre with ⟨v, w', h1, r, h0, h2, h3⟩ | ⟨h1, h2⟩
          · exact .inl ⟨v, w', h1, fin _ _ _ _ rfl h2 h3 (h r h0)⟩
          · exact .inr ⟨h1, h2.mono fun e w' ⟨v, e1, r, g0, g1, g2⟩ => ⟨v, e1, fin _ _ _ _ rfl g1 g2 (h r g0)⟩⟩
        · exact h.elim

theorem EV.of_rel {c : RC} {vs : List XV} {us : List Value} (h : All2 (XV.rel c) vs us) {v : Value} (hv : v = (match (generalizing := false) us with | [u] => u | _ => .tuple us.toArray)) : (EV.of vs).rel c v := by
  cases h with
  | nil => subst hv; exact ⟨#[], rfl, .nil⟩
  | cons h1 h2 =>
    cases h2 with
    | nil => subst hv; exact h1
    | cons h3 h4 => subst hv; exact ⟨_, rfl, .cons h1 (.cons h3 h4)⟩

def FnsOk (P : Program) (fns : FuncId → Option InFn) : Prop := ∀ f fn, fns f = some fn → FnAt P f fn.nt fn.vars fn.code

theorem enter_rel {c : RC} {args : List EV} {vs : List Value} (h : All2 (EV.rel c) args vs) (nt : Nat) : EnvRel c (args ++ List.replicate (nt - args.length) (.x (.one .junk))) (vs.toArray ++ Array.replicate (nt - vs.toArray.size) undef) := by
  refine ⟨by simp [h.len], fun t ev ht => ?_⟩
  rw [List.getElem?_append] at ht
  split at ht
  · rename_i hlt
    obtain ⟨v, g1, g2⟩ := h.get t ev ht
    refine ⟨v, ?_, g2⟩
    rw [Array.getElem?_append_left (by simpa [← h.len] using hlt)]
    simpa using g1
  · rename_i hge
    rw [List.getElem?_replicate] at ht
    split at ht
    · rename_i hlt
      cases ht
      have hl := h.len
      have : vs.toArray.size ≤ t := by simp; omega
      refine ⟨undef, ?_, trivial⟩
      rw [Array.getElem?_append_right this, Array.getElem?_replicate]
      have : t - vs.toArray.size < nt - vs.toArray.size := by
        simp at this ⊢; omega
      rw [if_pos this]
    · cases ht

theorem callLvl_ok {P : Program} {cx : Cx} (hx : CxOk P cx) (hmix : P.follows .mixedOrders = true) {fns : FuncId → Option InFn} (hf : FnsOk P fns) : ∀ n, CallOk P cx (callLvl cx fns n)
  | 0 => callCon_ok hx
  | n + 1 => by
    intro c hi hg f args vs k hall h
    simp only [callLvl] at h
    split at h
    · exact callCon_ok hx c hi hg hall h
    · rename_i fn hfn
      obtain ⟨fu, h1, h2, h3, h4, h5⟩ := (hf f fn hfn).ex
      refine .inr ⟨callFunc_run h1 h2 h5 _ _, calls_of_wp h1 h2 ?_⟩
      have hE := enter_rel hall fn.nt
      rw [← h3] at hE h
      refine aeval_sound hx hmix fn.hn (callLvl_ok hx hmix hf n) fn.code (D := dsts fn.code) (fun t h => h) hi (a := ⟨_, []⟩) hg hE h fun e c' env' a' k1 k2 k3 k4 k5 => ?_
      have fin : resXs cx env' c'.heap fn.vars (fun vs => k (EV.of vs) c'.heap) → a'.defers = [] ∧ ∃ v, (results fu a'.tmps).run P c'.w = .ok v c'.w ∧ ∃ u, Ending.returned v = Ending.returned u ∧ ∃ ev c2, k ev c2.heap ∧ c2.w = c'.w ∧ Ext c c2 ∧ c2.Inv ∧ ev.rel c2 u := by
        intro hr
        obtain ⟨xs, us, g1, g2, g3⟩ := resXs_run hx.1 k3 k4 fn.vars hr
        obtain ⟨v, ev, hv⟩ := results_run h4 g3
        exact ⟨k5.defers, v, hv, v, rfl, _, c', g1, rfl, k2, k3, EV.of_rel g2 ev⟩
      cases e with
      | normal => exact fin k1
      | ret => exact fin k1
      | _ => exact k1.elim

section
variable {P : Program} {cx : Cx} (hx : CxOk P cx) (hmix : P.follows .mixedOrders = true) (hn : Hn) {call : CallEv} (hcall : CallOk P cx call)
include hx hmix

include hcall in
theorem fn_specI {f : FuncId} {nt : Nat} {vars : List ResultVar} {code : Code} (hf : FnAt P f nt vars code) {ks : List K} {rs : List RK} {w : World} {x : KS ks} {vs : List Value} (ha : ArgsRep w (fun b => b < w.heap.size) ks x vs) (hg : GW cx.glob w)
    {post : RS rs → Prop} (h : fnEvalI cx hn call nt vars code ks rs x post) : CallSpec P f vs.toArray w fun v w' => ∃ r, post r ∧ Grows w w' ∧ ResRep w w' rs r v := by
  obtain ⟨fn, h1, h2, h3, h4, h5⟩ := hf.ex
  refine .inr ⟨callFunc_run h1 h2 h5 _ _, calls_of_wp h1 h2 ?_⟩
  let c0 : RC := { w := w, heap := [], blk := fun _ => none, base := w.heap.size }
  have hown : ∀ b, ¬ c0.own b := by rintro b ⟨id, o, m, h, _⟩; simp [c0] at h
  have hok : ∀ b, b < w.heap.size → c0.ok b := fun b hb => ⟨hb, hown b⟩
  have hi : c0.Inv := ⟨fun id o h => by simp [c0] at h, fun i j oi oj b h => by simp [c0] at h, fun id o b h => by simp [c0] at h, Nat.le_refl _⟩
  have hG : GOk cx.glob c0 := fun g k y hgk => K.rep_mono (fun b hb => ⟨hok b hb, rfl⟩) (K.ptr k) _ _ (hg g k y hgk)
  obtain ⟨he, hl⟩ := argsE_rel (c := c0) rfl hok ks x vs ha
  have hE : EnvRel c0 (argsE ks x ++ List.replicate (nt - ks.length) (.x (.one .junk))) (vs.toArray ++ Array.replicate (fn.ntmps - vs.toArray.size) undef) := by
    refine ⟨by simp [he.len, h3, hl], fun t ev ht => ?_⟩
    rw [List.getElem?_append] at ht
    split at ht
    · rename_i hlt
      obtain ⟨v, g1, g2⟩ := he.get t ev ht
      refine ⟨v, ?_, g2⟩
      rw [Array.getElem?_append_left (by simpa [he.len] using hlt)]
      simpa using g1
    · rename_i hge
      rw [List.getElem?_replicate] at ht
      split at ht
      · rename_i hlt
        cases ht
        have : vs.toArray.size ≤ t := by simp [← he.len]; omega
        refine ⟨undef, ?_, trivial⟩
        rw [Array.getElem?_append_right this, Array.getElem?_replicate]
        have : t - vs.toArray.size < fn.ntmps - vs.toArray.size := by
          simp [h3, hl] at this ⊢
          have := he.len
          omega
        rw [if_pos this]
      · cases ht
  refine aeval_sound hx hmix hn hcall code (D := dsts code) (fun t h => h) hi (a := ⟨_, []⟩) hG hE h fun e c' env' a' k1 k2 k3 k4 k5 => ?_
  have fin : outs cx env' c'.heap vars rs (fun r m => if distB (srcs m) then post r else False) → a'.defers = [] ∧ ∃ v, (results fn a'.tmps).run P c'.w = .ok v c'.w ∧ ∃ u, Ending.returned v = Ending.returned u ∧ ∃ r, post r ∧ Grows w c'.w ∧ ResRep w c'.w rs r u := by
    intro hout
    obtain ⟨r, m, obs, us, g1, g2, g3, g4⟩ := outs_rep (w := w) hx.1 k3 (by rw [k2.base]; exact Nat.le_refl _) k4 vars rs hout
    split at g1
    · rename_i hd
      obtain ⟨v, ev, hv⟩ := results_run h4 g4
      refine ⟨k5.defers, v, hv, _, rfl, r, g1, ?_, us, obs, ev, ?_, g3 _⟩
      · exact ⟨k2.size, k2.os, k2.tape, k2.output, fun b hb => k2.keep b hb (fun hw => hown b hw.own)⟩
      · intro i j b hb1 hb2
        obtain ⟨id1, o1, p1, p2, p3, p4⟩ := g2.2 i b hb1
        obtain ⟨id2, o2, q1, q2, q3, q4⟩ := g2.2 j b hb2
        have := k3.inj id1 id2 o1 o2 b p2 p3 q2 q3 p4 q4
        subst this
        exact srcs_dist hd i j id1 o1 o2 p1 q1
    · exact g1.elim
  cases e with
  | normal => exact fin k1
  | ret => exact fin k1
  | _ => exact k1.elim

theorem fn_spec {f : FuncId} {nt : Nat} {vars : List ResultVar} {code : Code} (hf : FnAt P f nt vars code) {ks : List K} {rs : List RK} {w : World} {x : KS ks} {vs : List Value} (ha : ArgsRep w (fun b => b < w.heap.size) ks x vs) (hg : GW cx.glob w)
    {post : RS rs → Prop} (h : fnEval cx hn nt vars code ks rs x post) : CallSpec P f vs.toArray w fun v w' => ∃ r, post r ∧ Grows w w' ∧ ResRep w w' rs r v := fn_specI hx hmix hn noCall_ok hf ha hg h

theorem det_holds {f : FuncId} {nt : Nat} {vars : List ResultVar} {code : Code} (hf : FnAt P f nt vars code) {ks : List K} {rs : List RK} {pre : KS ks → Prop} {g : KS ks → RS rs}
    (h : ∀ x, pre x → fnEval cx hn nt vars code ks rs x (fun r => r = g x)) : (Con.det ks rs pre g).holds P cx.glob f := by
  intro w x vs ha hg hp
  have := fn_spec hx hmix hn hf ha hg (h x hp)
  rcases this with ⟨v, w', h1, r, rfl, h2⟩ | ⟨h1, h2⟩
  · exact .inl ⟨v, w', h1, h2⟩
  · exact .inr ⟨h1, h2.mono fun e w' => by rintro ⟨v, e1, r, rfl, h3⟩; exact ⟨v, e1, h3⟩⟩

theorem rel_holds {f : FuncId} {nt : Nat} {vars : List ResultVar} {code : Code} (hf : FnAt P f nt vars code) {ks : List K} {rs : List RK} {pre : KS ks → Prop} {post : KS ks → RS rs → Prop} {ne : ∀ a, pre a → ∃ r, post a r}
    (h : ∀ x, pre x → fnEval cx hn nt vars code ks rs x (post x)) : (Con.rel ks rs pre post ne).holds P cx.glob f := by
  intro w x vs ha hg hp
  exact fn_spec hx hmix hn hf ha hg (h x hp)
end
end Go.Lift
