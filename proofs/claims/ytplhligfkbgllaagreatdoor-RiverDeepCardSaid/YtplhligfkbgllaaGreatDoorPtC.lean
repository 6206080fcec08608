/- A part of the proof of RiverDeepCard: an own lifter of code into plain terms, and plain laws. -/
import Derived.StillTail
import Derived.Deep.LoopGhost
import Derived.OpenShut
import Derived.Handed
import Derived.RowKit
import Derived.Carry
import Derived.Laws.Bits64b
import Derived.Test.YtplhligfkbgllaaGreatDoorPtB
set_option linter.unusedVariables false
set_option linter.unusedSimpArgs false
set_option linter.unusedSectionVars false
set_option linter.unusedVariables false
set_option linter.unusedSimpArgs false
set_option linter.unusedSectionVars false
namespace Go.Lift
def LV.ids : LV → List Nat
  | .ref id _ => [id]
  | _ => []
def SV.ids : SV → List Nat
  | .osl id _ _ | .ref id _ | .eref id _ _ | .mref id | .bsl id _ | .osx id _ => [id]
  | .clo _ _ caps => caps.flatMap LV.ids
  | _ => []
def XV.ids : XV → List Nat
  | .one s => s.ids
  | .agg cs => cs.flatMap SV.ids
  | .dat _ _ => []
def EV.ids : EV → List Nat
  | .x v => v.ids
  | .tup vs => vs.flatMap XV.ids
theorem LV.evs_ids : ∀ l : List LV, (l.map LV.ev).flatMap EV.ids = l.flatMap LV.ids
  | [] => rfl
  | x :: l => by
    rw [List.map_cons, List.flatMap_cons, List.flatMap_cons, LV.evs_ids l]
    cases x <;> rfl
theorem EV.weak_ids (v : EV) : v.weak.ids = v.ids := by unfold EV.weak; split <;> rfl
def Same (h h' : List HObj) (l : List Nat) : Prop := ∀ id ∈ l, h[id]? = h'[id]?
theorem Same.left {h h' : List HObj} {a b : List Nat} (s : Same h h' (a ++ b)) : Same h h' a := fun id hi => s id (List.mem_append_left _ hi)
theorem Same.right {h h' : List HObj} {a b : List Nat} (s : Same h h' (a ++ b)) : Same h h' b := fun id hi => s id (List.mem_append_right _ hi)
section
variable {h h' : List HObj}
theorem SV.isOne_congr {s : SV} (H : Same h h' s.ids) : s.isOne h = s.isOne h' := by
  cases s <;> first | rfl | (have := H _ (List.mem_singleton.2 rfl); simp only [SV.isOne, this])
theorem SV.take_congr {k : K} {s : SV} (H : Same h h' s.ids) : s.take h k = s.take h' k := by
  cases k <;> cases s <;> first | rfl | (have := H _ (List.mem_singleton.2 rfl); simp only [SV.take, this]; done) | (have := H _ (List.mem_singleton.2 rfl); simp only [SV.take, refS_congr this]; done) | (rename_i v; cases v <;> rfl)
theorem all_congr : ∀ {cs : List SV}, Same h h' (cs.flatMap SV.ids) → cs.all (SV.isOne h) = cs.all (SV.isOne h')
  | [], _ => rfl
  | s :: cs, H => by
    rw [List.flatMap_cons] at H
    rw [List.all_cons, List.all_cons, SV.isOne_congr H.left, all_congr H.right]
theorem take1_congr {k : K} {cs : List SV} (H : Same h h' (cs.flatMap SV.ids)) : take1 h k cs = take1 h' k cs := by
  cases cs with
  | nil => rfl
  | cons s r => rw [List.flatMap_cons] at H; simp only [take1, SV.take_congr H.left]
theorem takeL_mem {h : List HObj} : ∀ (k : K) (cs : List SV) (x : k.T) (r : List SV), k.takeL h cs = some (x, r) → ∃ n, r = cs.drop n := by
  have one : ∀ (k : K) (cs : List SV) (x : k.T) (r : List SV), take1 h k cs = some (x, r) → ∃ n, r = cs.drop n := by
    intro k cs x r hh
    cases cs with
    | nil => cases hh
    | cons s r' =>
      simp only [take1] at hh
      split at hh
      · obtain ⟨_, rfl⟩ := Prod.mk.inj (Option.some.inj hh); exact ⟨1, rfl⟩
      · cases hh
  intro k
  induction k with
  | unit => intro cs x r hh; obtain ⟨_, rfl⟩ := Prod.mk.inj (Option.some.inj hh); exact ⟨0, rfl⟩
  | pair a b iha ihb =>
    intro cs x r hh
    simp only [K.takeL] at hh
    split at hh
    · rename_i x1 r1 h1
      split at hh
      · rename_i x2 r2 h2
        obtain ⟨_, rfl⟩ := Prod.mk.inj (Option.some.inj hh)
        obtain ⟨n, rfl⟩ := iha _ _ _ h1
        obtain ⟨m, rfl⟩ := ihb _ _ _ h2
        exact ⟨n + m, by rw [List.drop_drop]⟩
      · cases hh
    · cases hh
  | arr n e ih =>
    have many : ∀ (n : Nat) (cs : List SV) (xs : List e.T) (r : List SV), takeN (e.takeL h) n cs = some (xs, r) → ∃ m, r = cs.drop m := by
      intro n
      induction n with
      | zero => intro cs xs r hh; obtain ⟨_, rfl⟩ := Prod.mk.inj (Option.some.inj hh); exact ⟨0, rfl⟩
      | succ n ihn =>
        intro cs xs r hh
        simp only [takeN] at hh
        split at hh
        · rename_i x r1 h1
          split at hh
          · rename_i xs1 r2 h2
            obtain ⟨_, rfl⟩ := Prod.mk.inj (Option.some.inj hh)
            obtain ⟨n1, rfl⟩ := ih _ _ _ h1
            obtain ⟨m, rfl⟩ := ihn _ _ _ h2
            exact ⟨n1 + m, by rw [List.drop_drop]⟩
          · cases hh
        · cases hh
    exact fun cs x r hh => many n cs x r hh
  | int ik => exact one (.int ik)
  | bool => exact one .bool
  | flt fk => exact one (.flt fk)
  | slice e _ => exact one (.slice e)
  | ptr e _ => exact one (.ptr e)
  | map a b _ _ => exact one (.map a b)
  | ent a b _ _ => intro cs x r hh; cases hh
theorem Same.drop {cs : List SV} (H : Same h h' (cs.flatMap SV.ids)) (n : Nat) : Same h h' ((cs.drop n).flatMap SV.ids) := by
  intro id hid
  obtain ⟨s, hs, hi⟩ := List.mem_flatMap.1 hid
  exact H id (List.mem_flatMap.2 ⟨s, List.mem_of_mem_drop hs, hi⟩)
theorem K.takeL_congr : ∀ (k : K) {cs : List SV}, Same h h' (cs.flatMap SV.ids) → k.takeL h cs = k.takeL h' cs := by
  intro k
  induction k with
  | unit => intro cs H; rfl
  | pair a b iha ihb =>
    intro cs H
    simp only [K.takeL, ← iha H]
    split
    · rename_i x r h1
      obtain ⟨n, rfl⟩ := takeL_mem _ _ _ _ h1
      rw [ihb (H.drop n)]
    · rfl
  | arr n e ih =>
    intro cs H
    show takeN (e.takeL h) n cs = takeN (e.takeL h') n cs
    induction n generalizing cs with
    | zero => rfl
    | succ n ihn =>
      simp only [takeN, ← ih H]
      split
      · rename_i x r h1
        obtain ⟨m, rfl⟩ := takeL_mem _ _ _ _ h1
        rw [ihn (H.drop m)]
      · rfl
  | int ik => exact fun H => take1_congr H
  | bool => exact fun H => take1_congr H
  | flt fk => exact fun H => take1_congr H
  | slice e _ => exact fun H => take1_congr H
  | ptr e _ => exact fun H => take1_congr H
  | map a b _ _ => exact fun H => take1_congr H
  | ent a b _ _ => exact fun H => rfl
theorem XV.take_congr {k : K} {v : XV} (H : Same h h' v.ids) : v.take h k = v.take h' k := by
  cases v with
  | one s => simp only [XV.take, SV.take_congr (show Same h h' s.ids from H)]
  | agg cs => simp only [XV.take, K.takeL_congr k (show Same h h' (cs.flatMap SV.ids) from H)]
  | dat k' x => rfl
theorem K.cells_ids : ∀ (k : K) (x : k.T) (s : SV), s ∈ k.cells x → s.ids = [] := by
  intro k
  induction k with
  | unit => intro x s hs; cases hs
  | pair a b iha ihb =>
    intro x s hs
    rcases List.mem_append.1 hs with hs | hs
    · exact iha _ s hs
    · exact ihb _ s hs
  | arr n e ih =>
    intro x s hs
    have key : ∀ (n i : Nat), s ∈ arrC e.cells e.dflt x i n → ∃ y, s ∈ e.cells y := by
      intro n
      induction n with
      | zero => intro i hs; cases hs
      | succ n ihn =>
        intro i hs
        simp only [arrC, List.mem_append] at hs
        rcases hs with hs | hs
        · exact ⟨_, hs⟩
        · exact ihn _ hs
    obtain ⟨y, hy⟩ := key n 0 hs
    exact ih y s hy
  | ent a b _ _ => intro x s hs; cases hs
  | _ => intro x s hs; obtain rfl := List.mem_singleton.1 hs; rfl
theorem takes_congr : ∀ (ks : List K) {vs : List XV}, Same h h' (vs.flatMap XV.ids) → takes h ks vs = takes h' ks vs
  | [], [], _ => rfl
  | [], _ :: _, _ => rfl
  | _ :: _, [], _ => rfl
  | k :: ks, v :: vs, H => by
    rw [List.flatMap_cons] at H
    simp only [takes, XV.take_congr H.left, takes_congr ks H.right]
theorem takeAll_congr {k : K} : ∀ {vs : List EV}, Same h h' (vs.flatMap EV.ids) → takeAll h k vs = takeAll h' k vs
  | [], _ => rfl
  | .x v :: vs, H => by
    rw [List.flatMap_cons] at H
    simp only [takeAll, XV.take_congr (show Same h h' v.ids from H.left), takeAll_congr H.right]
  | .tup _ :: vs, _ => rfl
theorem Same.set {l : List Nat} (H : Same h h' l) (i : Nat) (o : HObj) : Same (h.set i o) (h'.set i o) l := by
  intro id hid
  have e := H id hid
  by_cases hi : i = id
  · subst hi
    rw [List.getElem?_set, List.getElem?_set, if_pos rfl, if_pos rfl]
    have a : i < h.length ↔ i < h'.length := by
      constructor
      · intro q
        rcases Nat.lt_or_ge i h'.length with g | g
        · exact g
        · rw [List.getElem?_eq_none g, List.getElem?_eq_getElem q] at e; cases e
      · intro q
        rcases Nat.lt_or_ge i h.length with g | g
        · exact g
        · rw [List.getElem?_eq_none g, List.getElem?_eq_getElem q] at e; cases e
    by_cases q : i < h.length
    · rw [if_pos q, if_pos (a.1 q)]
    · rw [if_neg q, if_neg (fun g => q (a.2 g))]
  · rw [set_ne hi, set_ne hi, e]
theorem Same.applyU {l : List Nat} : ∀ (us : List (Nat × HObj)) {h h' : List HObj}, Same h h' l → Same (Lift.applyU h us) (Lift.applyU h' us) l
  | [], _, _, H => H
  | u :: us, _, _, H => Same.applyU us (H.set u.1 u.2)
def hz1 : HObj → HObj
  | .box .fz t cs => .box .fz t cs
  | .row .fz t e xs => .row .fz t e xs
  | .mp .fz a b xs => .mp .fz a b xs
  | _ => .dead
theorem hz_map : ∀ h : List HObj, hz h = h.map hz1
  | [] => rfl
  | x :: h => by
    unfold hz
    split <;> rename_i e <;> cases e
    · rw [List.map_cons, hz_map]; rfl
    · rw [List.map_cons, hz_map]; rfl
    · rw [List.map_cons, hz_map]; rfl
    · rename_i y h1 h2 h3
      rw [List.map_cons, hz_map]
      congr 1
      unfold hz1
      split
      · rename_i t cs; exact absurd rfl (h1 t cs)
      · rename_i t e xs; exact absurd rfl (h2 t e xs)
      · rename_i a b xs; exact absurd rfl (h3 a b xs)
      · rfl
theorem Same.hz {l : List Nat} (H : Same h h' l) : Same (Lift.hz h) (Lift.hz h') l := by
  intro id hid
  rw [hz_map, hz_map, List.getElem?_map, List.getElem?_map, H id hid]
theorem SV.fz_congr {s : SV} (H : Same h h' s.ids) : s.fz h = s.fz h' := by
  cases s with
  | osl id off len => have := H _ (List.mem_singleton.2 rfl); simp only [SV.fz, this]
  | _ => rfl
theorem fzs_congr : ∀ {cs : List SV}, Same h h' (cs.flatMap SV.ids) → fzs h cs = fzs h' cs
  | [], _ => rfl
  | s :: cs, H => by
    rw [List.flatMap_cons] at H
    simp only [fzs, SV.fz_congr H.left, fzs_congr H.right]
theorem XV.fz_congr {v : XV} (H : Same h h' v.ids) : v.fz h = v.fz h' := by
  cases v with
  | one s => exact SV.fz_congr H
  | agg cs => exact fzs_congr H
  | dat k x => rfl
theorem fzx_congr : ∀ {vs : List XV}, Same h h' (vs.flatMap XV.ids) → fzx h vs = fzx h' vs
  | [], _ => rfl
  | v :: vs, H => by
    rw [List.flatMap_cons] at H
    simp only [fzx, XV.fz_congr H.left, fzx_congr H.right]
theorem fze_congr : ∀ {vs : List EV}, Same h h' (vs.flatMap EV.ids) → fze h vs = fze h' vs
  | [], _ => rfl
  | .x v :: vs, H => by
    rw [List.flatMap_cons] at H
    have H1 : Same h h' v.ids := H.left
    simp only [fze, XV.fz_congr H1, fze_congr H.right]
  | .tup _ :: vs, H => by
    rw [List.flatMap_cons] at H
    simp only [fze, fze_congr H.right]
theorem XV.cells_congr {v : XV} (H : Same h h' v.ids) : v.cells h = v.cells h' := by
  cases v with
  | one s => simp only [XV.cells, SV.isOne_congr (show Same h h' s.ids from H)]
  | agg cs => simp only [XV.cells, all_congr (show Same h h' (cs.flatMap SV.ids) from H)]
  | dat k x =>
    have e : (k.cells x).all (SV.isOne h) = (k.cells x).all (SV.isOne h') := by
      refine all_congr ?_
      intro id hid
      obtain ⟨s, hs, hi⟩ := List.mem_flatMap.1 hid
      exact absurd hi (by rw [K.cells_ids k x s hs]; simp)
    simp only [XV.cells, e]
variable {cx : Cx} {tgt : Nat}
theorem opLen_congr {t : TypeId} {v : EV} (H : Same h h' v.ids) : opLen cx h t v = opLen cx h' t v := by
  unfold opLen
  split
  · cases v with
    | tup _ => first | rfl | ((repeat' split) <;> first | rfl | (simp_all [Same, EV.ids, XV.ids, SV.ids]; done))
    | x v => cases v with
      | one s => cases s <;> first | rfl | (have := H _ (List.mem_singleton.2 rfl); simp only [this]; done) | ((repeat' split) <;> first | rfl | (simp_all [Same, EV.ids, XV.ids, SV.ids]; done))
      | _ => first | rfl | ((repeat' split) <;> first | rfl | (simp_all [Same, EV.ids, XV.ids, SV.ids]; done))
  · rfl
  · rfl
theorem opIndexAddr_congr {t : TypeId} {v i : EV} (H : Same h h' v.ids) : opIndexAddr cx h t v i = opIndexAddr cx h' t v i := by
  unfold opIndexAddr
  split
  · generalize cx.tab _ = q
    cases q with
    | none => rfl
    | some ed => cases v with
      | tup _ => rfl
      | x v => cases v with
        | one s => cases s with
          | osl id off len => have := H _ (List.mem_singleton.2 rfl); simp only [this]
          | bsl id len => have := H _ (List.mem_singleton.2 rfl); simp only [this]
          | data k x => cases k <;> rfl
          | _ => rfl
        | _ => rfl
  · generalize cx.tab _ = q
    cases q with
    | none => rfl
    | some ed => cases v with
      | tup _ => rfl
      | x v => cases v with
        | one s => cases s with
          | ref id off => cases off with
            | zero => have := H _ (List.mem_singleton.2 rfl); simp only [this]
            | succ n => rfl
          | eref id i off => have := H _ (List.mem_singleton.2 rfl); simp only [this]
          | data k x => cases k with
            | ptr e => cases e <;> first | rfl | (cases x <;> rfl)
            | _ => rfl
          | _ => rfl
        | _ => rfl
  · rfl
theorem opFieldAddr_congr {t : TypeId} {v : EV} {f : Nat} (H : Same h h' v.ids) : opFieldAddr cx h t v f = opFieldAddr cx h' t v f := by
  unfold opFieldAddr
  cases v with
  | tup _ => first | rfl | ((repeat' split) <;> first | rfl | (simp_all [Same, EV.ids, XV.ids, SV.ids]; done))
  | x v => cases v with
    | one s => cases s <;> first | rfl | (have := H _ (List.mem_singleton.2 rfl); simp only [this]; done) | ((repeat' split) <;> first | rfl | (simp_all [Same, EV.ids, XV.ids, SV.ids]; done))
    | _ => first | rfl | ((repeat' split) <;> first | rfl | (simp_all [Same, EV.ids, XV.ids, SV.ids]; done))
theorem opLoad_congr {t : TypeId} {v : EV} (H : Same h h' v.ids) : opLoad cx h t v = opLoad cx h' t v := by
  unfold opLoad
  cases v with
  | tup _ => first | rfl | ((repeat' split) <;> first | rfl | (simp_all [Same, EV.ids, XV.ids, SV.ids]; done))
  | x v => cases v with
    | one s => cases s <;> first | rfl | (have := H _ (List.mem_singleton.2 rfl); simp only [this]; done) | ((repeat' split) <;> first | rfl | (simp_all [Same, EV.ids, XV.ids, SV.ids]; done))
    | _ => first | rfl | ((repeat' split) <;> first | rfl | (simp_all [Same, EV.ids, XV.ids, SV.ids]; done))
theorem opStore_congr {t : TypeId} {x v : EV} (H : Same h h' x.ids) (H' : Same h h' v.ids) : opStore cx h t x v = opStore cx h' t x v := by
  unfold opStore
  generalize cx.tab t = q
  cases q with
  | none => rfl
  | some td => cases v with
    | tup _ => rfl
    | x xv =>
      have H2 : Same h h' xv.ids := H'
      have e1 : ∀ k, xv.take h k = xv.take h' k := fun k => XV.take_congr H2
      have e2 : xv.cells h = xv.cells h' := XV.cells_congr H2
      have e3 : xv.fz h = xv.fz h' := XV.fz_congr H2
      have e4 : ∀ k, xv.take (hz (applyU h (xv.fz h'))) k = xv.take (hz (applyU h' (xv.fz h'))) k := fun k => XV.take_congr (Same.hz (Same.applyU _ H2))
      cases x with
      | tup _ => rfl
      | x v => cases v with
        | one s => cases s with
          | ref id off => have := H _ (List.mem_singleton.2 rfl); simp only [this, e1, e2, e3, e4]
          | eref id i off => cases off with
            | zero => have := H _ (List.mem_singleton.2 rfl); simp only [this, e1, e2, e3, e4]
            | succ n => rfl
          | _ => rfl
        | _ => rfl
theorem opBox_congr {t : TypeId} {v : EV} (H : Same h h' v.ids) : opBox cx h t v tgt = opBox cx h' t v tgt := by
  unfold opBox
  generalize cx.tab t = q
  cases q with
  | none => rfl
  | some td => cases v with
    | tup _ => rfl
    | x xv =>
      have H2 : Same h h' xv.ids := H
      simp only [XV.take_congr H2, XV.cells_congr H2]
theorem oneAll_congr : ∀ {vs : List EV}, Same h h' (vs.flatMap EV.ids) → oneAll h vs = oneAll h' vs
  | [], _ => rfl
  | .x (.one s) :: vs, H => by
    rw [List.flatMap_cons] at H
    simp only [oneAll, SV.isOne_congr (show Same h h' s.ids from H.left), oneAll_congr H.right]
  | .x (.agg _) :: vs, _ => rfl
  | .x (.dat _ _) :: vs, _ => rfl
  | .tup _ :: vs, _ => rfl
theorem opBuildSlice_congr {t : TypeId} {n : Nat} {is : List Nat} {vs : List EV} (H : Same h h' (vs.flatMap EV.ids)) : opBuildSlice cx h t n is vs tgt = opBuildSlice cx h' t n is vs tgt := by
  unfold opBuildSlice
  have e4 : ∀ k, takeAll (hz (applyU h (fze h' vs))) k vs = takeAll (hz (applyU h' (fze h' vs))) k vs := fun k => takeAll_congr (Same.hz (Same.applyU _ H))
  simp only [takeAll_congr H, fze_congr H, e4, oneAll_congr H]
theorem opAppend_congr {t : TypeId} {x y : EV} (H : Same h h' x.ids) (H' : Same h h' y.ids) : opAppend cx h t x y tgt = opAppend cx h' t x y tgt := by
  unfold opAppend
  cases y with
  | tup _ => split <;> first | rfl | (rename_i e; cases e)
  | x yv =>
    have H2 : Same h h' yv.ids := H'
    have e1 : ∀ (yu : XV), EV.x yv = EV.x yu → ∀ k, yu.take h k = yu.take h' k := fun yu e k => by cases e; exact XV.take_congr H2
    split
    · split
      · split
        · split
          · split
            · split
              · rw [e1 _ (by assumption)]
              · rfl
            · rfl
          · cases x with
            | tup _ => rfl
            | x v => cases v with
              | one s => cases s with
                | osl id off len => cases off with
                  | zero =>
                    have := H _ (List.mem_singleton.2 rfl)
                    simp only [← this]
                    split
                    · split
                      · rw [e1 _ (by assumption)]
                      · rfl
                    · rfl
                  | succ n => rfl
                | full ek xs =>
                  dsimp only
                  split
                  · rw [e1 _ (by assumption)]
                  · rfl
                | _ => rfl
              | _ => rfl
        · rfl
      · rfl
    · rfl
theorem opAppendS_congr {t : TypeId} {x y : EV} (H : Same h h' x.ids) : opAppendS cx h t x y tgt = opAppendS cx h' t x y tgt := by
  unfold opAppendS
  split
  · split
    · split
      · split
        · rfl
        · cases x with
          | tup _ => rfl
          | x v => cases v with
            | one s => cases s with
              | osl id off len => cases off with
                | zero =>
                  have := H _ (List.mem_singleton.2 rfl)
                  simp only [← this]
                | succ n => rfl
              | _ => rfl
            | _ => rfl
      · rfl
    · rfl
  · rfl
theorem copySrc_congr {ek : K} {y : EV} (H : Same h h' y.ids) : copySrc h ek y = copySrc h' ek y := by
  unfold copySrc
  cases y with
  | tup _ => rfl
  | x yv =>
    have H2 : Same h h' yv.ids := H
    simp only [XV.take_congr H2]
theorem opCopy_congr {t : TypeId} {x y : EV} (H : Same h h' x.ids) (H' : Same h h' y.ids) : opCopy cx h t x y = opCopy cx h' t x y := by
  unfold opCopy
  split
  · rename_i e sz by_ z kd id off len ht
    have H1 : Same h h' [id] := H
    have := H1 id (List.mem_singleton.2 rfl)
    have e1 : ∀ ek, copySrc h ek y = copySrc h' ek y := fun ek => copySrc_congr H'
    simp only [this, e1]
  · rfl
theorem opSlice_congr {t : TypeId} {v : EV} {a b m : Option EV} (H : Same h h' v.ids) : opSlice cx h t v a b m = opSlice cx h' t v a b m := by
  unfold opSlice
  split
  · generalize cx.tab _ = q
    cases q with
    | none => rfl
    | some ed => cases v with
      | tup _ => rfl
      | x v => cases v with
        | one s => cases s with
          | osl id off len => have := H _ (List.mem_singleton.2 rfl); simp only [this]
          | data k x => cases k <;> rfl
          | _ => rfl
        | _ => rfl
  · generalize cx.tab _ = q
    cases q with
    | none => rfl
    | some ed => cases v with
      | tup _ => rfl
      | x v => cases v with
        | one s => cases s with
          | ref id off => cases off with
            | zero => have := H _ (List.mem_singleton.2 rfl); simp only [this]
            | succ n => rfl
          | _ => rfl
        | _ => rfl
  · rfl
theorem opNil_congr {v : EV} (H : Same h h' v.ids) : opNil h v = opNil h' v := by
  unfold opNil
  cases v with
  | tup _ => first | rfl | ((repeat' split) <;> first | rfl | (simp_all [Same, EV.ids, XV.ids, SV.ids]; done))
  | x v => cases v with
    | one s => cases s <;> first | rfl | (have := H _ (List.mem_singleton.2 rfl); simp only [this]; done) | ((repeat' split) <;> first | rfl | (simp_all [Same, EV.ids, XV.ids, SV.ids]; done))
    | _ => first | rfl | ((repeat' split) <;> first | rfl | (simp_all [Same, EV.ids, XV.ids, SV.ids]; done))
theorem opEq_congr {neg : Bool} {t : TypeId} {x y : EV} (H : Same h h' x.ids) : opEq cx h neg t x y = opEq cx h' neg t x y := by
  unfold opEq
  cases x with
  | tup _ => first | rfl | ((repeat' split) <;> first | rfl | (simp_all [Same, EV.ids, XV.ids, SV.ids]; done))
  | x v => cases v with
    | one s => cases s <;> first | rfl | (have := H _ (List.mem_singleton.2 rfl); simp only [this]; done) | ((repeat' split) <;> first | rfl | (simp_all [Same, EV.ids, XV.ids, SV.ids]; done))
    | _ => first | rfl | ((repeat' split) <;> first | rfl | (simp_all [Same, EV.ids, XV.ids, SV.ids]; done))
theorem opBin_congr {op : BinOp} {t : TypeId} {x y : EV} (H : Same h h' x.ids) : opBin cx h op t x y = opBin cx h' op t x y := by
  unfold opBin
  split
  · rfl
  · rfl
  · split
    · exact opEq_congr H
    · exact opEq_congr H
    · rfl
theorem mapOf_congr {i j l : IntKind} {m : EV} (H : Same h h' m.ids) : mapOf h i j l m = mapOf h' i j l m := by
  unfold mapOf
  split
  · rename_i id
    have := H id (List.mem_singleton.2 rfl)
    simp only [this]
  · rfl
  · rfl
theorem opLookup_congr {t : TypeId} {m k : EV} {two : Bool} (H : Same h h' m.ids) : opLookup cx h t m k two = opLookup cx h' t m k two := by
  unfold opLookup
  split
  · rw [mapOf_congr H]
  · rfl
theorem opMapUpdate_congr {t : TypeId} {m k v : EV} (H : Same h h' m.ids) : opMapUpdate cx h t m k v = opMapUpdate cx h' t m k v := by
  unfold opMapUpdate
  split
  · rename_i id _ _ _ _
    have := H id (List.mem_singleton.2 rfl)
    simp only [this]
  · rfl
theorem xvs_ids : ∀ {es : List EV} {vs : List XV}, xvs es = some vs → vs.flatMap XV.ids = es.flatMap EV.ids
  | [], vs, e => by cases e; rfl
  | .x v :: es, vs, e => by
    simp only [xvs] at e
    split at e
    · rename_i us hu
      cases e
      rw [List.flatMap_cons, List.flatMap_cons, xvs_ids hu]; rfl
    · cases e
  | .tup _ :: _, _, e => by cases e
theorem opCall_congr {f : FuncId} {args : List EV} (H : Same h h' (args.flatMap EV.ids)) : opCall cx h f args tgt = opCall cx h' f args tgt := by
  unfold opCall
  split
  · rename_i vs hc hv
    have H2 : Same h h' (vs.flatMap XV.ids) := by rw [xvs_ids hv]; exact H
    have e4 : ∀ ks, takes (hz (applyU h (fzx h' vs))) ks vs = takes (hz (applyU h' (fzx h' vs))) ks vs := fun k => takes_congr _ (Same.hz (Same.applyU _ H2))
    simp only [takes_congr _ H2, fzx_congr H2, e4]
  · rename_i vs hc hv
    have H2 : Same h h' (vs.flatMap XV.ids) := by rw [xvs_ids hv]; exact H
    have e4 : ∀ ks, takes (hz (applyU h (fzx h' vs))) ks vs = takes (hz (applyU h' (fzx h' vs))) ks vs := fun k => takes_congr _ (Same.hz (Same.applyU _ H2))
    simp only [takes_congr _ H2, fzx_congr H2, e4]
  · rfl
end
theorem fillA_congr {h h' : List HObj} {place : Nat → Option (Nat × Nat)} : ∀ {is : List Nat} {vs : List EV} {cs : List SV}, Same h h' (vs.flatMap EV.ids) → fillA h place cs is vs = fillA h' place cs is vs
  | [], [], _, _ => rfl
  | i :: is, .x v :: vs, cs, H => by
    rw [List.flatMap_cons] at H
    simp only [fillA, XV.cells_congr (show Same h h' v.ids from H.left)]
    split
    · split
      · exact fillA_congr H.right
      · rfl
    · rfl
  | [], _ :: _, _, _ => rfl
  | _ :: _, [], _, _ => rfl
  | _ :: _, .tup _ :: _, _, _ => rfl
theorem opBuild_congr {cx : Cx} {h h' : List HObj} {t : TypeId} {is : List Nat} {vs : List EV} (H : Same h h' (vs.flatMap EV.ids)) : opBuild cx h t is vs = opBuild cx h' t is vs := by
  unfold opBuild
  split
  · rw [fillA_congr H]
  · rfl
theorem aop_congr {cx : Cx} {o : Oper} {env env' : List EV} {h h' : List HObj} {tgt : Nat} (H : ∀ x ∈ o.op.operands.toList, cx.eval env x = cx.eval env' x ∧ Same h h' (cx.eval env x).ids) : aop cx o env h tgt = aop cx o env' h' tgt := by
  cases hop : o.op <;> simp only [aop, hop] <;> rw [hop] at H
  case move x => rw [(H x (by simp [Op.operands])).1]
  case assign x => rw [(H x (by simp [Op.operands])).1]
  case pick a b c => rw [(H a (by simp [Op.operands])).1, (H b (by simp [Op.operands])).1, (H c (by simp [Op.operands])).1]
  case box t x => rw [← (H x (by simp [Op.operands])).1, opBox_congr (H x (by simp [Op.operands])).2]
  case load t x => rw [← (H x (by simp [Op.operands])).1, opLoad_congr (H x (by simp [Op.operands])).2]
  case nilCheck x => rw [← (H x (by simp [Op.operands])).1, opNil_congr (H x (by simp [Op.operands])).2]
  case unOp op t x => rw [(H x (by simp [Op.operands])).1]
  case convert s d x =>
    rw [← (H x (by simp [Op.operands])).1]
    unfold opConvX
    split
    · have H2 := (H x (by simp [Op.operands])).2
      generalize cx.eval env x = v at H2
      cases v with
      | tup _ => rfl
      | x xv =>
        have H3 : Same h h' xv.ids := H2
        simp only [opB2S, XV.take_congr H3]
    · split
      · have H2 := (H x (by simp [Op.operands])).2
        generalize cx.eval env x = v at H2
        unfold opConvS
        split
        · rename_i e _ _ _ _ id len _
          have : h[id]? = h'[id]? := H2 id (List.mem_singleton.2 rfl)
          rw [this]
        · rename_i e _ _ _ _ id len _
          have : h[id]? = h'[id]? := H2 id (List.mem_singleton.2 rfl)
          rw [this]
        · rfl
      · rfl
  case makeFunc f xs ys =>
    have e1 : xs.toList.map (cx.eval env) = xs.toList.map (cx.eval env') := List.map_congr_left fun x hx => (H x (by simp [Op.operands]; exact .inl (by simpa using hx))).1
    have e2 : ys.toList.map (cx.eval env) = ys.toList.map (cx.eval env') := List.map_congr_left fun x hx => (H x (by simp [Op.operands]; exact .inr (by simpa using hx))).1
    rw [e1, e2]
  case index t x i => rw [(H x (by simp [Op.operands])).1, (H i (by simp [Op.operands])).1]
  case extract x i => rw [(H x (by simp [Op.operands])).1]
  case store t x v => rw [← (H x (by simp [Op.operands])).1, ← (H v (by simp [Op.operands])).1, opStore_congr (H x (by simp [Op.operands])).2 (H v (by simp [Op.operands])).2]
  case binOp op t x y r => rw [← (H x (by simp [Op.operands])).1, ← (H y (by simp [Op.operands])).1, opBin_congr (H x (by simp [Op.operands])).2]
  case makeMap t n =>
    have e : n.map (cx.eval env) = n.map (cx.eval env') := by cases n with | none => rfl | some z => rw [Option.map_some, Option.map_some, (H z (by simp [Op.operands])).1]
    rw [e]
  case lookup t x y two => rw [← (H x (by simp [Op.operands])).1, ← (H y (by simp [Op.operands])).1, opLookup_congr (H x (by simp [Op.operands])).2]
  case mapUpdate t x y z => rw [← (H x (by simp [Op.operands])).1, ← (H y (by simp [Op.operands])).1, ← (H z (by simp [Op.operands])).1, opMapUpdate_congr (H x (by simp [Op.operands])).2]
  case makeSlice t x y => rw [(H x (by simp [Op.operands])).1, (H y (by simp [Op.operands])).1]
  case fieldAddr t x f => rw [← (H x (by simp [Op.operands])).1, opFieldAddr_congr (H x (by simp [Op.operands])).2]
  case indexAddr t x i => rw [← (H x (by simp [Op.operands])).1, ← (H i (by simp [Op.operands])).1, opIndexAddr_congr (H x (by simp [Op.operands])).2]
  case build t ps =>
    have e : (ps.toList.map fun p => cx.eval env p.2) = ps.toList.map fun p => cx.eval env' p.2 := List.map_congr_left fun p hp => (H p.2 (by simp [Op.operands]; exact ⟨p.1, by simpa using hp⟩)).1
    rw [← e]
    refine opBuild_congr ?_
    intro id hid
    obtain ⟨ev, he, hi⟩ := List.mem_flatMap.1 hid
    obtain ⟨p, hp, rfl⟩ := List.mem_map.1 he
    exact (H p.2 (by simp [Op.operands]; exact ⟨p.1, by simpa using hp⟩)).2 id hi
  case buildSlice t n ps =>
    have e : (ps.toList.map fun p => cx.eval env p.2) = ps.toList.map fun p => cx.eval env' p.2 := List.map_congr_left fun p hp => (H p.2 (by simp [Op.operands]; exact ⟨p.1, by simpa using hp⟩)).1
    rw [← e]
    refine opBuildSlice_congr ?_
    intro id hid
    obtain ⟨ev, he, hi⟩ := List.mem_flatMap.1 hid
    obtain ⟨p, hp, rfl⟩ := List.mem_map.1 he
    exact (H p.2 (by simp [Op.operands]; exact ⟨p.1, by simpa using hp⟩)).2 id hi
  case slice t x lo hi mx =>
    have hx := H x (by simp [Op.operands])
    have e1 : lo.map (cx.eval env) = lo.map (cx.eval env') := by cases lo with | none => rfl | some z => rw [Option.map_some, Option.map_some, (H z (by simp [Op.operands])).1]
    have e2 : hi.map (cx.eval env) = hi.map (cx.eval env') := by cases hi with | none => rfl | some z => rw [Option.map_some, Option.map_some, (H z (by simp [Op.operands])).1]
    have e3 : mx.map (cx.eval env) = mx.map (cx.eval env') := by cases mx with | none => rfl | some z => rw [Option.map_some, Option.map_some, (H z (by simp [Op.operands])).1]
    split
    · rfl
    · rw [← e1, ← e2, ← e3, ← hx.1, opSlice_congr hx.2]
  case call c =>
    have e : c.args.toList.map (cx.eval env) = c.args.toList.map (cx.eval env') := List.map_congr_left fun x hx => (H x (by simp [Op.operands, Call.operands]; exact .inr (by simpa using hx))).1
    have s : Same h h' ((c.args.toList.map (cx.eval env)).flatMap EV.ids) := by
      intro id hid
      obtain ⟨ev, he, hi⟩ := List.mem_flatMap.1 hid
      obtain ⟨x, hx, rfl⟩ := List.mem_map.1 he
      exact (H x (by simp [Op.operands, Call.operands]; exact .inr (by simpa using hx))).2 id hi
    rw [← e]
    split
    · unfold opBuiltin
      split
      · rename_i t x e0 e1 e2
        have e3 : c.args.toList.map (cx.eval env) = [x] := by assumption
        rw [e3] at s
        exact opLen_congr (by simpa using s)
      · rename_i t t' x y e0 e1 e2
        have e3 : c.args.toList.map (cx.eval env) = [x, y] := by assumption
        rw [e3] at s
        have s2 : Same h h' (x.ids ++ y.ids) := by simpa using s
        rw [opAppend_congr (x := x.weak) (y := y.weak) (by rw [EV.weak_ids]; exact s2.left) (by rw [EV.weak_ids]; exact s2.right), opAppendS_congr s2.left]
      · rename_i t t' x y e0 e1 e2
        have e3 : c.args.toList.map (cx.eval env) = [x, y] := by assumption
        rw [e3] at s
        have s2 : Same h h' (x.ids ++ y.ids) := by simpa using s
        exact opCopy_congr s2.left s2.right
      · rfl
      · rfl
      · rfl
    · exact opCall_congr s
    · rename_i x _ hcx
      have hx2 := H x (by simp [Op.operands, Call.operands, hcx])
      have hx3 := hx2.2
      rw [← hx2.1]
      unfold opClo
      split
      · rename_i f caps heq
        rw [heq] at hx3
        have s3 : Same h h' ((c.args.toList.map (cx.eval env) ++ caps.map LV.ev).flatMap EV.ids) := by
          rw [List.flatMap_append, LV.evs_ids]
          intro id hid
          rcases List.mem_append.1 hid with hid | hid
          · exact s id hid
          · exact hx3 id hid
        rw [opCall_congr s3]
      · rfl
    · rfl
end Go.Lift

set_option linter.unusedVariables false
set_option linter.unusedSimpArgs false
set_option linter.unusedSectionVars false
namespace Go.Lift
def quietOp (cx : Cx) (o : Oper) : Bool := match o.op with
  | .store .. => false
  | .mapUpdate .. => false
  | .convert s d _ => !(Nat.beq s d)
  | .buildSlice t .. => flatE cx t
  | .call c => match c.callee with
    | .builtin b => match b with
      | .append => false
      | .copy => false
      | _ => true
    | .value (.func f) => match c.args.toList with
      | [] => true
      | _ => conFlat cx f
    | _ => true
  | _ => true
theorem aop_quiet {cx : Cx} {o : Oper} (hq : quietOp cx o = true) (env : List EV) (h : List HObj) (tgt : Nat) : (aop cx o env h tgt).All (Touch [] tgt (nAlloc cx o)) := by
  cases hop : o.op <;> simp only [aop, nAlloc, hop] <;> simp only [quietOp, hop] at hq
  case move => exact Touch.nil
  case assign => exact Touch.nil
  case pick => exact opPick_touch
  case alloc => exact opAlloc_touch
  case box => exact opBox_touch
  case build => exact opBuild_touch
  case buildSlice => exact opBuildSlice_quiet hq
  case load => exact opLoad_touch
  case store => cases hq
  case nilCheck => exact opNil_touch
  case binOp => exact opBin_touch
  case unOp => exact opUn_touch
  case convert => exact opConvX_quiet hq
  case makeFunc => exact opMakeFunc_touch
  case makeSlice => exact opMakeSlice_touch
  case makeMap => exact opMakeMap_touch
  case lookup => exact opLookup_touch
  case mapUpdate => cases hq
  case slice =>
    split
    · trivial
    · exact opSlice_touch
  case fieldAddr => exact opFieldAddr_touch
  case indexAddr => exact opIndexAddr_touch
  case extract => exact opExtract_touch
  case index => exact opIndex_touch
  case call c =>
    cases hc : c.callee with
    | builtin b =>
      rw [hc] at hq
      simp only
      cases b <;> simp only [opBuiltin] <;> (repeat' split) <;> first | trivial | exact opLen_touch | exact opMM_touch | (simp only at hq; cases hq) | simp_all
    | value f =>
      rw [hc] at hq
      cases f with
      | func f =>
        simp only at hq ⊢
        cases ha : c.args.toList with
        | nil => exact opCall_none
        | cons x l => rw [ha] at hq; exact opCall_quiet hq
      | _ => exact opClo_touch
    | invoke => trivial
  all_goals trivial
def pureOp (o : Oper) : Bool := match o.op with
  | .move _ => true
  | .assign _ => true
  | .binOp op _ _ _ _ => match op with
    | .eql => false
    | .neq => false
    | _ => true
  | _ => false
theorem Touch.none {tgt : Nat} {us : List (Nat × HObj)} (h : Touch [] tgt 0 us) : us = [] := by
  cases us with
  | nil => rfl
  | cons u us =>
    rcases h u List.mem_cons_self with h | ⟨o, h, _⟩
    · omega
    · simp at h
theorem pure_all {cx : Cx} {o : Oper} (hp : pureOp o = true) (env : List EV) (h : List HObj) (tgt : Nat) : (aop cx o env h tgt).All (Touch [] tgt 0) := by
  cases hop : o.op <;> simp only [aop, hop] <;> simp only [pureOp, hop] at hp
  case move => exact Touch.nil
  case assign => exact Touch.nil
  case binOp => exact opBin_touch
  all_goals cases hp
theorem pure_congr {cx : Cx} {o : Oper} (hp : pureOp o = true) (env : List EV) (h h' : List HObj) (tgt : Nat) : aop cx o env h tgt = aop cx o env h' tgt := by
  cases hop : o.op <;> simp only [aop, hop] <;> simp only [pureOp, hop] at hp
  case binOp op t x y z =>
    unfold opBin
    split
    · rfl
    · rfl
    · cases op <;> first | rfl | cases hp
  all_goals cases hp
theorem Res.wp_forall {α : Type} {p : α → Prop} (ne : ∃ a, p a) {G : α → EV → List (Nat × HObj) → Prop} : ∀ {r : Res}, (∀ a, p a → r.wp (G a)) → r.wp fun e u => ∀ a, p a → G a e u
  | .fail, h => let ⟨a, ha⟩ := ne; h a ha
  | .ret _ _, h => h
  | .ask _ f, h => let ⟨a, ha⟩ := ne; ⟨(h a ha).1, Res.wp_forall ne fun a ha => (h a ha).2⟩
  | .all _ _ _ f, h => fun b hb => Res.wp_forall ne fun a ha => h a ha b hb
  | .br b x y, h => Br.intro (fun e => Res.wp_forall (r := x) ne fun a ha => Br.t (h a ha) e) (fun e => Res.wp_forall (r := y) ne fun a ha => Br.f (h a ha) e)
theorem Res.swap {r2 : Res} {F : EV → List (Nat × HObj) → EV → List (Nat × HObj) → Prop} : ∀ {r1 : Res}, (r1.wp fun e1 u1 => r2.wp fun e2 u2 => F e1 u1 e2 u2) → r2.wp fun e2 u2 => r1.wp fun e1 u1 => F e1 u1 e2 u2
  | .fail, h => h.elim
  | .ret _ _, h => h
  | .ask _ f, ⟨q, h⟩ => Res.wp_mono (fun _ _ h => ⟨q, h⟩) (Res.swap h)
  | .all _ p ne f, h => Res.wp_forall ne fun a ha => Res.swap (h a ha)
  | .br b x y, h => by
    cases b with
    | true => exact Res.swap (r1 := x) (Br.t h rfl)
    | false => exact Res.swap (r1 := y) (Br.f h rfl)
def chk (cx : Cx) (ok : Nat → Bool) (o : Oper) (env : List EV) : Bool := o.op.operands.toList.all fun x => (cx.eval env x).ids.all ok
def stIds (cx : Cx) (o : Oper) (env : List EV) : List Nat := match o.op with
  | .store _ x v => (cx.eval env x).ids ++ (cx.eval env v).ids
  | _ => []
def isSt (o : Oper) : Bool := match o.op with
  | .store .. => true
  | _ => false
def chkS (cx : Cx) (ok : Nat → Bool) (st : List Nat → Bool) (o : Oper) (env : List EV) : Bool := if chk cx ok o env then st (stIds cx o env) else false
def gres (cx : Cx) (ops : Array Oper) (ok : Nat → Bool) (st : List Nat → Bool) (o : Oper) (s : St) (tgt : Nat) : Res := match o.guard with
  | none => if chkS cx ok st o s.env then aop cx o s.env s.heap tgt else .fail
  | some (g, want) => match guardOf ops s.env g with
    | none => if gone ops s.env g then .ret .skip [] else .fail
    | some (_, b) => if b = want then (if chkS cx ok st o s.env then aop cx o s.env s.heap tgt else .fail) else .ret .skip []
theorem gres_quiet {cx : Cx} {ops : Array Oper} {ok : Nat → Bool} {st : List Nat → Bool} {o : Oper} (hq : quietOp cx o = true) {s : St} {tgt : Nat} : (gres cx ops ok st o s tgt).All (Touch [] tgt (nAlloc cx o)) := by
  unfold gres
  repeat' split
  all_goals first | exact aop_quiet hq _ _ _ | trivial | exact Touch.nil
theorem eval_congr {cx : Cx} {env env' : List EV} {x : Operand} (h : ∀ t, x = .tmp t → env[t]? = env'[t]?) : cx.eval env x = cx.eval env' x := by
  cases x with
  | tmp t => simp only [Cx.eval, List.getD_eq_getElem?_getD, h t rfl]
  | _ => rfl
theorem gres_pure {cx : Cx} {ops : Array Oper} {ok : Nat → Bool} {st : List Nat → Bool} {o : Oper} (hp : pureOp o = true) {s : St} {tgt : Nat} : (gres cx ops ok st o s tgt).All (Touch [] tgt 0) := by
  unfold gres
  repeat' split
  all_goals first | exact pure_all hp _ _ _ | trivial | exact Touch.nil
theorem gres_congr {cx : Cx} {ops : Array Oper} {ok : Nat → Bool} {st : List Nat → Bool} {o : Oper} {s s' : St} {tgt : Nat} (he : ∀ t ∈ o.looksAt ops, s.env[t]? = s'.env[t]?) (hh : pureOp o = true ∨ ∀ id, ok id = true → s.heap[id]? = s'.heap[id]?) :
    gres cx ops ok st o s tgt = gres cx ops ok st o s' tgt := by
  have hev : ∀ x ∈ o.op.operands.toList, cx.eval s.env x = cx.eval s'.env x := fun x hx => eval_congr fun t ht => he t (by
    subst ht
    exact List.mem_append_left _ (List.mem_filterMap.2 ⟨_, hx, rfl⟩))
  have hc : chk cx ok o s.env = chk cx ok o s'.env := by
    unfold chk
    have : ∀ l : List Operand, (∀ x ∈ l, cx.eval s.env x = cx.eval s'.env x) → (l.all fun x => (cx.eval s.env x).ids.all ok) = l.all fun x => (cx.eval s'.env x).ids.all ok := by
      intro l
      induction l with
      | nil => intro _; rfl
      | cons x l ih => intro h; rw [List.all_cons, List.all_cons, h x List.mem_cons_self, ih fun y hy => h y (List.mem_cons_of_mem _ hy)]
    exact this _ hev
  have ha : chk cx ok o s.env = true → aop cx o s.env s.heap tgt = aop cx o s'.env s'.heap tgt := fun h => by
    rcases hh with hp | hh
    · rw [pure_congr hp s.env s.heap s'.heap]
      exact aop_congr fun x hx => ⟨hev x hx, fun id hid => rfl⟩
    · exact aop_congr fun x hx => ⟨hev x hx, fun id hid => hh id (by
        simp only [chk, List.all_eq_true] at h
        exact h x hx id hid)⟩
  have hgo : ∀ g w, o.guard = some (g, w) → guardOf ops s.env g = guardOf ops s'.env g := by
    intro g w hg
    unfold guardOf
    split
    · rename_i d hd
      rw [he d (by
        refine List.mem_append_right _ ?_
        rw [hg]; simp [hd])]
    · rfl
  have hgn : ∀ g w, o.guard = some (g, w) → gone ops s.env g = gone ops s'.env g := by
    intro g w hg
    unfold gone
    split
    · rename_i d hd
      rw [he d (by
        refine List.mem_append_right _ ?_
        rw [hg]; simp [hd])]
    · rfl
  have hst : stIds cx o s.env = stIds cx o s'.env := by
    unfold stIds
    split
    · rename_i t x v hop
      rw [hev x (by rw [hop]; simp [Op.operands]), hev v (by rw [hop]; simp [Op.operands])]
    · rfl
  have e1 : (if chkS cx ok st o s.env then aop cx o s.env s.heap tgt else .fail) = (if chkS cx ok st o s'.env then aop cx o s'.env s'.heap tgt else .fail) := by
    unfold chkS
    rw [← hc, ← hst]
    split
    · rename_i h; rw [ha h]
    · rfl
  unfold gres
  cases hg : o.guard with
  | none => exact e1
  | some gw =>
    obtain ⟨g, w⟩ := gw
    simp only [← hgo g w hg, ← hgn g w hg, e1]
theorem SV.fz_mem {h : List HObj} {s : SV} : ∀ u ∈ s.fz h, u.1 ∈ s.ids := by
  intro u hu
  cases s with
  | osl id off len =>
    simp only [SV.fz] at hu
    (repeat' split at hu) <;> first | (cases hu; done) | (obtain rfl := List.mem_singleton.1 hu; exact List.mem_singleton.2 rfl)
  | _ => cases hu
theorem fzs_mem {h : List HObj} : ∀ {cs : List SV}, ∀ u ∈ fzs h cs, u.1 ∈ cs.flatMap SV.ids
  | [], u, hu => by cases hu
  | s :: cs, u, hu => by
    rw [List.flatMap_cons]
    simp only [fzs] at hu
    rcases List.mem_append.1 hu with hu | hu
    · exact List.mem_append_left _ (SV.fz_mem u hu)
    · exact List.mem_append_right _ (fzs_mem u hu)
theorem XV.fz_mem {h : List HObj} {v : XV} : ∀ u ∈ v.fz h, u.1 ∈ v.ids := by
  intro u hu
  cases v with
  | one s => exact SV.fz_mem u hu
  | agg cs => exact fzs_mem u hu
  | dat k x => cases hu
theorem Res.All.mono {p q : List (Nat × HObj) → Prop} (hpq : ∀ us, p us → q us) : ∀ {r : Res}, r.All p → r.All q
  | .fail, _ => trivial
  | .ret _ us, h => hpq us h
  | .ask _ f, h => fun a => Res.All.mono hpq (h a)
  | .all _ _ _ f, h => fun a => Res.All.mono hpq (h a)
  | .br _ x y, h => ⟨Res.All.mono hpq h.1, Res.All.mono hpq h.2⟩
theorem opStore_ids {cx : Cx} {h : List HObj} {t : TypeId} {x v : EV} : (opStore cx h t x v).All fun us => ∀ u ∈ us, u.1 ∈ x.ids ++ v.ids := by
  unfold opStore
  split
  case h_2 => trivial
  rename_i xv _
  split
  · rename_i id i
    have one : ∀ (o : HObj), ∀ u ∈ [(id, o)], u.1 ∈ (EV.x (.one (.eref id i 0))).ids ++ (EV.x xv).ids := fun o u hu => by
      obtain rfl := List.mem_singleton.1 hu
      exact List.mem_append_left _ (List.mem_singleton.2 rfl)
    split
    case h_2 => trivial
    (repeat' split) <;> first
      | trivial
      | exact one _
      | (intro u hu
         rcases List.mem_append.1 hu with hu | hu
         · exact List.mem_append_right _ (XV.fz_mem u hu)
         · exact one _ u hu)
  · rename_i id off
    have one : ∀ (o : HObj), ∀ u ∈ [(id, o)], u.1 ∈ (EV.x (.one (.ref id off))).ids ++ (EV.x xv).ids := fun o u hu => by
      obtain rfl := List.mem_singleton.1 hu
      exact List.mem_append_left _ (List.mem_singleton.2 rfl)
    (repeat' split) <;> first | trivial | exact one _ | exact fun _ => one _
  · trivial
theorem gres_store {cx : Cx} {ops : Array Oper} {ok : Nat → Bool} {st : List Nat → Bool} {o : Oper} (hs : isSt o = true) {s : St} {tgt : Nat} : (gres cx ops ok st o s tgt).All fun us => ∀ u ∈ us, ok u.1 = true ∧ ∃ l, st l = true ∧ u.1 ∈ l := by
  have main : ∀ env : List EV, chkS cx ok st o env = true → (aop cx o env s.heap tgt).All fun us => ∀ u ∈ us, ok u.1 = true ∧ ∃ l, st l = true ∧ u.1 ∈ l := by
    intro env hc
    unfold isSt at hs
    split at hs
    · rename_i t x v hop
      unfold chkS at hc
      split at hc
      · rename_i hk
        have e : stIds cx o env = (cx.eval env x).ids ++ (cx.eval env v).ids := by unfold stIds; rw [hop]
        rw [e] at hc
        have hall : ∀ id ∈ (cx.eval env x).ids ++ (cx.eval env v).ids, ok id = true := by
          unfold chk at hk
          rw [hop] at hk
          intro id hid
          rcases List.mem_append.1 hid with hid | hid
          · exact List.all_eq_true.1 (List.all_eq_true.1 hk x (by simp [Op.operands])) id hid
          · exact List.all_eq_true.1 (List.all_eq_true.1 hk v (by simp [Op.operands])) id hid
        have e2 : aop cx o env s.heap tgt = opStore cx s.heap t (cx.eval env x) (cx.eval env v) := by simp only [aop, hop]
        rw [e2]
        exact Res.All.mono (fun us h u hu => ⟨hall _ (h u hu), _, hc, h u hu⟩) opStore_ids
      · cases hc
    · cases hs
  have nil : ∀ u ∈ ([] : List (Nat × HObj)), ok u.1 = true ∧ ∃ l, st l = true ∧ u.1 ∈ l := fun u hu => by cases hu
  unfold gres
  (repeat' split) <;> first | exact main _ (by assumption) | trivial | exact nil
theorem putE_ne {env : List EV} {d : Option Tmp} {ev : EV} {t : Nat} (h : d ≠ some t) : (putE env d ev)[t]? = env[t]? := by
  cases d with
  | none => rfl
  | some d => exact set_ne fun e => h (by rw [e])
theorem putE_comm {env : List EV} {d d' : Option Tmp} {a b : EV} (h : ∀ t, d = some t → d' ≠ some t) : putE (putE env d a) d' b = putE (putE env d' b) d a := by
  cases d with
  | none => rfl
  | some d => cases d' with
    | none => rfl
    | some d' => exact List.set_comm _ _ fun e => h d rfl (by rw [e])
theorem applyU_set {id : Nat} {o : HObj} : ∀ (us : List (Nat × HObj)) (h : List HObj), (∀ u ∈ us, u.1 ≠ id) → applyU (h.set id o) us = (applyU h us).set id o
  | [], h, _ => rfl
  | u :: us, h, hn => by
    show applyU ((h.set id o).set u.1 u.2) us = (applyU (h.set u.1 u.2) us).set id o
    rw [List.set_comm _ _ (Ne.symm (hn u List.mem_cons_self)), applyU_set us _ fun v hv => hn v (List.mem_cons_of_mem _ hv)]
theorem applyU_comm : ∀ (us vs : List (Nat × HObj)) (h : List HObj), (∀ u ∈ us, ∀ v ∈ vs, u.1 ≠ v.1) → applyU (applyU h us) vs = applyU (applyU h vs) us
  | [], vs, h, _ => rfl
  | u :: us, vs, h, hn => by
    show applyU (applyU (h.set u.1 u.2) us) vs = applyU ((applyU h vs).set u.1 u.2) us
    rw [applyU_comm us vs _ fun w hw => hn w (List.mem_cons_of_mem _ hw), applyU_set vs h fun v hv => Ne.symm (hn u List.mem_cons_self v hv)]
def tgAt (cx : Cx) (ops : Array Oper) (base i : Nat) : Nat := base + allocs cx (ops.toList.take i)
def nAt (cx : Cx) (ops : Array Oper) (i : Nat) : Nat := match ops[i]? with
  | some o => nAlloc cx o
  | none => 0
def elB (x : Nat) : List Nat → Bool
  | [] => false
  | y :: l => if Nat.beq x y then true else elB x l
theorem elB_iff (x : Nat) : ∀ l : List Nat, elB x l = true ↔ x ∈ l
  | [] => by simp [elB]
  | y :: l => by
    simp only [elB]
    by_cases h : x = y
    · subst h; simp
    · have : ¬ (Nat.beq x y = true) := by simpa using h
      rw [if_neg this, elB_iff x l]
      simp [h]
def okId (cx : Cx) (ops : Array Oper) (base : Nat) (A W : List (List Nat)) (i id : Nat) : Bool :=
  if elB id (W.getD i []) then false else
  if Nat.blt id base then true else (A.getD i []).any fun j => if Nat.ble (tgAt cx ops base j) id then Nat.blt id (tgAt cx ops base j + nAt cx ops j) else false
def unrel (A : List (List Nat)) (i j : Nat) : Bool := if Nat.beq i j then false else if elB i (A.getD j []) then false else !(elB j (A.getD i []))
def stOk (ops : Array Oper) (A W : List (List Nat)) (j : Nat) (l : List Nat) : Bool := match l with
  | [] => true
  | l => (List.range ops.size).all fun i => if unrel A i j then (match ops[i]? with
    | some o => if pureOp o then true else l.all fun id => elB id (W.getD i [])
    | none => true) else true
theorem stOk_spec {ops : Array Oper} {A W : List (List Nat)} {i j : Nat} {l : List Nat} (h : stOk ops A W j l = true) {o : Oper} (ho : ops[i]? = some o) (hp : ¬ pureOp o = true) (hne : i ≠ j) (h1 : i ∉ A.getD j []) (h2 : j ∉ A.getD i []) {id : Nat} (hid : id ∈ l) : elB id (W.getD i []) = true := by
  unfold stOk at h
  split at h
  · cases hid
  · have h3 := List.all_eq_true.1 h i (by rw [List.mem_range]; exact lt_of_some ho)
    have hu : unrel A i j = true := by
      unfold unrel
      rw [if_neg (by simpa using hne), if_neg (fun q => h1 ((elB_iff _ _).1 q))]
      simp only [Bool.not_eq_true']
      cases q : elB j (A.getD i []) with
      | false => rfl
      | true => exact absurd ((elB_iff _ _).1 q) h2
    rw [if_pos hu, ho] at h3
    simp only at h3
    rw [if_neg hp] at h3
    exact List.all_eq_true.1 h3 id hid
def mkW (cx : Cx) (ops : Array Oper) (A : List (List Nat)) (env : List EV) : List (List Nat) := if ops.toList.any isSt then (List.range ops.size).map fun i => match ops[i]? with
    | some o => if pureOp o then [] else (List.range ops.size).flatMap fun j => match ops[j]? with
      | some oj => if isSt oj then (if unrel A i j then stIds cx oj env else []) else []
      | none => []
    | none => []
  else []
theorem tgAt_succ (cx : Cx) (ops : Array Oper) (base i : Nat) : tgAt cx ops base (i + 1) = tgAt cx ops base i + nAt cx ops i := by
  unfold tgAt nAt allocs
  rw [List.take_add_one]
  simp only [List.map_append, List.sum_append]
  cases h : ops[i]? with
  | none => simp [h]
  | some o => simp [h]; omega
theorem tgAt_le (cx : Cx) (ops : Array Oper) (base : Nat) {i : Nat} : ∀ {j : Nat}, i < j → tgAt cx ops base i + nAt cx ops i ≤ tgAt cx ops base j
  | j + 1, h => by
    rw [tgAt_succ]
    rcases Nat.lt_or_ge i j with h' | h'
    · have := tgAt_le cx ops base h'; omega
    · have : i = j := by omega
      subst this; omega
theorem okId_out {cx : Cx} {ops : Array Oper} {base : Nat} {A W : List (List Nat)} {i j id : Nat} (h : okId cx ops base A W j id = true) (hn : i ∉ A.getD j []) : ¬ (tgAt cx ops base i ≤ id ∧ id < tgAt cx ops base i + nAt cx ops i) := by
  unfold okId at h
  split at h
  · cases h
  split at h
  · rename_i hb
    have hb : id < base := by simpa using hb
    have : base ≤ tgAt cx ops base i := by unfold tgAt; omega
    omega
  · obtain ⟨k, hk, hr⟩ := List.any_eq_true.1 h
    split at hr
    · rename_i h1
      have h1 : tgAt cx ops base k ≤ id := by simpa using h1
      have h2 : id < tgAt cx ops base k + nAt cx ops k := by simpa using hr
      rcases Nat.lt_trichotomy i k with hlt | rfl | hlt
      · have := tgAt_le cx ops base hlt; omega
      · exact absurd hk hn
      · have := tgAt_le cx ops base hlt; omega
    · cases hr
def ilOp (inl : FuncId → Bool) (o : Oper) : Bool := match o.op with
  | .call c => match c.callee with
    | .value (.func f) => inl f
    | _ => false
  | _ => false
section
variable (cx : Cx) (inl : FuncId → Bool) (call : CallEv) (ops : Array Oper) (base : Nat) (A W : List (List Nat))
def icall (o : Oper) (env : List EV) (h : List HObj) (K : St → Prop) : Prop := match inlOf cx inl env o with
  | some fa => call fa.1 fa.2 h fun v h' => if pendKept h h' then K ⟨putE env o.dst v, h'⟩ else False
  | none => False
def istep (o : Oper) (s : St) (K : St → Prop) : Prop := match o.guard with
  | none => icall cx inl call o s.env s.heap K
  | some (g, want) => match guardOf ops s.env g with
    | none => if gone ops s.env g then K ⟨putE s.env o.dst .skip, s.heap⟩ else False
    | some (_, b) => if b = want then icall cx inl call o s.env s.heap K else K ⟨putE s.env o.dst .skip, s.heap⟩
def pstep (i : Nat) (s : St) (K : St → Prop) : Prop := match ops[i]? with
  | none => False
  | some o => match ilOp inl o with
    | true => istep cx inl call ops o s K
    | false => (gres cx ops (okId cx ops base A W i) (stOk ops A W i) o s (tgAt cx ops base i)).wp fun ev us => K ⟨putE s.env o.dst ev, applyU s.heap us⟩
def pchain : List Nat → St → (St → Prop) → Prop
  | [], s, K => K s
  | i :: l, s, K => pstep cx inl call ops base A W i s fun s' => pchain l s' K
variable {cx inl call ops base A W}
theorem pstep_mono {i : Nat} {o : Oper} (ho : ops[i]? = some o) (hl : ilOp inl o = false) {s : St} {K K' : St → Prop} (hk : ∀ s, K s → K' s) (h : pstep cx inl call ops base A W i s K) : pstep cx inl call ops base A W i s K' := by
  unfold pstep at *
  rw [ho] at h ⊢
  simp only [hl] at h ⊢
  exact Res.wp_mono (fun _ _ h => hk _ h) h
structure Free (cx : Cx) (inl : FuncId → Bool) (ops : Array Oper) (A : List (List Nat)) (i j : Nat) (oi oj : Oper) : Prop where
  ne : i ≠ j
  apart : oi.apart ops oj = true
  q : (quietOp cx oi = true ∧ quietOp cx oj = true) ∨ (pureOp oi = true ∨ pureOp oj = true) ∨ (quietOp cx oi = true ∧ isSt oj = true) ∨ (isSt oi = true ∧ quietOp cx oj = true)
  ai : i ∉ A.getD j []
  aj : j ∉ A.getD i []
  li : ilOp inl oi = false
  lj : ilOp inl oj = false
theorem diamond {i j : Nat} {oi oj : Oper} (hi : ops[i]? = some oi) (hj : ops[j]? = some oj) (F : Free cx inl ops A i j oi oj) {s : St} {K : St → Prop}
    (h : pstep cx inl call ops base A W i s fun s' => pstep cx inl call ops base A W j s' K) : pstep cx inl call ops base A W j s fun s' => pstep cx inl call ops base A W i s' K := by
  obtain ⟨a1, a2, a3⟩ := Oper.apart_spec F.apart
  unfold pstep at h ⊢
  simp only [hi, hj, F.li, F.lj] at h ⊢
  have ni : nAt cx ops i = nAlloc cx oi := by simp [nAt, hi]
  have nj : nAt cx ops j = nAlloc cx oj := by simp [nAt, hj]
  by_cases hp : pureOp oi = true
  · have h2 : (gres cx ops (okId cx ops base A W i) (stOk ops A W i) oi s (tgAt cx ops base i)).wp fun e1 u1 => (gres cx ops (okId cx ops base A W j) (stOk ops A W j) oj s (tgAt cx ops base j)).wp fun e2 u2 =>
        u1 = [] ∧ K ⟨putE (putE s.env oi.dst e1) oj.dst e2, applyU s.heap u2⟩ := by
      refine Res.wp_mono (fun e1 u1 hh => ?_) (Res.wp_all (gres_pure hp) h)
      obtain ⟨hh, ht⟩ := hh
      have ht := ht.none
      subst ht
      rw [← gres_congr (s := s) (s' := ⟨putE s.env oi.dst e1, applyU s.heap []⟩) (fun t ht' => (putE_ne fun e => a1 t e ht').symm) (.inr fun id hid => rfl)] at hh
      exact Res.wp_mono (fun e2 u2 h3 => ⟨rfl, h3⟩) hh
    refine Res.wp_mono (fun e2 u2 hh => ?_) (Res.swap h2)
    rw [← gres_congr (s := s) (s' := ⟨putE s.env oj.dst e2, applyU s.heap u2⟩) (fun t ht' => (putE_ne fun e => a3 t e ht').symm) (.inl hp)]
    refine Res.wp_mono (fun e1 u1 h4 => ?_) hh
    obtain ⟨rfl, h5⟩ := h4
    rw [putE_comm fun t e => a2 t e] at h5
    exact h5
  by_cases hp2 : pureOp oj = true
  · have h2 : (gres cx ops (okId cx ops base A W i) (stOk ops A W i) oi s (tgAt cx ops base i)).wp fun e1 u1 => (gres cx ops (okId cx ops base A W j) (stOk ops A W j) oj s (tgAt cx ops base j)).wp fun e2 u2 =>
        u2 = [] ∧ K ⟨putE (putE s.env oi.dst e1) oj.dst e2, applyU s.heap u1⟩ := by
      refine Res.wp_mono (fun e1 u1 hh => ?_) h
      rw [← gres_congr (s := s) (s' := ⟨putE s.env oi.dst e1, applyU s.heap u1⟩) (fun t ht' => (putE_ne fun e => a1 t e ht').symm) (.inl hp2)] at hh
      refine Res.wp_mono (fun e2 u2 h3 => ?_) (Res.wp_all (gres_pure hp2) hh)
      obtain ⟨h3, ht⟩ := h3
      have ht := ht.none
      subst ht
      exact ⟨rfl, h3⟩
    refine Res.wp_mono (fun e2 u2 hh => ?_) (Res.wp_all (gres_pure hp2) (Res.swap h2))
    obtain ⟨hh, ht⟩ := hh
    have ht := ht.none
    subst ht
    rw [← gres_congr (s := s) (s' := ⟨putE s.env oj.dst e2, applyU s.heap []⟩) (fun t ht' => (putE_ne fun e => a3 t e ht').symm) (.inr fun id hid => rfl)]
    refine Res.wp_mono (fun e1 u1 h4 => ?_) hh
    obtain ⟨_, h5⟩ := h4
    rw [putE_comm fun t e => a2 t e] at h5
    exact h5
  have key : ∀ (Ti Tj : List (Nat × HObj) → Prop), (∀ s : St, (gres cx ops (okId cx ops base A W i) (stOk ops A W i) oi s (tgAt cx ops base i)).All Ti) → (∀ s : St, (gres cx ops (okId cx ops base A W j) (stOk ops A W j) oj s (tgAt cx ops base j)).All Tj) →
      (∀ u1, Ti u1 → ∀ id, okId cx ops base A W j id = true → ∀ u ∈ u1, u.1 ≠ id) → (∀ u2, Tj u2 → ∀ id, okId cx ops base A W i id = true → ∀ u ∈ u2, u.1 ≠ id) →
      (∀ u1 u2, Ti u1 → Tj u2 → ∀ u ∈ u1, ∀ v ∈ u2, u.1 ≠ v.1) →
      (gres cx ops (okId cx ops base A W j) (stOk ops A W j) oj s (tgAt cx ops base j)).wp fun e2 u2 => (gres cx ops (okId cx ops base A W i) (stOk ops A W i) oi ⟨putE s.env oj.dst e2, applyU s.heap u2⟩ (tgAt cx ops base i)).wp fun e1 u1 => K ⟨putE (putE s.env oj.dst e2) oi.dst e1, applyU (applyU s.heap u2) u1⟩ := by
    intro Ti Tj hTi hTj hij hji hd
    have h1 := Res.wp_all (hTi s) h
    have h2 : (gres cx ops (okId cx ops base A W i) (stOk ops A W i) oi s (tgAt cx ops base i)).wp fun e1 u1 => (gres cx ops (okId cx ops base A W j) (stOk ops A W j) oj s (tgAt cx ops base j)).wp fun e2 u2 =>
        Ti u1 ∧ Tj u2 ∧ K ⟨putE (putE s.env oi.dst e1) oj.dst e2, applyU (applyU s.heap u1) u2⟩ := by
      refine Res.wp_mono (fun e1 u1 hh => ?_) h1
      obtain ⟨hh, ht⟩ := hh
      rw [← gres_congr (s := s) (s' := ⟨putE s.env oi.dst e1, applyU s.heap u1⟩) (fun t ht' => (putE_ne fun e => a1 t e ht').symm) (.inr fun id hid => (applyU_ne _ _ _ fun u hu => hij u1 ht id hid u hu).symm)] at hh
      exact Res.wp_mono (fun e2 u2 h3 => ⟨ht, h3.2, h3.1⟩) (Res.wp_all (hTj s) hh)
    have h3 := Res.wp_all (hTj s) (Res.swap h2)
    refine Res.wp_mono (fun e2 u2 hh => ?_) h3
    obtain ⟨hh, ht⟩ := hh
    rw [← gres_congr (s := s) (s' := ⟨putE s.env oj.dst e2, applyU s.heap u2⟩) (fun t ht' => (putE_ne fun e => a3 t e ht').symm) (.inr fun id hid => (applyU_ne _ _ _ fun u hu => hji u2 ht id hid u hu).symm)]
    refine Res.wp_mono (fun e1 u1 h4 => ?_) hh
    obtain ⟨t1, t2, h5⟩ := h4
    rw [putE_comm fun t e => a2 t e, applyU_comm u1 u2 s.heap fun u hu v hv e => hd u1 u2 t1 t2 u hu v hv e] at h5
    exact h5
  have fr : ∀ (b n : Nat) (us : List (Nat × HObj)), Touch [] b n us → ∀ u ∈ us, b ≤ u.1 ∧ u.1 < b + n := fun b n us ht u hu => by
    rcases ht u hu with h | ⟨o, h, _⟩
    · exact h
    · simp at h
  rcases F.q with ⟨qi, qj⟩ | hp' | ⟨qi, sj⟩ | ⟨si, qj⟩
  · refine key _ _ (fun s => gres_quiet qi) (fun s => gres_quiet qj) (fun u1 t1 id hid u hu e => ?_) (fun u2 t2 id hid u hu e => ?_) fun u1 u2 t1 t2 u hu v hv e => ?_
    · refine okId_out hid F.ai ?_
      rw [ni, ← e]; exact fr _ _ _ t1 u hu
    · refine okId_out hid F.aj ?_
      rw [nj, ← e]; exact fr _ _ _ t2 u hu
    · have g1 := fr _ _ _ t1 u hu
      have g2 := fr _ _ _ t2 v hv
      rcases Nat.lt_or_ge i j with hlt | hge
      · have := tgAt_le cx ops base hlt; omega
      · have := tgAt_le cx ops base (show j < i from by have := F.ne; omega); omega
  · rcases hp' with h' | h'
    · exact absurd h' hp
    · exact absurd h' hp2
  · refine key _ _ (fun s => gres_quiet qi) (fun s => gres_store sj) (fun u1 t1 id hid u hu e => ?_) (fun u2 t2 id hid u hu e => ?_) fun u1 u2 t1 t2 u hu v hv e => ?_
    · refine okId_out hid F.ai ?_
      rw [ni, ← e]; exact fr _ _ _ t1 u hu
    · obtain ⟨_, l, hl, hm⟩ := t2 u hu
      have := stOk_spec hl hi hp F.ne F.ai F.aj hm
      rw [e] at this
      unfold okId at hid
      rw [if_pos this] at hid; cases hid
    · refine okId_out (t2 v hv).1 F.ai ?_
      rw [ni, ← e]; exact fr _ _ _ t1 u hu
  · refine key _ _ (fun s => gres_store si) (fun s => gres_quiet qj) (fun u1 t1 id hid u hu e => ?_) (fun u2 t2 id hid u hu e => ?_) fun u1 u2 t1 t2 u hu v hv e => ?_
    · obtain ⟨_, l, hl, hm⟩ := t1 u hu
      have := stOk_spec hl hj hp2 (fun q => F.ne q.symm) F.aj F.ai hm
      rw [e] at this
      unfold okId at hid
      rw [if_pos this] at hid; cases hid
    · refine okId_out hid F.aj ?_
      rw [nj, ← e]; exact fr _ _ _ t2 u hu
    · refine okId_out (t1 u hu).1 F.aj ?_
      rw [nj, e]; exact fr _ _ _ t2 v hv
theorem bubble {i : Nat} {oi : Oper} (hi : ops[i]? = some oi) (post : List Nat) {K : St → Prop} : ∀ (pre : List Nat) (s : St), (∀ r ∈ pre, ∀ o, ops[r]? = some o → Free cx inl ops A r i o oi) →
    pchain cx inl call ops base A W (pre ++ i :: post) s K → pstep cx inl call ops base A W i s fun s' => pchain cx inl call ops base A W (pre ++ post) s' K
  | [], s, _, h => h
  | r :: pre, s, hf, h => by
    cases ho : ops[r]? with
    | none => exact absurd h (by show ¬ pstep cx inl call ops base A W r s _; unfold pstep; rw [ho]; exact id)
    | some o =>
      have F := hf r List.mem_cons_self o ho
      have h' : pstep cx inl call ops base A W r s fun s' => pstep cx inl call ops base A W i s' fun s' => pchain cx inl call ops base A W (pre ++ post) s' K :=
        pstep_mono ho F.li (fun s' h => bubble hi post pre s' (fun q hq => hf q (List.mem_cons_of_mem _ hq)) h) h
      exact diamond ho hi F h'
end
end Go.Lift

set_option linter.unusedVariables false
set_option linter.unusedSimpArgs false
namespace Go.Lift
theorem SV.take0_rep {c : RC} : ∀ {k : K} {s : SV} {x : k.T} {u : Value}, s.take [] k = some x → s.rel c u → k.rep c.w c.ok x [u] := by
  intro k s x u ht hr
  cases k with
  | int ik =>
    cases s with
    | val v =>
      cases v with
      | int j n =>
        simp only [SV.take] at ht
        split at ht
        · rename_i e; cases ht; subst e; rw [show u = _ from hr]; rfl
        · cases ht
      | _ => simp [SV.take] at ht
    | _ => simp [SV.take] at ht
  | bool =>
    cases s with
    | val v =>
      cases v with
      | bool b => obtain rfl := Option.some.inj ht; rw [show u = _ from hr]; rfl
      | _ => simp [SV.take] at ht
    | _ => simp [SV.take] at ht
  | flt fk =>
    cases s with
    | val v =>
      cases v with
      | float j n =>
        simp only [SV.take] at ht
        split at ht
        · rename_i e; cases ht; subst e; rw [show u = _ from hr]; rfl
        · cases ht
      | _ => simp [SV.take] at ht
    | _ => simp [SV.take] at ht
  | unit => cases s <;> simp [SV.take] at ht
  | pair a b => cases s <;> simp [SV.take] at ht
  | arr n e => cases s <;> simp [SV.take] at ht
  | slice e =>
    cases s with
    | val v =>
      have hu : u = v := hr
      subst hu
      simp only [SV.take] at ht
      split at ht
      · rename_i hn
        obtain rfl := Option.some.inj ht
        rw [isNilS_eq hn]
        exact ⟨none, 0, rfl, Nat.le_refl _, by simp [maxN], .inl rfl⟩
      · cases ht
    | void =>
      obtain rfl := Option.some.inj ht
      obtain ⟨A, rfl⟩ := hr
      exact ⟨A, 0, rfl, Nat.le_refl _, by simp [maxN], .inl rfl⟩
    | data k' y =>
      simp only [SV.take] at ht
      split at ht
      · rename_i q; subst q; obtain rfl := Option.some.inj ht
        exact hr
      · cases ht
    | full k' y =>
      simp only [SV.take] at ht
      split at ht
      · rename_i q; cases q; obtain rfl := Option.some.inj ht
        exact hr.1
      · cases ht
    | _ => simp [SV.take] at ht
  | ptr e =>
    cases s with
    | val v =>
      have hu : u = v := hr
      subst hu
      simp only [SV.take] at ht
      split at ht
      · rename_i hn
        obtain rfl := Option.some.inj ht
        rw [isNilP_eq hn]
        exact .inl ⟨rfl, rfl⟩
      · cases ht
    | data k' y =>
      simp only [SV.take] at ht
      split at ht
      · rename_i q; subst q; obtain rfl := Option.some.inj ht
        exact hr
      · cases ht
    | ref id off => simp [SV.take, refS_nil] at ht
    | _ => simp [SV.take] at ht
  | ent a b => cases s <;> simp [SV.take] at ht
  | map a b =>
    cases s with
    | val v =>
      have hu : u = v := hr
      subst hu
      simp only [SV.take] at ht
      split at ht
      · rename_i hn
        obtain rfl := Option.some.inj ht
        rw [isNilM_eq hn]
        exact .inl ⟨rfl, rfl⟩
      · cases ht
    | data k' y =>
      simp only [SV.take] at ht
      split at ht
      · rename_i q; subst q; obtain rfl := Option.some.inj ht
        exact hr
      · cases ht
    | _ => simp [SV.take] at ht
theorem K.takeL0_rep {c : RC} : ∀ (k : K) (cs : List SV) (vs : List Value) (x : k.T) (r : List SV), k.takeL [] cs = some (x, r) → All2 (SV.rel c) cs vs →
    ∃ v1 v2, vs = v1 ++ v2 ∧ k.rep c.w c.ok x v1 ∧ All2 (SV.rel c) r v2 := by
  intro k
  induction k with
  | unit =>
    intro cs vs x r h ha
    simp only [K.takeL, Option.some.injEq, Prod.mk.injEq] at h
    obtain ⟨_, rfl⟩ := h
    exact ⟨[], vs, rfl, rfl, ha⟩
  | pair a b iha ihb =>
    intro cs vs x r h ha
    simp only [K.takeL] at h
    split at h
    · rename_i x1 r1 h1
      split at h
      · rename_i x2 r2 h2
        obtain ⟨rfl, rfl⟩ := Prod.mk.inj (Option.some.inj h)
        obtain ⟨v1, v2, rfl, hr, ha2⟩ := iha _ _ _ _ h1 ha
        obtain ⟨v3, v4, rfl, hr2, ha3⟩ := ihb _ _ _ _ h2 ha2
        exact ⟨v1 ++ v3, v4, by simp, ⟨v1, v3, rfl, hr, hr2⟩, ha3⟩
      · cases h
    · cases h
  | arr n e ih =>
    intro cs vs x r h ha
    simp only [K.takeL] at h
    obtain ⟨hl, v1, v2, e1, hr, ha2⟩ := takeN_rep (fun cs vs x r => ih cs vs x r) n cs vs x r h ha
    exact ⟨v1, v2, e1, ⟨hl, hr⟩, ha2⟩
  | int ik => exact one c (.int ik) rfl
  | bool => exact one c .bool rfl
  | flt fk => exact one c (.flt fk) rfl
  | slice e _ => exact one c (.slice e) rfl
  | ptr e _ => exact one c (.ptr e) rfl
  | map a b _ _ => exact one c (.map a b) rfl
  | ent a b _ _ => intro cs vs x r h; cases h
where
  one (c : RC) (k : K) (hk : k.agg = false) : ∀ (cs : List SV) (vs : List Value) (x : k.T) (r : List SV), k.takeL [] cs = some (x, r) → All2 (SV.rel c) cs vs →
      ∃ v1 v2, vs = v1 ++ v2 ∧ k.rep c.w c.ok x v1 ∧ All2 (SV.rel c) r v2 := by
    intro cs vs x r h ha
    have h' : take1 [] k cs = some (x, r) := by
      cases k <;> first | (cases hk; done) | exact h | (cases h; done)
    have : ∃ s, cs = s :: r ∧ s.take [] k = some x := by
      cases cs with
      | nil => cases h'
      | cons s r' =>
        simp only [take1] at h'
        split at h'
        · rename_i x1 h1
          obtain ⟨rfl, rfl⟩ := Prod.mk.inj (Option.some.inj h')
          exact ⟨s, rfl, h1⟩
        · cases h'
    obtain ⟨s, rfl, hs⟩ := this
    cases ha with
    | cons h1 h2 => exact ⟨[_], _, rfl, SV.take0_rep hs h1, h2⟩
theorem XV.take0_rep {c : RC} {k : K} {v : XV} {x : k.T} {u : Value} (h : v.take [] k = some x) (hr : v.rel c u) : KRep c.w c.ok k x u := by
  unfold KRep
  cases v with
  | one s =>
    simp only [XV.take] at h
    split at h
    · cases h
    · rename_i hk; rw [if_neg hk]; exact SV.take0_rep h hr
  | agg cs =>
    simp only [XV.take] at h
    split at h
    · rename_i hk
      rw [if_pos hk]
      split at h
      · rename_i y h1
        obtain rfl := Option.some.inj h
        obtain ⟨vs, rfl, ha⟩ := hr
        obtain ⟨v1, v2, e, hr, h2⟩ := K.takeL0_rep k cs vs.toList _ _ h1 ha
        cases h2
        exact ⟨vs, rfl, by rw [e]; simpa using hr⟩
      · cases h
    · cases h
  | dat k' y =>
    simp only [XV.take] at h
    split at h
    · rename_i q; subst q
      split at h
      · rename_i hk
        obtain rfl := Option.some.inj h
        rw [if_pos hk]
        obtain ⟨vs, rfl, hr⟩ := hr
        exact ⟨vs, rfl, hr⟩
      · cases h
    · cases h
def LV.below (n : Nat) : LV → Prop
  | .ref id _ => id < n
  | _ => True
def SV.below (n : Nat) : SV → Prop
  | .osl id _ _ | .ref id _ | .eref id _ _ | .mref id | .bsl id _ | .osx id _ => id < n
  | .clo _ fs cs => (∀ l ∈ fs, l.below n) ∧ ∀ l ∈ cs, l.below n
  | _ => True
def XV.below (n : Nat) : XV → Prop
  | .one s => s.below n
  | .agg cs => ∀ s ∈ cs, s.below n
  | .dat _ _ => True
def EV.below (n : Nat) : EV → Prop
  | .x v => v.below n
  | .tup vs => ∀ v ∈ vs, v.below n
def HObj.below (n : Nat) : HObj → Prop
  | .box _ _ cs => ∀ s ∈ cs, s.below n
  | _ => True
theorem All2.mem {α β : Type} {R : α → β → Prop} {xs : List α} {bs : List β} (h : All2 R xs bs) : ∀ a ∈ xs, ∃ b, R a b := by
  induction h with
  | nil => intro a ha; cases ha
  | cons h1 _ ih =>
    intro a ha
    cases ha with
    | head => exact ⟨_, h1⟩
    | tail _ ha => exact ih a ha
theorem get_lt {α : Type} {l : List α} {i : Nat} {a : α} (h : l[i]? = some a) : i < l.length := by
  rcases Nat.lt_or_ge i l.length with h' | h'
  · exact h'
  · rw [List.getElem?_eq_none h'] at h; cases h
theorem LV.below_of {c : RC} {s : LV} {u : Value} (h : s.rel c u) : s.below c.heap.length := by
  cases s with
  | ref id off =>
    simp only [LV.rel] at h
    cases ho : c.heap[id]? with
    | none => rw [ho] at h; exact h.elim
    | some o => exact get_lt ho
  | _ => trivial
theorem SV.below_of {c : RC} {s : SV} {u : Value} (h : s.rel c u) : s.below c.heap.length := by
  cases s with
  | osl id off len =>
    simp only [SV.rel] at h
    cases ho : c.heap[id]? with
    | none => rw [ho] at h; exact h.elim
    | some o => exact get_lt ho
  | ref id off =>
    simp only [SV.rel] at h
    cases ho : c.heap[id]? with
    | none => rw [ho] at h; exact h.elim
    | some o => exact get_lt ho
  | eref id i off =>
    simp only [SV.rel] at h
    cases ho : c.heap[id]? with
    | none => rw [ho] at h; exact h.elim
    | some o => exact get_lt ho
  | mref id =>
    simp only [SV.rel] at h
    cases ho : c.heap[id]? with
    | none => rw [ho] at h; exact h.elim
    | some o => exact get_lt ho
  | bsl id len =>
    simp only [SV.rel] at h
    cases ho : c.heap[id]? with
    | none => rw [ho] at h; exact h.elim
    | some o => exact get_lt ho
  | osx id len =>
    simp only [SV.rel] at h
    cases ho : c.heap[id]? with
    | none => rw [ho] at h; exact h.1.elim
    | some o => exact get_lt ho
  | clo f fs cs =>
    obtain ⟨vs, ws, rfl, h1, h2⟩ := h
    exact ⟨fun l hl => (h1.mem l hl).elim fun _ h => LV.below_of h, fun l hl => (h2.mem l hl).elim fun _ h => LV.below_of h⟩
  | _ => trivial
theorem XV.below_of {c : RC} {s : XV} {u : Value} (h : s.rel c u) : s.below c.heap.length := by
  cases s with
  | one s => exact SV.below_of h
  | agg cs => obtain ⟨vs, rfl, h⟩ := h; exact fun l hl => (h.mem l hl).elim fun _ h => SV.below_of h
  | dat _ _ => trivial
theorem EV.below_of {c : RC} {s : EV} {u : Value} (h : s.rel c u) : s.below c.heap.length := by
  cases s with
  | x s => exact XV.below_of h
  | tup cs => obtain ⟨vs, rfl, h⟩ := h; exact fun l hl => (h.mem l hl).elim fun _ h => XV.below_of h
theorem HObj.below_of {c : RC} {id : Nat} {o : HObj} (h : o.rel c id) : o.below c.heap.length := by
  cases o with
  | box m t cs => obtain ⟨b, vs, _, _, h⟩ := h; exact fun l hl => (h.mem l hl).elim fun _ h => SV.below_of h
  | _ => trivial
structure Cut (n : Nat) (c c' : RC) : Prop where
  w : c'.w = c.w
  heap : ∀ id, id < n → ∃ o o', c.heap[id]? = some o ∧ c'.heap[id]? = some o' ∧ (o' = o ∨ o' = .dead ∨ ∃ m t cs cs', o = .box m t cs ∧ o' = .box m t cs' ∧ cs'.length = cs.length)
  blk : ∀ id, id < n → c'.blk id = c.blk id
  ok : ∀ b, c.ok b → c'.ok b
theorem LV.cut {n : Nat} {c c' : RC} (h : Cut n c c') {s : LV} {u : Value} (hb : s.below n) (r : s.rel c u) : s.rel c' u := by
  cases s with
  | val v => exact r
  | data k x => exact K.rep_mono (fun b hb => ⟨h.ok b hb, by rw [h.w]⟩) _ _ _ r
  | ref id off =>
    obtain ⟨o, o', h1, h2, h3⟩ := h.heap id hb
    simp only [LV.rel, h1, h2, h.blk id hb] at r ⊢
    rcases h3 with rfl | rfl | ⟨m, t, cs, cs', rfl, rfl, _⟩
    · exact r
    · trivial
    · exact r
theorem All2.lvcut {n : Nat} {c c' : RC} (h : Cut n c c') : ∀ {fs : List LV} {vs : List Value}, (∀ l ∈ fs, l.below n) → All2 (LV.rel c) fs vs → All2 (LV.rel c') fs vs
  | _, _, _, .nil => .nil
  | _, _, hb, .cons h1 h2 => .cons (LV.cut h (hb _ List.mem_cons_self) h1) (All2.lvcut h (fun l hl => hb l (List.mem_cons_of_mem _ hl)) h2)
theorem SV.cut {n : Nat} {c c' : RC} (h : Cut n c c') {s : SV} {u : Value} (hb : s.below n) (r : s.rel c u) : s.rel c' u := by
  cases s with
  | val v => exact r
  | data k x => exact K.rep_mono (fun b hb => ⟨h.ok b hb, by rw [h.w]⟩) _ _ _ r
  | osl id off len =>
    obtain ⟨o, o', h1, h2, h3⟩ := h.heap id hb
    simp only [SV.rel, h1, h2, h.blk id hb, h.w] at r ⊢
    rcases h3 with rfl | rfl | ⟨m, t, cs, cs', rfl, rfl, _⟩
    · exact r
    · trivial
    · exact r
  | ref id off =>
    obtain ⟨o, o', h1, h2, h3⟩ := h.heap id hb
    simp only [SV.rel, h1, h2, h.blk id hb] at r ⊢
    rcases h3 with rfl | rfl | ⟨m, t, cs, cs', rfl, rfl, _⟩
    · exact r
    · trivial
    · exact r
  | eref id i off =>
    obtain ⟨o, o', h1, h2, h3⟩ := h.heap id hb
    simp only [SV.rel, h1, h2, h.blk id hb] at r ⊢
    rcases h3 with rfl | rfl | ⟨m, t, cs, cs', rfl, rfl, _⟩
    · exact r
    · trivial
    · exact r
  | void => exact r
  | clo f fs cs =>
    obtain ⟨vs, ws, rfl, h1, h2⟩ := r
    refine ⟨vs, ws, rfl, ?_, ?_⟩
    · exact All2.lvcut h hb.1 h1
    · exact All2.lvcut h hb.2 h2
  | bstr bs => exact r
  | mref id =>
    obtain ⟨o, o', h1, h2, h3⟩ := h.heap id hb
    simp only [SV.rel, h1, h2, h.blk id hb] at r ⊢
    rcases h3 with rfl | rfl | ⟨m, t, cs, cs', rfl, rfl, _⟩
    · exact r
    · trivial
    · exact r
  | bsl id len =>
    obtain ⟨o, o', h1, h2, h3⟩ := h.heap id hb
    simp only [SV.rel, h1, h2, h.blk id hb] at r ⊢
    rcases h3 with rfl | rfl | ⟨m, t, cs, cs', rfl, rfl, hl⟩
    · exact r
    · trivial
    · exact ⟨by rw [hl]; exact r.1, r.2⟩
  | osx id len =>
    obtain ⟨o, o', h1, h2, h3⟩ := h.heap id hb
    simp only [SV.rel, h1, h2, h.blk id hb, h.w] at r ⊢
    rcases h3 with rfl | rfl | ⟨m, t, cs, cs', rfl, rfl, _⟩
    · exact r
    · exact ⟨trivial, r.2⟩
    · exact r
  | full e xs => exact ⟨K.rep_mono (fun b hb => ⟨h.ok b hb, by rw [h.w]⟩) _ _ _ r.1, r.2⟩
  | junk => trivial
theorem All2.svcut {n : Nat} {c c' : RC} (h : Cut n c c') : ∀ {fs : List SV} {vs : List Value}, (∀ l ∈ fs, l.below n) → All2 (SV.rel c) fs vs → All2 (SV.rel c') fs vs
  | _, _, _, .nil => .nil
  | _, _, hb, .cons h1 h2 => .cons (SV.cut h (hb _ List.mem_cons_self) h1) (All2.svcut h (fun l hl => hb l (List.mem_cons_of_mem _ hl)) h2)
theorem XV.cut {n : Nat} {c c' : RC} (h : Cut n c c') {s : XV} {u : Value} (hb : s.below n) (r : s.rel c u) : s.rel c' u := by
  cases s with
  | one s => exact SV.cut h hb r
  | agg cs => obtain ⟨vs, rfl, r⟩ := r; exact ⟨vs, rfl, All2.svcut h hb r⟩
  | dat k x => obtain ⟨vs, rfl, r⟩ := r; exact ⟨vs, rfl, K.rep_mono (fun b hb => ⟨h.ok b hb, by rw [h.w]⟩) _ _ _ r⟩
theorem All2.xvcut {n : Nat} {c c' : RC} (h : Cut n c c') : ∀ {fs : List XV} {vs : List Value}, (∀ l ∈ fs, l.below n) → All2 (XV.rel c) fs vs → All2 (XV.rel c') fs vs
  | _, _, _, .nil => .nil
  | _, _, hb, .cons h1 h2 => .cons (XV.cut h (hb _ List.mem_cons_self) h1) (All2.xvcut h (fun l hl => hb l (List.mem_cons_of_mem _ hl)) h2)
theorem EV.cut {n : Nat} {c c' : RC} (h : Cut n c c') {s : EV} {u : Value} (hb : s.below n) (r : s.rel c u) : s.rel c' u := by
  cases s with
  | x s => exact XV.cut h hb r
  | tup cs => obtain ⟨vs, rfl, r⟩ := r; exact ⟨vs, rfl, All2.xvcut h hb r⟩
end Go.Lift

set_option linter.unusedVariables false
set_option linter.unusedSimpArgs false
namespace Go.Lift
inductive Loc where
  | slot (t : Nat)
  | cell (id j : Nat)
inductive CK where
  | data (k : K)
  | row (t : TypeId) (e : K)
def CK.T : CK → Type
  | .data k => k.T
  | .row _ e => List e.T
def CS : List (Loc × CK) → Type
  | [] => Unit
  | l :: ls => l.2.T × CS ls
def OS : List (Nat × TypeId × K) → Type
  | [] => Unit
  | o :: os => List o.2.2.T × OS os
def setCell (h : List HObj) (id j : Nat) (s : SV) : List HObj := match h[id]? with
  | some (.box m t cs) => h.set id (.box m t (cs.set j s))
  | _ => h
def Loc.put (s : St) : Loc → XV → St
  | .slot t, v => ⟨s.env.set t (.x v), s.heap⟩
  | .cell id j, .one x => ⟨s.env, setCell s.heap id j x⟩
  | .cell id j, _ => ⟨s.env, setCell s.heap id j .junk⟩
def Loc.get (s : St) : Loc → Option XV
  | .slot t => match s.env[t]? with
    | some (.x v) => some v
    | _ => none
  | .cell id j => match s.heap[id]? with
    | some (.box _ _ cs) => match cs[j]? with
      | some x => some (.one x)
      | none => none
    | _ => none
abbrev Mvs := List (Option Nat × HObj)
def grab1 (s : St) (l : Loc) : (k : CK) → (k.T → Mvs → Prop) → Prop
  | .data k, K => match l.get s with
    | some v => match v.take [] k with
      | some x => K x []
      | none => False
    | none => False
  | .row t e, K => match l.get s with
    | some (.one (.osl id off len)) => match s.heap[id]? with
      | some (.row .rw t' e' xs) => if q : e' = e then (if t' = t then (off = 0 ∧ len = List.length xs) ∧ K (q ▸ xs) [(some id, .row .rw t e (q ▸ xs))] else False) else False
      | _ => False
    | some (.one (.val v)) => if isNilS v then K [] [(none, .row .rw t e [])] else False
    | some (.one .void) => K [] [(none, .row .rw t e [])]
    | _ => False
def grabs (s : St) : (ls : List (Loc × CK)) → (CS ls → Mvs → Prop) → Prop
  | [], K => K () []
  | l :: ls, K => grab1 s l.1 l.2 fun x m => grabs s ls fun y m' => K (x, y) (m ++ m')
def grabO (h : List HObj) : (os : List (Nat × TypeId × K)) → (OS os → Prop) → Prop
  | [], K => K ()
  | (id, t, e) :: os, K => match h[id]? with
    | some (.row .rw t' e' xs) => if q : e' = e then (if t' = t then grabO h os fun y => K (q ▸ xs, y) else False) else False
    | some (.mp .rw a b xs) => if q : Lift.K.ent a b = e then grabO h os fun y => K (q ▸ (xs : List (Lift.K.ent a b).T), y) else False
    | _ => False
def mkO (t : TypeId) : (e : K) → List e.T → HObj
  | .ent a b, xs => .mp .rw a b xs
  | .int k, xs => .row .rw t (.int k) xs
  | .bool, xs => .row .rw t .bool xs
  | .flt k, xs => .row .rw t (.flt k) xs
  | .unit, xs => .row .rw t .unit xs
  | .pair a b, xs => .row .rw t (.pair a b) xs
  | .arr n e, xs => .row .rw t (.arr n e) xs
  | .slice e, xs => .row .rw t (.slice e) xs
  | .ptr e, xs => .row .rw t (.ptr e) xs
  | .map a b, xs => .row .rw t (.map a b) xs
theorem mkO_below (n : Nat) (t : TypeId) (e : K) (xs : List e.T) : (mkO t e xs).below n := by
  cases e <;> trivial
def placeO : (os : List (Nat × TypeId × K)) → OS os → List HObj → List HObj
  | [], _, h => h
  | (id, t, e) :: os, x, h => placeO os x.2 (h.set id (mkO t e x.1))
def CK.rows : (k : CK) → k.T → List HObj
  | .data _, _ => []
  | .row t e, xs => [.row .rw t e xs]
def rowsOf : (ls : List (Loc × CK)) → CS ls → List HObj
  | [], _ => []
  | l :: ls, x => l.2.rows x.1 ++ rowsOf ls x.2
def CK.val (n : Nat) : (k : CK) → k.T → XV
  | .data k, x => XV.ofData k x
  | .row _ _, xs => .one (.osl n 0 (List.length xs))
def CK.n : CK → Nat
  | .data _ => 0
  | .row _ _ => 1
def places : (n : Nat) → (ls : List (Loc × CK)) → CS ls → St → St
  | _, [], _, s => s
  | n, l :: ls, x, s => places (n + l.2.n) ls x.2 (l.1.put s (l.2.val n x.1))
def kill (ms : Mvs) (h : List HObj) : List HObj := ms.foldl (fun h m => match m.1 with | some id => h.set id .dead | none => h) h
def mask (ls : List (Loc × CK)) (s : St) : St := ls.foldl (fun s l => l.1.put s (.one .junk)) s
def maskE (js : List Nat) (env : List EV) : List EV := js.foldl (fun e t => e.set t .junk) env
def elemB (x : Nat) : List Nat → Bool
  | [] => false
  | y :: l => if Nat.beq x y then true else elemB x l
def distB : List Nat → Bool
  | [] => true
  | x :: l => if elemB x l then false else distB l
def srcs (ms : Mvs) : List Nat := ms.filterMap (·.1)
def cellsLt (n : Nat) : List (Loc × CK) → Bool
  | [] => true
  | (.cell id _, _) :: ls => if Nat.blt id n then cellsLt n ls else false
  | (.slot _, _) :: ls => cellsLt n ls
def headSt (n : Nat) (ls : List (Loc × CK)) (os : List (Nat × TypeId × K)) (env1 : List EV) (h1 : List HObj) (x : CS ls) (y : OS os) : St :=
  places n ls x ⟨env1, placeO os y h1 ++ rowsOf ls x⟩
def Adopt (n : Nat) (ls : List (Loc × CK)) (os : List (Nat × TypeId × K)) (s : St) (K : List HObj → CS ls → OS os → Prop) : Prop :=
  if cellsLt n ls then
    grabs s ls fun x m => grabO s.heap os fun y =>
      if distB (srcs m) then K ((mask ls ⟨s.env, kill m s.heap⟩).heap.take n) x y
      else False
  else False
def Sim : HObj → HObj → Prop
  | o, o' => o' = o ∨ o' = .dead ∨ ∃ m t cs cs', o = .box m t cs ∧ o' = .box m t cs' ∧ cs'.length = cs.length
theorem Sim.refl (o : HObj) : Sim o o := .inl rfl
theorem Sim.trans {a b c : HObj} (h : Sim a b) (h' : Sim b c) : Sim a c := by
  rcases h' with rfl | rfl | ⟨m, t, cs, cs', rfl, rfl, hl⟩
  · exact h
  · exact .inr (.inl rfl)
  · rcases h with h | h | ⟨m', t', ds, ds', rfl, h, hl'⟩
    · subst h; exact .inr (.inr ⟨m, t, cs, cs', rfl, rfl, hl⟩)
    · cases h
    · cases h; exact .inr (.inr ⟨m, t, ds, cs', rfl, rfl, hl.trans hl'⟩)
theorem Sim.ev {o o' : HObj} (h : Sim o o') : o.ev o' := by
  rcases h with rfl | rfl | ⟨m, t, cs, cs', rfl, rfl, hl⟩
  · exact HObj.ev_refl _
  · cases o <;> first | trivial | rfl | exact .inl rfl
  · exact .inr ⟨m, cs', rfl, hl, .inl rfl⟩
theorem Sim.md {o o' : HObj} (h : Sim o o') {m : Md} (hm : o'.md? = some m) : o.md? = some m := by
  rcases h with rfl | rfl | ⟨m, t, cs, cs', rfl, rfl, hl⟩
  · exact hm
  · cases hm
  · exact hm
structure Less (c : RC) (h : List HObj) : Prop where
  len : h.length = c.heap.length
  sim : ∀ (id : Nat) (o : HObj), c.heap[id]? = some o → ∃ o2, h[id]? = some o2 ∧ Sim o o2
  rel : ∀ (id : Nat) (o : HObj), h[id]? = some o → o.rel c id
theorem Less.refl {c : RC} (hi : c.Inv) : Less c c.heap := ⟨rfl, fun id o h => ⟨o, h, .refl o⟩, hi.objs⟩
theorem Less.dead {c : RC} {h : List HObj} (hl : Less c h) (id : Nat) : Less c (h.set id .dead) := by
  refine ⟨by simp [hl.len], fun j o hj => ?_, fun j o hj => ?_⟩
  · obtain ⟨o', h1, h2⟩ := hl.sim j o hj
    by_cases e : id = j
    · subst e; exact ⟨.dead, set_eq h1, .inr (.inl rfl)⟩
    · exact ⟨o', by rw [set_ne e]; exact h1, h2⟩
  · rcases set_get hj with ⟨rfl, rfl, _⟩ | ⟨_, hj⟩
    · trivial
    · exact hl.rel j o hj
theorem Less.kill {c : RC} : ∀ (ms : Mvs) {h : List HObj}, Less c h → Less c (Lift.kill ms h)
  | [], h, hl => hl
  | (some id, o) :: ms, h, hl => Less.kill ms (hl.dead id)
  | (none, o) :: ms, h, hl => Less.kill ms hl
theorem kill_dead {id : Nat} : ∀ (ms : Mvs) {h : List HObj}, id < h.length → (id ∈ srcs ms ∨ h[id]? = some .dead) → (Lift.kill ms h)[id]? = some .dead
  | [], h, hl, hm => by rcases hm with hm | hm; · cases hm
                        · exact hm
  | (some j, o) :: ms, h, hl, hm => by
    refine kill_dead ms (h := h.set j .dead) (by simpa using hl) ?_
    by_cases e : j = id
    · subst e; right; rw [List.getElem?_set]; simp [hl]
    · rcases hm with hm | hm
      · left
        simp only [srcs, List.filterMap_cons, List.mem_cons] at hm
        rcases hm with hm | hm
        · exact absurd hm.symm e
        · exact hm
      · right; rw [set_ne e]; exact hm
  | (none, o) :: ms, h, hl, hm => kill_dead ms (h := h) hl (by simpa [srcs] using hm)
theorem Less.junk {c : RC} {h : List HObj} (hl : Less c h) (id j : Nat) : Less c (setCell h id j .junk) := by
  unfold setCell
  split
  · rename_i m t cs ho
    refine ⟨by simp [hl.len], fun i o hi => ?_, fun i o hi => ?_⟩
    · obtain ⟨o', h1, h2⟩ := hl.sim i o hi
      by_cases e : id = i
      · subst e
        rw [ho] at h1; cases h1
        exact ⟨_, set_eq ho, h2.trans (.inr (.inr ⟨m, t, cs, _, rfl, rfl, by simp⟩))⟩
      · exact ⟨o', by rw [set_ne e]; exact h1, h2⟩
    · rcases set_get hi with ⟨rfl, rfl, _⟩ | ⟨_, hi⟩
      · obtain ⟨b, vs, h1, h2, h3⟩ := hl.rel _ _ ho
        refine ⟨b, vs, h1, h2, ?_⟩
        by_cases hj : j < vs.toList.length
        · have := h3.set j (a := .junk) (b := vs.toList[j]) trivial
          rwa [List.set_getElem_self] at this
        · rw [List.set_eq_of_length_le (by rw [h3.len]; omega)]; exact h3
      · exact hl.rel i o hi
  · exact hl
theorem setCell_dead {h : List HObj} {id i j : Nat} {s : SV} (hd : h[id]? = some .dead) : (setCell h i j s)[id]? = some .dead := by
  unfold setCell
  split
  · rename_i m t cs ho
    by_cases e : i = id
    · subst e; rw [hd] at ho; cases ho
    · rw [set_ne e]; exact hd
  · exact hd
theorem mask_less {c : RC} : ∀ (ls : List (Loc × CK)) {s : St}, Less c s.heap → Less c (mask ls s).heap
  | [], s, hl => hl
  | (.slot t, k) :: ls, s, hl => mask_less ls (s := ⟨s.env.set t (.x (.one .junk)), s.heap⟩) hl
  | (.cell id j, k) :: ls, s, hl => mask_less ls (s := ⟨s.env, setCell s.heap id j .junk⟩) (hl.junk id j)
theorem mask_dead {id : Nat} : ∀ (ls : List (Loc × CK)) {s : St}, s.heap[id]? = some .dead → (mask ls s).heap[id]? = some .dead
  | [], s, hl => hl
  | (.slot t, k) :: ls, s, hl => mask_dead ls (s := ⟨s.env.set t (.x (.one .junk)), s.heap⟩) hl
  | (.cell id j, k) :: ls, s, hl => mask_dead ls (s := ⟨s.env, setCell s.heap id j .junk⟩) (setCell_dead hl)
theorem EnvRel.junk {c : RC} {env : List EV} {tmps : Array Value} (h : EnvRel c env tmps) (t : Nat) : EnvRel c (env.set t .junk) tmps := by
  refine ⟨by simp [h.1], fun i e hi => ?_⟩
  rcases set_get hi with ⟨rfl, rfl, hl⟩ | ⟨_, hi⟩
  · exact ⟨tmps[t]'(by rw [← h.1]; exact hl), by simp, trivial⟩
  · exact h.2 i e hi
theorem maskE_rel {c : RC} {tmps : Array Value} : ∀ (js : List Nat) {env : List EV}, EnvRel c env tmps → EnvRel c (maskE js env) tmps
  | [], env, h => h
  | j :: js, env, h => maskE_rel js (h.junk j)
end Go.Lift

set_option linter.unusedVariables false
set_option linter.unusedSectionVars false
set_option linter.unusedSimpArgs false
namespace Go.Lift
def MvOk (c : RC) (m : Option Nat × HObj) : Prop := match m with
  | (some id, o) => c.heap[id]? = some o ∧ o.md? = some .rw ∧ ∃ t e xs, o = .row .rw t e xs
  | (none, o) => ∃ t e, o = .row .rw t e []
def RC.cut (c : RC) (n : Nat) (hA : List HObj) (ms : Mvs) : RC where
  w := c.w
  heap := hA ++ ms.map (·.2)
  blk := fun id => if id < n then c.blk id else match ms[id - n]? with
    | some (some j, _) => c.blk j
    | _ => none
  base := c.base
  inb := c.inb
theorem srcs_dist : ∀ {ms : Mvs}, distB (srcs ms) = true → ∀ (i j x : Nat) (o o' : HObj), ms[i]? = some (some x, o) → ms[j]? = some (some x, o') → i = j
  | [], _, i, j, x, o, o', h1, _ => by simp at h1
  | (none, z) :: ms, h, i, j, x, o, o', h1, h2 => by
    cases i with
    | zero => simp at h1
    | succ i => cases j with
      | zero => simp at h2
      | succ j => rw [srcs_dist (ms := ms) (by simpa [srcs] using h) i j x o o' (by simpa using h1) (by simpa using h2)]
  | (some y, z) :: ms, h, i, j, x, o, o', h1, h2 => by
    have h' : distB (y :: srcs ms) = true := by simpa [srcs] using h
    have mem : ∀ (i : Nat) (o : HObj), ms[i]? = some (some y, o) → elemB y (srcs ms) = true := by
      have hmem : ∀ (l : List Nat), y ∈ l → elemB y l = true := by
        intro l
        induction l with
        | nil => intro h; cases h
        | cons a l ih =>
          intro h
          simp only [elemB]
          split
          · rfl
          · rename_i hn
            cases h with
            | head => exact absurd (Nat.beq_refl _) hn
            | tail _ h => exact ih h
      intro i o hi
      refine hmem _ ?_
      simp only [srcs, List.mem_filterMap]
      exact ⟨_, List.mem_of_getElem? hi, rfl⟩
    simp only [distB] at h'
    split at h'
    · cases h'
    · rename_i hn
      cases i with
      | zero =>
        have e1 := Option.some.inj (show some (some y, z) = some (some x, o) from by simpa using h1)
        cases e1
        cases j with
        | zero => rfl
        | succ j => exact absurd (mem j o' (by simpa using h2)) hn
      | succ i =>
        cases j with
        | zero =>
          have e1 := Option.some.inj (show some (some y, z) = some (some x, o') from by simpa using h2)
          cases e1
          exact absurd (mem i o (by simpa using h1)) hn
        | succ j => rw [srcs_dist h' i j x o o' (by simpa using h1) (by simpa using h2)]
section
variable {c : RC} (hi : c.Inv) {n : Nat} {h2 : List HObj} {ms : Mvs} (hn : n ≤ c.heap.length) (hL : Less c h2) (hk : ∀ id, id ∈ srcs ms → h2[id]? = some .dead)
  (hm : ∀ m ∈ ms, MvOk c m) (hd : distB (srcs ms) = true) (hb : ∀ (id : Nat) (o : HObj), (h2.take n)[id]? = some o → o.below n)
include hi hn hL hk hm hd
theorem cut_lt {id : Nat} {o : HObj} (h : id < n) : (c.cut n (h2.take n) ms).heap[id]? = h2[id]? := by
  simp only [RC.cut]
  rw [List.getElem?_append_left (by rw [List.length_take, hL.len]; omega), List.getElem?_take, if_pos h]
theorem cut_ge {id : Nat} (h : n ≤ id) : (c.cut n (h2.take n) ms).heap[id]? = (ms[id - n]?).map (·.2) := by
  simp only [RC.cut]
  rw [List.getElem?_append_right (by rw [List.length_take, hL.len]; omega), List.getElem?_map, List.length_take, hL.len, Nat.min_eq_left hn]
theorem cut_src {id : Nat} {o : HObj} (h : (c.cut n (h2.take n) ms).heap[id]? = some o) (hl : o.live) :
    (∃ j o', c.heap[j]? = some o' ∧ o'.md? = o.md? ∧ (c.cut n (h2.take n) ms).blk id = c.blk j ∧ ((id < n ∧ j = id ∧ Sim o' o ∧ h2[id]? = some o) ∨ (n ≤ id ∧ o' = o ∧ ms[id - n]? = some (some j, o) ∧ o.md? = some .rw ∧ ∃ t e xs, o = .row .rw t e xs))) ∨
    (n ≤ id ∧ (c.cut n (h2.take n) ms).blk id = none ∧ ∃ t e, o = .row .rw t e []) := by
  rcases Nat.lt_or_ge id n with hlt | hge
  · rw [cut_lt hi hn hL hk hm hd (o := o) hlt] at h
    obtain ⟨o', h1, h3⟩ := hL.sim id _ (List.getElem?_eq_getElem (by omega))
    rw [h] at h1; cases h1
    obtain ⟨m, hmd⟩ := HObj.md_of_live hl
    exact .inl ⟨id, _, List.getElem?_eq_getElem (by omega), by rw [hmd, h3.md hmd], by simp [RC.cut, hlt], .inl ⟨hlt, rfl, h3, h⟩⟩
  · rw [cut_ge hi hn hL hk hm hd hge] at h
    cases hms : ms[id - n]? with
    | none => rw [hms] at h; cases h
    | some m =>
      rw [hms] at h
      obtain ⟨src, o'⟩ := m
      obtain rfl : o' = o := by simpa using h
      have := hm _ (List.mem_of_getElem? hms)
      cases src with
      | none => exact .inr ⟨hge, by simp [RC.cut, Nat.not_lt.2 hge, hms], this⟩
      | some j =>
        obtain ⟨h1, h3, h4⟩ := this
        exact .inl ⟨j, o', h1, rfl, by simp [RC.cut, Nat.not_lt.2 hge, hms], .inr ⟨hge, rfl, rfl, h3, h4⟩⟩
theorem cut_own {b : Nat} (h : (c.cut n (h2.take n) ms).own b) : c.own b := by
  obtain ⟨id, o, m, h1, h3, h4, h5⟩ := h
  rcases cut_src hi hn hL hk hm hd h1 (HObj.live_of_md h3) with ⟨j, o', e1, e2, e3, _⟩ | ⟨_, e, _⟩
  · exact ⟨j, o', m, e1, e2.trans h3, h4, by rw [← e3]; exact h5⟩
  · rw [e] at h5; cases h5
theorem cut_cut : Cut n c (c.cut n (h2.take n) ms) where
  w := rfl
  heap := fun id hid => by
    obtain ⟨o', h1, h3⟩ := hL.sim id _ (List.getElem?_eq_getElem (by omega))
    refine ⟨_, o', List.getElem?_eq_getElem (by omega), by rw [cut_lt hi hn hL hk hm hd (o := o') hid]; exact h1, ?_⟩
    rcases h3 with h | h | ⟨m, t, cs, cs', e1, e2, e3⟩
    · exact .inl h
    · exact .inr (.inl h)
    · exact .inr (.inr ⟨m, t, cs, cs', e1, e2, e3⟩)
  blk := fun id hid => by simp [RC.cut, hid]
  ok := fun b hb => ⟨hb.1, fun h => hb.2.1 (cut_own hi hn hL hk hm hd h), hb.2.2⟩
theorem cut_ext {c0 : RC} (he : Ext c0 c) (h0 : c0.heap.length = n) : Ext c0 (c.cut n (h2.take n) ms) where
  base := he.base
  inb := he.inb
  size := he.size
  os := he.os
  tape := he.tape
  output := he.output
  keep := he.keep
  cells := fun b vs t z hv => by
    obtain ⟨vs', z', g1, g2, g3⟩ := he.cells b vs t z hv
    refine ⟨vs', z', g1, g2, g3.imp id fun hl hl' => hl ?_⟩
    obtain ⟨id, o', ho', hlo', hb'⟩ := hl'
    rcases cut_src hi hn hL hk hm hd ho' hlo' with ⟨j, o1, e1, e2, e3, _⟩ | ⟨_, e, _⟩
    · exact ⟨j, o1, e1, by unfold HObj.live at hlo' ⊢; rw [e2]; exact hlo', e3.symm.trans hb'⟩
    · rw [e] at hb'; cases hb'
  blk := fun id o ho hp => by
    have : id < n := by rw [← h0]; exact get_lt ho
    rw [← he.blk id o ho hp]; simp [RC.cut, this]
  ev := fun id o ho => by
    have hid : id < n := by rw [← h0]; exact get_lt ho
    obtain ⟨o1, h1, e1⟩ := he.ev id o ho
    obtain ⟨o2, h3, e2⟩ := hL.sim id o1 h1
    exact ⟨o2, by rw [cut_lt hi hn hL hk hm hd (o := o2) hid]; exact h3, HObj.ev_trans e1 e2.ev⟩
  fresh := fun id o' b ho' hl hold hblk hb => by
    rcases cut_src hi hn hL hk hm hd ho' hl with ⟨j, o1, e1, e2, e3, h⟩ | ⟨_, e, _⟩
    · rw [e3] at hblk
      rcases h with ⟨_, rfl, _, _⟩ | ⟨hge, rfl, _, hrw, _⟩
      · exact he.fresh j o1 b e1 (by rw [HObj.live, e2]; exact hl) hold hblk hb
      · exact he.wr_back ⟨j, o1, e1, hrw, hblk⟩ hb
    · rw [e] at hblk; cases hblk
include hb
theorem cut_inv : (c.cut n (h2.take n) ms).Inv where
  objs := fun id o ho => by
    have C := cut_cut hi hn hL hk hm hd
    rcases Nat.lt_or_ge id n with hlt | hge
    · have h1 := ho
      rw [cut_lt hi hn hL hk hm hd (o := o) hlt] at h1
      have h3 := hL.rel id o h1
      have h4 := hb id o (by rw [List.getElem?_take, if_pos hlt]; exact h1)
      cases o with
      | pend => trivial
      | dead => trivial
      | box m t cs =>
        obtain ⟨b, vs, e1, e2, e3⟩ := h3
        exact ⟨b, vs, by rw [C.blk id hlt]; exact e1, e2, All2.svcut C h4 e3⟩
      | row m t e xs =>
        obtain ⟨e0, e⟩ := h3
        refine ⟨e0, ?_⟩
        rcases e with ⟨e1, e2⟩ | ⟨b, vs, fr, re, e1, e2, e3, e4⟩
        · exact .inl ⟨by rw [C.blk id hlt]; exact e1, e2⟩
        · exact .inr ⟨b, vs, fr, re, by rw [C.blk id hlt]; exact e1, e2, e3, Rows.mono (fun x cs => K.rep_mono (fun b hb => ⟨C.ok b hb, rfl⟩) _ x cs) e4⟩
      | mp m ka kb xs =>
        obtain ⟨b, es, ck, e1, e2, e3⟩ := h3
        exact ⟨b, es, ck, by rw [C.blk id hlt]; exact e1, e2, Ents.mono (fun _ _ => KV.mono fun x cs => K.rep_mono (fun b hb => ⟨C.ok b hb, rfl⟩) _ x cs) (fun _ _ => KV.mono fun x cs => K.rep_mono (fun b hb => ⟨C.ok b hb, rfl⟩) _ x cs) e3⟩
    · by_cases hl : o.live
      · rcases cut_src hi hn hL hk hm hd ho hl with ⟨j, o1, e1, e2, e3, h⟩ | ⟨_, e, t, k, rfl⟩
        · rcases h with ⟨hlt, _⟩ | ⟨_, rfl, _, _, t, e, xs, rfl⟩
          · omega
          · obtain ⟨f0, f⟩ := hi.objs j _ e1
            refine ⟨f0, ?_⟩
            rcases f with ⟨f1, f2⟩ | ⟨b, vs, fr, re, f1, f2, f3, f4⟩
            · exact .inl ⟨e3.trans f1, f2⟩
            · exact .inr ⟨b, vs, fr, re, e3.trans f1, f2, f3, Rows.mono (fun x cs => K.rep_mono (fun b hb => ⟨C.ok b hb, rfl⟩) _ x cs) f4⟩
        · exact ⟨by simp [maxN], .inl ⟨e, rfl⟩⟩
      · cases o <;> first | trivial | exact absurd rfl hl
  inj := fun i j oi oj b h1 l1 h3 l3 b1 b3 => by
    rcases cut_src hi hn hL hk hm hd h1 l1 with ⟨i', oi', e1, e2, e3, h⟩ | ⟨_, e, _⟩
    · rcases cut_src hi hn hL hk hm hd h3 l3 with ⟨j', oj', g1, g2, g3, g⟩ | ⟨_, g, _⟩
      · have hij := hi.inj i' j' oi' oj' b e1 (by rw [HObj.live, e2]; exact l1) g1 (by rw [HObj.live, g2]; exact l3) (e3 ▸ b1) (g3 ▸ b3)
        subst hij
        rcases h with ⟨hlt, rfl, _, hd2⟩ | ⟨hge, rfl, hms, _⟩
        · rcases g with ⟨_, e, _⟩ | ⟨gge, rfl, gms, _⟩
          · exact e
          · have := hk i' (by simp only [srcs, List.mem_filterMap]; exact ⟨_, List.mem_of_getElem? gms, rfl⟩)
            rw [this] at hd2; cases hd2; exact absurd l1 (by simp [HObj.live, HObj.md?])
        · rcases g with ⟨glt, rfl, _, gd2⟩ | ⟨gge, rfl, gms, _⟩
          · have := hk i' (by simp only [srcs, List.mem_filterMap]; exact ⟨_, List.mem_of_getElem? hms, rfl⟩)
            rw [this] at gd2; cases gd2; exact absurd l3 (by simp [HObj.live, HObj.md?])
          · have := srcs_dist hd _ _ _ _ _ hms gms; omega
      · rw [g] at b3; cases b3
    · rw [e] at b1; cases b1
  base := fun id o b h1 l1 b1 => by
    rcases cut_src hi hn hL hk hm hd h1 l1 with ⟨i', oi', e1, e2, e3, h⟩ | ⟨_, e, _⟩
    · exact hi.base i' oi' b e1 (by rw [HObj.live, e2]; exact l1) (e3 ▸ b1)
    · rw [e] at b1; cases b1
  basele := hi.basele
end
end Go.Lift

set_option linter.unusedVariables false
set_option linter.unusedSimpArgs false
namespace Go.Lift
def Has (c : RC) (tmps : Array Value) (p : Value → Prop) : Loc → Prop
  | .slot t => ∃ u, tmps[t]? = some u ∧ p u
  | .cell id j => ∃ b vs t u, c.blk id = some b ∧ c.w.heap[b]? = some (.cells vs t (0, 0)) ∧ vs.toList[j]? = some u ∧ p u
theorem get_has {c : RC} (hi : c.Inv) {env : List EV} {tmps : Array Value} (he : EnvRel c env tmps) (l : Loc) {v : XV} (h : l.get ⟨env, c.heap⟩ = some v) : Has c tmps (v.rel c) l := by
  cases l with
  | slot t =>
    simp only [Loc.get] at h
    split at h
    · rename_i v' hv
      cases h
      obtain ⟨u, h1, h2⟩ := he.2 _ _ hv
      exact ⟨u, h1, h2⟩
    · cases h
  | cell id j =>
    simp only [Loc.get] at h
    split at h
    · rename_i m t cs ho
      split at h
      · rename_i x hx
        cases h
        obtain ⟨b, vs, h1, h2, h3⟩ := hi.objs _ _ ho
        obtain ⟨u, h4, h5⟩ := h3.get j x hx
        exact ⟨b, vs, t, u, h1, h2, h4, h5⟩
      · cases h
    · cases h
theorem Has.mono {c c' : RC} {tmps : Array Value} {p p' : Value → Prop} {l : Loc} (hw : c'.w = c.w) (hb : ∀ id j, l = .cell id j → c'.blk id = c.blk id) (hp : ∀ u, p u → p' u) (h : Has c tmps p l) : Has c' tmps p' l := by
  cases l with
  | slot t => obtain ⟨u, h1, h2⟩ := h; exact ⟨u, h1, hp u h2⟩
  | cell id j => obtain ⟨b, vs, t, u, h1, h2, h3, h4⟩ := h; exact ⟨b, vs, t, u, by rw [hb id j rfl]; exact h1, by rw [hw]; exact h2, h3, hp u h4⟩
theorem cell_ok {c : RC} (hi : c.Inv) {id j : Nat} {m : Md} {t : TypeId} {cs : List SV} (ho : c.heap[id]? = some (.box m t cs)) {x : SV} (hx : Has c #[] (x.rel c) (.cell id j)) :
    RC.Inv { c with heap := c.heap.set id (.box m t (cs.set j x)) } ∧ Ext c { c with heap := c.heap.set id (.box m t (cs.set j x)) } := by
  have hlen : ∀ (i : Nat) (o : HObj), (c.heap.set id (.box m t (cs.set j x)))[i]? = some o → o.live → ∃ o', c.heap[i]? = some o' ∧ o'.live := by
    intro i o h hl
    rcases set_get h with ⟨rfl, rfl, _⟩ | ⟨_, h⟩
    · exact ⟨_, ho, rfl⟩
    · exact ⟨o, h, hl⟩
  have E : Ext c { c with heap := c.heap.set id (.box m t (cs.set j x)) } := {
    base := rfl, size := Nat.le_refl _, os := rfl, tape := rfl, output := rfl
    keep := fun _ _ _ => rfl
    cells := fun b vs t z h => ⟨vs, z, h, rfl, .inl rfl⟩
    blk := fun _ _ _ _ => rfl
    ev := fun i o h => by
      by_cases e : id = i
      · subst e; rw [ho] at h; cases h
        exact ⟨_, set_eq ho, .inr ⟨m, _, rfl, by simp, .inl rfl⟩⟩
      · exact ⟨o, by simp only; rw [set_ne e]; exact h, HObj.ev_refl o⟩
    fresh := fun i o' b h hl hold _ _ => by
      obtain ⟨o, h1, h2⟩ := hlen i o' h hl
      exact absurd h2 (hold o h1) }
  refine ⟨?_, E⟩
  constructor
  · intro i o h
    rcases set_get h with ⟨rfl, rfl, _⟩ | ⟨hne, h⟩
    · obtain ⟨b, vs, h1, h2, h3⟩ := hi.objs _ _ ho
      obtain ⟨b', vs', t', u, g1, g2, g3, g4⟩ := hx
      rw [h1] at g1; cases g1
      rw [h2] at g2; cases g2
      refine ⟨b, vs, h1, h2, ?_⟩
      have h4 : All2 (SV.rel c) (cs.set j x) vs.toList := by
        have := h3.set j g4
        have hl := get_lt g3
        rw [show vs.toList.set j u = vs.toList from by
          apply List.ext_getElem?; intro i
          rw [List.getElem?_set]
          split
          · rename_i e; subst e; first | exact g3.symm | rw [if_pos hl, g3]
          · rfl] at this
        exact this
      exact h4.mono fun a b r => SV.rel_mono E r
    · exact HObj.rel_mono E h (fun _ _ _ => rfl) (hi.objs i o h)
  · intro i j oi oj b h1 l1 h2 l2 b1 b2
    obtain ⟨o1, e1, e2⟩ := hlen i oi h1 l1
    obtain ⟨o2, e3, e4⟩ := hlen j oj h2 l2
    exact hi.inj i j o1 o2 b e1 e2 e3 e4 b1 b2
  · intro i o b h1 l1 b1
    obtain ⟨o1, e1, e2⟩ := hlen i o h1 l1
    exact hi.base i o1 b e1 e2 b1
  · exact hi.basele
theorem put_ok {c : RC} (hi : c.Inv) {env : List EV} {tmps : Array Value} (he : EnvRel c env tmps) (l : Loc) (v : XV) (hv : Has c tmps (v.rel c) l) :
    RC.Inv { c with heap := (l.put ⟨env, c.heap⟩ v).heap } ∧ Ext c { c with heap := (l.put ⟨env, c.heap⟩ v).heap } ∧ EnvRel { c with heap := (l.put ⟨env, c.heap⟩ v).heap } (l.put ⟨env, c.heap⟩ v).env tmps := by
  cases l with
  | slot t =>
    refine ⟨hi, Ext.refl c, ?_⟩
    obtain ⟨u, h1, h2⟩ := hv
    refine ⟨by simp [Loc.put, he.1], fun i e h => ?_⟩
    simp only [Loc.put] at h
    rcases set_get h with ⟨rfl, rfl, _⟩ | ⟨_, h⟩
    · exact ⟨u, h1, h2⟩
    · exact he.2 i e h
  | cell id j =>
    have hx : ∃ x : SV, Loc.put ⟨env, c.heap⟩ (.cell id j) v = ⟨env, setCell c.heap id j x⟩ ∧ Has c #[] (x.rel c) (.cell id j) := by
      cases v with
      | one x => exact ⟨x, rfl, hv⟩
      | agg cs => exact ⟨.junk, rfl, Has.mono (l := .cell id j) (p' := (SV.junk).rel c) (c := c) (tmps := tmps) rfl (fun _ _ _ => rfl) (fun _ _ => trivial) hv⟩
      | dat k y => exact ⟨.junk, rfl, Has.mono (l := .cell id j) (p' := (SV.junk).rel c) (c := c) (tmps := tmps) rfl (fun _ _ _ => rfl) (fun _ _ => trivial) hv⟩
    obtain ⟨x, e, hx⟩ := hx
    rw [e]
    simp only [setCell]
    split
    · rename_i m t cs ho
      obtain ⟨h1, h2⟩ := cell_ok hi ho hx
      exact ⟨h1, h2, EnvRel.mono he h2⟩
    · exact ⟨hi, Ext.refl c, he⟩
def HasAll (c : RC) (tmps : Array Value) : (n : Nat) → (ls : List (Loc × CK)) → CS ls → Prop
  | _, [], _ => True
  | n, l :: ls, x => Has c tmps ((l.2.val n x.1).rel c) l.1 ∧ HasAll c tmps (n + l.2.n) ls x.2
theorem HasAll.mono {c c' : RC} {tmps : Array Value} (hw : c'.w = c.w) (hb : c'.blk = c.blk) (he : Ext c c') : ∀ (ls : List (Loc × CK)) (n : Nat) (x : CS ls), HasAll c tmps n ls x → HasAll c' tmps n ls x
  | [], _, _, _ => trivial
  | l :: ls, n, x, h => ⟨h.1.mono hw (fun _ _ _ => by rw [hb]) (fun u r => XV.rel_mono he r), HasAll.mono hw hb he ls _ _ h.2⟩
theorem places_ok : ∀ (ls : List (Loc × CK)) (n : Nat) (x : CS ls) {c : RC} (hi : c.Inv) {env : List EV} {tmps : Array Value} (he : EnvRel c env tmps) (h : HasAll c tmps n ls x),
    ∃ c' : RC, c'.w = c.w ∧ c'.Inv ∧ Ext c c' ∧ c'.heap = (places n ls x ⟨env, c.heap⟩).heap ∧ EnvRel c' (places n ls x ⟨env, c.heap⟩).env tmps
  | [], n, x, c, hi, env, tmps, he, h => ⟨c, rfl, hi, Ext.refl c, rfl, he⟩
  | l :: ls, n, x, c, hi, env, tmps, he, h => by
    obtain ⟨h1, h2, h3⟩ := put_ok hi he l.1 (l.2.val n x.1) h.1
    have hh : HasAll { c with heap := (l.1.put ⟨env, c.heap⟩ (l.2.val n x.1)).heap } tmps (n + l.2.n) ls x.2 := HasAll.mono (c := c) (c' := { c with heap := (l.1.put ⟨env, c.heap⟩ (l.2.val n x.1)).heap }) rfl rfl h2 ls _ _ h.2
    obtain ⟨c', e1, e2, e3, e4, e5⟩ := places_ok ls (n + l.2.n) x.2 h1 h3 hh
    exact ⟨c', e1, e2, h2.trans e3, e4, e5⟩
def GotAll (c : RC) (tmps : Array Value) : (ls : List (Loc × CK)) → CS ls → Mvs → Prop
  | [], _, m => m = []
  | (l, .data k) :: ls, x, m => Has c tmps (fun u => KRep c.w c.ok k x.1 u) l ∧ GotAll c tmps ls x.2 m
  | (l, .row t e) :: ls, x, m => ∃ src m', m = (src, .row .rw t e x.1) :: m' ∧ MvOk c (src, .row .rw t e x.1) ∧
      (match src with
        | some id => Has c tmps ((SV.osl id 0 (List.length x.1)).rel c) l
        | none => Has c tmps (fun u => ∃ A, u = .slice A 0 0) l ∧ x.1 = []) ∧ GotAll c tmps ls x.2 m'
theorem grabs_got {c : RC} (hi : c.Inv) {env : List EV} {tmps : Array Value} (he : EnvRel c env tmps) : ∀ (ls : List (Loc × CK)) {K : CS ls → Mvs → Prop}, grabs ⟨env, c.heap⟩ ls K → ∃ x m, K x m ∧ GotAll c tmps ls x m
  | [], K, h => ⟨(), [], h, rfl⟩
  | (l, .data k) :: ls, K, h => by
    simp only [grabs, grab1] at h
    split at h
    · rename_i v hv
      split at h
      · rename_i x hx
        obtain ⟨y, m, h1, h2⟩ := grabs_got hi he ls h
        exact ⟨(x, y), m, h1, (get_has hi he l hv).mono rfl (fun _ _ _ => rfl) (fun u r => XV.take0_rep hx r), h2⟩
      · exact h.elim
    · exact h.elim
  | (l, .row t e) :: ls, K, h => by
    simp only [grabs, grab1] at h
    split at h
    · rename_i id off len hv
      split at h
      · rename_i t' e' xs ho
        split at h
        · rename_i q; subst q
          split at h
          · rename_i q; subst q
            obtain ⟨⟨rfl, rfl⟩, h⟩ := h
            obtain ⟨y, m, h1, h2⟩ := grabs_got hi he ls h
            exact ⟨(xs, y), _, h1, some id, m, rfl, ⟨ho, rfl, _, _, _, rfl⟩, get_has hi he l hv, h2⟩
          · exact h.elim
        · exact h.elim
      · exact h.elim
    · rename_i v hv
      split at h
      · rename_i hn
        obtain ⟨y, m, h1, h2⟩ := grabs_got hi he ls h
        exact ⟨([], y), _, h1, none, m, rfl, ⟨_, _, rfl⟩, ⟨(get_has hi he l hv).mono rfl (fun _ _ _ => rfl) (fun u r => ⟨none, by rw [show u = v from r]; exact isNilS_eq hn⟩), rfl⟩, h2⟩
      · exact h.elim
    · rename_i hv
      obtain ⟨y, m, h1, h2⟩ := grabs_got hi he ls h
      exact ⟨([], y), _, h1, none, m, rfl, ⟨_, _, rfl⟩, ⟨get_has hi he l hv, rfl⟩, h2⟩
    · exact h.elim
theorem GotAll.rows {c : RC} {tmps : Array Value} : ∀ (ls : List (Loc × CK)) (x : CS ls) (m : Mvs), GotAll c tmps ls x m → m.map (·.2) = rowsOf ls x ∧ ∀ mm ∈ m, MvOk c mm
  | [], x, m, h => by obtain rfl : m = [] := h; exact ⟨rfl, fun _ h => by cases h⟩
  | (l, .data k) :: ls, x, m, h => by simpa [rowsOf, CK.rows] using GotAll.rows ls x.2 m h.2
  | (l, .row t e) :: ls, x, m, h => by
    obtain ⟨src, m', rfl, h1, _, h2⟩ := h
    obtain ⟨h3, h4⟩ := GotAll.rows ls x.2 m' h2
    exact ⟨by simp [rowsOf, CK.rows, h3], fun mm hm => (List.mem_cons.1 hm).elim (fun e => e ▸ h1) (h4 mm)⟩
theorem GotAll.has {c cA : RC} {n : Nat} {tmps : Array Value} (hc : Cut n c cA) {ms : Mvs}
    (hh : ∀ (i : Nat) (m : Option Nat × HObj), ms[i]? = some m → cA.heap[n + i]? = some m.2 ∧ cA.blk (n + i) = m.1.bind c.blk) :
    ∀ (ls : List (Loc × CK)) (i : Nat) (x : CS ls), cellsLt n ls = true → GotAll c tmps ls x (ms.drop i) → HasAll cA tmps (n + i) ls x
  | [], i, x, _, _ => trivial
  | (l, k) :: ls, i, x, hl, h => by
    have hcell : (∀ id j, l = .cell id j → cA.blk id = c.blk id) ∧ cellsLt n ls = true := by
      cases l with
      | slot t => exact ⟨fun _ _ h => (by cases h), hl⟩
      | cell id j =>
        simp only [cellsLt] at hl
        split at hl
        · rename_i hlt
          exact ⟨fun _ _ h => (by cases h; exact hc.blk id (by simpa using hlt)), hl⟩
        · cases hl
    cases k with
    | data k =>
      refine ⟨h.1.mono hc.w hcell.1 (fun u r => XV.ofData_rel (KRep.mono (w := c.w) (fun b hb => ⟨hc.ok b hb, by rw [hc.w]⟩) r)), ?_⟩
      exact GotAll.has hc hh ls i x.2 hcell.2 h.2
    | row t e =>
      obtain ⟨src, m', hm, h1, h2, h3⟩ := h
      have hi : ms[i]? = some (src, .row .rw t e x.1) := by
        have := congrArg (fun l => l[0]?) hm
        simpa using this
      have hd : ms.drop (i + 1) = m' := by
        have := congrArg List.tail hm
        simpa [List.tail_drop] using this
      obtain ⟨g1, g2⟩ := hh i _ hi
      refine ⟨?_, GotAll.has hc hh ls (i + 1) x.2 hcell.2 (by rw [hd]; exact h3)⟩
      cases src with
      | some id =>
        refine Has.mono hc.w hcell.1 (fun u r => ?_) h2
        have ho : c.heap[id]? = some (.row .rw t e x.1) := h1.1
        simp only [CK.val, XV.rel, SV.rel, g1] at r ⊢
        rw [ho] at r
        obtain ⟨A, cap, r1, r2, r3, r4⟩ := r
        refine ⟨A, cap, r1, r2, r3, ?_⟩
        rcases r4 with r4 | ⟨b, vs, r4, r5⟩
        · exact .inl r4
        · exact .inr ⟨b, vs, g2.trans r4, by rw [hc.w]; exact r5⟩
      | none =>
        refine Has.mono hc.w hcell.1 (fun u r => ?_) h2.1
        obtain ⟨A, rfl⟩ := r
        simp only [CK.val, XV.rel, SV.rel, g1, h2.2]
        exact ⟨A, 0, rfl, Nat.le_refl _, Nat.le_refl _, .inl rfl⟩
theorem adopt_typed {c0 c : RC} (hi : c.Inv) (he0 : Ext c0 c) {n : Nat} (h0 : c0.heap.length = n) {env : List EV} {tmps : Array Value} (he : EnvRel c env tmps) {ls : List (Loc × CK)} {os : List (Nat × TypeId × K)}
    {K : List HObj → CS ls → OS os → Prop} (h : Adopt n ls os ⟨env, c.heap⟩ K) {env1 : List EV} (hE : EnvRel c env1 tmps) :
    ∃ h1 x y, K h1 x y ∧ (∀ (id : Nat) (o : HObj), h1[id]? = some o → o.rel c id) ∧
      ((∀ (t : Nat) (e : EV), env1[t]? = some e → e.below n) → (∀ (id : Nat) (o : HObj), h1[id]? = some o → o.below n) →
        ∃ c' : RC, c'.w = c.w ∧ c'.Inv ∧ Ext c0 c' ∧ c'.heap = (places n ls x ⟨env1, h1 ++ rowsOf ls x⟩).heap ∧ EnvRel c' (places n ls x ⟨env1, h1 ++ rowsOf ls x⟩).env tmps) := by
  have hn : n ≤ c.heap.length := by
    rcases Nat.lt_or_ge c.heap.length n with hlt | h
    · obtain ⟨o, ho, _⟩ := he0.ev c.heap.length _ (List.getElem?_eq_getElem (by omega))
      exact absurd (get_lt ho) (by omega)
    · exact h
  unfold Adopt at h
  split at h
  · rename_i hcl
    obtain ⟨x, m, h, hgot⟩ := grabs_got hi he ls h
    have hy : ∃ y, (if distB (srcs m) = true then K ((mask ls ⟨env, kill m c.heap⟩).heap.take n) x y else False) := by
      have key : ∀ (os : List (Nat × TypeId × Lift.K)) {K : OS os → Prop}, grabO c.heap os K → ∃ y, K y := by
        intro os
        induction os with
        | nil => intro K h; exact ⟨_, h⟩
        | cons o os ih =>
          obtain ⟨id, t, e⟩ := o
          intro K h
          simp only [grabO] at h
          split at h
          · split at h
            · split at h
              · obtain ⟨y, hy⟩ := ih h; exact ⟨_, hy⟩
              · exact h.elim
            · exact h.elim
          · split at h
            · obtain ⟨y, hy⟩ := ih h; exact ⟨_, hy⟩
            · exact h.elim
          · exact h.elim
      exact key os h
    obtain ⟨y, h⟩ := hy
    split at h
    · rename_i hd
      have hL := mask_less ls (s := ⟨env, kill m c.heap⟩) (Less.kill m (Less.refl hi))
      obtain ⟨hrows, hm⟩ := hgot.rows
      have hk : ∀ id, id ∈ srcs m → (mask ls ⟨env, kill m c.heap⟩).heap[id]? = some .dead := by
        intro id hid
        refine mask_dead ls ?_
        refine kill_dead m ?_ (.inl hid)
        simp only [srcs, List.mem_filterMap] at hid
        obtain ⟨⟨src, o⟩, h1, h2⟩ := hid
        cases h2
        exact get_lt (hm _ h1).1
      refine ⟨_, x, y, h, fun id o ho => ?_, fun b1 b2 => ?_⟩
      · rw [List.getElem?_take] at ho
        split at ho
        · exact hL.rel id o ho
        · cases ho
      · have C := cut_cut hi hn hL hk hm hd
        have I := cut_inv hi hn hL hk hm hd b2
        have X := cut_ext hi hn hL hk hm hd he0 h0
        have hh : ∀ (i : Nat) (mm : Option Nat × HObj), m[i]? = some mm → (c.cut n ((mask ls ⟨env, kill m c.heap⟩).heap.take n) m).heap[n + i]? = some mm.2 ∧ (c.cut n ((mask ls ⟨env, kill m c.heap⟩).heap.take n) m).blk (n + i) = mm.1.bind c.blk := by
          intro i mm hmm
          refine ⟨by rw [cut_ge hi hn hL hk hm hd (by omega)]; simp [hmm], ?_⟩
          obtain ⟨src, o⟩ := mm
          simp only [RC.cut, if_neg (show ¬ n + i < n by omega), Nat.add_sub_cancel_left, hmm]
          cases src <;> rfl
        have E : EnvRel (c.cut n ((mask ls ⟨env, kill m c.heap⟩).heap.take n) m) env1 tmps := by
          refine ⟨hE.1, fun t e hte => ?_⟩
          obtain ⟨v, v1, v2⟩ := hE.2 t e hte
          exact ⟨v, v1, EV.cut C (b1 t e hte) v2⟩
        obtain ⟨c', e1, e2, e3, e4, e5⟩ := places_ok ls n x I E (GotAll.has C hh ls 0 x hcl (by simpa using hgot))
        have hheap : (c.cut n ((mask ls ⟨env, kill m c.heap⟩).heap.take n) m).heap = (mask ls ⟨env, kill m c.heap⟩).heap.take n ++ rowsOf ls x := by
          simp only [RC.cut, hrows]
        rw [hheap] at e4 e5
        exact ⟨c', e1, e2, X.trans e3, e4, e5⟩
    · exact h.elim
  · exact h.elim
end Go.Lift

set_option linter.unusedVariables false
set_option linter.unusedSimpArgs false
set_option linter.unusedSectionVars false
namespace Go.Lift
def runD (wk : Wk) (call : CallEv) (cx : Cx) (ops : Array Oper) (base : Nat) (A W : List (List Nat)) : Nat → List Oper → List EV → List HObj → Nat → (List EV → List HObj → Prop) → Prop
  | _, [], env, h, _, k => k env h
  | n, o :: l, env, h, tgt, k => match o.guard with
    | none => (match ilOp wk.inl o with
      | true => icall cx wk.inl call o env h fun s => runD wk call cx ops base A W (n + 1) l s.env s.heap (tgt + nAlloc cx o) k
      | false => if chkS cx (okId cx ops base A W n) (stOk ops A W n) o env then (aopN wk.named cx o env h tgt).wp fun ev us => runD wk call cx ops base A W (n + 1) l (putE env o.dst ev) (applyU h us) (tgt + nAlloc cx o) k else False)
    | some (j, want) => match guardOf ops env j with
      | none => if gone ops env j then runD wk call cx ops base A W (n + 1) l (putE env o.dst .skip) h (tgt + nAlloc cx o) k else False
      | some (d, b) => Br b
        (match want with
          | true => (match ilOp wk.inl o with
            | true => icall cx wk.inl call o (env.set d (.val (.bool true))) h fun s => runD wk call cx ops base A W (n + 1) l s.env s.heap (tgt + nAlloc cx o) k
            | false => if chkS cx (okId cx ops base A W n) (stOk ops A W n) o (env.set d (.val (.bool true))) then (aopN wk.named cx o (env.set d (.val (.bool true))) h tgt).wp fun ev us => runD wk call cx ops base A W (n + 1) l (putE (env.set d (.val (.bool true))) o.dst ev) (applyU h us) (tgt + nAlloc cx o) k else False)
          | false => runD wk call cx ops base A W (n + 1) l (putE (env.set d (.val (.bool true))) o.dst .skip) h (tgt + nAlloc cx o) k)
        (match want with
          | true => runD wk call cx ops base A W (n + 1) l (putE (env.set d (.val (.bool false))) o.dst .skip) h (tgt + nAlloc cx o) k
          | false => (match ilOp wk.inl o with
            | true => icall cx wk.inl call o (env.set d (.val (.bool false))) h fun s => runD wk call cx ops base A W (n + 1) l s.env s.heap (tgt + nAlloc cx o) k
            | false => if chkS cx (okId cx ops base A W n) (stOk ops A W n) o (env.set d (.val (.bool false))) then (aopN wk.named cx o (env.set d (.val (.bool false))) h tgt).wp fun ev us => runD wk call cx ops base A W (n + 1) l (putE (env.set d (.val (.bool false))) o.dst ev) (applyU h us) (tgt + nAlloc cx o) k else False))
theorem guardOf_get {ops : Array Oper} {env : List EV} {j : Nat} {d : Tmp} {b : Bool} (h : guardOf ops env j = some (d, b)) : env[d]? = some (.val (.bool b)) := by
  unfold guardOf at h
  split at h
  · split at h
    · rename_i hb; cases h; exact hb
    · cases h
  · cases h
theorem set_same {env : List EV} {d : Nat} {v : EV} (h : env[d]? = some v) : env.set d v = env := by
  apply List.ext_getElem?; intro i
  rw [List.getElem?_set]
  split
  · rename_i e; subst e; rw [if_pos (get_lt h), h]
  · rfl
theorem runD_chain {wk : Wk} {call : CallEv} {cx : Cx} {ops : Array Oper} {base : Nat} {A W : List (List Nat)} {k : List EV → List HObj → Prop} : ∀ (l : List Oper) (n : Nat) (tgt : Nat), ops.toList.drop n = l → tgt = tgAt cx ops base n →
    ∀ (env : List EV) (h : List HObj), runD wk call cx ops base A W n l env h tgt k = pchain cx wk.inl call ops base A W (List.range' n l.length) ⟨env, h⟩ fun s => k s.env s.heap
  | [], n, tgt, _, _, env, h => rfl
  | o :: l, n, tgt, hl, ht, env, h => by
    have ho : ops[n]? = some o := by
      have h0 := congrArg (fun l => l[0]?) hl
      rw [List.getElem?_drop] at h0
      simpa using h0
    have hl' : ops.toList.drop (n + 1) = l := by
      have h1 := congrArg List.tail hl
      rw [List.tail_drop] at h1
      simpa using h1
    have hn : nAt cx ops n = nAlloc cx o := by simp [nAt, ho]
    have next : ∀ (env : List EV) (h : List HObj), runD wk call cx ops base A W (n + 1) l env h (tgt + nAlloc cx o) k = pchain cx wk.inl call ops base A W (List.range' (n + 1) l.length) ⟨env, h⟩ fun s => k s.env s.heap :=
      runD_chain l (n + 1) _ hl' (by rw [tgAt_succ, hn, ht])
    have act : ∀ env : List EV, (match ilOp wk.inl o with
        | true => icall cx wk.inl call o env h fun s => runD wk call cx ops base A W (n + 1) l s.env s.heap (tgt + nAlloc cx o) k
        | false => if chkS cx (okId cx ops base A W n) (stOk ops A W n) o env then (aopN wk.named cx o env h tgt).wp fun ev us => runD wk call cx ops base A W (n + 1) l (putE env o.dst ev) (applyU h us) (tgt + nAlloc cx o) k else False) =
        (match ilOp wk.inl o with
        | true => icall cx wk.inl call o env h fun s => pchain cx wk.inl call ops base A W (List.range' (n + 1) l.length) s fun s => k s.env s.heap
        | false => (if chkS cx (okId cx ops base A W n) (stOk ops A W n) o env then aop cx o env h tgt else .fail).wp fun ev us => pchain cx wk.inl call ops base A W (List.range' (n + 1) l.length) ⟨putE env o.dst ev, applyU h us⟩ fun s => k s.env s.heap) := by
      intro env
      cases ilOp wk.inl o with
      | true =>
        simp only
        congr 1
        funext s
        exact next s.env s.heap
      | false =>
        simp only
        by_cases hc : chkS cx (okId cx ops base A W n) (stOk ops A W n) o env = true
        · rw [if_pos hc, if_pos hc]
          refine (propext aopN_iff).trans ?_
          congr 1
          funext ev us
          exact next _ _
        · rw [if_neg hc, if_neg hc]; rfl
    simp only [List.length_cons, List.range'_succ, pchain, pstep, ho, ← ht]
    unfold istep gres
    simp only [runD]
    cases hg : o.guard with
    | none =>
      simp only
      rw [act env]
      try (cases ilOp wk.inl o <;> rfl)
    | some jw =>
      obtain ⟨j, want⟩ := jw
      simp only
      cases hgo : guardOf ops env j with
      | none =>
        simp only
        by_cases hgn : gone ops env j = true
        · rw [if_pos hgn, if_pos hgn, if_pos hgn, next]
          cases ilOp wk.inl o <;> rfl
        · rw [if_neg hgn, if_neg hgn, if_neg hgn]
          cases ilOp wk.inl o <;> rfl
      | some db =>
        obtain ⟨d, b⟩ := db
        have hd := guardOf_get hgo
        simp only
        cases b with
        | true =>
          rw [set_same hd]
          simp only [Br]
          cases want with
          | true =>
            simp only [if_true]
            rw [act env]
            try (cases ilOp wk.inl o <;> rfl)
          | false =>
            simp only [Bool.true_eq_false, if_false]
            rw [next]
            cases ilOp wk.inl o <;> rfl
        | false =>
          rw [set_same hd]
          simp only [Br]
          cases want with
          | false =>
            simp only [if_true]
            rw [act env]
            try (cases ilOp wk.inl o <;> rfl)
          | true =>
            simp only [Bool.false_eq_true, if_false]
            rw [next]
            cases ilOp wk.inl o <;> rfl
def deps (o : Oper) : List Nat := o.after.toList.filterMap fun e => if Region.binds .any e then some e.on else none
def depsOf (ops : Array Oper) (i : Nat) : List Nat := match ops[i]? with
  | some o => deps o
  | none => []
def mkAnc (ops : List Oper) : List (List Nat) := ops.foldl (fun acc o => acc ++ [(deps o).foldr (fun j l => j :: (acc.getD j [] ++ l)) [] |>.eraseDups]) []
def ancOk (ops : Array Oper) (A : List (List Nat)) (i : Nat) : Bool :=
  (A.getD i []).all (fun a => (depsOf ops i).any fun d => if Nat.beq a d then true else elemB a (A.getD d [])) && (depsOf ops i).all fun d => Nat.blt d i
def pairOk (cx : Cx) (inl : FuncId → Bool) (ops : Array Oper) (A : List (List Nat)) (i j : Nat) : Bool :=
  if elemB i (A.getD j []) then true else match ops[i]?, ops[j]? with
    | some oi, some oj => oi.apart ops oj && (quietOp cx oi && quietOp cx oj || (pureOp oi || pureOp oj) || (quietOp cx oi && isSt oj || isSt oi && quietOp cx oj)) && !(elemB j (A.getD i [])) && !(ilOp inl oi) && !(ilOp inl oj)
    | _, _ => true
def upTo : Nat → (Nat → Bool) → Bool
  | 0, _ => true
  | n + 1, p => if p n then upTo n p else false
def drawOk (cx : Cx) (inl : FuncId → Bool) (ops : Array Oper) (A : List (List Nat)) : Bool := upTo ops.size (ancOk ops A) && upTo ops.size fun j => upTo j fun i => pairOk cx inl ops A i j
theorem upTo_spec : ∀ {n : Nat} {p : Nat → Bool}, upTo n p = true → ∀ i, i < n → p i = true
  | n + 1, p, h, i, hi => by
    simp only [upTo] at h
    split at h
    · rename_i hp
      rcases Nat.lt_or_ge i n with h' | h'
      · exact upTo_spec h i h'
      · have : i = n := by omega
        subst this; exact hp
    · cases h
theorem elemB_iff (x : Nat) : ∀ l : List Nat, elemB x l = true ↔ x ∈ l
  | [] => by simp [elemB]
  | y :: l => by
    simp only [elemB]
    by_cases h : x = y
    · subst h; simp
    · have : ¬ (Nat.beq x y = true) := by simpa using h
      rw [if_neg this, elemB_iff x l]
      simp [h]
theorem deps_mem {o : Oper} {e : Edge} (he : e ∈ o.after) (hb : Region.binds .any e = true) : e.on ∈ deps o :=
  List.mem_filterMap.2 ⟨e, by simpa using he, by rw [if_pos hb]⟩
theorem mem_deps {o : Oper} {d : Nat} (h : d ∈ deps o) : ∃ e ∈ o.after, Region.binds .any e = true ∧ e.on = d := by
  obtain ⟨e, he, hd⟩ := List.mem_filterMap.1 h
  split at hd
  · rename_i hb; cases hd; exact ⟨e, by simpa using he, hb, rfl⟩
  · cases hd
section
variable {P : Program} {cx : Cx} (hx : CxOk P cx) {inl : FuncId → Bool} {call : CallEv} (hcall : CallOk P cx call)
include hx hcall
theorem any_sound (ops : Array Oper) (base : Nat) (A W : List (List Nat)) (hA : drawOk cx inl ops A = true) {k : List EV → List HObj → Prop} {Q : Exit → Act → World → Prop} {c0 : RC} {a0 : Act} {D : List Nat} (hD : ∀ o ∈ ops.toList, ∀ t, o.dst = some t → t ∈ D)
    (hq : ∀ (c' : RC) (env' : List EV) (a' : Act), k env' c'.heap → Ext c0 c' → c'.Inv → EnvRel c' env' a'.tmps → Kp D a0 a' → Q .normal a' c'.w) :
    ∀ (N : Nat) (l : List Nat) (listed : Array Bool) {c : RC} (hi : c.Inv) (hext : Ext c0 c) {env : List EV} {a : Act} (hdf : Kp D a0 a) (hg : GOk cx.glob c) (he : EnvRel c env a.tmps),
      l.length = N → listed.size = ops.size → (∀ i, i ∈ l ↔ i < ops.size ∧ listed.getD i true = false) → l.Pairwise (· < ·) →
      (∀ i, i < ops.size → listed.getD i false = true → ∀ d ∈ A.getD i [], listed.getD d false = true) →
      (∀ i ∈ l, ∀ j, j < nAt cx ops i → c.heap[tgAt cx ops base i + j]? = some .pend) →
      pchain cx inl call ops base A W l ⟨env, c.heap⟩ (fun s => k s.env s.heap) → wpAny P .any ops Q N listed a c.w := by
  obtain ⟨hA1, hA2⟩ := Bool.and_eq_true_iff.1 hA
  have anc1 : ∀ i, i < ops.size → ∀ d ∈ A.getD i [], ∃ d' ∈ depsOf ops i, d = d' ∨ d ∈ A.getD d' [] := by
    intro i hi d hd
    have h1 := (Bool.and_eq_true_iff.1 (upTo_spec hA1 i hi)).1
    have h2 := List.all_eq_true.1 h1 d hd
    obtain ⟨d', h3, h4⟩ := List.any_eq_true.1 h2
    refine ⟨d', h3, ?_⟩
    split at h4
    · rename_i h5; exact .inl (by simpa using h5)
    · exact .inr ((elemB_iff _ _).1 h4)
  have anc2 : ∀ i, i < ops.size → ∀ d ∈ depsOf ops i, d < i := by
    intro i hi d hd
    have h1 := (Bool.and_eq_true_iff.1 (upTo_spec hA1 i hi)).2
    simpa using List.all_eq_true.1 h1 d hd
  intro N
  induction N with
  | zero =>
    intro l listed c hi hext env a hdf hg he hlen hsz hl hs hLC hp h
    have hl0 : l = [] := List.eq_nil_of_length_eq_zero hlen
    subst hl0
    refine ⟨?_, hq c env a h hext hi he hdf⟩
    cases hr : Region.ready .any ops listed with
    | nil => rfl
    | cons j js =>
      obtain ⟨h1, o, h2, _⟩ := mem_ready.1 (show j ∈ Region.ready .any ops listed by rw [hr]; exact List.mem_cons_self)
      have := (hl j).2 ⟨lt_of_some h2, h1⟩
      cases this
  | succ N ih =>
    intro l listed c hi hext env a hdf hg he hlen hsz hl hs hLC hp h
    have readyL : ∀ i, i ∈ Region.ready .any ops listed → i ∈ l ∧ (∀ d ∈ depsOf ops i, listed.getD d false = true) := by
      intro i hir
      obtain ⟨h1, o, h2, h3⟩ := mem_ready.1 hir
      refine ⟨(hl i).2 ⟨lt_of_some h2, h1⟩, fun d hd => ?_⟩
      simp only [depsOf, h2] at hd
      obtain ⟨e, he, hb, rfl⟩ := mem_deps hd
      exact h3 e he hb
    refine ⟨fun hr => ?_, fun i hir => ?_⟩
    · cases l with
      | nil => cases hlen
      | cons i0 l =>
        obtain ⟨h1, h2⟩ := (hl i0).1 List.mem_cons_self
        have : i0 ∈ Region.ready .any ops listed := by
          refine mem_ready.2 ⟨h2, ops[i0], by simp [h1], fun e he hb => ?_⟩
          have hlt := anc2 i0 h1 e.on (by simp only [depsOf, Array.getElem?_eq_getElem h1]; exact deps_mem he hb)
          have hlt2 : e.on < ops.size := by omega
          cases hv : listed.getD e.on true with
          | false =>
            have hm := (hl e.on).2 ⟨hlt2, hv⟩
            rcases List.mem_cons.1 hm with hm | hm
            · omega
            · have := (List.pairwise_cons.1 hs).1 _ hm; omega
          | true =>
            have hsz2 : e.on < listed.size := by omega
            simp only [Array.getD_eq_getD_getElem?, Array.getElem?_eq_getElem hsz2, Option.getD_some] at hv ⊢
            exact hv
        rw [hr] at this; cases this
    · obtain ⟨hil, hdep⟩ := readyL i hir
      obtain ⟨hisz, hiun⟩ := (hl i).1 hil
      have ho : ops[i]? = some ops[i] := Array.getElem?_eq_getElem hisz
      have hanc : ∀ d ∈ A.getD i [], listed.getD d false = true := by
        intro d hd
        obtain ⟨d', h1, h2⟩ := anc1 i hisz d hd
        have h3 := hdep d' h1
        rcases h2 with rfl | h2
        · exact h3
        · exact hLC d' (by have := anc2 i hisz d' h1; omega) h3 d h2
      obtain ⟨pre, post, rfl⟩ := List.append_of_mem hil
      have hb := bubble (cx := cx) (inl := inl) (call := call) (base := base) ho post pre ⟨env, c.heap⟩ (fun r hr o hor => by
        have hri : r < i := by
          rw [List.pairwise_append] at hs
          exact hs.2.2 r hr i List.mem_cons_self
        have hp2 := upTo_spec (upTo_spec hA2 i hisz) r hri
        unfold pairOk at hp2
        have hrl := (hl r).1 (List.mem_append_left _ hr)
        split at hp2
        · rename_i he
          have := hanc r ((elemB_iff _ _).1 he)
          rw [getD_both hrl.2] at this; cases this
        · rename_i he
          rw [hor, ho] at hp2
          simp only [Bool.and_eq_true, Bool.or_eq_true, Bool.not_eq_true'] at hp2
          obtain ⟨⟨⟨⟨p1, p2⟩, p4⟩, p5⟩, p6⟩ := hp2
          exact ⟨by omega, p1, (by rcases p2 with (q | q) | q | q <;> first | exact .inl q | exact .inr (.inl q) | exact .inr (.inr (.inl q)) | exact .inr (.inr (.inr q))), fun hm => he ((elemB_iff _ _).2 hm), fun hm => (by rw [(elemB_iff _ _).2 hm] at p4; cases p4), p5, p6⟩) h
      have hn : nAt cx ops i = nAlloc cx ops[i] := by simp [nAt, ho]
      have hnotin : i ∉ pre ∧ i ∉ post := by
        rw [List.pairwise_append] at hs
        refine ⟨fun hm => ?_, fun hm => ?_⟩
        · have := hs.2.2 i hm i List.mem_cons_self; omega
        · have := (List.pairwise_cons.1 hs.2.1).1 i hm; omega
      have hl2 : ∀ j, j ∈ pre ++ post ↔ j < ops.size ∧ (listed.setIfInBounds i true).getD j true = false := by
        intro j
        by_cases e : i = j
        · subst e
          refine ⟨fun hm => ?_, fun hm => ?_⟩
          · rcases List.mem_append.1 hm with hm | hm
            · exact absurd hm hnotin.1
            · exact absurd hm hnotin.2
          · have : i < listed.size := by omega
            simp [Array.getD_eq_getD_getElem?, Array.getElem?_setIfInBounds, this] at hm
        · rw [getD_set_ne true e, ← hl j]
          simp only [List.mem_append, List.mem_cons]
          constructor
          · rintro (h | h)
            · exact .inl h
            · exact .inr (.inr h)
          · rintro (h | h | h)
            · exact .inl h
            · exact absurd h.symm e
            · exact .inr h
      have hs2 : (pre ++ post).Pairwise (· < ·) := by
        rw [List.pairwise_append] at hs ⊢
        exact ⟨hs.1, (List.pairwise_cons.1 hs.2.1).2, fun a ha b hb => hs.2.2 a ha b (List.mem_cons_of_mem _ hb)⟩
      have hLC2 : ∀ j, j < ops.size → (listed.setIfInBounds i true).getD j false = true → ∀ d ∈ A.getD j [], (listed.setIfInBounds i true).getD d false = true := by
        intro j hj hjl d hd
        refine getD_set_true ?_
        by_cases e : i = j
        · subst e; exact hanc d hd
        · rw [getD_set_ne false e] at hjl; exact hLC j hj hjl d hd
      have hlen2 : (pre ++ post).length = N := by simp at hlen ⊢; omega
      unfold pstep at hb
      simp only [ho] at hb
      simp only [wpOp, ho]
      have keep : ∀ (us : List (Nat × HObj)) (c' : RC), c'.heap = applyU c.heap us → Touch c.heap (tgAt cx ops base i) (nAlloc cx ops[i]) us → ∀ r ∈ pre ++ post, ∀ j, j < nAt cx ops r → c'.heap[tgAt cx ops base r + j]? = some .pend := by
        intro us c' hh ht r hr j hj
        have hr2 : r ∈ pre ++ i :: post := by
          rcases List.mem_append.1 hr with h | h
          · exact List.mem_append_left _ h
          · exact List.mem_append_right _ (List.mem_cons_of_mem _ h)
        have hne : r ≠ i := by
          rintro rfl
          rcases List.mem_append.1 hr with h | h
          · exact hnotin.1 h
          · exact hnotin.2 h
        have hpd := hp r hr2 j hj
        rw [hh, applyU_ne _ _ _ fun u hu e => ?_]
        · exact hpd
        · rcases ht u hu with h | ⟨o, h1, h2⟩
          · rcases Nat.lt_or_ge r i with hlt | hge
            · have := tgAt_le cx ops base hlt; omega
            · have := tgAt_le cx ops base (show i < r by omega); omega
          · rw [e, hpd] at h1; cases h1; exact h2 rfl
      have run : (aop cx ops[i] env c.heap (tgAt cx ops base i)).wp (fun ev us => pchain cx inl call ops base A W (pre ++ post) ⟨putE env ops[i].dst ev, applyU c.heap us⟩ fun s => k s.env s.heap) →
          (ops[i]).wp P a c.w (wpAny P .any ops Q N (listed.setIfInBounds i true)) Q := by
        intro hw
        refine aop_sound hx hi hg he ops[i] (tgAt cx ops base i) (fun j hj => hp i hil j (by rw [hn]; exact hj)) (Res.wp_all (aop_touch cx ops[i] env c.heap _) hw) _ Q fun v w' hd => ?_
        obtain ⟨ev, us, c', ⟨hk, ht⟩, rfl, hh, hext', hinv, hrel⟩ := hd
        rw [← hh] at hk
        exact ih (pre ++ post) _ hinv (hext.trans hext') (a := a.put ops[i].dst v) (Kp.trans (Kp.put (hD ops[i] (by simp))) hdf) (GOk.mono hg hext') (EnvRel.put (EnvRel.mono he hext') ops[i].dst hrel) hlen2 (by simp [hsz]) hl2 hs2 hLC2 (keep us c' hh ht) hk
      have keepP : ∀ c' : RC, pendKept c.heap c'.heap = true → ∀ r ∈ pre ++ post, ∀ j, j < nAt cx ops r → c'.heap[tgAt cx ops base r + j]? = some .pend := by
        intro c' hk r hr j hj
        have hr2 : r ∈ pre ++ i :: post := by
          rcases List.mem_append.1 hr with h | h
          · exact List.mem_append_left _ h
          · exact List.mem_append_right _ (List.mem_cons_of_mem _ h)
        exact pendKept_spec hk _ (hp r hr2 j hj)
      have skip : pchain cx inl call ops base A W (pre ++ post) ⟨putE env ops[i].dst .skip, c.heap⟩ (fun s => k s.env s.heap) → wpAny P .any ops Q N (listed.setIfInBounds i true) (a.put ops[i].dst undef) c.w := by
        intro hw
        exact ih (pre ++ post) _ hi hext (a := a.put ops[i].dst undef) (Kp.trans (Kp.put (hD ops[i] (by simp))) hdf) hg (EnvRel.put he ops[i].dst (ev := .skip) rfl) hlen2 (by simp [hsz]) hl2 hs2 hLC2 (keep [] c rfl Touch.nil) hw
      have inr : icall cx inl call ops[i] env c.heap (fun s' => pchain cx inl call ops base A W (pre ++ post) s' fun s => k s.env s.heap) → (ops[i]).wp P a c.w (wpAny P .any ops Q N (listed.setIfInBounds i true)) Q := by
        intro hw
        unfold icall at hw
        split at hw
        · rename_i fa hfa
          refine inl_yields hcall hi hg he hfa hw _ Q fun v w' hd => ?_
          obtain ⟨ev, c', hk, rfl, hext', hinv, hrel⟩ := hd
          split at hk
          · rename_i hpk
            exact ih (pre ++ post) _ hinv (hext.trans hext') (a := a.put ops[i].dst v) (Kp.trans (Kp.put (hD ops[i] (by simp))) hdf) (GOk.mono hg hext') (EnvRel.put (EnvRel.mono he hext') ops[i].dst hrel) hlen2 (by simp [hsz]) hl2 hs2 hLC2 (keepP c' hpk) hk
          · exact hk.elim
        · exact hw.elim
      cases hil : ilOp inl ops[i] with
      | true =>
        rw [hil] at hb
        simp only at hb
        unfold istep at hb
        cases hgd : (ops[i]).guard with
        | none =>
          rw [hgd] at hb
          have hw : Region.wanted ops[i] (yielded ops a.tmps) = true := by simp [Region.wanted, hgd]
          rw [if_pos hw]
          exact .inl (inr hb)
        | some jw =>
          obtain ⟨j, want⟩ := jw
          rw [hgd] at hb
          simp only at hb
          split at hb
          · split at hb
            · rename_i hgn
              have hw : Region.wanted ops[i] (yielded ops a.tmps) = false := by simp [Region.wanted, hgd, gone_spec he hgn]
              rw [if_neg (by rw [hw]; simp)]
              exact skip hb
            · exact hb.elim
          · rename_i d b hgo
            obtain ⟨hd, hy⟩ := guardOf_some he hgo
            have hw : Region.wanted ops[i] (yielded ops a.tmps) = (b == want) := by simp [Region.wanted, hgd, hy]
            split at hb
            · rename_i e
              rw [if_pos (by rw [hw]; simp [e])]
              exact .inl (inr hb)
            · rename_i e
              rw [if_neg (by rw [hw]; simpa using e)]
              exact skip hb
      | false =>
      rw [hil] at hb
      simp only at hb
      unfold gres at hb
      cases hgd : (ops[i]).guard with
      | none =>
        rw [hgd] at hb
        have hw : Region.wanted ops[i] (yielded ops a.tmps) = true := by simp [Region.wanted, hgd]
        rw [if_pos hw]
        simp only at hb
        split at hb
        · exact .inl (run hb)
        · exact hb.elim
      | some jw =>
        obtain ⟨j, want⟩ := jw
        rw [hgd] at hb
        simp only at hb
        split at hb
        · split at hb
          · rename_i hgn
            have hw : Region.wanted ops[i] (yielded ops a.tmps) = false := by simp [Region.wanted, hgd, gone_spec he hgn]
            rw [if_neg (by rw [hw]; simp)]
            exact skip hb
          · exact hb.elim
        · rename_i d b hgo
          obtain ⟨hd, hy⟩ := guardOf_some he hgo
          have hw : Region.wanted ops[i] (yielded ops a.tmps) = (b == want) := by simp [Region.wanted, hgd, hy]
          split at hb
          · rename_i e
            rw [if_pos (by rw [hw]; simp [e])]
            split at hb
            · exact .inl (run hb)
            · exact hb.elim
          · rename_i e
            rw [if_neg (by rw [hw]; simpa using e)]
            exact skip hb
end
end Go.Lift

set_option linter.unusedVariables false
set_option linter.unusedSimpArgs false
set_option linter.unusedSectionVars false
namespace Go.Lift
structure LH where
  ls : List (Loc × CK)
  os : List (Nat × TypeId × K)
  dead : List Nat := []
structure Hn where
  loops : Nat → Option LH
  joins : Nat → Option LH
  binds : Nat → List Nat := fun _ => []
  inl : FuncId → Bool := fun _ => false
  unroll : Nat → Option Nat := fun _ => none
  named : Bool := false
def Hn.wk (hn : Hn) : Wk := ⟨hn.inl, hn.named⟩
def bindE : List Nat → List EV → (List EV → Prop) → Prop
  | [], env, k => k env
  | t :: ts, env, k => match env[t]? with
    | some (.x (.one (.val (.int ik n)))) => ∀ m : Int, m = n → bindE ts (env.set t (.x (.one (.val (.int ik m))))) k
    | some (.x (.one (.val (.bool n)))) => ∀ m : Bool, m = n → bindE ts (env.set t (.x (.one (.val (.bool m))))) k
    | some (.x (.one (.val (.float fk n)))) => ∀ m : Nat, m = n → bindE ts (env.set t (.x (.one (.val (.float fk m))))) k
    | _ => bindE ts env k
theorem set_self {α : Type} {l : List α} {t : Nat} {x : α} (h : l[t]? = some x) : l.set t x = l := by
  apply List.ext_getElem?
  intro i
  by_cases e : t = i
  · subst e; rw [set_eq h, h]
  · rw [set_ne e]
theorem bindE_out : ∀ {ts : List Nat} {env : List EV} {k : List EV → Prop}, bindE ts env k → k env
  | [], _, _, h => h
  | t :: ts, env, k, h => by
    simp only [bindE] at h
    split at h
    · rename_i ik n e; have := bindE_out (h n rfl); rwa [set_self e] at this
    · rename_i n e; have := bindE_out (h n rfl); rwa [set_self e] at this
    · rename_i fk n e; have := bindE_out (h n rfl); rwa [set_self e] at this
    · exact bindE_out h
def keyOf : Code → Option Nat
  | .region id _ _ => some id
  | .seq a b => match keyOf a with
    | some k => some k
    | none => keyOf b
  | .cond _ x y => match keyOf x with
    | some k => some k
    | none => keyOf y
  | .block _ c => keyOf c
  | .loop c => keyOf c
  | _ => none
def dsts : Code → List Nat
  | .region _ ops _ => ops.toList.filterMap (·.dst)
  | .seq a b => dsts a ++ dsts b
  | .cond _ x y => dsts x ++ dsts y
  | .block _ c => dsts c
  | .loop c => dsts c
  | _ => []
def refineE (env : List EV) (c : Operand) (b : Bool) : List EV := match c with
  | .tmp t => env.set t (.x (.one (.val (.bool b))))
  | _ => env
def boolOf : EV → Option Bool
  | .x (.one (.val (.bool b))) => some b
  | _ => none
def killL (ds : List Nat) (h : List HObj) : List HObj := ds.foldl (fun h id => h.set id .dead) h
def HIs (h h' : List HObj) : Prop := h = h'
def unr (body : List EV → List HObj → (Exit → List EV → List HObj → Prop) → Prop) : Nat → List EV → List HObj → (Exit → List EV → List HObj → Prop) → Prop
  | 0, _, _, _ => False
  | n + 1, env, h, k => body env h fun e env' h' => match e with
    | .normal => unr body n env' h' k
    | e => k e env' h'
def aeval (cx : Cx) (hn : Hn) (call : CallEv) : Code → List EV → List HObj → (Exit → List EV → List HObj → Prop) → Prop
  | .skip, env, h, k => k .normal env h
  | .label _, env, h, k => k .normal env h
  | .exit id, env, h, k => k (.exit id) env h
  | .ret, env, h, k => k .ret env h
  | .region id ops draw, env, h, k => match draw with
    | false => runOps cx hn.wk call ops ops.toList env (h ++ List.replicate (allocs cx ops.toList) .pend) h.length (fun env h => bindE (hn.binds id) env fun env => k .normal env h)
    | true => if drawOk cx hn.inl ops (mkAnc ops.toList) then
        runD hn.wk call cx ops h.length (mkAnc ops.toList) (mkW cx ops (mkAnc ops.toList) env) 0 ops.toList env (h ++ List.replicate (allocs cx ops.toList) .pend) h.length (fun env h => bindE (hn.binds id) env fun env => k .normal env h)
      else False
  | .seq a b, env, h, k => match (keyOf b).bind hn.joins with
    | none => aeval cx hn call a env h fun e env h => match e with
      | .normal => aeval cx hn call b env h k
      | e => k e env h
    | some l =>
      ∃ post : CS l.ls → OS l.os → Prop,
        aeval cx hn call a env h (fun e env' h' => match e with
          | .normal => Adopt h.length l.ls l.os ⟨env', h'⟩ fun h1 x y => HIs h1 (placeO l.os y (mask l.ls ⟨[], killL l.dead h⟩).heap) ∧ post x y
          | e => k e env' h') ∧
        ∀ x y, post x y → aeval cx hn call b (headSt h.length l.ls l.os (maskE (dsts a) env) (mask l.ls ⟨[], killL l.dead h⟩).heap x y).env
          (headSt h.length l.ls l.os (maskE (dsts a) env) (mask l.ls ⟨[], killL l.dead h⟩).heap x y).heap k
  | .cond c x y, env, h, k => match boolOf (cx.eval env c) with
    | some b => Br b (aeval cx hn call x (refineE env c true) h k) (aeval cx hn call y (refineE env c false) h k)
    | none => False
  | .block id c, env, h, k => aeval cx hn call c env h fun e env h => match e with
    | .exit id' => if id' = id then k .normal env h else k (.exit id') env h
    | e => k e env h
  | .loop c, env, h, k => match (keyOf c).bind hn.unroll with
    | some n => unr (fun env h k => aeval cx hn call c env h k) n env h k
    | none => match (keyOf c).bind hn.loops with
    | none => False
    | some l =>
      Adopt h.length l.ls l.os ⟨env, h⟩ fun h1 x0 y0 => HIs (placeO l.os y0 h1) h1 ∧
        ∃ (I : CS l.ls → OS l.os → Prop) (μ : CS l.ls → OS l.os → Nat), I x0 y0 ∧
          ∀ x y, I x y → aeval cx hn call c (headSt h.length l.ls l.os (maskE (dsts c) env) h1 x y).env (headSt h.length l.ls l.os (maskE (dsts c) env) h1 x y).heap fun e env' h' => match e with
            | .normal => Adopt h.length l.ls l.os ⟨env', h'⟩ fun h2 x' y' => HIs h2 (placeO l.os y' h1) ∧ I x' y' ∧ μ x' y' < μ x y
            | e => k e env' h'
  | _, _, _, _ => False
theorem Ext.pends {c : RC} (hi : c.Inv) (n : Nat) : Ext c { c with heap := c.heap ++ List.replicate n .pend } ∧ RC.Inv { c with heap := c.heap ++ List.replicate n .pend } := by
  have back : ∀ (i : Nat) (o : HObj), (c.heap ++ List.replicate n .pend)[i]? = some o → o.live → c.heap[i]? = some o := by
    intro i o h hl
    rw [List.getElem?_append] at h
    split at h
    · exact h
    · rw [List.getElem?_replicate] at h
      split at h
      · cases h; exact absurd hl (by simp [HObj.live, HObj.md?])
      · cases h
  have fwd : ∀ (i : Nat) (o : HObj), c.heap[i]? = some o → (c.heap ++ List.replicate n .pend)[i]? = some o := fun i o h => by
    rw [List.getElem?_append_left (get_lt h)]; exact h
  have E : Ext c { c with heap := c.heap ++ List.replicate n .pend } := {
    base := rfl, size := Nat.le_refl _, os := rfl, tape := rfl, output := rfl
    keep := fun _ _ _ => rfl
    cells := fun b vs t z h => ⟨vs, z, h, rfl, .inl rfl⟩
    blk := fun _ _ _ _ => rfl
    ev := fun i o h => ⟨o, fwd i o h, HObj.ev_refl o⟩
    fresh := fun i o' b h hl hold _ _ => absurd hl (hold o' (back i o' h hl)) }
  refine ⟨E, ?_⟩
  constructor
  · intro i o h
    by_cases hl : o.live
    · exact HObj.rel_mono E (back i o h hl) (fun _ _ _ => rfl) (hi.objs i o (back i o h hl))
    · cases o <;> first | trivial | exact absurd rfl hl
  · intro i j oi oj b h1 l1 h2 l2 b1 b2
    exact hi.inj i j oi oj b (back _ _ h1 l1) l1 (back _ _ h2 l2) l2 b1 b2
  · intro i o b h1 l1 b1
    exact hi.base i o b (back _ _ h1 l1) l1 b1
  · exact hi.basele
theorem Less.killL {c : RC} : ∀ (ms : List Nat) {h : List HObj}, Less c h → Less c (Lift.killL ms h)
  | [], h, hl => hl
  | id :: ms, h, hl => Less.killL ms (hl.dead id)
theorem placeO_below {n : Nat} : ∀ (os : List (Nat × TypeId × K)) (y : OS os) (h : List HObj), (∀ (id : Nat) (o : HObj), h[id]? = some o → o.below n) → ∀ (id : Nat) (o : HObj), (placeO os y h)[id]? = some o → o.below n
  | [], _, h, hb, id, o, ho => hb id o ho
  | (i, t, e) :: os, y, h, hb, id, o, ho => placeO_below os y.2 _ (fun j o hj => by
      rcases set_get hj with ⟨rfl, rfl, _⟩ | ⟨_, hj⟩
      · exact mkO_below _ _ _ _
      · exact hb j o hj) id o ho
theorem maskE_junk : ∀ (D : List Nat) (env : List EV) (t : Nat) (e : EV), (maskE D env)[t]? = some e → (t ∈ D ∧ e = .junk) ∨ env[t]? = some e
  | [], env, t, e, h => .inr h
  | d :: D, env, t, e, h => by
    rcases maskE_junk D (env.set d .junk) t e h with ⟨h1, h2⟩ | h1
    · exact .inl ⟨List.mem_cons_of_mem _ h1, h2⟩
    · rcases set_get h1 with ⟨rfl, rfl, _⟩ | ⟨_, h1⟩
      · exact .inl ⟨List.mem_cons_self, rfl⟩
      · exact .inr h1
theorem maskE_len : ∀ (D : List Nat) (env : List EV), (maskE D env).length = env.length
  | [], env => rfl
  | d :: D, env => by rw [show maskE (d :: D) env = maskE D (env.set d .junk) from rfl, maskE_len D]; simp
theorem keepE {c c' : RC} {D : List Nat} {env : List EV} {a a' : Act} (he : EnvRel c env a.tmps) (hx : Ext c c') (hk : Kp D a a') : EnvRel c' (maskE D env) a'.tmps := by
  refine ⟨by rw [maskE_len, he.1, hk.size], fun t e h => ?_⟩
  rcases maskE_junk D env t e h with ⟨h1, rfl⟩ | h1
  · have hl := get_lt h
    rw [maskE_len, he.1, ← hk.size] at hl
    exact ⟨a'.tmps[t], by simp [hl], trivial⟩
  · by_cases hd : t ∈ D
    · have hl := get_lt h1
      rw [he.1, ← hk.size] at hl
      have hj : ∀ (D : List Nat) (env : List EV), t ∈ D → t < env.length → (maskE D env)[t]? = some .junk := by
        intro D
        induction D with
        | nil => intro env h _; cases h
        | cons d D ih =>
          intro env h hl
          by_cases h2 : t ∈ D
          · exact ih (env.set d .junk) h2 (by simpa using hl)
          · have : t = d := by
              rcases List.mem_cons.1 h with h | h
              · exact h
              · exact absurd h h2
            subst this
            show (maskE D (env.set t .junk))[t]? = some .junk
            have h3 : (env.set t .junk)[t]? = some .junk := by rw [List.getElem?_set]; simp [hl]
            have key : ∀ (D : List Nat) (env : List EV), env[t]? = some .junk → (maskE D env)[t]? = some .junk := by
              intro D
              induction D with
              | nil => intro env h; exact h
              | cons d D ih =>
                intro env h
                refine ih _ ?_
                by_cases e : d = t
                · subst e; exact set_eq h
                · rw [set_ne e]; exact h
            exact key D _ h3
      rw [hj D env hd (get_lt h1)] at h
      cases h
      exact ⟨a'.tmps[t], by simp [hl], trivial⟩
    · obtain ⟨v, h2, h3⟩ := he.2 t e h1
      exact ⟨v, by rw [hk.get t hd]; exact h2, EV.rel_mono hx h3⟩
section
variable {P : Program} {cx : Cx} (hx : CxOk P cx) (hmix : P.follows .mixedOrders = true) (hn : Hn) {call : CallEv} (hcall : CallOk P cx call)
include hx hmix hcall
theorem region_sound (id : Nat) (ops : Array Oper) (draw : Bool) {D : List Nat} (hD : ∀ o ∈ ops.toList, ∀ t, o.dst = some t → t ∈ D) {c : RC} (hi : c.Inv) {env : List EV} {a : Act} (hg : GOk cx.glob c) (he : EnvRel c env a.tmps) {k : Exit → List EV → List HObj → Prop}
    (h : aeval cx hn call (.region id ops draw) env c.heap k) {Q : Exit → Act → World → Prop}
    (hq : ∀ (e : Exit) (c' : RC) (env' : List EV) (a' : Act), k e env' c'.heap → Ext c c' → c'.Inv → EnvRel c' env' a'.tmps → Kp D a a' → Q e a' c'.w) : (Code.region id ops draw).wp P Q a c.w := by
  obtain ⟨E1, I1⟩ := Ext.pends hi (allocs cx ops.toList)
  cases draw with
  | false =>
    simp only [aeval] at h
    refine wp_region ?_
    have := runOps_sound hx hcall ops ops.toList 0 (by simp) hD (c := { c with heap := c.heap ++ List.replicate (allocs cx ops.toList) .pend }) I1 (a := a) (GOk.mono hg E1) (EnvRel.mono he E1) (tgt := c.heap.length)
      (fun i hi => by simp [hi]) h (Q := Q) (fun c' env' a' h1 h2 h3 h4 h5 => hq .normal c' env' a' (bindE_out h1) (E1.trans h2) h3 h4 h5)
    rw [List.range_eq_range']
    simpa using this
  | true =>
    simp only [aeval] at h
    split at h
    · rename_i hd
      refine wp_region_any hmix ?_
      have E2 := E1.trans (Ext.grows (c := { c with heap := c.heap ++ List.replicate (allocs cx ops.toList) .pend }) (Grows.drew c.w))
      have I2 := RC.Inv.grows I1 (Grows.drew c.w)
      have hc := runD_chain (W := mkW cx ops (mkAnc ops.toList) env) (wk := hn.wk) (call := call) (cx := cx) (ops := ops) (base := c.heap.length) (A := mkAnc ops.toList) (k := fun env h => bindE (hn.binds id) env fun env => k .normal env h) ops.toList 0 c.heap.length (by simp) (by simp [tgAt, allocs]) env (c.heap ++ List.replicate (allocs cx ops.toList) .pend)
      have hc := hc ▸ h
      refine any_sound hx hcall ops c.heap.length (mkAnc ops.toList) (mkW cx ops (mkAnc ops.toList) env) hd (k := fun env h => bindE (hn.binds id) env fun env => k .normal env h) (c0 := c) (a0 := a) hD (fun c' env' a' h1 h2 h3 h4 h5 => hq .normal c' env' a' (bindE_out h1) h2 h3 h4 h5) ops.size (List.range' 0 ops.toList.length) _
        (c := { c with heap := c.heap ++ List.replicate (allocs cx ops.toList) .pend, w := c.w.drew }) I2 E2 (a := a) Kp.refl (GOk.mono hg E2) (EnvRel.mono he E2) (by simp) (by simp) ?_ ?_ ?_ ?_ hc
      · intro i
        simp only [List.mem_range', Array.getD_eq_getD_getElem?, Array.getElem?_replicate]
        constructor
        · rintro ⟨j, hj, rfl⟩
          have : 0 + 1 * j < ops.size := by simp at hj; omega
          exact ⟨this, by rw [if_pos this]; rfl⟩
        · rintro ⟨hlt, _⟩
          exact ⟨i, by simpa using hlt, by omega⟩
      · exact List.pairwise_lt_range'
      · intro i hi hl
        rw [getD_replicate_false] at hl; cases hl
      · intro i _ j hj
        have h1 : tgAt cx ops c.heap.length i + nAt cx ops i ≤ c.heap.length + allocs cx ops.toList := by
          rw [← tgAt_succ]
          unfold tgAt allocs
          have : ((ops.toList.take (i + 1)).map (nAlloc cx)).sum ≤ (ops.toList.map (nAlloc cx)).sum := by
            conv => rhs; rw [← List.take_append_drop (i + 1) ops.toList]
            rw [List.map_append, List.sum_append]; omega
          omega
        have h2 : c.heap.length ≤ tgAt cx ops c.heap.length i := by unfold tgAt; omega
        rw [List.getElem?_append_right (by omega), List.getElem?_replicate, if_pos (by omega)]
    · exact h.elim
theorem aeval_sound : ∀ (code : Code) {D : List Nat} (hD : ∀ t ∈ dsts code, t ∈ D) {c : RC} (hi : c.Inv) {env : List EV} {a : Act} (hg : GOk cx.glob c) (he : EnvRel c env a.tmps) {k : Exit → List EV → List HObj → Prop}
    (h : aeval cx hn call code env c.heap k) {Q : Exit → Act → World → Prop}
    (hq : ∀ (e : Exit) (c' : RC) (env' : List EV) (a' : Act), k e env' c'.heap → Ext c c' → c'.Inv → EnvRel c' env' a'.tmps → Kp D a a' → Q e a' c'.w), code.wp P Q a c.w := by
  intro code
  induction code with
  | skip => intro D hD c hi env a hg he k h Q hq; exact wp_skip (hq _ c env a h (Ext.refl c) hi he Kp.refl)
  | label l => intro D hD c hi env a hg he k h Q hq; exact wp_label (hq _ c env a h (Ext.refl c) hi he Kp.refl)
  | exit id => intro D hD c hi env a hg he k h Q hq; exact wp_exit (hq _ c env a h (Ext.refl c) hi he Kp.refl)
  | ret => intro D hD c hi env a hg he k h Q hq; exact wp_ret (hq _ c env a h (Ext.refl c) hi he Kp.refl)
  | region id ops draw =>
    intro D hD c hi env a hg he k h Q hq
    exact region_sound hx hmix hn hcall id ops draw (fun o ho t ht => hD t (List.mem_filterMap.2 ⟨o, ho, ht⟩)) hi hg he h hq
  | block id b ih =>
    intro D hD c hi env a hg he k h Q hq
    refine wp_block (ih hD hi hg he h fun e c' env' a' h1 h2 h3 h4 h5 => ?_)
    cases e with
    | exit id' =>
      simp only [Exit.inBlock] at h1 ⊢
      split
      · rename_i e; rw [if_pos e] at h1; exact hq _ c' env' a' h1 h2 h3 h4 h5
      · rename_i e; rw [if_neg e] at h1; exact hq _ c' env' a' h1 h2 h3 h4 h5
    | _ => exact hq _ c' env' a' h1 h2 h3 h4 h5
  | cond t x y ihx ihy =>
    intro D hD c hi env a hg he k h Q hq
    simp only [aeval] at h
    split at h
    · rename_i b hb
      have hv : a.eval t = .bool b := by
        have := eval_rel hg he t
        unfold boolOf at hb
        split at hb
        · rename_i b' he'; cases hb; rw [he'] at this; exact this
        · cases hb
      have hr : ∀ b', b = b' → EnvRel c (refineE env t b') a.tmps := by
        rintro b' rfl
        unfold refineE
        split
        · rename_i tm
          refine ⟨by simp [he.1], fun i e hi => ?_⟩
          rcases set_get hi with ⟨rfl, rfl, hl⟩ | ⟨_, hi⟩
          · refine ⟨a.tmps[tm]'(by rw [← he.1]; exact hl), by simp, ?_⟩
            have : a.tmps.getD tm undef = .bool b := hv
            simp only [Array.getD_eq_getD_getElem?] at this
            rw [Array.getElem?_eq_getElem (by rw [← he.1]; exact hl)] at this
            exact this
          · exact he.2 i e hi
        · exact he
      cases b with
      | true => exact wp_cond_true hv (ihx (fun t ht => hD t (List.mem_append_left _ ht)) hi hg (hr true rfl) (Br.true h rfl) hq)
      | false => exact wp_cond_false hv (ihy (fun t ht => hD t (List.mem_append_right _ ht)) hi hg (hr false rfl) (Br.false h rfl) hq)
    · exact h.elim
  | seq x y ihx ihy =>
    intro D hD c hi env a hg he k h Q hq
    have hDx : ∀ t ∈ dsts x, t ∈ D := fun t ht => hD t (List.mem_append_left _ ht)
    have hDy : ∀ t ∈ dsts y, t ∈ D := fun t ht => hD t (List.mem_append_right _ ht)
    have up : ∀ {a a' : Act}, Kp (dsts x) a a' → Kp D a a' := fun h => ⟨h.defers, h.size, fun t ht => h.get t fun hm => ht (hDx t hm)⟩
    simp only [aeval] at h
    split at h
    · refine wp_seq (ihx hDx hi hg he h fun e c' env' a' h1 h2 h3 h4 h5 => ?_)
      cases e with
      | normal => exact ihy hDy h3 (GOk.mono hg h2) h4 h1 (fun e c2 env2 a2 g1 g2 g3 g4 g5 => hq e c2 env2 a2 g1 (h2.trans g2) g3 g4 (g5.trans h5))
      | _ => exact hq _ c' env' a' h1 h2 h3 h4 h5
    · rename_i l hl
      obtain ⟨post, ha, hb⟩ := h
      have B1 : ∀ (t : Nat) (e : EV), (maskE (dsts x) env)[t]? = some e → e.below c.heap.length := by
        intro t e hte
        obtain ⟨v, _, hv⟩ := (maskE_rel (dsts x) he).2 t e hte
        exact EV.below_of hv
      have B2 : ∀ (id : Nat) (o : HObj), (mask l.ls ⟨[], killL l.dead c.heap⟩).heap[id]? = some o → o.below c.heap.length := by
        intro id o ho
        exact HObj.below_of ((mask_less l.ls (s := ⟨[], killL l.dead c.heap⟩) (Less.killL l.dead (Less.refl hi))).rel id o ho)
      refine wp_seq (ihx (D := dsts x) (fun t ht => ht) hi hg he ha fun e c' env' a' h1 h2 h3 h4 h5 => ?_)
      cases e with
      | normal =>
        obtain ⟨h1', x, y, ⟨rfl, hp⟩, _, hA⟩ := adopt_typed h3 h2 rfl h4 h1 (keepE he h2 h5)
        obtain ⟨c2, e1, e2, e3, e4, e5⟩ := hA B1 (placeO_below l.os y _ B2)
        have h6 := hb x y hp
        rw [show (headSt c.heap.length l.ls l.os (maskE (dsts _) env) (mask l.ls ⟨[], killL l.dead c.heap⟩).heap x y).heap = c2.heap from e4.symm] at h6
        have := ihy (a := a') hDy e2 (GOk.mono hg e3) e5 h6 (Q := Q) (fun e c3 env3 a3 g1 g2 g3 g4 g5 => hq e c3 env3 a3 g1 (e3.trans g2) g3 g4 (g5.trans (up h5)))
        rw [e1] at this
        exact this
      | _ => exact hq _ c' env' a' h1 h2 h3 h4 (up h5)
  | loop b ih =>
    intro D hD c hi env a hg he k h Q hq
    simp only [aeval] at h
    split at h
    · rename_i N hN
      have up : ∀ {a a' : Act}, Kp (dsts b) a a' → Kp D a a' := fun h => ⟨h.defers, h.size, fun t ht => h.get t fun hm => ht (hD t hm)⟩
      refine wp_loop_ghost (fun n a' w' => ∃ c' env', unr (fun env h k => aeval cx hn call b env h k) n env' c'.heap k ∧ c'.w = w' ∧ c'.Inv ∧ Ext c c' ∧ EnvRel c' env' a'.tmps ∧ Kp D a a') N ⟨c, env, h, rfl, hi, Ext.refl c, he, Kp.refl⟩ ?_
      rintro n a' w' ⟨c', env', hu, rfl, e2, e3, e5, e6⟩
      cases n with
      | zero => exact hu.elim
      | succ n =>
        refine ih (D := D) hD e2 (GOk.mono hg e3) e5 hu fun e c2 env2 a2 g1 g2 g3 g4 g5 => ?_
        cases e with
        | normal => exact ⟨n, Nat.lt_succ_self n, c2, env2, g1, rfl, g3, e3.trans g2, g4, g5.trans e6⟩
        | _ => exact hq _ c2 env2 a2 g1 (e3.trans g2) g3 g4 (g5.trans e6)
    split at h
    · exact h.elim
    · rename_i l hl
      have hE0 : EnvRel c (maskE (dsts b) env) a.tmps := maskE_rel (dsts b) he
      obtain ⟨h1, x0, y0, ⟨hpl, I, μ, h0, hstep⟩, hO1, hA⟩ := adopt_typed hi (Ext.refl c) rfl he h hE0
      have up : ∀ {a a' : Act}, Kp (dsts b) a a' → Kp D a a' := fun h => ⟨h.defers, h.size, fun t ht => h.get t fun hm => ht (hD t hm)⟩
      have B1 : ∀ (t : Nat) (e : EV), (maskE (dsts b) env)[t]? = some e → e.below c.heap.length := fun t e hte => by
        obtain ⟨v, _, hv⟩ := hE0.2 t e hte; exact EV.below_of hv
      have B2 : ∀ (id : Nat) (o : HObj), h1[id]? = some o → o.below c.heap.length := fun id o ho => HObj.below_of (hO1 id o ho)
      refine wp_loop_ghost (fun n a' w' => ∃ x y c', I x y ∧ μ x y = n ∧ c'.w = w' ∧ c'.Inv ∧ Ext c c' ∧ c'.heap = (headSt c.heap.length l.ls l.os (maskE (dsts b) env) h1 x y).heap ∧ EnvRel c' (headSt c.heap.length l.ls l.os (maskE (dsts b) env) h1 x y).env a'.tmps ∧ Kp (dsts b) a a') (μ x0 y0) ?_ ?_
      · obtain ⟨c', e1, e2, e3, e4, e5⟩ := hA B1 B2
        refine ⟨x0, y0, c', h0, rfl, e1, e2, e3, ?_, ?_, Kp.refl⟩
        · simp only [headSt, show placeO l.os y0 h1 = h1 from hpl]; exact e4
        · simp only [headSt, show placeO l.os y0 h1 = h1 from hpl]; exact e5
      · rintro n a' w' ⟨x, y, c', hI, rfl, rfl, e2, e3, e4, e5, e6⟩
        have h6 := hstep x y hI
        rw [← e4] at h6
        refine ih (D := dsts b) (fun t ht => ht) e2 (GOk.mono hg e3) e5 h6 fun e c2 env2 a2 g1 g2 g3 g4 g5 => ?_
        cases e with
        | normal =>
          obtain ⟨h3, x', y', ⟨rfl, hI', hlt⟩, _, hA'⟩ := adopt_typed g3 (e3.trans g2) rfl g4 g1 (keepE he (e3.trans g2) (g5.trans e6))
          obtain ⟨c3, f1, f2, f3, f4, f5⟩ := hA' B1 (placeO_below l.os y' _ B2)
          exact ⟨_, hlt, x', y', c3, hI', rfl, f1, f2, f3, f4, f5, g5.trans e6⟩
        | _ => exact hq _ c2 env2 a2 g1 (e3.trans g2) g3 g4 (up (g5.trans e6))
  | _ => intro D hD c hi env a hg he k h; exact h.elim
end
end Go.Lift

set_option linter.unusedVariables false
set_option linter.unusedSimpArgs false
set_option linter.unusedSectionVars false
namespace Go.Lift
def takeP (h : List HObj) : (k : K) → XV → Option k.T
  | .ptr e, .one (.ref id 0) => match h[id]? with
    | some (.box _ _ cs) => match e.takeL h cs with
      | some (y, []) => some (some y)
      | _ => none
    | _ => none
  | _, _ => none
def XV.takeX (h : List HObj) (k : K) (v : XV) : Option k.T := match v.take h k with
  | some x => some x
  | none => takeP h k v
theorem XV.takeX_repT {c : RC} (hi : c.Inv) {hh : List HObj} {p : Nat → Prop} (T : Tak c hh p) {k : K} {v : XV} {x : k.T} {u : Value} (h : v.takeX hh k = some x) (hr : v.rel c u) : KRep c.w p k x u := by
  unfold XV.takeX at h
  split at h
  · rename_i y hy
    obtain rfl := Option.some.inj h
    exact XV.take_repT hi T hy hr
  · unfold takeP at h
    split at h
    · rename_i e id _ _
      split at h
      · rename_i m t cs ho
        split at h
        · rename_i y hy
          obtain rfl := Option.some.inj h
          obtain ⟨ho', hP⟩ := T.box id m t cs ho
          have hr : SV.rel c (.ref id 0) u := hr
          simp only [SV.rel, ho'] at hr
          obtain ⟨b, hb, rfl⟩ := hr
          obtain ⟨b', vs, hb', hv, ha⟩ := hi.objs id _ ho'
          rw [hb] at hb'; cases hb'
          obtain ⟨v1, v2, e1, hrep, h2⟩ := K.takeL_repT hi T e cs vs.toList _ _ hy ha
          cases h2
          simp only [List.append_nil] at e1
          unfold KRep
          rw [if_neg (by simp [K.agg])]
          refine .inr ⟨y, b, 0, vs.toList, rfl, rfl, hP b hb (lt_of_some hv), by rw [e1]; exact hrep, fun j v hj => ?_⟩
          simp only [World.cell?, hv]
          simpa using hj
        · cases h
      · cases h
    · cases h
def out1 (h : List HObj) (v : XV) : (r : RK) → (r.T → Mvs → Prop) → Prop
  | .own t e, K => match v with
    | .one (.osl id off len) => match h[id]? with
      | some (.row .rw t' e' xs) => if q : e' = e then (if t' = t then (off = 0 ∧ len = List.length xs) ∧ K (q ▸ xs) [(some id, .row .rw t e (q ▸ xs))] else False) else False
      | _ => False
    | .one (.val v) => if isNilS v then K [] [(none, .row .rw t e [])] else False
    | .one .void => K [] [(none, .row .rw t e [])]
    | _ => False
  | .snap k, K => match k.flat with
    | true => (match v.take [] k with
      | some x => K x []
      | none => False)
    | false => (match v.takeX (hz h) k with
      | some x => K x []
      | none => False)
def ownIds (env : List EV) : List ResultVar → List RK → List Nat
  | .tmp t :: vars, .own _ _ :: rs => (match env[t]? with
    | some (.x (.one (.osl id _ _))) => [id]
    | _ => []) ++ ownIds env vars rs
  | _ :: vars, _ :: rs => ownIds env vars rs
  | _, _ => []
def frzB (ids : List Nat) : Nat → List HObj → List HObj
  | _, [] => []
  | i, .row .rw t e xs :: h => (if elemB i ids then .row .rw t e xs else .row .fz t e xs) :: frzB ids (i + 1) h
  | i, .box .rw t cs :: h => (if elemB i ids then .box .rw t cs else .box .fz t cs) :: frzB ids (i + 1) h
  | i, .mp .rw a b xs :: h => (if elemB i ids then .mp .rw a b xs else .mp .fz a b xs) :: frzB ids (i + 1) h
  | i, o :: h => o :: frzB ids (i + 1) h
theorem frzB_frz (ids : List Nat) : ∀ (h : List HObj) (i : Nat), Frz h (frzB ids i h)
  | [], i => Frz.refl _
  | o :: h, i => by
    obtain ⟨h1, h2⟩ := frzB_frz ids h (i + 1)
    have key : ∀ o' : HObj, HObj.Fz o o' → frzB ids i (o :: h) = o' :: frzB ids (i + 1) h → Frz (o :: h) (frzB ids i (o :: h)) := by
      intro o' hf e
      rw [e]
      refine ⟨by simp [h1], fun id q hq => ?_⟩
      cases id with
      | zero => simp only [List.getElem?_cons_zero, Option.some.injEq] at hq; subst hq; exact ⟨o', rfl, hf⟩
      | succ id => exact h2 id q hq
    cases o with
    | pend => exact key _ (.refl _) rfl
    | dead => exact key _ (.refl _) rfl
    | box m t cs => cases m with
      | rw =>
        by_cases q : elemB i ids = true
        · exact key _ (.refl _) (by simp [frzB, q])
        · exact key _ (.box t cs) (by simp [frzB, q])
      | lk => exact key _ (.refl _) rfl
      | fz => exact key _ (.refl _) rfl
    | row m t e xs => cases m with
      | rw =>
        by_cases q : elemB i ids = true
        · exact key _ (.refl _) (by simp [frzB, q])
        · exact key _ (.row t e xs) (by simp [frzB, q])
      | lk => exact key _ (.refl _) rfl
      | fz => exact key _ (.refl _) rfl
    | mp m a b xs => cases m with
      | rw =>
        by_cases q : elemB i ids = true
        · exact key _ (.refl _) (by simp [frzB, q])
        · exact key _ (.mp a b xs) (by simp [frzB, q])
      | lk => exact key _ (.refl _) rfl
      | fz => exact key _ (.refl _) rfl
def exitH (env : List EV) (vars : List ResultVar) (rs : List RK) (h : List HObj) : List HObj := match rs.all RK.flat with
  | true => h
  | false => frzB (ownIds env vars rs) 0 h
theorem exitH_frz (env : List EV) (vars : List ResultVar) (rs : List RK) (h : List HObj) : Frz h (exitH env vars rs h) := by
  unfold exitH
  split
  · exact Frz.refl _
  · exact frzB_frz _ _ _
def cellX (cx : Cx) (h : List HObj) (t : TypeId) (e : EV) (K : XV → Prop) : Prop := (opLoad cx h t e).wp fun ev _ => match ev with
  | .x v => K v
  | _ => False
def outs (cx : Cx) (env : List EV) (h : List HObj) : (vars : List ResultVar) → (rs : List RK) → (RS rs → Mvs → Prop) → Prop
  | [], [], K => K () []
  | .tmp t :: vars, r :: rs, K => match env[t]? with
    | some (.x v) => out1 h v r fun x m => outs cx env h vars rs fun y m' => K (x, y) (m ++ m')
    | _ => False
  | .cell a t :: vars, r :: rs, K => cellX cx h t (env.getD a .junk) fun v => out1 h v r fun x m => outs cx env h vars rs fun y m' => K (x, y) (m ++ m')
  | _, _, _ => False
def argsE : (ks : List K) → KS ks → List EV
  | [], _ => []
  | k :: ks, x => .x (XV.ofData k x.1) :: argsE ks x.2
def fnEvalI (cx : Cx) (hn : Hn) (call : CallEv) (nt : Nat) (vars : List ResultVar) (code : Code) (ks : List K) (rs : List RK) (x : KS ks) (post : RS rs → Prop) : Prop :=
  aeval cx hn call code (argsE ks x ++ List.replicate (nt - ks.length) (.x (.one .junk))) [] fun e env h => match e with
    | .normal | .ret => outs cx env (exitH env vars rs h) vars rs fun r m => if distB (srcs m) then post r else False
    | _ => False
def fnEval (cx : Cx) (hn : Hn) (nt : Nat) (vars : List ResultVar) (code : Code) (ks : List K) (rs : List RK) (x : KS ks) (post : RS rs → Prop) : Prop := fnEvalI cx hn noCall nt vars code ks rs x post
theorem argsE_rel {c : RC} {w : World} (hc : c.w = w) {ok : Nat → Prop} (hok : ∀ b, ok b → c.ok b) : ∀ (ks : List K) (x : KS ks) (vs : List Value), ArgsRep w ok ks x vs → All2 (EV.rel c) (argsE ks x) vs ∧ vs.length = ks.length
  | [], x, vs, h => by obtain rfl : vs = [] := h; exact ⟨.nil, rfl⟩
  | k :: ks, x, vs, h => by
    obtain ⟨v, r, rfl, h1, h2⟩ := h
    obtain ⟨h3, h4⟩ := argsE_rel hc hok ks x.2 r h2
    exact ⟨.cons (XV.ofData_rel (by rw [hc]; exact KRep.mono (fun b hb => ⟨hok b hb, rfl⟩) h1)) h3, by simp [h4]⟩
def OutOk (c : RC) (m : Mvs) (obs : List (Option Nat)) : Prop :=
  obs.length = m.length ∧ ∀ (i b : Nat), obs[i]? = some (some b) → ∃ id o, m[i]? = some (some id, o) ∧ c.heap[id]? = some o ∧ o.md? = some .rw ∧ c.blk id = some b
theorem OutOk.append {c : RC} {m m' : Mvs} {o o' : List (Option Nat)} (h : OutOk c m o) (h' : OutOk c m' o') : OutOk c (m ++ m') (o ++ o') := by
  refine ⟨by simp [h.1, h'.1], fun i b hi => ?_⟩
  rw [List.getElem?_append] at hi
  split at hi
  · rename_i hl
    obtain ⟨id, ob, h1, h2⟩ := h.2 i b hi
    exact ⟨id, ob, by rw [List.getElem?_append_left (get_lt h1)]; exact h1, h2⟩
  · rename_i hl
    obtain ⟨id, ob, h1, h2⟩ := h'.2 _ b hi
    exact ⟨id, ob, by rw [List.getElem?_append_right (by rw [← h.1]; omega), ← h.1]; exact h1, h2⟩
theorem out1_rep {c : RC} (hi : c.Inv) {w : World} (hb : w.heap.size ≤ c.base) {v : XV} {u : Value} (hr : v.rel c u) {r : RK} {K : r.T → Mvs → Prop} (h : out1 c.heap v r K) :
    ∃ x m obs, K x m ∧ OutOk c m obs ∧ ∀ fr : Nat → Prop, (∀ b, c.ok b → fr b) → Res1 w c.w fr r x u obs := by
  cases r with
  | snap k =>
    simp only [out1] at h
    split at h
    · rename_i hf
      split at h
      · rename_i x hx
        exact ⟨x, [], [], h, ⟨rfl, fun i b h => by simp at h⟩, fun fr _ => ⟨rfl, KRep.toflat hf (XV.take0_rep hx hr)⟩⟩
      · exact h.elim
    · split at h
      · rename_i x hx
        exact ⟨x, [], [], h, ⟨rfl, fun i b h => by simp at h⟩, fun fr hfr => ⟨rfl, (XV.takeX_repT hi (Tak.frozen hi) hx hr).mono fun b hb => ⟨hfr b hb, rfl⟩⟩⟩
      · exact h.elim
  | own t e =>
    simp only [out1] at h
    split at h
    · rename_i id off len
      split at h
      · rename_i t' e' xs ho
        split at h
        · rename_i q; subst q
          split at h
          · rename_i q; subst q
            obtain ⟨⟨rfl, rfl⟩, h⟩ := h
            simp only [XV.rel, SV.rel, ho] at hr
            obtain ⟨A, cap, rfl, r2, r3, r4⟩ := hr
            obtain ⟨o1, o2⟩ := hi.objs id _ ho
            by_cases hcap : cap = 0
            · have hx : xs = [] := List.eq_nil_of_length_eq_zero (by omega)
              exact ⟨xs, _, [none], h, ⟨rfl, fun i b h => by cases i <;> simp at h⟩, fun fr _ => ⟨o1, A, cap, rfl, r2, .inl ⟨hcap, hx, rfl⟩⟩⟩
            · rcases r4 with r4 | ⟨b, vs, g1, g2, g3, g4⟩
              · exact absurd r4 hcap
              · rcases o2 with ⟨o2, _⟩ | ⟨b', vs', fr, re, p1, p2, p3, p4⟩
                · rw [g1] at o2; cases o2
                · rw [g1] at p1; cases p1
                  rw [g3] at p2; cases p2
                  refine ⟨xs, _, [some b], h, ⟨rfl, fun i b' h => ?_⟩, fun fr hfr => ⟨o1, A, cap, rfl, r2, .inr ⟨b, vs, _, _, rfl, by simpa using g2, ?_, g3, p3, ?_, by simpa using g4⟩⟩⟩
                  · cases i with
                    | zero => simp at h; subst h; exact ⟨id, _, rfl, ho, rfl, g1⟩
                    | succ i => simp at h
                  · exact Nat.le_trans hb (hi.base id _ b ho rfl g1)
                  · exact p4.mono fun x cs r => Lift.K.rep_mono (fun b hb => ⟨hfr b hb, rfl⟩) _ _ _ r
          · exact h.elim
        · exact h.elim
      · exact h.elim
    · rename_i v
      split at h
      · rename_i hn
        obtain rfl : u = .slice none 0 0 := by rw [show u = v from hr]; exact isNilS_eq hn
        exact ⟨[], _, [none], h, ⟨rfl, fun i b h => by cases i <;> simp at h⟩, fun fr _ => ⟨by simp [maxN], none, 0, rfl, Nat.le_refl _, .inl ⟨rfl, rfl, rfl⟩⟩⟩
      · exact h.elim
    · obtain ⟨A, rfl⟩ := hr
      exact ⟨[], _, [none], h, ⟨rfl, fun i b h => by cases i <;> simp at h⟩, fun fr _ => ⟨by simp [maxN], A, 0, rfl, Nat.le_refl _, .inl ⟨rfl, rfl, rfl⟩⟩⟩
    · exact h.elim
def resVal (tmps : Array Value) : ResultVar → Sem Value
  | .tmp t => pure (tmps.getD t undef)
  | .cell a t => do loadVar t (← asAddr (tmps.getD a undef))
theorem cellX_run {P : Program} {cx : Cx} (hT : ∀ t d, cx.tab t = some d → d.Fits P t) {c : RC} (hi : c.Inv) {t : TypeId} {e : EV} {u : Value} (he : e.rel c u) {K : XV → Prop} (h : cellX cx c.heap t e K) :
    ∃ v x, K x ∧ x.rel c v ∧ (do loadVar t (← asAddr u) : Sem Value).run P c.w = .ok v c.w := by
  unfold cellX at h
  obtain ⟨v, ev, h1, h2, h3⟩ := opLoad_runQ hT hi (P := P) (u := u) h he
  cases ev with
  | tup _ => exact h2.elim
  | x x =>
    refine ⟨v, x, h2, h3, ?_⟩
    unfold Instr.loadAt Instr.sureAddr at h1
    split at h1
    · exact h1
    · simp [Sem.run_bind, stuck, Result.andThen] at h1
theorem outs_rep {P : Program} {cx : Cx} (hT : ∀ t d, cx.tab t = some d → d.Fits P t) {c : RC} (hi : c.Inv) {w : World} (hb : w.heap.size ≤ c.base) {env : List EV} {tmps : Array Value} (he : EnvRel c env tmps) : ∀ (vars : List ResultVar) (rs : List RK) {K : RS rs → Mvs → Prop}, outs cx env c.heap vars rs K →
    ∃ x m obs vs, K x m ∧ OutOk c m obs ∧ (∀ fr : Nat → Prop, (∀ b, c.ok b → fr b) → ResN w c.w fr rs x vs obs) ∧ (vars.mapM (resVal tmps)).run P c.w = Result.ok vs c.w
  | [], [], K, h => ⟨(), [], [], [], h, ⟨rfl, fun i b h => by simp at h⟩, fun _ _ => ⟨rfl, rfl⟩, by rw [List.mapM_nil]; rfl⟩
  | .tmp t :: vars, r :: rs, K, h => by
    simp only [outs] at h
    split at h
    · rename_i v hv
      obtain ⟨u, h1, h2⟩ := he.2 _ _ hv
      obtain ⟨x, m, obs, h3, h4, h5⟩ := out1_rep hi hb h2 h
      obtain ⟨y, m', obs', vs, g1, g2, g3, g4⟩ := outs_rep hT hi hb he vars rs h3
      refine ⟨(x, y), _, obs ++ obs', u :: vs, g1, h4.append g2, fun fr hfr => ⟨u, vs, obs, obs', rfl, rfl, h5 fr hfr, g3 fr hfr⟩, ?_⟩
      have hu : tmps.getD t undef = u := by simp [h1]
      rw [List.mapM_cons]
      simp only [resVal, Sem.run_bind, Sem.run_pure, hu, Result.andThen, g4]
    · exact h.elim
  | [], _ :: _, K, h => h.elim
  | .tmp _ :: _, [], K, h => h.elim
  | .cell a t :: vars, r :: rs, K, h => by
    simp only [outs] at h
    have hev : (env.getD a .junk).rel c (tmps.getD a undef) := by
      simp only [List.getD_eq_getElem?_getD, Array.getD_eq_getD_getElem?]
      cases hq : env[a]? with
      | none => trivial
      | some ev =>
        obtain ⟨u, h1, h2⟩ := he.2 a ev hq
        rw [h1]; exact h2
    obtain ⟨u, v, hk, h2, hrun⟩ := cellX_run hT hi (P := P) hev h
    obtain ⟨x, m, obs, h3, h4, h5⟩ := out1_rep hi hb h2 hk
    obtain ⟨y, m', obs', vs, g1, g2, g3, g4⟩ := outs_rep hT hi hb he vars rs h3
    refine ⟨(x, y), _, obs ++ obs', u :: vs, g1, h4.append g2, fun fr hfr => ⟨u, vs, obs, obs', rfl, rfl, h5 fr hfr, g3 fr hfr⟩, ?_⟩
    rw [List.mapM_cons]
    simp only [resVal]
    rw [Sem.run_bind, hrun]
    simp only [Result.andThen, Sem.run_bind, Sem.run_pure, g4]
  | .cell _ _ :: _, [], K, h => h.elim
theorem results_run {fn : Func} {vars : List ResultVar} (hf : fn.results = vars.toArray) {tmps : Array Value} {P : Program} {w : World} {vs : List Value} (h : (vars.mapM (resVal tmps)).run P w = Result.ok vs w) :
    ∃ v, v = (match (generalizing := false) vs with | [u] => u | _ => .tuple vs.toArray) ∧ (results fn tmps).run P w = Result.ok v w := by
  have e : results fn tmps = (do
      let vs ← List.toArray <$> vars.mapM (resVal tmps)
      pure (if h : vs.size = 1 then vs[0] else .tuple vs)) := by
    unfold results
    rw [hf, ← List.mapM_toArray]
    congr
  rw [e]
  simp only [map_eq_pure_bind, bind_assoc, pure_bind, Sem.run_bind, h, Result.andThen, Sem.run_pure]
  match vs with
  | [] => exact ⟨_, rfl, rfl⟩
  | [u] => exact ⟨_, rfl, rfl⟩
  | u :: v :: vs => exact ⟨_, rfl, by simp⟩
structure FnAt (P : Program) (f : FuncId) (nt : Nat) (vars : List ResultVar) (code : Code) : Prop where
  ex : ∃ fn, P.funcs[f]? = some fn ∧ fn.body = some code ∧ fn.ntmps = nt ∧ fn.results = vars.toArray ∧ (fn.name == "runtime.NumGoroutine") = false
theorem callFunc_run {P : Program} {f : FuncId} {fn : Func} {code : Code} (hf : P.funcs[f]? = some fn) (hb : fn.body = some code) (hn : (fn.name == "runtime.NumGoroutine") = false) (args : Array Value) (w : World) :
    (callFunc f args).run P w = .ok (.enter f args) w := by
  have hp : (Go.program).run P w = Result.ok P w := rfl
  unfold callFunc
  simp only [Sem.run_bind, hp, Result.andThen, hf, hn, hb, Option.isNone_some, Bool.false_eq_true, if_false, Sem.run_pure]
structure InFn where
  nt : Nat
  vars : List ResultVar
  code : Code
  hn : Hn
def resXs (cx : Cx) (env : List EV) (h : List HObj) : List ResultVar → (List XV → Prop) → Prop
  | [], K => K []
  | .tmp t :: vars, K => match env[t]? with
    | some (.x v) => resXs cx env h vars fun l => K (v :: l)
    | _ => False
  | .cell a t :: vars, K => cellX cx h t (env.getD a .junk) fun v => resXs cx env h vars fun l => K (v :: l)
def callCon (cx : Cx) : CallEv := fun f args h k => match cx.con f with
  | none => False
  | some con => (opCall cx (h ++ List.replicate con.n .pend) f args h.length).wp fun ev us => k ev (applyU (h ++ List.replicate con.n .pend) us)
def callLvl (cx : Cx) (fns : FuncId → Option InFn) : Nat → CallEv
  | 0 => callCon cx
  | n + 1 => fun f args h k => match fns f with
    | none => callCon cx f args h k
    | some fn => aeval cx fn.hn (callLvl cx fns n) fn.code (args ++ List.replicate (fn.nt - args.length) (.x (.one .junk))) h fun e env h' => match e with
      | .normal | .ret => resXs cx env h' fn.vars fun vs => k (EV.of vs) h'
      | _ => False
theorem resXs_run {P : Program} {cx : Cx} (hT : ∀ t d, cx.tab t = some d → d.Fits P t) {c : RC} (hi : c.Inv) {env : List EV} {tmps : Array Value} (he : EnvRel c env tmps) : ∀ (vars : List ResultVar) {K : List XV → Prop}, resXs cx env c.heap vars K →
    ∃ vs us, K vs ∧ All2 (XV.rel c) vs us ∧ (vars.mapM (resVal tmps)).run P c.w = Result.ok us c.w
  | [], K, h => ⟨[], [], h, .nil, by rw [List.mapM_nil]; rfl⟩
  | .tmp t :: vars, K, h => by
    simp only [resXs] at h
    split at h
    · rename_i v hv
      obtain ⟨u, h1, h2⟩ := he.2 _ _ hv
      obtain ⟨vs, us, g1, g2, g3⟩ := resXs_run hT hi he vars h
      refine ⟨v :: vs, u :: us, g1, .cons h2 g2, ?_⟩
      have hu : tmps.getD t undef = u := by simp [h1]
      rw [List.mapM_cons]
      simp only [resVal, Sem.run_bind, Sem.run_pure, hu, Result.andThen, g3]
    · exact h.elim
  | .cell a t :: vars, K, h => by
    simp only [resXs] at h
    have hev : (env.getD a .junk).rel c (tmps.getD a undef) := by
      simp only [List.getD_eq_getElem?_getD, Array.getD_eq_getD_getElem?]
      cases hq : env[a]? with
      | none => trivial
      | some ev =>
        obtain ⟨u, h1, h2⟩ := he.2 a ev hq
        rw [h1]; exact h2
    obtain ⟨u, v, hk, h2, hrun⟩ := cellX_run hT hi (P := P) hev h
    obtain ⟨vs, us, g1, g2, g3⟩ := resXs_run hT hi he vars hk
    refine ⟨v :: vs, u :: us, g1, .cons h2 g2, ?_⟩
    rw [List.mapM_cons]
    simp only [resVal]
    rw [Sem.run_bind, hrun]
    simp only [Result.andThen, Sem.run_bind, Sem.run_pure, g3]
theorem callCon_ok {P : Program} {cx : Cx} (hx : CxOk P cx) : CallOk P cx (callCon cx) := by
  intro c hi hg f args vs k hall h
  unfold callCon at h
  split at h
  · exact h.elim
  · rename_i con hcon
    obtain ⟨E1, I1⟩ := Ext.pends hi con.n
    have hp : ∀ i, i < (match cx.con f with | some con => con.n | none => 0) → (c.heap ++ List.replicate con.n HObj.pend)[c.heap.length + i]? = some .pend := fun i hi => by
      rw [hcon] at hi
      simp only at hi
      rw [List.getElem?_append_right (by omega), List.getElem?_replicate, if_pos (by omega)]
    let c1 : RC := { c with heap := c.heap ++ List.replicate con.n .pend }
    have hall1 : All2 (EV.rel c1) args vs := hall.mono fun _ _ r => EV.rel_mono E1 r
    have he : EnvRel c1 [] (⟨#[], []⟩ : Act).tmps := ⟨rfl, fun t ev h => by simp at h⟩
    have hs := opCall_spec (c := c1) hx I1 (GOk.mono hg E1) he hall1 hp h
    exact hs.mono (c := c1) hx I1 (GOk.mono hg E1) he fun v w' ⟨ev, us, c', g1, g2, g3, g4, g5, g6⟩ => ⟨ev, c', by rw [g3]; exact g1, g2, E1.trans g4, g5, g6⟩
theorem EV.of_rel {c : RC} {vs : List XV} {us : List Value} (h : All2 (XV.rel c) vs us) {v : Value} (hv : v = (match (generalizing := false) us with | [u] => u | _ => .tuple us.toArray)) : (EV.of vs).rel c v := by
  cases h with
  | nil => subst hv; exact ⟨#[], rfl, .nil⟩
  | cons h1 h2 =>
    cases h2 with
    | nil => subst hv; exact h1
    | cons h3 h4 => subst hv; exact ⟨_, rfl, .cons h1 (.cons h3 h4)⟩
def FnsOk (P : Program) (fns : FuncId → Option InFn) : Prop := ∀ f fn, fns f = some fn → FnAt P f fn.nt fn.vars fn.code
theorem enter_rel {c : RC} {args : List EV} {vs : List Value} (h : All2 (EV.rel c) args vs) (nt : Nat) : EnvRel c (args ++ List.replicate (nt - args.length) (.x (.one .junk))) (vs.toArray ++ Array.replicate (nt - vs.toArray.size) undef) := by
  refine ⟨by simp [h.len], fun t ev ht => ?_⟩
  rw [List.getElem?_append] at ht
  split at ht
  · rename_i hlt
    obtain ⟨v, g1, g2⟩ := h.get t ev ht
    refine ⟨v, ?_, g2⟩
    rw [Array.getElem?_append_left (by simpa [← h.len] using hlt)]
    simpa using g1
  · rename_i hge
    rw [List.getElem?_replicate] at ht
    split at ht
    · rename_i hlt
      cases ht
      have hl := h.len
      have : vs.toArray.size ≤ t := by simp; omega
      refine ⟨undef, ?_, trivial⟩
      rw [Array.getElem?_append_right this, Array.getElem?_replicate]
      have : t - vs.toArray.size < nt - vs.toArray.size := by
        simp at this ⊢; omega
      rw [if_pos this]
    · cases ht
theorem callLvl_ok {P : Program} {cx : Cx} (hx : CxOk P cx) (hmix : P.follows .mixedOrders = true) {fns : FuncId → Option InFn} (hf : FnsOk P fns) : ∀ n, CallOk P cx (callLvl cx fns n)
  | 0 => callCon_ok hx
  | n + 1 => by
    intro c hi hg f args vs k hall h
    simp only [callLvl] at h
    split at h
    · exact callCon_ok hx c hi hg hall h
    · rename_i fn hfn
      obtain ⟨fu, h1, h2, h3, h4, h5⟩ := (hf f fn hfn).ex
      refine .inr ⟨callFunc_run h1 h2 h5 _ _, calls_of_wp h1 h2 ?_⟩
      have hE := enter_rel hall fn.nt
      rw [← h3] at hE h
      refine aeval_sound hx hmix fn.hn (callLvl_ok hx hmix hf n) fn.code (D := dsts fn.code) (fun t h => h) hi (a := ⟨_, []⟩) hg hE h fun e c' env' a' k1 k2 k3 k4 k5 => ?_
      have fin : resXs cx env' c'.heap fn.vars (fun vs => k (EV.of vs) c'.heap) → a'.defers = [] ∧ ∃ v, (results fu a'.tmps).run P c'.w = .ok v c'.w ∧ ∃ u, Ending.returned v = Ending.returned u ∧ ∃ ev c2, k ev c2.heap ∧ c2.w = c'.w ∧ Ext c c2 ∧ c2.Inv ∧ ev.rel c2 u := by
        intro hr
        obtain ⟨xs, us, g1, g2, g3⟩ := resXs_run hx.1 k3 k4 fn.vars hr
        obtain ⟨v, ev, hv⟩ := results_run h4 g3
        exact ⟨k5.defers, v, hv, v, rfl, _, c', g1, rfl, k2, k3, EV.of_rel g2 ev⟩
      cases e with
      | normal => exact fin k1
      | ret => exact fin k1
      | _ => exact k1.elim
section
variable {P : Program} {cx : Cx} (hx : CxOk P cx) (hmix : P.follows .mixedOrders = true) (hn : Hn) {call : CallEv} (hcall : CallOk P cx call)
include hx hmix
include hcall in
theorem fn_specI {f : FuncId} {nt : Nat} {vars : List ResultVar} {code : Code} (hf : FnAt P f nt vars code) {ks : List K} {rs : List RK} {w : World} {ok : Nat → Prop} (hok0 : ∀ b, ok b → b < w.heap.size) {x : KS ks} {vs : List Value} (ha : ArgsRep w ok ks x vs) (hg : GW cx.glob w ok)
    {post : RS rs → Prop} (h : fnEvalI cx hn call nt vars code ks rs x post) : CallSpec P f vs.toArray w fun v w' => ∃ r, post r ∧ Grows w w' ∧ ResRep w w' ok rs r v := by
  obtain ⟨fn, h1, h2, h3, h4, h5⟩ := hf.ex
  refine .inr ⟨callFunc_run h1 h2 h5 _ _, calls_of_wp h1 h2 ?_⟩
  let c0 : RC := { w := w, heap := [], blk := fun _ => none, base := w.heap.size, inb := ok }
  have hown : ∀ b, ¬ c0.own b := by rintro b ⟨id, o, m, h, _⟩; simp [c0] at h
  have hok : ∀ b, ok b → c0.ok b := fun b hb => ⟨hok0 b hb, hown b, .inr hb⟩
  have hi : c0.Inv := ⟨fun id o h => by simp [c0] at h, fun i j oi oj b h => by simp [c0] at h, fun id o b h => by simp [c0] at h, Nat.le_refl _⟩
  have hG : GOk cx.glob c0 := fun g k y hgk => K.rep_mono (fun b hb => ⟨hok b hb, rfl⟩) (K.ptr k) _ _ (hg g k y hgk)
  obtain ⟨he, hl⟩ := argsE_rel (c := c0) rfl hok ks x vs ha
  have hE : EnvRel c0 (argsE ks x ++ List.replicate (nt - ks.length) (.x (.one .junk))) (vs.toArray ++ Array.replicate (fn.ntmps - vs.toArray.size) undef) := by
    refine ⟨by simp [he.len, h3, hl], fun t ev ht => ?_⟩
    rw [List.getElem?_append] at ht
    split at ht
    · rename_i hlt
      obtain ⟨v, g1, g2⟩ := he.get t ev ht
      refine ⟨v, ?_, g2⟩
      rw [Array.getElem?_append_left (by simpa [he.len] using hlt)]
      simpa using g1
    · rename_i hge
      rw [List.getElem?_replicate] at ht
      split at ht
      · rename_i hlt
        cases ht
        have : vs.toArray.size ≤ t := by simp [← he.len]; omega
        refine ⟨undef, ?_, trivial⟩
        rw [Array.getElem?_append_right this, Array.getElem?_replicate]
        have : t - vs.toArray.size < fn.ntmps - vs.toArray.size := by
          simp [h3, hl] at this ⊢
          have := he.len
          omega
        rw [if_pos this]
      · cases ht
  refine aeval_sound hx hmix hn hcall code (D := dsts code) (fun t h => h) hi (a := ⟨_, []⟩) hG hE h fun e c' env' a' k1 k2 k3 k4 k5 => ?_
  have fin : outs cx env' (exitH env' vars rs c'.heap) vars rs (fun r m => if distB (srcs m) then post r else False) → a'.defers = [] ∧ ∃ v, (results fn a'.tmps).run P c'.w = .ok v c'.w ∧ ∃ u, Ending.returned v = Ending.returned u ∧ ∃ r, post r ∧ Grows w c'.w ∧ ResRep w c'.w ok rs r u := by
    intro hout
    obtain ⟨E2, I2⟩ := Frz.ext k3 (exitH_frz env' vars rs c'.heap)
    obtain ⟨r, m, obs, us, g1, g2, g3, g4⟩ := outs_rep (c := { c' with heap := exitH env' vars rs c'.heap }) (w := w) hx.1 I2 (by show w.heap.size ≤ c'.base; rw [k2.base]; exact Nat.le_refl _) (EnvRel.mono k4 E2) vars rs hout
    split at g1
    · rename_i hd
      obtain ⟨v, ev, hv⟩ := results_run h4 g4
      refine ⟨k5.defers, v, hv, _, rfl, r, g1, ?_, us, obs, ev, ?_, g3 _ fun b hb => ?_⟩
      · exact ⟨k2.size, k2.os, k2.tape, k2.output, fun b hb => k2.keep b hb (fun hw => hown b hw.own)⟩
      · intro i j b hb1 hb2
        obtain ⟨id1, o1, p1, p2, p3, p4⟩ := g2.2 i b hb1
        obtain ⟨id2, o2, q1, q2, q3, q4⟩ := g2.2 j b hb2
        have := I2.inj id1 id2 o1 o2 b p2 (HObj.live_of_md p3) q2 (HObj.live_of_md q3) p4 q4
        subst this
        exact srcs_dist hd i j id1 o1 o2 p1 q1
      · obtain ⟨b1, b2, b3⟩ := hb
        rcases b3 with b3 | b3
        · refine .inl ⟨by have := b3; rw [show RC.base { c' with heap := exitH env' vars rs c'.heap } = c0.base from k2.base] at this; exact this, b1, fun hm => b2 ?_⟩
          obtain ⟨i, hi'⟩ := List.mem_iff_getElem?.1 hm
          obtain ⟨id1, o1, p1, p2, p3, p4⟩ := g2.2 i b hi'
          exact ⟨id1, o1, .rw, p2, p3, by simp, p4⟩
        · exact .inr (by rw [show RC.inb { c' with heap := exitH env' vars rs c'.heap } = c0.inb from k2.inb] at b3; exact b3)
    · exact g1.elim
  cases e with
  | normal => exact fin k1
  | ret => exact fin k1
  | _ => exact k1.elim
theorem fn_spec {f : FuncId} {nt : Nat} {vars : List ResultVar} {code : Code} (hf : FnAt P f nt vars code) {ks : List K} {rs : List RK} {w : World} {ok : Nat → Prop} (hok0 : ∀ b, ok b → b < w.heap.size) {x : KS ks} {vs : List Value} (ha : ArgsRep w ok ks x vs) (hg : GW cx.glob w ok)
    {post : RS rs → Prop} (h : fnEval cx hn nt vars code ks rs x post) : CallSpec P f vs.toArray w fun v w' => ∃ r, post r ∧ Grows w w' ∧ ResRep w w' ok rs r v := fn_specI hx hmix hn noCall_ok hf hok0 ha hg h
theorem det_holds {f : FuncId} {nt : Nat} {vars : List ResultVar} {code : Code} (hf : FnAt P f nt vars code) {ks : List K} {rs : List RK} {pre : KS ks → Prop} {g : KS ks → RS rs}
    (h : ∀ x, pre x → fnEval cx hn nt vars code ks rs x (fun r => r = g x)) : (Con.det ks rs pre g).holds P cx.glob f := by
  intro w ok hok x vs ha hg hp
  have := fn_spec hx hmix hn hf hok ha hg (h x hp)
  rcases this with ⟨v, w', h1, r, rfl, h2⟩ | ⟨h1, h2⟩
  · exact .inl ⟨v, w', h1, h2⟩
  · exact .inr ⟨h1, h2.mono fun e w' => by rintro ⟨v, e1, r, rfl, h3⟩; exact ⟨v, e1, h3⟩⟩
end
end Go.Lift

set_option linter.unusedVariables false
namespace Go.Lift
def K.wf : (k : K) → k.T → Prop
  | .pair a b, x => a.wf x.1 ∧ b.wf x.2
  | .arr n e, xs => List.length xs = n ∧ ∀ x, List.Mem (α := e.T) x xs → e.wf x
  | .slice e, xs => List.length xs ≤ maxN ∧ ∀ x, List.Mem (α := e.T) x xs → e.wf x
  | .ptr e, p => ∀ x, p = some x → e.wf x
  | _, _ => True
theorem Rows.mem {α : Type} {R : α → List Value → Prop} : ∀ {xs : List α} {cs : List Value}, Rows R xs cs → ∀ x, List.Mem x xs → ∃ c, R x c
  | [], _, _, x, hx => by cases hx
  | y :: xs, cs, h, x, hx => by
    obtain ⟨c1, c2, rfl, h1, h2⟩ := h
    cases hx with
    | head => exact ⟨c1, h1⟩
    | tail _ hx => exact Rows.mem h2 x hx
theorem K.rep_wf {w : World} {ok : Nat → Prop} : ∀ (k : K) (x : k.T) (cs : List Value), k.rep w ok x cs → k.wf x := by
  intro k
  induction k with
  | pair a b iha ihb => intro x cs h; obtain ⟨c1, c2, rfl, h1, h2⟩ := h; exact ⟨iha _ _ h1, ihb _ _ h2⟩
  | arr n e ih => intro xs cs h; exact ⟨h.1, fun x hx => let ⟨c, hc⟩ := Rows.mem h.2 x hx; ih x c hc⟩
  | slice e ih =>
    intro xs cs h
    obtain ⟨A, cap, rfl, h1, h2, h3⟩ := h
    refine ⟨h2, fun x hx => ?_⟩
    rcases h3 with h3 | ⟨b, off, vs, _, _, h4, _⟩
    · have e0 : (xs : List e.T) = [] := h3
      rw [e0] at hx; cases hx
    · obtain ⟨c, hc⟩ := Rows.mem h4 x hx; exact ih x c hc
  | ptr e ih =>
    intro p cs h x hx
    rcases h with ⟨h1, _⟩ | ⟨y, b, off, vs, h1, _, _, h2, _⟩
    · rw [h1] at hx; cases hx
    · rw [h1] at hx; cases hx; exact ih _ _ h2
  | _ => intro x cs h; trivial
theorem KRep.wf {w : World} {ok : Nat → Prop} {k : K} {x : k.T} {v : Value} (h : KRep w ok k x v) : k.wf x := by
  unfold KRep at h
  split at h
  · obtain ⟨vs, _, h⟩ := h; exact K.rep_wf _ _ _ h
  · exact K.rep_wf _ _ _ h
def KS.wf : (ks : List K) → KS ks → Prop
  | [], _ => True
  | k :: ks, x => k.wf x.1 ∧ KS.wf ks x.2
theorem ArgsRep.wf {w : World} {ok : Nat → Prop} : ∀ (ks : List K) (x : KS ks) (vs : List Value), ArgsRep w ok ks x vs → KS.wf ks x
  | [], _, _, _ => trivial
  | k :: ks, x, vs, h => by obtain ⟨v, r, rfl, h1, h2⟩ := h; exact ⟨h1.wf, ArgsRep.wf ks x.2 r h2⟩
section
variable {P : Program} {cx : Cx} (hx : CxOk P cx) (hmix : P.follows .mixedOrders = true) (hn : Hn)
include hx hmix
theorem det_holds_wf {f : FuncId} {nt : Nat} {vars : List ResultVar} {code : Code} (hf : FnAt P f nt vars code) {ks : List K} {rs : List RK} {pre : KS ks → Prop} {g : KS ks → RS rs}
    (h : ∀ x, pre x → KS.wf ks x → fnEval cx hn nt vars code ks rs x (fun r => r = g x)) : (Con.det ks rs pre g).holds P cx.glob f := by
  intro w ok hok x vs ha hg hp
  rcases fn_spec hx hmix hn hf hok ha hg (h x hp ha.wf) with ⟨v, w', h1, r, rfl, h2⟩ | ⟨h1, h2⟩
  · exact .inl ⟨v, w', h1, h2⟩
  · exact .inr ⟨h1, h2.mono fun e w' => by rintro ⟨v, e1, r, rfl, h3⟩; exact ⟨v, e1, h3⟩⟩
theorem rel_holdsI {call : CallEv} (hcall : CallOk P cx call) {f : FuncId} {nt : Nat} {vars : List ResultVar} {code : Code} (hf : FnAt P f nt vars code) {ks : List K} {rs : List RK} {pre : KS ks → Prop} {post : KS ks → RS rs → Prop} {ne : ∀ a, pre a → ∃ r, post a r}
    (h : ∀ x, pre x → KS.wf ks x → fnEvalI cx hn call nt vars code ks rs x (post x)) : (Con.rel ks rs pre post ne).holds P cx.glob f := by
  intro w ok hok x vs ha hg hp
  exact fn_specI hx hmix hn hcall hf hok ha hg (h x hp ha.wf)
theorem det_holdsI_wf {call : CallEv} (hcall : CallOk P cx call) {f : FuncId} {nt : Nat} {vars : List ResultVar} {code : Code} (hf : FnAt P f nt vars code) {ks : List K} {rs : List RK} {pre : KS ks → Prop} {g : KS ks → RS rs}
    (h : ∀ x, pre x → KS.wf ks x → fnEvalI cx hn call nt vars code ks rs x (fun r => r = g x)) : (Con.det ks rs pre g).holds P cx.glob f := by
  intro w ok hok x vs ha hg hp
  rcases fn_specI hx hmix hn hcall hf hok ha hg (h x hp ha.wf) with ⟨v, w', h1, r, rfl, h2⟩ | ⟨h1, h2⟩
  · exact .inl ⟨v, w', h1, h2⟩
  · exact .inr ⟨h1, h2.mono fun e w' => by rintro ⟨v, e1, r, rfl, h3⟩; exact ⟨v, e1, h3⟩⟩
theorem detP {f : FuncId} {nt : Nat} {vars : List ResultVar} {code : Code} (hf : FnAt P f nt vars code) {ks : List K} {rs : List RK} {pre : KS ks → Prop} {g : KS ks → RS rs}
    {F : KS ks → (RS rs → Prop) → Prop} (he : ∀ x post, fnEval cx hn nt vars code ks rs x post = F x post) (h : ∀ x, pre x → KS.wf ks x → F x (fun r => r = g x)) : (Con.det ks rs pre g).holds P cx.glob f :=
  det_holds_wf hx hmix hn hf fun x hp hw => (he x _).mpr (h x hp hw)
theorem relP {f : FuncId} {nt : Nat} {vars : List ResultVar} {code : Code} (hf : FnAt P f nt vars code) {ks : List K} {rs : List RK} {pre : KS ks → Prop} {post : KS ks → RS rs → Prop} {ne : ∀ a, pre a → ∃ r, post a r}
    {F : KS ks → (RS rs → Prop) → Prop} (he : ∀ x post, fnEval cx hn nt vars code ks rs x post = F x post) (h : ∀ x, pre x → KS.wf ks x → F x (post x)) : (Con.rel ks rs pre post ne).holds P cx.glob f :=
  rel_holdsI hx hmix hn noCall_ok hf fun x hp hw => (he x _).mpr (h x hp hw)
theorem detPI {call : CallEv} (hcall : CallOk P cx call) {f : FuncId} {nt : Nat} {vars : List ResultVar} {code : Code} (hf : FnAt P f nt vars code) {ks : List K} {rs : List RK} {pre : KS ks → Prop} {g : KS ks → RS rs}
    {F : KS ks → (RS rs → Prop) → Prop} (he : ∀ x post, fnEvalI cx hn call nt vars code ks rs x post = F x post) (h : ∀ x, pre x → KS.wf ks x → F x (fun r => r = g x)) : (Con.det ks rs pre g).holds P cx.glob f :=
  det_holdsI_wf hx hmix hn hcall hf fun x hp hw => (he x _).mpr (h x hp hw)
end
def Con.nam (ks : List K) (rs : List RK) (pre : KS ks → Prop) (f : KS ks → RS rs) : Con := .rel ks rs pre (fun x r => r = f x) fun a _ => ⟨f a, rfl⟩
theorem nam_of_det {P : Program} {G : Globs} {f : FuncId} {ks : List K} {rs : List RK} {pre : KS ks → Prop} {g : KS ks → RS rs} (h : (Con.det ks rs pre g).holds P G f) : (Con.nam ks rs pre g).holds P G f := by
  intro w ok hok x vs ha hg hp
  rcases h w ok hok x vs ha hg hp with ⟨v, w', h1, h2⟩ | ⟨h1, h2⟩
  · exact .inl ⟨v, w', h1, g x, rfl, h2⟩
  · exact .inr ⟨h1, h2.mono fun e w' => by rintro ⟨v, e1, h3⟩; exact ⟨v, e1, g x, rfl, h3⟩⟩
end Go.Lift

set_option linter.unusedVariables false
set_option linter.unusedSimpArgs false
namespace Go.Lift
def K.rng : (k : K) → k.T → Prop
  | .int k, n => (Lit.int k n).wf = true
  | .flt k, b => (Lit.float k b).wf = true
  | .pair a b, x => a.rng x.1 ∧ b.rng x.2
  | .arr n e, xs => ∀ x, List.Mem (α := e.T) x xs → e.rng x
  | .slice e, xs => (∀ x, List.Mem (α := e.T) x xs → e.rng x)
  | _, _ => True
mutual
inductive KT (P : Program) : TypeId → K → Prop
  | int {t : TypeId} {k : IntKind} : P.underlying t = some (.int k) → KT P t (.int k)
  | flt {t : TypeId} {k : FloatKind} : P.underlying t = some (.float k) → KT P t (.flt k)
  | bool {t : TypeId} : P.underlying t = some .bool → KT P t .bool
  | slice {t te : TypeId} {e : K} : P.underlying t = some (.slice te) → P.cellsOf te = e.sz → 0 < e.sz → 1 ≤ P.bytesOf te → KT P te e → KT P t (.slice e)
  | arr {t te : TypeId} {n : Nat} {e : K} : P.underlying t = some (.array n te) → P.cellsOf te = e.sz → P.cellsOf t = n * e.sz → KT P te e → KT P t (.arr n e)
  | struct {t : TypeId} {fs : Array Field} {a b : K} : P.underlying t = some (.struct fs) → P.cellsOf t = (K.pair a b).sz → KFs P fs.toList 0 (.pair a b) → KT P t (.pair a b)
inductive KFs (P : Program) : List Field → Nat → K → Prop
  | one {f : Field} {off : Nat} {k : K} : f.offset = off → P.cellsOf f.type = k.sz → KT P f.type k → KFs P [f] off k
  | cons {f : Field} {fs : List Field} {off : Nat} {a b : K} : f.offset = off → P.cellsOf f.type = a.sz → KT P f.type a → KFs P fs (off + a.sz) b → KFs P (f :: fs) off (.pair a b)
end
theorem range_mapM {β : Type} (f : Nat → Option β) : ∀ (n : Nat) (l : List β), (List.range n).mapM f = some l → l.length = n ∧ ∀ i, i < n → ∃ b, l[i]? = some b ∧ f i = some b := by
  intro n l h
  have h2 : ∀ (is : List Nat) (l : List β), is.mapM f = some l → l.length = is.length ∧ ∀ (j i : Nat), is[j]? = some i → ∃ b, l[j]? = some b ∧ f i = some b := by
    intro is
    induction is with
    | nil => intro l h; rw [List.mapM_nil] at h; cases h; exact ⟨rfl, fun j i h => by simp at h⟩
    | cons i is ih =>
      intro l h
      rw [List.mapM_cons] at h
      cases hf : f i with
      | none => rw [hf] at h; cases h
      | some b =>
        rw [hf] at h
        cases hm : is.mapM f with
        | none => rw [hm] at h; cases h
        | some l' =>
          rw [hm] at h
          cases h
          obtain ⟨h1, h2⟩ := ih l' hm
          refine ⟨by simp [h1], fun j i' hj => ?_⟩
          cases j with
          | zero => simp at hj; subst hj; exact ⟨b, rfl, hf⟩
          | succ j => simpa using h2 j i' (by simpa using hj)
  obtain ⟨h3, h4⟩ := h2 _ _ h
  exact ⟨by simpa using h3, fun i hi => h4 i i (by simp [hi])⟩
theorem rows_of {α : Type} {R : α → List Value → Prop} {G : α → Prop} {C : Nat → Value → Prop} {s : Nat} : ∀ (n : Nat), (∀ i, i < n → ∃ x cs, R x cs ∧ G x ∧ cs.length = s ∧ ∀ j v, cs[j]? = some v → C (i * s + j) v) →
    ∃ (xs : List α) (vs : List Value), xs.length = n ∧ Rows R xs vs ∧ vs.length = n * s ∧ (∀ x, List.Mem x xs → G x) ∧ ∀ j v, vs[j]? = some v → C j v
  | 0, _ => ⟨[], [], rfl, rfl, by simp, (fun x h => nomatch h), fun j v h => by simp at h⟩
  | n + 1, h => by
    obtain ⟨xs, vs, h1, h2, h3, h4, h5⟩ := rows_of n fun i hi => h i (by omega)
    obtain ⟨x, cs, g1, g2, g3, g4⟩ := h n (by omega)
    refine ⟨xs ++ [x], vs ++ cs, by simp [h1], Rows.append h2 ⟨cs, [], by simp, g1, rfl⟩, by simp [h3, g3, Nat.add_mul], ?_, ?_⟩
    · intro y hy
      rcases List.mem_append.1 hy with hy | hy
      · exact h4 y hy
      · cases hy with
        | head => exact g2
        | tail _ hy => cases hy
    · intro j v hv
      rw [List.getElem?_append] at hv
      split at hv
      · exact h5 j v hv
      · rename_i hl
        have := g4 (j - vs.length) v hv
        rwa [show n * s + (j - vs.length) = j by omega] at this
theorem cells_at {w : World} {b : Nat} {a : Addr} {n : Nat} {cs : List Value} (h : w.cells? b a n = some cs) : cs.length = n ∧ ∀ j v, cs[j]? = some v → w.cell? (a.add j) = some v := by
  unfold World.cells? at h
  split at h
  · obtain ⟨h1, h2⟩ := range_mapM _ _ _ h
    refine ⟨h1, fun j v hv => ?_⟩
    obtain ⟨v', h3, h4⟩ := h2 j (by rw [← h1]; exact (List.getElem?_eq_some_iff.1 hv).1)
    rw [hv] at h3; cases h3; exact h4
  · cases h
theorem cell_spot {w : World} {a : Addr} {v : Value} (h : w.cell? a = some v) : a.spot = none ∧ a.block < w.heap.size := by
  unfold World.cell? at h
  split at h
  · rename_i hh
    split at h
    · cases h
    · rename_i hs
      exact ⟨by simpa using hs, lt_of_some hh⟩
  · cases h
theorem mem_weightsAll {H : Type} {P : Program} {e : TypeId} {d : DataW H} : ∀ {l : List (DataW H)}, d ∈ l → ∀ m ∈ d.weights P e, m ∈ DataW.weightsAll P e l
  | x :: l, h, m, hm => by
    simp only [DataW.weightsAll, List.mem_append]
    rcases List.mem_cons.1 h with rfl | h
    · exact .inl hm
    · exact .inr (mem_weightsAll h m hm)
section
variable {H : Type} {enc : TypeId × Value → H} {P : Program} {w : World}
def Reached (P : Program) (t : TypeId) (d : DataW H) : Prop := ∀ m ∈ d.weights P t, m ≤ reachBytes
theorem trod_flt {held : Bool} {t : TypeId} {k : FloatKind} {fuel : Nat} {cs : List Value} {x : DataW H × List MemPlace} (ht : P.underlying t = some (.float k)) (h : DataW.trod enc P w 0 (fun _ => true) held fuel t cs = some x) :
    ∃ b, cs = [.float k b] ∧ (Lit.float k b).wf = true := by
  cases fuel with
  | zero => simp [DataW.trod] at h
  | succ n =>
    unfold DataW.trod at h
    rw [ht] at h
    split at h <;> simp_all
mutual
theorem trod_rep {held : Bool} : ∀ {t : TypeId} {k : K} (hk : KT P t k) {fuel : Nat} {cs : List Value} {x : DataW H × List MemPlace}, DataW.trod enc P w 0 (fun _ => true) held fuel t cs = some x → Reached P t x.1 →
    ∃ x : k.T, k.rep w (fun b => b < w.heap.size) x cs ∧ k.rng x
  | _, _, .int (k := k) ht, fuel, cs, x, h, hr => by
    obtain ⟨n, h1, _, h2⟩ := DataW.trod_int ht h
    exact ⟨n, h1, h2⟩
  | t, _, .flt (k := k) ht, fuel, cs, x, h, hr => by
    obtain ⟨b, h1, h2⟩ := trod_flt ht h
    exact ⟨b, h1, h2⟩
  | _, _, .bool ht, fuel, cs, x, h, hr => by
    obtain ⟨b, h1, _⟩ := DataW.trod_bool ht h
    exact ⟨b, h1, trivial⟩
  | t, _, .slice (te := te) (e := e) ht hc hp hb he, fuel, cs, x, h, hr => by
    rcases DataW.trod_slice ht h with ⟨rfl, rfl⟩ | ⟨a, len, cap, elems, rest, n, rfl, rfl, rfl, h1, h2, h3, h4, h5, h6, h7⟩
    · exact ⟨[], ⟨none, 0, rfl, Nat.le_refl _, Nat.zero_le _, .inl rfl⟩, (fun y h => nomatch h)⟩
    · have hlen : len ≤ maxN := by
        have : (elems.length + rest.length) * P.bytesOf te ≤ reachBytes := hr _ (by simp only [DataW.weights, ht]; simp)
        have h8 : elems.length * 1 ≤ (elems.length + rest.length) * P.bytesOf te := Nat.mul_le_mul (by omega) hb
        unfold reachBytes at this
        unfold maxN
        omega
      rw [hc] at h5
      obtain ⟨xs, vs, g1, g2, g3, g4, g5⟩ := rows_of (R := e.rep w (fun b => b < w.heap.size)) (G := e.rng) (C := fun j v => w.cell? (a.add j) = some v) (s := e.sz) len (fun i hi => by
        have h8 := h5 i hi
        rw [List.getElem?_eq_getElem (by omega)] at h8
        obtain ⟨cs, h9, h10⟩ := Option.bind_eq_some_iff.1 h8
        obtain ⟨hl, hat⟩ := cells_at h9
        obtain ⟨y, h11, h12⟩ := trod_rep he h10 (fun m hm => hr m (by
          simp only [DataW.weights, ht, List.mem_cons, List.mem_append]
          exact .inr (.inl (mem_weightsAll (List.mem_map.2 ⟨_, List.getElem_mem _, rfl⟩) m hm))))
        refine ⟨y, cs, h11, h12, hl, fun j v hj => ?_⟩
        have := hat j v hj
        rw [show a.add (i * e.sz + j) = (a.add (i * e.sz)).add j by
          unfold Addr.add
          by_cases e1 : i * e.sz = 0
          · rw [if_pos e1, e1]; simp
          · by_cases e2 : j = 0
            · subst e2; simp
            · rw [if_neg e1, if_neg (by omega), if_neg e2]; simp; omega]
        exact this)
      refine ⟨xs, ⟨some a, cap, by rw [← g1], by show List.length xs ≤ cap; omega, by show List.length xs ≤ maxN; omega, ?_⟩, g4⟩
      by_cases hx : len = 0
      · exact .inl (List.eq_nil_of_length_eq_zero (by omega))
      · have hv0 : 0 < vs.length := by rw [g3]; exact Nat.mul_pos (by omega) hp
        have hc0 := g5 0 _ (List.getElem?_eq_getElem hv0)
        have ha0 : a.add 0 = a := rfl
        rw [ha0] at hc0
        obtain ⟨s1, s2⟩ := cell_spot hc0
        obtain ⟨ab, ao, asp⟩ := a
        obtain rfl : asp = none := s1
        refine .inr ⟨ab, ao, vs, rfl, s2, g2, fun j v hj => ?_⟩
        have := g5 j v hj
        unfold Addr.add at this
        by_cases e : j = 0
        · subst e; exact this
        · rw [if_neg e] at this; exact this
  | t, _, .arr (te := te) (n := n) (e := e) ht hc hs he, fuel, cs, x, h, hr => by
    obtain ⟨xs, m, rfl, rfl, h1, h2, h3⟩ := DataW.trod_array ht h
    rw [hc] at h3
    rw [hs] at h1
    obtain ⟨ys, vs, g1, g2, g3, g4, g5⟩ := rows_of (R := e.rep w (fun b => b < w.heap.size)) (G := e.rng) (C := fun j v => cs[j]? = some v) (s := e.sz) n (fun i hi => by
      have h8 := h3 i hi
      rw [List.getElem?_eq_getElem (by omega)] at h8
      obtain ⟨y, h11, h12⟩ := trod_rep he h8 (fun m hm => hr m (by
        simp only [DataW.weights, ht]
        exact mem_weightsAll (List.mem_map.2 ⟨_, List.getElem_mem _, rfl⟩) m hm))
      have : (i + 1) * e.sz ≤ n * e.sz := Nat.mul_le_mul_right _ (by omega)
      rw [Nat.add_mul] at this
      refine ⟨y, _, h11, h12, by rw [List.length_take, List.length_drop]; omega, fun j v hj => ?_⟩
      rw [List.getElem?_take] at hj
      split at hj
      · rw [List.getElem?_drop] at hj; exact hj
      · cases hj)
    have : vs = cs := by
      apply List.ext_getElem (by omega)
      intro i hi1 hi2
      have := g5 i _ (List.getElem?_eq_getElem hi1)
      rw [List.getElem?_eq_getElem hi2] at this
      exact (Option.some.inj this).symm
    subst this
    exact ⟨ys, ⟨g1, g2⟩, g4⟩
  | t, _, .struct (fs := fs) (a := a) (b := b) ht hs hf, fuel, cs, x, h, hr => by
    obtain ⟨xs, m, rfl, rfl, h1, h2, h3⟩ := DataW.trod_struct ht h
    have h4 : ∀ m ∈ DataW.weightsEach P (fs.toList.map (·.type)) (xs.map (·.1)), m ≤ reachBytes := fun m hm => hr m (by simp only [DataW.weights, ht]; exact hm)
    obtain ⟨y, g1, g2⟩ := trods_rep hf (fun i f hfi => h3 i f (by simpa using hfi)) (by simpa using h2) (by rw [h1, hs]; simp) h4
    refine ⟨y, ?_, g2⟩
    rw [List.drop_zero, List.take_of_length_le (by rw [h1, hs]; exact Nat.le_refl _)] at g1
    exact g1
theorem trods_rep {held : Bool} : ∀ {fs : List Field} {off : Nat} {k : K} (hk : KFs P fs off k) {n : Nat} {cs : List Value} {ds : List (DataW H × List MemPlace)},
    (∀ (i : Nat) (f : Field), fs[i]? = some f → DataW.trod enc P w 0 (fun _ => true) held n f.type ((cs.drop f.offset).take (P.cellsOf f.type)) = ds[i]?) → ds.length = fs.length → off + k.sz ≤ cs.length →
    (∀ m ∈ DataW.weightsEach P (fs.map (·.type)) (ds.map (·.1)), m ≤ reachBytes) → ∃ x : k.T, k.rep w (fun b => b < w.heap.size) x ((cs.drop off).take k.sz) ∧ k.rng x
  | _, _, _, .one (f := f) (off := off) (k := k) ho hs hk, n, cs, ds, h, hd, hl, hr => by
    match ds, hd with
    | [d], _ =>
      have h1 := h 0 f rfl
      rw [ho, hs] at h1
      exact trod_rep hk h1 (fun m hm => hr m (by simp [DataW.weightsEach, hm]))
  | _, _, _, .cons (f := f) (fs := fs) (off := off) (a := a) (b := b) ho hs hk hks, n, cs, ds, h, hd, hl, hr => by
    match ds, hd with
    | d :: ds, hd =>
      have h1 := h 0 f rfl
      rw [ho, hs] at h1
      have hsz : (K.pair a b).sz = a.sz + b.sz := rfl
      obtain ⟨x, g1, g2⟩ := trod_rep hk h1 (fun m hm => hr m (by simp [DataW.weightsEach, hm]))
      obtain ⟨y, g3, g4⟩ := trods_rep hks (ds := ds) (fun i f hf => h (i + 1) f (by simpa using hf)) (by simpa using hd) (by omega) (fun m hm => hr m (by simp only [List.map_cons, DataW.weightsEach, List.mem_append]; exact .inr hm))
      refine ⟨(x, y), ⟨_, _, ?_, g1, g3⟩, g2, g4⟩
      rw [hsz, List.take_add, List.drop_drop]
end
end
end Go.Lift

set_option linter.unusedVariables false
set_option linter.unusedSimpArgs false
namespace Go.Lift
open Go.ChangeShapes Go.WideShapes Go.RowKit
def KS.rng : (ks : List K) → KS ks → Prop
  | [], _ => True
  | k :: ks, x => k.rng x.1 ∧ KS.rng ks x.2
section
variable {H : Type} {enc : TypeId × Value → H} {P : Program}
theorem okWide_cells {W : World} {base : Nat} {t : TypeId} {k : K} {v : Value} (hk : KT P t k) (h : Value.okWide P W .any base t v) : if k.agg then ∃ vs, v = .agg vs else v.cells.toList = [v] := by
  cases hk with
  | int ht => simp only [K.agg]; obtain ⟨n, rfl⟩ := okWide_int ht h; rfl
  | flt ht =>
    simp only [K.agg]
    simp only [Value.okWide, ht, Cell.okWide] at h
    cases v <;> first | rfl | (simp [Cell.ok, ht] at h)
  | bool ht => simp only [K.agg]; obtain ⟨n, rfl⟩ := okWide_bool ht h; rfl
  | slice ht _ _ _ _ =>
    simp only [K.agg]
    simp only [Value.okWide, ht, Cell.okWide] at h
    cases v <;> first | rfl | (simp [Cell.ok, ht] at h)
  | arr ht _ _ _ =>
    simp only [K.agg, if_true]
    simp only [Value.okWide, ht] at h
    obtain ⟨cs, rfl, _⟩ := h
    exact ⟨cs, rfl⟩
  | struct ht _ _ =>
    simp only [K.agg, if_true]
    simp only [Value.okWide, ht] at h
    obtain ⟨cs, rfl, _⟩ := h
    exact ⟨cs, rfl⟩
theorem args_rep {W : World} {base : Nat} : ∀ {ts : List TypeId} {ks : List K}, All2 (KT P) ts ks → ∀ {vs : List Value} {ds : List (DataW H)} {ps : List MemPlace}, DataW.TrodAll enc P W 0 (fun _ => true) true ts vs ds ps →
    (∀ (j : Nat) t v, ts[j]? = some t → vs[j]? = some v → Value.okWide P W .any base t v) → (∀ m ∈ DataW.weightsEach P ts ds, m ≤ reachBytes) →
    ∃ x : KS ks, ArgsRep W (fun b => b < W.heap.size) ks x vs ∧ KS.rng ks x ∧ ds.length = ks.length := by
  intro ts ks hk
  induction hk with
  | nil =>
    intro vs ds ps h _ _
    cases vs with
    | nil => cases ds with
      | nil => exact ⟨(), rfl, trivial, rfl⟩
      | cons d ds => exact h.elim
    | cons v vs => cases ds <;> exact h.elim
  | cons hk1 hks ih =>
    intro vs ds ps h hv hr
    cases vs with
    | nil => cases ds <;> exact h.elim
    | cons v vs => cases ds with
      | nil => exact h.elim
      | cons d ds =>
        obtain ⟨p, q, ⟨fuel, h1⟩, h2, _⟩ := h
        obtain ⟨x, g1, g2⟩ := trod_rep hk1 h1 (fun m hm => hr m (by simp only [DataW.weightsEach, List.mem_append]; exact .inl hm))
        obtain ⟨y, g3, g4, g5⟩ := ih h2 (fun j t v ht hv' => hv (j + 1) t v (by simpa using ht) (by simpa using hv')) (fun m hm => hr m (by simp only [DataW.weightsEach, List.mem_append]; exact .inr hm))
        have hc := okWide_cells hk1 (hv 0 _ v rfl rfl)
        refine ⟨(x, y), ⟨v, vs, rfl, ?_, g3⟩, ⟨g2, g4⟩, by simp [g5]⟩
        unfold KRep
        split
        · rename_i ha
          rw [if_pos ha] at hc
          obtain ⟨cs, rfl⟩ := hc
          exact ⟨cs, rfl, g1⟩
        · rename_i ha
          rw [if_neg ha] at hc
          rw [hc] at g1; exact g1
theorem args_keep (hl : laidOutB P = true) {W W' : World} (hg : Grows W W') {sp : Nat → Bool} : ∀ {ts : List TypeId}, (∀ t ∈ ts, P.readableRec t = true ∧ t < P.types.size) → ∀ {vs : List Value} {ds : List (DataW H)} {ps : List MemPlace},
    DataW.TrodAll enc P W 0 (fun _ => true) true ts vs ds ps → (∀ p ∈ ps, p.block < W.heap.size) → (∀ p ∈ ps, sp p.block = true) → DataW.TrodAll enc P W' 0 sp true ts vs ds ps := by
  intro ts
  induction ts with
  | nil => intro _ vs ds ps h _ _; cases vs <;> cases ds <;> first | exact h | exact h.elim
  | cons t ts ih =>
    intro ht vs ds ps h hlt hs
    cases vs with
    | nil => cases ds <;> exact h.elim
    | cons v vs => cases ds with
      | nil => exact h.elim
      | cons d ds =>
        obtain ⟨p, q, h1, h2, rfl⟩ := h
        have hb : Below W.heap.size W W' := ⟨hg.os, hg.tape, hg.output, hg.size, hg.keep⟩
        exact ⟨p, q, WideElems.Trod_stays hl (ht t List.mem_cons_self).1 (ht t List.mem_cons_self).2 h1 (fun x hx => hb.same (hlt x (List.mem_append_left _ hx))) (fun x hx => hs x (List.mem_append_left _ hx)),
          ih (fun t h => ht t (List.mem_cons_of_mem _ h)) h2 (fun x hx => hlt x (List.mem_append_right _ hx)) (fun x hx => hs x (List.mem_append_right _ hx)), rfl⟩
def LawSpec (s : ChangeSpec) (n : Nat) : Prop := s.vars = [] ∧ ∀ (H : Type) (ds : List (DataW H)), ds.length = n → s.fn H ds = { results := [.lit (.bool true)], args := ds }
end
end Go.Lift

set_option linter.unusedVariables false
set_option linter.unusedSimpArgs false
namespace Go.Lift
def kfsB (P : Program) (chk : TypeId → K → Bool) : List Field → Nat → K → Bool
  | [], _, _ => false
  | [f], off, k => f.offset == off && P.cellsOf f.type == k.sz && chk f.type k
  | f :: fs, off, .pair a b => f.offset == off && P.cellsOf f.type == a.sz && chk f.type a && kfsB P chk fs (off + a.sz) b
  | _, _, _ => false
def ktB (P : Program) : Nat → TypeId → K → Bool
  | 0, _, _ => false
  | n + 1, t, k => match k, P.underlying t with
    | .int i, some (.int j) => i == j
    | .flt i, some (.float j) => i == j
    | .bool, some .bool => true
    | .slice e, some (.slice te) => P.cellsOf te == e.sz && decide (0 < e.sz) && decide (1 ≤ P.bytesOf te) && ktB P n te e
    | .arr m e, some (.array m' te) => m == m' && P.cellsOf te == e.sz && P.cellsOf t == m * e.sz && ktB P n te e
    | .pair a b, some (.struct fs) => P.cellsOf t == (K.pair a b).sz && kfsB P (ktB P n) fs.toList 0 (.pair a b)
    | _, _ => false
theorem kfsB_sound {P : Program} {chk : TypeId → K → Bool} (hc : ∀ t k, chk t k = true → KT P t k) : ∀ (fs : List Field) (off : Nat) (k : K), kfsB P chk fs off k = true → KFs P fs off k
  | [], _, _, h => by cases h
  | [f], off, k, h => by
    have h' : (f.offset == off && P.cellsOf f.type == k.sz && chk f.type k) = true := by
      unfold kfsB at h; exact h
    simp only [Bool.and_eq_true, beq_iff_eq] at h'
    exact .one h'.1.1 h'.1.2 (hc _ _ h'.2)
  | f :: g :: fs, off, k, h => by
    cases k with
    | pair a b =>
      have h' : (f.offset == off && P.cellsOf f.type == a.sz && chk f.type a && kfsB P chk (g :: fs) (off + a.sz) b) = true := by
        unfold kfsB at h; exact h
      simp only [Bool.and_eq_true, beq_iff_eq] at h'
      exact .cons h'.1.1.1 h'.1.1.2 (hc _ _ h'.1.2) (kfsB_sound hc _ _ _ h'.2)
    | _ => unfold kfsB at h; cases h
theorem ktB_sound {P : Program} : ∀ (n : Nat) (t : TypeId) (k : K), ktB P n t k = true → KT P t k
  | 0, _, _, h => by cases h
  | n + 1, t, k, h => by
    unfold ktB at h
    split at h
    · rename_i i j hu; exact .int (by rw [hu, eq_of_beq h])
    · rename_i i j hu; exact .flt (by rw [hu, eq_of_beq h])
    · rename_i hu; exact .bool hu
    · rename_i e te hu
      simp only [Bool.and_eq_true, beq_iff_eq, decide_eq_true_eq] at h
      exact .slice hu h.1.1.1 h.1.1.2 h.1.2 (ktB_sound n te e h.2)
    · rename_i m e m' te hu
      simp only [Bool.and_eq_true, beq_iff_eq] at h
      obtain ⟨⟨⟨rfl, h2⟩, h3⟩, h4⟩ := h
      exact .arr hu h2 h3 (ktB_sound n te e h4)
    · rename_i a b fs hu
      simp only [Bool.and_eq_true, beq_iff_eq] at h
      exact .struct hu h.1 (kfsB_sound (fun t k => ktB_sound n t k) _ _ _ h.2)
    · cases h
def ktsB (P : Program) : List TypeId → List K → Bool
  | [], [] => true
  | t :: ts, k :: ks => ktB P 9 t k && ktsB P ts ks
  | _, _ => false
theorem ktsB_sound {P : Program} : ∀ (ts : List TypeId) (ks : List K), ktsB P ts ks = true → All2 (KT P) ts ks
  | [], [], _ => .nil
  | t :: ts, k :: ks, h => by
    simp only [ktsB, Bool.and_eq_true] at h
    exact .cons (ktB_sound 9 t k h.1) (ktsB_sound ts ks h.2)
  | [], _ :: _, h => by cases h
  | _ :: _, [], h => by cases h
end Go.Lift

set_option linter.unusedVariables false
set_option linter.unusedSimpArgs false
namespace Go.Lift
def eqV : Value → Value → Bool
  | .int k n, .int j m => k == j && decide (n = m)
  | .bool a, .bool b => a == b
  | .float k n, .float j m => k == j && n == m
  | .slice none a b, .slice none c d => a == c && b == d
  | .pointer none, .pointer none => true
  | .nilIface, .nilIface => true
  | .nilFunc, .nilFunc => true
  | .map none, .map none => true
  | .chan none, .chan none => true
  | .string a, .string b => a.data.toList == b.data.toList
  | _, _ => false
theorem eqV_sound {a b : Value} (h : eqV a b = true) : a = b := by
  unfold eqV at h
  split at h <;> simp_all
  rename_i x y
  cases x; cases y; simp_all
def eqVs : List Value → List Value → Bool
  | [], [] => true
  | a :: ra, b :: rb => eqV a b && eqVs ra rb
  | _, _ => false
theorem eqVs_sound : ∀ {a b : List Value}, eqVs a b = true → a = b
  | [], [], _ => rfl
  | a :: ra, b :: rb, h => by
    simp only [eqVs, Bool.and_eq_true] at h
    rw [eqV_sound h.1, eqVs_sound h.2]
  | [], _ :: _, h => by cases h
  | _ :: _, [], h => by cases h
def dfltN (f : List Value → Bool) (s : Nat) : Nat → List Value → Bool
  | 0, [] => true
  | 0, _ :: _ => false
  | n + 1, l => f (l.take s) && dfltN f s n (l.drop s)
def K.dfltB : K → List Value → Bool
  | .int k, l => eqVs l [.int k 0]
  | .bool, l => eqVs l [.bool false]
  | .flt k, l => eqVs l [.float k 0]
  | .unit, l => l.isEmpty
  | .pair a b, l => a.dfltB (l.take a.sz) && b.dfltB (l.drop a.sz)
  | .arr n e, l => dfltN e.dfltB e.sz n l
  | .slice _, l => eqVs l [.slice none 0 0]
  | .ptr _, l => eqVs l [.pointer none]
  | .map _ _, l => eqVs l [.map none]
  | .ent _ _, _ => false
theorem K.dfltB_sound : ∀ (k : K) {l : List Value}, k.dfltB l = true → ∀ w ok, k.rep w ok k.dflt l := by
  intro k
  induction k with
  | int k => intro l h w ok; exact eqVs_sound h
  | bool => intro l h w ok; exact eqVs_sound h
  | flt k => intro l h w ok; exact eqVs_sound h
  | unit => intro l h w ok; show l = []; exact List.isEmpty_iff.1 h
  | pair a b iha ihb =>
    intro l h w ok
    simp only [K.dfltB, Bool.and_eq_true] at h
    exact ⟨_, _, (List.take_append_drop a.sz l).symm, iha h.1 w ok, ihb h.2 w ok⟩
  | arr n e ih =>
    intro l h w ok
    refine ⟨by show (List.replicate n e.dflt).length = n; simp, ?_⟩
    have h' : dfltN e.dfltB e.sz n l = true := h
    clear h
    show Rows (e.rep w ok) (List.replicate n e.dflt) l
    induction n generalizing l with
    | zero => cases l with
      | nil => rfl
      | cons _ _ => cases h'
    | succ n ihn =>
      simp only [dfltN, Bool.and_eq_true] at h'
      exact ⟨_, _, (List.take_append_drop e.sz l).symm, ih h'.1 w ok, ihn h'.2⟩
  | slice e _ => intro l h w ok; exact ⟨none, 0, eqVs_sound h, Nat.le_refl _, Nat.zero_le _, .inl rfl⟩
  | ptr e _ => intro l h w ok; exact .inl ⟨rfl, eqVs_sound h⟩
  | map a b _ _ => intro l h w ok; exact .inl ⟨rfl, eqVs_sound h⟩
  | ent a b _ _ => intro l h; cases h
def TK.fitsB (P : Program) (t : TypeId) : TK → Bool
  | .int k => match P.underlying t with | some (.int j) => j == k | _ => false
  | .bool => match P.underlying t with | some .bool => true | _ => false
  | .flt k => match P.underlying t with | some (.float j) => j == k | _ => false
  | .slice e => match P.underlying t with | some (.slice d) => d == e | _ => false
  | .arr n e => match P.underlying t with | some (.array m d) => m == n && d == e | _ => false
  | .struct fs => match P.underlying t with | some (.struct fields) => fields.toList.map (fun f => (f.offset, f.type)) == fs | _ => false
  | .ptr e => match P.underlying t with | some (.pointer d) => d == e | _ => false
  | .str => match P.underlying t with | some .string => true | _ => false
  | .map a b => (match P.underlying t with | some (.map c d) => c == a && d == b | _ => false) && !P.stoodInHeld a && (match P.underlying a with | some (.struct fields) => fields.toList.all (fun f => !(f.name == "_")) | _ => true) &&
      (match P.underlying b with | some (.int ik) => (match P.info? b with | some inf => (match inf.zero with | some (.int j n) => j == ik && n == 0 | _ => false) | none => false) | _ => true)
  | .plain => match P.underlying t with | some d => (match d with | .struct _ | .array _ _ => false | _ => true) | none => false
  | .other => true
theorem TK.fitsB_sound {P : Program} {t : TypeId} {k : TK} (h : k.fitsB P t = true) : k.fits P t := by
  cases k <;> simp only [TK.fitsB] at h <;> simp only [TK.fits]
  case struct fs =>
    split at h
    · rename_i fields hf; exact ⟨fields, hf, by simpa using h⟩
    · cases h
  case plain =>
    split at h
    · rename_i d hd; exact ⟨d, hd, h⟩
    · cases h
  case map a b =>
    simp only [Bool.and_eq_true] at h
    obtain ⟨⟨⟨h1, h2⟩, h3⟩, h4⟩ := h
    refine ⟨?_, by simpa using h2, fun fields hf f hm => ?_, fun ik hi => ?_⟩
    · split at h1
      · rename_i hu; rw [hu]; simp_all
      · cases h1
    · rw [hf] at h3
      have := List.all_eq_true.1 h3 f hm
      simpa using this
    · rw [hi] at h4
      simp only at h4
      split at h4
      · rename_i inf hinf
        split at h4
        · rename_i j n hz
          simp only [Bool.and_eq_true, beq_iff_eq] at h4
          exact ⟨inf, hinf, by rw [hz, h4.1, h4.2]⟩
        · cases h4
      · cases h4
  all_goals first
    | trivial
    | (split at h <;> first | (cases h; done) | (rename_i hu; rw [hu]; simp_all; done) | (rename_i hu; rw [hu]))
def TD.fitsB (P : Program) (t : TypeId) (d : TD) : Bool :=
  d.k.fitsB P t && (match P.info? t with
    | some i => match i.zero with
      | some z => i.size == d.sz && i.bytes == d.bytes && eqVs z.cells.toList d.zero && z.cells.size == d.sz
      | none => false
    | none => false) && (match d.kind with
    | some k => k.sz == d.sz && d.k.agg == some k.agg && k.dfltB d.zero
    | none => true)
theorem TD.fitsB_sound {P : Program} {t : TypeId} {d : TD} (h : d.fitsB P t = true) : d.Fits P t := by
  simp only [TD.fitsB, Bool.and_eq_true] at h
  obtain ⟨⟨h1, h2⟩, h3⟩ := h
  refine ⟨TK.fitsB_sound h1, ?_, ?_⟩
  · split at h2
    · rename_i i hi
      split at h2
      · rename_i z hz
        simp only [Bool.and_eq_true, beq_iff_eq] at h2
        exact ⟨i, z, hi, h2.1.1.1, h2.1.1.2, hz, eqVs_sound h2.1.2, h2.2⟩
      · cases h2
    · cases h2
  · intro k hk
    rw [hk] at h3
    simp only [Bool.and_eq_true, beq_iff_eq] at h3
    exact ⟨h3.1.1, h3.1.2, K.dfltB_sound k h3.2⟩
def tabOf (L : List (Nat × TD)) (t : Nat) : Option TD := match L with
  | [] => none
  | x :: L => if Nat.beq x.1 t then some x.2 else tabOf L t
def tabB (P : Program) : List (Nat × TD) → Bool
  | [] => true
  | x :: L => x.2.fitsB P x.1 && tabB P L
theorem tabB_sound {P : Program} : ∀ {L : List (Nat × TD)}, tabB P L = true → ∀ t d, tabOf L t = some d → d.Fits P t
  | [], _, t, d, h => by cases h
  | x :: L, hb, t, d, h => by
    simp only [tabB, Bool.and_eq_true] at hb
    simp only [tabOf] at h
    split at h
    · rename_i e
      cases h
      rw [← Nat.eq_of_beq_eq_true e]
      exact TD.fitsB_sound hb.1
    · exact tabB_sound hb.2 t d h
def noHn : Hn := { loops := fun _ => none, joins := fun _ => none }
def nHn : Hn := { loops := fun _ => none, joins := fun _ => none, named := true }
def conOf (L : List (Nat × Con)) (f : Nat) : Option Con := match L with
  | [] => none
  | x :: L => if Nat.beq x.1 f then some x.2 else conOf L f
def ConsOk (P : Program) (G : Globs) : List (Nat × Con) → Prop
  | [] => True
  | x :: L => x.2.holds P G x.1 ∧ ConsOk P G L
theorem conOf_sound {P : Program} {G : Globs} : ∀ {L : List (Nat × Con)}, ConsOk P G L → ∀ f c, conOf L f = some c → c.holds P G f
  | [], _, f, c, h => by cases h
  | x :: L, hb, f, c, h => by
    simp only [conOf] at h
    split at h
    · rename_i e
      cases h
      rw [← Nat.eq_of_beq_eq_true e]
      exact hb.1
    · exact conOf_sound hb.2 f c h
def inlL (l : List Nat) : FuncId → Bool := fun f => elemB f l
def hintN {α : Type} : List (Nat × α) → Nat → Option α
  | [], _ => none
  | x :: l, k => if Nat.beq x.1 k then some x.2 else hintN l k
end Go.Lift

set_option linter.unusedVariables false
set_option linter.unusedSimpArgs false
namespace Go.Lift
def r1 {α : Type} (a : α) : α × Unit := (a, ())
def W2 (a b : Nat) : Prop := W64 a ∧ W64 b
def W3 (a b c : Nat) : Prop := W64 a ∧ W64 b ∧ W64 c
def WL (l : List Nat) : Prop := ∀ x ∈ l, W64 x
def bitsR (b : Nat) : Int × Unit := r1 (b : Int)
def fromR (n : Int) : Nat × Unit := r1 n.toNat
def qnR : Nat × Unit := r1 QN
def absR (b : Nat) : Nat × Unit := r1 (rungOf b)
def nanR (b : Nat) : Bool × Unit := r1 (isN b)
def noR (_ : Int) : Bool × Unit := r1 false
def magI (b : Nat) : Int := (rungOf b : Nat)
def canonR (b : Nat) : Nat × Unit := r1 (canonF b)
def quietR (b : Nat) : Nat × Unit := r1 (quietF b)
def mag2 (b : Nat) : Int := 2 * magI b
def mag2R (b : Nat) : Int × Unit := r1 (mag2 b)
def placeI (b : Nat) : Int := if sgn b then 18446744073709551615 - (b : Int) else (b : Int) + 9223372036854775808
def placeR (b : Nat) : Int × Unit := r1 (placeI b)
def cmpI (a b : Int) : Int := if a < b then -1 else if a > b then 1 else 0
def cmpR (a b : Int) : Int × Unit := r1 (cmpI a b)
def ordF (a b : Nat) : Int := cmpI (placeI a) (placeI b)
def ordR (a b : Nat) : Int × Unit := r1 (ordF a b)
def firstNZ : List Int → Int
  | [] => 0
  | x :: l => if x ≠ 0 then x else firstNZ l
def orR (l : List Int) : Int × Unit := r1 (firstNZ l)
def cmpM (a b : Nat) : Int := if cmpI (mag2 a) (mag2 b) ≠ 0 then cmpI (mag2 a) (mag2 b) else ordF a b
def cmpMR (a b : Nat) : Int × Unit := r1 (cmpM a b)
def infS (x : Nat) (s : Int) : Bool := if s = 0 then decide (rungOf x = infR) else if s < 0 then decide (rungOf x = infR) && sgn x else decide (rungOf x = infR) && !sgn x
def infSR (x : Nat) (s : Int) : Bool × Unit := r1 (infS x s)
def WI (x : Nat) (_ : Int) : Prop := W64 x
def classF (x : Nat) : Int := if rungOf x = 0 then 0 else if rungOf x < bin then 1 else if rungOf x < infR then 2 else if rungOf x = infR then 3 else 4
def relF (q : Nat) (r : Nat × Unit) : Prop := quietF r.1 = q ∧ W64 r.1
def sqrtP (x : Nat) (r : Nat × Unit) : Prop := relF (sqrtQ x) r
theorem relF_ne {q : Nat} (h1 : quietF q = q) (h2 : W64 q) : ∃ r, relF q r := ⟨(q, ()), h1, h2⟩
theorem sgn_iff {b : Nat} (h : W64 b) : sgn b = true ↔ 9223372036854775808 ≤ b := by
  unfold sgn sw W64 at *
  rw [beq_iff_eq]
  omega
theorem sgn_dec {b : Nat} (h : W64 b) : sgn b = decide (9223372036854775808 ≤ b) := by
  rw [Bool.eq_iff_iff, sgn_iff h]; simp
theorem rung_lo {b : Nat} (h : b < 9223372036854775808) : rungOf b = b := by unfold rungOf sw; omega
theorem rung_hi {b : Nat} (h : W64 b) (h1 : 9223372036854775808 ≤ b) : rungOf b = b - 9223372036854775808 := by unfold rungOf sw; unfold W64 at h; omega
theorem rung_lt (b : Nat) : rungOf b < 9223372036854775808 := by unfold rungOf sw; omega
theorem wu (x : Int) (h : U64 x) : IntKind.u64.wrap x = x := by obtain ⟨h1, h2⟩ := h; rw [IntKind.wrap_u64]; omega
theorem wi {x : Int} (h : I64 x) : IntKind.i64.wrap x = x := by obtain ⟨h1, h2⟩ := h; simp [IntKind.wrap, IntKind.bits, IntKind.signed]; omega
theorem ofNat64 {a : Nat} (h : a < 18446744073709551616) : (BitVec.ofInt 64 (a : Int)).toNat = a := by
  rw [BitVec.ofInt_natCast, BitVec.toNat_ofNat]; exact Nat.mod_eq_of_lt h
theorem andNot_sign {a : Nat} (h : W64 a) : Go.bits .andNot .u64 (a : Int) 9223372036854775808 = (rungOf a : Nat) := by
  show IntKind.u64.wrap ((BitVec.ofInt 64 (a : Int) &&& ~~~ BitVec.ofInt 64 ((9223372036854775808 : Nat) : Int)).toNat : Int) = _
  have h1 := ofNat64 h
  have h2 := ofNat64 (a := 9223372036854775808) (by decide)
  have e : (BitVec.ofInt 64 (a : Int) &&& ~~~ BitVec.ofInt 64 ((9223372036854775808 : Nat) : Int)) = BitVec.ofNat 64 (rungOf a) := by
    rw [show BitVec.ofInt 64 (a : Int) = BitVec.ofNat 64 a by rw [BitVec.ofInt_natCast]]
    apply BitVec.eq_of_toNat_eq
    have e3 : ~~~ BitVec.ofInt 64 ((9223372036854775808 : Nat) : Int) = BitVec.ofNat 64 (2 ^ 63 - 1) := by decide
    rw [e3, BitVec.toNat_and, BitVec.toNat_ofNat, BitVec.toNat_ofNat, BitVec.toNat_ofNat]
    have e4 : (2 ^ 63 - 1) % 2 ^ 64 = 2 ^ 63 - 1 := by decide
    rw [e4, Nat.and_two_pow_sub_one_eq_mod]
    unfold rungOf sw; unfold W64 at h; omega
  rw [e, BitVec.toNat_ofNat, IntKind.wrap_u64]
  unfold rungOf sw; omega
theorem xor_ones {a : Nat} (h : W64 a) : Go.bits .xor .u64 (if IntKind.u64.signed = true then -1 else IntKind.u64.max) (a : Int) = 18446744073709551615 - (a : Int) := by
  show IntKind.u64.wrap ((BitVec.ofInt 64 IntKind.u64.max ^^^ BitVec.ofInt 64 (a : Int)).toNat : Int) = _
  have e : BitVec.ofInt 64 IntKind.u64.max = BitVec.allOnes 64 := by decide
  rw [e, BitVec.allOnes_xor, BitVec.toNat_not, ofNat64 h, IntKind.wrap_u64]
  unfold W64 at h; omega
theorem or_sign {a : Nat} (h : a < 9223372036854775808) : Go.bits .or .u64 (a : Int) 9223372036854775808 = (a : Int) + 9223372036854775808 := by
  have := bits_or_u64_nat a 9223372036854775808 (by omega) (by decide)
  rw [show ((9223372036854775808 : Nat) : Int) = 9223372036854775808 from rfl] at this
  rw [this]
  have e : a ||| 9223372036854775808 = 9223372036854775808 + a := by
    rw [Nat.or_comm]
    have := Nat.two_pow_add_eq_or_of_lt (i := 63) h 1
    simpa using this.symm
  rw [e]; omega
theorem rung_negF {a : Nat} (h : W64 a) : rungOf (negF a) = rungOf a ∧ True := by
  refine ⟨?_, trivial⟩
  unfold negF Op.negFloat
  show (a ^^^ 2 ^ 63) % 2 ^ 63 = a % 2 ^ 63
  rw [Nat.xor_mod_two_pow, Nat.mod_self, Nat.xor_zero]
theorem sgn_negF {a : Nat} (h : W64 a) : sgn (negF a) = !sgn a := by
  unfold negF Op.negFloat sgn sw
  show ((a ^^^ 2 ^ 63) / 2 ^ 63 % 2 == 1) = !(a / 2 ^ 63 % 2 == 1)
  rw [Nat.xor_div_two_pow, Nat.div_self (by decide), ← Nat.pow_one 2, Nat.xor_mod_two_pow]
  have : a / 2 ^ 63 % 2 ^ 1 = 0 ∨ a / 2 ^ 63 % 2 ^ 1 = 1 := by omega
  rcases this with e | e <;> rw [e] <;> decide
theorem negF_w {a : Nat} (h : W64 a) : W64 (negF a) := by
  unfold negF Op.negFloat W64 at *
  exact Nat.xor_lt_two_pow (n := 64) h (by decide)
theorem gt_max (x : Nat) : fcmp .gtr (Ieee.double.order x 9218868437227405311) = (decide (rungOf x = infR) && !sgn x) := by
  have h0 : isN 9218868437227405311 = false := by decide
  have k0 : keyOf' 9218868437227405311 = 9218868437227405311 := by decide
  cases h : isN x with
  | true =>
    rw [order_nan (.inl h)]
    have : infR < rungOf x := by simpa [isN] using h
    have : ¬ rungOf x = infR := by omega
    simp [this]; rfl
  | false =>
    rw [order_eq h h0, k0]
    have hle : rungOf x ≤ infR := by simpa [isN] using h
    unfold keyOf'
    cases hs : sgn x with
    | true =>
      simp only [if_true, Bool.not_true, Bool.and_false]
      rw [Std.compare_eq_lt.2 (by omega)]; rfl
    | false =>
      simp only [Bool.false_eq_true, if_false, Bool.not_false, Bool.and_true]
      unfold infR at *
      by_cases e : rungOf x = 9218868437227405312
      · rw [Std.compare_eq_gt.2 (by omega)]; simp [e]; rfl
      · rw [show decide (rungOf x = 9218868437227405312) = false by simpa using e]
        by_cases e2 : rungOf x = 9218868437227405311
        · rw [e2]; rfl
        · rw [Std.compare_eq_lt.2 (by omega)]; rfl
section
variable {a b : Nat}
end
end Go.Lift

set_option linter.unusedVariables false
set_option linter.unusedSimpArgs false
namespace Go.Lift
def IsThree (a : Int) : Prop := a = 3
def twoR (_ : Int) : Int × Unit := r1 2
def rowQ : List Nat → Nat
  | [] => 0
  | x :: xs => xs.foldl addQ (quietF x)
def rowR (l : List Nat) : Nat × Unit := r1 (rowQ l)
def ltM (a b : Nat) : Bool := decide (cmpM a b < 0)
def sort3 (a b c : Nat) : List Nat :=
  if ltM b a then (if ltM c a then (if ltM c b then [c, b, a] else [b, c, a]) else [b, a, c])
  else (if ltM c b then (if ltM c a then [c, a, b] else [a, c, b]) else [a, b, c])
def three (a b c : Nat) : Nat := rowQ (sort3 a b c)
def threeR (a b c : Nat) : Nat × Unit := r1 (three a b c)
def WV (a : Nat × Nat × Nat) : Prop := W64 a.1 ∧ W64 a.2.1 ∧ W64 a.2.2
def WV2 (a b : Nat × Nat × Nat) : Prop := WV a ∧ WV b
def canonV (x y z : Nat) : Nat × Nat × Nat := (canonF x, canonF y, canonF z)
def canonVR (x y z : Nat) : (Nat × Nat × Nat) × Unit := r1 (canonV x y z)
def minusV (a b : Nat × Nat × Nat) : Nat × Nat × Nat := canonV (subQ a.1 b.1) (subQ a.2.1 b.2.1) (subQ a.2.2 b.2.2)
def minusR (a b : Nat × Nat × Nat) : (Nat × Nat × Nat) × Unit := r1 (minusV a b)
def lessQ (p q r s : Nat) : Nat := subQ (mulQ p q) (mulQ r s)
def crossV (a b : Nat × Nat × Nat) : Nat × Nat × Nat := canonV (lessQ a.2.1 b.2.2 a.2.2 b.2.1) (lessQ a.2.2 b.1 a.1 b.2.2) (lessQ a.1 b.2.1 a.2.1 b.1)
def crossR (a b : Nat × Nat × Nat) : (Nat × Nat × Nat) × Unit := r1 (crossV a b)
def lengthQ (a : Nat × Nat × Nat) : Nat := canonF (sqrtQ (three (mulQ a.1 a.1) (mulQ a.2.1 a.2.1) (mulQ a.2.2 a.2.2)))
def lengthR (a : Nat × Nat × Nat) : Nat × Unit := r1 (lengthQ a)
def gapQ (a b : Nat × Nat × Nat) : Nat := lengthQ (minusV a b)
def gapR (a b : Nat × Nat × Nat) : Nat × Unit := r1 (gapQ a b)
def unitV (a : Nat × Nat × Nat) : Nat × Nat × Nat :=
  if classF (lengthQ a) = 1 ∨ classF (lengthQ a) = 2 then canonV (divQF a.1 (lengthQ a)) (divQF a.2.1 (lengthQ a)) (divQF a.2.2 (lengthQ a)) else (0, 0, 0)
def unitR (a : Nat × Nat × Nat) : (Nat × Nat × Nat) × Unit := r1 (unitV a)
end Go.Lift

set_option linter.unusedVariables false
set_option linter.unusedSimpArgs false
namespace Go.Lift
theorem rowQ_q (l : List Nat) : quietF (rowQ l) = rowQ l := by
  cases l with
  | nil => decide
  | cons x xs =>
    show quietF (xs.foldl addQ (quietF x)) = xs.foldl addQ (quietF x)
    have : ∀ (xs : List Nat) (y : Nat), quietF y = y → quietF (xs.foldl addQ y) = xs.foldl addQ y := by
      intro xs
      induction xs with
      | nil => intro y h; exact h
      | cons z xs ih => intro y h; exact ih _ (addQ_q _ _)
    exact this xs _ (quietF_idem x)
theorem rowQ_snoc {l : List Nat} (hl : l ≠ []) (x : Nat) : rowQ (l ++ [x]) = addQ (rowQ l) x := by
  cases l with
  | nil => exact absurd rfl hl
  | cons y l => show (l ++ [x]).foldl addQ (quietF y) = _; rw [List.foldl_append]; rfl
theorem rowQ_at {a : List Nat} {i : Nat} (h : i < a.length) (h0 : 1 ≤ i) : rowQ (a.take (i + 1)) = addQ (rowQ (a.take i)) (a.getD i 0) := by
  rw [List.take_succ_eq_append_getElem h, rowQ_snoc (List.ne_nil_of_length_pos (by rw [List.length_take]; omega)), List.getD_eq_getElem?_getD, List.getElem?_eq_getElem h]
  rfl
theorem rowQ_one {a : List Nat} (h : 0 < a.length) : rowQ (a.take 1) = quietF (a.getD 0 0) := by
  cases a with
  | nil => cases h
  | cons x a => rfl
theorem WL_getD {a : List Nat} (h : WL a) (i : Nat) : W64 (a.getD i 0) := by
  rw [List.getD_eq_getElem?_getD]
  cases e : a[i]? with
  | none => show W64 0; unfold W64; decide
  | some y => exact h y (List.mem_of_getElem? e)
theorem WL3 {a b c : Nat} (ha : W64 a) (hb : W64 b) (hc : W64 c) : WL [a, b, c] := by
  intro x hx; simp at hx; rcases hx with rfl | rfl | rfl <;> assumption
theorem quiet_cases {x y : Nat} (h : quietF x = quietF y) : (isN x = true ∧ isN y = true) ∨ x = y := by
  have nx : isN x = isN y := by rw [← isN_quietF x, h, isN_quietF]
  by_cases e : isN x = true
  · exact .inl ⟨e, by rw [← nx]; exact e⟩
  · have e1 : isN x = false := by simpa using e
    unfold quietF at h
    rw [← nx, e1] at h
    exact .inr (by simpa using h)
theorem rowQ3_nan {x y z : Nat} (h : isN x = true ∨ isN y = true ∨ isN z = true) : rowQ [x, y, z] = QN := by
  show addQ (addQ (quietF x) y) z = QN
  rcases h with h | h | h
  · rw [addQ_nan (x := quietF x) (.inl (by rw [isN_quietF]; exact h))]; exact addQ_nan (.inl QN_N)
  · rw [addQ_nan (x := quietF x) (.inr h)]; exact addQ_nan (.inl QN_N)
  · exact addQ_nan (.inr h)
theorem three_nan {a b c : Nat} (h : isN a = true ∨ isN b = true ∨ isN c = true) : three a b c = QN := by
  unfold three sort3
  split <;> split <;> (try split) <;> exact rowQ3_nan (by rcases h with h | h | h <;> simp [h])
theorem three_congr {a b c a' b' c' : Nat} (ha : quietF a = quietF a') (hb : quietF b = quietF b') (hc : quietF c = quietF c') : three a b c = three a' b' c' := by
  rcases quiet_cases ha with ⟨h1, h2⟩ | rfl
  · rw [three_nan (.inl h1), three_nan (.inl h2)]
  rcases quiet_cases hb with ⟨h1, h2⟩ | rfl
  · rw [three_nan (.inr (.inl h1)), three_nan (.inr (.inl h2))]
  rcases quiet_cases hc with ⟨h1, h2⟩ | rfl
  · rw [three_nan (.inr (.inr h1)), three_nan (.inr (.inr h2))]
  rfl
theorem rnd_zero (p : Int) : rnd 0 p = 0 := by unfold rnd; simp
theorem sqrt_sgn (x : Nat) (h : sgn (sqrtQ x) = true) : rungOf (sqrtQ x) = 0 := by
  have hn : sgn QN = false := by decide
  have hw : ∀ (r : Nat) (hr : r ≤ infR), sgn (Ieee.double.word false r) = false := fun r hr => (word_le (s := false) hr).2.2.2
  unfold sqrtQ at h ⊢
  have e : Ieee.double.sqrt x = ((Ieee.double.read x).root (Ieee.double.fractionBits + 2)).map Ieee.double.write := rfl
  rw [e] at h ⊢
  cases hd : (Ieee.double.read x).root (Ieee.double.fractionBits + 2) with
  | none => rw [hd] at h; have h : sgn QN = true := h; rw [hn] at h; cases h
  | some d =>
    rw [hd] at h
    have h : sgn (Ieee.double.write d) = true := h
    show rungOf (Ieee.double.write d) = 0
    have key : ∀ (m : Nat) (p : Int), sgn (Ieee.double.write (.number false m p)) = true → False := by
      intro m p h
      have h : sgn (Ieee.double.nearest false m p) = true := h
      rw [nearest_eq, hw _ (rnd_le m p)] at h; cases h
    cases hr : Ieee.double.read x with
    | nan s f => rw [hr] at hd; cases hd
    | infinity s =>
      rw [hr] at hd
      simp only [Ieee.Datum.root] at hd
      split at hd
      · cases hd
      · rename_i hs
        have hs : s = false := by simpa using hs
        subst hs
        cases hd
        have e2 : Ieee.double.write (.infinity false) = Ieee.double.word false infR := by
          show Ieee.double.word false Ieee.double.infRung = _
          rw [show Ieee.double.infRung = infR by decide]
        rw [e2, hw _ (Nat.le_refl _)] at h; cases h
    | number s m p =>
      rw [hr] at hd
      simp only [Ieee.Datum.root] at hd
      split at hd
      · rename_i hm
        cases hd
        subst hm
        show rungOf (Ieee.double.nearest s 0 p) = 0
        rw [nearest_eq, rnd_zero]
        exact (word_le (s := s) (Nat.zero_le _)).2.2.1
      · split at hd
        · cases hd
        · cases hd
          exact (key _ _ h).elim
theorem lengthQ_sgn (a : Nat × Nat × Nat) : sgn (lengthQ a) = false := by
  unfold lengthQ
  generalize three _ _ _ = x
  unfold canonF
  split
  · decide
  · split
    · decide
    · rename_i h
      cases e : sgn (sqrtQ x) with
      | false => rfl
      | true => exact absurd (sqrt_sgn x e) h
theorem lengthQ_w (a : Nat × Nat × Nat) : W64 (lengthQ a) := canonF_w (sqrtQ_w _)
theorem gt_zero {x : Nat} (h : sgn x = false) : fcmp .gtr (Ieee.double.order x 0) = (!isN x && decide (rungOf x ≠ 0)) := by
  have h0 : isN 0 = false := by decide
  have k0 : keyOf' 0 = 0 := by decide
  cases hx : isN x with
  | true => rw [order_nan (.inl hx)]; rfl
  | false =>
    rw [order_eq hx h0, k0]
    unfold keyOf'
    rw [h]
    simp only [Bool.false_eq_true, if_false, Bool.not_false, Bool.true_and]
    by_cases e : rungOf x = 0
    · rw [e]; decide
    · rw [Std.compare_eq_gt.2 (by omega)]
      simp [e]; rfl
theorem canonV_w {x y z : Nat} (hx : W64 x) (hy : W64 y) (hz : W64 z) : WV (canonV x y z) := ⟨canonF_w hx, canonF_w hy, canonF_w hz⟩
theorem minusV_w (a b : Nat × Nat × Nat) : WV (minusV a b) := canonV_w (subQ_w _ _) (subQ_w _ _) (subQ_w _ _)
theorem canonV_congr {x y z x' y' z' : Nat} (hx : quietF x = x') (hy : quietF y = y') (hz : quietF z = z') : canonV x y z = canonV x' y' z' := by
  unfold canonV
  rw [← hx, ← hy, ← hz, canonF_quietF, canonF_quietF, canonF_quietF]
theorem less_eq {p q r s x y z : Nat} (hx : quietF x = mulQ p q) (hy : quietF y = mulQ r s) (hz : quietF z = subQ x y) : quietF z = lessQ p q r s := by
  rw [hz]; exact subQ_congr (by rw [hx, mulQ_q]) (by rw [hy, mulQ_q])
theorem length_eq {a : Nat × Nat × Nat} {x y z w : Nat} (hx : quietF x = mulQ a.1 a.1) (hy : quietF y = mulQ a.2.1 a.2.1) (hz : quietF z = mulQ a.2.2 a.2.2) (hw : quietF w = sqrtQ (three x y z)) : canonF w = lengthQ a := by
  unfold lengthQ
  rw [← canonF_quietF w, hw, three_congr (a' := mulQ a.1 a.1) (b' := mulQ a.2.1 a.2.1) (c' := mulQ a.2.2 a.2.2) (by rw [hx, mulQ_q]) (by rw [hy, mulQ_q]) (by rw [hz, mulQ_q])]
theorem unit_zero {a : Nat × Nat × Nat} (h : ¬ (classF (lengthQ a) = 1 ∨ classF (lengthQ a) = 2)) : unitV a = (0, 0, 0) := by unfold unitV; rw [if_neg h]
theorem unit_some {a : Nat × Nat × Nat} (h : classF (lengthQ a) = 1 ∨ classF (lengthQ a) = 2) {x y z : Nat} (hx : quietF x = divQF a.1 (lengthQ a)) (hy : quietF y = divQF a.2.1 (lengthQ a)) (hz : quietF z = divQF a.2.2 (lengthQ a)) :
    canonV x y z = unitV a := by
  unfold unitV; rw [if_pos h]; exact canonV_congr hx hy hz
theorem class12 (x : Nat) : (classF x = 1 ∨ classF x = 2) ↔ rungOf x ≠ 0 ∧ rungOf x < infR := by
  have : bin < infR := by decide
  unfold classF
  split <;> (try split) <;> (try split) <;> (try split) <;> omega
end Go.Lift
