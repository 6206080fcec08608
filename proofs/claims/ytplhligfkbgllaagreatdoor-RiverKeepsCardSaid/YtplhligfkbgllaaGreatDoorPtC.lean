/- A part of the proof of RiverKeepsCard: an own lifter of code into plain terms, and plain laws. -/
import Derived.StillTail
import Derived.Deep.LoopGhost
import Derived.OpenShut
import Derived.Handed
import Derived.RowKit
import Derived.Carry
import Derived.Laws.Bits64b
import Derived.Laws.Bits64
import Derived.Test.YtplhligfkbgllaaGreatDoorPtB
set_option linter.unusedVariables false
set_option linter.unusedSimpArgs false
set_option linter.unusedSectionVars false
open Go.IntKind (i64 u64 u32 u8)
open Go.FloatKind (f64 f32)
namespace Go.Lift
def runD (wk:Wk) (call:Z23) (cx:Cx) (ops:Array Oper) (base:Nat) (A W:List (List Nat)):Nat→List Oper→List EV→List HObj→Nat→(List EV→List HObj→Prop)→Prop
 | _,[],env,h,_,k=>k env h
 | n,o :: l,env,h,tgt,k=>match o.guard with
  | none=>(match ilOp wk.inl o with
   | true=>Zcm cx wk.inl call o env h fun s=>runD wk call cx ops base A W (n+1) l s.env s.heap (tgt+Z17 cx o) k
   | false=>if chkS cx (okId cx ops base A W n) (stOk cx ops base A W n) o env then (aopN wk.named cx o env h tgt).wp fun ev us=>runD wk call cx ops base A W (n+1) l (putE env o.dst ev) (applyU h us) (tgt+Z17 cx o) k else False)
  | some (j,want)=>match Z3m ops env j with
   | none=>if gone ops env j then runD wk call cx ops base A W (n+1) l (putE env o.dst .skip) h (tgt+Z17 cx o) k else False
   | some (d,b)=>Br b
    (match want with
     | true=>(match ilOp wk.inl o with
      | true=>Zcm cx wk.inl call o (env.set d (.val (.bool true))) h fun s=>runD wk call cx ops base A W (n+1) l s.env s.heap (tgt+Z17 cx o) k
      | false=>if chkS cx (okId cx ops base A W n) (stOk cx ops base A W n) o (env.set d (.val (.bool true))) then (aopN wk.named cx o (env.set d (.val (.bool true))) h tgt).wp fun ev us=>runD wk call cx ops base A W (n+1) l (putE (env.set d (.val (.bool true))) o.dst ev) (applyU h us) (tgt+Z17 cx o) k else False)
     | false=>runD wk call cx ops base A W (n+1) l (putE (env.set d (.val (.bool true))) o.dst .skip) h (tgt+Z17 cx o) k)
    (match want with
     | true=>runD wk call cx ops base A W (n+1) l (putE (env.set d (.val (.bool false))) o.dst .skip) h (tgt+Z17 cx o) k
     | false=>(match ilOp wk.inl o with
      | true=>Zcm cx wk.inl call o (env.set d (.val (.bool false))) h fun s=>runD wk call cx ops base A W (n+1) l s.env s.heap (tgt+Z17 cx o) k
      | false=>if chkS cx (okId cx ops base A W n) (stOk cx ops base A W n) o (env.set d (.val (.bool false))) then (aopN wk.named cx o (env.set d (.val (.bool false))) h tgt).wp fun ev us=>runD wk call cx ops base A W (n+1) l (putE (env.set d (.val (.bool false))) o.dst ev) (applyU h us) (tgt+Z17 cx o) k else False))
theorem Z149 {ops:Array Oper} {env:List EV} {j:Nat} {d:Tmp} {b:Bool} (h:Z3m ops env j=some (d,b)):env[d]?=some (.val (.bool b)):=by
 unfold Z3m at h
 split at h
 ·split at h
  ·rename_i hb; cases h; exact hb
  ·cases h
 ·cases h
theorem Z121 {env:List EV} {d:Nat} {v:EV} (h:env[d]?=some v):env.set d v=env:=by
 apply List.ext_getElem?; intro i
 rw [List.getElem?_set]
 split
 ·rename_i e; subst e; rw [if_pos (Z2s h),h]
 ·rfl
theorem Zsy {wk:Wk} {call:Z23} {cx:Cx} {ops:Array Oper} {base:Nat} {A W:List (List Nat)} {k:List EV→List HObj→Prop}:∀ (l:List Oper) (n:Nat) (tgt:Nat),ops.toList.drop n=l→tgt=tgAt cx ops base n →
  ∀ (env:List EV) (h:List HObj),runD wk call cx ops base A W n l env h tgt k=Z47 cx wk.inl call ops base A W (List.range' n l.length) ⟨env,h⟩ fun s=>k s.env s.heap
 | [],n,tgt,_,_,env,h=>rfl
 | o :: l,n,tgt,hl,ht,env,h=>by
  have ho:ops[n]?=some o:=by
   have h0:=congrArg (fun l=>l[0]?) hl
   rw [List.getElem?_drop] at h0
   simpa using h0
  have hl':ops.toList.drop (n+1)=l:=by
   have h1:=congrArg List.tail hl
   rw [List.tail_drop] at h1
   simpa using h1
  have hn:nAt cx ops n=Z17 cx o:=by simp [nAt,ho]
  have next:∀ (env:List EV) (h:List HObj),runD wk call cx ops base A W (n+1) l env h (tgt+Z17 cx o) k=Z47 cx wk.inl call ops base A W (List.range' (n+1) l.length) ⟨env,h⟩ fun s=>k s.env s.heap :=
   Zsy l (n+1) _ hl' (by rw [Zm5,hn,ht])
  have act:∀ env:List EV,(match ilOp wk.inl o with
    | true=>Zcm cx wk.inl call o env h fun s=>runD wk call cx ops base A W (n+1) l s.env s.heap (tgt+Z17 cx o) k
    | false=>if chkS cx (okId cx ops base A W n) (stOk cx ops base A W n) o env then (aopN wk.named cx o env h tgt).wp fun ev us=>runD wk call cx ops base A W (n+1) l (putE env o.dst ev) (applyU h us) (tgt+Z17 cx o) k else False) =
    (match ilOp wk.inl o with
    | true=>Zcm cx wk.inl call o env h fun s=>Z47 cx wk.inl call ops base A W (List.range' (n+1) l.length) s fun s=>k s.env s.heap
    | false=>(if chkS cx (okId cx ops base A W n) (stOk cx ops base A W n) o env then aop cx o env h tgt else .fail).wp fun ev us=>Z47 cx wk.inl call ops base A W (List.range' (n+1) l.length) ⟨putE env o.dst ev,applyU h us⟩ fun s=>k s.env s.heap):=by
   intro env
   cases ilOp wk.inl o with
   | true =>
    simp only
    congr 1
    funext s
    exact next s.env s.heap
   | false =>
    simp only
    by_cases hc:chkS cx (okId cx ops base A W n) (stOk cx ops base A W n) o env=true
    ·rw [if_pos hc,if_pos hc]
     refine (propext Z1ax).trans ?_
     congr 1
     funext ev us
     exact next _ _
    ·rw [if_neg hc,if_neg hc]; rfl
  simp only [List.length_cons,List.range'_succ,Z47,Z41,ho,← ht]
  unfold Z16r gres
  simp only [runD]
  cases hg:o.guard with
  | none =>
   simp only
   rw [act env]
   try (cases ilOp wk.inl o <;> rfl)
  | some jw =>
   obtain ⟨j,want⟩:=jw
   simp only
   cases hgo:Z3m ops env j with
   | none =>
    simp only
    by_cases hgn:gone ops env j=true
    ·rw [if_pos hgn,if_pos hgn,if_pos hgn,next]
     cases ilOp wk.inl o <;> rfl
    ·rw [if_neg hgn,if_neg hgn,if_neg hgn]
     cases ilOp wk.inl o <;> rfl
   | some db =>
    obtain ⟨d,b⟩:=db
    have hd:=Z149 hgo
    simp only
    cases b with
    | true =>
     rw [Z121 hd]
     simp only [Br]
     cases want with
     | true =>
      simp only [if_true]
      rw [act env]
      try (cases ilOp wk.inl o <;> rfl)
     | false =>
      simp only [Bool.true_eq_false,if_false]
      rw [next]
      cases ilOp wk.inl o <;> rfl
    | false =>
     rw [Z121 hd]
     simp only [Br]
     cases want with
     | false =>
      simp only [if_true]
      rw [act env]
      try (cases ilOp wk.inl o <;> rfl)
     | true =>
      simp only [Bool.false_eq_true,if_false]
      rw [next]
      cases ilOp wk.inl o <;> rfl
def deps (o:Oper):List Nat:=o.after.toList.filterMap fun e=>if Region.binds .any e then some e.on else none
def Zdj (ops:Array Oper) (i:Nat):List Nat:=match ops[i]? with
 | some o=>deps o
 | none=>[]
def Zj1 (ops:List Oper):List (List Nat):=ops.foldl (fun acc o=>acc++[(deps o).foldr (fun j l=>j :: (acc.getD j []++l)) [] |>.eraseDups]) []
def Z1e8 (ops:Array Oper) (A:List (List Nat)) (i:Nat):Bool :=
 (A.getD i []).all (fun a=>(Zdj ops i).any fun d=>if Nat.beq a d then true else Z3i a (A.getD d []))&&(Zdj ops i).all fun d=>Nat.blt d i
def Z18y (cx:Cx) (inl:FuncId→Bool) (ops:Array Oper) (A:List (List Nat)) (i j:Nat):Bool :=
 if Z3i i (A.getD j []) then true else match ops[i]?,ops[j]? with
  | some oi,some oj=>oi.apart ops oj&&(Z45 cx oi&&Z45 cx oj||(Z3g oi||Z3g oj)||(Z45 cx oi&&isSt oj||isSt oi&&Z45 cx oj))&&!(Z3i j (A.getD i []))&&!(ilOp inl oi)&&!(ilOp inl oj)
  | _,_=>true
def upTo:Nat→(Nat→Bool)→Bool
 | 0,_=>true
 | n+1,p=>if p n then upTo n p else false
def Z18z (cx:Cx) (inl:FuncId→Bool) (ops:Array Oper) (A:List (List Nat)):Bool:=upTo ops.size (Z1e8 ops A)&&upTo ops.size fun j=>upTo j fun i=>Z18y cx inl ops A i j
theorem Zam:∀ {n:Nat} {p:Nat→Bool},upTo n p=true→∀ i,i<n→p i=true
 | n+1,p,h,i,hi=>by
  simp only [upTo] at h
  split at h
  ·rename_i hp
   rcases Nat.lt_or_ge i n with h' | h'
   ·exact Zam h i h'
   ·have:i=n:=by omega
    subst this; exact hp
  ·cases h
theorem Zan (x:Nat):∀ l:List Nat,Z3i x l=true↔x ∈ l
 | []=>by simp [Z3i]
 | y :: l=>by
  simp only [Z3i]
  by_cases h:x=y
  ·subst h; simp
  ·have:¬ (Nat.beq x y=true):=by simpa using h
   rw [if_neg this,Zan x l]
   simp [h]
theorem Z1az {o:Oper} {e:Edge} (he:e ∈ o.after) (hb:Region.binds .any e=true):e.on ∈ deps o :=
 List.mem_filterMap.2 ⟨e,by simpa using he,by rw [if_pos hb]⟩
theorem Z1b0 {o:Oper} {d:Nat} (h:d ∈ deps o):∃ e ∈ o.after,Region.binds .any e=true∧e.on=d:=by
 obtain ⟨e,he,hd⟩:=List.mem_filterMap.1 h
 split at hd
 ·rename_i hb; cases hd; exact ⟨e,by simpa using he,hb,rfl⟩
 ·cases hd
section
variable {P:Program} {cx:Cx} (hx:CxOk P cx) {inl:FuncId→Bool} {call:Z23} (hcall:Z2j P cx call)
include hx hcall
theorem Z190 (ops:Array Oper) (base:Nat) (A W:List (List Nat)) (hA:Z18z cx inl ops A=true) {k:List EV→List HObj→Prop} {Q:Exit→Act→World→Prop} {c0:RC} {a0:Act} {D:List Nat} (hD:∀ o ∈ ops.toList,∀ t,o.dst=some t→t ∈ D)
  (hq:∀ (c':RC) (env':List EV) (a':Act),k env' c'.heap→Ext c0 c'→c'.Inv→Zt c' env' a'.tmps→Kp D a0 a'→Q .normal a' c'.w) :
  ∀ (N:Nat) (l:List Nat) (listed:Array Bool) {c:RC} (hi:c.Inv) (hext:Ext c0 c) {env:List EV} {a:Act} (hdf:Kp D a0 a) (hg:GOk cx.glob c) (he:Zt c env a.tmps),
   l.length=N→listed.size=ops.size→(∀ i,i ∈ l↔i<ops.size∧listed.getD i true=false)→l.Pairwise (·<·) →
   (∀ i,i<ops.size→listed.getD i false=true→∀ d ∈ A.getD i [],listed.getD d false=true) →
   (∀ i ∈ l,∀ j,j<nAt cx ops i→c.heap[tgAt cx ops base i+j]?=some .pend) →
   Z47 cx inl call ops base A W l ⟨env,c.heap⟩ (fun s=>k s.env s.heap)→wpAny P .any ops Q N listed a c.w:=by
 obtain ⟨hA1,hA2⟩:=Bool.and_eq_true_iff.1 hA
 have anc1:∀ i,i<ops.size→∀ d ∈ A.getD i [],∃ d' ∈ Zdj ops i,d=d'∨d ∈ A.getD d' []:=by
  intro i hi d hd
  have h1:=(Bool.and_eq_true_iff.1 (Zam hA1 i hi)).1
  have h2:=List.all_eq_true.1 h1 d hd
  obtain ⟨d',h3,h4⟩:=List.any_eq_true.1 h2
  refine ⟨d',h3,?_⟩
  split at h4
  ·rename_i h5; exact .inl (by simpa using h5)
  ·exact .inr ((Zan _ _).1 h4)
 have anc2:∀ i,i<ops.size→∀ d ∈ Zdj ops i,d<i:=by
  intro i hi d hd
  have h1:=(Bool.and_eq_true_iff.1 (Zam hA1 i hi)).2
  simpa using List.all_eq_true.1 h1 d hd
 intro N
 induction N with
 | zero =>
  intro l listed c hi hext env a hdf hg he hlen hsz hl hs hLC hp h
  have hl0:l=[]:=List.eq_nil_of_length_eq_zero hlen
  subst hl0
  refine ⟨?_,hq c env a h hext hi he hdf⟩
  cases hr:Region.ready .any ops listed with
  | nil=>rfl
  | cons j js =>
   obtain ⟨h1,o,h2,_⟩:=mem_ready.1 (show j ∈ Region.ready .any ops listed by rw [hr]; exact List.mem_cons_self)
   have:=(hl j).2 ⟨Z1i h2,h1⟩
   cases this
 | succ N ih =>
  intro l listed c hi hext env a hdf hg he hlen hsz hl hs hLC hp h
  have readyL:∀ i,i ∈ Region.ready .any ops listed→i ∈ l∧(∀ d ∈ Zdj ops i,listed.getD d false=true):=by
   intro i hir
   obtain ⟨h1,o,h2,h3⟩:=mem_ready.1 hir
   refine ⟨(hl i).2 ⟨Z1i h2,h1⟩,fun d hd=>?_⟩
   simp only [Zdj,h2] at hd
   obtain ⟨e,he,hb,rfl⟩:=Z1b0 hd
   exact h3 e he hb
  refine ⟨fun hr=>?_,fun i hir=>?_⟩
  ·cases l with
   | nil=>cases hlen
   | cons i0 l =>
    obtain ⟨h1,h2⟩:=(hl i0).1 List.mem_cons_self
    have:i0 ∈ Region.ready .any ops listed:=by
     refine mem_ready.2 ⟨h2,ops[i0],by simp [h1],fun e he hb=>?_⟩
     have hlt:=anc2 i0 h1 e.on (by simp only [Zdj,Array.getElem?_eq_getElem h1]; exact Z1az he hb)
     have hlt2:e.on<ops.size:=by omega
     cases hv:listed.getD e.on true with
     | false =>
      have hm:=(hl e.on).2 ⟨hlt2,hv⟩
      rcases List.mem_cons.1 hm with hm | hm
      ·omega
      ·have:=(List.pairwise_cons.1 hs).1 _ hm; omega
     | true =>
      have hsz2:e.on<listed.size:=by omega
      simp only [Array.getD_eq_getD_getElem?,Array.getElem?_eq_getElem hsz2,Option.getD_some] at hv ⊢
      exact hv
    rw [hr] at this; cases this
  ·obtain ⟨hil,hdep⟩:=readyL i hir
   obtain ⟨hisz,hiun⟩:=(hl i).1 hil
   have ho:ops[i]?=some ops[i]:=Array.getElem?_eq_getElem hisz
   have hanc:∀ d ∈ A.getD i [],listed.getD d false=true:=by
    intro d hd
    obtain ⟨d',h1,h2⟩:=anc1 i hisz d hd
    have h3:=hdep d' h1
    rcases h2 with rfl | h2
    ·exact h3
    ·exact hLC d' (by have:=anc2 i hisz d' h1; omega) h3 d h2
   obtain ⟨pre,post,rfl⟩:=List.append_of_mem hil
   have hb:=Z18v (cx:=cx) (inl:=inl) (call:=call) (base:=base) ho post pre ⟨env,c.heap⟩ (fun r hr o hor=>by
    have hri:r<i:=by
     rw [List.pairwise_append] at hs
     exact hs.2.2 r hr i List.mem_cons_self
    have hp2:=Zam (Zam hA2 i hisz) r hri
    unfold Z18y at hp2
    have hrl:=(hl r).1 (List.mem_append_left _ hr)
    split at hp2
    ·rename_i he
     have:=hanc r ((Zan _ _).1 he)
     rw [getD_both hrl.2] at this; cases this
    ·rename_i he
     rw [hor,ho] at hp2
     simp only [Bool.and_eq_true,Bool.or_eq_true,Bool.not_eq_true'] at hp2
     obtain ⟨⟨⟨⟨p1,p2⟩,p4⟩,p5⟩,p6⟩:=hp2
     exact ⟨by omega,p1,(by rcases p2 with (q | q) | q | q <;> first | exact .inl q | exact .inr (.inl q) | exact .inr (.inr (.inl q)) | exact .inr (.inr (.inr q))),fun hm=>he ((Zan _ _).2 hm),fun hm=>(by rw [(Zan _ _).2 hm] at p4; cases p4),p5,p6⟩) h
   have hn:nAt cx ops i=Z17 cx ops[i]:=by simp [nAt,ho]
   have hnotin:i ∉ pre∧i ∉ post:=by
    rw [List.pairwise_append] at hs
    refine ⟨fun hm=>?_,fun hm=>?_⟩
    ·have:=hs.2.2 i hm i List.mem_cons_self; omega
    ·have:=(List.pairwise_cons.1 hs.2.1).1 i hm; omega
   have hl2:∀ j,j ∈ pre++post↔j<ops.size∧(listed.setIfInBounds i true).getD j true=false:=by
    intro j
    by_cases e:i=j
    ·subst e
     refine ⟨fun hm=>?_,fun hm=>?_⟩
     ·rcases List.mem_append.1 hm with hm | hm
      ·exact absurd hm hnotin.1
      ·exact absurd hm hnotin.2
     ·have:i<listed.size:=by omega
      simp [Array.getD_eq_getD_getElem?,Array.getElem?_setIfInBounds,this] at hm
    ·rw [getD_set_ne true e,← hl j]
     simp only [List.mem_append,List.mem_cons]
     constructor
     ·rintro (h | h)
      ·exact .inl h
      ·exact .inr (.inr h)
     ·rintro (h | h | h)
      ·exact .inl h
      ·exact absurd h.symm e
      ·exact .inr h
   have hs2:(pre++post).Pairwise (·<·):=by
    rw [List.pairwise_append] at hs ⊢
    exact ⟨hs.1,(List.pairwise_cons.1 hs.2.1).2,fun a ha b hb=>hs.2.2 a ha b (List.mem_cons_of_mem _ hb)⟩
   have hLC2:∀ j,j<ops.size→(listed.setIfInBounds i true).getD j false=true→∀ d ∈ A.getD j [],(listed.setIfInBounds i true).getD d false=true:=by
    intro j hj hjl d hd
    refine getD_set_true ?_
    by_cases e:i=j
    ·subst e; exact hanc d hd
    ·rw [getD_set_ne false e] at hjl; exact hLC j hj hjl d hd
   have hlen2:(pre++post).length=N:=by simp at hlen ⊢; omega
   unfold Z41 at hb
   simp only [ho] at hb
   simp only [wpOp,ho]
   have keep:∀ (us:List (Nat × HObj)) (c':RC),c'.heap=applyU c.heap us→Za c.heap (tgAt cx ops base i) (Z17 cx ops[i]) us→∀ r ∈ pre++post,∀ j,j<nAt cx ops r→c'.heap[tgAt cx ops base r+j]?=some .pend:=by
    intro us c' hh ht r hr j hj
    have hr2:r ∈ pre++i :: post:=by
     rcases List.mem_append.1 hr with h | h
     ·exact List.mem_append_left _ h
     ·exact List.mem_append_right _ (List.mem_cons_of_mem _ h)
    have hne:r≠i:=by
     rintro rfl
     rcases List.mem_append.1 hr with h | h
     ·exact hnotin.1 h
     ·exact hnotin.2 h
    have hpd:=hp r hr2 j hj
    rw [hh,Z4l _ _ _ fun u hu e=>?_]
    ·exact hpd
    ·rcases ht u hu with h | ⟨o,h1,h2⟩
     ·rcases Nat.lt_or_ge r i with hlt | hge
      ·have:=Z46 cx ops base hlt; omega
      ·have:=Z46 cx ops base (show i<r by omega); omega
     ·rw [e,hpd] at h1; cases h1; exact h2 rfl
   have run:(aop cx ops[i] env c.heap (tgAt cx ops base i)).wp (fun ev us=>Z47 cx inl call ops base A W (pre++post) ⟨putE env ops[i].dst ev,applyU c.heap us⟩ fun s=>k s.env s.heap) →
     (ops[i]).wp P a c.w (wpAny P .any ops Q N (listed.setIfInBounds i true)) Q:=by
    intro hw
    refine Zyi hx hi hg he ops[i] (tgAt cx ops base i) (fun j hj=>hp i hil j (by rw [hn]; exact hj)) (Res.wp_all (Zyh cx ops[i] env c.heap _) hw) _ Q fun v w' hd=>?_
    obtain ⟨ev,us,c',⟨hk,ht⟩,rfl,hh,hext',hinv,hrel⟩:=hd
    rw [← hh] at hk
    exact ih (pre++post) _ hinv (hext.trans hext') (a:=a.put ops[i].dst v) (Kp.trans (Kp.put (hD ops[i] (by simp))) hdf) (GOk.mono hg hext') (Zt.put (Zt.mono he hext') ops[i].dst hrel) hlen2 (by simp [hsz]) hl2 hs2 hLC2 (keep us c' hh ht) hk
   have keepP:∀ c':RC,Z4r c.heap c'.heap=true→∀ r ∈ pre++post,∀ j,j<nAt cx ops r→c'.heap[tgAt cx ops base r+j]?=some .pend:=by
    intro c' hk r hr j hj
    have hr2:r ∈ pre++i :: post:=by
     rcases List.mem_append.1 hr with h | h
     ·exact List.mem_append_left _ h
     ·exact List.mem_append_right _ (List.mem_cons_of_mem _ h)
    exact Z31 hk _ (hp r hr2 j hj)
   have skip:Z47 cx inl call ops base A W (pre++post) ⟨putE env ops[i].dst .skip,c.heap⟩ (fun s=>k s.env s.heap)→wpAny P .any ops Q N (listed.setIfInBounds i true) (a.put ops[i].dst undef) c.w:=by
    intro hw
    exact ih (pre++post) _ hi hext (a:=a.put ops[i].dst undef) (Kp.trans (Kp.put (hD ops[i] (by simp))) hdf) hg (Zt.put he ops[i].dst (ev:=.skip) rfl) hlen2 (by simp [hsz]) hl2 hs2 hLC2 (keep [] c rfl Za.nil) hw
   have inr:Zcm cx inl call ops[i] env c.heap (fun s'=>Z47 cx inl call ops base A W (pre++post) s' fun s=>k s.env s.heap)→(ops[i]).wp P a c.w (wpAny P .any ops Q N (listed.setIfInBounds i true)) Q:=by
    intro hw
    unfold Zcm at hw
    split at hw
    ·rename_i fa hfa
     refine Zsp hcall hi hg he hfa hw _ Q fun v w' hd=>?_
     obtain ⟨ev,c',hk,rfl,hext',hinv,hrel⟩:=hd
     split at hk
     ·rename_i hpk
      exact ih (pre++post) _ hinv (hext.trans hext') (a:=a.put ops[i].dst v) (Kp.trans (Kp.put (hD ops[i] (by simp))) hdf) (GOk.mono hg hext') (Zt.put (Zt.mono he hext') ops[i].dst hrel) hlen2 (by simp [hsz]) hl2 hs2 hLC2 (keepP c' hpk) hk
     ·exact hk.elim
    ·exact hw.elim
   cases hil:ilOp inl ops[i] with
   | true =>
    rw [hil] at hb
    simp only at hb
    unfold Z16r at hb
    cases hgd:(ops[i]).guard with
    | none =>
     rw [hgd] at hb
     have hw:Region.wanted ops[i] (yielded ops a.tmps)=true:=by simp [Region.wanted,hgd]
     rw [if_pos hw]
     exact .inl (inr hb)
    | some jw =>
     obtain ⟨j,want⟩:=jw
     rw [hgd] at hb
     simp only at hb
     split at hb
     ·split at hb
      ·rename_i hgn
       have hw:Region.wanted ops[i] (yielded ops a.tmps)=false:=by simp [Region.wanted,hgd,Zlw he hgn]
       rw [if_neg (by rw [hw]; simp)]
       exact skip hb
      ·exact hb.elim
     ·rename_i d b hgo
      obtain ⟨hd,hy⟩:=Zdi he hgo
      have hw:Region.wanted ops[i] (yielded ops a.tmps)=(b==want):=by simp [Region.wanted,hgd,hy]
      split at hb
      ·rename_i e
       rw [if_pos (by rw [hw]; simp [e])]
       exact .inl (inr hb)
      ·rename_i e
       rw [if_neg (by rw [hw]; simpa using e)]
       exact skip hb
   | false =>
   rw [hil] at hb
   simp only at hb
   unfold gres at hb
   cases hgd:(ops[i]).guard with
   | none =>
    rw [hgd] at hb
    have hw:Region.wanted ops[i] (yielded ops a.tmps)=true:=by simp [Region.wanted,hgd]
    rw [if_pos hw]
    simp only at hb
    split at hb
    ·exact .inl (run hb)
    ·exact hb.elim
   | some jw =>
    obtain ⟨j,want⟩:=jw
    rw [hgd] at hb
    simp only at hb
    split at hb
    ·split at hb
     ·rename_i hgn
      have hw:Region.wanted ops[i] (yielded ops a.tmps)=false:=by simp [Region.wanted,hgd,Zlw he hgn]
      rw [if_neg (by rw [hw]; simp)]
      exact skip hb
     ·exact hb.elim
    ·rename_i d b hgo
     obtain ⟨hd,hy⟩:=Zdi he hgo
     have hw:Region.wanted ops[i] (yielded ops a.tmps)=(b==want):=by simp [Region.wanted,hgd,hy]
     split at hb
     ·rename_i e
      rw [if_pos (by rw [hw]; simp [e])]
      split at hb
      ·exact .inl (run hb)
      ·exact hb.elim
     ·rename_i e
      rw [if_neg (by rw [hw]; simpa using e)]
      exact skip hb
end
end Go.Lift

namespace Go.Lift
structure LH where
 ls:List (Loc × CK)
 os:List (Nat × TypeId × K)
 dead:List Nat:=[]
structure Hn where
 loops:Nat→Option LH
 joins:Nat→Option LH
 binds:Nat→List Nat:=fun _=>[]
 inl:FuncId→Bool:=fun _=>false
 unroll:Nat→Option Nat:=fun _=>none
 named:Bool:=false
def Hn.wk (hn:Hn):Wk:=⟨hn.inl,hn.named⟩
def Za1:List Nat→List EV→(List EV→Prop)→Prop
 | [],env,k=>k env
 | t :: ts,env,k=>match env[t]? with
  | some (.x (.one (.val (.int ik n))))=>∀ m:Int,m=n→Za1 ts (env.set t (.x (.one (.val (.int ik m))))) k
  | some (.x (.one (.val (.bool n))))=>∀ m:Bool,m=n→Za1 ts (env.set t (.x (.one (.val (.bool m))))) k
  | some (.x (.one (.val (.float fk n))))=>∀ m:Nat,m=n→Za1 ts (env.set t (.x (.one (.val (.float fk m))))) k
  | _=>Za1 ts env k
theorem Zqc {α:Type} {l:List α} {t:Nat} {x:α} (h:l[t]?=some x):l.set t x=l:=by
 apply List.ext_getElem?
 intro i
 by_cases e:t=i
 ·subst e; rw [Z2i h,h]
 ·rw [Z1u e]
theorem Z7q:∀ {ts:List Nat} {env:List EV} {k:List EV→Prop},Za1 ts env k→k env
 | [],_,_,h=>h
 | t :: ts,env,k,h=>by
  simp only [Za1] at h
  split at h
  ·rename_i ik n e; have:=Z7q (h n rfl); rwa [Zqc e] at this
  ·rename_i n e; have:=Z7q (h n rfl); rwa [Zqc e] at this
  ·rename_i fk n e; have:=Z7q (h n rfl); rwa [Zqc e] at this
  ·exact Z7q h
def Zco:Code→Option Nat
 | .region id _ _=>some id
 | .seq a b=>match Zco a with
  | some k=>some k
  | none=>Zco b
 | .cond _ x y=>match Zco x with
  | some k=>some k
  | none=>Zco y
 | .block _ c=>Zco c
 | .loop c=>Zco c
 | _=>none
def dsts:Code→List Nat
 | .region _ ops _=>ops.toList.filterMap (·.dst)
 | .seq a b=>dsts a++dsts b
 | .cond _ x y=>dsts x++dsts y
 | .block _ c=>dsts c
 | .loop c=>dsts c
 | _=>[]
def Zny (env:List EV) (c:Operand) (b:Bool):List EV:=match c with
 | .tmp t=>env.set t (.x (.one (.val (.bool b))))
 | _=>env
def Z191:EV→Option Bool
 | .x (.one (.val (.bool b)))=>some b
 | _=>none
def killL (ds:List Nat) (h:List HObj):List HObj:=ds.foldl (fun h id=>h.set id .dead) h
def HIs (h h':List HObj):Prop:=h=h'
def unr (body:List EV→List HObj→(Exit→List EV→List HObj→Prop)→Prop):Nat→List EV→List HObj→(Exit→List EV→List HObj→Prop)→Prop
 | 0,_,_,_=>False
 | n+1,env,h,k=>body env h fun e env' h'=>match e with
  | .normal=>unr body n env' h' k
  | e=>k e env' h'
def Z2y (cx:Cx) (hn:Hn) (call:Z23):Code→List EV→List HObj→(Exit→List EV→List HObj→Prop)→Prop
 | .skip,env,h,k=>k .normal env h
 | .label _,env,h,k=>k .normal env h
 | .exit id,env,h,k=>k (.exit id) env h
 | .ret,env,h,k=>k .ret env h
 | .region id ops draw,env,h,k=>match draw with
  | false=>Z5t cx hn.wk call ops ops.toList env (h++List.replicate (Z33 cx ops.toList) .pend) h.length (fun env h=>Za1 (hn.binds id) env fun env=>k .normal env h)
  | true=>if Z18z cx hn.inl ops (Zj1 ops.toList) then
    runD hn.wk call cx ops h.length (Zj1 ops.toList) (mkW cx ops (Zj1 ops.toList) env) 0 ops.toList env (h++List.replicate (Z33 cx ops.toList) .pend) h.length (fun env h=>Za1 (hn.binds id) env fun env=>k .normal env h)
   else False
 | .seq a b,env,h,k=>match (Zco b).bind hn.joins with
  | none=>Z2y cx hn call a env h fun e env h=>match e with
   | .normal=>Z2y cx hn call b env h k
   | e=>k e env h
  | some l =>
   ∃ post:CS l.ls→OS l.os→Prop,
    Z2y cx hn call a env h (fun e env' h'=>match e with
     | .normal=>Zsw h.length l.ls l.os ⟨env',h'⟩ fun h1 x y=>HIs h1 (Zai l.os y (mask l.ls ⟨[],killL l.dead h⟩).heap)∧post x y
     | e=>k e env' h') ∧
    ∀ x y,post x y→Z2y cx hn call b (Z86 h.length l.ls l.os (Z35 (dsts a) env) (mask l.ls ⟨[],killL l.dead h⟩).heap x y).env
     (Z86 h.length l.ls l.os (Z35 (dsts a) env) (mask l.ls ⟨[],killL l.dead h⟩).heap x y).heap k
 | .cond c x y,env,h,k=>match Z191 (cx.eval env c) with
  | some b=>Br b (Z2y cx hn call x (Zny env c true) h k) (Z2y cx hn call y (Zny env c false) h k)
  | none=>False
 | .block id c,env,h,k=>Z2y cx hn call c env h fun e env h=>match e with
  | .exit id'=>if id'=id then k .normal env h else k (.exit id') env h
  | e=>k e env h
 | .loop c,env,h,k=>match (Zco c).bind hn.unroll with
  | some n=>unr (fun env h k=>Z2y cx hn call c env h k) n env h k
  | none=>match (Zco c).bind hn.loops with
  | none=>False
  | some l =>
   Zsw h.length l.ls l.os ⟨env,h⟩ fun h1 x0 y0=>HIs (Zai l.os y0 h1) h1 ∧
    ∃ (I:CS l.ls→OS l.os→Prop) (μ:CS l.ls→OS l.os→Nat),I x0 y0 ∧
     ∀ x y,I x y→Z2y cx hn call c (Z86 h.length l.ls l.os (Z35 (dsts c) env) h1 x y).env (Z86 h.length l.ls l.os (Z35 (dsts c) env) h1 x y).heap fun e env' h'=>match e with
      | .normal=>Zsw h.length l.ls l.os ⟨env',h'⟩ fun h2 x' y'=>HIs h2 (Zai l.os y' h1)∧I x' y'∧μ x' y'<μ x y
      | e=>k e env' h'
 | _,_,_,_=>False
theorem Ext.pends {c:RC} (hi:c.Inv) (n:Nat):Ext c { c with heap:=c.heap++List.replicate n .pend }∧RC.Inv { c with heap:=c.heap++List.replicate n .pend }:=by
 have back:∀ (i:Nat) (o:HObj),(c.heap++List.replicate n .pend)[i]?=some o→o.live→c.heap[i]?=some o:=by
  intro i o h hl
  rw [List.getElem?_append] at h
  split at h
  ·exact h
  ·rw [List.getElem?_replicate] at h
   split at h
   ·cases h; exact absurd hl (by simp [HObj.live,HObj.md?])
   ·cases h
 have fwd:∀ (i:Nat) (o:HObj),c.heap[i]?=some o→(c.heap++List.replicate n .pend)[i]?=some o:=fun i o h=>by
  rw [List.getElem?_append_left (Z2s h)]; exact h
 have E:Ext c { c with heap:=c.heap++List.replicate n .pend }:={
  base:=rfl,size:=Nat.le_refl _,os:=rfl,tape:=rfl,output:=rfl
  keep:=fun _ _ _=>rfl
  cells:=fun b vs t z h=>⟨vs,z,h,rfl,.inl rfl⟩
  blk:=fun _ _ _ _=>rfl
  ev:=fun i o h=>⟨o,fwd i o h,HObj.ev_refl o⟩
  fresh:=fun i o' b h hl hold _ _=>absurd hl (hold o' (back i o' h hl)) }
 refine ⟨E,?_⟩
 constructor
 ·intro i o h
  by_cases hl:o.live
  ·exact HObj.rel_mono E (back i o h hl) (fun _ _ _=>rfl) (hi.objs i o (back i o h hl))
  ·cases o <;> first | trivial | exact absurd rfl hl
 ·intro i j oi oj b h1 l1 h2 l2 b1 b2
  exact hi.inj i j oi oj b (back _ _ h1 l1) l1 (back _ _ h2 l2) l2 b1 b2
 ·intro i o b h1 l1 b1
  exact hi.base i o b (back _ _ h1 l1) l1 b1
 ·exact hi.basele
theorem Less.killL {c:RC}:∀ (ms:List Nat) {h:List HObj},Less c h→Less c (Lift.killL ms h)
 | [],h,hl=>hl
 | id :: ms,h,hl=>Less.killL ms (hl.dead id)
theorem Zdk {n:Nat}:∀ (os:List (Nat × TypeId × K)) (y:OS os) (h:List HObj),(∀ (id:Nat) (o:HObj),h[id]?=some o→o.below n)→∀ (id:Nat) (o:HObj),(Zai os y h)[id]?=some o→o.below n
 | [],_,h,hb,id,o,ho=>hb id o ho
 | (i,t,e) :: os,y,h,hb,id,o,ho=>Zdk os y.2 _ (fun j o hj=>by
   rcases Z1d hj with ⟨rfl,rfl,_⟩ | ⟨_,hj⟩
   ·exact Z18w _ _ _ _
   ·exact hb j o hj) id o ho
theorem Zsz:∀ (D:List Nat) (env:List EV) (t:Nat) (e:EV),(Z35 D env)[t]?=some e→(t ∈ D∧e=.junk)∨env[t]?=some e
 | [],env,t,e,h=>.inr h
 | d :: D,env,t,e,h=>by
  rcases Zsz D (env.set d .junk) t e h with ⟨h1,h2⟩ | h1
  ·exact .inl ⟨List.mem_cons_of_mem _ h1,h2⟩
  ·rcases Z1d h1 with ⟨rfl,rfl,_⟩ | ⟨_,h1⟩
   ·exact .inl ⟨List.mem_cons_self,rfl⟩
   ·exact .inr h1
theorem Zm9:∀ (D:List Nat) (env:List EV),(Z35 D env).length=env.length
 | [],env=>rfl
 | d :: D,env=>by rw [show Z35 (d :: D) env=Z35 D (env.set d .junk) from rfl,Zm9 D]; simp
theorem Z1c2 {c c':RC} {D:List Nat} {env:List EV} {a a':Act} (he:Zt c env a.tmps) (hx:Ext c c') (hk:Kp D a a'):Zt c' (Z35 D env) a'.tmps:=by
 refine ⟨by rw [Zm9,he.1,hk.size],fun t e h=>?_⟩
 rcases Zsz D env t e h with ⟨h1,rfl⟩ | h1
 ·have hl:=Z2s h
  rw [Zm9,he.1,← hk.size] at hl
  exact ⟨a'.tmps[t],by simp [hl],trivial⟩
 ·by_cases hd:t ∈ D
  ·have hl:=Z2s h1
   rw [he.1,← hk.size] at hl
   have hj:∀ (D:List Nat) (env:List EV),t ∈ D→t<env.length→(Z35 D env)[t]?=some .junk:=by
    intro D
    induction D with
    | nil=>intro env h _; cases h
    | cons d D ih =>
     intro env h hl
     by_cases h2:t ∈ D
     ·exact ih (env.set d .junk) h2 (by simpa using hl)
     ·have:t=d:=by
       rcases List.mem_cons.1 h with h | h
       ·exact h
       ·exact absurd h h2
      subst this
      show (Z35 D (env.set t .junk))[t]?=some .junk
      have h3:(env.set t .junk)[t]?=some .junk:=by rw [List.getElem?_set]; simp [hl]
      have key:∀ (D:List Nat) (env:List EV),env[t]?=some .junk→(Z35 D env)[t]?=some .junk:=by
       intro D
       induction D with
       | nil=>intro env h; exact h
       | cons d D ih =>
        intro env h
        refine ih _ ?_
        by_cases e:d=t
        ·subst e; exact Z2i h
        ·rw [Z1u e]; exact h
      exact key D _ h3
   rw [hj D env hd (Z2s h1)] at h
   cases h
   exact ⟨a'.tmps[t],by simp [hl],trivial⟩
  ·obtain ⟨v,h2,h3⟩:=he.2 t e h1
   exact ⟨v,by rw [hk.get t hd]; exact h2,EV.rel_mono hx h3⟩
section
variable {P:Program} {cx:Cx} (hx:CxOk P cx) (hmix:P.follows .mixedOrders=true) (hn:Hn) {call:Z23} (hcall:Z2j P cx call)
include hx hmix hcall
theorem Z122 (id:Nat) (ops:Array Oper) (draw:Bool) {D:List Nat} (hD:∀ o ∈ ops.toList,∀ t,o.dst=some t→t ∈ D) {c:RC} (hi:c.Inv) {env:List EV} {a:Act} (hg:GOk cx.glob c) (he:Zt c env a.tmps) {k:Exit→List EV→List HObj→Prop}
  (h:Z2y cx hn call (.region id ops draw) env c.heap k) {Q:Exit→Act→World→Prop}
  (hq:∀ (e:Exit) (c':RC) (env':List EV) (a':Act),k e env' c'.heap→Ext c c'→c'.Inv→Zt c' env' a'.tmps→Kp D a a'→Q e a' c'.w):(Code.region id ops draw).wp P Q a c.w:=by
 obtain ⟨E1,I1⟩:=Ext.pends hi (Z33 cx ops.toList)
 cases draw with
 | false =>
  simp only [Z2y] at h
  refine wp_region ?_
  have:=Z85 hx hcall ops ops.toList 0 (by simp) hD (c:={ c with heap:=c.heap++List.replicate (Z33 cx ops.toList) .pend }) I1 (a:=a) (GOk.mono hg E1) (Zt.mono he E1) (tgt:=c.heap.length)
   (fun i hi=>by simp [hi]) h (Q:=Q) (fun c' env' a' h1 h2 h3 h4 h5=>hq .normal c' env' a' (Z7q h1) (E1.trans h2) h3 h4 h5)
  rw [List.range_eq_range']
  simpa using this
 | true =>
  simp only [Z2y] at h
  split at h
  ·rename_i hd
   refine wp_region_any hmix ?_
   have E2:=E1.trans (Ext.grows (c:={ c with heap:=c.heap++List.replicate (Z33 cx ops.toList) .pend }) (Grows.drew c.w))
   have I2:=RC.Inv.grows I1 (Grows.drew c.w)
   have hc:=Zsy (W:=mkW cx ops (Zj1 ops.toList) env) (wk:=hn.wk) (call:=call) (cx:=cx) (ops:=ops) (base:=c.heap.length) (A:=Zj1 ops.toList) (k:=fun env h=>Za1 (hn.binds id) env fun env=>k .normal env h) ops.toList 0 c.heap.length (by simp) (by simp [tgAt,Z33]) env (c.heap++List.replicate (Z33 cx ops.toList) .pend)
   have hc:=hc ▸ h
   refine Z190 hx hcall ops c.heap.length (Zj1 ops.toList) (mkW cx ops (Zj1 ops.toList) env) hd (k:=fun env h=>Za1 (hn.binds id) env fun env=>k .normal env h) (c0:=c) (a0:=a) hD (fun c' env' a' h1 h2 h3 h4 h5=>hq .normal c' env' a' (Z7q h1) h2 h3 h4 h5) ops.size (List.range' 0 ops.toList.length) _
    (c:={ c with heap:=c.heap++List.replicate (Z33 cx ops.toList) .pend,w:=c.w.drew }) I2 E2 (a:=a) Kp.refl (GOk.mono hg E2) (Zt.mono he E2) (by simp) (by simp) ?_ ?_ ?_ ?_ hc
   ·intro i
    simp only [List.mem_range',Array.getD_eq_getD_getElem?,Array.getElem?_replicate]
    constructor
    ·rintro ⟨j,hj,rfl⟩
     have:0+1*j<ops.size:=by simp at hj; omega
     exact ⟨this,by rw [if_pos this]; rfl⟩
    ·rintro ⟨hlt,_⟩
     exact ⟨i,by simpa using hlt,by omega⟩
   ·exact List.pairwise_lt_range'
   ·intro i hi hl
    rw [getD_replicate_false] at hl; cases hl
   ·intro i _ j hj
    have h1:tgAt cx ops c.heap.length i+nAt cx ops i≤c.heap.length+Z33 cx ops.toList:=by
     rw [← Zm5]
     unfold tgAt Z33
     have:((ops.toList.take (i+1)).map (Z17 cx)).sum≤(ops.toList.map (Z17 cx)).sum:=by
      conv=>rhs; rw [← List.take_append_drop (i+1) ops.toList]
      rw [List.map_append,List.sum_append]; omega
     omega
    have h2:c.heap.length≤tgAt cx ops c.heap.length i:=by unfold tgAt; omega
    rw [List.getElem?_append_right (by omega),List.getElem?_replicate,if_pos (by omega)]
  ·exact h.elim
theorem Zgb:∀ (code:Code) {D:List Nat} (hD:∀ t ∈ dsts code,t ∈ D) {c:RC} (hi:c.Inv) {env:List EV} {a:Act} (hg:GOk cx.glob c) (he:Zt c env a.tmps) {k:Exit→List EV→List HObj→Prop}
  (h:Z2y cx hn call code env c.heap k) {Q:Exit→Act→World→Prop}
  (hq:∀ (e:Exit) (c':RC) (env':List EV) (a':Act),k e env' c'.heap→Ext c c'→c'.Inv→Zt c' env' a'.tmps→Kp D a a'→Q e a' c'.w),code.wp P Q a c.w:=by
 intro code
 induction code with
 | skip=>intro D hD c hi env a hg he k h Q hq; exact wp_skip (hq _ c env a h (Ext.refl c) hi he Kp.refl)
 | label l=>intro D hD c hi env a hg he k h Q hq; exact wp_label (hq _ c env a h (Ext.refl c) hi he Kp.refl)
 | exit id=>intro D hD c hi env a hg he k h Q hq; exact wp_exit (hq _ c env a h (Ext.refl c) hi he Kp.refl)
 | ret=>intro D hD c hi env a hg he k h Q hq; exact wp_ret (hq _ c env a h (Ext.refl c) hi he Kp.refl)
 | region id ops draw =>
  intro D hD c hi env a hg he k h Q hq
  exact Z122 hx hmix hn hcall id ops draw (fun o ho t ht=>hD t (List.mem_filterMap.2 ⟨o,ho,ht⟩)) hi hg he h hq
 | block id b ih =>
  intro D hD c hi env a hg he k h Q hq
  refine wp_block (ih hD hi hg he h fun e c' env' a' h1 h2 h3 h4 h5=>?_)
  cases e with
  | exit id' =>
   simp only [Exit.inBlock] at h1 ⊢
   split
   ·rename_i e; rw [if_pos e] at h1; exact hq _ c' env' a' h1 h2 h3 h4 h5
   ·rename_i e; rw [if_neg e] at h1; exact hq _ c' env' a' h1 h2 h3 h4 h5
  | _=>exact hq _ c' env' a' h1 h2 h3 h4 h5
 | cond t x y ihx ihy =>
  intro D hD c hi env a hg he k h Q hq
  simp only [Z2y] at h
  split at h
  ·rename_i b hb
   have hv:a.eval t=.bool b:=by
    have:=Zis hg he t
    unfold Z191 at hb
    split at hb
    ·rename_i b' he'; cases hb; rw [he'] at this; exact this
    ·cases hb
   have hr:∀ b',b=b'→Zt c (Zny env t b') a.tmps:=by
    rintro b' rfl
    unfold Zny
    split
    ·rename_i tm
     refine ⟨by simp [he.1],fun i e hi=>?_⟩
     rcases Z1d hi with ⟨rfl,rfl,hl⟩ | ⟨_,hi⟩
     ·refine ⟨a.tmps[tm]'(by rw [← he.1]; exact hl),by simp,?_⟩
      have:a.tmps.getD tm undef=.bool b:=hv
      simp only [Array.getD_eq_getD_getElem?] at this
      rw [Array.getElem?_eq_getElem (by rw [← he.1]; exact hl)] at this
      exact this
     ·exact he.2 i e hi
    ·exact he
   cases b with
   | true=>exact wp_cond_true hv (ihx (fun t ht=>hD t (List.mem_append_left _ ht)) hi hg (hr true rfl) (Br.true h rfl) hq)
   | false=>exact wp_cond_false hv (ihy (fun t ht=>hD t (List.mem_append_right _ ht)) hi hg (hr false rfl) (Br.false h rfl) hq)
  ·exact h.elim
 | seq x y ihx ihy =>
  intro D hD c hi env a hg he k h Q hq
  have hDx:∀ t ∈ dsts x,t ∈ D:=fun t ht=>hD t (List.mem_append_left _ ht)
  have hDy:∀ t ∈ dsts y,t ∈ D:=fun t ht=>hD t (List.mem_append_right _ ht)
  have up:∀ {a a':Act},Kp (dsts x) a a'→Kp D a a':=fun h=>⟨h.defers,h.size,fun t ht=>h.get t fun hm=>ht (hDx t hm)⟩
  simp only [Z2y] at h
  split at h
  ·refine wp_seq (ihx hDx hi hg he h fun e c' env' a' h1 h2 h3 h4 h5=>?_)
   cases e with
   | normal=>exact ihy hDy h3 (GOk.mono hg h2) h4 h1 (fun e c2 env2 a2 g1 g2 g3 g4 g5=>hq e c2 env2 a2 g1 (h2.trans g2) g3 g4 (g5.trans h5))
   | _=>exact hq _ c' env' a' h1 h2 h3 h4 h5
  ·rename_i l hl
   obtain ⟨post,ha,hb⟩:=h
   have B1:∀ (t:Nat) (e:EV),(Z35 (dsts x) env)[t]?=some e→e.below c.heap.length:=by
    intro t e hte
    obtain ⟨v,_,hv⟩:=(Zm8 (dsts x) he).2 t e hte
    exact EV.below_of hv
   have B2:∀ (id:Nat) (o:HObj),(mask l.ls ⟨[],killL l.dead c.heap⟩).heap[id]?=some o→o.below c.heap.length:=by
    intro id o ho
    exact HObj.below_of ((Zf3 l.ls (s:=⟨[],killL l.dead c.heap⟩) (Less.killL l.dead (Less.refl hi))).rel id o ho)
   refine wp_seq (ihx (D:=dsts x) (fun t ht=>ht) hi hg he ha fun e c' env' a' h1 h2 h3 h4 h5=>?_)
   cases e with
   | normal =>
    obtain ⟨h1',x,y,⟨rfl,hp⟩,_,hA⟩:=Zga h3 h2 rfl h4 h1 (Z1c2 he h2 h5)
    obtain ⟨c2,e1,e2,e3,e4,e5⟩:=hA B1 (Zdk l.os y _ B2)
    have h6:=hb x y hp
    rw [show (Z86 c.heap.length l.ls l.os (Z35 (dsts _) env) (mask l.ls ⟨[],killL l.dead c.heap⟩).heap x y).heap=c2.heap from e4.symm] at h6
    have:=ihy (a:=a') hDy e2 (GOk.mono hg e3) e5 h6 (Q:=Q) (fun e c3 env3 a3 g1 g2 g3 g4 g5=>hq e c3 env3 a3 g1 (e3.trans g2) g3 g4 (g5.trans (up h5)))
    rw [e1] at this
    exact this
   | _=>exact hq _ c' env' a' h1 h2 h3 h4 (up h5)
 | loop b ih =>
  intro D hD c hi env a hg he k h Q hq
  simp only [Z2y] at h
  split at h
  ·rename_i N hN
   have up:∀ {a a':Act},Kp (dsts b) a a'→Kp D a a':=fun h=>⟨h.defers,h.size,fun t ht=>h.get t fun hm=>ht (hD t hm)⟩
   refine wp_loop_ghost (fun n a' w'=>∃ c' env',unr (fun env h k=>Z2y cx hn call b env h k) n env' c'.heap k∧c'.w=w'∧c'.Inv∧Ext c c'∧Zt c' env' a'.tmps∧Kp D a a') N ⟨c,env,h,rfl,hi,Ext.refl c,he,Kp.refl⟩ ?_
   rintro n a' w' ⟨c',env',hu,rfl,e2,e3,e5,e6⟩
   cases n with
   | zero=>exact hu.elim
   | succ n =>
    refine ih (D:=D) hD e2 (GOk.mono hg e3) e5 hu fun e c2 env2 a2 g1 g2 g3 g4 g5=>?_
    cases e with
    | normal=>exact ⟨n,Nat.lt_succ_self n,c2,env2,g1,rfl,g3,e3.trans g2,g4,g5.trans e6⟩
    | _=>exact hq _ c2 env2 a2 g1 (e3.trans g2) g3 g4 (g5.trans e6)
  split at h
  ·exact h.elim
  ·rename_i l hl
   have hE0:Zt c (Z35 (dsts b) env) a.tmps:=Zm8 (dsts b) he
   obtain ⟨h1,x0,y0,⟨hpl,I,μ,h0,hstep⟩,hO1,hA⟩:=Zga hi (Ext.refl c) rfl he h hE0
   have up:∀ {a a':Act},Kp (dsts b) a a'→Kp D a a':=fun h=>⟨h.defers,h.size,fun t ht=>h.get t fun hm=>ht (hD t hm)⟩
   have B1:∀ (t:Nat) (e:EV),(Z35 (dsts b) env)[t]?=some e→e.below c.heap.length:=fun t e hte=>by
    obtain ⟨v,_,hv⟩:=hE0.2 t e hte; exact EV.below_of hv
   have B2:∀ (id:Nat) (o:HObj),h1[id]?=some o→o.below c.heap.length:=fun id o ho=>HObj.below_of (hO1 id o ho)
   refine wp_loop_ghost (fun n a' w'=>∃ x y c',I x y∧μ x y=n∧c'.w=w'∧c'.Inv∧Ext c c'∧c'.heap=(Z86 c.heap.length l.ls l.os (Z35 (dsts b) env) h1 x y).heap∧Zt c' (Z86 c.heap.length l.ls l.os (Z35 (dsts b) env) h1 x y).env a'.tmps∧Kp (dsts b) a a') (μ x0 y0) ?_ ?_
   ·obtain ⟨c',e1,e2,e3,e4,e5⟩:=hA B1 B2
    refine ⟨x0,y0,c',h0,rfl,e1,e2,e3,?_,?_,Kp.refl⟩
    ·simp only [Z86,show Zai l.os y0 h1=h1 from hpl]; exact e4
    ·simp only [Z86,show Zai l.os y0 h1=h1 from hpl]; exact e5
   ·rintro n a' w' ⟨x,y,c',hI,rfl,rfl,e2,e3,e4,e5,e6⟩
    have h6:=hstep x y hI
    rw [← e4] at h6
    refine ih (D:=dsts b) (fun t ht=>ht) e2 (GOk.mono hg e3) e5 h6 fun e c2 env2 a2 g1 g2 g3 g4 g5=>?_
    cases e with
    | normal =>
     obtain ⟨h3,x',y',⟨rfl,hI',hlt⟩,_,hA'⟩:=Zga g3 (e3.trans g2) rfl g4 g1 (Z1c2 he (e3.trans g2) (g5.trans e6))
     obtain ⟨c3,f1,f2,f3,f4,f5⟩:=hA' B1 (Zdk l.os y' _ B2)
     exact ⟨_,hlt,x',y',c3,hI',rfl,f1,f2,f3,f4,f5,g5.trans e6⟩
    | _=>exact hq _ c2 env2 a2 g1 (e3.trans g2) g3 g4 (up (g5.trans e6))
 | _=>intro D hD c hi env a hg he k h; exact h.elim
end
end Go.Lift

namespace Go.Lift
def Z1c3 (h:List HObj):(k:K)→XV→Option k.T
 | .ptr e,.one (.ref id 0)=>match h[id]? with
  | some (.box _ _ cs)=>match e.takeL h cs with
   | some (y,[])=>some (some y)
   | _=>none
  | _=>none
 | _,_=>none
def XV.takeX (h:List HObj) (k:K) (v:XV):Option k.T:=match v.take h k with
 | some x=>some x
 | none=>Z1c3 h k v
theorem XV.takeX_repT {c:RC} (hi:c.Inv) {hh:List HObj} {p:Nat→Prop} (T:Tak c hh p) {k:K} {v:XV} {x:k.T} {u:Value} (h:v.takeX hh k=some x) (hr:v.rel c u):KRep c.w p k x u:=by
 unfold XV.takeX at h
 split at h
 ·rename_i y hy
  obtain rfl:=Option.some.inj h
  exact XV.take_repT hi T hy hr
 ·unfold Z1c3 at h
  split at h
  ·rename_i e id _ _
   split at h
   ·rename_i m t cs ho
    split at h
    ·rename_i y hy
     obtain rfl:=Option.some.inj h
     obtain ⟨ho',hP⟩:=T.box id m t cs ho
     have hr:SV.rel c (.ref id 0) u:=hr
     simp only [SV.rel,ho'] at hr
     obtain ⟨b,hb,rfl⟩:=hr
     obtain ⟨b',vs,hb',hv,ha⟩:=hi.objs id _ ho'
     rw [hb] at hb'; cases hb'
     obtain ⟨v1,v2,e1,hrep,h2⟩:=K.takeL_repT hi T e cs vs.toList _ _ hy ha
     cases h2
     simp only [List.append_nil] at e1
     unfold KRep
     rw [if_neg (by simp [K.agg])]
     refine .inr ⟨y,b,0,vs.toList,rfl,rfl,hP b hb (Z1i hv),by rw [e1]; exact hrep,fun j v hj=>?_⟩
     simp only [World.cell?,hv]
     simpa using hj
    ·cases h
   ·cases h
  ·cases h
def out1 (h:List HObj) (v:XV):(r:RK)→(r.T→Mvs→Prop)→Prop
 | .own t e,K=>match v with
  | .one (.osl id off len)=>match h[id]? with
   | some (.row .rw t' e' xs)=>if q:e'=e then (if t'=t then (off=0∧len=List.length xs)∧K (q ▸ xs) [(some id,.row .rw t e (q ▸ xs))] else False) else False
   | _=>False
  | .one (.val v)=>if Za9 v then K [] [(none,.row .rw t e [])] else False
  | .one .void=>K [] [(none,.row .rw t e [])]
  | _=>False
 | .snap k,K=>match k.flat with
  | true=>(match v.take [] k with
   | some x=>K x []
   | none=>False)
  | false=>(match v.takeX (hz h) k with
   | some x=>K x []
   | none=>False)
def Z123 (env:List EV):List ResultVar→List RK→List Nat
 | .tmp t :: vars,.own _ _ :: rs=>(match env[t]? with
  | some (.x (.one (.osl id _ _)))=>[id]
  | _=>[])++Z123 env vars rs
 | _ :: vars,_ :: rs=>Z123 env vars rs
 | _,_=>[]
def frzB (ids:List Nat):Nat→List HObj→List HObj
 | _,[]=>[]
 | i,.row .rw t e xs :: h=>(if Z3i i ids then .row .rw t e xs else .row .fz t e xs) :: frzB ids (i+1) h
 | i,.box .rw t cs :: h=>(if Z3i i ids then .box .rw t cs else .box .fz t cs) :: frzB ids (i+1) h
 | i,.mp .rw a b xs :: h=>(if Z3i i ids then .mp .rw a b xs else .mp .fz a b xs) :: frzB ids (i+1) h
 | i,o :: h=>o :: frzB ids (i+1) h
theorem Z124 (ids:List Nat):∀ (h:List HObj) (i:Nat),Frz h (frzB ids i h)
 | [],i=>Frz.refl _
 | o :: h,i=>by
  obtain ⟨h1,h2⟩:=Z124 ids h (i+1)
  have key:∀ o':HObj,HObj.Fz o o'→frzB ids i (o :: h)=o' :: frzB ids (i+1) h→Frz (o :: h) (frzB ids i (o :: h)):=by
   intro o' hf e
   rw [e]
   refine ⟨by simp [h1],fun id q hq=>?_⟩
   cases id with
   | zero=>simp only [List.getElem?_cons_zero,Option.some.injEq] at hq; subst hq; exact ⟨o',rfl,hf⟩
   | succ id=>exact h2 id q hq
  cases o with
  | pend=>exact key _ (.refl _) rfl
  | dead=>exact key _ (.refl _) rfl
  | box m t cs=>cases m with
   | rw =>
    by_cases q:Z3i i ids=true
    ·exact key _ (.refl _) (by simp [frzB,q])
    ·exact key _ (.box t cs) (by simp [frzB,q])
   | lk=>exact key _ (.refl _) rfl
   | fz=>exact key _ (.refl _) rfl
  | row m t e xs=>cases m with
   | rw =>
    by_cases q:Z3i i ids=true
    ·exact key _ (.refl _) (by simp [frzB,q])
    ·exact key _ (.row t e xs) (by simp [frzB,q])
   | lk=>exact key _ (.refl _) rfl
   | fz=>exact key _ (.refl _) rfl
  | mp m a b xs=>cases m with
   | rw =>
    by_cases q:Z3i i ids=true
    ·exact key _ (.refl _) (by simp [frzB,q])
    ·exact key _ (.mp a b xs) (by simp [frzB,q])
   | lk=>exact key _ (.refl _) rfl
   | fz=>exact key _ (.refl _) rfl
def Zj2 (env:List EV) (vars:List ResultVar) (rs:List RK) (h:List HObj):List HObj:=match rs.all RK.flat with
 | true=>h
 | false=>frzB (Z123 env vars rs) 0 h
theorem Z192 (env:List EV) (vars:List ResultVar) (rs:List RK) (h:List HObj):Frz h (Zj2 env vars rs h):=by
 unfold Zj2
 split
 ·exact Frz.refl _
 ·exact Z124 _ _ _
def Z10x (cx:Cx) (h:List HObj) (t:TypeId) (e:EV) (K:XV→Prop):Prop:=(Z6x cx h t e).wp fun ev _=>match ev with
 | .x v=>K v
 | _=>False
def outs (cx:Cx) (env:List EV) (h:List HObj):(vars:List ResultVar)→(rs:List RK)→(RS rs→Mvs→Prop)→Prop
 | [],[],K=>K () []
 | .tmp t :: vars,r :: rs,K=>match env[t]? with
  | some (.x v)=>out1 h v r fun x m=>outs cx env h vars rs fun y m'=>K (x,y) (m++m')
  | _=>False
 | .cell a t :: vars,r :: rs,K=>Z10x cx h t (env.getD a .junk) fun v=>out1 h v r fun x m=>outs cx env h vars rs fun y m'=>K (x,y) (m++m')
 | _,_,_=>False
def Z10y:(ks:List K)→KS ks→List EV
 | [],_=>[]
 | k :: ks,x=>.x (XV.ofData k x.1) :: Z10y ks x.2
def Z56 (cx:Cx) (hn:Hn) (call:Z23) (nt:Nat) (vars:List ResultVar) (code:Code) (ks:List K) (rs:List RK) (x:KS ks) (post:RS rs→Prop):Prop :=
 Z2y cx hn call code (Z10y ks x++List.replicate (nt - ks.length) (.x (.one .junk))) [] fun e env h=>match e with
  | .normal | .ret=>outs cx env (Zj2 env vars rs h) vars rs fun r m=>if Zcn (srcs m) then post r else False
  | _=>False
def Zi (cx:Cx) (hn:Hn) (nt:Nat) (vars:List ResultVar) (code:Code) (ks:List K) (rs:List RK) (x:KS ks) (post:RS rs→Prop):Prop:=Z56 cx hn Z3f nt vars code ks rs x post
theorem Zyp {c:RC} {w:World} (hc:c.w=w) {ok:Nat→Prop} (hok:∀ b,ok b→c.ok b):∀ (ks:List K) (x:KS ks) (vs:List Value),Z3l w ok ks x vs→All2 (EV.rel c) (Z10y ks x) vs∧vs.length=ks.length
 | [],x,vs,h=>by obtain rfl:vs=[]:=h; exact ⟨.nil,rfl⟩
 | k :: ks,x,vs,h=>by
  obtain ⟨v,r,rfl,h1,h2⟩:=h
  obtain ⟨h3,h4⟩:=Zyp hc hok ks x.2 r h2
  exact ⟨.cons (XV.ofData_rel (by rw [hc]; exact KRep.mono (fun b hb=>⟨hok b hb,rfl⟩) h1)) h3,by simp [h4]⟩
def Znz (c:RC) (m:Mvs) (obs:List (Option Nat)):Prop :=
 obs.length=m.length∧∀ (i b:Nat),obs[i]?=some (some b)→∃ id o,m[i]?=some (some id,o)∧c.heap[id]?=some o∧o.md?=some .rw∧c.blk id=some b
theorem Znz.append {c:RC} {m m':Mvs} {o o':List (Option Nat)} (h:Znz c m o) (h':Znz c m' o'):Znz c (m++m') (o++o'):=by
 refine ⟨by simp [h.1,h'.1],fun i b hi=>?_⟩
 rw [List.getElem?_append] at hi
 split at hi
 ·rename_i hl
  obtain ⟨id,ob,h1,h2⟩:=h.2 i b hi
  exact ⟨id,ob,by rw [List.getElem?_append_left (Z2s h1)]; exact h1,h2⟩
 ·rename_i hl
  obtain ⟨id,ob,h1,h2⟩:=h'.2 _ b hi
  exact ⟨id,ob,by rw [List.getElem?_append_right (by rw [← h.1]; omega),← h.1]; exact h1,h2⟩
theorem Z125 {c:RC} (hi:c.Inv) {w:World} (hb:w.heap.size≤c.base) {v:XV} {u:Value} (hr:v.rel c u) {r:RK} {K:r.T→Mvs→Prop} (h:out1 c.heap v r K) :
  ∃ x m obs,K x m∧Znz c m obs∧∀ fr:Nat→Prop,(∀ b,c.ok b→fr b)→Res1 w c.w fr r x u obs:=by
 cases r with
 | snap k =>
  simp only [out1] at h
  split at h
  ·rename_i hf
   split at h
   ·rename_i x hx
    exact ⟨x,[],[],h,⟨rfl,fun i b h=>by simp at h⟩,fun fr _=>⟨rfl,KRep.toflat hf (XV.take0_rep hx hr)⟩⟩
   ·exact h.elim
  ·split at h
   ·rename_i x hx
    exact ⟨x,[],[],h,⟨rfl,fun i b h=>by simp at h⟩,fun fr hfr=>⟨rfl,(XV.takeX_repT hi (Tak.frozen hi) hx hr).mono fun b hb=>⟨hfr b hb,rfl⟩⟩⟩
   ·exact h.elim
 | own t e =>
  simp only [out1] at h
  split at h
  ·rename_i id off len
   split at h
   ·rename_i t' e' xs ho
    split at h
    ·rename_i q; subst q
     split at h
     ·rename_i q; subst q
      obtain ⟨⟨rfl,rfl⟩,h⟩:=h
      simp only [XV.rel,SV.rel,ho] at hr
      obtain ⟨A,cap,rfl,r2,r3,r4⟩:=hr
      obtain ⟨o1,o2⟩:=hi.objs id _ ho
      by_cases hcap:cap=0
      ·have hx:xs=[]:=List.eq_nil_of_length_eq_zero (by omega)
       exact ⟨xs,_,[none],h,⟨rfl,fun i b h=>by cases i <;> simp at h⟩,fun fr _=>⟨o1,A,cap,rfl,r2,.inl ⟨hcap,hx,rfl⟩⟩⟩
      ·rcases r4 with r4 | ⟨b,vs,g1,g2,g3,g4⟩
       ·exact absurd r4 hcap
       ·rcases o2 with ⟨o2,_⟩ | ⟨b',vs',fr,re,p1,p2,p3,p4⟩
        ·rw [g1] at o2; cases o2
        ·rw [g1] at p1; cases p1
         rw [g3] at p2; cases p2
         refine ⟨xs,_,[some b],h,⟨rfl,fun i b' h=>?_⟩,fun fr hfr=>⟨o1,A,cap,rfl,r2,.inr ⟨b,vs,_,_,rfl,by simpa using g2,?_,g3,p3,?_,by simpa using g4⟩⟩⟩
         ·cases i with
          | zero=>simp at h; subst h; exact ⟨id,_,rfl,ho,rfl,g1⟩
          | succ i=>simp at h
         ·exact Nat.le_trans hb (hi.base id _ b ho rfl g1)
         ·exact p4.mono fun x cs r=>Lift.K.rep_mono (fun b hb=>⟨hfr b hb,rfl⟩) _ _ _ r
     ·exact h.elim
    ·exact h.elim
   ·exact h.elim
  ·rename_i v
   split at h
   ·rename_i hn
    obtain rfl:u=.slice none 0 0:=by rw [show u=v from hr]; exact Z4k hn
    exact ⟨[],_,[none],h,⟨rfl,fun i b h=>by cases i <;> simp at h⟩,fun fr _=>⟨by simp [maxN],none,0,rfl,Nat.le_refl _,.inl ⟨rfl,rfl,rfl⟩⟩⟩
   ·exact h.elim
  ·obtain ⟨A,rfl⟩:=hr
   exact ⟨[],_,[none],h,⟨rfl,fun i b h=>by cases i <;> simp at h⟩,fun fr _=>⟨by simp [maxN],A,0,rfl,Nat.le_refl _,.inl ⟨rfl,rfl,rfl⟩⟩⟩
  ·exact h.elim
def Zao (tmps:Array Value):ResultVar→Sem Value
 | .tmp t=>pure (tmps.getD t undef)
 | .cell a t=>do loadVar t (← asAddr (tmps.getD a undef))
theorem Zyq {P:Program} {cx:Cx} (hT:∀ t d,cx.tab t=some d→d.Fits P t) {c:RC} (hi:c.Inv) {t:TypeId} {e:EV} {u:Value} (he:e.rel c u) {K:XV→Prop} (h:Z10x cx c.heap t e K) :
  ∃ v x,K x∧x.rel c v∧(do loadVar t (← asAddr u):Sem Value).run P c.w=.ok v c.w:=by
 unfold Z10x at h
 obtain ⟨v,ev,h1,h2,h3⟩:=Zpk hT hi (P:=P) (u:=u) h he
 cases ev with
 | tup _=>exact h2.elim
 | x x =>
  refine ⟨v,x,h2,h3,?_⟩
  unfold Instr.loadAt Instr.sureAddr at h1
  split at h1
  ·exact h1
  ·simp [Sem.run_bind,stuck,Result.andThen] at h1
theorem Zqd {P:Program} {cx:Cx} (hT:∀ t d,cx.tab t=some d→d.Fits P t) {c:RC} (hi:c.Inv) {w:World} (hb:w.heap.size≤c.base) {env:List EV} {tmps:Array Value} (he:Zt c env tmps):∀ (vars:List ResultVar) (rs:List RK) {K:RS rs→Mvs→Prop},outs cx env c.heap vars rs K →
  ∃ x m obs vs,K x m∧Znz c m obs∧(∀ fr:Nat→Prop,(∀ b,c.ok b→fr b)→ResN w c.w fr rs x vs obs)∧(vars.mapM (Zao tmps)).run P c.w=Result.ok vs c.w
 | [],[],K,h=>⟨(),[],[],[],h,⟨rfl,fun i b h=>by simp at h⟩,fun _ _=>⟨rfl,rfl⟩,by rw [List.mapM_nil]; rfl⟩
 | .tmp t :: vars,r :: rs,K,h=>by
  simp only [outs] at h
  split at h
  ·rename_i v hv
   obtain ⟨u,h1,h2⟩:=he.2 _ _ hv
   obtain ⟨x,m,obs,h3,h4,h5⟩:=Z125 hi hb h2 h
   obtain ⟨y,m',obs',vs,g1,g2,g3,g4⟩:=Zqd hT hi hb he vars rs h3
   refine ⟨(x,y),_,obs++obs',u :: vs,g1,h4.append g2,fun fr hfr=>⟨u,vs,obs,obs',rfl,rfl,h5 fr hfr,g3 fr hfr⟩,?_⟩
   have hu:tmps.getD t undef=u:=by simp [h1]
   rw [List.mapM_cons]
   simp only [Zao,Sem.run_bind,Sem.run_pure,hu,Result.andThen,g4]
  ·exact h.elim
 | [],_ :: _,K,h=>h.elim
 | .tmp _ :: _,[],K,h=>h.elim
 | .cell a t :: vars,r :: rs,K,h=>by
  simp only [outs] at h
  have hev:(env.getD a .junk).rel c (tmps.getD a undef):=by
   simp only [List.getD_eq_getElem?_getD,Array.getD_eq_getD_getElem?]
   cases hq:env[a]? with
   | none=>trivial
   | some ev =>
    obtain ⟨u,h1,h2⟩:=he.2 a ev hq
    rw [h1]; exact h2
  obtain ⟨u,v,hk,h2,hrun⟩:=Zyq hT hi (P:=P) hev h
  obtain ⟨x,m,obs,h3,h4,h5⟩:=Z125 hi hb h2 hk
  obtain ⟨y,m',obs',vs,g1,g2,g3,g4⟩:=Zqd hT hi hb he vars rs h3
  refine ⟨(x,y),_,obs++obs',u :: vs,g1,h4.append g2,fun fr hfr=>⟨u,vs,obs,obs',rfl,rfl,h5 fr hfr,g3 fr hfr⟩,?_⟩
  rw [List.mapM_cons]
  simp only [Zao]
  rw [Sem.run_bind,hrun]
  simp only [Result.andThen,Sem.run_bind,Sem.run_pure,g4]
 | .cell _ _ :: _,[],K,h=>h.elim
theorem Zgc {fn:Func} {vars:List ResultVar} (hf:fn.results=vars.toArray) {tmps:Array Value} {P:Program} {w:World} {vs:List Value} (h:(vars.mapM (Zao tmps)).run P w=Result.ok vs w) :
  ∃ v,v=(match (generalizing:=false) vs with | [u]=>u | _=>.tuple vs.toArray)∧(results fn tmps).run P w=Result.ok v w:=by
 have e:results fn tmps=(do
   let vs ← List.toArray <$> vars.mapM (Zao tmps)
   pure (if h:vs.size=1 then vs[0] else .tuple vs)):=by
  unfold results
  rw [hf,← List.mapM_toArray]
  congr
 rw [e]
 simp only [map_eq_pure_bind,bind_assoc,pure_bind,Sem.run_bind,h,Result.andThen,Sem.run_pure]
 match vs with
 | []=>exact ⟨_,rfl,rfl⟩
 | [u]=>exact ⟨_,rfl,rfl⟩
 | u :: v :: vs=>exact ⟨_,rfl,by simp⟩
structure FnAt (P:Program) (f:FuncId) (nt:Nat) (vars:List ResultVar) (code:Code):Prop where
 ex:∃ fn,P.funcs[f]?=some fn∧fn.body=some code∧fn.ntmps=nt∧fn.results=vars.toArray∧(fn.name == "runtime.NumGoroutine")=false
theorem Z88 {P:Program} {f:FuncId} {fn:Func} {code:Code} (hf:P.funcs[f]?=some fn) (hb:fn.body=some code) (hn:(fn.name == "runtime.NumGoroutine")=false) (args:Array Value) (w:World) :
  (callFunc f args).run P w=.ok (.enter f args) w:=by
 have hp:(Go.program).run P w=Result.ok P w:=rfl
 unfold callFunc
 simp only [Sem.run_bind,hp,Result.andThen,hf,hn,hb,Option.isNone_some,Bool.false_eq_true,if_false,Sem.run_pure]
structure InFn where
 nt:Nat
 vars:List ResultVar
 code:Code
 hn:Hn
def Zcp (cx:Cx) (env:List EV) (h:List HObj):List ResultVar→(List XV→Prop)→Prop
 | [],K=>K []
 | .tmp t :: vars,K=>match env[t]? with
  | some (.x v)=>Zcp cx env h vars fun l=>K (v :: l)
  | _=>False
 | .cell a t :: vars,K=>Z10x cx h t (env.getD a .junk) fun v=>Zcp cx env h vars fun l=>K (v :: l)
def Zo0 (cx:Cx):Z23:=fun f args h k=>match cx.con f with
 | none=>False
 | some con=>(Z32 cx (h++List.replicate con.n .pend) f args h.length).wp fun ev us=>k ev (applyU (h++List.replicate con.n .pend) us)
def Z95 (cx:Cx) (fns:FuncId→Option InFn):Nat→Z23
 | 0=>Zo0 cx
 | n+1=>fun f args h k=>match fns f with
  | none=>Zo0 cx f args h k
  | some fn=>Z2y cx fn.hn (Z95 cx fns n) fn.code (args++List.replicate (fn.nt - args.length) (.x (.one .junk))) h fun e env h'=>match e with
   | .normal | .ret=>Zcp cx env h' fn.vars fun vs=>k (EV.of vs) h'
   | _=>False
theorem Zf5 {P:Program} {cx:Cx} (hT:∀ t d,cx.tab t=some d→d.Fits P t) {c:RC} (hi:c.Inv) {env:List EV} {tmps:Array Value} (he:Zt c env tmps):∀ (vars:List ResultVar) {K:List XV→Prop},Zcp cx env c.heap vars K →
  ∃ vs us,K vs∧All2 (XV.rel c) vs us∧(vars.mapM (Zao tmps)).run P c.w=Result.ok us c.w
 | [],K,h=>⟨[],[],h,.nil,by rw [List.mapM_nil]; rfl⟩
 | .tmp t :: vars,K,h=>by
  simp only [Zcp] at h
  split at h
  ·rename_i v hv
   obtain ⟨u,h1,h2⟩:=he.2 _ _ hv
   obtain ⟨vs,us,g1,g2,g3⟩:=Zf5 hT hi he vars h
   refine ⟨v :: vs,u :: us,g1,.cons h2 g2,?_⟩
   have hu:tmps.getD t undef=u:=by simp [h1]
   rw [List.mapM_cons]
   simp only [Zao,Sem.run_bind,Sem.run_pure,hu,Result.andThen,g3]
  ·exact h.elim
 | .cell a t :: vars,K,h=>by
  simp only [Zcp] at h
  have hev:(env.getD a .junk).rel c (tmps.getD a undef):=by
   simp only [List.getD_eq_getElem?_getD,Array.getD_eq_getD_getElem?]
   cases hq:env[a]? with
   | none=>trivial
   | some ev =>
    obtain ⟨u,h1,h2⟩:=he.2 a ev hq
    rw [h1]; exact h2
  obtain ⟨u,v,hk,h2,hrun⟩:=Zyq hT hi (P:=P) hev h
  obtain ⟨vs,us,g1,g2,g3⟩:=Zf5 hT hi he vars hk
  refine ⟨v :: vs,u :: us,g1,.cons h2 g2,?_⟩
  rw [List.mapM_cons]
  simp only [Zao]
  rw [Sem.run_bind,hrun]
  simp only [Result.andThen,Sem.run_bind,Sem.run_pure,g3]
theorem Zt0 {P:Program} {cx:Cx} (hx:CxOk P cx):Z2j P cx (Zo0 cx):=by
 intro c hi hg f args vs k hall h
 unfold Zo0 at h
 split at h
 ·exact h.elim
 ·rename_i con hcon
  obtain ⟨E1,I1⟩:=Ext.pends hi con.n
  have hp:∀ i,i<(match cx.con f with | some con=>con.n | none=>0)→(c.heap++List.replicate con.n HObj.pend)[c.heap.length+i]?=some .pend:=fun i hi=>by
   rw [hcon] at hi
   simp only at hi
   rw [List.getElem?_append_right (by omega),List.getElem?_replicate,if_pos (by omega)]
  let c1:RC:={ c with heap:=c.heap++List.replicate con.n .pend }
  have hall1:All2 (EV.rel c1) args vs:=hall.mono fun _ _ r=>EV.rel_mono E1 r
  have he:Zt c1 [] (⟨#[],[]⟩:Act).tmps:=⟨rfl,fun t ev h=>by simp at h⟩
  have hs:=Zg9 (c:=c1) hx I1 (GOk.mono hg E1) he hall1 hp h
  exact hs.mono (c:=c1) hx I1 (GOk.mono hg E1) he fun v w' ⟨ev,us,c',g1,g2,g3,g4,g5,g6⟩=>⟨ev,c',by rw [g3]; exact g1,g2,E1.trans g4,g5,g6⟩
theorem EV.of_rel {c:RC} {vs:List XV} {us:List Value} (h:All2 (XV.rel c) vs us) {v:Value} (hv:v=(match (generalizing:=false) us with | [u]=>u | _=>.tuple us.toArray)):(EV.of vs).rel c v:=by
 cases h with
 | nil=>subst hv; exact ⟨#[],rfl,.nil⟩
 | cons h1 h2 =>
  cases h2 with
  | nil=>subst hv; exact h1
  | cons h3 h4=>subst hv; exact ⟨_,rfl,.cons h1 (.cons h3 h4)⟩
def Zt1 (P:Program) (fns:FuncId→Option InFn):Prop:=∀ f fn,fns f=some fn→FnAt P f fn.nt fn.vars fn.code
theorem Zyr {c:RC} {args:List EV} {vs:List Value} (h:All2 (EV.rel c) args vs) (nt:Nat):Zt c (args++List.replicate (nt - args.length) (.x (.one .junk))) (vs.toArray++Array.replicate (nt - vs.toArray.size) undef):=by
 refine ⟨by simp [h.len],fun t ev ht=>?_⟩
 rw [List.getElem?_append] at ht
 split at ht
 ·rename_i hlt
  obtain ⟨v,g1,g2⟩:=h.get t ev ht
  refine ⟨v,?_,g2⟩
  rw [Array.getElem?_append_left (by simpa [← h.len] using hlt)]
  simpa using g1
 ·rename_i hge
  rw [List.getElem?_replicate] at ht
  split at ht
  ·rename_i hlt
   cases ht
   have hl:=h.len
   have:vs.toArray.size≤t:=by simp; omega
   refine ⟨undef,?_,trivial⟩
   rw [Array.getElem?_append_right this,Array.getElem?_replicate]
   have:t - vs.toArray.size<nt - vs.toArray.size:=by
    simp at this ⊢; omega
   rw [if_pos this]
  ·cases ht
theorem Z89 {P:Program} {cx:Cx} (hx:CxOk P cx) (hmix:P.follows .mixedOrders=true) {fns:FuncId→Option InFn} (hf:Zt1 P fns):∀ n,Z2j P cx (Z95 cx fns n)
 | 0=>Zt0 hx
 | n+1=>by
  intro c hi hg f args vs k hall h
  simp only [Z95] at h
  split at h
  ·exact Zt0 hx c hi hg hall h
  ·rename_i fn hfn
   obtain ⟨fu,h1,h2,h3,h4,h5⟩:=(hf f fn hfn).ex
   refine .inr ⟨Z88 h1 h2 h5 _ _,calls_of_wp h1 h2 ?_⟩
   have hE:=Zyr hall fn.nt
   rw [← h3] at hE h
   refine Zgb hx hmix fn.hn (Z89 hx hmix hf n) fn.code (D:=dsts fn.code) (fun t h=>h) hi (a:=⟨_,[]⟩) hg hE h fun e c' env' a' k1 k2 k3 k4 k5=>?_
   have fin:Zcp cx env' c'.heap fn.vars (fun vs=>k (EV.of vs) c'.heap)→a'.defers=[]∧∃ v,(results fu a'.tmps).run P c'.w=.ok v c'.w∧∃ u,Ending.returned v=Ending.returned u∧∃ ev c2,k ev c2.heap∧c2.w=c'.w∧Ext c c2∧c2.Inv∧ev.rel c2 u:=by
    intro hr
    obtain ⟨xs,us,g1,g2,g3⟩:=Zf5 hx.1 k3 k4 fn.vars hr
    obtain ⟨v,ev,hv⟩:=Zgc h4 g3
    exact ⟨k5.defers,v,hv,v,rfl,_,c',g1,rfl,k2,k3,EV.of_rel g2 ev⟩
   cases e with
   | normal=>exact fin k1
   | ret=>exact fin k1
   | _=>exact k1.elim
section
variable {P:Program} {cx:Cx} (hx:CxOk P cx) (hmix:P.follows .mixedOrders=true) (hn:Hn) {call:Z23} (hcall:Z2j P cx call)
include hx hmix
include hcall in
theorem Zqe {f:FuncId} {nt:Nat} {vars:List ResultVar} {code:Code} (hf:FnAt P f nt vars code) {ks:List K} {rs:List RK} {w:World} {ok:Nat→Prop} (hok0:∀ b,ok b→b<w.heap.size) {x:KS ks} {vs:List Value} (ha:Z3l w ok ks x vs) (hg:GW cx.glob w ok)
  {post:RS rs→Prop} (h:Z56 cx hn call nt vars code ks rs x post):Z26 P f vs.toArray w fun v w'=>∃ r,post r∧Grows w w'∧Z2a w w' ok rs r v:=by
 obtain ⟨fn,h1,h2,h3,h4,h5⟩:=hf.ex
 refine .inr ⟨Z88 h1 h2 h5 _ _,calls_of_wp h1 h2 ?_⟩
 let c0:RC:={ w:=w,heap:=[],blk:=fun _=>none,base:=w.heap.size,inb:=ok }
 have hown:∀ b,¬ c0.own b:=by rintro b ⟨id,o,m,h,_⟩; simp [c0] at h
 have hok:∀ b,ok b→c0.ok b:=fun b hb=>⟨hok0 b hb,hown b,.inr hb⟩
 have hi:c0.Inv:=⟨fun id o h=>by simp [c0] at h,fun i j oi oj b h=>by simp [c0] at h,fun id o b h=>by simp [c0] at h,Nat.le_refl _⟩
 have hG:GOk cx.glob c0:=fun g k y hgk=>K.rep_mono (fun b hb=>⟨hok b hb,rfl⟩) (K.ptr k) _ _ (hg g k y hgk)
 obtain ⟨he,hl⟩:=Zyp (c:=c0) rfl hok ks x vs ha
 have hE:Zt c0 (Z10y ks x++List.replicate (nt - ks.length) (.x (.one .junk))) (vs.toArray++Array.replicate (fn.ntmps - vs.toArray.size) undef):=by
  refine ⟨by simp [he.len,h3,hl],fun t ev ht=>?_⟩
  rw [List.getElem?_append] at ht
  split at ht
  ·rename_i hlt
   obtain ⟨v,g1,g2⟩:=he.get t ev ht
   refine ⟨v,?_,g2⟩
   rw [Array.getElem?_append_left (by simpa [he.len] using hlt)]
   simpa using g1
  ·rename_i hge
   rw [List.getElem?_replicate] at ht
   split at ht
   ·rename_i hlt
    cases ht
    have:vs.toArray.size≤t:=by simp [← he.len]; omega
    refine ⟨undef,?_,trivial⟩
    rw [Array.getElem?_append_right this,Array.getElem?_replicate]
    have:t - vs.toArray.size<fn.ntmps - vs.toArray.size:=by
     simp [h3,hl] at this ⊢
     have:=he.len
     omega
    rw [if_pos this]
   ·cases ht
 refine Zgb hx hmix hn hcall code (D:=dsts code) (fun t h=>h) hi (a:=⟨_,[]⟩) hG hE h fun e c' env' a' k1 k2 k3 k4 k5=>?_
 have fin:outs cx env' (Zj2 env' vars rs c'.heap) vars rs (fun r m=>if Zcn (srcs m) then post r else False)→a'.defers=[]∧∃ v,(results fn a'.tmps).run P c'.w=.ok v c'.w∧∃ u,Ending.returned v=Ending.returned u∧∃ r,post r∧Grows w c'.w∧Z2a w c'.w ok rs r u:=by
  intro hout
  obtain ⟨E2,I2⟩:=Frz.ext k3 (Z192 env' vars rs c'.heap)
  obtain ⟨r,m,obs,us,g1,g2,g3,g4⟩:=Zqd (c:={ c' with heap:=Zj2 env' vars rs c'.heap }) (w:=w) hx.1 I2 (by show w.heap.size≤c'.base; rw [k2.base]; exact Nat.le_refl _) (Zt.mono k4 E2) vars rs hout
  split at g1
  ·rename_i hd
   obtain ⟨v,ev,hv⟩:=Zgc h4 g4
   refine ⟨k5.defers,v,hv,_,rfl,r,g1,?_,us,obs,ev,?_,g3 _ fun b hb=>?_⟩
   ·exact ⟨k2.size,k2.os,k2.tape,k2.output,fun b hb=>k2.keep b hb (fun hw=>hown b hw.own)⟩
   ·intro i j b hb1 hb2
    obtain ⟨id1,o1,p1,p2,p3,p4⟩:=g2.2 i b hb1
    obtain ⟨id2,o2,q1,q2,q3,q4⟩:=g2.2 j b hb2
    have:=I2.inj id1 id2 o1 o2 b p2 (HObj.live_of_md p3) q2 (HObj.live_of_md q3) p4 q4
    subst this
    exact Zf4 hd i j id1 o1 o2 p1 q1
   ·obtain ⟨b1,b2,b3⟩:=hb
    rcases b3 with b3 | b3
    ·refine .inl ⟨by have:=b3; rw [show RC.base { c' with heap:=Zj2 env' vars rs c'.heap }=c0.base from k2.base] at this; exact this,b1,fun hm=>b2 ?_⟩
     obtain ⟨i,hi'⟩:=List.mem_iff_getElem?.1 hm
     obtain ⟨id1,o1,p1,p2,p3,p4⟩:=g2.2 i b hi'
     exact ⟨id1,o1,.rw,p2,p3,by simp,p4⟩
    ·exact .inr (by rw [show RC.inb { c' with heap:=Zj2 env' vars rs c'.heap }=c0.inb from k2.inb] at b3; exact b3)
  ·exact g1.elim
 cases e with
 | normal=>exact fin k1
 | ret=>exact fin k1
 | _=>exact k1.elim
theorem Z15d {f:FuncId} {nt:Nat} {vars:List ResultVar} {code:Code} (hf:FnAt P f nt vars code) {ks:List K} {rs:List RK} {w:World} {ok:Nat→Prop} (hok0:∀ b,ok b→b<w.heap.size) {x:KS ks} {vs:List Value} (ha:Z3l w ok ks x vs) (hg:GW cx.glob w ok)
  {post:RS rs→Prop} (h:Zi cx hn nt vars code ks rs x post):Z26 P f vs.toArray w fun v w'=>∃ r,post r∧Grows w w'∧Z2a w w' ok rs r v:=Zqe hx hmix hn Z7p hf hok0 ha hg h
theorem Zys {f:FuncId} {nt:Nat} {vars:List ResultVar} {code:Code} (hf:FnAt P f nt vars code) {ks:List K} {rs:List RK} {pre:KS ks→Prop} {g:KS ks→RS rs}
  (h:∀ x,pre x→Zi cx hn nt vars code ks rs x (fun r=>r=g x)):(Con.det ks rs pre g).holds P cx.glob f:=by
 intro w ok hok x vs ha hg hp
 have:=Z15d hx hmix hn hf hok ha hg (h x hp)
 rcases this with ⟨v,w',h1,r,rfl,h2⟩ | ⟨h1,h2⟩
 ·exact .inl ⟨v,w',h1,h2⟩
 ·exact .inr ⟨h1,h2.mono fun e w'=>by rintro ⟨v,e1,r,rfl,h3⟩; exact ⟨v,e1,h3⟩⟩
end
end Go.Lift

namespace Go.Lift
def K.wf:(k:K)→k.T→Prop
 | .pair a b,x=>a.wf x.1∧b.wf x.2
 | .arr n e,xs=>List.length xs=n∧∀ x,List.Mem (α:=e.T) x xs→e.wf x
 | .slice e,xs=>List.length xs≤maxN∧∀ x,List.Mem (α:=e.T) x xs→e.wf x
 | .ptr e,p=>∀ x,p=some x→e.wf x
 | _,_=>True
theorem Rows.mem {α:Type} {R:α→List Value→Prop}:∀ {xs:List α} {cs:List Value},Rows R xs cs→∀ x,List.Mem x xs→∃ c,R x c
 | [],_,_,x,hx=>by cases hx
 | y :: xs,cs,h,x,hx=>by
  obtain ⟨c1,c2,rfl,h1,h2⟩:=h
  cases hx with
  | head=>exact ⟨c1,h1⟩
  | tail _ hx=>exact Rows.mem h2 x hx
theorem K.rep_wf {w:World} {ok:Nat→Prop}:∀ (k:K) (x:k.T) (cs:List Value),k.rep w ok x cs→k.wf x:=by
 intro k
 induction k with
 | pair a b iha ihb=>intro x cs h; obtain ⟨c1,c2,rfl,h1,h2⟩:=h; exact ⟨iha _ _ h1,ihb _ _ h2⟩
 | arr n e ih=>intro xs cs h; exact ⟨h.1,fun x hx=>let ⟨c,hc⟩:=Rows.mem h.2 x hx; ih x c hc⟩
 | slice e ih =>
  intro xs cs h
  obtain ⟨A,cap,rfl,h1,h2,h3⟩:=h
  refine ⟨h2,fun x hx=>?_⟩
  rcases h3 with h3 | ⟨b,off,vs,_,_,h4,_⟩
  ·have e0:(xs:List e.T)=[]:=h3
   rw [e0] at hx; cases hx
  ·obtain ⟨c,hc⟩:=Rows.mem h4 x hx; exact ih x c hc
 | ptr e ih =>
  intro p cs h x hx
  rcases h with ⟨h1,_⟩ | ⟨y,b,off,vs,h1,_,_,h2,_⟩
  ·rw [h1] at hx; cases hx
  ·rw [h1] at hx; cases hx; exact ih _ _ h2
 | _=>intro x cs h; trivial
theorem KRep.wf {w:World} {ok:Nat→Prop} {k:K} {x:k.T} {v:Value} (h:KRep w ok k x v):k.wf x:=by
 unfold KRep at h
 split at h
 ·obtain ⟨vs,_,h⟩:=h; exact K.rep_wf _ _ _ h
 ·exact K.rep_wf _ _ _ h
def KS.wf:(ks:List K)→KS ks→Prop
 | [],_=>True
 | k :: ks,x=>k.wf x.1∧KS.wf ks x.2
theorem Z3l.wf {w:World} {ok:Nat→Prop}:∀ (ks:List K) (x:KS ks) (vs:List Value),Z3l w ok ks x vs→KS.wf ks x
 | [],_,_,_=>trivial
 | k :: ks,x,vs,h=>by obtain ⟨v,r,rfl,h1,h2⟩:=h; exact ⟨h1.wf,Z3l.wf ks x.2 r h2⟩
section
variable {P:Program} {cx:Cx} (hx:CxOk P cx) (hmix:P.follows .mixedOrders=true) (hn:Hn)
include hx hmix
theorem Z126 {f:FuncId} {nt:Nat} {vars:List ResultVar} {code:Code} (hf:FnAt P f nt vars code) {ks:List K} {rs:List RK} {pre:KS ks→Prop} {g:KS ks→RS rs}
  (h:∀ x,pre x→KS.wf ks x→Zi cx hn nt vars code ks rs x (fun r=>r=g x)):(Con.det ks rs pre g).holds P cx.glob f:=by
 intro w ok hok x vs ha hg hp
 rcases Z15d hx hmix hn hf hok ha hg (h x hp ha.wf) with ⟨v,w',h1,r,rfl,h2⟩ | ⟨h1,h2⟩
 ·exact .inl ⟨v,w',h1,h2⟩
 ·exact .inr ⟨h1,h2.mono fun e w'=>by rintro ⟨v,e1,r,rfl,h3⟩; exact ⟨v,e1,h3⟩⟩
theorem Z16u {call:Z23} (hcall:Z2j P cx call) {f:FuncId} {nt:Nat} {vars:List ResultVar} {code:Code} (hf:FnAt P f nt vars code) {ks:List K} {rs:List RK} {pre:KS ks→Prop} {post:KS ks→RS rs→Prop} {ne:∀ a,pre a→∃ r,post a r}
  (h:∀ x,pre x→KS.wf ks x→Z56 cx hn call nt vars code ks rs x (post x)):(Con.rel ks rs pre post ne).holds P cx.glob f:=by
 intro w ok hok x vs ha hg hp
 exact Zqe hx hmix hn hcall hf hok ha hg (h x hp ha.wf)
theorem Zzn {call:Z23} (hcall:Z2j P cx call) {f:FuncId} {nt:Nat} {vars:List ResultVar} {code:Code} (hf:FnAt P f nt vars code) {ks:List K} {rs:List RK} {pre:KS ks→Prop} {g:KS ks→RS rs}
  (h:∀ x,pre x→KS.wf ks x→Z56 cx hn call nt vars code ks rs x (fun r=>r=g x)):(Con.det ks rs pre g).holds P cx.glob f:=by
 intro w ok hok x vs ha hg hp
 rcases Zqe hx hmix hn hcall hf hok ha hg (h x hp ha.wf) with ⟨v,w',h1,r,rfl,h2⟩ | ⟨h1,h2⟩
 ·exact .inl ⟨v,w',h1,h2⟩
 ·exact .inr ⟨h1,h2.mono fun e w'=>by rintro ⟨v,e1,r,rfl,h3⟩; exact ⟨v,e1,h3⟩⟩
theorem detP {f:FuncId} {nt:Nat} {vars:List ResultVar} {code:Code} (hf:FnAt P f nt vars code) {ks:List K} {rs:List RK} {pre:KS ks→Prop} {g:KS ks→RS rs}
  {F:KS ks→(RS rs→Prop)→Prop} (he:∀ x post,Zi cx hn nt vars code ks rs x post=F x post) (h:∀ x,pre x→KS.wf ks x→F x (fun r=>r=g x)):(Con.det ks rs pre g).holds P cx.glob f :=
 Z126 hx hmix hn hf fun x hp hw=>(he x _).mpr (h x hp hw)
theorem relP {f:FuncId} {nt:Nat} {vars:List ResultVar} {code:Code} (hf:FnAt P f nt vars code) {ks:List K} {rs:List RK} {pre:KS ks→Prop} {post:KS ks→RS rs→Prop} {ne:∀ a,pre a→∃ r,post a r}
  {F:KS ks→(RS rs→Prop)→Prop} (he:∀ x post,Zi cx hn nt vars code ks rs x post=F x post) (h:∀ x,pre x→KS.wf ks x→F x (post x)):(Con.rel ks rs pre post ne).holds P cx.glob f :=
 Z16u hx hmix hn Z7p hf fun x hp hw=>(he x _).mpr (h x hp hw)
theorem Zt2 {call:Z23} (hcall:Z2j P cx call) {f:FuncId} {nt:Nat} {vars:List ResultVar} {code:Code} (hf:FnAt P f nt vars code) {ks:List K} {rs:List RK} {pre:KS ks→Prop} {g:KS ks→RS rs}
  {F:KS ks→(RS rs→Prop)→Prop} (he:∀ x post,Z56 cx hn call nt vars code ks rs x post=F x post) (h:∀ x,pre x→KS.wf ks x→F x (fun r=>r=g x)):(Con.det ks rs pre g).holds P cx.glob f :=
 Zzn hx hmix hn hcall hf fun x hp hw=>(he x _).mpr (h x hp hw)
end
def Con.nam (ks:List K) (rs:List RK) (pre:KS ks→Prop) (f:KS ks→RS rs):Con:=.rel ks rs pre (fun x r=>r=f x) fun a _=>⟨f a,rfl⟩
theorem Z19 {P:Program} {G:Z6a} {f:FuncId} {ks:List K} {rs:List RK} {pre:KS ks→Prop} {g:KS ks→RS rs} (h:(Con.det ks rs pre g).holds P G f):(Con.nam ks rs pre g).holds P G f:=by
 intro w ok hok x vs ha hg hp
 rcases h w ok hok x vs ha hg hp with ⟨v,w',h1,h2⟩ | ⟨h1,h2⟩
 ·exact .inl ⟨v,w',h1,g x,rfl,h2⟩
 ·exact .inr ⟨h1,h2.mono fun e w'=>by rintro ⟨v,e1,h3⟩; exact ⟨v,e1,g x,rfl,h3⟩⟩
end Go.Lift

namespace Go.Lift
def K.rng:(k:K)→k.T→Prop
 | .int k,n=>(Lit.int k n).wf=true
 | .flt k,b=>(Lit.float k b).wf=true
 | .pair a b,x=>a.rng x.1∧b.rng x.2
 | .arr n e,xs=>∀ x,List.Mem (α:=e.T) x xs→e.rng x
 | .slice e,xs=>(∀ x,List.Mem (α:=e.T) x xs→e.rng x)
 | _,_=>True
mutual
inductive KT (P:Program):TypeId→K→Prop
 | int {t:TypeId} {k:IntKind}:P.underlying t=some (.int k)→KT P t (.int k)
 | flt {t:TypeId} {k:FloatKind}:P.underlying t=some (.float k)→KT P t (.flt k)
 | bool {t:TypeId}:P.underlying t=some .bool→KT P t .bool
 | slice {t te:TypeId} {e:K}:P.underlying t=some (.slice te)→P.cellsOf te=e.sz→0<e.sz→1≤P.bytesOf te→KT P te e→KT P t (.slice e)
 | arr {t te:TypeId} {n:Nat} {e:K}:P.underlying t=some (.array n te)→P.cellsOf te=e.sz→P.cellsOf t=n*e.sz→KT P te e→KT P t (.arr n e)
 | struct {t:TypeId} {fs:Array Field} {a b:K}:P.underlying t=some (.struct fs)→P.cellsOf t=(K.pair a b).sz→KFs P fs.toList 0 (.pair a b)→KT P t (.pair a b)
inductive KFs (P:Program):List Field→Nat→K→Prop
 | one {f:Field} {off:Nat} {k:K}:f.offset=off→P.cellsOf f.type=k.sz→KT P f.type k→KFs P [f] off k
 | cons {f:Field} {fs:List Field} {off:Nat} {a b:K}:f.offset=off→P.cellsOf f.type=a.sz→KT P f.type a→KFs P fs (off+a.sz) b→KFs P (f :: fs) off (.pair a b)
end
theorem Z16v {β:Type} (f:Nat→Option β):∀ (n:Nat) (l:List β),(List.range n).mapM f=some l→l.length=n∧∀ i,i<n→∃ b,l[i]?=some b∧f i=some b:=by
 intro n l h
 have h2:∀ (is:List Nat) (l:List β),is.mapM f=some l→l.length=is.length∧∀ (j i:Nat),is[j]?=some i→∃ b,l[j]?=some b∧f i=some b:=by
  intro is
  induction is with
  | nil=>intro l h; rw [List.mapM_nil] at h; cases h; exact ⟨rfl,fun j i h=>by simp at h⟩
  | cons i is ih =>
   intro l h
   rw [List.mapM_cons] at h
   cases hf:f i with
   | none=>rw [hf] at h; cases h
   | some b =>
    rw [hf] at h
    cases hm:is.mapM f with
    | none=>rw [hm] at h; cases h
    | some l' =>
     rw [hm] at h
     cases h
     obtain ⟨h1,h2⟩:=ih l' hm
     refine ⟨by simp [h1],fun j i' hj=>?_⟩
     cases j with
     | zero=>simp at hj; subst hj; exact ⟨b,rfl,hf⟩
     | succ j=>simpa using h2 j i' (by simpa using hj)
 obtain ⟨h3,h4⟩:=h2 _ _ h
 exact ⟨by simpa using h3,fun i hi=>h4 i i (by simp [hi])⟩
theorem Zw2 {α:Type} {R:α→List Value→Prop} {G:α→Prop} {C:Nat→Value→Prop} {s:Nat}:∀ (n:Nat),(∀ i,i<n→∃ x cs,R x cs∧G x∧cs.length=s∧∀ j v,cs[j]?=some v→C (i*s+j) v) →
  ∃ (xs:List α) (vs:List Value),xs.length=n∧Rows R xs vs∧vs.length=n*s∧(∀ x,List.Mem x xs→G x)∧∀ j v,vs[j]?=some v→C j v
 | 0,_=>⟨[],[],rfl,rfl,by simp,(fun x h=>nomatch h),fun j v h=>by simp at h⟩
 | n+1,h=>by
  obtain ⟨xs,vs,h1,h2,h3,h4,h5⟩:=Zw2 n fun i hi=>h i (by omega)
  obtain ⟨x,cs,g1,g2,g3,g4⟩:=h n (by omega)
  refine ⟨xs++[x],vs++cs,by simp [h1],Rows.append h2 ⟨cs,[],by simp,g1,rfl⟩,by simp [h3,g3,Nat.add_mul],?_,?_⟩
  ·intro y hy
   rcases List.mem_append.1 hy with hy | hy
   ·exact h4 y hy
   ·cases hy with
    | head=>exact g2
    | tail _ hy=>cases hy
  ·intro j v hv
   rw [List.getElem?_append] at hv
   split at hv
   ·exact h5 j v hv
   ·rename_i hl
    have:=g4 (j - vs.length) v hv
    rwa [show n*s+(j - vs.length)=j by omega] at this
theorem Z1b1 {w:World} {b:Nat} {a:Addr} {n:Nat} {cs:List Value} (h:w.cells? b a n=some cs):cs.length=n∧∀ j v,cs[j]?=some v→w.cell? (a.add j)=some v:=by
 unfold World.cells? at h
 split at h
 ·obtain ⟨h1,h2⟩:=Z16v _ _ _ h
  refine ⟨h1,fun j v hv=>?_⟩
  obtain ⟨v',h3,h4⟩:=h2 j (by rw [← h1]; exact (List.getElem?_eq_some_iff.1 hv).1)
  rw [hv] at h3; cases h3; exact h4
 ·cases h
theorem Z193 {w:World} {a:Addr} {v:Value} (h:w.cell? a=some v):a.spot=none∧a.block<w.heap.size:=by
 unfold World.cell? at h
 split at h
 ·rename_i hh
  split at h
  ·cases h
  ·rename_i hs
   exact ⟨by simpa using hs,Z1i hh⟩
 ·cases h
theorem Z96 {H:Type} {P:Program} {e:TypeId} {d:DataW H}:∀ {l:List (DataW H)},d ∈ l→∀ m ∈ d.weights P e,m ∈ DataW.weightsAll P e l
 | x :: l,h,m,hm=>by
  simp only [DataW.weightsAll,List.mem_append]
  rcases List.mem_cons.1 h with rfl | h
  ·exact .inl hm
  ·exact .inr (Z96 h m hm)
section
variable {H:Type} {enc:TypeId × Value→H} {P:Program} {w:World}
def Z1cl (P:Program) (t:TypeId) (d:DataW H):Prop:=∀ m ∈ d.weights P t,m≤reachBytes
theorem Z1b2 {held:Bool} {t:TypeId} {k:FloatKind} {fuel:Nat} {cs:List Value} {x:DataW H × List MemPlace} (ht:P.underlying t=some (.float k)) (h:DataW.trod enc P w 0 (fun _=>true) held fuel t cs=some x) :
  ∃ b,cs=[.float k b]∧(Lit.float k b).wf=true:=by
 cases fuel with
 | zero=>simp [DataW.trod] at h
 | succ n =>
  unfold DataW.trod at h
  rw [ht] at h
  split at h <;> simp_all
mutual
theorem Zdl {held:Bool}:∀ {t:TypeId} {k:K} (hk:KT P t k) {fuel:Nat} {cs:List Value} {x:DataW H × List MemPlace},DataW.trod enc P w 0 (fun _=>true) held fuel t cs=some x→Z1cl P t x.1 →
  ∃ x:k.T,k.rep w (fun b=>b<w.heap.size) x cs∧k.rng x
 | _,_,.int (k:=k) ht,fuel,cs,x,h,hr=>by
  obtain ⟨n,h1,_,h2⟩:=DataW.trod_int ht h
  exact ⟨n,h1,h2⟩
 | t,_,.flt (k:=k) ht,fuel,cs,x,h,hr=>by
  obtain ⟨b,h1,h2⟩:=Z1b2 ht h
  exact ⟨b,h1,h2⟩
 | _,_,.bool ht,fuel,cs,x,h,hr=>by
  obtain ⟨b,h1,_⟩:=DataW.trod_bool ht h
  exact ⟨b,h1,trivial⟩
 | t,_,.slice (te:=te) (e:=e) ht hc hp hb he,fuel,cs,x,h,hr=>by
  rcases DataW.trod_slice ht h with ⟨rfl,rfl⟩ | ⟨a,len,cap,elems,rest,n,rfl,rfl,rfl,h1,h2,h3,h4,h5,h6,h7⟩
  ·exact ⟨[],⟨none,0,rfl,Nat.le_refl _,Nat.zero_le _,.inl rfl⟩,(fun y h=>nomatch h)⟩
  ·have hlen:len≤maxN:=by
    have:(elems.length+rest.length)*P.bytesOf te≤reachBytes:=hr _ (by simp only [DataW.weights,ht]; simp)
    have h8:elems.length*1≤(elems.length+rest.length)*P.bytesOf te:=Nat.mul_le_mul (by omega) hb
    unfold reachBytes at this
    unfold maxN
    omega
   rw [hc] at h5
   obtain ⟨xs,vs,g1,g2,g3,g4,g5⟩:=Zw2 (R:=e.rep w (fun b=>b<w.heap.size)) (G:=e.rng) (C:=fun j v=>w.cell? (a.add j)=some v) (s:=e.sz) len (fun i hi=>by
    have h8:=h5 i hi
    rw [List.getElem?_eq_getElem (by omega)] at h8
    obtain ⟨cs,h9,h10⟩:=Option.bind_eq_some_iff.1 h8
    obtain ⟨hl,hat⟩:=Z1b1 h9
    obtain ⟨y,h11,h12⟩:=Zdl he h10 (fun m hm=>hr m (by
     simp only [DataW.weights,ht,List.mem_cons,List.mem_append]
     exact .inr (.inl (Z96 (List.mem_map.2 ⟨_,List.getElem_mem _,rfl⟩) m hm))))
    refine ⟨y,cs,h11,h12,hl,fun j v hj=>?_⟩
    have:=hat j v hj
    rw [show a.add (i*e.sz+j)=(a.add (i*e.sz)).add j by
     unfold Addr.add
     by_cases e1:i*e.sz=0
     ·rw [if_pos e1,e1]; simp
     ·by_cases e2:j=0
      ·subst e2; simp
      ·rw [if_neg e1,if_neg (by omega),if_neg e2]; simp; omega]
    exact this)
   refine ⟨xs,⟨some a,cap,by rw [← g1],by show List.length xs≤cap; omega,by show List.length xs≤maxN; omega,?_⟩,g4⟩
   by_cases hx:len=0
   ·exact .inl (List.eq_nil_of_length_eq_zero (by omega))
   ·have hv0:0<vs.length:=by rw [g3]; exact Nat.mul_pos (by omega) hp
    have hc0:=g5 0 _ (List.getElem?_eq_getElem hv0)
    have ha0:a.add 0=a:=rfl
    rw [ha0] at hc0
    obtain ⟨s1,s2⟩:=Z193 hc0
    obtain ⟨ab,ao,asp⟩:=a
    obtain rfl:asp=none:=s1
    refine .inr ⟨ab,ao,vs,rfl,s2,g2,fun j v hj=>?_⟩
    have:=g5 j v hj
    unfold Addr.add at this
    by_cases e:j=0
    ·subst e; exact this
    ·rw [if_neg e] at this; exact this
 | t,_,.arr (te:=te) (n:=n) (e:=e) ht hc hs he,fuel,cs,x,h,hr=>by
  obtain ⟨xs,m,rfl,rfl,h1,h2,h3⟩:=DataW.trod_array ht h
  rw [hc] at h3
  rw [hs] at h1
  obtain ⟨ys,vs,g1,g2,g3,g4,g5⟩:=Zw2 (R:=e.rep w (fun b=>b<w.heap.size)) (G:=e.rng) (C:=fun j v=>cs[j]?=some v) (s:=e.sz) n (fun i hi=>by
   have h8:=h3 i hi
   rw [List.getElem?_eq_getElem (by omega)] at h8
   obtain ⟨y,h11,h12⟩:=Zdl he h8 (fun m hm=>hr m (by
    simp only [DataW.weights,ht]
    exact Z96 (List.mem_map.2 ⟨_,List.getElem_mem _,rfl⟩) m hm))
   have:(i+1)*e.sz≤n*e.sz:=Nat.mul_le_mul_right _ (by omega)
   rw [Nat.add_mul] at this
   refine ⟨y,_,h11,h12,by rw [List.length_take,List.length_drop]; omega,fun j v hj=>?_⟩
   rw [List.getElem?_take] at hj
   split at hj
   ·rw [List.getElem?_drop] at hj; exact hj
   ·cases hj)
  have:vs=cs:=by
   apply List.ext_getElem (by omega)
   intro i hi1 hi2
   have:=g5 i _ (List.getElem?_eq_getElem hi1)
   rw [List.getElem?_eq_getElem hi2] at this
   exact (Option.some.inj this).symm
  subst this
  exact ⟨ys,⟨g1,g2⟩,g4⟩
 | t,_,.struct (fs:=fs) (a:=a) (b:=b) ht hs hf,fuel,cs,x,h,hr=>by
  obtain ⟨xs,m,rfl,rfl,h1,h2,h3⟩:=DataW.trod_struct ht h
  have h4:∀ m ∈ DataW.weightsEach P (fs.toList.map (·.type)) (xs.map (·.1)),m≤reachBytes:=fun m hm=>hr m (by simp only [DataW.weights,ht]; exact hm)
  obtain ⟨y,g1,g2⟩:=Zyt hf (fun i f hfi=>h3 i f (by simpa using hfi)) (by simpa using h2) (by rw [h1,hs]; simp) h4
  refine ⟨y,?_,g2⟩
  rw [List.drop_zero,List.take_of_length_le (by rw [h1,hs]; exact Nat.le_refl _)] at g1
  exact g1
theorem Zyt {held:Bool}:∀ {fs:List Field} {off:Nat} {k:K} (hk:KFs P fs off k) {n:Nat} {cs:List Value} {ds:List (DataW H × List MemPlace)},
  (∀ (i:Nat) (f:Field),fs[i]?=some f→DataW.trod enc P w 0 (fun _=>true) held n f.type ((cs.drop f.offset).take (P.cellsOf f.type))=ds[i]?)→ds.length=fs.length→off+k.sz≤cs.length →
  (∀ m ∈ DataW.weightsEach P (fs.map (·.type)) (ds.map (·.1)),m≤reachBytes)→∃ x:k.T,k.rep w (fun b=>b<w.heap.size) x ((cs.drop off).take k.sz)∧k.rng x
 | _,_,_,.one (f:=f) (off:=off) (k:=k) ho hs hk,n,cs,ds,h,hd,hl,hr=>by
  match ds,hd with
  | [d],_ =>
   have h1:=h 0 f rfl
   rw [ho,hs] at h1
   exact Zdl hk h1 (fun m hm=>hr m (by simp [DataW.weightsEach,hm]))
 | _,_,_,.cons (f:=f) (fs:=fs) (off:=off) (a:=a) (b:=b) ho hs hk hks,n,cs,ds,h,hd,hl,hr=>by
  match ds,hd with
  | d :: ds,hd =>
   have h1:=h 0 f rfl
   rw [ho,hs] at h1
   have hsz:(K.pair a b).sz=a.sz+b.sz:=rfl
   obtain ⟨x,g1,g2⟩:=Zdl hk h1 (fun m hm=>hr m (by simp [DataW.weightsEach,hm]))
   obtain ⟨y,g3,g4⟩:=Zyt hks (ds:=ds) (fun i f hf=>h (i+1) f (by simpa using hf)) (by simpa using hd) (by omega) (fun m hm=>hr m (by simp only [List.map_cons,DataW.weightsEach,List.mem_append]; exact .inr hm))
   refine ⟨(x,y),⟨_,_,?_,g1,g3⟩,g2,g4⟩
   rw [hsz,List.take_add,List.drop_drop]
end
end
end Go.Lift

namespace Go.Lift
open Go.ChangeShapes Go.WideShapes Go.RowKit
def KS.rng:(ks:List K)→KS ks→Prop
 | [],_=>True
 | k :: ks,x=>k.rng x.1∧KS.rng ks x.2
section
variable {H:Type} {enc:TypeId × Value→H} {P:Program}
theorem Z127 {W:World} {base:Nat} {t:TypeId} {k:K} {v:Value} (hk:KT P t k) (h:Value.okWide P W .any base t v):if k.agg then ∃ vs,v=.agg vs else v.cells.toList=[v]:=by
 cases hk with
 | int ht=>simp only [K.agg]; obtain ⟨n,rfl⟩:=okWide_int ht h; rfl
 | flt ht =>
  simp only [K.agg]
  simp only [Value.okWide,ht,Cell.okWide] at h
  cases v <;> first | rfl | (simp [Cell.ok,ht] at h)
 | bool ht=>simp only [K.agg]; obtain ⟨n,rfl⟩:=okWide_bool ht h; rfl
 | slice ht _ _ _ _ =>
  simp only [K.agg]
  simp only [Value.okWide,ht,Cell.okWide] at h
  cases v <;> first | rfl | (simp [Cell.ok,ht] at h)
 | arr ht _ _ _ =>
  simp only [K.agg,if_true]
  simp only [Value.okWide,ht] at h
  obtain ⟨cs,rfl,_⟩:=h
  exact ⟨cs,rfl⟩
 | struct ht _ _ =>
  simp only [K.agg,if_true]
  simp only [Value.okWide,ht] at h
  obtain ⟨cs,rfl,_⟩:=h
  exact ⟨cs,rfl⟩
theorem Z1b3 {W:World} {base:Nat}:∀ {ts:List TypeId} {ks:List K},All2 (KT P) ts ks→∀ {vs:List Value} {ds:List (DataW H)} {ps:List MemPlace},DataW.TrodAll enc P W 0 (fun _=>true) true ts vs ds ps →
  (∀ (j:Nat) t v,ts[j]?=some t→vs[j]?=some v→Value.okWide P W .any base t v)→(∀ m ∈ DataW.weightsEach P ts ds,m≤reachBytes) →
  ∃ x:KS ks,Z3l W (fun b=>b<W.heap.size) ks x vs∧KS.rng ks x∧ds.length=ks.length:=by
 intro ts ks hk
 induction hk with
 | nil =>
  intro vs ds ps h _ _
  cases vs with
  | nil=>cases ds with
   | nil=>exact ⟨(),rfl,trivial,rfl⟩
   | cons d ds=>exact h.elim
  | cons v vs=>cases ds <;> exact h.elim
 | cons hk1 hks ih =>
  intro vs ds ps h hv hr
  cases vs with
  | nil=>cases ds <;> exact h.elim
  | cons v vs=>cases ds with
   | nil=>exact h.elim
   | cons d ds =>
    obtain ⟨p,q,⟨fuel,h1⟩,h2,_⟩:=h
    obtain ⟨x,g1,g2⟩:=Zdl hk1 h1 (fun m hm=>hr m (by simp only [DataW.weightsEach,List.mem_append]; exact .inl hm))
    obtain ⟨y,g3,g4,g5⟩:=ih h2 (fun j t v ht hv'=>hv (j+1) t v (by simpa using ht) (by simpa using hv')) (fun m hm=>hr m (by simp only [DataW.weightsEach,List.mem_append]; exact .inr hm))
    have hc:=Z127 hk1 (hv 0 _ v rfl rfl)
    refine ⟨(x,y),⟨v,vs,rfl,?_,g3⟩,⟨g2,g4⟩,by simp [g5]⟩
    unfold KRep
    split
    ·rename_i ha
     rw [if_pos ha] at hc
     obtain ⟨cs,rfl⟩:=hc
     exact ⟨cs,rfl,g1⟩
    ·rename_i ha
     rw [if_neg ha] at hc
     rw [hc] at g1; exact g1
theorem Z194 (hl:laidOutB P=true) {W W':World} (hg:Grows W W') {sp:Nat→Bool}:∀ {ts:List TypeId},(∀ t ∈ ts,P.readableRec t=true∧t<P.types.size)→∀ {vs:List Value} {ds:List (DataW H)} {ps:List MemPlace},
  DataW.TrodAll enc P W 0 (fun _=>true) true ts vs ds ps→(∀ p ∈ ps,p.block<W.heap.size)→(∀ p ∈ ps,sp p.block=true)→DataW.TrodAll enc P W' 0 sp true ts vs ds ps:=by
 intro ts
 induction ts with
 | nil=>intro _ vs ds ps h _ _; cases vs <;> cases ds <;> first | exact h | exact h.elim
 | cons t ts ih =>
  intro ht vs ds ps h hlt hs
  cases vs with
  | nil=>cases ds <;> exact h.elim
  | cons v vs=>cases ds with
   | nil=>exact h.elim
   | cons d ds =>
    obtain ⟨p,q,h1,h2,rfl⟩:=h
    have hb:Below W.heap.size W W':=⟨hg.os,hg.tape,hg.output,hg.size,hg.keep⟩
    exact ⟨p,q,WideElems.Trod_stays hl (ht t List.mem_cons_self).1 (ht t List.mem_cons_self).2 h1 (fun x hx=>hb.same (hlt x (List.mem_append_left _ hx))) (fun x hx=>hs x (List.mem_append_left _ hx)),
     ih (fun t h=>ht t (List.mem_cons_of_mem _ h)) h2 (fun x hx=>hlt x (List.mem_append_right _ hx)) (fun x hx=>hs x (List.mem_append_right _ hx)),rfl⟩
def Z15e (s:ChangeSpec) (n:Nat):Prop:=s.vars=[]∧∀ (H:Type) (ds:List (DataW H)),ds.length=n→s.fn H ds={ results:=[.lit (.bool true)],args:=ds }
end
end Go.Lift

namespace Go.Lift
def kfsB (P:Program) (chk:TypeId→K→Bool):List Field→Nat→K→Bool
 | [],_,_=>false
 | [f],off,k=>f.offset==off&&P.cellsOf f.type==k.sz&&chk f.type k
 | f :: fs,off,.pair a b=>f.offset==off&&P.cellsOf f.type==a.sz&&chk f.type a&&kfsB P chk fs (off+a.sz) b
 | _,_,_=>false
def ktB (P:Program):Nat→TypeId→K→Bool
 | 0,_,_=>false
 | n+1,t,k=>match k,P.underlying t with
  | .int i,some (.int j)=>i==j
  | .flt i,some (.float j)=>i==j
  | .bool,some .bool=>true
  | .slice e,some (.slice te)=>P.cellsOf te==e.sz&&decide (0<e.sz)&&decide (1≤P.bytesOf te)&&ktB P n te e
  | .arr m e,some (.array m' te)=>m==m'&&P.cellsOf te==e.sz&&P.cellsOf t==m*e.sz&&ktB P n te e
  | .pair a b,some (.struct fs)=>P.cellsOf t==(K.pair a b).sz&&kfsB P (ktB P n) fs.toList 0 (.pair a b)
  | _,_=>false
theorem Zt3 {P:Program} {chk:TypeId→K→Bool} (hc:∀ t k,chk t k=true→KT P t k):∀ (fs:List Field) (off:Nat) (k:K),kfsB P chk fs off k=true→KFs P fs off k
 | [],_,_,h=>by cases h
 | [f],off,k,h=>by
  have h':(f.offset==off&&P.cellsOf f.type==k.sz&&chk f.type k)=true:=by
   unfold kfsB at h; exact h
  simp only [Bool.and_eq_true,beq_iff_eq] at h'
  exact .one h'.1.1 h'.1.2 (hc _ _ h'.2)
 | f :: g :: fs,off,k,h=>by
  cases k with
  | pair a b =>
   have h':(f.offset==off&&P.cellsOf f.type==a.sz&&chk f.type a&&kfsB P chk (g :: fs) (off+a.sz) b)=true:=by
    unfold kfsB at h; exact h
   simp only [Bool.and_eq_true,beq_iff_eq] at h'
   exact .cons h'.1.1.1 h'.1.1.2 (hc _ _ h'.1.2) (Zt3 hc _ _ _ h'.2)
  | _=>unfold kfsB at h; cases h
theorem Z7r {P:Program}:∀ (n:Nat) (t:TypeId) (k:K),ktB P n t k=true→KT P t k
 | 0,_,_,h=>by cases h
 | n+1,t,k,h=>by
  unfold ktB at h
  split at h
  ·rename_i i j hu; exact .int (by rw [hu,eq_of_beq h])
  ·rename_i i j hu; exact .flt (by rw [hu,eq_of_beq h])
  ·rename_i hu; exact .bool hu
  ·rename_i e te hu
   simp only [Bool.and_eq_true,beq_iff_eq,decide_eq_true_eq] at h
   exact .slice hu h.1.1.1 h.1.1.2 h.1.2 (Z7r n te e h.2)
  ·rename_i m e m' te hu
   simp only [Bool.and_eq_true,beq_iff_eq] at h
   obtain ⟨⟨⟨rfl,h2⟩,h3⟩,h4⟩:=h
   exact .arr hu h2 h3 (Z7r n te e h4)
  ·rename_i a b fs hu
   simp only [Bool.and_eq_true,beq_iff_eq] at h
   exact .struct hu h.1 (Zt3 (fun t k=>Z7r n t k) _ _ _ h.2)
  ·cases h
def ktsB (P:Program):List TypeId→List K→Bool
 | [],[]=>true
 | t :: ts,k :: ks=>ktB P 9 t k&&ktsB P ts ks
 | _,_=>false
theorem Zt4 {P:Program}:∀ (ts:List TypeId) (ks:List K),ktsB P ts ks=true→All2 (KT P) ts ks
 | [],[],_=>.nil
 | t :: ts,k :: ks,h=>by
  simp only [ktsB,Bool.and_eq_true] at h
  exact .cons (Z7r 9 t k h.1) (Zt4 ts ks h.2)
 | [],_ :: _,h=>by cases h
 | _ :: _,[],h=>by cases h
end Go.Lift

namespace Go.Lift
def eqV:Value→Value→Bool
 | .int k n,.int j m=>k==j&&decide (n=m)
 | .bool a,.bool b=>a==b
 | .float k n,.float j m=>k==j&&n==m
 | .slice none a b,.slice none c d=>a==c&&b==d
 | .pointer none,.pointer none=>true
 | .nilIface,.nilIface=>true
 | .nilFunc,.nilFunc=>true
 | .map none,.map none=>true
 | .chan none,.chan none=>true
 | .string a,.string b=>a.data.toList==b.data.toList
 | _,_=>false
theorem Z195 {a b:Value} (h:eqV a b=true):a=b:=by
 unfold eqV at h
 split at h <;> simp_all
 rename_i x y
 cases x; cases y; simp_all
def eqVs:List Value→List Value→Bool
 | [],[]=>true
 | a :: ra,b :: rb=>eqV a b&&eqVs ra rb
 | _,_=>false
theorem Z3s:∀ {a b:List Value},eqVs a b=true→a=b
 | [],[],_=>rfl
 | a :: ra,b :: rb,h=>by
  simp only [eqVs,Bool.and_eq_true] at h
  rw [Z195 h.1,Z3s h.2]
 | [],_ :: _,h=>by cases h
 | _ :: _,[],h=>by cases h
def Z10z (f:List Value→Bool) (s:Nat):Nat→List Value→Bool
 | 0,[]=>true
 | 0,_ :: _=>false
 | n+1,l=>f (l.take s)&&Z10z f s n (l.drop s)
def K.dfltB:K→List Value→Bool
 | .int k,l=>eqVs l [.int k 0]
 | .bool,l=>eqVs l [.bool false]
 | .flt k,l=>eqVs l [.float k 0]
 | .unit,l=>l.isEmpty
 | .pair a b,l=>a.dfltB (l.take a.sz)&&b.dfltB (l.drop a.sz)
 | .arr n e,l=>Z10z e.dfltB e.sz n l
 | .slice _,l=>eqVs l [.slice none 0 0]
 | .ptr _,l=>eqVs l [.pointer none]
 | .map _ _,l=>eqVs l [.map none]
 | .ent _ _,_=>false
theorem K.dfltB_sound:∀ (k:K) {l:List Value},k.dfltB l=true→∀ w ok,k.rep w ok k.dflt l:=by
 intro k
 induction k with
 | int k=>intro l h w ok; exact Z3s h
 | bool=>intro l h w ok; exact Z3s h
 | flt k=>intro l h w ok; exact Z3s h
 | unit=>intro l h w ok; show l=[]; exact List.isEmpty_iff.1 h
 | pair a b iha ihb =>
  intro l h w ok
  simp only [K.dfltB,Bool.and_eq_true] at h
  exact ⟨_,_,(List.take_append_drop a.sz l).symm,iha h.1 w ok,ihb h.2 w ok⟩
 | arr n e ih =>
  intro l h w ok
  refine ⟨by show (List.replicate n e.dflt).length=n; simp,?_⟩
  have h':Z10z e.dfltB e.sz n l=true:=h
  clear h
  show Rows (e.rep w ok) (List.replicate n e.dflt) l
  induction n generalizing l with
  | zero=>cases l with
   | nil=>rfl
   | cons _ _=>cases h'
  | succ n ihn =>
   simp only [Z10z,Bool.and_eq_true] at h'
   exact ⟨_,_,(List.take_append_drop e.sz l).symm,ih h'.1 w ok,ihn h'.2⟩
 | slice e _=>intro l h w ok; exact ⟨none,0,Z3s h,Nat.le_refl _,Nat.zero_le _,.inl rfl⟩
 | ptr e _=>intro l h w ok; exact .inl ⟨rfl,Z3s h⟩
 | map a b _ _=>intro l h w ok; exact .inl ⟨rfl,Z3s h⟩
 | ent a b _ _=>intro l h; cases h
def TK.fitsB (P:Program) (t:TypeId):TK→Bool
 | .int k=>match P.underlying t with | some (.int j)=>j==k | _=>false
 | .bool=>match P.underlying t with | some .bool=>true | _=>false
 | .flt k=>match P.underlying t with | some (.float j)=>j==k | _=>false
 | .slice e=>match P.underlying t with | some (.slice d)=>d==e | _=>false
 | .arr n e=>match P.underlying t with | some (.array m d)=>m==n&&d==e | _=>false
 | .struct fs=>match P.underlying t with | some (.struct fields)=>fields.toList.map (fun f=>(f.offset,f.type))==fs | _=>false
 | .ptr e=>match P.underlying t with | some (.pointer d)=>d==e | _=>false
 | .str=>match P.underlying t with | some .string=>true | _=>false
 | .map a b=>(match P.underlying t with | some (.map c d)=>c==a&&d==b | _=>false)&&!P.stoodInHeld a&&(match P.underlying a with | some (.struct fields)=>fields.toList.all (fun f=>!(f.name == "_")) | _=>true) &&
   (match P.underlying b with | some (.int ik)=>(match P.info? b with | some inf=>(match inf.zero with | some (.int j n)=>j==ik&&n==0 | _=>false) | none=>false) | _=>true)
 | .plain=>match P.underlying t with | some d=>(match d with | .struct _ | .array _ _=>false | _=>true) | none=>false
 | .other=>true
theorem TK.fitsB_sound {P:Program} {t:TypeId} {k:TK} (h:k.fitsB P t=true):k.fits P t:=by
 cases k <;> simp only [TK.fitsB] at h <;> simp only [TK.fits]
 case struct fs =>
  split at h
  ·rename_i fields hf; exact ⟨fields,hf,by simpa using h⟩
  ·cases h
 case plain =>
  split at h
  ·rename_i d hd; exact ⟨d,hd,h⟩
  ·cases h
 case map a b =>
  simp only [Bool.and_eq_true] at h
  obtain ⟨⟨⟨h1,h2⟩,h3⟩,h4⟩:=h
  refine ⟨?_,by simpa using h2,fun fields hf f hm=>?_,fun ik hi=>?_⟩
  ·split at h1
   ·rename_i hu; rw [hu]; simp_all
   ·cases h1
  ·rw [hf] at h3
   have:=List.all_eq_true.1 h3 f hm
   simpa using this
  ·rw [hi] at h4
   simp only at h4
   split at h4
   ·rename_i inf hinf
    split at h4
    ·rename_i j n hz
     simp only [Bool.and_eq_true,beq_iff_eq] at h4
     exact ⟨inf,hinf,by rw [hz,h4.1,h4.2]⟩
    ·cases h4
   ·cases h4
 all_goals first
  | trivial
  | (split at h <;> first | (cases h; done) | (rename_i hu; rw [hu]; simp_all; done) | (rename_i hu; rw [hu]))
def TD.fitsB (P:Program) (t:TypeId) (d:TD):Bool :=
 d.k.fitsB P t&&(match P.info? t with
  | some i=>match i.zero with
   | some z=>i.size==d.sz&&i.bytes==d.bytes&&eqVs z.cells.toList d.zero&&z.cells.size==d.sz
   | none=>false
  | none=>false)&&(match d.kind with
  | some k=>k.sz==d.sz&&d.k.agg==some k.agg&&k.dfltB d.zero
  | none=>true)
theorem TD.fitsB_sound {P:Program} {t:TypeId} {d:TD} (h:d.fitsB P t=true):d.Fits P t:=by
 simp only [TD.fitsB,Bool.and_eq_true] at h
 obtain ⟨⟨h1,h2⟩,h3⟩:=h
 refine ⟨TK.fitsB_sound h1,?_,?_⟩
 ·split at h2
  ·rename_i i hi
   split at h2
   ·rename_i z hz
    simp only [Bool.and_eq_true,beq_iff_eq] at h2
    exact ⟨i,z,hi,h2.1.1.1,h2.1.1.2,hz,Z3s h2.1.2,h2.2⟩
   ·cases h2
  ·cases h2
 ·intro k hk
  rw [hk] at h3
  simp only [Bool.and_eq_true,beq_iff_eq] at h3
  exact ⟨h3.1.1,h3.1.2,K.dfltB_sound k h3.2⟩
def Zx (L:List (Nat × TD)) (t:Nat):Option TD:=match L with
 | []=>none
 | x :: L=>if Nat.beq x.1 t then some x.2 else Zx L t
def tabB (P:Program):List (Nat × TD)→Bool
 | []=>true
 | x :: L=>x.2.fitsB P x.1&&tabB P L
theorem Z8 {P:Program}:∀ {L:List (Nat × TD)},tabB P L=true→∀ t d,Zx L t=some d→d.Fits P t
 | [],_,t,d,h=>by cases h
 | x :: L,hb,t,d,h=>by
  simp only [tabB,Bool.and_eq_true] at hb
  simp only [Zx] at h
  split at h
  ·rename_i e
   cases h
   rw [← Nat.eq_of_beq_eq_true e]
   exact TD.fitsB_sound hb.1
  ·exact Z8 hb.2 t d h
def noHn:Hn:={ loops:=fun _=>none,joins:=fun _=>none }
def nHn:Hn:={ loops:=fun _=>none,joins:=fun _=>none,named:=true }
def Zz (L:List (Nat × Con)) (f:Nat):Option Con:=match L with
 | []=>none
 | x :: L=>if Nat.beq x.1 f then some x.2 else Zz L f
def Z196 (P:Program) (G:Z6a):List (Nat × Con)→Prop
 | []=>True
 | x :: L=>x.2.holds P G x.1∧Z196 P G L
theorem Zd {P:Program} {G:Z6a}:∀ {L:List (Nat × Con)},Z196 P G L→∀ f c,Zz L f=some c→c.holds P G f
 | [],_,f,c,h=>by cases h
 | x :: L,hb,f,c,h=>by
  simp only [Zz] at h
  split at h
  ·rename_i e
   cases h
   rw [← Nat.eq_of_beq_eq_true e]
   exact hb.1
  ·exact Zd hb.2 f c h
def inlL (l:List Nat):FuncId→Bool:=fun f=>Z3i f l
def Z1c4 {α:Type}:List (Nat × α)→Nat→Option α
 | [],_=>none
 | x :: l,k=>if Nat.beq x.1 k then some x.2 else Z1c4 l k
end Go.Lift

namespace Go.Lift
def r1 {α:Type} (a:α):α × Unit:=(a,())
def W2 (a b:Nat):Prop:=W64 a∧W64 b
def W3 (a b c:Nat):Prop:=W64 a∧W64 b∧W64 c
def WL (l:List Nat):Prop:=∀ x ∈ l,W64 x
def Z77 (b:Nat):Int × Unit:=r1 (b:Int)
def Zo1 (n:Int):Nat × Unit:=r1 n.toNat
def Z16w (a b:Nat):Bool × Unit:=r1 (decide (a=b))
def qnR:Nat × Unit:=r1 QN
def absR (b:Nat):Nat × Unit:=r1 (Z2 b)
def nanR (b:Nat):Bool × Unit:=r1 (isN b)
def noR (_:Int):Bool × Unit:=r1 false
def magI (b:Nat):Int:=(Z2 b:Nat)
def Zy (b:Nat):Nat × Unit:=r1 (Z21 b)
def Z128 (b:Nat):Nat × Unit:=r1 (Zf b)
def mag2 (b:Nat):Int:=2*magI b
def Z110 (b:Nat):Int × Unit:=r1 (mag2 b)
def Zh2 (b:Nat):Int:=if sgn b then 18446744073709551615 - (b:Int) else (b:Int)+9223372036854775808
def Zt5 (b:Nat):Int × Unit:=r1 (Zh2 b)
def cmpI (a b:Int):Int:=if a<b then -1 else if a > b then 1 else 0
def cmpR (a b:Int):Int × Unit:=r1 (cmpI a b)
def ordF (a b:Nat):Int:=cmpI (Zh2 a) (Zh2 b)
def ordR (a b:Nat):Int × Unit:=r1 (ordF a b)
def Z97:List Int→Int
 | []=>0
 | x :: l=>if x≠0 then x else Z97 l
def orR (l:List Int):Int × Unit:=r1 (Z97 l)
def cmpM (a b:Nat):Int:=if cmpI (mag2 a) (mag2 b)≠0 then cmpI (mag2 a) (mag2 b) else ordF a b
def Zj3 (a b:Nat):Int × Unit:=r1 (cmpM a b)
def infS (x:Nat) (s:Int):Bool:=if s=0 then decide (Z2 x=infR) else if s<0 then decide (Z2 x=infR)&&sgn x else decide (Z2 x=infR)&&!sgn x
def Z16x (x:Nat) (s:Int):Bool × Unit:=r1 (infS x s)
def WI (x:Nat) (_:Int):Prop:=W64 x
def Z8a (x:Nat):Int:=if Z2 x=0 then 0 else if Z2 x<bin then 1 else if Z2 x<infR then 2 else if Z2 x=infR then 3 else 4
def relF (q:Nat) (r:Nat × Unit):Prop:=Zf r.1=q∧W64 r.1
def Zf6 (x:Nat) (r:Nat × Unit):Prop:=relF (Z82 x) r
theorem Z15f {q:Nat} (h1:Zf q=q) (h2:W64 q):∃ r,relF q r:=⟨(q,()),h1,h2⟩
theorem Zo2 {b:Nat} (h:W64 b):sgn b=true↔9223372036854775808≤b:=by
 unfold sgn sw W64 at *
 rw [beq_iff_eq]
 omega
theorem Z15g {b:Nat} (h:W64 b):sgn b=decide (9223372036854775808≤b):=by
 rw [Bool.eq_iff_iff,Zo2 h]; simp
theorem Zw3 {b:Nat} (h:b<9223372036854775808):Z2 b=b:=by unfold Z2 sw; omega
theorem Z1cm {b:Nat} (h:W64 b) (h1:9223372036854775808≤b):Z2 b=b - 9223372036854775808:=by unfold Z2 sw; unfold W64 at h; omega
theorem Z15h (b:Nat):Z2 b<9223372036854775808:=by unfold Z2 sw; omega
theorem wu (x:Int) (h:U64 x):u64.wrap x=x:=by obtain ⟨h1,h2⟩:=h; rw [IntKind.wrap_u64]; omega
theorem wi {x:Int} (h:I64 x):i64.wrap x=x:=by obtain ⟨h1,h2⟩:=h; simp [IntKind.wrap,IntKind.bits,IntKind.signed]; omega
theorem Z1cn (a b:Nat):((a:Int)==(b:Int))=decide (a=b):=by
 rw [Bool.eq_iff_iff]; simp; omega
theorem Zw4 {a:Nat} (h:a<18446744073709551616):(BitVec.ofInt 64 (a:Int)).toNat=a:=by
 rw [BitVec.ofInt_natCast,BitVec.toNat_ofNat]; exact Nat.mod_eq_of_lt h
theorem Z14a {a:Nat} (h:W64 a):Go.bits .andNot .u64 (a:Int) 9223372036854775808=(Z2 a:Nat):=by
 show u64.wrap ((BitVec.ofInt 64 (a:Int) &&& ~~~ BitVec.ofInt 64 ((9223372036854775808:Nat):Int)).toNat:Int)=_
 have h1:=Zw4 h
 have h2:=Zw4 (a:=9223372036854775808) (by decide)
 have e:(BitVec.ofInt 64 (a:Int) &&& ~~~ BitVec.ofInt 64 ((9223372036854775808:Nat):Int))=BitVec.ofNat 64 (Z2 a):=by
  rw [show BitVec.ofInt 64 (a:Int)=BitVec.ofNat 64 a by rw [BitVec.ofInt_natCast]]
  apply BitVec.eq_of_toNat_eq
  have e3 : ~~~ BitVec.ofInt 64 ((9223372036854775808:Nat):Int)=BitVec.ofNat 64 (2 ^ 63 - 1):=by decide
  rw [e3,BitVec.toNat_and,BitVec.toNat_ofNat,BitVec.toNat_ofNat,BitVec.toNat_ofNat]
  have e4:(2 ^ 63 - 1) % 2 ^ 64=2 ^ 63 - 1:=by decide
  rw [e4,Nat.and_two_pow_sub_one_eq_mod]
  unfold Z2 sw; unfold W64 at h; omega
 rw [e,BitVec.toNat_ofNat,IntKind.wrap_u64]
 unfold Z2 sw; omega
theorem Z1b4 {a:Nat} (h:W64 a):Go.bits .xor .u64 (if u64.signed=true then -1 else u64.max) (a:Int)=18446744073709551615 - (a:Int):=by
 show u64.wrap ((BitVec.ofInt 64 u64.max ^^^ BitVec.ofInt 64 (a:Int)).toNat:Int)=_
 have e:BitVec.ofInt 64 u64.max=BitVec.allOnes 64:=by decide
 rw [e,BitVec.allOnes_xor,BitVec.toNat_not,Zw4 h,IntKind.wrap_u64]
 unfold W64 at h; omega
theorem Z1co {a:Nat} (h:a<9223372036854775808):Go.bits .or .u64 (a:Int) 9223372036854775808=(a:Int)+9223372036854775808:=by
 have:=bits_or_u64_nat a 9223372036854775808 (by omega) (by decide)
 rw [show ((9223372036854775808:Nat):Int)=9223372036854775808 from rfl] at this
 rw [this]
 have e:a ||| 9223372036854775808=9223372036854775808+a:=by
  rw [Nat.or_comm]
  have:=Nat.two_pow_add_eq_or_of_lt (i:=63) h 1
  simpa using this.symm
 rw [e]; omega
theorem Zyu {a:Nat} (h:W64 a):Z2 (negF a)=Z2 a∧True:=by
 refine ⟨?_,trivial⟩
 unfold negF Op.negFloat
 show (a ^^^ 2 ^ 63) % 2 ^ 63=a % 2 ^ 63
 rw [Nat.xor_mod_two_pow,Nat.mod_self,Nat.xor_zero]
theorem Z129 {a:Nat} (h:W64 a):sgn (negF a)=!sgn a:=by
 unfold negF Op.negFloat sgn sw
 show ((a ^^^ 2 ^ 63) / 2 ^ 63 % 2==1)=!(a / 2 ^ 63 % 2==1)
 rw [Nat.xor_div_two_pow,Nat.div_self (by decide),← Nat.pow_one 2,Nat.xor_mod_two_pow]
 have:a / 2 ^ 63 % 2 ^ 1=0∨a / 2 ^ 63 % 2 ^ 1=1:=by omega
 rcases this with e | e <;> rw [e] <;> decide
theorem Z1dn {a:Nat} (h:W64 a):W64 (negF a):=by
 unfold negF Op.negFloat W64 at *
 exact Nat.xor_lt_two_pow (n:=64) h (by decide)
theorem Z12a (x:Nat):fcmp .gtr (Ieee.double.order x 9218868437227405311)=(decide (Z2 x=infR)&&!sgn x):=by
 have h0:isN 9218868437227405311=false:=by decide
 have k0:Z20 9218868437227405311=9218868437227405311:=by decide
 cases h:isN x with
 | true =>
  rw [Z4j (.inl h)]
  have:infR<Z2 x:=by simpa [isN] using h
  have:¬ Z2 x=infR:=by omega
  simp [this]; rfl
 | false =>
  rw [Z7c h h0,k0]
  have hle:Z2 x≤infR:=by simpa [isN] using h
  unfold Z20
  cases hs:sgn x with
  | true =>
   simp only [if_true,Bool.not_true,Bool.and_false]
   rw [Std.compare_eq_lt.2 (by omega)]; rfl
  | false =>
   simp only [Bool.false_eq_true,if_false,Bool.not_false,Bool.and_true]
   unfold infR at *
   by_cases e:Z2 x=9218868437227405312
   ·rw [Std.compare_eq_gt.2 (by omega)]; simp [e]; rfl
   ·rw [show decide (Z2 x=9218868437227405312)=false by simpa using e]
    by_cases e2:Z2 x=9218868437227405311
    ·rw [e2]; rfl
    ·rw [Std.compare_eq_lt.2 (by omega)]; rfl
section
variable {a b:Nat}
end
end Go.Lift

namespace Go.Lift
def Zo3 (a:Int):Prop:=a=3
def twoR (_:Int):Int × Unit:=r1 2
def rowQ:List Nat→Nat
 | []=>0
 | x :: xs=>xs.foldl addQ (Zf x)
def rowR (l:List Nat):Nat × Unit:=r1 (rowQ l)
def ltM (a b:Nat):Bool:=decide (cmpM a b<0)
def Zcq (a b c:Nat):List Nat :=
 if ltM b a then (if ltM c a then (if ltM c b then [c,b,a] else [b,c,a]) else [b,a,c])
 else (if ltM c b then (if ltM c a then [c,a,b] else [a,c,b]) else [a,b,c])
def Zf7 (a b c:Nat):Nat:=rowQ (Zcq a b c)
def Zt6 (a b c:Nat):Nat × Unit:=r1 (Zf7 a b c)
def WV (a:Nat × Nat × Nat):Prop:=W64 a.1∧W64 a.2.1∧W64 a.2.2
def WV2 (a b:Nat × Nat × Nat):Prop:=WV a∧WV b
def Z8b (x y z:Nat):Nat × Nat × Nat:=(Z21 x,Z21 y,Z21 z)
def Z48 (x y z:Nat):(Nat × Nat × Nat) × Unit:=r1 (Z8b x y z)
def Zdm (a b:Nat × Nat × Nat):Nat × Nat × Nat:=Z8b (subQ a.1 b.1) (subQ a.2.1 b.2.1) (subQ a.2.2 b.2.2)
def Z71 (a b:Nat × Nat × Nat):(Nat × Nat × Nat) × Unit:=r1 (Zdm a b)
def Z111 (p q r s:Nat):Nat:=subQ (mulQ p q) (mulQ r s)
def Zt7 (a b:Nat × Nat × Nat):Nat × Nat × Nat:=Z8b (Z111 a.2.1 b.2.2 a.2.2 b.2.1) (Z111 a.2.2 b.1 a.1 b.2.2) (Z111 a.1 b.2.1 a.2.1 b.1)
def Zma (a b:Nat × Nat × Nat):(Nat × Nat × Nat) × Unit:=r1 (Zt7 a b)
def Z1g (a:Nat × Nat × Nat):Nat:=Z21 (Z82 (Zf7 (mulQ a.1 a.1) (mulQ a.2.1 a.2.1) (mulQ a.2.2 a.2.2)))
def Z49 (a:Nat × Nat × Nat):Nat × Unit:=r1 (Z1g a)
def gapQ (a b:Nat × Nat × Nat):Nat:=Z1g (Zdm a b)
def gapR (a b:Nat × Nat × Nat):Nat × Unit:=r1 (gapQ a b)
def Zf8 (a:Nat × Nat × Nat):Nat × Nat × Nat :=
 if Z8a (Z1g a)=1∨Z8a (Z1g a)=2 then Z8b (Z4o a.1 (Z1g a)) (Z4o a.2.1 (Z1g a)) (Z4o a.2.2 (Z1g a)) else (0,0,0)
def Zt8 (a:Nat × Nat × Nat):(Nat × Nat × Nat) × Unit:=r1 (Zf8 a)
end Go.Lift

namespace Go.Lift
theorem Z1do (l:List Nat):Zf (rowQ l)=rowQ l:=by
 cases l with
 | nil=>decide
 | cons x xs =>
  show Zf (xs.foldl addQ (Zf x))=xs.foldl addQ (Zf x)
  have:∀ (xs:List Nat) (y:Nat),Zf y=y→Zf (xs.foldl addQ y)=xs.foldl addQ y:=by
   intro xs
   induction xs with
   | nil=>intro y h; exact h
   | cons z xs ih=>intro y h; exact ih _ (Z1dj _ _)
  exact this xs _ (Z13r x)
theorem Z197 {l:List Nat} (hl:l≠[]) (x:Nat):rowQ (l++[x])=addQ (rowQ l) x:=by
 cases l with
 | nil=>exact absurd rfl hl
 | cons y l=>show (l++[x]).foldl addQ (Zf y)=_; rw [List.foldl_append]; rfl
theorem Z1cp {a:List Nat} {i:Nat} (h:i<a.length) (h0:1≤i):rowQ (a.take (i+1))=addQ (rowQ (a.take i)) (a.getD i 0):=by
 rw [List.take_succ_eq_append_getElem h,Z197 (List.ne_nil_of_length_pos (by rw [List.length_take]; omega)),List.getD_eq_getElem?_getD,List.getElem?_eq_getElem h]
 rfl
theorem Z1b5 {a:List Nat} (h:0<a.length):rowQ (a.take 1)=Zf (a.getD 0 0):=by
 cases a with
 | nil=>cases h
 | cons x a=>rfl
theorem Z1cq {a:List Nat} (h:WL a) (i:Nat):W64 (a.getD i 0):=by
 rw [List.getD_eq_getElem?_getD]
 cases e:a[i]? with
 | none=>show W64 0; unfold W64; decide
 | some y=>exact h y (List.mem_of_getElem? e)
theorem WL3 {a b c:Nat} (ha:W64 a) (hb:W64 b) (hc:W64 c):WL [a,b,c]:=by
 intro x hx; simp at hx; rcases hx with rfl | rfl | rfl <;> assumption
theorem Zgd {x y:Nat} (h:Zf x=Zf y):(isN x=true∧isN y=true)∨x=y:=by
 have nx:isN x=isN y:=by rw [← Z3q x,h,Z3q]
 by_cases e:isN x=true
 ·exact .inl ⟨e,by rw [← nx]; exact e⟩
 ·have e1:isN x=false:=by simpa using e
  unfold Zf at h
  rw [← nx,e1] at h
  exact .inr (by simpa using h)
theorem Z198 {x y z:Nat} (h:isN x=true∨isN y=true∨isN z=true):rowQ [x,y,z]=QN:=by
 show addQ (addQ (Zf x) y) z=QN
 rcases h with h | h | h
 ·rw [Z90 (x:=Zf x) (.inl (by rw [Z3q]; exact h))]; exact Z90 (.inl QN_N)
 ·rw [Z90 (x:=Zf x) (.inr h)]; exact Z90 (.inl QN_N)
 ·exact Z90 (.inr h)
theorem Z7s {a b c:Nat} (h:isN a=true∨isN b=true∨isN c=true):Zf7 a b c=QN:=by
 unfold Zf7 Zcq
 split <;> split <;> (try split) <;> exact Z198 (by rcases h with h | h | h <;> simp [h])
theorem Z14b {a b c a' b' c':Nat} (ha:Zf a=Zf a') (hb:Zf b=Zf b') (hc:Zf c=Zf c'):Zf7 a b c=Zf7 a' b' c':=by
 rcases Zgd ha with ⟨h1,h2⟩ | rfl
 ·rw [Z7s (.inl h1),Z7s (.inl h2)]
 rcases Zgd hb with ⟨h1,h2⟩ | rfl
 ·rw [Z7s (.inr (.inl h1)),Z7s (.inr (.inl h2))]
 rcases Zgd hc with ⟨h1,h2⟩ | rfl
 ·rw [Z7s (.inr (.inr h1)),Z7s (.inr (.inr h2))]
 rfl
theorem Z98 (p:Int):rnd 0 p=0:=by unfold rnd; simp
theorem Z1b6 (x:Nat) (h:sgn (Z82 x)=true):Z2 (Z82 x)=0:=by
 have hn:sgn QN=false:=by decide
 have hw:∀ (r:Nat) (hr:r≤infR),sgn (Ieee.double.word false r)=false:=fun r hr=>(Zd0 (s:=false) hr).2.2.2
 unfold Z82 at h ⊢
 have e:Ieee.double.sqrt x=((Ieee.double.read x).root (Ieee.double.fractionBits+2)).map Ieee.double.write:=rfl
 rw [e] at h ⊢
 cases hd:(Ieee.double.read x).root (Ieee.double.fractionBits+2) with
 | none=>rw [hd] at h; have h:sgn QN=true:=h; rw [hn] at h; cases h
 | some d =>
  rw [hd] at h
  have h:sgn (Ieee.double.write d)=true:=h
  show Z2 (Ieee.double.write d)=0
  have key:∀ (m:Nat) (p:Int),sgn (Ieee.double.write (.number false m p))=true→False:=by
   intro m p h
   have h:sgn (Ieee.double.nearest false m p)=true:=h
   rw [Z3o,hw _ (Z17v m p)] at h; cases h
  cases hr:Ieee.double.read x with
  | nan s f=>rw [hr] at hd; cases hd
  | infinity s =>
   rw [hr] at hd
   simp only [Ieee.Datum.root] at hd
   split at hd
   ·cases hd
   ·rename_i hs
    have hs:s=false:=by simpa using hs
    subst hs
    cases hd
    have e2:Ieee.double.write (.infinity false)=Ieee.double.word false infR:=by
     show Ieee.double.word false Ieee.double.infRung=_
     rw [show Ieee.double.infRung=infR by decide]
    rw [e2,hw _ (Nat.le_refl _)] at h; cases h
  | number s m p =>
   rw [hr] at hd
   simp only [Ieee.Datum.root] at hd
   split at hd
   ·rename_i hm
    cases hd
    subst hm
    show Z2 (Ieee.double.nearest s 0 p)=0
    rw [Z3o,Z98]
    exact (Zd0 (s:=s) (Nat.zero_le _)).2.2.1
   ·split at hd
    ·cases hd
    ·cases hd
     exact (key _ _ h).elim
theorem Z14c (a:Nat × Nat × Nat):sgn (Z1g a)=false:=by
 unfold Z1g
 generalize Zf7 _ _ _=x
 unfold Z21
 split
 ·decide
 ·split
  ·decide
  ·rename_i h
   cases e:sgn (Z82 x) with
   | false=>rfl
   | true=>exact absurd (Z1b6 x e) h
theorem Z199 (a:Nat × Nat × Nat):W64 (Z1g a):=Z5q (Zvr _)
theorem Z1cr {x:Nat} (h:sgn x=false):fcmp .gtr (Ieee.double.order x 0)=(!isN x&&decide (Z2 x≠0)):=by
 have h0:isN 0=false:=by decide
 have k0:Z20 0=0:=by decide
 cases hx:isN x with
 | true=>rw [Z4j (.inl hx)]; rfl
 | false =>
  rw [Z7c hx h0,k0]
  unfold Z20
  rw [h]
  simp only [Bool.false_eq_true,if_false,Bool.not_false,Bool.true_and]
  by_cases e:Z2 x=0
  ·rw [e]; decide
  ·rw [Std.compare_eq_gt.2 (by omega)]
   simp [e]; rfl
theorem Zqf {x y z:Nat} (hx:W64 x) (hy:W64 y) (hz:W64 z):WV (Z8b x y z):=⟨Z5q hx,Z5q hy,Z5q hz⟩
theorem Z1b7 (a b:Nat × Nat × Nat):WV (Zdm a b):=Zqf (Zd8 _ _) (Zd8 _ _) (Zd8 _ _)
theorem Zdn {x y z x' y' z':Nat} (hx:Zf x=x') (hy:Zf y=y') (hz:Zf z=z'):Z8b x y z=Z8b x' y' z':=by
 unfold Z8b
 rw [← hx,← hy,← hz,Z75,Z75,Z75]
theorem Zw5 {p q r s x y z:Nat} (hx:Zf x=mulQ p q) (hy:Zf y=mulQ r s) (hz:Zf z=subQ x y):Zf z=Z111 p q r s:=by
 rw [hz]; exact Z16a (by rw [hx,Zgu]) (by rw [hy,Zgu])
theorem length_eq {a:Nat × Nat × Nat} {x y z w:Nat} (hx:Zf x=mulQ a.1 a.1) (hy:Zf y=mulQ a.2.1 a.2.1) (hz:Zf z=mulQ a.2.2 a.2.2) (hw:Zf w=Z82 (Zf7 x y z)):Z21 w=Z1g a:=by
 unfold Z1g
 rw [← Z75 w,hw,Z14b (a':=mulQ a.1 a.1) (b':=mulQ a.2.1 a.2.1) (c':=mulQ a.2.2 a.2.2) (by rw [hx,Zgu]) (by rw [hy,Zgu]) (by rw [hz,Zgu])]
theorem Zyv {a:Nat × Nat × Nat} (h:¬ (Z8a (Z1g a)=1∨Z8a (Z1g a)=2)):Zf8 a=(0,0,0):=by unfold Zf8; rw [if_neg h]
theorem Z19a {a:Nat × Nat × Nat} (h:Z8a (Z1g a)=1∨Z8a (Z1g a)=2) {x y z:Nat} (hx:Zf x=Z4o a.1 (Z1g a)) (hy:Zf y=Z4o a.2.1 (Z1g a)) (hz:Zf z=Z4o a.2.2 (Z1g a)) :
  Z8b x y z=Zf8 a:=by
 unfold Zf8; rw [if_pos h]; exact Zdn hx hy hz
theorem Zw6 (x:Nat):(Z8a x=1∨Z8a x=2)↔Z2 x≠0∧Z2 x<infR:=by
 have:bin<infR:=by decide
 unfold Z8a
 split <;> (try split) <;> (try split) <;> (try split) <;> omega
end Go.Lift

namespace Go.Lift
open Ieee
theorem Z16y (s:Bool) (m k:Nat):signed (!s) m k=- signed s m k:=by
 unfold signed; cases s <;> simp
theorem Zf9 {b:Nat} (h:W64 b):double.read (negF b)=(double.read b).opposite:=by
 rw [Zgt,Zgt,(Zyu h).1,Z129 h]
 split
 ·rfl
 ·split <;> rfl
theorem Z1cs (a:Datum):a.opposite.opposite=a:=by cases a <;> simp [Datum.opposite]
theorem Z1b8 (a b:Datum):a.sum b=b.sum a:=by
 cases a with
 | nan s f=>cases b <;> rfl
 | infinity s =>
  cases b with
  | infinity t =>
   simp only [Datum.sum]
   by_cases e:s=t
   ·subst e; rfl
   ·rw [if_neg e,if_neg (fun h=>e h.symm)]
  | _=>rfl
 | number s m i =>
  cases b with
  | number t n j =>
   simp only [Datum.sum]
   rw [Int.min_comm i j,Int.add_comm (signed s m _),Bool.and_comm]
  | _=>rfl
theorem Z19b (s:Bool):double.write (.infinity s)=double.word s infR:=by
 show double.word s double.infRung=_
 rw [show double.infRung=infR by decide]
theorem sub_neg {x y:Nat} (hx:W64 x) (hy:W64 y):subQ (negF x) (negF y)=subQ y x:=by
 unfold subQ
 show (((double.read (negF x)).sum (double.read (negF y)).opposite).map double.write).getD QN=(((double.read y).sum (double.read x).opposite).map double.write).getD QN
 rw [Zf9 hx,Zf9 hy,Z1cs,Z1b8]
theorem Z14d (a b:Datum):a.opposite.product b.opposite=a.product b:=by
 cases a <;> cases b <;> simp [Datum.product,Datum.opposite]
theorem mul_neg {x y:Nat} (hx:W64 x) (hy:W64 y):mulQ (negF x) (negF y)=mulQ x y:=by
 unfold mulQ
 show (((double.read (negF x)).product (double.read (negF y))).map double.write).getD QN=(((double.read x).product (double.read y)).map double.write).getD QN
 rw [Zf9 hx,Zf9 hy,Z14d]
theorem Z12b {x:Nat} (h:W64 x) (hn:isN x=false) (t:Bool) (j:Int):∃ w,((double.read x).sum (.number t 0 j)).map double.write=some w∧isN w=false∧Z2 w=Z2 x∧(Z2 x≠0→w=x):=by
 rcases Z81 x with ⟨h1,_⟩ | ⟨h1,_⟩ | ⟨_,h1⟩
 ·rw [Z30 h1]
  simp only [Datum.sum]
  have z:signed t 0 (j - min (Z11 (Z2 x)) j).toNat=0:=by unfold signed; split <;> simp
  rw [z,Int.add_zero]
  have ea:(signed (sgn x) (Z1y (Z2 x)) (Z11 (Z2 x) - min (Z11 (Z2 x)) j).toNat).natAbs=Z1y (Z2 x)*2 ^ (Z11 (Z2 x) - min (Z11 (Z2 x)) j).toNat:=by
   unfold signed
   split
   ·rw [Int.natAbs_neg,Int.natAbs_natCast,Nat.shiftLeft_eq]
   ·rw [Int.natAbs_natCast,Nat.shiftLeft_eq]
  rw [ea]
  have er:=Z17w (Z1y (Z2 x)) (Z11 (Z2 x)) (Z11 (Z2 x) - min (Z11 (Z2 x)) j).toNat
  rw [show Z11 (Z2 x) - ((Z11 (Z2 x) - min (Z11 (Z2 x)) j).toNat:Int)=min (Z11 (Z2 x)) j by omega,Zy2 h1] at er
  generalize hsg:(if signed (sgn x) (Z1y (Z2 x)) (Z11 (Z2 x) - min (Z11 (Z2 x)) j).toNat=0 then sgn x&&t else decide (signed (sgn x) (Z1y (Z2 x)) (Z11 (Z2 x) - min (Z11 (Z2 x)) j).toNat<0))=s'
  refine ⟨double.nearest s' _ _,rfl,?_⟩
  rw [Z3o,er]
  obtain ⟨g1,g2,g3,g4⟩:=Zd0 (s:=s') (Nat.le_of_lt h1)
  refine ⟨g1,g3,fun hz=>?_⟩
  have es:s'=sgn x:=by
   have hm:Z1y (Z2 x)≠0:=by
    intro e
    have:=Zy2 h1
    rw [e,Z98] at this
    exact hz this.symm
   have hp:0<Z1y (Z2 x)*2 ^ (Z11 (Z2 x) - min (Z11 (Z2 x)) j).toNat:=Nat.mul_pos (by omega) (Nat.two_pow_pos _)
   rw [← ea] at hp
   rw [if_neg (by omega)] at hsg
   rw [← hsg]
   unfold signed
   cases hs:sgn x with
   | true =>
    simp only [if_true]
    rw [hs] at hp
    unfold signed at hp
    simp only [if_true] at hp
    rw [decide_eq_true]; omega
   | false =>
    simp only [Bool.false_eq_true,if_false]
    rw [decide_eq_false]; omega
  rw [es]; exact Z151 h
 ·rw [Z8y h1]
  refine ⟨double.write (.infinity (sgn x)),rfl,?_⟩
  rw [Z19b]
  have e:double.word (sgn x) infR=x:=by rw [← h1]; exact Z151 h
  rw [e]
  exact ⟨hn,rfl,fun _=>rfl⟩
 ·rw [hn] at h1; cases h1
theorem add_zero {x:Nat} (h:W64 x) (hn:isN x=false):isN (addQ x 0)=false∧Z2 (addQ x 0)=Z2 x∧(Z2 x≠0→addQ x 0=x):=by
 obtain ⟨w,h1,h2,h3,h4⟩:=Z12b h hn false (-1074)
 have e0:double.read 0=.number false 0 (-1074):=by decide +kernel
 have e:addQ x 0=w:=by
  unfold addQ
  show (((double.read x).sum (double.read 0)).map double.write).getD QN=w
  rw [e0,h1]; rfl
 rw [e]; exact ⟨h2,h3,h4⟩
end Go.Lift

namespace Go.Lift
open Ieee
end Go.Lift

namespace Go.Lift
open Ieee
def NN (x:Nat):Prop:=W64 x∧isN x=false∧0≤Z20 x
theorem NN.key {x:Nat} (h:NN x):Z20 x=Z2 x:=by
 have:=h.2.2
 unfold Z20 at this ⊢
 split at this
 ·rw [if_pos (by assumption)]; omega
 ·rw [if_neg (by assumption)]
theorem NN.le {x:Nat} (h:NN x):Z2 x≤infR:=by have:=h.2.1; unfold isN at this; simpa using this
theorem Z19c (s:Bool) (m:Nat) (p:Int):double.write (.number s m p)=double.word s (rnd m p):=Z3o s m p
end Go.Lift

namespace Go.Lift
open Ieee
def Z (x:Nat):Prop:=W64 x∧isN x=false∧Z2 x=0
def Eqv (r x:Nat):Prop:=isN r=false∧Z2 r=Z2 x∧(Z2 x≠0→r=x)
theorem Z1dp {z:Nat} (h:Z z):double.read z=.number (sgn z) 0 (-1074):=by
 rw [Z30 (by rw [h.2.2]; decide),h.2.2]; rfl
theorem Z1dq {x y:Nat} {d:Datum} (h:(double.read x).sum (double.read y).opposite=some d):subQ x y=double.write d:=by
 unfold subQ
 show (((double.read x).sum (double.read y).opposite).map double.write).getD QN=_
 rw [h]; rfl
theorem Z1e9 {x z:Nat} (hx:W64 x) (hn:isN x=false) (hz:Z z):Eqv (subQ x z) x:=by
 obtain ⟨w,h1,h2,h3,h4⟩:=Z12b hx hn (!sgn z) (-1074)
 have e:subQ x z=w:=by
  unfold subQ
  show (((double.read x).sum (double.read z).opposite).map double.write).getD QN=w
  rw [Z1dp hz]
  show (((double.read x).sum (.number (!sgn z) 0 (-1074))).map double.write).getD QN=w
  rw [h1]; rfl
 rw [e]; exact ⟨h2,h3,h4⟩
theorem Eqv.zero {r x:Nat} (hw:W64 r) (h:Eqv r x) (hx:Z2 x=0):Z r:=⟨hw,h.1,h.2.1.trans hx⟩
theorem sub_self {x:Nat} (h:Z2 x<infR):Z (subQ x x):=by
 have hs:(double.read x).sum (double.read x).opposite=some (.number (sgn x&&!sgn x) 0 (Z11 (Z2 x))):=by
  rw [Z30 h]
  simp only [Datum.sum,Datum.opposite]
  rw [Z16y,Int.add_right_neg,Int.min_self]
  rfl
 have e:=Z1dq hs
 rw [Z19c,Z98] at e
 obtain ⟨h1,h2,h3,h4⟩:=Zd0 (s:=sgn x&&!sgn x) (Nat.zero_le infR)
 rw [e]; exact ⟨h2,h1,h3⟩
theorem Z19d {x z:Nat} (hx:Z x) (hz:Z z):Z (subQ x z):=(Z1e9 hx.1 hx.2.1 hz).zero (Zd8 _ _) hx.2.2
theorem Z12c {x:Nat} (h:Z2 x<infR):isN x=false:=by unfold isN; simp; omega
theorem Eqv.same {r x:Nat} (h:Eqv r x) (hx:Z2 x<infR) (hw:W64 r) (hxw:W64 x):Z (subQ r x)∧Z (subQ x r):=by
 by_cases hz:Z2 x=0
 ·have z1:Z x:=⟨hxw,Z12c hx,hz⟩
  have z2:=h.zero hw hz
  exact ⟨Z19d z2 z1,Z19d z1 z2⟩
 ·rw [h.2.2 hz]; exact ⟨sub_self hx,sub_self hx⟩
end Go.Lift

namespace Go.Lift
open Ieee
theorem Z1ct {m:Nat} (h:m<9007199254740992):rnd m 0<infR∧∃ e:Nat,Z1y (rnd m 0)=m*2 ^ e∧Z11 (rnd m 0)=-(e:Int):=by
 by_cases h0:m=0
 ·subst h0
  rw [Z98]
  have z:∀ e:Nat,Z1y 0=0*2 ^ e:=fun e=>by rw [Nat.zero_mul]; decide
  refine ⟨by decide,?_⟩
  obtain ⟨e,he⟩:∃ e:Nat,e=1074:=⟨_,rfl⟩
  exact ⟨e,z e,by rw [he]; decide⟩
 ·have h1:m.log2≤52:=by have:=(Nat.log2_lt h0 (k:=53)).2 (by omega); omega
  have hL:Z1b m 0=(m.log2:Int) - 52:=by unfold Z1b; omega
  have hq1:bin≤m*2 ^ (52 - m.log2):=by
   have:=(Nat.le_log2 h0 (k:=m.log2)).1 (Nat.le_refl _)
   have h2:=Nat.mul_le_mul_right (2 ^ (52 - m.log2)) this
   rw [← Nat.pow_add,show m.log2+(52 - m.log2)=52 by omega] at h2
   exact h2
  have hq2:m*2 ^ (52 - m.log2)<2*bin:=by
   have:=(Nat.log2_lt h0 (k:=m.log2+1)).1 (by omega)
   have h2:=Nat.mul_lt_mul_of_pos_right this (Nat.two_pow_pos (52 - m.log2))
   rw [← Nat.pow_add,show m.log2+1+(52 - m.log2)=53 by omega] at h2
   exact h2
  have hr:rnd m 0=(m.log2+1022)*bin+m*2 ^ (52 - m.log2):=by
   unfold rnd
   rw [if_neg h0,hL,show (0 - ((m.log2:Int) - 52)).toNat=52 - m.log2 by omega,show ((m.log2:Int) - 52 - 0).toNat=0 by omega,show ((m.log2:Int) - 52+1074).toNat=m.log2+1022 by omega,Z4i]
   refine Nat.min_eq_left ?_
   unfold infR; unfold bin at *; omega
  rw [hr]
  obtain ⟨q,hq⟩:∃ q,q=m*2 ^ (52 - m.log2):=⟨_,rfl⟩
  rw [← hq] at hq1 hq2 ⊢
  unfold bin infR at *
  refine ⟨by omega,52 - m.log2,?_,?_⟩
  ·unfold Z1y bin
   rw [if_neg (by omega)]
   rw [← hq]; omega
  ·unfold Z11 bin
   rw [if_neg (by omega)]
   omega
def Zj4 (x:Nat) (n:Int):Prop:=W64 x∧Z2 x=rnd n.natAbs 0∧(n≠0→sgn x=decide (n<0))
def Sm (n:Int):Prop:=-9007199254740992<n∧n<9007199254740992
theorem Sm.nat {n:Int} (h:Sm n):n.natAbs<9007199254740992:=by unfold Sm at h; omega
theorem Zj4.fin {x:Nat} {n:Int} (h:Zj4 x n) (hs:Sm n):Z2 x<infR:=by rw [h.2.1]; exact (Z1ct hs.nat).1
theorem Zj4.nn {x:Nat} {n:Int} (h:Zj4 x n) (hs:Sm n):isN x=false:=Z12c (h.fin hs)
theorem Zj4.zero {x:Nat} (h:Zj4 x 0):Z x:=⟨h.1,h.nn (by unfold Sm; omega),by rw [h.2.1]; exact Z98 0⟩
theorem Z.int {x:Nat} (h:Z x):Zj4 x 0:=⟨h.1,by rw [h.2.2]; exact (Z98 0).symm,fun e=>absurd rfl e⟩
def BL (l:List Int):Prop:=∀ v ∈ l,-1099511627776<v∧v<1099511627776
theorem BL.sum {l:List Int} (h:BL l):-(1099511627776*(l.length:Int))≤l.sum∧l.sum≤1099511627776*(l.length:Int):=by
 induction l with
 | nil=>simp
 | cons v l ih =>
  have h1:=h v List.mem_cons_self
  have h2:=ih fun x hx=>h x (List.mem_cons_of_mem _ hx)
  rw [List.sum_cons,List.length_cons]
  omega
theorem BL.take {l:List Int} (h:BL l) (k:Nat):BL (l.take k):=fun x hx=>h x (List.mem_of_mem_take hx)
theorem BL.drop {l:List Int} (h:BL l) (k:Nat):BL (l.drop k):=fun x hx=>h x (List.mem_of_mem_drop hx)
end Go.Lift

namespace Go.Lift
open Ieee
def U74:Nat:=1074
def Z16z (r v:Nat):Prop:=(bin<Z1y r∧(2*Z1y r - 1)*(2*Z1y r - 1)*2 ^ (2*(Z11 r+1074).toNat)<4*v)∨Z1y r*Z1y r*2 ^ (2*(Z11 r+1074).toNat)≤v
theorem Z16z.mono {r v v':Nat} (h:Z16z r v) (hv:v≤v'):Z16z r v':=by
 rcases h with ⟨h1,h2⟩ | h
 ·exact .inl ⟨h1,by omega⟩
 ·exact .inr (by omega)
end Go.Lift

namespace Go.Lift
open Ieee
end Go.Lift

namespace Go.Lift
open Ieee
end Go.Lift

namespace Go.Lift
open Ieee
end Go.Lift

namespace Go.Lift
open Ieee
def oneR:Nat:=4607182418800017408
end Go.Lift

namespace Go.Lift
open Ieee
theorem Z14e {w v:Nat} (h:Zf w=v) (y:Nat):double.order w y=double.order v y:=by
 subst h
 unfold Zf
 split
 ·rename_i e
  rw [Z4j (.inl e),Z4j (.inl QN_N)]
 ·rfl
def Gd (x:Nat):Prop:=(isN x=false∧Z2 x=0)∨(Z2 x<infR∧bin≤Z2 (mulQ x x)∧Z2 (mulQ x x)<infR)
theorem Gd.nn {x:Nat} (h:Gd x):isN x=false:=by
 rcases h with h | h
 ·exact h.1
 ·exact Z12c h.1
theorem Gd.fin {x:Nat} (h:Gd x):Z2 x<infR:=by
 rcases h with h | h
 ·rw [h.2]; decide
 ·exact h.1
theorem Zfa {r:Nat} (h:r<9223372036854775808):sgn r=false∧Z2 r=r∧W64 r:=by
 have hw:W64 r:=by unfold W64; omega
 refine ⟨?_,Zw3 h,hw⟩
 rw [Z15g hw]; simp; omega
end Go.Lift

namespace Go.Lift
def Z2n:List (Nat × LH)→Nat→Option LH:=Z1c4
def kVec:K:=.pair (.flt .f64) (.pair (.flt .f64) (.flt .f64))
def kSea:K:=.pair (.slice (.flt .f64)) (.pair (.slice (.int .i64)) (.pair (.slice (.int .i64)) (.pair (.slice (.flt .f64)) (.pair (.int .i64) (.int .i64)))))
abbrev Ti:=Int × Int × Int × List Int
abbrev Se:=List Nat × List Int × List Int × List Nat × Int × Int
def Zv:List (List (List Int)):=[[[1,0,0],[0,1,0],[0,0,1]],[[0,1,0],[-1,0,0],[0,0,1]],[[-1,0,0],[0,-1,0],[0,0,1]],[[0,-1,0],[1,0,0],[0,0,1]],[[0,0,1],[0,1,0],[-1,0,0]],[[0,0,-1],[0,1,0],[1,0,0]]]
def U8 (n:Int):Prop:=0≤n∧n<256
def Z1z (n:Int):Bool:=decide (1≤n)&&decide (n≤32)
def Zt9 (n:Int):Bool × Unit:=r1 (Z1z n)
def Zh (n:Int):Int:=if Z1z n then 6*n*n else 0
def Zap (n:Int):Int × Unit:=r1 (Zh n)
def Zw (n c:Int):Bool:=decide (0≤c)&&decide (c<Zh n)
def Z3 (n c:Int):Int × Int × Int × Bool × Unit:=if Zw n c then (c / (n*n),c % n,c / n % n,true,()) else (0,0,0,false,())
def ofI (n:Int):Nat:=f64.nearest n
def ofIR (n:Int):Nat × Unit:=r1 (ofI n)
def Zta (w a:Int):Nat:=if w<1∨a<1 then 0 else Z4o (ofI w) (ofI a)
def Ztb (w a:Int):Nat × Unit:=r1 (Zta w a)
def II (a b:Int):Prop:=I64 a∧I64 b
def Z1l (x:Nat):Nat:=Ieee.double.write ((Ieee.double.read x).integral .down)
def Zaq (x:Nat):Nat × Unit:=r1 (Z1l x)
def WNum (x:Nat):Prop:=W64 x∧isN x=false
def Z78:Nat:=4602678819172646912
def Z4a (x:Nat):Int:=((Ieee.double.read x).toInt .zero).getD 0
def Zj5 (x:Nat):Int:=if fcmp .gtr (Ieee.double.order (subQ x (Z1l x)) Z78)||(fcmp .eql (Ieee.double.order (subQ x (Z1l x)) Z78)&&(Z4a (Z1l x) % 2==1)) then Z4a (Z1l x)+1 else Z4a (Z1l x)
def Z112 (x:Nat):Int × Unit:=r1 (Zj5 x)
def Z1v:Nat:=4890909195324358656
def Zo4 (x:Nat):Prop:=x<Z1v
def Z3t (x:Nat):Int × Bool:=if Z2 x<Z1v then ((if sgn x&&decide (Z2 x≠0) then i64.wrap (0 - i64.wrap (Zj5 (Z2 x))) else i64.wrap (Zj5 (Z2 x))),true) else if x=Z1v+9223372036854775808 then (-9223372036854775808,true) else (0,false)
def Zdo (x:Nat):Int × Bool × Unit:=((Z3t x).1,(Z3t x).2,())
def Zmb (a b:Int):Nat:=Z4o (ofI a) (ofI b)
def Z2t (a b:Int):Nat × Unit:=r1 (Zmb a b)
def Zdp (a b:Int):Prop:=I64 a∧1≤b∧I64 b
def Z9 (m:Int) (v c:Nat):Nat:=if m=1 then Z21 v else if m=-1 then Z21 (negF v) else c
def Z4 (f:Int) (j i:Nat):Int:=List.getD (List.getD (Zv.getD f.toNat (K.arr 3 (K.arr 3 (K.int .i64))).dflt) j (K.arr 3 (K.int .i64)).dflt) i 0
def Z113 (f:Int) (s t:Nat) (i:Nat):Nat:=Z9 (Z4 f 2 i) t (Z9 (Z4 f 1 i) s (Z9 (Z4 f 0 i) oneR 0))
def Z12d (f:Int) (s t:Nat):Nat × Nat × Nat:=Zf8 (Z113 f s t 0,Z113 f s t 1,Z113 f s t 2)
def Zar (f:Int) (s t:Nat):(Nat × Nat × Nat) × Unit:=r1 (Z12d f s t)
def Ztc (f:Int) (s t:Nat):Prop:=0≤f∧f≤5∧W64 s∧W64 t
def Z5v (n f i j:Int):Bool:=Z1z n&&decide (0≤f)&&decide (f≤5)&&decide (0≤i)&&decide (i≤n)&&decide (0≤j)&&decide (j≤n)
def Z7t (n f i j:Int):Nat × Nat × Nat:=Z12d f (Zmb (2*i - n) n) (Zmb (2*j - n) n)
def Z1c (n f i j:Int):(Nat × Nat × Nat) × Bool × Unit:=if Z5v n f i j then (Z7t n f i j,true,()) else ((0,0,0),false,())
def IIII (a b c d:Int):Prop:=I64 a∧I64 b∧I64 c∧I64 d
def Z12 (n c:Int):List (Nat × Nat × Nat) × Bool × Unit :=
 if Zw n c then ([Z7t n (c / (n*n)) (c % n) (c / n % n),Z7t n (c / (n*n)) (c % n+1) (c / n % n),Z7t n (c / (n*n)) (c % n+1) (c / n % n+1),Z7t n (c / (n*n)) (c % n) (c / n % n+1)],true,())
 else ([(0,0,0),(0,0,0),(0,0,0),(0,0,0)],false,())
def Z1x (n c:Int) (i j:Int):Nat × Nat × Nat:=Z7t n (c / (n*n)) (c % n+i) (c / n % n+j)
def Zqg:Nat:=4742290407621132288
def Ztd (n c:Int):Nat:=Z1g (Zt7 (Zdm (Z1x n c 1 1) (Z1x n c 0 0)) (Zdm (Z1x n c 0 1) (Z1x n c 1 0)))
def Z1j (n c:Int):Int:=if Zw n c then imax (Z3t (mulQ (mulQ (Ztd n c) Z78) Zqg)).1 1 else 0
def Zte (n c:Int):Int × Unit:=r1 (Z1j n c)
def Zmc {α:Type} (p:α→Bool):Int→List α→Int
 | _,[]=>-1
 | i,x :: xs=>if p x then i else Zmc p (i+1) xs
def Z1c5 (s:Se):Prop:=WL s.1∧(∀ x ∈ s.2.1,I64 x)∧(∀ x ∈ s.2.2.1,I64 x)∧WL s.2.2.2.1∧I64 s.2.2.2.2.1∧I64 s.2.2.2.2.2
def Z19e (n:Int) (s:Se):Prop:=I64 n∧Z1c5 s
def BLs (b:List Int):Prop:=∀ x ∈ b,U8 x
end Go.Lift

namespace Go.Lift
open Ieee
theorem Z1cu (way:Toward) (hw:way=.down∨way=.zero) (n d:Nat):way.cut false n d≤n:=by
 rcases hw with rfl | rfl <;> simp only [Toward.cut,Bool.false_and,Bool.toNat_false,Nat.add_zero] <;> exact Nat.div_le_self _ _
theorem Z19f (m a b:Nat):m*2 ^ (a+b)=m*2 ^ a*2 ^ b:=by rw [Nat.pow_add,Nat.mul_assoc]
theorem Z1dr {r:Nat} (u:Nat) (hu:u=1074) (hp:0≤Z11 r):valR r=Z1y r*2 ^ (Z11 r).toNat*2 ^ u:=by
 have e:(Z11 r+1074).toNat=(Z11 r).toNat+u:=by omega
 unfold valR
 rw [e,Z19f]
theorem Z1ds {a b u:Nat} (h:a*2 ^ u≤b*2 ^ u):a≤b:=Nat.le_of_mul_le_mul_right h (Nat.two_pow_pos u)
theorem Z1dt:valR Z1v=9223372036854775808*2 ^ U74:=by decide +kernel
theorem Z12e {way:Toward} (hw:way=.down∨way=.zero) {r:Nat} (h:r≤Z1v):way.cut false (Z1y r <<< (Z11 r).toNat) (-Z11 r).toNat≤9223372036854775808:=by
 have hv:=(Zvp (r:=r) (r':=Z1v)).2 h
 refine Nat.le_trans (Z1cu way hw _ _) ?_
 rw [Nat.shiftLeft_eq]
 by_cases hp:0≤Z11 r
 ·rw [Z1dr U74 rfl hp,Z1dt] at hv
  exact Z1ds hv
 ·have e:(Z11 r).toNat=0:=by omega
  rw [e,Nat.pow_zero,Nat.mul_one]
  unfold Z1y
  split
  ·unfold bin at *; omega
  ·have:=Nat.mod_lt r (show 0<bin by decide); unfold bin at *; omega
theorem Z170 {a:Nat} (h:a<Z1v):∃ k,k≤9223372036854775808∧Z1l a=double.word false (rnd k 0):=by
 have hs:Z2 a=a:=Zw3 (by unfold Z1v at h; omega)
 have hg:sgn a=false:=(Zfa (by unfold Z1v at h; omega)).1
 have hi:Z2 a<infR:=by rw [hs]; unfold Z1v at h; unfold infR; omega
 refine ⟨Toward.down.cut false (Z1y a <<< (Z11 a).toNat) (-Z11 a).toNat,Z12e (.inl rfl) (Nat.le_of_lt h),?_⟩
 unfold Z1l
 rw [Z30 hi,hs,hg]
 show double.nearest false _ 0=_
 rw [Z3o]
theorem Z1ea {k:Nat} (h:k≤9223372036854775808):rnd k 0≤Z1v:=by
 have:=Zeu 0 h
 have e:rnd 9223372036854775808 0=Z1v:=by decide +kernel
 omega
theorem Z171 {a:Nat} (h:a<Z1v):∃ r,r≤Z1v∧Z1l a=double.word false r∧double.read (Z1l a)=.number false (Z1y r) (Z11 r):=by
 obtain ⟨k,hk,e⟩:=Z170 h
 have hr:=Z1ea hk
 refine ⟨rnd k 0,hr,e,?_⟩
 rw [e]
 obtain ⟨w1,w2,w3⟩:=Zcg (s:=false) (r:=rnd k 0) (by unfold Z1v at hr; unfold sw; omega)
 rw [Z30 (by rw [w1]; unfold Z1v at hr; unfold infR; omega),w1,w2]
theorem Zyw {a:Nat} (h:a<Z1v):(double.read (Z1l a)).toInt .zero=some (Z4a (Z1l a))∧0≤Z4a (Z1l a)∧Z4a (Z1l a)≤9223372036854775808:=by
 obtain ⟨r,hr,_,e⟩:=Z171 h
 unfold Z4a
 rw [e]
 have:=Z12e (way:=.zero) (.inr rfl) hr
 refine ⟨rfl,?_⟩
 show 0≤signed false (Toward.zero.cut false (Z1y r <<< (Z11 r).toNat) (-Z11 r).toNat) 0∧signed false (Toward.zero.cut false (Z1y r <<< (Z11 r).toNat) (-Z11 r).toNat) 0≤9223372036854775808
 generalize Toward.zero.cut false (Z1y r <<< (Z11 r).toNat) (-Z11 r).toNat=q at this
 have e:signed false q 0=(q:Int):=by unfold signed; rw [if_neg (by decide),Nat.shiftLeft_zero]
 rw [e]
 omega
theorem Z19g {a:Nat} (h:a<Z1v) {n:Int} (hn:F2I .f64 (Z1l a) .u64 n):n=Z4a (Z1l a):=by
 obtain ⟨h1,h2,h3⟩:=Zyw h
 unfold F2I at hn
 rw [show (f64.format.read (Z1l a)).toInt .zero=some (Z4a (Z1l a)) from h1] at hn
 dsimp only at hn
 rwa [if_pos ⟨by show (0:Int)≤_; exact h2,by show _≤(18446744073709551615:Int); omega⟩] at hn
theorem Z12f (a:Nat):fcmp .lss (double.order (Z2 a) Z1v)=decide (Z2 a<Z1v):=by
 have hs:=Zfa (Z15h a)
 have ht:=Zfa (show Z1v<9223372036854775808 by decide)
 by_cases hn:isN (Z2 a)=true
 ·rw [Z4j (.inl hn)]
  unfold isN at hn; rw [hs.2.1] at hn
  have:=of_decide_eq_true hn
  symm; show decide _=false
  rw [decide_eq_false_iff_not]; unfold Z1v; unfold infR at this; omega
 ·rw [Z7c (by simpa using hn) (by decide)]
  unfold Z20
  rw [hs.1,ht.1,hs.2.1,ht.2.1]
  simp only [Bool.false_eq_true,if_false,fcmp]
  by_cases h:Z2 a<Z1v
  ·rw [decide_eq_true h,Std.compare_eq_lt.2 (by omega)]; rfl
  ·rw [decide_eq_false h]
   rcases Nat.lt_or_eq_of_le (Nat.le_of_not_lt h) with g | g
   ·rw [Std.compare_eq_gt.2 (by omega)]; rfl
   ·rw [← g,Std.compare_self]; rfl
theorem Ztf {a:Nat} (hn:isN a=false):fcmp .lss (double.order a 0)=(sgn a&&decide (Z2 a≠0)):=by
 rw [Z7c hn (by decide)]
 have e:Z20 0=0:=by decide
 rw [e]
 unfold Z20
 simp only [fcmp]
 cases hs:sgn a
 ·simp only [Bool.false_eq_true,if_false,Bool.false_and]
  rcases Nat.eq_zero_or_pos (Z2 a) with g | g
  ·rw [g]; rfl
  ·rw [Std.compare_eq_gt.2 (by omega)]; rfl
 ·simp only [if_true,Bool.true_and]
  rcases Nat.eq_zero_or_pos (Z2 a) with g | g
  ·rw [g]; rfl
  ·rw [Std.compare_eq_lt.2 (by omega),decide_eq_true (by omega)]; rfl
theorem Z15i {a:Nat} (h:W64 a):fcmp .eql (double.order a 14114281232179134464)=decide (a=14114281232179134464):=by
 by_cases hn:isN a=true
 ·rw [Z4j (.inl hn)]
  symm; show decide _=false
  rw [decide_eq_false_iff_not]; rintro rfl; revert hn; decide
 ·have hn:isN a=false:=by simpa using hn
  rw [Z7c hn (by decide)]
  have e:Z20 14114281232179134464=-4890909195324358656:=by decide
  rw [e]
  simp only [fcmp]
  by_cases g:a=14114281232179134464
  ·subst g; decide
  ·rw [decide_eq_false g]
   have:Z20 a≠-4890909195324358656:=by
    intro hk
    unfold Z20 at hk
    split at hk
    ·rename_i hs
     have:=(Zo2 h).1 hs
     rw [Z1cm h this] at hk
     omega
    ·omega
   rcases Int.lt_or_gt_of_ne this with q | q
   ·rw [Std.compare_eq_lt.2 q]; rfl
   ·rw [Std.compare_eq_gt.2 q]; rfl
end Go.Lift

namespace Go.Lift
open Ieee
theorem Z2r {n:Int}:Z1z n=true↔1≤n∧n≤32:=by unfold Z1z; simp
theorem Zo5 {n:Int} (h1:1≤n) (h2:n≤32):1≤n*n∧n*n≤1024:=by
 have a:=Int.mul_le_mul h1 h1 (by omega) (by omega)
 have b:=Int.mul_le_mul h2 h2 (by omega) (by omega)
 omega
theorem Zcr {n:Int} (h:Z1z n=true):Zh n=6*(n*n):=by
 unfold Zh; rw [if_pos h,Int.mul_assoc]
theorem Zfb {n:Int} (h:Z1z n=false):Zh n=0:=by
 unfold Zh; rw [if_neg (by rw [h]; decide)]
theorem Z172 {a:Int} (h:Z1z a=true):i64.wrap (i64.wrap (6*a)*a)=Zh a:=by
 obtain ⟨h1,h2⟩:=Z2r.1 h
 have:=Zo5 h1 h2
 rw [Zcr h,wi (x:=6*a) ⟨by omega,by omega⟩,Int.mul_assoc,wi ⟨by omega,by omega⟩]
theorem Za2 {n c:Int} (h:Zw n c=true):1≤n∧n≤32∧0≤c∧c<6*(n*n)∧1≤n*n∧n*n≤1024:=by
 unfold Zw at h
 simp only [Bool.and_eq_true,decide_eq_true_eq] at h
 cases hg:Z1z n with
 | false=>rw [Zfb hg] at h; omega
 | true =>
  rw [Zcr hg] at h
  obtain ⟨h1,h2⟩:=Z2r.1 hg
  have:=Zo5 h1 h2
  omega
theorem Zmd {n c:Int} (h:Zw n c=true):0≤c / (n*n)∧c / (n*n)≤5∧0≤c % n∧c % n<n∧0≤c / n % n∧c / n % n<n:=by
 obtain ⟨h1,h2,h3,h4,h5,h6⟩:=Za2 h
 refine ⟨Int.ediv_nonneg h3 (by omega),?_,Int.emod_nonneg _ (by omega),Int.emod_lt_of_pos _ (by omega),Int.emod_nonneg _ (by omega),Int.emod_lt_of_pos _ (by omega)⟩
 have:=Int.ediv_lt_of_lt_mul (a:=c) (b:=6) (c:=n*n) (by omega) h4
 omega
theorem Ztg {x y b:Nat} (h:FRes .f64 (f64.format.sub x y) b) (z:Nat):double.order b z=double.order (subQ x y) z:=Z14e (fsub h).1 z
theorem wu1 {x:Int} (h:0≤x∧x<18446744073709551616):u64.wrap x=x:=wu x h
theorem Z1b9 {n:Int} (h:1≤n) (h2:I64 n):ofI n=double.word false (rnd n.toNat 0)∧bin≤rnd n.toNat 0∧rnd n.toNat 0<infR:=by
 have e:ofI n=double.word false (rnd n.toNat 0):=by
  show double.nearest (decide (n<0)) n.natAbs 0=_
  rw [Z3o,decide_eq_false (by omega)]
  congr 2; omega
 refine ⟨e,?_,?_⟩
 ·have:=Zeu (m:=1) (m':=n.toNat) 0 (by omega)
  have e:bin≤rnd 1 0:=by decide +kernel
  omega
 ·have:=Zeu (m:=n.toNat) (m':=9223372036854775808) 0 (by unfold I64 at h2; omega)
  have e:rnd 9223372036854775808 0<infR:=by decide +kernel
  omega
theorem Z1cv (n:Int) (h2:I64 n):Z2 (ofI n)<infR∧W64 (ofI n):=by
 have e:ofI n=double.word (decide (n<0)) (rnd n.natAbs 0):=by
  show double.nearest (decide (n<0)) n.natAbs 0=_
  rw [Z3o]
 have:=Zeu (m:=n.natAbs) (m':=9223372036854775808) 0 (by unfold I64 at h2; omega)
 have e2:rnd 9223372036854775808 0<infR:=by decide +kernel
 obtain ⟨w1,w2,w3⟩:=Zcg (s:=decide (n<0)) (r:=rnd n.natAbs 0) (by unfold infR at e2; unfold sw; omega)
 rw [e]
 exact ⟨by rw [w1]; omega,w3⟩
theorem Z1ba {x y:Nat} (hx:Z2 x<infR) (hy:Z2 y<infR) (h0:Z2 y≠0):double.div x y=some (Z4o x y):=by
 unfold Z4o
 have:∃ d,double.div x y=some d:=by
  unfold Format.div
  rw [Z30 hx,Z30 hy]
  unfold Datum.quotient
  dsimp only
  rw [if_neg (by
   intro h
   have:valR (Z2 y)=0:=by unfold valR; rw [h,Nat.zero_mul]
   exact h0 (Zd6.1 this))]
  exact ⟨_,rfl⟩
 obtain ⟨d,e⟩:=this
 rw [e]; rfl
theorem Z19h {x y b:Nat} (hx:Z2 x<infR) (hy:Z2 y<infR) (h0:Z2 y≠0) (h:FRes .f64 (f64.format.div x y) b):b=Z4o x y:=by
 unfold FRes at h
 rw [show f64.format.div x y=some (Z4o x y) from Z1ba hx hy h0] at h
 exact h
theorem Z15j {n:Int} (h:1≤n) (h2:I64 n):Z2 (ofI n)<infR∧Z2 (ofI n)≠0:=by
 obtain ⟨e,e1,e2⟩:=Z1b9 h h2
 obtain ⟨w1,w2,w3⟩:=Zcg (s:=false) (r:=rnd n.toNat 0) (by unfold infR at e2; unfold sw; omega)
 rw [e,w1]
 exact ⟨e2,by unfold bin at e1; omega⟩
theorem Z15k {a b:Int} (ha:I64 a) (hb:1≤b) (hb2:I64 b) {r:Nat} (h:FRes .f64 (f64.format.div (ofI a) (ofI b)) r):r=Z4o (ofI a) (ofI b) :=
 Z19h (Z1cv a ha).1 (Z15j hb hb2).1 (Z15j hb hb2).2 h
theorem Z6d {m:Int} {v c:Nat} {P:Nat→Prop} (h:P (Z9 m v c)) {X Y Z:Prop} (hx:P (Z21 v)→X) (hy:P (Z21 (negF v))→Y) (hz:P c→Z):Br (m==1) X (Br (m==-1) Y Z):=by
 unfold Z9 at h
 refine Br.intro (fun e=>?_) fun e=>?_
 ·have e:m=1:=by simpa using e
  rw [if_pos e] at h; exact hx h
 ·have e:¬ m=1:=by simpa using e
  rw [if_neg e] at h
  refine Br.intro (fun g=>?_) fun g=>?_
  ·have g:m=-1:=by simpa using g
   rw [if_pos g] at h; exact hy h
  ·have g:¬ m=-1:=by simpa using g
   rw [if_neg g] at h; exact hz h
theorem Zw7 {m:Int} {v c:Nat} (hv:W64 v) (hc:W64 c):W64 (Z9 m v c):=by
 unfold Z9
 split
 ·exact Z5q hv
 ·split
  ·exact Z5q (Z1dn hv)
  ·exact hc
theorem Zw8 (f:Int) {s t:Nat} (hs:W64 s) (ht:W64 t) (i:Nat):W64 (Z113 f s t i) :=
 Zw7 ht (Zw7 hs (Zw7 (by unfold W64 oneR; decide) (by unfold W64; decide)))
theorem Zth {n i:Int} (h1:1≤n) (h2:n≤32) (h3:0≤i) (h4:i≤n):i64.wrap (i64.wrap (2*i) - n)=2*i - n∧Zdp (2*i - n) n:=by
 rw [wi (x:=2*i) ⟨by omega,by omega⟩,wi ⟨by omega,by omega⟩]
 exact ⟨rfl,⟨by omega,by omega⟩,h1,by omega,by omega⟩
theorem wv0:WV (0,0,0):=⟨by unfold W64; decide,by unfold W64; decide,by unfold W64; decide⟩
theorem Z15l (a:Nat × Nat × Nat):WV (Zf8 a):=by
 unfold Zf8
 split
 ·exact Zqf (Z8z _ _) (Z8z _ _) (Z8z _ _)
 ·exact wv0
theorem Z1bb (a b:Nat × Nat × Nat):WV (Zt7 a b):=Zqf (Zd8 _ _) (Zd8 _ _) (Zd8 _ _)
theorem Zas (n f i j:Int):WV (Z7t n f i j):=Z15l _
theorem Z19i (n c:Int) (i:Nat):WV ((Z12 n c).1.getD i (0,0,0)):=by
 unfold Z12
 split
 ·match i with
  | 0=>exact Zas _ _ _ _
  | 1=>exact Zas _ _ _ _
  | 2=>exact Zas _ _ _ _
  | 3=>exact Zas _ _ _ _
  | k+4=>exact wv0
 ·match i with
  | 0=>exact wv0
  | 1=>exact wv0
  | 2=>exact wv0
  | 3=>exact wv0
  | k+4=>exact wv0
theorem Z1du {l:List (Nat × Nat × Nat)} {a b c d z:Nat × Nat × Nat} (h:l=[a,b,c,d]):(Z49 (Zma (Z71 (l.getD (Int.toNat (2:Int)) z) (l.getD (Int.toNat (0:Int)) z)).fst (Z71 (l.getD (Int.toNat (3:Int)) z) (l.getD (Int.toNat (1:Int)) z)).fst).fst).fst=Z1g (Zt7 (Zdm c a) (Zdm d b)):=by
 subst h; rfl
theorem Zpu (n c:Int):(Z12 n c).1.length=4:=by unfold Z12; split <;> rfl
theorem Zj6 (n c:Int):(Z12 n c).2.1=Zw n c:=by
 unfold Z12
 cases h:Zw n c
 ·rfl
 ·rfl
theorem Z14f {x:Nat} (h:W64 x):Z3t x=Z3t (Zf x):=by
 unfold Zf
 split
 ·rename_i e
  have q:Z3t QN=(0,false):=by decide +kernel
  rw [q]
  unfold Z3t
  have:infR<Z2 x:=by unfold isN at e; exact of_decide_eq_true e
  rw [if_neg (by unfold Z1v; unfold infR at this; omega),if_neg (by
   rintro rfl
   revert this; decide)]
 ·rfl
theorem Z19j {α:Type} {l:List α} {i:Nat} (h:i<l.length) (d:α):l.drop i=l.getD i d :: l.drop (i+1):=by
 rw [List.drop_eq_getElem_cons h,List.getD_eq_getElem?_getD,List.getElem?_eq_getElem h]; rfl
theorem Z24 {i:Nat} {n:Nat} (h:i<n) (hn:n≤9223372036854775807):i64.wrap ((i:Int)+1)=((i+1:Nat):Int):=by
 rw [wi ⟨by omega,by omega⟩]; omega
theorem Z5w {α:Type} {l:List α} {i:Nat} (h:i<l.length) (d:α):l.getD i d ∈ l:=by
 rw [List.getD_eq_getElem?_getD,List.getElem?_eq_getElem h]; exact List.getElem_mem h
theorem Z14g {α:Type} (p:α→Bool) (i:Int) (x:α) (xs:List α):Zmc p i (x :: xs)=if p x then i else Zmc p (i+1) xs:=rfl
theorem Zat (n:Int):0≤Zh n∧Zh n≤6144:=by
 cases hg:Z1z n with
 | false=>rw [Zfb hg]; omega
 | true=>rw [Zcr hg]; have:=Zo5 (Z2r.1 hg).1 (Z2r.1 hg).2; omega
end Go.Lift

namespace Go.Lift
theorem Z5x {α:Type} {l:List α} {i:Nat} (h:i<l.length) (d:α):l.take (i+1)=l.take i++[l.getD i d]:=by
 rw [List.take_add_one,List.getD_eq_getElem?_getD,List.getElem?_eq_getElem h]; rfl
theorem Z15m {α:Type} {P R:List α} {i:Nat} (h:P.length=i) (z v:α):(P++z :: R).set i v=P++v :: R:=by
 subst h
 rw [List.set_append_right _ _ (Nat.le_refl _),Nat.sub_self]; rfl
end Go.Lift

namespace Go.Lift
theorem Z12g (x:Int):I64 (i64.wrap x):=by
 unfold I64
 have:i64.wrap x=x % 18446744073709551616∨i64.wrap x=x % 18446744073709551616 - 18446744073709551616∧9223372036854775808≤x % 18446744073709551616:=by
  show (if (true&&decide (x % 18446744073709551616≥9223372036854775808))=true then x % 18446744073709551616 - 18446744073709551616 else x % 18446744073709551616)=_∨(if (true&&decide (x % 18446744073709551616≥9223372036854775808))=true then x % 18446744073709551616 - 18446744073709551616 else x % 18446744073709551616)=_∧_
  by_cases q:9223372036854775808≤x % 18446744073709551616
  ·rw [if_pos (by simpa using q)]; exact .inr ⟨rfl,q⟩
  ·rw [if_neg (by simpa using q)]; exact .inl rfl
 have h2:¬ 9223372036854775808≤x % 18446744073709551616→i64.wrap x=x % 18446744073709551616:=fun q=>this.resolve_right fun r=>q r.2
 by_cases q:9223372036854775808≤x % 18446744073709551616
 ·have h3:i64.wrap x=x % 18446744073709551616 - 18446744073709551616:=by
   show (if (true&&decide (x % 18446744073709551616≥9223372036854775808))=true then x % 18446744073709551616 - 18446744073709551616 else x % 18446744073709551616)=_
   rw [if_pos (by simpa using q)]
  omega
 ·have:=h2 q
  omega
theorem Z19k (x:Nat):I64 (Z3t x).1:=by
 unfold Z3t
 split
 ·split
  ·exact Z12g _
  ·exact Z12g _
 ·split
  ·exact ⟨by decide,by decide⟩
  ·exact ⟨by decide,by decide⟩
theorem Z1bc (n c:Int):I64 (Z1j n c)∧0≤Z1j n c:=by
 unfold Z1j
 split
 ·have:=Z19k (mulQ (mulQ (Ztd n c) Z78) Zqg)
  unfold imax I64 at *
  split <;> omega
 ·exact ⟨⟨by decide,by decide⟩,by decide⟩
theorem Zw9 {α:Type} (g:Nat→α) (k:Nat):(List.range (k+1)).map g=(List.range k).map g++[g k]:=by
 rw [List.range_succ,List.map_append]; rfl
end Go.Lift

namespace Go.Lift
end Go.Lift

namespace Go.Lift
open Ieee
end Go.Lift

namespace Go.Lift
open Ieee
end Go.Lift

namespace Go.Lift
open Ieee
end Go.Lift

namespace Go.Lift
end Go.Lift

namespace Go.Lift
open Ieee
end Go.Lift

namespace Go.Lift
def kWay:K:=.arr 3 (.int .i64)
def Z12h:K:=.arr 3 (.arr 3 (.int .i64))
def Z2g:K:=.pair (.int .i64) (.pair (.int .i64) (.pair (.int .i64) (.int .i64)))
def Z1eb:K:=.map (.pair (.int .i64) (.int .i64)) (.int .i64)
def Z1a:K:=.pair (.int .i64) (.pair (.slice Z2g) (.pair Z1eb (.pair (.slice (.arr 2 (.int .i64))) (.pair (.slice (.int .i64)) (.pair (.slice (.flt .f64)) (.slice (.flt .f64)))))))
abbrev Ed:=Int × Int × Int × Int
abbrev Nm:=List ((Int × Int) × Int)
abbrev Gr:=Int × List Ed × Nm × List (List Int) × List Int × List Nat × List Nat
def Bd (m:Int) (w:List Int):Prop:=∀ i:Nat,-m≤w.getD i 0∧w.getD i 0≤m
def Zdq (w:List Int) (k:Int):List Int:=[k*w.getD 0 0,k*w.getD 1 0,k*w.getD 2 0]
def Zau (w:List Int) (k:Int):List Int × Unit:=r1 (Zdq w k)
def Z52 (w:List Int) (k:Int):Prop:=Bd 4096 w∧-4096≤k∧k≤4096
def Za3 (w v:List Int):List Int:=[w.getD 0 0+v.getD 0 0,w.getD 1 0+v.getD 1 0,w.getD 2 0+v.getD 2 0]
def Zo6 (w v:List Int):List Int × Unit:=r1 (Za3 w v)
def Zti (w v:List Int):Prop:=Bd 1099511627776 w∧Bd 1099511627776 v
def dotW (w v:List Int):Int:=w.getD 0 0*v.getD 0 0+w.getD 1 0*v.getD 1 0+w.getD 2 0*v.getD 2 0
def dotR (w v:List Int):Int × Unit:=r1 (dotW w v)
def WDot (w v:List Int):Prop:=Bd 1048576 w∧Bd 1048576 v
def Z1s (f:List (List Int)) (i:Nat):List Int:=f.getD i [0,0,0]
def outF (f:List (List Int)) (s:Int):List Int:=if s=0 then Z1s f 1 else if s=1 then Z1s f 2 else if s=2 then Zdq (Z1s f 1) (-1) else Zdq (Z1s f 2) (-1)
def outR (f:List (List Int)) (s:Int):List Int × Unit:=r1 (outF f s)
def WOut (f:List (List Int)) (_:Int):Prop:=Bd 4096 (Z1s f 1)∧Bd 4096 (Z1s f 2)
def Z15 (f:Int):List (List Int):=Zv.getD f.toNat [[0,0,0],[0,0,0],[0,0,0]]
def Z3c (c:List Int):Int:=Zmc (fun fr=>decide (Z1s fr 0=c)) 0 Zv
def Zwa (c:List Int):Int × Unit:=r1 (Z3c c)
def Z3u (n f i j:Int):Bool:=Z1z n&&decide (0≤f)&&decide (f<6)&&decide (0≤i)&&decide (i<n)&&decide (0≤j)&&decide (j<n)
def Z1o (n f i j:Int):Int:=if Z3u n f i j then (f*n+j)*n+i else -1
def Zo7 (n f i j:Int):Int × Unit:=r1 (Z1o n f i j)
def Z6e (n f i j:Int):List Int:=Za3 (Za3 (Zdq (Z1s (Z15 f) 0) n) (Zdq (Z1s (Z15 f) 1) (2*i+1 - n))) (Zdq (Z1s (Z15 f) 2) (2*j+1 - n))
def Zqh (n f i j:Int):List Int × Unit:=r1 (Z6e n f i j)
def Z25 (n f i j:Int):Prop:=1≤n∧n≤32∧0≤f∧f≤5∧0≤i∧i<n∧0≤j∧j<n
def Z34 (n a:Int):Int:=imin (imax (Int.tdiv (a+n - 1) 2) 0) (n - 1)
def Ztj (n a:Int):Int × Unit:=r1 (Z34 n a)
def Ztk (n a:Int):Prop:=1≤n∧n≤32∧-1099511627776≤a∧a≤1099511627776
def dxI (o:Int):Int:=if o=0 then 1 else if o=2 then -1 else 0
def dyI (o:Int):Int:=if o=1 then 1 else if o=3 then -1 else 0
def Za4 (g:List (List Int)) (c:List Int) (q:Int):Nat→Nat→Int × Int
 | 0,_=>(-1,0)
 | f+1,k=>if outF g k=c then (q,(k:Int)) else Za4 g c q f (k+1)
def Z1c6 (g:List (List Int)) (c:List Int) (q:Int):Int × Int:=Za4 g c q 4 0
def Ztl (n f i j o:Int):Int × Int :=
 Z1c6 (Z15 (Z3c (outF (Z15 f) o))) (Z1s (Z15 f) 0)
  (Z1o n (Z3c (outF (Z15 f) o)) (Z34 n (dotW (Za3 (Z6e n f i j) (outF (Z15 f) o)) (Z1s (Z15 (Z3c (outF (Z15 f) o))) 1))) (Z34 n (dotW (Za3 (Z6e n f i j) (outF (Z15 f) o)) (Z1s (Z15 (Z3c (outF (Z15 f) o))) 2))))
def Z14 (n c o:Int):Bool:=Zw n c&&decide (0≤o)&&decide (o<4)
def Z7 (n c o:Int):Int × Int :=
 if Z14 n c o then
  (if 0≤Z1o n (c / (n*n)) (c % n+dxI o) (c / n % n+dyI o) then (Z1o n (c / (n*n)) (c % n+dxI o) (c / n % n+dyI o),Int.tmod (o+2) 4)
   else Ztl n (c / (n*n)) (c % n) (c / n % n) o)
 else (-1,0)
def Z3n (n c o:Int):Int × Int × Unit:=((Z7 n c o).1,(Z7 n c o).2,())
def III (a b c:Int):Prop:=I64 a∧I64 b∧I64 c
def Zh3 (n c:Int):Nat × Nat × Nat:=Z12d (c / (n*n)) (Zmb (2*(c % n)+1 - n) n) (Zmb (2*(c / n % n)+1 - n) n)
def Z6f (n c:Int):(Nat × Nat × Nat) × Bool × Unit:=if Zw n c then (Zh3 n c,true,()) else ((0,0,0),false,())
def Zcs (n c:Int) (i:Int):Nat × Nat × Nat:=if i=0 then Z1x n c 0 0 else if i=1 then Z1x n c 1 0 else if i=2 then Z1x n c 1 1 else Z1x n c 0 1
def endA (o:Int):Int:=if o=0 then 1 else if o=1 then 3 else 0
def endB (o:Int):Int:=if o=0 then 2 else if o=1 then 2 else if o=2 then 3 else 1
def Zd4 (n c o:Int):Nat:=if Z14 n c o then gapQ (Zcs n c (endA o)) (Zcs n c (endB o)) else 0
def Zdr (n c o:Int):Nat × Unit:=r1 (Zd4 n c o)
def gapG (n c o:Int):Nat:=if Zw n c&&Zw n (Z7 n c o).1 then gapQ (Zh3 n c) (Zh3 n (Z7 n c o).1) else 0
def Z173 (n c o:Int):Nat × Unit:=r1 (gapG n c o)
def addE (n c o:Int) (s:List Ed × Nm):List Ed × Nm :=
 if c > (Z7 n c o).1 then s else (s.1++[(c,o,(Z7 n c o).1,(Z7 n c o).2)],mput ((Z7 n c o).1,(Z7 n c o).2) s.1.length (mput (c,o) s.1.length s.2))
def addN (n c:Int) (s:List Ed × Nm):Nat→List Ed × Nm
 | 0=>s
 | k+1=>addE n c k (addN n c s k)
def netN (n:Int):Nat→List Ed × Nm
 | 0=>([],[])
 | k+1=>addN n k (netN n k) 4
def netE (n:Int):List Ed × Nm:=netN n (Zh n).toNat
def Z15n (n:Int) (e:Ed):List Int:=[(Z7 n e.1 (Int.tmod (e.2.1+2) 4)).1,(Z7 n e.2.2.1 (Int.tmod (e.2.2.2+2) 4)).1]
def Z8c (n:Int):List Int:=(List.range (Zh n).toNat).map fun k:Nat=>Z1j n (k:Int)
def netG (n:Int):Gr:=(n,(netE n).1,(netE n).2,(netE n).1.map (Z15n n),Z8c n,(netE n).1.map (fun e=>Zd4 n e.1 e.2.1),(netE n).1.map (fun e=>gapG n e.1 e.2.1))
def newR (n:Int):Option Gr × Int × Unit:=if Zh n=0 then (none,10,()) else (some (netG n),0,())
def Z53 (g:Option Gr):Int:=match g with
 | none=>0
 | some g=>(g.2.2.2.2.1.length:Nat)
def Ze (g:Option Gr):Int × Unit:=r1 (Z53 g)
def Zh4 (g:Option Gr):Int:=match g with
 | none=>0
 | some g=>(g.2.1.length:Nat)
def Z99 (g:Option Gr):Int × Unit:=r1 (Zh4 g)
def Zj7 (g:Option Gr) (c:Int):Int:=match g with
 | none=>0
 | some g=>if 0≤c∧c<(g.2.2.2.2.1.length:Nat) then g.2.2.2.2.1.getD c.toNat 0 else 0
def Z2o (g:Option Gr) (c:Int):Int × Unit:=r1 (Zj7 g c)
end Go.Lift

namespace Go.Lift
def part (a b c:Int):Int:=if a<0 then 0 else if b<0 then 0 else if c<1 then 0 else if a*b / c≤9223372036854775807 then a*b / c else 9223372036854775807
theorem Z174 (a b c:Int):0≤part a b c∧part a b c≤9223372036854775807:=by
 unfold part
 split
 ·omega
 ·split
  ·omega
  ·split
   ·omega
   ·split
    ·rename_i h1 h2 h3 h4
     exact ⟨Int.ediv_nonneg (Int.mul_nonneg (by omega) (by omega)) (by omega),h4⟩
    ·omega
def okTo (m:Int) (c:List Int) (i:Nat):Prop:=∀ j,j<i→0≤c.getD j 0∧psum c (j+1)≤m
end Go.Lift

namespace Go.Lift
def F18:=fun (a b:Int) (post:Int × Int × Unit→Prop) =>
 ∃ (h:(0:Int)≤(32:Int)),
  ∃ (h:(0:Int)≤(32:Int)),
   ∃ (h:(0:Int)≤(32:Int)),
    ∃ (h:(0:Int)≤(32:Int)),
     ∃ (h:(0:Int)≤(32:Int)),
      post
       (u64.wrap
         (u64.wrap
           (u64.wrap
             (a.fdiv ((2:Int) ^ Min.min (Int.toNat (32:Int)) u64.bits)*b.fdiv ((2:Int) ^ Min.min (Int.toNat (32:Int)) u64.bits)) +
            (u64.wrap
               (u64.wrap
                 (a.fdiv ((2:Int) ^ Min.min (Int.toNat (32:Int)) u64.bits)*Go.bits Go.BinOp.and u64 b (4294967295:Int)) +
                (u64.wrap (Go.bits Go.BinOp.and u64 a (4294967295:Int)*Go.bits Go.BinOp.and u64 b (4294967295:Int))).fdiv
                 ((2:Int) ^ Min.min (Int.toNat (32:Int)) u64.bits))).fdiv
             ((2:Int) ^ Min.min (Int.toNat (32:Int)) u64.bits)) +
          (u64.wrap
             (Go.bits Go.BinOp.and u64
               (u64.wrap
                (u64.wrap
                  (a.fdiv ((2:Int) ^ Min.min (Int.toNat (32:Int)) u64.bits)*Go.bits Go.BinOp.and u64 b (4294967295:Int)) +
                 (u64.wrap (Go.bits Go.BinOp.and u64 a (4294967295:Int)*Go.bits Go.BinOp.and u64 b (4294967295:Int))).fdiv
                  ((2:Int) ^ Min.min (Int.toNat (32:Int)) u64.bits)))
               (4294967295:Int) +
              u64.wrap
               (Go.bits Go.BinOp.and u64 a (4294967295:Int)*b.fdiv ((2:Int) ^ Min.min (Int.toNat (32:Int)) u64.bits)))).fdiv
           ((2:Int) ^ Min.min (Int.toNat (32:Int)) u64.bits)),
        u64.wrap (a*b),())
theorem Z8d (b:Int) (h0:0≤b) (h1:b<18446744073709551616):Go.bits .and .u64 b 4294967295=b % 4294967296:=by
 obtain ⟨n,rfl⟩:=Int.eq_ofNat_of_zero_le h0
 have:=bits_and_u64_nat n 4294967295 (by omega) (by decide)
 rw [show ((4294967295:Nat):Int)=4294967295 from rfl] at this
 rw [this]
 have h2:n &&& 4294967295=n % 4294967296:=Nat.and_two_pow_sub_one_eq_mod n 32
 rw [h2]; omega
theorem Zav {x y m n:Int} (hx0:0≤x) (hx:x≤m) (hy0:0≤y) (hy:y≤n):0≤x*y∧x*y≤m*n :=
 ⟨Int.mul_nonneg hx0 hy0,Int.mul_le_mul hx hy hy0 (by omega)⟩
theorem Z175 {a b:Int} (ha0:0≤a) (ha:a<18446744073709551616) (hb0:0≤b) (hb:b<18446744073709551616) {post:Int × Int × Unit→Prop}
  (h:post (a*b / 18446744073709551616,a*b % 18446744073709551616,())):F18 a b post:=by
 unfold F18
 refine ⟨by decide,by decide,by decide,by decide,by decide,?_⟩
 have e32:(2:Int) ^ Min.min (Int.toNat (32:Int)) u64.bits=4294967296:=by decide
 have ef:∀ x:Int,x.fdiv 4294967296=x / 4294967296:=fun x=>Int.fdiv_eq_ediv_of_nonneg _ (by decide)
 rw [Z8d a ha0 ha,Z8d b hb0 hb]
 simp only [e32,ef]
 generalize hx1:a / 4294967296=x1
 generalize hx0:a % 4294967296=x0
 generalize hy1:b / 4294967296=y1
 generalize hy0:b % 4294967296=y0
 have ea:a=x1*4294967296+x0:=by omega
 have eb:b=y1*4294967296+y0:=by omega
 have ab:a*b=x1*y1*18446744073709551616+(x1*y0+x0*y1)*4294967296+x0*y0:=by rw [ea,eb]; grind
 have p11:=Zav (x:=x1) (y:=y1) (m:=4294967295) (n:=4294967295) (by omega) (by omega) (by omega) (by omega)
 have p10:=Zav (x:=x1) (y:=y0) (m:=4294967295) (n:=4294967295) (by omega) (by omega) (by omega) (by omega)
 have p01:=Zav (x:=x0) (y:=y1) (m:=4294967295) (n:=4294967295) (by omega) (by omega) (by omega) (by omega)
 have p00:=Zav (x:=x0) (y:=y0) (m:=4294967295) (n:=4294967295) (by omega) (by omega) (by omega) (by omega)
 clear hx1 hx0 hy1 hy0 ea eb
 generalize x1*y1=q11 at *
 generalize x1*y0=q10 at *
 generalize x0*y1=q01 at *
 generalize x0*y0=q00 at *
 generalize a*b=ab at *
 rw [Z8d _ (by rw [IntKind.wrap_u64]; omega) (by rw [IntKind.wrap_u64]; omega)]
 simp only [IntKind.wrap_u64] at *
 have e:∀ {u v:Int × Int × Unit},u=v→post v→post u:=fun e h=>e ▸ h
 refine e ?_ h
 refine Prod.ext ?_ (Prod.ext ?_ rfl)
 ·simp only; omega
 ·rfl
def tab8:ByteArray:={
             data :=
              (([(0:UInt8),(1:UInt8),(2:UInt8),(2:UInt8),(3:UInt8),(3:UInt8),(3:UInt8),(3:UInt8),(4:UInt8),(4:UInt8),(4:UInt8),
                    (4:UInt8),(4:UInt8),(4:UInt8),(4:UInt8),(4:UInt8),(5:UInt8),(5:UInt8),(5:UInt8),(5:UInt8),(5:UInt8),
                    (5:UInt8),(5:UInt8),(5:UInt8),(5:UInt8),(5:UInt8),(5:UInt8),(5:UInt8),(5:UInt8),(5:UInt8),(5:UInt8),
                    (5:UInt8),(6:UInt8),(6:UInt8),(6:UInt8),(6:UInt8),(6:UInt8),(6:UInt8),(6:UInt8),(6:UInt8),(6:UInt8),
                    (6:UInt8),(6:UInt8),(6:UInt8),(6:UInt8),(6:UInt8),(6:UInt8),(6:UInt8),(6:UInt8),(6:UInt8),(6:UInt8),
                    (6:UInt8),(6:UInt8),(6:UInt8),(6:UInt8),(6:UInt8),(6:UInt8),(6:UInt8),(6:UInt8),(6:UInt8),(6:UInt8),
                    (6:UInt8),(6:UInt8),(6:UInt8)].append
                  [(7:UInt8),(7:UInt8),(7:UInt8),(7:UInt8),(7:UInt8),(7:UInt8),(7:UInt8),(7:UInt8),(7:UInt8),(7:UInt8),(7:UInt8),
                    (7:UInt8),(7:UInt8),(7:UInt8),(7:UInt8),(7:UInt8),(7:UInt8),(7:UInt8),(7:UInt8),(7:UInt8),(7:UInt8),(7:UInt8),
                    (7:UInt8),(7:UInt8),(7:UInt8),(7:UInt8),(7:UInt8),(7:UInt8),(7:UInt8),(7:UInt8),(7:UInt8),(7:UInt8),(7:UInt8),
                    (7:UInt8),(7:UInt8),(7:UInt8),(7:UInt8),(7:UInt8),(7:UInt8),(7:UInt8),(7:UInt8),(7:UInt8),(7:UInt8),(7:UInt8),
                    (7:UInt8),(7:UInt8),(7:UInt8),(7:UInt8),(7:UInt8),(7:UInt8),(7:UInt8),(7:UInt8),(7:UInt8),(7:UInt8),(7:UInt8),
                    (7:UInt8),(7:UInt8),(7:UInt8),(7:UInt8),(7:UInt8),(7:UInt8),(7:UInt8),(7:UInt8),(7:UInt8)]).append
                  ([(8:UInt8),(8:UInt8),(8:UInt8),(8:UInt8),(8:UInt8),(8:UInt8),(8:UInt8),(8:UInt8),(8:UInt8),(8:UInt8),(8:UInt8),
                   (8:UInt8),(8:UInt8),(8:UInt8),(8:UInt8),(8:UInt8),(8:UInt8),(8:UInt8),(8:UInt8),(8:UInt8),(8:UInt8),(8:UInt8),
                   (8:UInt8),(8:UInt8),(8:UInt8),(8:UInt8),(8:UInt8),(8:UInt8),(8:UInt8),(8:UInt8),(8:UInt8),(8:UInt8),(8:UInt8),
                   (8:UInt8),(8:UInt8),(8:UInt8),(8:UInt8),(8:UInt8),(8:UInt8),(8:UInt8),(8:UInt8),(8:UInt8),(8:UInt8),(8:UInt8),
                   (8:UInt8),(8:UInt8),(8:UInt8),(8:UInt8),(8:UInt8),(8:UInt8),(8:UInt8),(8:UInt8),(8:UInt8),(8:UInt8),(8:UInt8),
                   (8:UInt8),(8:UInt8),(8:UInt8),(8:UInt8),(8:UInt8),(8:UInt8),(8:UInt8),(8:UInt8),(8:UInt8)].append
                 [(8:UInt8),(8:UInt8),(8:UInt8),(8:UInt8),(8:UInt8),(8:UInt8),(8:UInt8),(8:UInt8),(8:UInt8),(8:UInt8),(8:UInt8),
                   (8:UInt8),(8:UInt8),(8:UInt8),(8:UInt8),(8:UInt8),(8:UInt8),(8:UInt8),(8:UInt8),(8:UInt8),(8:UInt8),(8:UInt8),
                   (8:UInt8),(8:UInt8),(8:UInt8),(8:UInt8),(8:UInt8),(8:UInt8),(8:UInt8),(8:UInt8),(8:UInt8),(8:UInt8),(8:UInt8),
                   (8:UInt8),(8:UInt8),(8:UInt8),(8:UInt8),(8:UInt8),(8:UInt8),(8:UInt8),(8:UInt8),(8:UInt8),(8:UInt8),(8:UInt8),
                   (8:UInt8),(8:UInt8),(8:UInt8),(8:UInt8),(8:UInt8),(8:UInt8),(8:UInt8),(8:UInt8),(8:UInt8),(8:UInt8),(8:UInt8),
                   (8:UInt8),(8:UInt8),(8:UInt8),(8:UInt8),(8:UInt8),(8:UInt8),(8:UInt8),(8:UInt8),(8:UInt8)])).toArray }
def F22:=fun (a:Int) (post:Int × Unit→Prop) =>
 Go.Lift.Br (Decidable.decide (a≥(4294967296:Int)))
  (∃ (h:(0:Int)≤(32:Int)),
   Go.Lift.Br (Decidable.decide (a.fdiv ((2:Int) ^ Min.min (Int.toNat (32:Int)) u64.bits)≥(65536:Int)))
    (∃ (h:(0:Int)≤(16:Int)),
     Go.Lift.Br
      (Decidable.decide
       ((a.fdiv ((2:Int) ^ Min.min (Int.toNat (32:Int)) u64.bits)).fdiv ((2:Int) ^ Min.min (Int.toNat (16:Int)) u64.bits)≥(256:Int)))
      (∃ (h:(0:Int)≤(8:Int)),
       ∃ (h :
        (0:Int) ≤
          u8.wrap
           (((a.fdiv ((2:Int) ^ Min.min (Int.toNat (32:Int)) u64.bits)).fdiv ((2:Int) ^ Min.min (Int.toNat (16:Int)) u64.bits)).fdiv
             ((2:Int) ^ Min.min (Int.toNat (8:Int)) u64.bits)) ∧
         u8.wrap
           (((a.fdiv ((2:Int) ^ Min.min (Int.toNat (32:Int)) u64.bits)).fdiv ((2:Int) ^ Min.min (Int.toNat (16:Int)) u64.bits)).fdiv
             ((2:Int) ^ Min.min (Int.toNat (8:Int)) u64.bits)) <
          (tab8.size:Int)),
        post
         (i64.wrap
           (i64.wrap (i64.wrap ((32:Int)+(16:Int))+(8:Int)) +
            i64.wrap
             (Go.Lift.strAt
              tab8
              (u8.wrap
               (((a.fdiv ((2:Int) ^ Min.min (Int.toNat (32:Int)) u64.bits)).fdiv
                  ((2:Int) ^ Min.min (Int.toNat (16:Int)) u64.bits)).fdiv
                 ((2:Int) ^ Min.min (Int.toNat (8:Int)) u64.bits))))),
          ()))
      (∃ (h :
       (0:Int) ≤
         u8.wrap
          ((a.fdiv ((2:Int) ^ Min.min (Int.toNat (32:Int)) u64.bits)).fdiv ((2:Int) ^ Min.min (Int.toNat (16:Int)) u64.bits)) ∧
        u8.wrap
          ((a.fdiv ((2:Int) ^ Min.min (Int.toNat (32:Int)) u64.bits)).fdiv ((2:Int) ^ Min.min (Int.toNat (16:Int)) u64.bits)) <
         (tab8.size:Int)),
       post
        (i64.wrap
          (i64.wrap ((32:Int)+(16:Int)) +
           i64.wrap
            (Go.Lift.strAt
             tab8
             (u8.wrap
              ((a.fdiv ((2:Int) ^ Min.min (Int.toNat (32:Int)) u64.bits)).fdiv ((2:Int) ^ Min.min (Int.toNat (16:Int)) u64.bits))))),
         ())))
    (Go.Lift.Br (Decidable.decide (a.fdiv ((2:Int) ^ Min.min (Int.toNat (32:Int)) u64.bits)≥(256:Int)))
     (∃ (h:(0:Int)≤(8:Int)),
      ∃ (h :
       (0:Int) ≤
         u8.wrap
          ((a.fdiv ((2:Int) ^ Min.min (Int.toNat (32:Int)) u64.bits)).fdiv ((2:Int) ^ Min.min (Int.toNat (8:Int)) u64.bits)) ∧
        u8.wrap
          ((a.fdiv ((2:Int) ^ Min.min (Int.toNat (32:Int)) u64.bits)).fdiv ((2:Int) ^ Min.min (Int.toNat (8:Int)) u64.bits)) <
         (tab8.size:Int)),
       post
        (i64.wrap
          (i64.wrap ((32:Int)+(8:Int)) +
           i64.wrap
            (Go.Lift.strAt
             tab8
             (u8.wrap
              ((a.fdiv ((2:Int) ^ Min.min (Int.toNat (32:Int)) u64.bits)).fdiv ((2:Int) ^ Min.min (Int.toNat (8:Int)) u64.bits))))),
         ()))
     (∃ (h :
      (0:Int)≤u8.wrap (a.fdiv ((2:Int) ^ Min.min (Int.toNat (32:Int)) u64.bits)) ∧
       u8.wrap (a.fdiv ((2:Int) ^ Min.min (Int.toNat (32:Int)) u64.bits)) <
        (tab8.size:Int)),
      post
       (i64.wrap
         ((32:Int) +
           i64.wrap
           (Go.Lift.strAt
            tab8
            (u8.wrap (a.fdiv ((2:Int) ^ Min.min (Int.toNat (32:Int)) u64.bits))))),
        ()))))
  (Go.Lift.Br (Decidable.decide (a≥(65536:Int)))
   (∃ (h:(0:Int)≤(16:Int)),
    Go.Lift.Br (Decidable.decide (a.fdiv ((2:Int) ^ Min.min (Int.toNat (16:Int)) u64.bits)≥(256:Int)))
     (∃ (h:(0:Int)≤(8:Int)),
      ∃ (h :
       (0:Int) ≤
         u8.wrap
          ((a.fdiv ((2:Int) ^ Min.min (Int.toNat (16:Int)) u64.bits)).fdiv ((2:Int) ^ Min.min (Int.toNat (8:Int)) u64.bits)) ∧
        u8.wrap
          ((a.fdiv ((2:Int) ^ Min.min (Int.toNat (16:Int)) u64.bits)).fdiv ((2:Int) ^ Min.min (Int.toNat (8:Int)) u64.bits)) <
         (tab8.size:Int)),
       post
        (i64.wrap
          (i64.wrap (i64.wrap ((0:Int)+(16:Int))+(8:Int)) +
           i64.wrap
            (Go.Lift.strAt
             tab8
             (u8.wrap
              ((a.fdiv ((2:Int) ^ Min.min (Int.toNat (16:Int)) u64.bits)).fdiv ((2:Int) ^ Min.min (Int.toNat (8:Int)) u64.bits))))),
         ()))
     (∃ (h :
      (0:Int)≤u8.wrap (a.fdiv ((2:Int) ^ Min.min (Int.toNat (16:Int)) u64.bits)) ∧
       u8.wrap (a.fdiv ((2:Int) ^ Min.min (Int.toNat (16:Int)) u64.bits)) <
        (tab8.size:Int)),
      post
       (i64.wrap
         (i64.wrap ((0:Int)+(16:Int)) +
          i64.wrap
           (Go.Lift.strAt
            tab8
            (u8.wrap (a.fdiv ((2:Int) ^ Min.min (Int.toNat (16:Int)) u64.bits))))),
        ())))
   (Go.Lift.Br (Decidable.decide (a≥(256:Int)))
    (∃ (h:(0:Int)≤(8:Int)),
     ∃ (h :
      (0:Int)≤u8.wrap (a.fdiv ((2:Int) ^ Min.min (Int.toNat (8:Int)) u64.bits)) ∧
       u8.wrap (a.fdiv ((2:Int) ^ Min.min (Int.toNat (8:Int)) u64.bits)) <
        (tab8.size:Int)),
      post
       (i64.wrap
         (i64.wrap ((0:Int)+(8:Int)) +
          i64.wrap
           (Go.Lift.strAt
            tab8
            (u8.wrap (a.fdiv ((2:Int) ^ Min.min (Int.toNat (8:Int)) u64.bits))))),
        ()))
    (∃ (h :
     (0:Int)≤u8.wrap a ∧
      u8.wrap a <
       (tab8.size:Int)),
     post
      (i64.wrap
        ((0:Int) +
          i64.wrap
          (Go.Lift.strAt
           tab8
           (u8.wrap a))),
       ()))))
def Z2c (x:Int):Int:=if x≤0 then 0 else (x.toNat.log2:Int)+1
theorem Z19l:∀ n:Fin 256,strAt tab8 (n.1:Int)=Z2c n.1:=by decide +kernel
theorem Zme {x:Int} (k:Nat) (h:(2:Int) ^ k≤x):Z2c x=Z2c (x / 2 ^ k)+k:=by
 have h0:(0:Int)<2 ^ k:=Int.pow_pos (by decide)
 obtain ⟨n,rfl⟩:=Int.eq_ofNat_of_zero_le (show 0≤x by omega)
 have hk:2 ^ k≤n:=by exact_mod_cast h
 have hpos:0<2 ^ k:=Nat.two_pow_pos k
 have hd:((n:Int) / 2 ^ k)=((n / 2 ^ k:Nat):Int):=by norm_cast
 have hd0:n / 2 ^ k≠0:=by have:=Nat.div_pos hk hpos; omega
 have hn0:n≠0:=by omega
 rw [hd]
 unfold Z2c
 have hd1:0<((n / 2 ^ k:Nat):Int):=by exact_mod_cast Nat.div_pos hk hpos
 rw [if_neg (by omega),if_neg (Int.not_le.2 hd1)]
 simp only [Int.toNat_natCast]
 have:n.log2=(n / 2 ^ k).log2+k:=by
  rw [Nat.log2_eq_iff hn0]
  have h1:=Nat.log2_self_le hd0
  have h2:=Nat.lt_log2_self (n:=n / 2 ^ k)
  constructor
  ·rw [Nat.pow_add]; exact Nat.le_trans (Nat.mul_le_mul_right _ h1) (Nat.div_mul_le_self n (2 ^ k))
  ·rw [show (n / 2 ^ k).log2+k+1=((n / 2 ^ k).log2+1)+k by omega,Nat.pow_add]
   exact (Nat.div_lt_iff_lt_mul hpos).1 h2
 omega
theorem Zpv {x:Int} (h:x<18446744073709551616):0≤Z2c x∧Z2c x≤64:=by
 unfold Z2c
 split
 ·omega
 ·rename_i h0
  have:x.toNat.log2<64:=(Nat.log2_lt (by omega)).2 (by omega)
  omega
theorem Z1dv (m:Int) (h0:0≤m) (h1:m<256):strAt tab8 m=Z2c m:=by
 have:=Z19l ⟨m.toNat,by omega⟩
 simp only at this
 rwa [show ((m.toNat:Nat):Int)=m by omega] at this
theorem Z19m:(tab8.size:Int)=256:=by decide +kernel
theorem Z176 (m:Int) (h0:0≤m) (h1:m<256):u8.wrap m=m:=by simp [IntKind.wrap,IntKind.bits,IntKind.signed]; omega
theorem Z72 (m:Int) (h0:0≤m) (h1:m<9223372036854775808):i64.wrap m=m:=by simp [IntKind.wrap,IntKind.bits,IntKind.signed]; omega
theorem Z3v {m n a:Int} (hm0:0≤m) (hm:m<256) (hn0:0≤n) (hn:n≤56) (e:Z2c a=Z2c m+n) {post:Int × Unit→Prop} (h:post (Z2c a,())) :
  ∃ (_:(0:Int)≤u8.wrap m∧u8.wrap m<(tab8.size:Int)),post (i64.wrap (n+i64.wrap (Go.Lift.strAt tab8 (u8.wrap m))),()):=by
 rw [Z176 m hm0 hm,Z1dv m hm0 hm,Z19m]
 have b:=Zpv (x:=m) (by omega)
 rw [Z72 (Z2c m) (by omega) (by omega),Z72 (n+Z2c m) (by omega) (by omega),show n+Z2c m=Z2c a by omega]
 exact ⟨⟨hm0,hm⟩,h⟩
theorem Z177 {a:Int} (ha0:0≤a) (ha:a<18446744073709551616) {post:Int × Unit→Prop} (h:post (Z2c a,())):F22 a post:=by
 have e32:(2:Int) ^ Min.min (Int.toNat (32:Int)) u64.bits=4294967296:=by decide
 have e16:(2:Int) ^ Min.min (Int.toNat (16:Int)) u64.bits=65536:=by decide
 have e8:(2:Int) ^ Min.min (Int.toNat (8:Int)) u64.bits=256:=by decide
 have f32:∀ x:Int,x.fdiv 4294967296=x / 4294967296:=fun x=>Int.fdiv_eq_ediv_of_nonneg _ (by decide)
 have f16:∀ x:Int,x.fdiv 65536=x / 65536:=fun x=>Int.fdiv_eq_ediv_of_nonneg _ (by decide)
 have f8:∀ x:Int,x.fdiv 256=x / 256:=fun x=>Int.fdiv_eq_ediv_of_nonneg _ (by decide)
 have l32:∀ x:Int,4294967296≤x→Z2c x=Z2c (x / 4294967296)+32:=fun x hx=>Zme 32 (by omega)
 have l16:∀ x:Int,65536≤x→Z2c x=Z2c (x / 65536)+16:=fun x hx=>Zme 16 (by omega)
 have l8:∀ x:Int,256≤x→Z2c x=Z2c (x / 256)+8:=fun x hx=>Zme 8 (by omega)
 have w1:i64.wrap ((32:Int)+(16:Int))=48:=by decide
 have w2:i64.wrap ((48:Int)+(8:Int))=56:=by decide
 have w3:i64.wrap ((32:Int)+(8:Int))=40:=by decide
 have w4:i64.wrap ((0:Int)+(16:Int))=16:=by decide
 have w5:i64.wrap ((16:Int)+(8:Int))=24:=by decide
 have w6:i64.wrap ((0:Int)+(8:Int))=8:=by decide
 unfold F22
 simp only [e32,e16,e8,f32,f16,f8,w1,w2,w3,w4,w5,w6]
 refine Br.intro (fun c1=>⟨by decide,Br.intro (fun c2=>⟨by decide,Br.intro (fun c3=>⟨by decide,?_⟩) fun c3=>?_⟩) fun c2=>Br.intro (fun c3=>⟨by decide,?_⟩) fun c3=>?_⟩) fun c1 =>
  Br.intro (fun c2=>⟨by decide,Br.intro (fun c3=>⟨by decide,?_⟩) fun c3=>?_⟩) fun c2=>Br.intro (fun c3=>⟨by decide,?_⟩) fun c3=>?_
 all_goals (simp only [decide_eq_true_eq,decide_eq_false_iff_not,ge_iff_le,Int.not_le] at c1 c2 c3)
 ·exact Z3v (by omega) (by omega) (by omega) (by omega) (by rw [l32 a c1,l16 _ c2,l8 _ c3]; omega) h
 ·exact Z3v (by omega) (by omega) (by omega) (by omega) (by rw [l32 a c1,l16 _ c2]; omega) h
 ·exact Z3v (by omega) (by omega) (by omega) (by omega) (by rw [l32 a c1,l8 _ c3]; omega) h
 ·exact Z3v (by omega) (by omega) (by omega) (by omega) (by rw [l32 a c1]) h
 ·exact Z3v (by omega) (by omega) (by omega) (by omega) (by rw [l16 a c2,l8 _ c3]; omega) h
 ·exact Z3v (by omega) (by omega) (by omega) (by omega) (by rw [l16 a c2]) h
 ·exact Z3v (by omega) (by omega) (by omega) (by omega) (by rw [l8 a c3]) h
 ·exact Z3v (by omega) (by omega) (by omega) (by omega) (by omega) h
def mulHi (a b:Int):Int:=a*b / 18446744073709551616
def mulLo (a b:Int):Int:=a*b % 18446744073709551616
def F21:=fun (a:Int) (post:Int × Unit→Prop)=>∃ (h:U64 a),post (i64.wrap ((64:Int) - Z2c a),())
def lz64 (a:Int):Int:=64 - Z2c a
def hn19:Hn:={
 loops:=fun k=>match k with
  | 17=>some { ls:=[(.slot 15,.data (.int .u64)),(.slot 16,.data (.int .u64))],os:=[] }
  | 24=>some { ls:=[(.slot 18,.data (.int .u64)),(.slot 16,.data (.int .u64))],os:=[] }
  | _=>none
 joins:=fun k=>match k with
  | 15=>some { ls:=[(.slot 2,.data (.int .u64)),(.slot 8,.data (.int .u64)),(.slot 9,.data (.int .u64)),(.slot 10,.data (.int .u64)),(.slot 11,.data (.int .u64)),(.slot 13,.data (.int .u64)),(.slot 14,.data (.int .u64))],os:=[] }
  | 21=>some { ls:=[(.slot 15,.data (.int .u64))],os:=[] }
  | 28=>some { ls:=[(.slot 18,.data (.int .u64))],os:=[] }
  | _=>none }
def F19:=fun (a b c:Int) (post:Int × Int × Unit→Prop) =>
 Go.Lift.Br (c==(0:Int)) False
  (Go.Lift.Br (Decidable.decide (c≤a)) False
   (Go.Lift.Br (a==(0:Int)) (∃ (h:c≠(0:Int)),∃ (h:c≠(0:Int)),post (u64.wrap (b.tdiv c),b.tmod c,()))
    (∃ (h:Go.Lift.U64 c),
     ∃ (h:(0:Int)≤u64.wrap (Go.Lift.lz64 c)),
      ∃ (h:(0:Int)≤(32:Int)),
       ∃ (h:(0:Int)≤u64.wrap (Go.Lift.lz64 c)),
        ∃ (h:(0:Int)≤u64.wrap ((64:Int) - u64.wrap (Go.Lift.lz64 c))),
         ∃ (h:(0:Int)≤u64.wrap (Go.Lift.lz64 c)),
          ∃ (h:(0:Int)≤(32:Int)),
           ∃ (post_1:Int × Int × Int × Int × Int × Int × Int × Unit→Unit→Prop),
            (Go.Lift.HIs [] [] ∧
              post_1
               (u64.wrap (c*(2:Int) ^ Min.min (u64.wrap (Go.Lift.lz64 c)).toNat u64.bits),u64.wrap (Go.Lift.lz64 c),
                (u64.wrap (c*(2:Int) ^ Min.min (u64.wrap (Go.Lift.lz64 c)).toNat u64.bits)).fdiv
                 ((2:Int) ^ Min.min (Int.toNat (32:Int)) u64.bits),
                Go.bits Go.BinOp.and u64 (u64.wrap (c*(2:Int) ^ Min.min (u64.wrap (Go.Lift.lz64 c)).toNat u64.bits))
                 (4294967295:Int),
                Go.bits Go.BinOp.or u64 (u64.wrap (a*(2:Int) ^ Min.min (u64.wrap (Go.Lift.lz64 c)).toNat u64.bits))
                 (b.fdiv ((2:Int) ^ Min.min (u64.wrap ((64:Int) - u64.wrap (Go.Lift.lz64 c))).toNat u64.bits)),
                (u64.wrap (b*(2:Int) ^ Min.min (u64.wrap (Go.Lift.lz64 c)).toNat u64.bits)).fdiv
                 ((2:Int) ^ Min.min (Int.toNat (32:Int)) u64.bits),
                Go.bits Go.BinOp.and u64 (u64.wrap (b*(2:Int) ^ Min.min (u64.wrap (Go.Lift.lz64 c)).toNat u64.bits))
                 (4294967295:Int),
                ())
               ()) ∧
             ∀ (x:Int × Int × Int × Int × Int × Int × Int × Unit) (y:Unit),
              post_1 x y →
               ∃ (h:x.snd.snd.fst≠(0:Int)),
                ∃ (post_2:Int × Unit→Unit→Prop),
                 (Go.Lift.HIs [] [] ∧
                   ∃ (I:Int × Int × Unit→Unit→Prop),
                    ∃ (μ:Int × Int × Unit→Unit→Nat),
                     I
                       (u64.wrap (x.snd.snd.snd.snd.fst.tdiv x.snd.snd.fst),
                        u64.wrap
                         (x.snd.snd.snd.snd.fst - u64.wrap (u64.wrap (x.snd.snd.snd.snd.fst.tdiv x.snd.snd.fst)*x.snd.snd.fst)),
                        ())
                       () ∧
                      ∀ (x_2:Int × Int × Unit) (y:Unit),
                       I x_2 y →
                        Go.Lift.Br (Decidable.decide (x_2.fst≥(4294967296:Int)))
                         (Go.Lift.Br (Decidable.decide (u64.wrap (x_2.snd.fst+x.snd.snd.fst)≥(4294967296:Int)))
                          (Go.Lift.HIs [] []∧post_2 (u64.wrap (x_2.fst - (1:Int)),()) ())
                          (Go.Lift.HIs [] [] ∧
                           I (u64.wrap (x_2.fst - (1:Int)),u64.wrap (x_2.snd.fst+x.snd.snd.fst),()) () ∧
                            μ (u64.wrap (x_2.fst - (1:Int)),u64.wrap (x_2.snd.fst+x.snd.snd.fst),()) ()<μ x_2 y))
                         (Go.Lift.Br
                          (Decidable.decide
                           (u64.wrap (x_2.fst*x.snd.snd.snd.fst) >
                            u64.wrap (u64.wrap ((4294967296:Int)*x_2.snd.fst)+x.snd.snd.snd.snd.snd.fst)))
                          (Go.Lift.Br (Decidable.decide (u64.wrap (x_2.snd.fst+x.snd.snd.fst)≥(4294967296:Int)))
                           (Go.Lift.HIs [] []∧post_2 (u64.wrap (x_2.fst - (1:Int)),()) ())
                           (Go.Lift.HIs [] [] ∧
                            I (u64.wrap (x_2.fst - (1:Int)),u64.wrap (x_2.snd.fst+x.snd.snd.fst),()) () ∧
                             μ (u64.wrap (x_2.fst - (1:Int)),u64.wrap (x_2.snd.fst+x.snd.snd.fst),()) ()<μ x_2 y))
                          (Go.Lift.HIs [] []∧post_2 (x_2.fst,()) ()))) ∧
                  ∀ (x_2:Int × Unit) (y:Unit),
                   post_2 x_2 y →
                    ∃ (h:x.snd.snd.fst≠(0:Int)),
                     ∃ (post_3:Int × Unit→Unit→Prop),
                      (Go.Lift.HIs [] [] ∧
                        ∃ (I:Int × Int × Unit→Unit→Prop),
                         ∃ (μ:Int × Int × Unit→Unit→Nat),
                          I
                            (u64.wrap
                              ((u64.wrap
                                 (u64.wrap
                                   (u64.wrap (x.snd.snd.snd.snd.fst*(4294967296:Int))+x.snd.snd.snd.snd.snd.fst) -
                                  u64.wrap (x_2.fst*x.fst))).tdiv
                                x.snd.snd.fst),
                             u64.wrap
                              (u64.wrap
                                (u64.wrap
                                  (u64.wrap (x.snd.snd.snd.snd.fst*(4294967296:Int))+x.snd.snd.snd.snd.snd.fst) -
                                 u64.wrap (x_2.fst*x.fst)) -
                               u64.wrap
                                (u64.wrap
                                  ((u64.wrap
                                     (u64.wrap
                                       (u64.wrap (x.snd.snd.snd.snd.fst*(4294967296:Int))+x.snd.snd.snd.snd.snd.fst) -
                                      u64.wrap (x_2.fst*x.fst))).tdiv
                                    x.snd.snd.fst) *
                                 x.snd.snd.fst)),
                             ())
                            () ∧
                           ∀ (x_4:Int × Int × Unit) (y:Unit),
                            I x_4 y →
                             Go.Lift.Br (Decidable.decide (x_4.fst≥(4294967296:Int)))
                              (Go.Lift.Br (Decidable.decide (u64.wrap (x_4.snd.fst+x.snd.snd.fst)≥(4294967296:Int)))
                               (Go.Lift.HIs [] []∧post_3 (u64.wrap (x_4.fst - (1:Int)),()) ())
                               (Go.Lift.HIs [] [] ∧
                                I (u64.wrap (x_4.fst - (1:Int)),u64.wrap (x_4.snd.fst+x.snd.snd.fst),()) () ∧
                                 μ (u64.wrap (x_4.fst - (1:Int)),u64.wrap (x_4.snd.fst+x.snd.snd.fst),()) () <
                                  μ x_4 y))
                              (Go.Lift.Br
                               (Decidable.decide
                                (u64.wrap (x_4.fst*x.snd.snd.snd.fst) >
                                 u64.wrap (u64.wrap ((4294967296:Int)*x_4.snd.fst)+x.snd.snd.snd.snd.snd.snd.fst)))
                               (Go.Lift.Br (Decidable.decide (u64.wrap (x_4.snd.fst+x.snd.snd.fst)≥(4294967296:Int)))
                                (Go.Lift.HIs [] []∧post_3 (u64.wrap (x_4.fst - (1:Int)),()) ())
                                (Go.Lift.HIs [] [] ∧
                                 I (u64.wrap (x_4.fst - (1:Int)),u64.wrap (x_4.snd.fst+x.snd.snd.fst),()) () ∧
                                  μ (u64.wrap (x_4.fst - (1:Int)),u64.wrap (x_4.snd.fst+x.snd.snd.fst),()) () <
                                   μ x_4 y))
                               (Go.Lift.HIs [] []∧post_3 (x_4.fst,()) ()))) ∧
                       ∀ (x_4:Int × Unit) (y:Unit),
                        post_3 x_4 y →
                         ∃ (h:(0:Int)≤x.snd.fst),
                          post
                           (u64.wrap (u64.wrap (x_2.fst*(4294967296:Int))+x_4.fst),
                            (u64.wrap
                               (u64.wrap
                                 (u64.wrap
                                   (u64.wrap
                                     (u64.wrap
                                       (u64.wrap (x.snd.snd.snd.snd.fst*(4294967296:Int))+x.snd.snd.snd.snd.snd.fst) -
                                      u64.wrap (x_2.fst*x.fst)) *
                                    (4294967296:Int)) +
                                  x.snd.snd.snd.snd.snd.snd.fst) -
                                u64.wrap (x_4.fst*x.fst))).fdiv
                             ((2:Int) ^ Min.min x.snd.fst.toNat u64.bits),
                            ()))))
structure DigIn (y1 y0 u v:Int):Prop where
 y1l:2147483648≤y1
 y1h:y1<4294967296
 y0l:0≤y0
 y0h:y0<4294967296
 ul:0≤u
 uh:u<y1*4294967296+y0
 vl:0≤v
 vh:v<4294967296
structure DigInv (y1 y0 u v q r:Int):Prop where
 r_eq:r=u - q*y1
 r0:0≤r
 rW:r<4294967296
 q0:0≤q
 qh:q≤4294967297
 up:u*4294967296+v<(q+1)*(y1*4294967296+y0)
structure DigFin (y1 y0 u v q:Int):Prop where
 q0:0≤q
 qW:q<4294967296
 lo:q*(y1*4294967296+y0)≤u*4294967296+v
 up:u*4294967296+v<(q+1)*(y1*4294967296+y0)
theorem Ztm (q y1 y0:Int):q*(y1*4294967296+y0)=q*y1*4294967296+q*y0:=by rw [Int.mul_add,Int.mul_assoc]
theorem Z1dw (q y1 y0:Int):(q+1)*(y1*4294967296+y0)=q*y1*4294967296+q*y0+y1*4294967296+y0:=by
 rw [Int.add_mul,Ztm,Int.one_mul]; omega
theorem Z1bd {y1 y0 u v:Int} (h:DigIn y1 y0 u v):DigInv y1 y0 u v (u / y1) (u - u / y1*y1):=by
 have h1:=h.y1l
 have e:=Int.mul_ediv_add_emod u y1
 have m0:=Int.emod_nonneg u (show y1≠0 by omega)
 have m1:=Int.emod_lt_of_pos u (show 0<y1 by omega)
 have q0:0≤u / y1:=Int.ediv_nonneg h.ul (by omega)
 have c:u / y1*y1=y1*(u / y1):=Int.mul_comm _ _
 have y1h:=h.y1h
 have uh:=h.uh
 have y0h:=h.y0h
 have y0l:=h.y0l
 have vh:=h.vh
 refine ⟨rfl,by omega,by omega,q0,?_,?_⟩
 ·rcases Int.lt_or_le 4294967297 (u / y1) with hlt | hle
  ·have:4294967298*y1≤u / y1*y1:=Int.mul_le_mul_of_nonneg_right (by omega) (by omega)
   omega
  ·exact hle
 ·rw [Z1dw]
  have:0≤u / y1*y0:=Int.mul_nonneg q0 y0l
  omega
theorem Zwb {y1 y0 u v q r:Int} (h:DigIn y1 y0 u v) (i:DigInv y1 y0 u v q r) (c:4294967296≤q∨q*y0 > 4294967296*r+v):1≤q:=by
 have q0:=i.q0
 rcases c with c | c
 ·omega
 ·rcases Int.lt_or_le 0 q with hp | hp
  ·omega
  ·have:q=0:=by omega
   subst this
   rw [Int.zero_mul] at c
   have:=i.r0
   have:=h.vl
   omega
theorem Z19n {y1 y0 u v q r:Int} (h:DigIn y1 y0 u v) (i:DigInv y1 y0 u v q r) (c:4294967296≤q∨q*y0 > 4294967296*r+v):u*4294967296+v<q*(y1*4294967296+y0):=by
 rw [Ztm]
 have r_eq:=i.r_eq
 have uh:=h.uh
 have vh:=h.vh
 rcases c with c | c
 ·have p1:4294967296*y1≤q*y1:=Int.mul_le_mul_of_nonneg_right c (by have:=h.y1l; omega)
  have p2:4294967296*y0≤q*y0:=Int.mul_le_mul_of_nonneg_right c h.y0l
  omega
 ·omega
theorem Z1be {y1 y0 u v q r:Int} (h:DigIn y1 y0 u v) (i:DigInv y1 y0 u v q r) (c:4294967296≤q∨q*y0 > 4294967296*r+v) (hr:r+y1<4294967296):DigInv y1 y0 u v (q - 1) (r+y1):=by
 have h1:=Zwb h i c
 have h2:=Z19n h i c
 have r_eq:=i.r_eq
 have r0:=i.r0
 have y1l:=h.y1l
 have qh:=i.qh
 refine ⟨?_,by omega,hr,by omega,by omega,by rw [show q - 1+1=q by omega]; exact h2⟩
 rw [Int.sub_mul,Int.one_mul]; omega
theorem Z19o {y1 y0 u v q r:Int} (h:DigIn y1 y0 u v) (i:DigInv y1 y0 u v q r) (c:4294967296≤q∨q*y0 > 4294967296*r+v) (hr:4294967296≤r+y1):DigFin y1 y0 u v (q - 1):=by
 have h1:=Zwb h i c
 have h2:=Z19n h i c
 have r_eq:=i.r_eq
 have qh:=i.qh
 have y0l:=h.y0l
 have y0h:=h.y0h
 have y1l:=h.y1l
 have uh:=h.uh
 have vl:=h.vl
 have vh:=h.vh
 have s:(q - 1)*y0≤4294967296*y0:=Int.mul_le_mul_of_nonneg_right (by omega) y0l
 have e1:(q - 1)*y1=q*y1 - y1:=by rw [Int.sub_mul,Int.one_mul]
 have lo:(q - 1)*(y1*4294967296+y0)≤u*4294967296+v:=by rw [Ztm,e1]; omega
 refine ⟨by omega,?_,lo,by rw [show q - 1+1=q by omega]; exact h2⟩
 rcases Int.lt_or_le (q - 1) 4294967296 with hl | hl
 ·exact hl
 ·have p1:4294967296*y1≤(q - 1)*y1:=Int.mul_le_mul_of_nonneg_right hl (by omega)
  have p2:4294967296*y0≤(q - 1)*y0:=Int.mul_le_mul_of_nonneg_right hl y0l
  rw [Ztm] at lo
  omega
theorem Z1bf {y1 y0 u v q r:Int} (h:DigIn y1 y0 u v) (i:DigInv y1 y0 u v q r) (c1:q<4294967296) (c2:q*y0≤4294967296*r+v):DigFin y1 y0 u v q:=by
 have r_eq:=i.r_eq
 exact ⟨i.q0,c1,by rw [Ztm]; omega,i.up⟩
theorem w64 (n:Int) (h0:0≤n) (h1:n<18446744073709551616):u64.wrap n=n:=by rw [IntKind.wrap_u64]; omega
theorem Z12i {y1 y0 u v:Int} (h:DigIn y1 y0 u v) {P:Int × Unit→Unit→Prop} (hP:∀ q,DigFin y1 y0 u v q→P (q,()) ()) :
  HIs [] []∧∃ (I:Int × Int × Unit→Unit→Prop),∃ (μ:Int × Int × Unit→Unit→Nat),
   I (u64.wrap (u.tdiv y1),u64.wrap (u - u64.wrap (u64.wrap (u.tdiv y1)*y1)),()) () ∧
   ∀ (x:Int × Int × Unit) (y:Unit),I x y →
    Br (Decidable.decide (x.fst≥(4294967296:Int)))
     (Br (Decidable.decide (u64.wrap (x.snd.fst+y1)≥(4294967296:Int))) (HIs [] []∧P (u64.wrap (x.fst - (1:Int)),()) ())
      (HIs [] []∧I (u64.wrap (x.fst - (1:Int)),u64.wrap (x.snd.fst+y1),()) ()∧μ (u64.wrap (x.fst - (1:Int)),u64.wrap (x.snd.fst+y1),()) ()<μ x y))
     (Br (Decidable.decide (u64.wrap (x.fst*y0) > u64.wrap (u64.wrap ((4294967296:Int)*x.snd.fst)+v)))
      (Br (Decidable.decide (u64.wrap (x.snd.fst+y1)≥(4294967296:Int))) (HIs [] []∧P (u64.wrap (x.fst - (1:Int)),()) ())
       (HIs [] []∧I (u64.wrap (x.fst - (1:Int)),u64.wrap (x.snd.fst+y1),()) ()∧μ (u64.wrap (x.fst - (1:Int)),u64.wrap (x.snd.fst+y1),()) ()<μ x y))
      (HIs [] []∧P (x.fst,()) ())):=by
 have y1l:=h.y1l
 have y1h:=h.y1h
 have y0l:=h.y0l
 have y0h:=h.y0h
 have uh:=h.uh
 have ul:=h.ul
 have vl:=h.vl
 have vh:=h.vh
 refine ⟨rfl,fun x _=>DigInv y1 y0 u v x.1 x.2.1,fun x _=>x.1.toNat,?_,?_⟩
 ·have e:u.tdiv y1=u / y1:=Int.tdiv_eq_ediv_of_nonneg ul
  have i:=Z1bd h
  have q0:=i.q0
  have qh:=i.qh
  have r0:=i.r0
  have rW:=i.rW
  simp only [e]
  rw [w64 (u / y1) q0 (by omega),w64 (u / y1*y1) (Int.mul_nonneg q0 (by omega)) (by omega),w64 _ (by omega) (by omega)]
  exact i
 ·rintro ⟨q,r,⟨⟩⟩ ⟨⟩ i
  simp only at i ⊢
  have q0:=i.q0
  have qh:=i.qh
  have r0:=i.r0
  have rW:=i.rW
  rw [w64 (r+y1) (by omega) (by omega),w64 (4294967296*r) (by omega) (by omega),w64 (4294967296*r+v) (by omega) (by omega)]
  have body:(4294967296≤q∨q*y0 > 4294967296*r+v) →
    Br (Decidable.decide (r+y1≥(4294967296:Int))) (HIs [] []∧P (u64.wrap (q - (1:Int)),()) ())
     (HIs [] []∧DigInv y1 y0 u v (u64.wrap (q - (1:Int))) (r+y1)∧(u64.wrap (q - (1:Int))).toNat<q.toNat):=by
   intro c
   have h1:=Zwb h i c
   rw [w64 (q - 1) (by omega) (by omega)]
   refine Br.intro (fun b=>⟨rfl,hP _ (Z19o h i c ?_)⟩) fun b=>⟨rfl,Z1be h i c ?_,by omega⟩
   ·simpa using b
   ·simpa using b
  refine Br.intro (fun b=>body (.inl (by simpa using b))) fun b=>?_
  have hq:q<4294967296:=by simpa using b
  have hs:q*y0≤4294967295*4294967295:=Int.mul_le_mul (by omega) (by omega) y0l (by omega)
  rw [w64 (q*y0) (Int.mul_nonneg q0 y0l) (by omega)]
  refine Br.intro (fun b=>body (.inr (by simpa using b))) fun b=>⟨rfl,hP q (Z1bf h i hq (by simpa using b))⟩
theorem Z1cw {x y S:Int} (s:Nat) (hS:S=2 ^ s) (hx0:0≤x) (hx:x*S<18446744073709551616) (hy0:0≤y) (hy:y<S) (hm:y<18446744073709551616) :
  Go.bits .or .u64 (x*S) y=x*S+y:=by
 obtain ⟨n,rfl⟩:=Int.eq_ofNat_of_zero_le hx0
 obtain ⟨m,rfl⟩:=Int.eq_ofNat_of_zero_le hy0
 have hS':S=((2 ^ s:Nat):Int):=by rw [hS,Int.natCast_pow]; rfl
 subst hS'
 have h1:n*2 ^ s<18446744073709551616:=Int.ofNat_lt.1 (by rw [Int.natCast_mul]; exact hx)
 have h2:m<2 ^ s:=Int.ofNat_lt.1 hy
 have h4:n*2 ^ s ||| m=n*2 ^ s+m:=by
  rw [Nat.mul_comm,Nat.two_pow_add_eq_or_of_lt h2]
 have:=bits_or_u64_nat (n*2 ^ s) m h1 (by omega)
 rw [h4,Int.natCast_mul,Int.natCast_add,Int.natCast_mul] at this
 exact this
theorem Z1cx {M c S Q R Y:Int} (hS:0<S) (hY:Y=c*S) (hc:0<c) (h:M*S=Q*Y+R) (h0:0≤R) (h1:R<Y):M / c=Q∧M % c=R / S:=by
 have e:R=(M - Q*c)*S:=by rw [Int.sub_mul,Int.mul_assoc,← hY]; omega
 have e2:R / S=M - Q*c:=by rw [e]; exact Int.mul_ediv_cancel _ (by omega)
 have p0:0≤M - Q*c:=by
  rcases Int.lt_or_le (M - Q*c) 0 with hl | hl
  ·have:=Int.mul_neg_of_neg_of_pos hl hS; omega
  ·exact hl
 have p1:M - Q*c<c:=by
  rcases Int.lt_or_le (M - Q*c) c with hl | hl
  ·exact hl
  ·have:=Int.mul_le_mul_of_nonneg_right hl (show 0≤S by omega); omega
 have hM:M=(M - Q*c)+c*Q:=by rw [Int.mul_comm c Q]; omega
 constructor
 ·rw [hM,Int.add_mul_ediv_left _ _ (by omega),Int.ediv_eq_zero_of_lt p0 p1,Int.zero_add]
 ·rw [e2]
  conv=>lhs; rw [hM]
  rw [Int.add_mul_emod_self_left,Int.emod_eq_of_lt p0 p1]
theorem Z178 {a b c s:Int} (hg:lz64 c=s) (hc:U64 c) (hs0:0≤s) (hs1:s≤63) (hn0:9223372036854775808≤c*2 ^ s.toNat) (hn1:c*2 ^ s.toNat<18446744073709551616) (ha0:0≤a) (hac:a<c) (hb0:0≤b) (hb:b<18446744073709551616)
  {post:Int × Int × Unit→Prop} (h:post ((a*18446744073709551616+b) / c,(a*18446744073709551616+b) % c,())):F19 a b c post:=by
 unfold F19
 refine Br.intro (fun e=>by simp at e; omega) fun _=>Br.intro (fun e=>by simp at e; omega) fun _=>Br.intro (fun e=>?_) fun _=>?_
 ·have e:a=0:=by simpa using e
  subst e
  refine ⟨by omega,by omega,?_⟩
  have e1:b.tdiv c=b / c:=Int.tdiv_eq_ediv_of_nonneg hb0
  have e2:b.tmod c=b % c:=Int.tmod_eq_emod_of_nonneg hb0
  have p0:0≤b / c:=Int.ediv_nonneg hb0 (by omega)
  have p1:b / c≤b:=Int.ediv_le_self _ hb0
  rw [e1,e2,w64 _ p0 (by omega)]
  simpa using h
 ·rw [hg]
  rw [w64 s hs0 (by omega),w64 (64 - s) (by omega) (by omega)]
  have e32:(2:Int) ^ Min.min (Int.toNat (32:Int)) u64.bits=4294967296:=by decide
  have es:Min.min s.toNat u64.bits=s.toNat:=Nat.min_eq_left (by show s.toNat≤64; omega)
  have et:Min.min (64 - s).toNat u64.bits=(64 - s).toNat:=Nat.min_eq_left (by show (64 - s).toNat≤64; omega)
  have hST:(2:Int) ^ s.toNat*2 ^ (64 - s).toNat=18446744073709551616:=by
   rw [← Int.pow_add,show s.toNat+(64 - s).toNat=64 by omega]; rfl
  have hS0:(0:Int)<2 ^ s.toNat:=Int.pow_pos (by decide)
  have hT0:(0:Int)<2 ^ (64 - s).toNat:=Int.pow_pos (by decide)
  have fS:∀ x:Int,x.fdiv (2 ^ s.toNat)=x / 2 ^ s.toNat:=fun x=>Int.fdiv_eq_ediv_of_nonneg _ (by omega)
  have fT:∀ x:Int,x.fdiv (2 ^ (64 - s).toNat)=x / 2 ^ (64 - s).toNat:=fun x=>Int.fdiv_eq_ediv_of_nonneg _ (by omega)
  have f32:∀ x:Int,x.fdiv 4294967296=x / 4294967296:=fun x=>Int.fdiv_eq_ediv_of_nonneg _ (by decide)
  simp only [e32,es,et,fS,fT,f32]
  generalize hS:(2:Int) ^ s.toNat=S at *
  generalize hT:(2:Int) ^ (64 - s).toNat=T at *
  generalize hY:c*S=Y at *
  have aS:a*S≤Y - S:=by
   have:a*S≤(c - 1)*S:=Int.mul_le_mul_of_nonneg_right (by omega) (by omega)
   rw [Int.sub_mul,Int.one_mul,hY] at this; exact this
  have aS0:0≤a*S:=Int.mul_nonneg ha0 (by omega)
  have bT0:0≤b / T:=Int.ediv_nonneg hb0 (by omega)
  have bTS:b / T<S:=Int.ediv_lt_of_lt_mul hT0 (by rw [hST]; exact hb)
  have bm0:0≤b % T:=Int.emod_nonneg _ (by omega)
  have bm1:b % T<T:=Int.emod_lt_of_pos _ hT0
  have hV0:0≤b % T*S:=Int.mul_nonneg bm0 (by omega)
  have hV1:b % T*S<18446744073709551616:=by
   have:b % T*S≤(T - 1)*S:=Int.mul_le_mul_of_nonneg_right (by omega) (by omega)
   rw [Int.sub_mul,Int.one_mul,Int.mul_comm T S,hST] at this; omega
  have hbS:b*S=b / T*18446744073709551616+b % T*S:=by
   have e:b=b / T*T+b % T:=by have:=Int.mul_ediv_add_emod b T; rw [Int.mul_comm (b / T) T]; omega
   conv=>lhs; rw [e]
   rw [Int.add_mul,Int.mul_assoc,Int.mul_comm T S,hST]
  have wbS:u64.wrap (b*S)=b % T*S:=by rw [IntKind.wrap_u64,hbS]; omega
  have hU:Go.bits .or .u64 (a*S) (b / T)=a*S+b / T:=Z1cw s.toNat hS.symm ha0 (by omega) bT0 bTS (by omega)
  rw [w64 Y (by omega) hn1,w64 (a*S) aS0 (by omega),wbS,hU,Z8d Y (by omega) hn1,Z8d _ hV0 hV1]
  refine ⟨hc,hs0,by decide,hs0,by omega,hs0,by decide,fun x _=>x=(Y,s,Y / 4294967296,Y % 4294967296,a*S+b / T,b % T*S / 4294967296,b % T*S % 4294967296,()),⟨rfl,rfl⟩,?_⟩
  rintro _ ⟨⟩ rfl
  simp only
  generalize hVV:b % T*S=V at *
  generalize hUU:a*S+b / T=U at *
  have d1:DigIn (Y / 4294967296) (Y % 4294967296) U (V / 4294967296):=⟨by omega,by omega,by omega,by omega,by omega,by omega,by omega,by omega⟩
  refine ⟨by omega,fun x _=>DigFin (Y / 4294967296) (Y % 4294967296) U (V / 4294967296) x.1,Z12i (P:=fun x _=>DigFin (Y / 4294967296) (Y % 4294967296) U (V / 4294967296) x.1) d1 fun q hq=>hq,?_⟩
  rintro ⟨q1,⟨⟩⟩ ⟨⟩ hq1
  simp only at hq1 ⊢
  have eY:Y / 4294967296*4294967296+Y % 4294967296=Y:=by omega
  have l1:=hq1.lo
  have u1:=hq1.up
  rw [eY] at l1 u1
  rw [Int.add_mul,Int.one_mul] at u1
  have q1Y0:0≤q1*Y:=Int.mul_nonneg hq1.q0 (by omega)
  have eu:u64.wrap (u64.wrap (u64.wrap (U*4294967296)+V / 4294967296) - u64.wrap (q1*Y))=U*4294967296+V / 4294967296 - q1*Y:=by
   simp only [IntKind.wrap_u64]; omega
  rw [eu]
  generalize hR1:U*4294967296+V / 4294967296 - q1*Y=R1 at *
  have d2:DigIn (Y / 4294967296) (Y % 4294967296) R1 (V % 4294967296):=⟨by omega,by omega,by omega,by omega,by omega,by omega,by omega,by omega⟩
  refine ⟨by omega,fun x _=>DigFin (Y / 4294967296) (Y % 4294967296) R1 (V % 4294967296) x.1,Z12i (P:=fun x _=>DigFin (Y / 4294967296) (Y % 4294967296) R1 (V % 4294967296) x.1) d2 fun q hq=>hq,?_⟩
  rintro ⟨q0,⟨⟩⟩ ⟨⟩ hq0
  simp only at hq0 ⊢
  have l0:=hq0.lo
  have u0:=hq0.up
  rw [eY] at l0 u0
  rw [Int.add_mul,Int.one_mul] at u0
  have q0Y0:0≤q0*Y:=Int.mul_nonneg hq0.q0 (by omega)
  have er:u64.wrap (u64.wrap (u64.wrap (R1*4294967296)+V % 4294967296) - u64.wrap (q0*Y))=R1*4294967296+V % 4294967296 - q0*Y:=by
   simp only [IntKind.wrap_u64]; omega
  rw [er]
  have a1:=hq1.q0
  have a2:=hq1.qW
  have a3:=hq0.q0
  have a4:=hq0.qW
  rw [w64 (q1*4294967296) (by omega) (by omega),w64 _ (by omega) (by omega)]
  have key:=Z1cx (M:=a*18446744073709551616+b) (c:=c) (S:=S) (Q:=q1*4294967296+q0) (R:=R1*4294967296+V % 4294967296 - q0*Y) (Y:=Y) hS0 hY.symm (by omega) (by
   have e1:(a*18446744073709551616+b)*S=a*S*18446744073709551616+b*S:=by rw [Int.add_mul,Int.mul_right_comm]
   have e2:(q1*4294967296+q0)*Y=q1*Y*4294967296+q0*Y:=by rw [Int.add_mul,Int.mul_right_comm]
   rw [e1,e2,hbS]
   omega) (by omega) (by omega)
  rw [key.1,key.2] at h
  refine ⟨hs0,?_⟩
  rw [es,hS,fS]
  exact h
theorem Z1cy {c:Int} (h0:0<c) (h1:c<18446744073709551616):0≤lz64 c∧lz64 c≤63∧9223372036854775808≤c*2 ^ (lz64 c).toNat∧c*2 ^ (lz64 c).toNat<18446744073709551616:=by
 obtain ⟨n,rfl⟩:=Int.eq_ofNat_of_zero_le (show 0≤c by omega)
 have hn:n≠0:=by omega
 have hl:n.log2<64:=(Nat.log2_lt hn).2 (by omega)
 have e:lz64 (n:Int)=((63 - n.log2:Nat):Int):=by
  unfold lz64 Z2c; rw [if_neg (by omega)]; simp only [Int.toNat_natCast]; omega
 rw [e,Int.toNat_natCast]
 have a1:=Nat.mul_le_mul_right (2 ^ (63 - n.log2)) (Nat.log2_self_le hn)
 have a2:=Nat.mul_lt_mul_of_pos_right (Nat.lt_log2_self (n:=n)) (Nat.two_pow_pos (63 - n.log2))
 rw [← Nat.pow_add,show n.log2+(63 - n.log2)=63 by omega] at a1
 rw [← Nat.pow_add,show n.log2+1+(63 - n.log2)=64 by omega] at a2
 have hc:((n:Int)*2 ^ (63 - n.log2))=((n*2 ^ (63 - n.log2):Nat):Int):=by rw [Int.natCast_mul,Int.natCast_pow]; rfl
 rw [hc]
 refine ⟨by omega,by omega,?_,?_⟩
 ·exact Int.ofNat_le.2 a1
 ·exact Int.ofNat_lt.2 a2
def divQ (a b c:Int):Int:=(a*18446744073709551616+b) / c
def divR (a b c:Int):Int:=(a*18446744073709551616+b) % c
def F12:=fun (a b c:Int) (post:Int × Unit→Prop) =>
 Go.Lift.Br (Decidable.decide (a<(0:Int))) (post ((0:Int),()))
  (Go.Lift.Br (Decidable.decide (b<(0:Int))) (post ((0:Int),()))
   (Go.Lift.Br (Decidable.decide (c<(1:Int))) (post ((0:Int),()))
    (∃ (h:Go.Lift.U64 (u64.wrap a)∧Go.Lift.U64 (u64.wrap b)),
     Go.Lift.Br (Decidable.decide (Go.Lift.mulHi (u64.wrap a) (u64.wrap b)≥u64.wrap c)) (post ((9223372036854775807:Int),()))
      (∃ (h :
       Go.Lift.U64 (Go.Lift.mulHi (u64.wrap a) (u64.wrap b)) ∧
        Go.Lift.U64 (Go.Lift.mulLo (u64.wrap a) (u64.wrap b)) ∧
         Go.Lift.U64 (u64.wrap c)∧Go.Lift.mulHi (u64.wrap a) (u64.wrap b)<u64.wrap c),
       post
        (i64.wrap
          (Go.Lift.imin
           (Go.Lift.divQ (Go.Lift.mulHi (u64.wrap a) (u64.wrap b)) (Go.Lift.mulLo (u64.wrap a) (u64.wrap b))
            (u64.wrap c))
           (9223372036854775807:Int)),
         ())))))
theorem Z19p (a b:Int):mulHi a b*18446744073709551616+mulLo a b=a*b:=by unfold mulHi mulLo; omega
theorem Z19q (a b:Int):U64 (mulLo a b):=by unfold mulLo U64; omega
theorem Z14h {a b:Int} (ha0:0≤a) (ha:a<9223372036854775808) (hb0:0≤b) (hb:b<9223372036854775808):0≤mulHi a b∧mulHi a b<4611686018427387904:=by
 have:=Zav ha0 (show a≤9223372036854775807 by omega) hb0 (show b≤9223372036854775807 by omega)
 unfold mulHi; omega
theorem Z1cz (a b:Int):imin a b=if a≤b then a else b:=by unfold imin; split <;> (try split) <;> omega
theorem Z19r {a b c:Int} (ha:I64 a) (hb:I64 b) (hc:I64 c) {post:Int × Unit→Prop} (h:post (part a b c,())):F12 a b c post:=by
 obtain ⟨a1,a2⟩:=ha
 obtain ⟨b1,b2⟩:=hb
 obtain ⟨c1,c2⟩:=hc
 unfold F12
 refine Br.intro (fun e=>?_) fun e=>Br.intro (fun f=>?_) fun f=>Br.intro (fun g=>?_) fun g=>?_
 all_goals simp only [decide_eq_true_eq,decide_eq_false_iff_not,Int.not_lt] at *
 ·rw [show part a b c=0 by unfold part; rw [if_pos e]] at h; exact h
 ·rw [show part a b c=0 by unfold part; rw [if_neg (by omega),if_pos f]] at h; exact h
 ·rw [show part a b c=0 by unfold part; rw [if_neg (by omega),if_neg (by omega),if_pos g]] at h; exact h
 ·have hp:part a b c=if a*b / c≤9223372036854775807 then a*b / c else 9223372036854775807:=by unfold part; rw [if_neg (by omega),if_neg (by omega),if_neg (by omega)]
  rw [w64 a e (by omega),w64 b f (by omega),w64 c (by omega) (by omega)]
  obtain ⟨m1,m2⟩:=Z14h e a2 f b2
  have hl:=Z19q a b
  have hhl:=Z19p a b
  refine ⟨⟨⟨e,by omega⟩,f,by omega⟩,Br.intro (fun d=>?_) fun d=>⟨⟨⟨m1,by omega⟩,hl,⟨by omega,by omega⟩,by simpa using d⟩,?_⟩⟩
  ·have d':c≤mulHi a b:=by simpa using d
   have:18446744073709551616≤a*b / c:=by
    rw [Int.le_ediv_iff_mul_le (by omega)]
    have:=hl.1
    omega
   rw [hp,if_neg (by omega)] at h; exact h
  ·have e2:divQ (mulHi a b) (mulLo a b) c=a*b / c:=by unfold divQ; rw [hhl]
   have n0:0≤a*b / c:=Int.ediv_nonneg (Int.mul_nonneg e f) (by omega)
   rw [e2,Z1cz]
   rw [hp] at h
   split at h
   ·rename_i q; rw [if_pos q,Z72 _ n0 (by omega)]; exact h
   ·rename_i q; rw [if_neg q,Z72 _ (by omega) (by omega)]; exact h
end Go.Lift

namespace Go.Lift
theorem Zaw {a b m n:Int} (h1:-m≤a) (h2:a≤m) (h3:-n≤b) (h4:b≤n):-(m*n)≤a*b∧a*b≤m*n:=by
 have e:(a*b).natAbs≤m.natAbs*n.natAbs:=by
  rw [Int.natAbs_mul]; exact Nat.mul_le_mul (by omega) (by omega)
 have hm:((m.natAbs*n.natAbs:Nat):Int)=m*n:=by
  rw [Int.natCast_mul,Int.natAbs_of_nonneg (by omega),Int.natAbs_of_nonneg (by omega)]
 omega
theorem Z19s {m:Int} {w:List Int} (h0:0≤m) (h:∀ x ∈ w,-m≤x∧x≤m):Bd m w:=by
 intro i
 rcases Nat.lt_or_ge i w.length with g | g
 ·exact h _ (Z5w g 0)
 ·rw [List.getD_eq_getElem?_getD,List.getElem?_eq_none g]; exact ⟨by show -m≤0; omega,h0⟩
theorem bd3 {m x y z:Int} (hx:-m≤x∧x≤m) (hy:-m≤y∧y≤m) (hz:-m≤z∧z≤m):Bd m [x,y,z]:=by
 refine Z19s (by omega) fun a ha=>?_
 simp only [List.mem_cons,List.not_mem_nil,or_false] at ha
 rcases ha with rfl | rfl | rfl
 ·exact hx
 ·exact hy
 ·exact hz
theorem Bd.mono {m m':Int} {w:List Int} (h:Bd m w) (hm:m≤m'):Bd m' w:=fun i=>by have:=h i; omega
theorem Z5y {m q k:Int} {w:List Int} (h:Bd m w) (k1:-q≤k) (k2:k≤q):Bd (q*m) (Zdq w k) :=
 bd3 (Zaw k1 k2 (h 0).1 (h 0).2) (Zaw k1 k2 (h 1).1 (h 1).2) (Zaw k1 k2 (h 2).1 (h 2).2)
theorem Zo8 {a b:Int} {w v:List Int} (h:Bd a w) (k:Bd b v):Bd (a+b) (Za3 w v):=by
 have h0:=h 0; have h1:=h 1; have h2:=h 2; have k0:=k 0; have k1:=k 1; have k2:=k 2
 exact bd3 (by omega) (by omega) (by omega)
theorem Z19t {a b:Int} {w v:List Int} (h:Bd a w) (k:Bd b v):-(3*(a*b))≤dotW w v∧dotW w v≤3*(a*b):=by
 have e0:=Zaw (h 0).1 (h 0).2 (k 0).1 (k 0).2
 have e1:=Zaw (h 1).1 (h 1).2 (k 1).1 (k 1).2
 have e2:=Zaw (h 2).1 (h 2).2 (k 2).1 (k 2).2
 unfold dotW
 omega
theorem Z4s {f:Int} (h0:0≤f) (h5:f≤5):f=0∨f=1∨f=2∨f=3∨f=4∨f=5:=by omega
theorem Z1p {o:Int} (h0:0≤o) (h4:o<4):o=0∨o=1∨o=2∨o=3:=by omega
theorem Z3x {f:Int} (h0:0≤f) (h5:f≤5) (i:Nat):Bd 1 (Z1s (Z15 f) i):=by
 refine Z19s (by decide) ?_
 have d:∀ x ∈ ([0,0,0]:List Int),-1≤x∧x≤1:=by decide
 rcases Z4s h0 h5 with rfl | rfl | rfl | rfl | rfl | rfl <;>
  (match i with
   | 0=>decide
   | 1=>decide
   | 2=>decide
   | i+3=>exact d)
theorem Zyx {f:Int} (h0:0≤f) (h5:f≤5):(Z15 f).length=3:=by
 rcases Z4s h0 h5 with rfl | rfl | rfl | rfl | rfl | rfl <;> decide
theorem Z1dx {f:Int} (h0:0≤f) (h5:f≤5) (s:Int):Bd 1 (outF (Z15 f) s):=by
 unfold outF
 split
 ·exact Z3x h0 h5 1
 ·split
  ·exact Z3x h0 h5 2
  ·split
   ·exact (Z5y (q:=1) (Z3x h0 h5 1) (by omega) (by omega)).mono (by decide)
   ·exact (Z5y (q:=1) (Z3x h0 h5 2) (by omega) (by omega)).mono (by decide)
theorem Z1d0 {f o:Int} (h0:0≤f) (h5:f≤5) (o0:0≤o) (o4:o<4):0≤Z3c (outF (Z15 f) o)∧Z3c (outF (Z15 f) o)≤5:=by
 rcases Z4s h0 h5 with rfl | rfl | rfl | rfl | rfl | rfl <;> rcases Z1p o0 o4 with rfl | rfl | rfl | rfl <;> decide
theorem Z19u {n f i j:Int} (h:Z25 n f i j):Bd 96 (Z6e n f i j):=by
 obtain ⟨n1,n2,f0,f5,i0,i1,j0,j1⟩:=h
 have a:=Z5y (q:=32) (Z3x f0 f5 0) (k:=n) (by omega) (by omega)
 have b:=Z5y (q:=32) (Z3x f0 f5 1) (k:=2*i+1 - n) (by omega) (by omega)
 have c:=Z5y (q:=32) (Z3x f0 f5 2) (k:=2*j+1 - n) (by omega) (by omega)
 exact (Zo8 (Zo8 a b) c).mono (by decide)
theorem Zyy {n a:Int} (h1:1≤n):0≤Z34 n a∧Z34 n a≤n - 1:=by
 unfold Z34 imin imax
 split <;> split <;> omega
theorem Zax {n c:Int} (h:Zw n c=true):Z25 n (c / (n*n)) (c % n) (c / n % n):=by
 obtain ⟨f1,f2,f3,f4,f5,f6⟩:=Za2 h
 obtain ⟨g1,g2,g3,g4,g5,g6⟩:=Zmd h
 exact ⟨f1,f2,g1,g2,g3,g4,g5,g6⟩
theorem Z12j {n c:Int} (h:Zw n c=true):Z3 n c=(c / (n*n),c % n,c / n % n,true,()):=by unfold Z3; rw [if_pos h]
theorem Z12k {n c:Int} (h:¬ Zw n c=true):Z3 n c=(0,0,0,false,()):=by unfold Z3; rw [if_neg h]
theorem Z19v {n c:Int} (h:Zw n c=true) {i:Int} (i0:0≤i) (i3:i≤3) (d:Nat × Nat × Nat):(Z12 n c).1.getD i.toNat d=Zcs n c i:=by
 have hs:Z12 n c=([Z1x n c 0 0,Z1x n c 1 0,Z1x n c 1 1,Z1x n c 0 1],true,()):=by
  unfold Z12; rw [if_pos h]; unfold Z1x; rw [Int.add_zero,Int.add_zero]
 rw [hs]
 have:i=0∨i=1∨i=2∨i=3:=by omega
 rcases this with rfl | rfl | rfl | rfl <;> rfl
theorem Z1d1 (n c i:Int):WV (Zcs n c i):=by
 unfold Zcs
 (repeat' split) <;> exact Zas _ _ _ _
theorem Zyz (n c:Int):WV (Zh3 n c):=Z15l _
theorem Zj8 {n f i j:Int} (h:Z3u n f i j=true):0≤Z1o n f i j∧Z1o n f i j<6*(n*n)∧1≤n∧n≤32:=by
 unfold Z3u at h
 simp only [Bool.and_eq_true,decide_eq_true_eq] at h
 obtain ⟨⟨⟨⟨⟨⟨hg,f0⟩,f6⟩,i0⟩,i1⟩,j0⟩,j1⟩:=h
 obtain ⟨n1,n2⟩:=Z2r.1 hg
 have hok:Z3u n f i j=true:=by
  unfold Z3u; rw [hg,decide_eq_true f0,decide_eq_true f6,decide_eq_true i0,decide_eq_true i1,decide_eq_true j0,decide_eq_true j1]; rfl
 unfold Z1o
 rw [if_pos hok]
 have a1:(f*n+j)*n=f*(n*n)+j*n:=by rw [Int.add_mul,Int.mul_assoc]
 have a2:f*(n*n)≤5*(n*n):=Int.mul_le_mul_of_nonneg_right (by omega) (Int.mul_nonneg (by omega) (by omega))
 have a3:j*n≤(n - 1)*n:=Int.mul_le_mul_of_nonneg_right (by omega) (by omega)
 have a4:0≤f*(n*n):=Int.mul_nonneg f0 (Int.mul_nonneg (by omega) (by omega))
 have a5:0≤j*n:=Int.mul_nonneg j0 (by omega)
 have a6:(n - 1)*n=n*n - n:=by rw [Int.sub_mul,Int.one_mul]
 omega
theorem Z12l (n f i j:Int):-1≤Z1o n f i j∧Z1o n f i j<6144:=by
 by_cases h:Z3u n f i j=true
 ·obtain ⟨a,b,c,d⟩:=Zj8 h
  have:=Zo5 c d
  omega
 ·unfold Z1o; rw [if_neg h]; omega
theorem Ztn (n c o:Int):-1≤(Z7 n c o).1∧(Z7 n c o).1<6144∧0≤(Z7 n c o).2∧(Z7 n c o).2≤3:=by
 have ht:Z14 n c o=true→0≤Int.tmod (o+2) 4∧Int.tmod (o+2) 4≤3:=by
  intro h
  unfold Z14 at h
  simp only [Bool.and_eq_true,decide_eq_true_eq] at h
  rw [Int.tmod_eq_emod_of_nonneg (by omega)]; omega
 have hb:∀ (g:List (List Int)) (w:List Int) (q:Int) (f k:Nat),k+f≤4→-1≤q→q<6144→-1≤(Za4 g w q f k).1∧(Za4 g w q f k).1<6144∧0≤(Za4 g w q f k).2∧(Za4 g w q f k).2≤3:=by
  intro g w q f
  induction f with
  | zero=>intro k _ h1 h2; exact ⟨by show (-1:Int)≤-1; omega,by show (-1:Int)<6144; omega,by show (0:Int)≤0; omega,by show (0:Int)≤3; omega⟩
  | succ f ih =>
   intro k hk h1 h2
   unfold Za4
   split
   ·exact ⟨h1,h2,by dsimp only; omega,by dsimp only; omega⟩
   ·exact ih (k+1) (by omega) h1 h2
 unfold Z7
 split
 ·rename_i h
  split
  ·have:=Z12l n (c / (n*n)) (c % n+dxI o) (c / n % n+dyI o)
   have:=ht h
   exact ⟨by dsimp only; omega,by dsimp only; omega,by dsimp only; omega,by dsimp only; omega⟩
  ·unfold Ztl
   have:=Z12l n (Z3c (outF (Z15 (c / (n*n))) o)) (Z34 n (dotW (Za3 (Z6e n (c / (n*n)) (c % n) (c / n % n)) (outF (Z15 (c / (n*n))) o)) (Z1s (Z15 (Z3c (outF (Z15 (c / (n*n))) o))) 1))) (Z34 n (dotW (Za3 (Z6e n (c / (n*n)) (c % n) (c / n % n)) (outF (Z15 (c / (n*n))) o)) (Z1s (Z15 (Z3c (outF (Z15 (c / (n*n))) o))) 2)))
   exact hb _ _ _ 4 0 (by omega) this.1 this.2
 ·exact ⟨by dsimp only; omega,by dsimp only; omega,by dsimp only; omega,by dsimp only; omega⟩
def EdOk (e:Ed):Prop:=0≤e.1∧e.1<6144∧0≤e.2.1∧e.2.1≤3∧0≤e.2.2.1∧e.2.2.1<6144∧0≤e.2.2.2∧e.2.2.2≤3
theorem Z1d2 {n c o:Int} {s:List Ed × Nm} (c0:0≤c) (c1:c<6144) (o0:0≤o) (o3:o≤3) (h:∀ e ∈ s.1,EdOk e):(∀ e ∈ (addE n c o s).1,EdOk e)∧(addE n c o s).1.length≤s.1.length+1:=by
 unfold addE
 split
 ·exact ⟨h,by omega⟩
 ·rename_i q
  have b:=Ztn n c o
  refine ⟨fun e he=>?_,by rw [List.length_append]; exact Nat.le_refl _⟩
  rcases List.mem_append.1 he with he | he
  ·exact h e he
  ·obtain rfl:=List.mem_singleton.1 he
   exact ⟨c0,c1,o0,o3,by dsimp only; omega,by dsimp only; omega,by dsimp only; omega,by dsimp only; omega⟩
theorem Zwc {n c:Int} {s:List Ed × Nm} (c0:0≤c) (c1:c<6144) (h:∀ e ∈ s.1,EdOk e):∀ k,k≤4→(∀ e ∈ (addN n c s k).1,EdOk e)∧(addN n c s k).1.length≤s.1.length+k
 | 0,_=>⟨h,Nat.le_refl _⟩
 | k+1,hk=>by
  obtain ⟨a,b⟩:=Zwc c0 c1 h k (by omega)
  obtain ⟨d,e⟩:=Z1d2 (n:=n) (o:=k) c0 c1 (by omega) (by omega) a
  exact ⟨d,by show (addE n c k (addN n c s k)).1.length≤_; omega⟩
theorem Zwd (n:Int):∀ k,k≤6144→(∀ e ∈ (netN n k).1,EdOk e)∧(netN n k).1.length≤4*k
 | 0,_=>⟨fun e he=>(by cases he),Nat.le_refl _⟩
 | k+1,hk=>by
  obtain ⟨a,b⟩:=Zwd n k (by omega)
  obtain ⟨d,e⟩:=Zwc (n:=n) (c:=k) (by omega) (by omega) a 4 (Nat.le_refl _)
  exact ⟨d,by show (addN n k (netN n k) 4).1.length≤_; omega⟩
theorem Z12m (x:Int):I64 (i64.wrap x):=by
 have h:i64.wrap x=if 9223372036854775808≤x % 18446744073709551616 then x % 18446744073709551616 - 18446744073709551616 else x % 18446744073709551616:=by
  simp [IntKind.wrap,IntKind.bits,IntKind.signed]
 rw [h]; unfold I64; split <;> omega
theorem Z1dy {o:Int} (o0:0≤o) (o4:o<4):List.getD ([[(1:Int),0],[0,1],[-1,0],[0,-1]].getD o.toNat [0,0]) 0 0=dxI o:=by
 rcases Z1p o0 o4 with rfl | rfl | rfl | rfl <;> rfl
theorem Z1dz {o:Int} (o0:0≤o) (o4:o<4):List.getD ([[(1:Int),0],[0,1],[-1,0],[0,-1]].getD o.toNat [0,0]) 1 0=dyI o:=by
 rcases Z1p o0 o4 with rfl | rfl | rfl | rfl <;> rfl
theorem dxy {o:Int}:-1≤dxI o∧dxI o≤1∧-1≤dyI o∧dyI o≤1:=by
 unfold dxI dyI; (repeat' split) <;> omega
end Go.Lift

namespace Go.Lift
abbrev Pt:=Int × Int × Int
def Z2k (a:Pt) (k:Int) (b:Pt):Pt:=(a.1+k*b.1,a.2.1+k*b.2.1,a.2.2+k*b.2.2)
def dotP (a b:Pt):Int:=a.1*b.1+a.2.1*b.2.1+a.2.2*b.2.2
def Zg (f:Int):Pt × Pt × Pt :=
 if f=0 then ((1,0,0),(0,1,0),(0,0,1)) else if f=1 then ((0,1,0),(-1,0,0),(0,0,1)) else if f=2 then ((-1,0,0),(0,-1,0),(0,0,1))
 else if f=3 then ((0,-1,0),(1,0,0),(0,0,1)) else if f=4 then ((0,0,1),(0,1,0),(-1,0,0)) else ((0,0,-1),(0,1,0),(1,0,0))
def midP (n f i j:Int):Pt:=Z2k (Z2k (Z2k (0,0,0) n (Zg f).1) (2*i+1 - n) (Zg f).2.1) (2*j+1 - n) (Zg f).2.2
def dirP (f o:Int):Pt:=if o=0 then (Zg f).2.1 else if o=1 then (Zg f).2.2 else if o=2 then Z2k (0,0,0) (-1) (Zg f).2.1 else Z2k (0,0,0) (-1) (Zg f).2.2
def Z1d3:List (List (Int × Int × Bool)) :=
 [[(1,2,false),(4,3,false),(3,0,false),(5,1,false)],[(2,2,false),(4,0,false),(0,0,false),(5,0,true)],[(3,2,false),(4,1,true),(1,0,false),(5,3,true)],
  [(0,2,false),(4,2,true),(2,0,false),(5,2,false)],[(1,1,false),(2,1,true),(3,1,true),(0,1,false)],[(1,3,true),(0,3,false),(3,3,false),(2,3,true)]]
def Zu (f o:Int):Int × Int × Bool:=(Z1d3.getD f.toNat []).getD o.toNat (0,0,false)
def atO (n o k:Int):Int × Int:=if o=0 then (n - 1,k) else if o=1 then (k,n - 1) else if o=2 then (0,k) else (k,0)
def Z2b (o i j:Int):Int:=if o=0 then j else if o=1 then i else if o=2 then j else i
def rim (n i j o:Int):Prop:=if o=0 then i=n - 1 else if o=1 then j=n - 1 else if o=2 then i=0 else j=0
instance (n i j o:Int):Decidable (rim n i j o):=by unfold rim; infer_instance
def Z42 (n:Int) (b:Bool) (k:Int):Int:=if b then n - 1 - k else k
def nb (n f i j o:Int):(Int × Int × Int) × Int :=
 if rim n i j o then (((Zu f o).1,atO n (Zu f o).2.1 (Z42 n (Zu f o).2.2 (Z2b o i j))),(Zu f o).2.1)
 else ((f,i+dxI o,j+dyI o),(o+2) % 4)
def Z1ec (n:Int) (p:Int × Int × Int):Int:=Z1o n p.1 p.2.1 p.2.2
def nbC (n f i j o:Int):Int × Int:=(Z1ec n (nb n f i j o).1,(nb n f i j o).2)
theorem Zj9 {n f i j:Int} (hm:Z25 n f i j):Z3u n f i j=true:=by
 obtain ⟨n1,n2,f0,f5,i0,i1,j0,j1⟩:=hm
 unfold Z3u
 rw [show Z1z n=true from Z2r.2 ⟨n1,n2⟩,decide_eq_true (p:=0≤f) f0,decide_eq_true (p:=f<6) (by omega),decide_eq_true i0,decide_eq_true i1,decide_eq_true j0,decide_eq_true j1]; rfl
theorem Z179 {n f i j:Int} (h:Z3u n f i j=true):Z25 n f i j:=by
 unfold Z3u at h
 simp only [Bool.and_eq_true,decide_eq_true_eq] at h
 obtain ⟨⟨⟨⟨⟨⟨hg,f0⟩,f6⟩,i0⟩,i1⟩,j0⟩,j1⟩:=h
 obtain ⟨n1,n2⟩:=Z2r.1 hg
 exact ⟨n1,n2,f0,by omega,i0,i1,j0,j1⟩
theorem Z12n {n f i j:Int} (hm:Z25 n f i j):Z1o n f i j=(f*n+j)*n+i:=by unfold Z1o; rw [if_pos (Zj9 hm)]
theorem Z1bg {n f i j:Int} (h:¬ Z25 n f i j):Z1o n f i j=-1:=by unfold Z1o; rw [if_neg fun e=>h (Z179 e)]
theorem Zja {n f i j:Int} (hm:Z25 n f i j):Z1o n f i j / (n*n)=f∧Z1o n f i j % n=i∧Z1o n f i j / n % n=j:=by
 rw [Z12n hm]
 obtain ⟨n1,n2,f0,f5,i0,i1,j0,j1⟩:=hm
 have e1:((f*n+j)*n+i) % n=i:=by rw [Int.add_comm,Int.add_mul_emod_self_right]; exact Int.emod_eq_of_lt i0 i1
 have e2:((f*n+j)*n+i) / n=f*n+j:=by rw [Int.add_comm,Int.add_mul_ediv_right _ _ (by omega),Int.ediv_eq_zero_of_lt i0 i1]; omega
 have e3:(f*n+j) % n=j:=by rw [Int.add_comm,Int.add_mul_emod_self_right]; exact Int.emod_eq_of_lt j0 j1
 have e4:(f*n+j) / n=f:=by rw [Int.add_comm,Int.add_mul_ediv_right _ _ (by omega),Int.ediv_eq_zero_of_lt j0 j1]; omega
 refine ⟨?_,e1,by rw [e2,e3]⟩
 rw [← Int.ediv_ediv_of_nonneg (by omega:(0:Int)≤n),e2,e4]
theorem Z1bh {n f i j f' i' j':Int} (hm:Z25 n f i j) (hm':Z25 n f' i' j') (h:Z1o n f i j=Z1o n f' i' j'):f=f'∧i=i'∧j=j':=by
 obtain ⟨a,b,c⟩:=Zja hm
 obtain ⟨a',b',c'⟩:=Zja hm'
 rw [h] at a b c
 exact ⟨by omega,by omega,by omega⟩
theorem Z17a {n c:Int} (h:Zw n c=true):Z1o n (c / (n*n)) (c % n) (c / n % n)=c:=by
 have hm:=Zax h
 rw [Z12n hm]
 obtain ⟨n1,n2,f0,f5,i0,i1,j0,j1⟩:=hm
 have e:c / (n*n)=c / n / n:=(Int.ediv_ediv_of_nonneg (by omega:(0:Int)≤n)).symm
 rw [e]
 have a:=Int.mul_ediv_add_emod c n
 have b:=Int.mul_ediv_add_emod (c / n) n
 have b':c / n / n*n+c / n % n=c / n:=by rw [Int.mul_comm]; exact b
 have a':c / n*n+c % n=c:=by rw [Int.mul_comm]; exact a
 rw [b',a']
theorem Z17b {n f i j:Int} (hm:Z25 n f i j):Zw n (Z1o n f i j)=true:=by
 obtain ⟨r0,r1,n1,n2⟩:=Zj8 (Zj9 hm)
 unfold Zw
 simp only [Bool.and_eq_true,decide_eq_true_eq]
 have:Zh n=6*(n*n):=by unfold Zh; rw [if_pos (Z2r.2 ⟨n1,n2⟩)]; rw [Int.mul_assoc]
 omega
def aS (a s:Int):Int:=if s=3 then a else if s=2 then a+1 else if s=1 then a else a - 1
theorem Z9a (e b c:Pt) (k:Int):dotP (Z2k e k b) c=dotP e c+k*dotP b c:=by
 unfold dotP Z2k
 simp only [Int.add_mul,Int.mul_add,Int.mul_assoc]
 omega
section
variable {n c f:Int} {e:Pt} {a b q p:Int} (hm:Z25 n f q p) (hc:dotP e (Zg f).1=n) (ha:dotP e (Zg f).2.1=a) (hb:dotP e (Zg f).2.2=b)
include hm hc ha hb
end
def alP (f o:Int):Pt:=if o=0 then (Zg f).2.2 else if o=1 then (Zg f).2.1 else if o=2 then (Zg f).2.2 else (Zg f).2.1
def crP (t s:Int):Pt:=if s=0 then (Zg t).2.1 else if s=1 then (Zg t).2.2 else if s=2 then (Zg t).2.1 else (Zg t).2.2
def sg (s:Int):Int:=if s=0 then 1 else if s=1 then 1 else -1
def fsg (b:Bool):Int:=if b then -1 else 1
theorem Zz0 {f o:Int} (f0:0≤f) (f5:f≤5) (o0:0≤o) (o4:o<4) :
  0≤(Zu f o).1∧(Zu f o).1≤5∧(Zu f o).1≠f∧0≤(Zu f o).2.1∧(Zu f o).2.1<4 ∧
  (dotP (Zg f).1 (Zg (Zu f o).1).1=0∧dotP (dirP f o) (Zg (Zu f o).1).1=1∧dotP (alP f o) (Zg (Zu f o).1).1=0) ∧
  (dotP (Zg f).1 (crP (Zu f o).1 (Zu f o).2.1)=sg (Zu f o).2.1∧dotP (dirP f o) (crP (Zu f o).1 (Zu f o).2.1)=0∧dotP (alP f o) (crP (Zu f o).1 (Zu f o).2.1)=0) ∧
  (dotP (Zg f).1 (alP (Zu f o).1 (Zu f o).2.1)=0∧dotP (dirP f o) (alP (Zu f o).1 (Zu f o).2.1)=0∧dotP (alP f o) (alP (Zu f o).1 (Zu f o).2.1)=fsg (Zu f o).2.2):=by
 rcases Z4s f0 f5 with rfl | rfl | rfl | rfl | rfl | rfl <;> rcases Z1p o0 o4 with rfl | rfl | rfl | rfl <;> decide
theorem Zqi (v:Pt):dotP (0,0,0) v=0:=by unfold dotP; simp
theorem Z15o (f o:Int) (v:Pt) (o0:0≤o) (o4:o<4):dotP (dirP f o) v=dxI o*dotP (Zg f).2.1 v+dyI o*dotP (Zg f).2.2 v:=by
 rcases Z1p o0 o4 with rfl | rfl | rfl | rfl
 ·show dotP (Zg f).2.1 v=1*_+0*_; omega
 ·show dotP (Zg f).2.2 v=0*_+1*_; omega
 ·show dotP (Z2k (0,0,0) (-1) (Zg f).2.1) v=(-1)*_+0*_; rw [Z9a,Zqi]; omega
 ·show dotP (Z2k (0,0,0) (-1) (Zg f).2.2) v=0*_+(-1)*_; rw [Z9a,Zqi]; omega
theorem Z14i (n f i j o:Int) (v:Pt) (o0:0≤o) (o4:o<4):dotP (Z2k (midP n f i j) 1 (dirP f o)) v=n*dotP (Zg f).1 v+(2*i+1 - n+dxI o)*dotP (Zg f).2.1 v+(2*j+1 - n+dyI o)*dotP (Zg f).2.2 v:=by
 rw [Z9a,Z15o f o v o0 o4]
 unfold midP
 rw [Z9a,Z9a,Z9a,Zqi]
 have a:=Int.add_mul (2*i+1 - n) (dxI o) (dotP (Zg f).2.1 v)
 have b:=Int.add_mul (2*j+1 - n) (dyI o) (dotP (Zg f).2.2 v)
 rw [a,b]
 omega
theorem Z1d4 (n f i j o:Int) (v:Pt) (o0:0≤o) (o4:o<4) (hr:rim n i j o):dotP (Z2k (midP n f i j) 1 (dirP f o)) v=n*dotP (Zg f).1 v+n*dotP (dirP f o) v+(2*Z2b o i j+1 - n)*dotP (alP f o) v:=by
 rw [Z14i n f i j o v o0 o4,Z15o f o v o0 o4]
 rcases Z1p o0 o4 with rfl | rfl | rfl | rfl
 ·have hr:i=n - 1:=hr
  subst hr
  show n*_+(2*(n - 1)+1 - n+1)*dotP (Zg f).2.1 v+(2*j+1 - n+0)*dotP (Zg f).2.2 v=n*_+n*(1*_+0*_)+(2*j+1 - n)*dotP (Zg f).2.2 v
  rw [show 2*(n - 1)+1 - n+1=n by omega,show (1:Int)*dotP (Zg f).2.1 v+0*dotP (Zg f).2.2 v=dotP (Zg f).2.1 v by omega,show 2*j+1 - n+0=2*j+1 - n by omega]
 ·have hr:j=n - 1:=hr
  subst hr
  show n*_+(2*i+1 - n+0)*dotP (Zg f).2.1 v+(2*(n - 1)+1 - n+1)*dotP (Zg f).2.2 v=n*_+n*(0*_+1*_)+(2*i+1 - n)*dotP (Zg f).2.1 v
  rw [show 2*(n - 1)+1 - n+1=n by omega,show (0:Int)*dotP (Zg f).2.1 v+1*dotP (Zg f).2.2 v=dotP (Zg f).2.2 v by omega,show 2*i+1 - n+0=2*i+1 - n by omega]
  omega
 ·have hr:i=0:=hr
  subst hr
  show n*_+(2*0+1 - n+-1)*dotP (Zg f).2.1 v+(2*j+1 - n+0)*dotP (Zg f).2.2 v=n*_+n*(-1*_+0*_)+(2*j+1 - n)*dotP (Zg f).2.2 v
  rw [show 2*0+1 - n+-1=-n by omega,show (-1:Int)*dotP (Zg f).2.1 v+0*dotP (Zg f).2.2 v=-dotP (Zg f).2.1 v by omega,show 2*j+1 - n+0=2*j+1 - n by omega,Int.neg_mul,Int.mul_neg]
 ·have hr:j=0:=hr
  subst hr
  show n*_+(2*i+1 - n+0)*dotP (Zg f).2.1 v+(2*0+1 - n+-1)*dotP (Zg f).2.2 v=n*_+n*(0*_+-1*_)+(2*i+1 - n)*dotP (Zg f).2.1 v
  rw [show 2*0+1 - n+-1=-n by omega,show (0:Int)*dotP (Zg f).2.1 v+-1*dotP (Zg f).2.2 v=-dotP (Zg f).2.2 v by omega,show 2*i+1 - n+0=2*i+1 - n by omega,Int.neg_mul,Int.mul_neg]
  omega
theorem lin3 {n a b x y z r:Int} {p q s:Int} (h:r=n*x+a*y+b*z) (hx:x=p) (hy:y=q) (hz:z=s):r=n*p+a*q+b*s:=by rw [h,hx,hy,hz]
theorem Z17c {n s i j:Int} (s0:0≤s) (s4:s<4) (i0:0≤i) (i1:i<n) (j0:0≤j) (j1:j<n):0≤Z2b s i j∧Z2b s i j<n:=by
 rcases Z1p s0 s4 with rfl | rfl | rfl | rfl
 ·exact ⟨j0,j1⟩
 ·exact ⟨i0,i1⟩
 ·exact ⟨j0,j1⟩
 ·exact ⟨i0,i1⟩
end Go.Lift

namespace Go.Lift
theorem Zjb {n p x:Int} (h:x=2*p+1 - n) (h0:0≤p) (h1:p<n):Z34 n x=p:=by
 have e:Int.tdiv (x+n - 1) 2=p:=by rw [show x+n - 1=2*p by omega,Int.mul_tdiv_cancel_left _ (by decide)]
 unfold Z34 imin imax
 rw [e]
 (repeat' split) <;> omega
theorem Z12o {n x:Int} (h:x=n) (h1:1≤n):Z34 n x=n - 1:=by
 have e:Int.tdiv (x+n - 1) 2=n - 1:=by rw [Int.tdiv_eq_ediv_of_nonneg (by omega)]; omega
 unfold Z34 imin imax
 rw [e]
 (repeat' split) <;> omega
theorem Z12p {n x:Int} (h:x=-n) (h1:1≤n):Z34 n x=0:=by
 have e:Int.tdiv (x+n - 1) 2=0:=by rw [show x+n - 1=-1 by omega]; rfl
 unfold Z34 imin imax
 rw [e]
 (repeat' split) <;> omega
theorem Z19w {n f i j o:Int} (hm:Z25 n f i j) (o0:0≤o) (o4:o<4) (hr:rim n i j o) :
  0≤Z42 n (Zu f o).2.2 (Z2b o i j)∧Z42 n (Zu f o).2.2 (Z2b o i j)<n ∧
  dotP (Z2k (midP n f i j) 1 (dirP f o)) (crP (Zu f o).1 (Zu f o).2.1)=n*sg (Zu f o).2.1∧dotP (Z2k (midP n f i j) 1 (dirP f o)) (alP (Zu f o).1 (Zu f o).2.1)=2*Z42 n (Zu f o).2.2 (Z2b o i j)+1 - n:=by
 obtain ⟨n1,n2,f0,f5,i0,i1,j0,j1⟩:=hm
 have hR:=fun v=>Z1d4 n f i j o v o0 o4 hr
 obtain ⟨a1,a2,a3,a4,a5,⟨b1,b2,b3⟩,⟨d1,d2,d3⟩,e1,e2,e3⟩:=Zz0 f0 f5 o0 o4
 obtain ⟨k0,k1⟩:=Z17c (n:=n) o0 o4 i0 i1 j0 j1
 generalize Zu f o=E at *
 obtain ⟨t,s,fl⟩:=E
 dsimp only at *
 have h2:=lin3 (hR _) d1 d2 d3
 have h3:=lin3 (hR _) e1 e2 e3
 cases fl
 ·have h3:dotP (Z2k (midP n f i j) 1 (dirP f o)) (alP t s)=n*0+n*0+(2*Z2b o i j+1 - n)*1:=h3
  exact ⟨k0,k1,by omega,by show _=2*Z2b o i j+1 - n; omega⟩
 ·have h3:dotP (Z2k (midP n f i j) 1 (dirP f o)) (alP t s)=n*0+n*0+(2*Z2b o i j+1 - n)*-1:=h3
  exact ⟨by show 0≤n - 1 - _; omega,by show n - 1 - _<n; omega,by omega,by show _=2*(n - 1 - Z2b o i j)+1 - n; omega⟩
def toL (p:Pt):List Int:=[p.1,p.2.1,p.2.2]
theorem Z15p (a b:Pt):dotW (toL a) (toL b)=dotP a b:=rfl
theorem Z1bi (a b:Pt):Za3 (toL a) (toL b)=toL (Z2k a 1 b):=by
 show [a.1+b.1,a.2.1+b.2.1,a.2.2+b.2.2]=[a.1+1*b.1,a.2.1+1*b.2.1,a.2.2+1*b.2.2]
 rw [Int.one_mul,Int.one_mul,Int.one_mul]
theorem Z15q {f:Int} (f0:0≤f) (f5:f≤5):Z1s (Z15 f) 0=toL (Zg f).1∧Z1s (Z15 f) 1=toL (Zg f).2.1∧Z1s (Z15 f) 2=toL (Zg f).2.2:=by
 rcases Z4s f0 f5 with rfl | rfl | rfl | rfl | rfl | rfl <;> exact ⟨rfl,rfl,rfl⟩
theorem Z1d5 {n f i j:Int} (f0:0≤f) (f5:f≤5):Z6e n f i j=toL (midP n f i j):=by
 obtain ⟨a,b,c⟩:=Z15q f0 f5
 unfold Z6e
 rw [a,b,c]
 show [n*(Zg f).1.1+(2*i+1 - n)*(Zg f).2.1.1+(2*j+1 - n)*(Zg f).2.2.1,n*(Zg f).1.2.1+(2*i+1 - n)*(Zg f).2.1.2.1+(2*j+1 - n)*(Zg f).2.2.2.1,n*(Zg f).1.2.2+(2*i+1 - n)*(Zg f).2.1.2.2+(2*j+1 - n)*(Zg f).2.2.2.2] =
  [0+n*(Zg f).1.1+(2*i+1 - n)*(Zg f).2.1.1+(2*j+1 - n)*(Zg f).2.2.1,0+n*(Zg f).1.2.1+(2*i+1 - n)*(Zg f).2.1.2.1+(2*j+1 - n)*(Zg f).2.2.2.1,0+n*(Zg f).1.2.2+(2*i+1 - n)*(Zg f).2.1.2.2+(2*j+1 - n)*(Zg f).2.2.2.2]
 rw [Int.zero_add,Int.zero_add,Int.zero_add]
theorem Z1d6 {f o:Int} (f0:0≤f) (f5:f≤5) (o0:0≤o) (o4:o<4):outF (Z15 f) o=toL (dirP f o)∧Z3c (toL (dirP f o))=(Zu f o).1∧∀ z,Z1c6 (Z15 (Zu f o).1) (Z1s (Z15 f) 0) z=(z,(Zu f o).2.1):=by
 rcases Z4s f0 f5 with rfl | rfl | rfl | rfl | rfl | rfl <;> rcases Z1p o0 o4 with rfl | rfl | rfl | rfl <;> exact ⟨rfl,rfl,fun z=>rfl⟩
theorem Z1d7 {n f i j o:Int} (hm:Z25 n f i j) (o0:0≤o) (o4:o<4) (hr:rim n i j o):Ztl n f i j o=nbC n f i j o:=by
 obtain ⟨k0,k1,hc,ha⟩:=Z19w hm o0 o4 hr
 obtain ⟨n1,n2,f0,f5,i0,i1,j0,j1⟩:=hm
 obtain ⟨b1,b2,b3⟩:=Z1d6 f0 f5 o0 o4
 obtain ⟨a1,a2,a3,a4,a5,_⟩:=Zz0 f0 f5 o0 o4
 obtain ⟨_,t2,t3⟩:=Z15q a1 a2
 have hn:nbC n f i j o=(Z1o n (Zu f o).1 (atO n (Zu f o).2.1 (Z42 n (Zu f o).2.2 (Z2b o i j))).1 (atO n (Zu f o).2.1 (Z42 n (Zu f o).2.2 (Z2b o i j))).2,(Zu f o).2.1):=by unfold nbC nb; rw [if_pos hr]; rfl
 rw [hn]
 unfold Ztl
 rw [b1,b2,b3,t2,t3,Z1d5 f0 f5,Z1bi,Z15p,Z15p]
 generalize Zu f o=E at *
 obtain ⟨t,s,fl⟩:=E
 dsimp only at *
 generalize Z42 n fl (Z2b o i j)=k at *
 rcases Z1p a4 a5 with rfl | rfl | rfl | rfl
 ·have hc:dotP (Z2k (midP n f i j) 1 (dirP f o)) (Zg t).2.1=n*1:=hc
  have ha:dotP (Z2k (midP n f i j) 1 (dirP f o)) (Zg t).2.2=_:=ha
  rw [Z12o (by omega) n1,Zjb ha k0 k1]; rfl
 ·have hc:dotP (Z2k (midP n f i j) 1 (dirP f o)) (Zg t).2.2=n*1:=hc
  have ha:dotP (Z2k (midP n f i j) 1 (dirP f o)) (Zg t).2.1=_:=ha
  rw [Zjb ha k0 k1,Z12o (by omega) n1]; rfl
 ·have hc:dotP (Z2k (midP n f i j) 1 (dirP f o)) (Zg t).2.1=n*-1:=hc
  have ha:dotP (Z2k (midP n f i j) 1 (dirP f o)) (Zg t).2.2=_:=ha
  rw [Z12p (by omega) n1,Zjb ha k0 k1]; rfl
 ·have hc:dotP (Z2k (midP n f i j) 1 (dirP f o)) (Zg t).2.2=n*-1:=hc
  have ha:dotP (Z2k (midP n f i j) 1 (dirP f o)) (Zg t).2.1=_:=ha
  rw [Zjb ha k0 k1,Z12p (by omega) n1]; rfl
theorem Zz1 {n c o:Int} (h:Z14 n c o=true):Z7 n c o=nbC n (c / (n*n)) (c % n) (c / n % n) o:=by
 have h':=h
 unfold Z14 at h'
 simp only [Bool.and_eq_true,decide_eq_true_eq] at h'
 obtain ⟨⟨hp,o0⟩,o4⟩:=h'
 have hm:=Zax hp
 unfold Z7
 rw [if_pos h]
 generalize c / (n*n)=f at *
 generalize c % n=i at *
 generalize c / n % n=j at *
 by_cases hr:rim n i j o
 ·have bad:¬ Z25 n f (i+dxI o) (j+dyI o):=by
   intro w
   obtain ⟨_,_,_,_,a,b,d,e⟩:=w
   rcases Z1p o0 o4 with rfl | rfl | rfl | rfl
   ·have hr:i=n - 1:=hr
    have b:i+1<n:=b
    omega
   ·have hr:j=n - 1:=hr
    have b:j+1<n:=e
    omega
   ·have hr:i=0:=hr
    have b:0≤i+-1:=a
    omega
   ·have hr:j=0:=hr
    have b:0≤j+-1:=d
    omega
  rw [Z1bg bad,if_neg (by decide)]
  exact Z1d7 hm o0 o4 hr
 ·have good:Z25 n f (i+dxI o) (j+dyI o):=by
   obtain ⟨n1,n2,f0,f5,i0,i1,j0,j1⟩:=hm
   rcases Z1p o0 o4 with rfl | rfl | rfl | rfl
   ·have hr:¬ i=n - 1:=hr
    exact ⟨n1,n2,f0,f5,by show 0≤i+1; omega,by show i+1<n; omega,by show 0≤j+0; omega,by show j+0<n; omega⟩
   ·have hr:¬ j=n - 1:=hr
    exact ⟨n1,n2,f0,f5,by show 0≤i+0; omega,by show i+0<n; omega,by show 0≤j+1; omega,by show j+1<n; omega⟩
   ·have hr:¬ i=0:=hr
    exact ⟨n1,n2,f0,f5,by show 0≤i+-1; omega,by show i+-1<n; omega,by show 0≤j+0; omega,by show j+0<n; omega⟩
   ·have hr:¬ j=0:=hr
    exact ⟨n1,n2,f0,f5,by show 0≤i+0; omega,by show i+0<n; omega,by show 0≤j+-1; omega,by show j+-1<n; omega⟩
  rw [if_pos (Zj8 (Zj9 good)).1]
  unfold nbC nb
  rw [if_neg hr]
  show _=(Z1o n f (i+dxI o) (j+dyI o),(o+2) % 4)
  rw [Int.tmod_eq_emod_of_nonneg (by omega)]
theorem Z19x {f o:Int} (f0:0≤f) (f5:f≤5) (o0:0≤o) (o4:o<4):0≤(Zu f o).1∧(Zu f o).1≤5∧(Zu f o).1≠f∧0≤(Zu f o).2.1∧(Zu f o).2.1<4∧Zu (Zu f o).1 (Zu f o).2.1=(f,o,(Zu f o).2.2):=by
 rcases Z4s f0 f5 with rfl | rfl | rfl | rfl | rfl | rfl <;> rcases Z1p o0 o4 with rfl | rfl | rfl | rfl <;> decide
theorem Z1bj {n s k:Int} (s0:0≤s) (s4:s<4) (k0:0≤k) (k1:k<n):0≤(atO n s k).1∧(atO n s k).1<n∧0≤(atO n s k).2∧(atO n s k).2<n∧rim n (atO n s k).1 (atO n s k).2 s∧Z2b s (atO n s k).1 (atO n s k).2=k:=by
 rcases Z1p s0 s4 with rfl | rfl | rfl | rfl
 ·exact ⟨by show 0≤n - 1; omega,by show n - 1<n; omega,k0,k1,show n - 1=n - 1 from rfl,rfl⟩
 ·exact ⟨k0,k1,by show 0≤n - 1; omega,by show n - 1<n; omega,show n - 1=n - 1 from rfl,rfl⟩
 ·exact ⟨Int.le_refl 0,by show 0<n; omega,k0,k1,show (0:Int)=0 from rfl,rfl⟩
 ·exact ⟨k0,k1,Int.le_refl 0,by show 0<n; omega,show (0:Int)=0 from rfl,rfl⟩
theorem Z1bk {n s i j:Int} (s0:0≤s) (s4:s<4) (h:rim n i j s):atO n s (Z2b s i j)=(i,j):=by
 rcases Z1p s0 s4 with rfl | rfl | rfl | rfl
 ·have h:i=n - 1:=h
  rw [h]; rfl
 ·have h:j=n - 1:=h
  rw [h]; rfl
 ·have h:i=0:=h
  rw [h]; rfl
 ·have h:j=0:=h
  rw [h]; rfl
theorem Z19y {n s i j:Int} (s0:0≤s) (s4:s<4) (i0:0≤i) (i1:i<n) (j0:0≤j) (j1:j<n):0≤Z2b s i j∧Z2b s i j<n:=by
 rcases Z1p s0 s4 with rfl | rfl | rfl | rfl
 ·exact ⟨j0,j1⟩
 ·exact ⟨i0,i1⟩
 ·exact ⟨j0,j1⟩
 ·exact ⟨i0,i1⟩
theorem Z1bl {n k:Int} {b:Bool} (k0:0≤k) (k1:k<n):0≤Z42 n b k∧Z42 n b k<n∧Z42 n b (Z42 n b k)=k:=by
 cases b
 ·exact ⟨k0,k1,rfl⟩
 ·exact ⟨by show 0≤n - 1 - k; omega,by show n - 1 - k<n; omega,by show n - 1 - (n - 1 - k)=k; omega⟩
theorem Z1bm {n f i j o:Int} (hm:Z25 n f i j) (o0:0≤o) (o4:o<4):Z25 n (nb n f i j o).1.1 (nb n f i j o).1.2.1 (nb n f i j o).1.2.2∧(nb n f i j o).1≠(f,i,j)∧0≤(nb n f i j o).2∧(nb n f i j o).2<4 ∧
  nb n (nb n f i j o).1.1 (nb n f i j o).1.2.1 (nb n f i j o).1.2.2 (nb n f i j o).2=((f,i,j),o):=by
 obtain ⟨n1,n2,f0,f5,i0,i1,j0,j1⟩:=hm
 by_cases hr:rim n i j o
 ·obtain ⟨a1,a2,a3,a4,a5,a6⟩:=Z19x f0 f5 o0 o4
  obtain ⟨k0,k1⟩:=Z19y (n:=n) o0 o4 i0 i1 j0 j1
  obtain ⟨g0,g1,g2⟩:=Z1bl (b:=(Zu f o).2.2) k0 k1
  obtain ⟨b1,b2,b3,b4,b5,b6⟩:=Z1bj a4 a5 g0 g1
  have hn:nb n f i j o=(((Zu f o).1,atO n (Zu f o).2.1 (Z42 n (Zu f o).2.2 (Z2b o i j))),(Zu f o).2.1):=by unfold nb; rw [if_pos hr]
  rw [hn]
  refine ⟨⟨n1,n2,a1,a2,b1,b2,b3,b4⟩,fun q=>a3 (congrArg Prod.fst q),a4,a5,?_⟩
  show nb n (Zu f o).1 (atO n (Zu f o).2.1 (Z42 n (Zu f o).2.2 (Z2b o i j))).1 (atO n (Zu f o).2.1 (Z42 n (Zu f o).2.2 (Z2b o i j))).2 (Zu f o).2.1=_
  unfold nb
  rw [if_pos b5,a6,b6]
  show ((f,atO n o (Z42 n (Zu f o).2.2 (Z42 n (Zu f o).2.2 (Z2b o i j)))),o)=_
  rw [g2,Z1bk o0 o4 hr]
 ·have hn:nb n f i j o=((f,i+dxI o,j+dyI o),(o+2) % 4):=by unfold nb; rw [if_neg hr]
  rw [hn]
  rcases Z1p o0 o4 with rfl | rfl | rfl | rfl
  ·have hr:¬ i=n - 1:=hr
   refine ⟨⟨n1,n2,f0,f5,by show 0≤i+1; omega,by show i+1<n; omega,by show 0≤j+0; omega,by show j+0<n; omega⟩,fun q=>?_,by show (0:Int)≤_ % 4; omega,by show _ % 4<(4:Int); omega,?_⟩
   ·have:i+1=i:=congrArg (fun z=>z.2.1) q
    omega
   ·show nb n f (i+1) (j+0) 2=_
    unfold nb; rw [if_neg (show ¬ rim n (i+1) (j+0) 2 from fun q=>by have q:i+1=0:=q; omega)]
    show ((f,i+1+-1,j+0+0),(0:Int))=_
    rw [show i+1+-1=i by omega,show j+0+0=j by omega]
  ·have hr:¬ j=n - 1:=hr
   refine ⟨⟨n1,n2,f0,f5,by show 0≤i+0; omega,by show i+0<n; omega,by show 0≤j+1; omega,by show j+1<n; omega⟩,fun q=>?_,by show (0:Int)≤_ % 4; omega,by show _ % 4<(4:Int); omega,?_⟩
   ·have:j+1=j:=congrArg (fun z=>z.2.2) q
    omega
   ·show nb n f (i+0) (j+1) 3=_
    unfold nb; rw [if_neg (show ¬ rim n (i+0) (j+1) 3 from fun q=>by have q:j+1=0:=q; omega)]
    show ((f,i+0+0,j+1+-1),(1:Int))=_
    rw [show i+0+0=i by omega,show j+1+-1=j by omega]
  ·have hr:¬ i=0:=hr
   refine ⟨⟨n1,n2,f0,f5,by show 0≤i+-1; omega,by show i+-1<n; omega,by show 0≤j+0; omega,by show j+0<n; omega⟩,fun q=>?_,by show (0:Int)≤_ % 4; omega,by show _ % 4<(4:Int); omega,?_⟩
   ·have:i+-1=i:=congrArg (fun z=>z.2.1) q
    omega
   ·show nb n f (i+-1) (j+0) 0=_
    unfold nb; rw [if_neg (show ¬ rim n (i+-1) (j+0) 0 from fun q=>by have q:i+-1=n - 1:=q; omega)]
    show ((f,i+-1+1,j+0+0),(2:Int))=_
    rw [show i+-1+1=i by omega,show j+0+0=j by omega]
  ·have hr:¬ j=0:=hr
   refine ⟨⟨n1,n2,f0,f5,by show 0≤i+0; omega,by show i+0<n; omega,by show 0≤j+-1; omega,by show j+-1<n; omega⟩,fun q=>?_,by show (0:Int)≤_ % 4; omega,by show _ % 4<(4:Int); omega,?_⟩
   ·have:j+-1=j:=congrArg (fun z=>z.2.2) q
    omega
   ·show nb n f (i+0) (j+-1) 1=_
    unfold nb; rw [if_neg (show ¬ rim n (i+0) (j+-1) 1 from fun q=>by have q:j+-1=n - 1:=q; omega)]
    show ((f,i+0+0,j+-1+1),(3:Int))=_
    rw [show i+0+0=i by omega,show j+-1+1=j by omega]
theorem Z1q {n c o:Int}:Z14 n c o=true↔Zw n c=true∧0≤o∧o<4:=by
 unfold Z14; simp [Bool.and_eq_true,and_assoc]
theorem Z57 {n c o:Int} (h:Z14 n c o=true):Zw n (Z7 n c o).1=true∧(Z7 n c o).1≠c∧0≤(Z7 n c o).2∧(Z7 n c o).2<4∧Z7 n (Z7 n c o).1 (Z7 n c o).2=(c,o):=by
 obtain ⟨hp,o0,o4⟩:=Z1q.1 h
 have hm:=Zax hp
 obtain ⟨a,b,d,e,g⟩:=Z1bm hm o0 o4
 have hc:=Z17a hp
 rw [Zz1 h]
 generalize c / (n*n)=f at *
 generalize c % n=i at *
 generalize c / n % n=j at *
 unfold nbC
 obtain ⟨x,hx⟩:∃ x,nb n f i j o=x:=⟨_,rfl⟩
 rw [hx] at a b d e g ⊢
 obtain ⟨⟨t,p,q⟩,s⟩:=x
 dsimp only at *
 show Zw n (Z1o n t p q)=true∧Z1o n t p q≠c∧0≤s∧s<4∧Z7 n (Z1o n t p q) s=(c,o)
 have p1:Zw n (Z1o n t p q)=true:=Z17b a
 refine ⟨p1,fun w=>?_,d,e,?_⟩
 ·obtain ⟨u,v,z⟩:=Z1bh a hm (w.trans hc.symm)
  exact b (Prod.ext u (Prod.ext v z))
 ·rw [Zz1 (Z1q.2 ⟨p1,d,e⟩)]
  obtain ⟨u,v,z⟩:=Zja a
  rw [u,v,z]
  unfold nbC
  rw [g]
  show (Z1o n f i j,o)=_
  rw [hc]
end Go.Lift

namespace Go.Lift
theorem Z27 (y z:Int × Int) (v:Int):∀ m:Nm,mget z (mput y v m)=if y=z then some v else mget z m
 | []=>rfl
 | p :: l=>by
  show mget z (if p.1=y then (y,v) :: l else p :: mput y v l)=_
  by_cases h:p.1=y
  ·rw [if_pos h]
   show (if y=z then some v else mget z l)=if y=z then some v else (if p.1=z then some p.2 else mget z l)
   by_cases g:y=z
   ·rw [if_pos g,if_pos g]
   ·rw [if_neg g,if_neg g,if_neg (by rw [h]; exact g)]
  ·rw [if_neg h]
   show (if p.1=z then some p.2 else mget z (mput y v l))=if y=z then some v else (if p.1=z then some p.2 else mget z l)
   rw [Z27 y z v l]
   by_cases g:p.1=z
   ·rw [if_pos g,if_pos g,if_neg (by rintro rfl; exact h g)]
   ·rw [if_neg g,if_neg g]
abbrev Rg:=Int × List Ed × List Int
def Z114 (n c o:Int) (s:List Ed × List Int):List Ed × List Int :=
 if c<(Z7 n c o).1 then (s.1++[(c,o,(Z7 n c o).1,(Z7 n c o).2)],(s.2.set (4*c+o).toNat s.1.length).set (4*(Z7 n c o).1+(Z7 n c o).2).toNat s.1.length) else s
def Z115 (n c:Int) (s:List Ed × List Int):Nat→List Ed × List Int
 | 0=>s
 | k+1=>Z114 n c k (Z115 n c s k)
def Z116 (n:Int):Nat→List Ed × List Int
 | 0=>([],List.replicate (4*Zh n).toNat 0)
 | k+1=>Z115 n k (Z116 n k) 4
def Za5 (n:Int):List Ed × List Int:=Z116 n (Zh n).toNat
def Z17d (n:Int):Rg:=(n,(Za5 n).1,(Za5 n).2)
def Z117 (n:Int):Option Rg × Int × Unit:=if Zh n=0 then (none,10,()) else (some (Z17d n),0,())
structure NInv (n T:Int) (E:List Ed) (m:Nm) (a:List Int):Prop where
 there:∀ c o,Z14 n c o=true→c<(Z7 n c o).1→4*c+o<T→∃ k:Nat,mget (c,o) m=some (k:Int)∧mget (Z7 n c o) m=some (k:Int)∧a[(4*c+o).toNat]?=some (k:Int) ∧
  a[(4*(Z7 n c o).1+(Z7 n c o).2).toNat]?=some (k:Int)∧E[k]?=some (c,o,Z7 n c o)
 keys:∀ c o v,mget (c,o) m=some v→Z14 n c o=true
 edges:∀ e ∈ E,Z14 n e.1 e.2.1=true∧Z7 n e.1 e.2.1=e.2.2∧e.1<e.2.2.1∧4*e.1+e.2.1<T
 len:a.length=(4*Zh n).toNat
 back:∀ (k:Nat) (e:Ed),E[k]?=some e→mget (e.1,e.2.1) m=some (k:Int)∧mget e.2.2 m=some (k:Int)
theorem Z2v {n c:Int} (h:Zw n c=true):0≤c∧c<Zh n:=by
 unfold Zw at h
 simp only [Bool.and_eq_true,decide_eq_true_eq] at h
 exact h
theorem NInv.skip {n c o:Int} {E:List Ed} {m:Nm} {a:List Int} (h:NInv n (4*c+o) E m a) (ok:Z14 n c o=true) (hd:¬ c<(Z7 n c o).1):NInv n (4*c+o+1) E m a:=by
 obtain ⟨hp,o0,o4⟩:=Z1q.1 ok
 refine ⟨fun c' o' ok' hl ht=>h.there c' o' ok' hl ?_,h.keys,fun e he=>?_,h.len,h.back⟩
 ·obtain ⟨hp',o0',o4'⟩:=Z1q.1 ok'
  rcases Int.lt_or_eq_of_le (show 4*c'+o'≤4*c+o by omega) with q | q
  ·exact q
  ·have:c'=c∧o'=o:=by omega
   obtain ⟨rfl,rfl⟩:=this
   exact absurd hl hd
 ·obtain ⟨a1,a2,a3,a4⟩:=h.edges e he
  exact ⟨a1,a2,a3,by omega⟩
theorem NInv.add {n c o:Int} {E:List Ed} {m:Nm} {a:List Int} (h:NInv n (4*c+o) E m a) (ok:Z14 n c o=true) (hd:c<(Z7 n c o).1) :
  NInv n (4*c+o+1) (E++[(c,o,Z7 n c o)]) (mput (Z7 n c o) E.length (mput (c,o) E.length m)) ((a.set (4*c+o).toNat E.length).set (4*(Z7 n c o).1+(Z7 n c o).2).toNat E.length):=by
 obtain ⟨hp,o0,o4⟩:=Z1q.1 ok
 obtain ⟨b1,b2,b3,b4,b5⟩:=Z57 ok
 have okb:Z14 n (Z7 n c o).1 (Z7 n c o).2=true:=Z1q.2 ⟨b1,b3,b4⟩
 obtain ⟨c0,c1⟩:=Z2v hp
 obtain ⟨d0,d1⟩:=Z2v b1
 obtain ⟨p,hP⟩:∃ p,Z7 n c o=p:=⟨_,rfl⟩
 rw [hP] at hd b1 b2 b3 b4 b5 okb d0 d1 ⊢
 have la:∀ i:Nat,i<a.length→((a.set (4*c+o).toNat (E.length:Int)).set (4*p.1+p.2).toNat (E.length:Int))[i]?=if i=(4*p.1+p.2).toNat then some (E.length:Int) else if i=(4*c+o).toNat then some (E.length:Int) else a[i]?:=by
  intro i hi
  rw [List.getElem?_set,List.getElem?_set]
  by_cases q1:(4*p.1+p.2).toNat=i
  ·rw [if_pos q1,if_pos q1.symm,if_pos (by rw [List.length_set]; omega)]
  ·rw [if_neg q1,if_neg (show ¬ i=(4*p.1+p.2).toNat from fun e=>q1 e.symm)]
   by_cases q2:(4*c+o).toNat=i
   ·rw [if_pos q2,if_pos q2.symm,if_pos (by omega)]
   ·rw [if_neg q2,if_neg (show ¬ i=(4*c+o).toNat from fun e=>q2 e.symm)]
 have other:∀ c' o':Int,Z14 n c' o'=true→c'<(Z7 n c' o').1→4*c'+o'<4*c+o→¬ (c,o)=(c',o')∧¬ p=(c',o')∧¬ (c,o)=Z7 n c' o'∧¬ p=Z7 n c' o':=by
  intro c' o' ok' hl lt
  obtain ⟨hp',o0',o4'⟩:=Z1q.1 ok'
  obtain ⟨b1',b2',b3',b4',b5'⟩:=Z57 ok'
  have n1:¬ (c,o)=(c',o'):=fun e=>by
   have e1:c=c':=congrArg Prod.fst e
   have e2:o=o':=congrArg Prod.snd e
   omega
  have n2:¬ p=(c',o'):=by
   intro e
   have e1:p.1=c':=congrArg Prod.fst e
   omega
  refine ⟨n1,n2,fun e=>?_,fun e=>?_⟩
  ·rw [← e] at b5'
   have e1:Z7 n c o=(c',o'):=b5'
   rw [hP] at e1
   exact n2 e1
  ·rw [← e,b5] at b5'
   exact n1 b5'
 refine ⟨fun c' o' ok' hl ht=>?_,fun c' o' v hv=>?_,fun e he=>?_,by rw [List.length_set,List.length_set]; exact h.len,fun k e hk=>?_⟩
 ·obtain ⟨hp',o0',o4'⟩:=Z1q.1 ok'
  obtain ⟨b1',b2',b3',b4',b5'⟩:=Z57 ok'
  obtain ⟨c0',c1'⟩:=Z2v hp'
  obtain ⟨d0',d1'⟩:=Z2v b1'
  by_cases q:c'=c∧o'=o
  ·obtain ⟨rfl,rfl⟩:=q
   rw [hP]
   have hl2:=h.len
   refine ⟨E.length,?_,?_,?_,?_,by rw [List.getElem?_append_right (Nat.le_refl _),Nat.sub_self]; rfl⟩
   ·rw [Z27]
    split
    ·rfl
    ·rw [Z27,if_pos rfl]
   ·rw [Z27,if_pos rfl]
   ·rw [la _ (by omega)]
    split
    ·rfl
    ·rw [if_pos rfl]
   ·rw [la _ (by omega),if_pos rfl]
  ·have lt:4*c'+o'<4*c+o:=by
    rcases Int.lt_or_eq_of_le (show 4*c'+o'≤4*c+o by omega) with q' | q'
    ·exact q'
    ·exact absurd (show c'=c∧o'=o by omega) q
   obtain ⟨k,k1,k2,k3,k4,k5⟩:=h.there c' o' ok' hl lt
   obtain ⟨n1,n2,n3,n4⟩:=other c' o' ok' hl lt
   have hl2:=h.len
   have i1:(4*c'+o').toNat≠(4*c+o).toNat:=by omega
   have i2:(4*c'+o').toNat≠(4*p.1+p.2).toNat:=by
    intro e
    exact n2 (Prod.ext (by show p.1=c'; omega) (by show p.2=o'; omega))
   obtain ⟨w,hW⟩:∃ w,Z7 n c' o'=w:=⟨_,rfl⟩
   rw [hW] at hl b5' k2 k4 k5 n3 n4 d0' d1' b3' b4' ⊢
   have i3:(4*w.1+w.2).toNat≠(4*c+o).toNat:=by
    intro e
    exact n3 (Prod.ext (by show c=w.1; omega) (by show o=w.2; omega))
   have i4:(4*w.1+w.2).toNat≠(4*p.1+p.2).toNat:=by
    intro e
    exact n4 (Prod.ext (by omega) (by omega))
   refine ⟨k,?_,?_,?_,?_,?_⟩
   ·rw [Z27,if_neg n2,Z27,if_neg n1,k1]
   ·rw [Z27,if_neg n4,Z27,if_neg n3,k2]
   ·rw [la _ (by omega),if_neg i2,if_neg i1,k3]
   ·rw [la _ (by omega),if_neg i4,if_neg i3,k4]
   ·rw [List.getElem?_append_left (List.getElem?_eq_some_iff.1 k5).1,k5]
 ·rw [Z27] at hv
  split at hv
  ·rename_i e
   rw [e] at okb; exact okb
  ·rw [Z27] at hv
   split at hv
   ·rename_i e
    cases e; exact ok
   ·exact h.keys c' o' v hv
 ·rcases List.mem_append.1 he with he | he
  ·obtain ⟨a1,a2,a3,a4⟩:=h.edges e he
   exact ⟨a1,a2,a3,by omega⟩
  ·obtain rfl:=List.mem_singleton.1 he
   exact ⟨ok,hP,hd,by show 4*c+o<_; omega⟩
 ·rcases Nat.lt_or_ge k E.length with hk' | hk'
  ·rw [List.getElem?_append_left hk'] at hk
   obtain ⟨m1,m2⟩:=h.back k e hk
   obtain ⟨a1,a2,a3,a4⟩:=h.edges e (List.mem_of_getElem? hk)
   obtain ⟨n1,n2,n3,n4⟩:=other e.1 e.2.1 a1 (by rw [a2]; exact a3) a4
   rw [a2] at n3 n4
   exact ⟨by rw [Z27,if_neg n2,Z27,if_neg n1,m1],by rw [Z27,if_neg n4,Z27,if_neg n3,m2]⟩
  ·rw [List.getElem?_append_right hk'] at hk
   have hk0:k=E.length:=by
    have:=(List.getElem?_eq_some_iff.1 hk).1
    simp at this; omega
   subst hk0
   rw [Nat.sub_self] at hk
   obtain rfl:(c,o,p)=e:=Option.some.inj hk
   refine ⟨?_,by rw [Z27,if_pos rfl]⟩
   rw [Z27]
   split
   ·rfl
   ·rw [Z27,if_pos rfl]
theorem Z19z {n c o:Int} {s:List Ed × Nm} {r:List Ed × List Int} (he:s.1=r.1) (h:NInv n (4*c+o) s.1 s.2 r.2) (ok:Z14 n c o=true) :
  (addE n c o s).1=(Z114 n c o r).1∧NInv n (4*c+o+1) (addE n c o s).1 (addE n c o s).2 (Z114 n c o r).2:=by
 obtain ⟨b1,b2,b3,b4,b5⟩:=Z57 ok
 unfold addE Z114
 by_cases hd:c<(Z7 n c o).1
 ·rw [if_neg (by omega),if_pos hd]
  refine ⟨by show s.1++_=r.1++_; rw [he],?_⟩
  have:=h.add ok hd
  rw [← he]
  exact this
 ·rw [if_pos (by omega),if_neg hd]
  exact ⟨he,h.skip ok hd⟩
theorem Zz2 {n c:Int} {s:List Ed × Nm} {r:List Ed × List Int} (hp:Zw n c=true) (he:s.1=r.1) (h:NInv n (4*c) s.1 s.2 r.2):∀ k:Nat,k≤4 →
  (addN n c s k).1=(Z115 n c r k).1∧NInv n (4*c+k) (addN n c s k).1 (addN n c s k).2 (Z115 n c r k).2
 | 0,_=>⟨he,by show NInv n (4*c+0) s.1 s.2 r.2; rw [Int.add_zero]; exact h⟩
 | k+1,hk=>by
  obtain ⟨a,b⟩:=Zz2 hp he h k (by omega)
  have:=Z19z (c:=c) (o:=k) a b (Z1q.2 ⟨hp,by omega,by omega⟩)
  rw [show (4*c+((k+1:Nat):Int))=4*c+k+1 by omega]
  exact this
theorem Z12q (n:Int):∀ k:Nat,(k:Int)≤Zh n→(netN n k).1=(Z116 n k).1∧NInv n (4*k) (netN n k).1 (netN n k).2 (Z116 n k).2
 | 0,_=>⟨rfl,⟨fun c o ok hl ht=>by
   obtain ⟨hp,o0,o4⟩:=Z1q.1 ok
   have:=Z2v hp
   have ht:4*c+o<4*0:=ht
   omega,fun c o v hv=>(by cases hv),fun e he=>(by cases he),List.length_replicate,fun k e hk=>(by cases hk)⟩⟩
 | k+1,hk=>by
  obtain ⟨a,b⟩:=Z12q n k (by omega)
  have hp:Zw n (k:Int)=true:=by
   unfold Zw
   simp only [Bool.and_eq_true,decide_eq_true_eq]
   omega
  have:=Zz2 hp a b 4 (Nat.le_refl _)
  rw [show (4*((k+1:Nat):Int))=4*(k:Int)+(4:Nat) by omega]
  exact this
theorem Zmf (n:Int):(netE n).1=(Za5 n).1∧NInv n (4*Zh n) (netE n).1 (netE n).2 (Za5 n).2:=by
 have cr:=Zat n
 have:=Z12q n (Zh n).toNat (by omega)
 rw [show (((Zh n).toNat:Nat):Int)=Zh n by omega] at this
 exact this
theorem Z12r {n c o:Int} (ok:Z14 n c o=true):∃ k:Nat,k<(netE n).1.length∧mget (c,o) (netE n).2=some (k:Int)∧(Za5 n).2[(4*c+o).toNat]?=some (k:Int) ∧
  ((c<(Z7 n c o).1∧(netE n).1[k]?=some (c,o,Z7 n c o))∨((Z7 n c o).1<c∧(netE n).1[k]?=some ((Z7 n c o).1,(Z7 n c o).2,c,o))):=by
 obtain ⟨_,I⟩:=Zmf n
 obtain ⟨hp,o0,o4⟩:=Z1q.1 ok
 obtain ⟨b1,b2,b3,b4,b5⟩:=Z57 ok
 obtain ⟨c0,c1⟩:=Z2v hp
 obtain ⟨d0,d1⟩:=Z2v b1
 by_cases hd:c<(Z7 n c o).1
 ·obtain ⟨k,k1,k2,k3,k4,k5⟩:=I.there c o ok hd (by omega)
  exact ⟨k,(List.getElem?_eq_some_iff.1 k5).1,k1,k3,.inl ⟨hd,k5⟩⟩
 ·obtain ⟨k,k1,k2,k3,k4,k5⟩:=I.there (Z7 n c o).1 (Z7 n c o).2 (Z1q.2 ⟨b1,b3,b4⟩) (by rw [b5]; show (Z7 n c o).1<c; omega) (by omega)
  rw [b5] at k2 k4 k5
  exact ⟨k,(List.getElem?_eq_some_iff.1 k5).1,k2,k4,.inr ⟨by omega,k5⟩⟩
theorem Z1bn {n c o:Int} (h:¬ Z14 n c o=true):mget (c,o) (netE n).2=none:=by
 cases hm:mget (c,o) (netE n).2 with
 | none=>rfl
 | some v=>exact absurd ((Zmf n).2.keys c o v hm) h
def dEd:Ed:=(0,0,0,0)
def nIs (g:Option Gr) (e:Int):Bool:=match g with
 | none=>false
 | some g=>decide (0≤e)&&decide (e<(g.2.1.length:Nat))
def nIsR (g:Option Gr) (e:Int):Bool × Unit:=r1 (nIs g e)
def Z79 (g:Option Gr) (e:Int):Ed:=match g with
 | none=>dEd
 | some g=>if 0≤e∧e<(g.2.1.length:Nat) then g.2.1.getD e.toNat dEd else dEd
def Z1w (g:Option Gr) (e:Int):Ed × Bool × Unit:=(Z79 g e,nIs g e,())
def Z9b (g:Option Gr) (c o:Int):Int × Int:=match g with
 | none=>(0,0)
 | some g=>match mget (c,o) g.2.2.1 with
  | none=>(0,0)
  | some e=>if (g.2.1.getD e.toNat dEd).1=c then (e,1) else (e,-1)
def Z7d (g:Option Gr) (c o:Int):Int × Int × Unit:=((Z9b g c o).1,(Z9b g c o).2,())
def NetP (g:Option Gr):Prop:=g=none∨∃ n,Z1z n=true∧g=some (netG n)
def Z1d8 (g:Option Rg) (c o:Int):Int × Int:=match g with
 | none=>(0,0)
 | some g=>if Z14 g.1 c o then (if (g.2.1.getD (g.2.2.getD (4*c+o).toNat 0).toNat dEd).1=c then (g.2.2.getD (4*c+o).toNat 0,1) else (g.2.2.getD (4*c+o).toNat 0,-1)) else (0,0)
def sgnE (n c o:Int):Int:=if c<(Z7 n c o).1 then 1 else -1
theorem Z17e {n c o:Int} (ok:Z14 n c o=true):∃ k:Nat,k<(netE n).1.length∧Z9b (some (netG n)) c o=((k:Int),sgnE n c o)∧Z1d8 (some (Z17d n)) c o=((k:Int),sgnE n c o) ∧
  ((c<(Z7 n c o).1∧(netE n).1[k]?=some (c,o,Z7 n c o))∨((Z7 n c o).1<c∧(netE n).1[k]?=some ((Z7 n c o).1,(Z7 n c o).2,c,o))):=by
 obtain ⟨k,hk,k1,k2,k3⟩:=Z12r ok
 have he:=(Zmf n).1
 have g1:(Za5 n).2.getD (4*c+o).toNat 0=(k:Int):=by rw [List.getD_eq_getElem?_getD,k2]; rfl
 refine ⟨k,hk,?_,?_,k3⟩
 ·show (match mget (c,o) (netE n).2 with | none=>((0:Int),(0:Int)) | some e=>if ((netE n).1.getD e.toNat dEd).1=c then (e,1) else (e,-1))=_
  rw [k1]
  dsimp only
  rw [Int.toNat_natCast,List.getD_eq_getElem?_getD]
  rcases k3 with ⟨h1,h2⟩ | ⟨h1,h2⟩
  ·rw [h2]; unfold sgnE; rw [if_pos h1]; exact if_pos rfl
  ·rw [h2]; unfold sgnE; rw [if_neg (show ¬ c<(Z7 n c o).1 by omega)]; exact if_neg (show ¬ (Z7 n c o).1=c by omega)
 ·show (if Z14 n c o then (if ((Za5 n).1.getD ((Za5 n).2.getD (4*c+o).toNat 0).toNat dEd).1=c then ((Za5 n).2.getD (4*c+o).toNat 0,(1:Int)) else ((Za5 n).2.getD (4*c+o).toNat 0,-1)) else (0,0))=_
  rw [if_pos ok,g1,← he,Int.toNat_natCast,List.getD_eq_getElem?_getD]
  rcases k3 with ⟨h1,h2⟩ | ⟨h1,h2⟩
  ·rw [h2]; unfold sgnE; rw [if_pos h1]; exact if_pos rfl
  ·rw [h2]; unfold sgnE; rw [if_neg (show ¬ c<(Z7 n c o).1 by omega)]; exact if_neg (show ¬ (Z7 n c o).1=c by omega)
theorem Z4t (n:Int):Z53 (some (netG n))=Zh n:=by
 have cr:=Zat n
 show (((Z8c n).length:Nat):Int)=_
 unfold Z8c
 rw [List.length_map,List.length_range]; omega
end Go.Lift

namespace Go.Lift
def Bp (m:Int) (a:Pt):Prop:=(-m≤a.1∧a.1≤m)∧(-m≤a.2.1∧a.2.1≤m)∧(-m≤a.2.2∧a.2.2≤m)
def WNet (g:Option Gr) (c o:Int):Prop:=NetP g∧I64 c∧I64 o
def Zct (g:Option Gr) (e:Int):Prop:=NetP g∧I64 e
theorem Bp.mono {m m':Int} {a:Pt} (h:Bp m a) (hm:m≤m'):Bp m' a:=by unfold Bp at *; omega
theorem Zmg {n:Int} {k:Nat} (h:(k:Int)<Zh n):Zw n (k:Int)=true:=by
 unfold Zw
 rw [decide_eq_true (p:=(0:Int)≤k) (by omega),decide_eq_true (p:=(k:Int)<Zh n) h]; rfl
end Go.Lift

namespace Go.Lift
def Z118:Hn:={ loops:=fun _=>none,joins:=fun _=>none }
def WU2 (a b:Int):Prop:=U64 a∧U64 b
def Z1c7 (a b:Int):Int × Int × Unit:=(mulHi a b,mulLo a b,())
def lzR (a:Int):Int × Unit:=(lz64 a,())
theorem Z1d9 {a:Int} (ha:U64 a):F21 a (fun r=>r=lzR a):=by
 have b:=Zpv (x:=a) ha.2
 exact ⟨ha,by rw [Z72 _ (by omega) (by omega)]; rfl⟩
def WDiv (a b c:Int):Prop:=U64 a∧U64 b∧U64 c∧a<c
def Z1c8 (a b c:Int):Int × Int × Unit:=(divQ a b c,divR a b c,())
def prtR (a b c:Int):Int × Unit:=(part a b c,())
def AllI (c:List Int):Prop:=∀ x ∈ c,I64 x
end Go.Lift

namespace Go.Lift
def Zto (f:Int):Bool:=decide (-4503599627370496≤f)&&decide (f≤4503599627370496)
abbrev Ar:=Int→Int→Int × Int
def outN (ar:Ar) (f:List Int) (c o:Int):Int:=imax 0 (f.getD (ar c o).1.toNat 0*(ar c o).2)
def Z1c9 (ar:Ar) (f:List Int) (c:Int):List Int:=[outN ar f c 0,outN ar f c 1,outN ar f c 2,outN ar f c 3]
def yesR:Bool × Unit:=(true,())
end Go.Lift

namespace Go.Lift
open Go
def iw (x:Int):Int:=i64.wrap x
def allI (a b:List Nat):Bool:=a==b
def allR (a b:List Nat):Bool × Unit:=(allI a b,())
def Z5n (a b:List Int):Bool × Unit:=(a==b,())
end Go.Lift

namespace Go.Lift
section Z3p
variable {a b:Int} {c:List Int}
end Z3p
section cuts
variable {a:Int} {c:List Int}
end cuts
structure ArOk (n:Int) (ar:Ar):Prop where
 side:∀ c o,Z14 n c o=true→∃ k:Nat,k<(netE n).1.length∧ar c o=((k:Int),sgnE n c o)∧mget (c,o) (netE n).2=some (k:Int) ∧
  ((c<(Z7 n c o).1∧(netE n).1[k]?=some (c,o,Z7 n c o))∨((Z7 n c o).1<c∧(netE n).1[k]?=some ((Z7 n c o).1,(Z7 n c o).2,c,o)))
section
variable {n:Int} {ar:Ar} (A:ArOk n ar) {f:List Int} (hf:∀ x ∈ f,Zto x=true) (hl:f.length=(netE n).1.length)
include A hf hl
end
def gvV (ar:Ar) (f:List Int) (gv:Nat→List Int) (c o:Int):Int:=if 0<outN ar f c o then (gv c.toNat).getD o.toNat 0*(ar c o).2 else 0
def visV (ar:Ar) (f:List Int) (gv:Nat→List Int) (T c o:Int):Int:=if 4*c+o<T then gvV ar f gv c o else 0
def Z12s (n:Int) (ar:Ar) (f:List Int) (gv:Nat→List Int) (T:Int) (all:List Int):Prop :=
 all.length=(netE n).1.length∧∀ (k:Nat) (e:Ed),(netE n).1[k]?=some e→all[k]?=some (visV ar f gv T e.1 e.2.1+visV ar f gv T e.2.2.1 e.2.2.2)
section
variable {n:Int} {ar:Ar} (A:ArOk n ar) {f:List Int} {gv:Nat→List Int}
include A
end
end Go.Lift

namespace Go.Lift
section
variable {n:Int} {ar:Ar} (A:ArOk n ar) {f:List Int} (hf:∀ x ∈ f,Zto x=true) (hl:f.length=(netE n).1.length)
include A hf
include hl
end
theorem Zz3 {g:Gr} (h:NetP (some g)):∃ n,Z1z n=true∧g=netG n:=by
 rcases h with h | ⟨n,gn,h⟩
 ·cases h
 ·exact ⟨n,gn,Option.some.inj h⟩
theorem Z16 {x:Int} (h1:-9223372036854775808≤x) (h2:x<9223372036854775808):i64.wrap x=x:=wi ⟨h1,h2⟩
end Go.Lift

namespace Go.Lift
section
variable {n:Int} {ar:Ar} (A:ArOk n ar) {f:List Int} (hf:∀ x ∈ f,Zto x=true)
include A hf
end
section
variable {N M:Int} {ar:Ar} {w h f:List Int}
end
end Go.Lift
