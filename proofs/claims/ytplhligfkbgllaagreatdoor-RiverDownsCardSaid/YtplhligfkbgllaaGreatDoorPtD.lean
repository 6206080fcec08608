/- A part of the proof of RiverDownsCard: an own lifter of code into plain terms, and plain laws. -/
import Derived.Laws.Externs
import Derived.Test.YtplhligfkbgllaaGreatDoorProg
import Derived.LaidMore
import Derived.MakeChecks
import Derived.Test.YtplhligfkbgllaaGreatDoorRows
import Derived.ProofKit
import Derived.SevenTiedAt
import Derived.Test.YtplhligfkbgllaaGreatDoorPtC
set_option linter.unusedVariables false
set_option linter.unusedSimpArgs false
set_option linter.unusedSectionVars false
open Go.IntKind (i64 u64 u32 u8)
open Go.FloatKind (f64 f32)
namespace Go.Lift
abbrev at0 (xs:List Int) (i:Nat):Int:=xs.getD i 0
theorem Zan {xs:List Int} {i j:Nat} {v:Int} (hi:i<xs.length):at0 (xs.set i v) j=if j=i then v else at0 xs j:=by
 unfold at0
 by_cases e:j=i
 ·subst e; rw [if_pos rfl]; rw [List.getD_eq_getElem?_getD,List.getElem?_set,if_pos rfl,if_pos hi]; rfl
 ·rw [if_neg e,List.getD_eq_getElem?_getD,List.getElem?_set,if_neg (fun q=>e q.symm),← List.getD_eq_getElem?_getD]
theorem Zrs {xs ys:List Int} (hl:xs.length=ys.length) (h:∀ i,i<xs.length→at0 xs i=at0 ys i):xs=ys:=by
 apply List.ext_getElem hl
 intro i h1 h2
 have:=h i h1
 unfold at0 at this
 rw [List.getD_eq_getElem?_getD,List.getD_eq_getElem?_getD,List.getElem?_eq_getElem h1,List.getElem?_eq_getElem h2] at this
 exact this
def swp (xs:List Int) (i j:Nat):List Int:=(xs.set i (at0 xs j)).set j (at0 xs i)
theorem Zrt (xs:List Int) (i j:Nat):(swp xs i j).length=xs.length:=by unfold swp; rw [List.length_set,List.length_set]
theorem Z6f {xs:List Int} {i j p:Nat} (hi:i<xs.length) (hj:j<xs.length):at0 (swp xs i j) p=if p=j then at0 xs i else if p=i then at0 xs j else at0 xs p:=by
 unfold swp
 rw [Zan (by rw [List.length_set]; exact hj),Zan hi]
theorem Zeu {xs:List Int} {i:Nat} (hi:i<xs.length):at0 xs i=xs[i]:=by
 unfold at0; rw [List.getD_eq_getElem?_getD,List.getElem?_eq_getElem hi]; rfl
theorem Z18i {xs:List Int} {i j:Nat} (hi:i<xs.length) (hj:j<xs.length):(swp xs i j).Perm xs:=by
 unfold swp
 rw [Zeu hi,Zeu hj]
 exact List.set_set_perm hi hj
def Z2j (xs:List Int) (σ:Nat→Nat):List Int:=(List.range xs.length).map fun p=>at0 xs (σ p)
theorem Z1g (xs:List Int) (σ:Nat→Nat):(Z2j xs σ).length=xs.length:=by unfold Z2j; rw [List.length_map,List.length_range]
theorem Z2x {xs:List Int} {σ:Nat→Nat} {p:Nat} (h:p<xs.length):at0 (Z2j xs σ) p=at0 xs (σ p):=by
 unfold Z2j
 rw [show at0 ((List.range xs.length).map fun p=>at0 xs (σ p)) p=(((List.range xs.length).map fun p=>at0 xs (σ p))[p]?).getD 0 from List.getD_eq_getElem?_getD ..,List.getElem?_map,List.getElem?_range h]; rfl
theorem Ztr {xs:List Int} {σ τ υ:Nat→Nat} (hτ:∀ p,p<xs.length→τ p<xs.length) (h:∀ p,p<xs.length→σ (τ p)=υ p):Z2j (Z2j xs σ) τ=Z2j xs υ:=by
 refine Zrs (by rw [Z1g,Z1g,Z1g]) fun i hi=>?_
 rw [Z1g,Z1g] at hi
 rw [Z2x (by rw [Z1g]; exact hi),Z2x (hτ i hi),Z2x hi,h i hi]
theorem Z18j {xs:List Int} {σ:Nat→Nat} (h:∀ p,p<xs.length→σ p=p):Z2j xs σ=xs :=
 Zrs (Z1g _ _) fun i hi=>by rw [Z1g] at hi; rw [Z2x hi,h i hi]
def swI (a b n p:Nat):Nat:=if a≤p∧p<a+n then b+(p - a) else if b≤p∧p<b+n then a+(p - b) else p
def rotI (a m b p:Nat):Nat:=if a≤p∧p<a+(b - m) then m+(p - a) else if a+(b - m)≤p∧p<b then a+(p - (a+(b - m))) else p
theorem Z1hi (a b p:Nat):swI a b 0 p=p:=by unfold swI; (repeat' split) <;> omega
theorem Z1fx {xs:List Int} {a b n:Nat} (h:a+n<b) (hb:b+n<xs.length):swp (Z2j xs (swI a b n)) (a+n) (b+n)=Z2j xs (swI a b (n+1)):=by
 refine Zrs (by rw [Zrt,Z1g,Z1g]) fun i hi=>?_
 rw [Zrt,Z1g] at hi
 rw [Z6f (i:=a+n) (j:=b+n) (by rw [Z1g]; omega) (by rw [Z1g]; omega),Z2x (p:=a+n) (by omega),Z2x (p:=b+n) (by omega),Z2x hi,Z2x hi]
 by_cases e1:i=b+n
 ·subst e1
  rw [if_pos rfl]
  congr 1
  unfold swI
  (repeat' split) <;> omega
 rw [if_neg e1]
 by_cases e2:i=a+n
 ·subst e2
  rw [if_pos rfl]
  congr 1
  unfold swI
  (repeat' split) <;> omega
 rw [if_neg e2]
 congr 1
 unfold swI
 (repeat' split) <;> omega
theorem Z1hj {m i j:Nat} (h0:0<j) (h:j<i) (hm:i≤m) (p:Nat):swI (m - i) m j (rotI (m - (i - j)) m (m+j) p)=rotI (m - i) m (m+j) p:=by
 unfold rotI
 (repeat' split) <;> unfold swI <;> (repeat' split) <;> omega
theorem Z1hk {m i j:Nat} (h0:0<i) (h:i<j) (hm:i≤m) (p:Nat):swI (m - i) (m+j - i) i (rotI (m - i) m (m+(j - i)) p)=rotI (m - i) m (m+j) p:=by
 unfold rotI
 (repeat' split) <;> unfold swI <;> (repeat' split) <;> omega
theorem Z1hl {m i:Nat} (h0:0<i) (hm:i≤m) (p:Nat):swI (m - i) m i p=rotI (m - i) m (m+i) p:=by
 unfold swI rotI
 repeat' split
 all_goals omega
theorem Z11g {a m b n p:Nat} (h1:a≤m) (h2:m≤b) (h3:b≤n) (h:p<n):rotI a m b p<n:=by
 unfold rotI; (repeat' split) <;> omega
section
variable (kf:Int→Int)
def Stb (xs:List Int):Prop:=∀ i j,i<j→j<xs.length→kf (at0 xs i)=kf (at0 xs j)→at0 xs i<at0 xs j
def Sgm (xs:List Int) (a b:Nat):Prop:=∀ i j,a≤i→i<j→j<b→kf (at0 xs i)≤kf (at0 xs j)
structure Rr (a b:Nat) (xs ys:List Int):Prop where
 perm:ys.Perm xs
 len:ys.length=xs.length
 out:∀ i,i<a∨b≤i→at0 ys i=at0 xs i
 ins:∀ P:Int→Prop,(∀ i,a≤i→i<b→P (at0 xs i))→∀ i,a≤i→i<b→P (at0 ys i)
 st:Stb kf xs→Stb kf ys
variable {kf}
theorem Rr.refl (a b:Nat) (xs:List Int):Rr kf a b xs xs:=⟨.refl _,rfl,fun _ _=>rfl,fun P h=>h,fun h=>h⟩
theorem Rr.trans {a b:Nat} {xs ys zs:List Int} (h:Rr kf a b xs ys) (g:Rr kf a b ys zs):Rr kf a b xs zs :=
 ⟨g.perm.trans h.perm,g.len.trans h.len,fun i hi=>(g.out i hi).trans (h.out i hi),fun P hP=>g.ins P (h.ins P hP),fun q=>g.st (h.st q)⟩
theorem Rr.wide {a b a' b':Nat} {xs ys:List Int} (h:Rr kf a b xs ys) (h1:a'≤a) (h2:b≤b'):Rr kf a' b' xs ys :=
 ⟨h.perm,h.len,fun i hi=>h.out i (by omega),fun P hP i i1 i2=>by
  by_cases q:a≤i∧i<b
  ·exact h.ins P (fun i i1 i2=>hP i (by omega) (by omega)) i q.1 q.2
  ·rw [h.out i (by omega)]; exact hP i i1 i2,h.st⟩
theorem Rr.sgm {a b c d:Nat} {xs ys:List Int} (h:Rr kf a b xs ys) (hs:Sgm kf xs c d) (hd:d≤a∨b≤c):Sgm kf ys c d:=fun i j h1 h2 h3=>by
 rw [h.out i (by omega),h.out j (by omega)]; exact hs i j h1 h2 h3
theorem Sgm.sub {a b a' b':Nat} {xs:List Int} (h:Sgm kf xs a b) (h1:a≤a') (h2:b'≤b):Sgm kf xs a' b':=fun i j g1 g2 g3=>h i j (by omega) g2 (by omega)
theorem Sgm.one {a b:Nat} {xs:List Int} (h:b≤a+1):Sgm kf xs a b:=fun i j g1 g2 g3=>by omega
theorem Z18k {xs:List Int} {i a b:Nat} (h1:a≤i) (h2:i+1<b) (h3:i+1<xs.length) (hlt:kf (at0 xs (i+1))<kf (at0 xs i)):Rr kf a b xs (swp xs (i+1) i) where
 perm:=Z18i h3 (by omega)
 len:=Zrt _ _ _
 out p hp:=by rw [Z6f h3 (by omega),if_neg (by omega),if_neg (by omega)]
 ins P hP p p1 p2:=by
  rw [Z6f h3 (by omega)]
  split
  ·exact hP _ (by omega) (by omega)
  ·split
   ·exact hP _ (by omega) (by omega)
   ·exact hP _ p1 p2
 st hs p q hpq hq he:=by
  rw [Zrt] at hq
  rw [Z6f h3 (by omega),Z6f h3 (by omega)] at he ⊢
  by_cases e1:p=i
  ·subst e1
   rw [if_pos rfl] at he ⊢
   by_cases e2:q=p+1
   ·subst e2
    rw [if_neg (by omega),if_pos rfl] at he
    omega
   ·rw [if_neg (by omega),if_neg e2] at he ⊢
    exact hs _ _ (by omega) hq he
  rw [if_neg e1] at he ⊢
  by_cases e2:p=i+1
  ·subst e2
   rw [if_pos rfl,if_neg (by omega),if_neg (by omega)] at he ⊢
   exact hs _ _ (by omega) hq he
  rw [if_neg e2] at he ⊢
  by_cases e3:q=i
  ·subst e3
   rw [if_pos rfl] at he ⊢
   exact hs _ _ (by omega) (by omega) he
  rw [if_neg e3] at he ⊢
  by_cases e4:q=i+1
  ·subst e4
   rw [if_pos rfl] at he ⊢
   exact hs _ _ (by omega) (by omega) he
  rw [if_neg e4] at he ⊢
  exact hs _ _ hpq hq he
theorem Z1k8 {xs ys:List Int} {a m b:Nat} (h1:a≤m) (h2:m≤b) (h3:b≤xs.length) (hp:ys.Perm xs) (he:ys=Z2j xs (rotI a m b)) (hlt:∀ i j,a≤i→i<m→m≤j→j<b→kf (at0 xs j)<kf (at0 xs i)):Rr kf a b xs ys where
 perm:=hp
 len:=by rw [he,Z1g]
 out p hp':=by
  subst he
  rcases Nat.lt_or_ge p xs.length with g | g
  ·rw [Z2x g]; congr 1; unfold rotI; rw [if_neg (by omega),if_neg (by omega)]
  ·unfold at0
   rw [List.getD_eq_getElem?_getD,List.getD_eq_getElem?_getD,List.getElem?_eq_none (by rw [Z1g]; exact g),List.getElem?_eq_none g]
 ins P hP p p1 p2:=by
  subst he
  rw [Z2x (p:=p) (by omega)]
  refine hP _ ?_ ?_ <;> unfold rotI <;> (repeat' split) <;> omega
 st hs p q hpq hq hk:=by
  subst he
  rw [Z1g] at hq
  rw [Z2x (p:=p) (by omega),Z2x hq] at hk ⊢
  have key:rotI a m b p<rotI a m b q∨(m≤rotI a m b p∧rotI a m b p<b∧a≤rotI a m b q∧rotI a m b q<m):=by
   unfold rotI; (repeat' split) <;> omega
  rcases key with key | ⟨k1,k2,k3,k4⟩
  ·exact hs _ _ key (Z11g h1 h2 h3 hq) hk
  ·have:=hlt _ _ k3 k4 k1 k2
   omega
end
end Go.Lift

namespace Go.Lift
theorem Z23.one {w w':World} {k:K} {x:k.T} {v:Value} {ok:Nat→Prop} (h:∀ fr,KRep w' fr k x v):Z23 w w' ok [.snap k] (x,()) v :=
 ⟨[v],[],rfl,fun i j b h=>by simp at h,v,[],[],[],rfl,rfl,⟨rfl,h _⟩,rfl,rfl⟩
section
variable {P:Program} {G:Z6r} {f:FuncId} {fn:Func} (hf:P.funcs[f]?=some fn) (hname:(fn.name == "runtime.NumGoroutine")=false) (hb:fn.body.isNone=true) (hn:Extern.findNext fn=none)
include hf hname hb hn
theorem Z1d7 (he:Extern.find fn=some Extern.MathFloatBits.float64bits):(Con.det [.flt .f64] [.snap (.int .u64)] (fun _=>True) (fun x=>Z2a x.1)).holds P G f:=by
 have main:∀ (w:World) (ok:Nat→Prop) (b:Nat) (vs:List Value),vs=[.float .f64 b]→Z1y P f vs.toArray w fun v w'=>Grows w w'∧Z23 w w' ok [.snap (.int .u64)] (Z2a b) v:=by
  rintro w ok b _ rfl
  refine .inl ⟨.int .u64 b,w,?_,Grows.refl w,Z23.one fun _=>rfl⟩
  rw [run_callFunc_extern hf hname hb hn he]; rfl
 rintro w ok _ ⟨b,⟨⟩⟩ vs ⟨v,r,rfl,h1,rfl⟩ _ _
 exact main w ok b _ h1
theorem Z1d8 (he:Extern.find fn=some Extern.MathFloatBits.float64frombits):(Con.det [.int .u64] [.snap (.flt .f64)] (fun _=>True) (fun x=>Z91 x.1)).holds P G f:=by
 have main:∀ (w:World) (ok:Nat→Prop) (b:Int) (vs:List Value),vs=[.int .u64 b]→Z1y P f vs.toArray w fun v w'=>Grows w w'∧Z23 w w' ok [.snap (.flt .f64)] (Z91 b) v:=by
  rintro w ok b _ rfl
  refine .inl ⟨.float .f64 b.toNat,w,?_,Grows.refl w,Z23.one fun _=>rfl⟩
  rw [run_callFunc_extern hf hname hb hn he]; rfl
 rintro w ok _ ⟨b,⟨⟩⟩ vs ⟨v,r,rfl,h1,rfl⟩ _ _
 exact main w ok b _ h1
theorem Z1hm (he:Extern.find fn=some Extern.MathSqrt.sqrt) {ne}:(Con.rel [.flt .f64] [.snap (.flt .f64)] (fun _=>True) (fun x r=>Zha x.1 r) ne).holds P G f:=by
 have main:∀ (w:World) (ok:Nat→Prop) (b:Nat) (vs:List Value),vs=[.float .f64 b]→Z1y P f vs.toArray w fun v w'=>∃ r:RS [.snap (.flt .f64)],Zha b r∧Grows w w'∧Z23 w w' ok [.snap (.flt .f64)] r v:=by
  rintro w ok b _ rfl
  have e:Extern.MathSqrt.sqrt [Value.float .f64 b].toArray=(match f64.format.sqrt b with
   | some r=>pure (.float .f64 r)
   | none=>do pure (.float .f64 (← choose (.nanBits .f64 b b)))):=rfl
  have key:∀ (r:Nat) (w':World),FRes .f64 (f64.format.sqrt b) r→Grows w w'→(Extern.MathSqrt.sqrt [Value.float .f64 b].toArray).run P w=.ok (.float .f64 r) w' →
    Z1y P f [Value.float .f64 b].toArray w fun v w'=>∃ r:RS [.snap (.flt .f64)],Zha b r∧Grows w w'∧Z23 w w' ok [.snap (.flt .f64)] r v:=by
   intro r w' hr hg hrun
   refine .inl ⟨.float .f64 r,w',?_,(r,()),Z1ke hr,hg,Z23.one fun _=>rfl⟩
   rw [run_callFunc_extern hf hname hb hn he,hrun]; rfl
  cases hs:f64.format.sqrt b with
  | some r=>exact key r w (by rw [hs]; rfl) (Grows.refl w) (by rw [e,hs]; rfl)
  | none =>
   refine key ((Question.nanBits .f64 b b).cut (w.tape w.drawn (.nanBits .f64 b b))) w.drew (by rw [hs]; exact Z1au _ _ _ _) (Grows.drew w) ?_
   have hq:(Question.nanBits .f64 b b).forced=false:=rfl
   rw [e,hs]
   simp [hq]
 rintro w ok _ ⟨b,⟨⟩⟩ vs ⟨v,r,rfl,h1,rfl⟩ _ _
 exact main w ok b _ h1
end
end Go.Lift

namespace Go.Lift
section
variable {P:Program} {G:Z6r} {f:FuncId} {fn:Func} (hf:P.funcs[f]?=some fn) (hname:(fn.name == "runtime.NumGoroutine")=false) (hb:fn.body.isNone=true) (hn:Extern.findNext fn=none)
include hf hname hb hn
theorem Z1fy (he:Extern.find fn=some (Extern.MathFloor.toIntegral "math.archFloor" .down)):(Con.det [.flt .f64] [.snap (.flt .f64)] (fun x=>WNum x.1) (fun x=>Zc7 x.1)).holds P G f:=by
 have main:∀ (w:World) (ok:Nat→Prop) (b:Nat) (vs:List Value),vs=[.float .f64 b]→WNum b→Z1y P f vs.toArray w fun v w'=>Grows w w'∧Z23 w w' ok [.snap (.flt .f64)] (Zc7 b) v:=by
  rintro w ok b _ rfl hq
  refine .inl ⟨.float .f64 (Z1e b),w,?_,Grows.refl w,Z23.one fun _=>rfl⟩
  rw [run_callFunc_extern hf hname hb hn he]
  have e:Extern.MathFloor.toIntegral "math.archFloor" .down [Value.float .f64 b].toArray=pure (.float .f64 (Z1e b)):=by
   show (match Ieee.double.read b with
    | .nan s t=>_
    | d=>pure (Value.float .f64 (f64.encode (d.integral .down))))=_
   have:(Ieee.double.read b).isNaN=false:=(Z1dw b).trans hq.2
   unfold Z1e
   cases h:Ieee.double.read b with
   | nan s t=>rw [h] at this; cases this
   | number s m e=>rfl
   | infinity s=>rfl
  rw [e]; rfl
 rintro w ok _ ⟨b,⟨⟩⟩ vs ⟨v,r,rfl,h1,rfl⟩ _ hp
 exact main w ok b _ h1 hp
end
end Go.Lift

namespace Go.Lift
def Zce (cx:Cx) (hn:Hn) (call:Z1u) (nt:Nat) (vars:List ResultVar) (code:Code) (args:List EV) (h:List HObj) (k:EV→List HObj→Prop):Prop :=
 Z30 cx hn call code (args++List.replicate (nt - args.length) (.x (.one .junk))) h fun e env h'=>match e with
  | .normal | .ret=>Zeb cx env h' vars fun vs=>k (EV.of vs) h'
  | _=>False
def EvOk (P:Program) (cx:Cx) (f:FuncId) (ev:List EV→List HObj→(EV→List HObj→Prop)→Prop):Prop:=∀ (c:RC) (_:c.Inv) (_:GOk cx.glob c) {args:List EV} {vs:List Value} {k:EV→List HObj→Prop},All2 (EV.rel c) args vs→ev args c.heap k →
 Z1y P f vs.toArray c.w fun v w'=>∃ ev c',k ev c'.heap∧c'.w=w'∧Ext c c'∧c'.Inv∧ev.rel c' v
theorem Z8l {P:Program} {cx:Cx} (hx:CxOk P cx) (hmix:P.follows .mixedOrders=true) {call:Z1u} (hcall:Z2e P cx call) {f nt:Nat} {vars:List ResultVar} {code:Code} (hf:FnAt P f nt vars code) (hn:Hn):EvOk P cx f (Zce cx hn call nt vars code):=by
 intro c hi hg args vs k hall h
 unfold Zce at h
 obtain ⟨fu,h1,h2,h3,h4,h5⟩:=hf.ex
 refine .inr ⟨Z90 h1 h2 h5 _ _,calls_of_wp h1 h2 ?_⟩
 have hE:=Z149 hall nt
 rw [← h3] at hE h
 refine Zit hx hmix hn hcall code (D:=dsts code) (fun t h=>h) hi (a:=⟨_,[]⟩) hg hE h fun e c' env' a' k1 k2 k3 k4 k5=>?_
 have fin:Zeb cx env' c'.heap vars (fun vs=>k (EV.of vs) c'.heap)→a'.defers=[]∧∃ v,(results fu a'.tmps).run P c'.w=.ok v c'.w∧∃ u,Ending.returned v=Ending.returned u∧∃ ev c2,k ev c2.heap∧c2.w=c'.w∧Ext c c2∧c2.Inv∧ev.rel c2 u:=by
  intro hr
  obtain ⟨xs,us,g1,g2,g3⟩:=Zh9 hx.1 k3 k4 vars hr
  obtain ⟨v,ev,hv⟩:=Ziu h4 g3
  exact ⟨k5.defers,v,hv,v,rfl,_,c',g1,rfl,k2,k3,EV.of_rel g2 ev⟩
 cases e with
 | normal=>exact fin k1
 | ret=>exact fin k1
 | _=>exact k1.elim
theorem EvOk.of {P:Program} {cx:Cx} {f:FuncId} {ev ev':List EV→List HObj→(EV→List HObj→Prop)→Prop} (h:EvOk P cx f ev') (hl:∀ args hp k,ev args hp k→ev' args hp k):EvOk P cx f ev:=fun c hi hg args vs k hall q=>h c hi hg hall (hl _ _ _ q)
theorem EvOk.ofN {P:Program} {cx:Cx} {f:FuncId} {ev:List EV→List HObj→(EV→List HObj→Prop)→Prop} {ev':Nat→List EV→List HObj→(EV→List HObj→Prop)→Prop} (h:∀ N,EvOk P cx f (ev' N)) (hl:∀ args hp k,ev args hp k→∃ N,ev' N args hp k):EvOk P cx f ev:=fun c hi hg args vs k hall q=>by
 obtain ⟨N,hN⟩:=hl _ _ _ q
 exact h N c hi hg hall hN
def Z1i (f0:FuncId) (ev:List EV→List HObj→(EV→List HObj→Prop)→Prop) (call:Z1u):Z1u:=fun f args h k=>match Nat.beq f f0 with
 | true=>ev args h k
 | false=>call f args h k
theorem Z81 {P:Program} {cx:Cx} {f0:FuncId} {ev:List EV→List HObj→(EV→List HObj→Prop)→Prop} {call:Z1u} (hev:EvOk P cx f0 ev) (hcall:Z2e P cx call):Z2e P cx (Z1i f0 ev call):=by
 intro c hi hg f args vs k hall h
 unfold Z1i at h
 split at h
 ·rename_i e
  have e:=Nat.eq_of_beq_eq_true e
  subst e
  exact hev c hi hg hall h
 ·exact hcall c hi hg hall h
def Zw (bed:List Nat) (i:Int):Int:=Z5e (Z1d (bed.getD i.toNat 0))
def keyB (bed:List Nat) (i:Int):Int:=-(Zw bed i)
def cmpB (bed:List Nat) (x y:Int):Int:=ordF (Z1d (bed.getD y.toNat 0)) (Z1d (bed.getD x.toNat 0))
def AllW (bed:List Nat):Prop:=∀ b ∈ bed,W64 b
def Z2y (bed:List Nat) (xs:List Int):Prop:=AllW bed∧(∀ x ∈ xs,0≤x∧x<bed.length)∧xs.length≤maxN
def Z6g (ti:TypeId) (args:List EV) (h:List HObj) (k:EV→List HObj→Prop):Prop:=match args,h with
 | [.x (.one (.osl 1 0 len)),.x (.one (.val (.int .i64 a))),.x (.one (.val (.int .i64 b))),.x (.one (.val (.int .i64 n))),_],[.box m tb cs,.row .rw t (.int .i64) xs] =>
  ∃ _:t=ti∧len=@List.length Int xs∧@List.length Int xs≤maxN∧0≤a∧0≤n∧a+n≤b∧b+n≤(@List.length Int xs:Int),∀ ys:List Int,ys=Z2j xs (swI a.toNat b.toNat n.toNat)∧ys.Perm xs→k (.tup []) [.box m tb cs,.row .rw t (.int .i64) ys]
 | _,_=>False
def Zeh (ti:TypeId) (args:List EV) (h:List HObj) (k:EV→List HObj→Prop):Prop:=match args,h with
 | [.x (.one (.osl 1 0 len)),.x (.one (.val (.int .i64 a))),.x (.one (.val (.int .i64 m))),.x (.one (.val (.int .i64 b))),_],[.box md tb cs,.row .rw t (.int .i64) xs] =>
  ∃ _:t=ti∧len=@List.length Int xs∧@List.length Int xs≤maxN∧0≤a∧a<m∧m<b∧b≤(@List.length Int xs:Int),∀ ys:List Int,ys=Z2j xs (rotI a.toNat m.toNat b.toNat)∧ys.Perm xs→k (.tup []) [.box md tb cs,.row .rw t (.int .i64) ys]
 | _,_=>False
def Zhh (ti:TypeId) (fc:FuncId) (args:List EV) (h:List HObj) (k:EV→List HObj→Prop):Prop:=match args,h with
 | [.x (.one (.osl 1 0 len)),.x (.one (.val (.int .i64 a))),.x (.one (.val (.int .i64 b))),.x (.one (.clo f [] [.ref 0 0]))],[.box m tb [.data (.slice (.flt .f64)) bed],.row .rw t (.int .i64) xs] =>
  ∃ _:t=ti∧f=fc∧len=@List.length Int xs∧Z2y bed xs∧0≤a∧a≤b∧b≤(@List.length Int xs:Int),∀ ys:List Int,Rr (keyB bed) a.toNat b.toNat xs ys∧Sgm (keyB bed) ys a.toNat b.toNat→k (.tup []) [.box m tb [.data (.slice (.flt .f64)) bed],.row .rw t (.int .i64) ys]
 | _,_=>False
def Zhi (ti:TypeId) (fc:FuncId) (N:Nat) (args:List EV) (h:List HObj) (k:EV→List HObj→Prop):Prop:=match args,h with
 | [.x (.one (.osl 1 0 len)),.x (.one (.val (.int .i64 a))),.x (.one (.val (.int .i64 m))),.x (.one (.val (.int .i64 b))),.x (.one (.clo f [] [.ref 0 0]))],[.box md tb [.data (.slice (.flt .f64)) bed],.row .rw t (.int .i64) xs] =>
  ∃ _:t=ti∧f=fc∧len=@List.length Int xs∧Z2y bed xs∧0≤a∧a<m∧m<b∧b≤(@List.length Int xs:Int)∧(b - a).toNat<N∧Sgm (keyB bed) xs a.toNat m.toNat∧Sgm (keyB bed) xs m.toNat b.toNat,∀ ys:List Int,Rr (keyB bed) a.toNat b.toNat xs ys∧Sgm (keyB bed) ys a.toNat b.toNat→k (.tup []) [.box md tb [.data (.slice (.flt .f64)) bed],.row .rw t (.int .i64) ys]
 | _,_=>False
def Z16x (ti:TypeId) (fc:FuncId) (args:List EV) (h:List HObj) (k:EV→List HObj→Prop):Prop:=match args,h with
 | [.x (.one (.osl 1 0 len)),.x (.one (.val (.int .i64 n))),.x (.one (.clo f [] [.ref 0 0]))],[.box m tb [.data (.slice (.flt .f64)) bed],.row .rw t (.int .i64) xs] =>
  ∃ _:t=ti∧f=fc∧len=@List.length Int xs∧Z2y bed xs∧n=(@List.length Int xs:Int),∀ ys:List Int,Rr (keyB bed) 0 n.toNat xs ys∧Sgm (keyB bed) ys 0 n.toNat→k (.tup []) [.box m tb [.data (.slice (.flt .f64)) bed],.row .rw t (.int .i64) ys]
 | _,_=>False
def Zyb (ti:TypeId) (fc:FuncId) (args:List EV) (h:List HObj) (k:EV→List HObj→Prop):Prop:=match args,h with
 | [.x (.one (.osl 1 0 len)),.x (.one (.clo f [] [.ref 0 0]))],[.box m tb [.data (.slice (.flt .f64)) bed],.row .rw t (.int .i64) xs] =>
  ∃ _:t=ti∧f=fc∧len=@List.length Int xs∧Z2y bed xs,∀ ys:List Int,Rr (keyB bed) 0 (@List.length Int xs) xs ys∧Sgm (keyB bed) ys 0 (@List.length Int xs)→k (.tup []) [.box m tb [.data (.slice (.flt .f64)) bed],.row .rw t (.int .i64) ys]
 | _,_=>False
end Go.Lift

namespace Go.Lift
def Z70 (a b:Nat):Int × Unit:=r1 (ordF (Z1d a) (Z1d b))
def Z3o (a b:Nat):Bool:=decide (ordF (Z1d a) (Z1d b)<0)
def Zfi (a b:Nat):Bool × Unit:=r1 (Z3o a b)
def seg (a b:Int):List Int:=(List.range' a.toNat (b.toNat - a.toNat)).map fun n:Nat=>(n:Int)
def leB (bed:List Nat) (x y:Int):Bool:=decide (keyB bed x<keyB bed y∨(keyB bed x=keyB bed y∧x≤y))
def Z1l (bed:List Nat) (a b:Int):List Int:=(seg a b).mergeSort (leB bed)
def Z5j (bed:List Nat) (a b:Int):List Int × Unit:=(Z1l bed a b,())
def ordL (bed:List Nat):List Int:=Z1l bed 0 bed.length
def Z9b (bed:List Nat):List Int × Unit:=(ordL bed,())
def WOrd (bed:List Nat):Prop:=AllW bed∧bed.length≤65536
def Z1d9 (bed:List Nat) (a b:Int):Prop:=WOrd bed∧0≤a∧a≤b∧b≤(bed.length:Int)
def Z16y (N:Nat) (bed:List Nat) (a b:Int):Prop:=Z1d9 bed a b∧(b - a).toNat<N
def mrgL (bed:List Nat) (l r:List Int):List Int:=List.merge l r (fun x y=>decide (keyB bed x≤keyB bed y))
def mrgR (bed:List Nat) (l r:List Int):List Int × Unit:=(mrgL bed l r,())
def WMrg (bed:List Nat) (l r:List Int):Prop:=WOrd bed∧(∀ x ∈ l,0≤x∧x<(bed.length:Int))∧(∀ x ∈ r,0≤x∧x<(bed.length:Int))∧l.length≤65536∧r.length≤65536
def Z9c (x y:Int) (p:Option (List Nat)):Int × Unit:=match p with
 | some bed=>r1 (cmpB bed x y)
 | none=>r1 0
def WCmp (x y:Int) (p:Option (List Nat)):Prop:=∃ bed,p=some bed∧(0≤x∧x<(bed.length:Int))∧(0≤y∧y<(bed.length:Int))∧AllW bed
end Go.Lift

namespace Go.Lift
def Z2c (s:Int):List Int→Bool
 | []=>true
 | x :: l=>if x<0∨x > 4503599627370496 - s then false else Z2c (s+x) l
def Z16z (l:List Int):Bool × Unit:=r1 (Z2c 0 l)
def Zpt (l:List Int):List Int × Unit:=(l,())
def Z170 (l:List Int):Prop:=l.length≤65536
abbrev SeaT:=List Nat × List Int × List Int × List Nat × Int × Int
def Zei (n m:Int) (s:SeaT):Bool:=decide ((s.1.length:Int)=n)&&decide ((s.2.1.length:Int)=n)&&decide ((s.2.2.1.length:Int)=n)&&decide ((s.2.2.2.1.length:Int)=m)
def Z1da (g:Option Gr):Int:=match g with
 | none=>0
 | some g=>g.1
def Zhj (bed:List Nat) (best to:Int):Int:=if best<0∨Zw bed to<Zw bed best∨(Zw bed to=Zw bed best∧to<best) then to else best
def Zv (n:Int) (bed:List Nat) (c:Int):Nat→Int
 | 0=>-1
 | k+1=>Zhj bed (Zv n bed c k) (Z3 n c k).1
def Z48 (n:Int) (bed:List Nat) (c:Int):Int:=if Zw bed (Zv n bed c 4)<Zw bed c then Zv n bed c 4 else -1
def Z22 (some:Bool) (cells n:Int) (bed:List Nat) (c:Int):Int:=if !some∨(bed.length:Int)≠cells∨c<0∨(bed.length:Int)≤c then -1 else Z48 n bed c
def Z1m (g:Option Gr) (bed:List Nat) (c:Int):Int × Unit:=r1 (Z22 g.isSome (Z6b g) (Z1da g) bed c)
def Z3l (g:Option Rg) (bed:List Nat) (c:Int):Int × Unit:=r1 (Z22 g.isSome (Zb (Z16t g)) (Z16t g) bed c)
def Z27 (g:Option Gr) (bed:List Nat) (c:Int):Prop:=NetP g∧AllW bed
def Z3m (g:Option Rg) (bed:List Nat) (c:Int):Prop:=Zrr g∧AllW bed
def Zfj (w a:Int):Bool:=fcmp Go.BinOp.lss (f64.format.order (Zxq w a).1 4602678819172646912)
def mvL (l:List Int) (i j:Int) (d:Int):List Int:=(l.set i.toNat (l.getD i.toNat 0 - d)).set j.toNat ((l.set i.toNat (l.getD i.toNat 0 - d)).getD j.toNat 0+d)
def Z3i (area down:Int→Int) (st:List Int × List Int) (c:Int):List Int × List Int :=
 if down c<0∨st.1.getD c.toNat 0≤0∨Zfj (st.1.getD c.toNat 0) (area c)=false then st else
 (mvL st.1 c (down c) (st.1.getD c.toNat 0 / 4),mvL st.2 c (down c) (part (st.2.getD c.toNat 0) (st.1.getD c.toNat 0 / 4) (st.1.getD c.toNat 0)))
def runA (area down:Int→Int) (order:List Int) (st:List Int × List Int):List Int × List Int:=order.foldl (Z3i area down) st
def runF (some:Bool) (n m:Int) (area down:Int→Int) (s:SeaT):List Int × List Int × Int × Unit:=if !some then ([],[],2,()) else
 if (Zei n m s&&Z2c 0 s.2.1)&&Z2c 0 s.2.2.1 then ((runA area down (ordL s.1) (s.2.1,s.2.2.1)).1,(runA area down (ordL s.1) (s.2.1,s.2.2.1)).2,0,()) else ([],[],1,())
def Z7w (g:Option Gr) (s:SeaT):List Int × List Int × Int × Unit:=runF g.isSome (Z6b g) (Zy2 g) (Z1c (Z1da g)) (Z22 g.isSome (Z6b g) (Z1da g) s.1) s
def WRun (g:Option Gr) (s:SeaT):Prop:=NetP g∧AllW s.1∧AllI s.2.1∧AllI s.2.2.1
end Go.Lift

namespace Go.Lift
def yesD (_:Int) (_:List Nat) (_:Int):Bool × Unit:=(true,())
def Z1ic (n:Int) (bed:List Nat) (c:Int):Prop:=I64 n∧AllW bed∧I64 c
end Go.Lift

namespace Go.Lift
open Go.Proofs
def Zi:List (Nat × TD):=[
 (72,⟨.arr 4 2,4,32,[.int .i64 0,.int .i64 0,.int .i64 0,.int .i64 0],some (.arr 4 (.int .i64))⟩),
 (138,⟨.struct [(0,3),(1,3),(2,3)],3,24,[.int .i64 0,.int .i64 0,.int .i64 0],some (.pair (.int .i64) (.pair (.int .i64) (.int .i64)))⟩),
 (95,⟨.struct [(0,3),(1,84),(2,49)],3,56,[.int .i64 0,.slice none 0 0,.slice none 0 0],some (.pair (.int .i64) (.pair (.slice (.pair (.int .i64) (.pair (.int .i64) (.pair (.int .i64) (.int .i64))))) (.slice (.int .i64))))⟩),
 (25,⟨.ptr 95,1,8,[.pointer none],some (.ptr (.pair (.int .i64) (.pair (.slice (.pair (.int .i64) (.pair (.int .i64) (.pair (.int .i64) (.int .i64))))) (.slice (.int .i64)))))⟩),
 (2,⟨.int .i64,1,8,[.int .i64 0],some (.int .i64)⟩),
 (3,⟨.int .i64,1,8,[.int .i64 0],some (.int .i64)⟩),
 (4,⟨.bool,1,1,[.bool false],some (.bool)⟩),
 (5,⟨.int .u8,1,1,[.int .u8 0],some (.int .u8)⟩),
 (9,⟨.str,1,16,[.string ⟨#[]⟩],none⟩),
 (201,⟨.int .u32,1,4,[.int .u32 0],some (.int .u32)⟩),
 (28,⟨.int .i64,1,8,[.int .i64 0],some (.int .i64)⟩),
 (70,⟨.int .u64,1,8,[.int .u64 0],some (.int .u64)⟩),
 (37,⟨.slice 59,1,24,[.slice none 0 0],some (.slice (.flt .f64))⟩),
 (22,⟨.slice 2,1,24,[.slice none 0 0],some (.slice (.int .i64))⟩),
 (60,⟨.slice 4,1,24,[.slice none 0 0],some (.slice (.bool))⟩),
 (39,⟨.struct [(0,37),(1,22),(2,22),(3,37),(4,2),(5,3)],6,112,[.slice none 0 0,.slice none 0 0,.slice none 0 0,.slice none 0 0,.int .i64 0,.int .i64 0],some (.pair (.slice (.flt .f64)) (.pair (.slice (.int .i64)) (.pair (.slice (.int .i64)) (.pair (.slice (.flt .f64)) (.pair (.int .i64) (.int .i64))))))⟩),
 (59,⟨.flt .f64,1,8,[.float .f64 0],some (.flt .f64)⟩),
 (73,⟨.arr 4 3,4,32,[.int .i64 0,.int .i64 0,.int .i64 0,.int .i64 0],some (.arr 4 (.int .i64))⟩),
 (118,⟨.int .u64,1,8,[.int .u64 0],some (.int .u64)⟩),
 (130,⟨.struct [(0,59),(1,59),(2,59)],3,24,[.float .f64 0,.float .f64 0,.float .f64 0],some (.pair (.flt .f64) (.pair (.flt .f64) (.flt .f64)))⟩),
 (131,⟨.arr 4 130,12,96,[.float .f64 0,.float .f64 0,.float .f64 0,.float .f64 0,.float .f64 0,.float .f64 0,.float .f64 0,.float .f64 0,.float .f64 0,.float .f64 0,.float .f64 0,.float .f64 0],some (.arr 4 (.pair (.flt .f64) (.pair (.flt .f64) (.flt .f64))))⟩),
 (92,⟨.arr 2 3,2,16,[.int .i64 0,.int .i64 0],some (.arr 2 (.int .i64))⟩),
 (105,⟨.arr 4 92,8,64,[.int .i64 0,.int .i64 0,.int .i64 0,.int .i64 0,.int .i64 0,.int .i64 0,.int .i64 0,.int .i64 0],some (.arr 4 (.arr 2 (.int .i64)))⟩),
 (169,⟨.arr 3 59,3,24,[.float .f64 0,.float .f64 0,.float .f64 0],some (.arr 3 (.flt .f64))⟩),
 (108,⟨.arr 3 3,3,24,[.int .i64 0,.int .i64 0,.int .i64 0],some (.arr 3 (.int .i64))⟩),
 (170,⟨.arr 3 108,9,72,[.int .i64 0,.int .i64 0,.int .i64 0,.int .i64 0,.int .i64 0,.int .i64 0,.int .i64 0,.int .i64 0,.int .i64 0],some (.arr 3 (.arr 3 (.int .i64)))⟩),
 (171,⟨.arr 6 170,54,432,[.int .i64 0,.int .i64 0,.int .i64 0,.int .i64 0,.int .i64 0,.int .i64 0,.int .i64 0,.int .i64 0,.int .i64 0,.int .i64 0,.int .i64 0,.int .i64 0,.int .i64 0,.int .i64 0,.int .i64 0,.int .i64 0,.int .i64 0,.int .i64 0,.int .i64 0,.int .i64 0,.int .i64 0,.int .i64 0,.int .i64 0,.int .i64 0,.int .i64 0,.int .i64 0,.int .i64 0,.int .i64 0,.int .i64 0,.int .i64 0,.int .i64 0,.int .i64 0,.int .i64 0,.int .i64 0,.int .i64 0,.int .i64 0,.int .i64 0,.int .i64 0,.int .i64 0,.int .i64 0,.int .i64 0,.int .i64 0,.int .i64 0,.int .i64 0,.int .i64 0,.int .i64 0,.int .i64 0,.int .i64 0,.int .i64 0,.int .i64 0,.int .i64 0,.int .i64 0,.int .i64 0,.int .i64 0],some (.arr 6 (.arr 3 (.arr 3 (.int .i64))))⟩),
 (49,⟨.slice 3,1,24,[.slice none 0 0],some (.slice (.int .i64))⟩),
 (109,⟨.arr 3 3,3,24,[.int .i64 0,.int .i64 0,.int .i64 0],some (.arr 3 (.int .i64))⟩),
 (111,⟨.arr 3 109,9,72,[.int .i64 0,.int .i64 0,.int .i64 0,.int .i64 0,.int .i64 0,.int .i64 0,.int .i64 0,.int .i64 0,.int .i64 0],some (.arr 3 (.arr 3 (.int .i64)))⟩),
 (112,⟨.arr 6 111,54,432,[.int .i64 0,.int .i64 0,.int .i64 0,.int .i64 0,.int .i64 0,.int .i64 0,.int .i64 0,.int .i64 0,.int .i64 0,.int .i64 0,.int .i64 0,.int .i64 0,.int .i64 0,.int .i64 0,.int .i64 0,.int .i64 0,.int .i64 0,.int .i64 0,.int .i64 0,.int .i64 0,.int .i64 0,.int .i64 0,.int .i64 0,.int .i64 0,.int .i64 0,.int .i64 0,.int .i64 0,.int .i64 0,.int .i64 0,.int .i64 0,.int .i64 0,.int .i64 0,.int .i64 0,.int .i64 0,.int .i64 0,.int .i64 0,.int .i64 0,.int .i64 0,.int .i64 0,.int .i64 0,.int .i64 0,.int .i64 0,.int .i64 0,.int .i64 0,.int .i64 0,.int .i64 0,.int .i64 0,.int .i64 0,.int .i64 0,.int .i64 0,.int .i64 0,.int .i64 0,.int .i64 0,.int .i64 0],some (.arr 6 (.arr 3 (.arr 3 (.int .i64))))⟩),
 (87,⟨.struct [(0,3),(1,84),(2,83),(3,85),(4,22),(5,37),(6,37)],7,136,[.int .i64 0,.slice none 0 0,.map none,.slice none 0 0,.slice none 0 0,.slice none 0 0,.slice none 0 0],some (.pair (.int .i64) (.pair (.slice (.pair (.int .i64) (.pair (.int .i64) (.pair (.int .i64) (.int .i64))))) (.pair (.map (.pair (.int .i64) (.int .i64)) (.int .i64)) (.pair (.slice (.arr 2 (.int .i64))) (.pair (.slice (.int .i64)) (.pair (.slice (.flt .f64)) (.slice (.flt .f64))))))))⟩),
 (24,⟨.ptr 87,1,8,[.pointer none],some (.ptr (.pair (.int .i64) (.pair (.slice (.pair (.int .i64) (.pair (.int .i64) (.pair (.int .i64) (.int .i64))))) (.pair (.map (.pair (.int .i64) (.int .i64)) (.int .i64)) (.pair (.slice (.arr 2 (.int .i64))) (.pair (.slice (.int .i64)) (.pair (.slice (.flt .f64)) (.slice (.flt .f64)))))))))⟩),
 (91,⟨.struct [(0,3),(1,3),(2,3),(3,3)],4,32,[.int .i64 0,.int .i64 0,.int .i64 0,.int .i64 0],some (.pair (.int .i64) (.pair (.int .i64) (.pair (.int .i64) (.int .i64))))⟩),
 (84,⟨.slice 91,1,24,[.slice none 0 0],some (.slice (.pair (.int .i64) (.pair (.int .i64) (.pair (.int .i64) (.int .i64)))))⟩),
 (85,⟨.slice 92,1,24,[.slice none 0 0],some (.slice (.arr 2 (.int .i64)))⟩),
 (83,⟨.map 124 3,1,8,[.map none],some (.map (.pair (.int .i64) (.int .i64)) (.int .i64))⟩),
 (124,⟨.struct [(0,3),(1,3)],2,16,[.int .i64 0,.int .i64 0],some (.pair (.int .i64) (.int .i64))⟩),
 (88,⟨.plain,1,8,[.nilFunc],none⟩),
 (89,⟨.slice 88,1,24,[.slice none 0 0],none⟩)]
theorem Z7:tabB Tryz.prog Zi=true:=by kernel_rfl
theorem Z8:Tryz.prog.follows .mixedOrders=true:=by kernel_rfl
def RbG:Z6r:=fun g=>match g with | 0=>some ⟨.arr 6 (.arr 3 (.arr 3 (.int .i64))),Zm⟩ | 4=>some ⟨.arr 6 (.arr 3 (.arr 3 (.int .i64))),Zm⟩ | _=>none
noncomputable def Ziw (f:Nat):Option InFn:=match f with
 | 167=>some ⟨Tryz.f167.ntmps,Tryz.f167.results.toList,Tryz.f167.body.getD .skip,{ loops:=fun _=>none,joins:=fun _=>none,inl:=inlL [167,180,188],unroll:=fun k=>some 4 }⟩
 | 180=>some ⟨Tryz.f180.ntmps,Tryz.f180.results.toList,Tryz.f180.body.getD .skip,{ loops:=fun _=>none,joins:=fun _=>none,inl:=inlL [167,180,188],unroll:=fun k=>some 4 }⟩
 | 188=>some ⟨Tryz.f188.ntmps,Tryz.f188.results.toList,Tryz.f188.body.getD .skip,{ loops:=fun _=>none,joins:=fun _=>none,inl:=inlL [167,180,188],unroll:=fun k=>some 4 }⟩
 | _=>none
theorem Z11h:Z16m Tryz.prog Ziw:=by
 intro f fn h
 unfold Ziw at h
 split at h
 ·cases h; exact ⟨Tryz.f167,Tryz.func167,rfl,rfl,by simp,by decide⟩
 ·cases h; exact ⟨Tryz.f180,Tryz.func180,rfl,rfl,by simp,by decide⟩
 ·cases h; exact ⟨Tryz.f188,Tryz.func188,rfl,rfl,by simp,by decide⟩
 ·cases h
noncomputable def Zfk (f:Nat):Option InFn:=match f with
 | 54=>some ⟨Tryz.f54.ntmps,Tryz.f54.results.toList,Tryz.f54.body.getD .skip,{ loops:=Z2b [(6,{ ls:=[(.slot 5,.data (.int .i64))],os:=[(3,2,.int .i64)] })],joins:=fun _=>none,named:=true }⟩
 | _=>none
theorem Zyc:Z16m Tryz.prog Zfk:=by
 intro f fn h
 unfold Zfk at h
 split at h
 ·cases h; exact ⟨Tryz.f54,Tryz.func54,rfl,rfl,by simp,by decide⟩
 ·cases h
noncomputable def Zm6 (f:Nat):Option InFn:=match f with
 | 59=>some ⟨Tryz.f59.ntmps,Tryz.f59.results.toList,Tryz.f59.body.getD .skip,{ loops:=Z2b [(1,{ ls:=[(.slot 7,.data (.int .i64)),(.cell 1 1,.row 91 Z1x)],os:=[(0,83,.ent (.pair (.int .i64) (.int .i64)) (.int .i64))] })],joins:=fun _=>none }⟩
 | 60=>some ⟨Tryz.f60.ntmps,Tryz.f60.results.toList,Tryz.f60.body.getD .skip,nHn⟩
 | _=>none
theorem Z155:Z16m Tryz.prog Zm6:=by
 intro f fn h
 unfold Zm6 at h
 split at h
 ·cases h; exact ⟨Tryz.f59,Tryz.func59,rfl,rfl,by simp,by decide⟩
 ·cases h; exact ⟨Tryz.f60,Tryz.func60,rfl,rfl,by simp,by decide⟩
 ·cases h
end Go.Lift

namespace Go.Lift
theorem rngF {b:Nat} (h:K.rng (.flt .f64) b):W64 b:=by
 have h:(Lit.float .f64 b).wf=true:=h
 have:=of_decide_eq_true (show decide (b<2 ^ 64)=true from h)
 exact this
theorem rngL {l:List Nat} (h:K.rng (.slice (.flt .f64)) l):WL l:=fun x hx=>rngF (h x hx)
end Go.Lift

namespace Go.Lift
open Go.ChangeShapes Go.WideShapes Go.RowKit
mutual
def K.ofD:(k:K)→DataW Unit→Option k.T
 | .int ik,.lit (.int jk n)=>if jk=ik then some n else none
 | .arr n e,.agg ds=>match ofDs e ds with
  | some xs=>if xs.length=n then some xs else none
  | none=>none
 | _,_=>none
def ofDs:(e:K)→List (DataW Unit)→Option (List e.T)
 | _,[]=>some []
 | e,d :: ds=>match K.ofD e d with
  | some x=>match ofDs e ds with
   | some xs=>some (x :: xs)
   | none=>none
  | none=>none
end
theorem Z1bk {α:Type} {R:α→List Value→Prop} {s:Nat}:∀ {ys:List α} {cs:List Value},cs.length=ys.length*s→(∀ (i:Nat) (y:α),ys[i]?=some y→R y ((cs.drop (i*s)).take s))→Rows R ys cs
 | [],cs,h,_=>List.eq_nil_of_length_eq_zero (by simpa using h)
 | y :: ys,cs,h,hr=>by
  rw [List.length_cons,Nat.add_mul,Nat.one_mul] at h
  refine ⟨cs.take s,cs.drop s,(List.take_append_drop s cs).symm,by simpa using hr 0 y rfl,Z1bk (s:=s) (by rw [List.length_drop]; omega) fun i z hz=>?_⟩
  have:=hr (i+1) z (by simpa using hz)
  rwa [Nat.add_mul,Nat.one_mul,Nat.add_comm,← List.drop_drop] at this
theorem Z18l:∀ {e:K} {ds:List (DataW Unit)} {xs:List e.T},ofDs e ds=some xs→xs.length=ds.length∧∀ (i:Nat) (x:e.T),xs[i]?=some x→∃ d,ds[i]?=some d∧K.ofD e d=some x
 | e,[],xs,h=>by simp only [ofDs,Option.some.injEq] at h; subst h; exact ⟨rfl,fun i x hx=>by simp at hx⟩
 | e,d :: ds,xs,h=>by
  simp only [ofDs] at h
  split at h
  ·rename_i x hx
   split at h
   ·rename_i ys hys
    cases h
    obtain ⟨h1,h2⟩:=Z18l hys
    refine ⟨by simp [h1],fun i z hz=>?_⟩
    cases i with
    | zero=>simp at hz; subst hz; exact ⟨d,rfl,hx⟩
    | succ i=>simpa using h2 i z (by simpa using hz)
   ·cases h
  ·cases h
theorem Z1hn {P:Program} {w:World} {ok:Nat→Prop}:∀ {k:K} {t:TypeId},KT P t k→∀ {fuel:Nat} {cs:List Value} {x:DataW Unit × List MemPlace} {y:k.T},DataW.trod (fun _=>()) P w 0 (fun _=>true) false fuel t cs=some x→K.ofD k x.1=some y→k.rep w ok y cs:=by
 intro k
 induction k with
 | int ik =>
  intro t hk fuel cs x y h hy
  cases hk with
  | int ht =>
   obtain ⟨n,h1,h2,_⟩:=DataW.trod_int ht h
   rw [h2] at hy
   simp only [K.ofD,if_true] at hy
   obtain rfl:=Option.some.inj hy
   exact h1
 | arr n e ih =>
  intro t hk fuel cs x y h hy
  cases hk with
  | arr ht hc hs he =>
   obtain ⟨xs,m,rfl,rfl,h1,h2,h3⟩:=DataW.trod_array ht h
   simp only [K.ofD] at hy
   split at hy
   ·rename_i ys hys
    split at hy
    ·rename_i hl
     cases hy
     obtain ⟨g1,g2⟩:=Z18l hys
     refine ⟨hl,Z1bk (s:=e.sz) (by rw [h1,hs,hl]) fun i z hz=>?_⟩
     obtain ⟨d,hd,hz2⟩:=g2 i z hz
     have hi:i<n:=by rw [← hl]; exact (List.getElem?_eq_some_iff.1 hz).1
     have h4:=h3 i hi
     rw [hc] at h4
     rw [List.getElem?_map] at hd
     cases hx:xs[i]? with
     | none=>rw [hx] at hd; cases hd
     | some q =>
      rw [hx] at hd h4
      cases hd
      exact ih he h4 hz2
    ·cases hy
   ·cases hy
 | _=>intro t hk fuel cs x y h hy; simp [K.ofD] at hy
theorem Z18m {P:Program} {w:World} {n:String} {d:DataW Unit}:∀ {l:List (String × DataW Unit)} {ps:List MemPlace},DataW.LaidVars P w l ps→(n,d) ∈ l →
  ∃ g t cs fuel p,P.globalNamed n=some g∧(P.globals[g]?).map (·.type)=some t∧w.var? P n=some cs∧DataW.trod (fun _=>()) P w 0 (fun _=>true) false fuel t cs.toList=some (d,p)
 | [],ps,_,h=>by cases h
 | (m,e) :: l,ps,⟨g,t,cs,fuel,p,q,h1,h2,h3,h4,h5,_⟩,h=>by
  rcases List.mem_cons.1 h with h | h
  ·cases h; exact ⟨g,t,cs,fuel,p,h1,h2,h3,h4⟩
  ·exact Z18m h5 h
theorem Z18n {P:Program} {w:World} {l:List (String × DataW Unit)} (h:laidMet P l w) {n:String} {d:DataW Unit} (hm:(n,d) ∈ l) {g:Nat} {t:TypeId} (hg:P.globalNamed n=some g) (ht:(P.globals[g]?).map (·.type)=some t) {k:K} (hk:KT P t k) {x:k.T} (hx:K.ofD k d=some x) :
  (K.ptr k).rep w (fun b=>b<w.heap.size) (some x) [.pointer (some ⟨g,0,none⟩)]:=by
 obtain ⟨ps,h1,_,_⟩:=h
 obtain ⟨g',t',cs,fuel,p,h2,h3,h4,h5⟩:=Z18m h1 hm
 rw [hg] at h2; cases h2
 rw [ht] at h3; cases h3
 have hlt:g<w.heap.size:=by
  simp only [World.var?,hg,Option.bind_some] at h4
  split at h4
  ·rename_i hh; exact Z19 hh
  ·cases h4
 refine .inr ⟨x,g,0,cs.toList,rfl,rfl,hlt,Z1hn hk h5 hx,fun j v hj=>?_⟩
 rw [Nat.zero_add,World.var?_cell hg h4 j]
 simpa using hj
section
variable {H:Type} {enc:TypeId × Value→H}
theorem Z1ho {C:Checked} {os:Os} {f:FuncId} {fn:Func} {s:ChangeSpec} {ks:List K} {pre:KS ks→Prop} {tb:TypeId} {G:Z6r} {X:World→Array Value→Prop} (hX:∀ (w w':World) (args:Array Value),w.heap=w'.heap→X w args→X w' args) (hG:∀ (w:World) (args:Array Value),X w args→GW G w (fun b=>b<w.heap.size))
  (own:ownKnob C.prog.godebug=none) (started:os.Started) (noInit:C.prog.inits.idxOf? f=none)
  (hfn:C.prog.funcs[f]?=some fn) (hbody:fn.body.isSome=true) (hname:(fn.name == "runtime.NumGoroutine")=false)
  (witness:∃ (w:World) (tape:Tape) (i:Input),w.os=os∧(w.forCall tape i).Shaped C.prog∧i.vars=[]∧Input.okWide C.prog (w.forCall tape i) .any w.heap.size f i ∧
   ((s.pre enc C.prog fn [] false (w.forCall tape i).memory i.args∧X (w.forCall tape i).memory i.args)∧sizedMet enc C.prog fn (OpenSpec.ofChange s) false (w.forCall tape i).memory i.args)∧({}:Assume).holds C.prog (lone (Frame.enter C.prog f i.args .normal) [] (w.forCall tape i)))
  (hl:laidOutB C.prog=true) (hks:All2 (KT C.prog) fn.params.toList ks) (hread:∀ t ∈ fn.params.toList,C.prog.readableRec t=true∧t<C.prog.types.size)
  (hres:fn.resultTypes=#[tb]) (htb:C.prog.underlying tb=some .bool) (hs:Z1b4 s ks.length)
  (hcon:(Con.det ks [.snap .bool] pre (fun _=>(true,()))).holds C.prog G f) (hpre:∀ x,KS.rng ks x→KS.wf ks x→pre x) :
  ReturnsInHanded {} C os f .any (fun w args=>(s.pre enc C.prog fn [] false w args∧X w args)∧sizedMet enc C.prog fn (OpenSpec.ofChange s) false w args) (s.post enc C.prog fn false true false false):=by
 refine returnsInHanded_of_calls own started noInit witness ?_
 intro w tape i _ _ _ hok hp hholds
 obtain ⟨_,_,_,fn',hfn',_,_,_,_,hval⟩:=hok
 have e:fn'=fn:=Option.some.inj (hfn'.symm.trans hfn)
 subst e
 obtain ⟨⟨⟨ds,gs,before,hw,hc⟩,hx⟩,hz⟩:=hp
 have hx:=hX _ (w.forCall tape i) _ (by rfl) hx
 have hW:=DataW.Whole.of_heap (w':=w.forCall tape i) (by rfl) hw
 have hwt:=hz.weights hw
 generalize w.forCall tape i=W at *
 have hlt:∀ p ∈ before,p.block<W.heap.size:=fun p hp=>hW.lt p hp
 obtain ⟨p,q,hA,hV,rfl,hfz,hnd⟩:=id hW
 rw [hs.1] at hV
 obtain ⟨rfl,rfl⟩:=trodVars_none hV
 have hvt:(OpenSpec.ofChange s).bare.plain.varTypes C.prog=[]:=by
  show (s.plain.varTypes C.prog)=[]
  unfold DataSpec.varTypes
  show s.vars.filterMap _=[]
  rw [hs.1]; rfl
 simp only [List.append_nil] at hwt hW hlt
 rw [hvt,List.append_nil,List.all_eq_true] at hwt
 obtain ⟨x,h1,h2,h3⟩:=Z1gy hks hA (fun j t v ht hv=>hval j t v (by simpa using ht) (by simpa using hv)) (fun m hm=>by simpa using hwt m hm)
 have hspec:=hcon W (fun b=>b<W.heap.size) (fun _ h=>h) x i.args.toList h1 (hG W _ hx) (hpre x h2 h1.wf)
 obtain ⟨code,hcode⟩:=Option.isSome_iff_exists.1 hbody
 have hcalls:Calls C.prog f i.args W fun e w'=>∃ v,e=.returned v∧Grows W w'∧Z23 W w' (fun b=>b<W.heap.size) [.snap .bool] (true,()) v:=by
  rcases hspec with ⟨v,w',g1,_⟩ | ⟨_,g2⟩
  ·have:=Z90 hfn hcode hname i.args.toList.toArray W
   rw [this] at g1; cases g1
  ·simpa using g2
 refine hcalls.mono fun e W' ⟨v,he,hg,hr⟩=>?_
 subst he
 refine ChangeSpec.post_blind ?_
 have hv:v=.bool true:=by
  obtain ⟨vs,obs,hv,_,v0,vr,o1,o2,rfl,_,⟨_,h5⟩,rfl,_⟩:=hr
  rw [hv]
  exact (List.cons.inj h5).1
 subst hv
 have hds:=hs.2 H ds h3
 have hb:Below W.heap.size W W':=⟨hg.os,hg.tape,hg.output,hg.size,hg.keep⟩
 refine ⟨ds,[],p,[],p,[],hW,?_,?_,?_,World.keptBut_mono (fun p hp=>⟨hp,.inr (.inl hp)⟩) (hb.frame (· ∈ p)),fun h=>by cases h⟩
 ·rw [List.append_nil,hds,hres]
  exact trodAll_mk1 (RowKit.shut_bool htb true)
 ·rw [List.append_nil,hds]
  exact Z1ey hl hg hread hA hlt (fun x hx=>by simpa using hlt x hx)
 ·rw [List.append_nil,hds,hs.1]
  rfl
end
end Go.Lift

namespace Go.Lift
theorem rngI {n:Int} (h:K.rng (.int .i64) n):I64 n:=by
 have h':(decide (i64.min≤n)&&decide (n≤i64.max))=true:=h
 simp [IntKind.min,IntKind.max,IntKind.bits,IntKind.signed] at h'
 unfold I64; omega
end Go.Lift

namespace Go.Proofs.YtplhligfkbgllaaGreatDoor
open Go.Lift
theorem own:ownKnob Tryz.checked.prog.godebug=none:=by kernel_rfl
theorem Z1jg:laidOutB Tryz.checked.prog=true:=by kernel_rfl
theorem gFr:Tryz.prog.globalNamed "tarn/geom.frames" = some 4:=by kernel_rfl
theorem tFr:(Tryz.prog.globals[4]?).map (·.type)=some 171:=by kernel_rfl
theorem gFc:Tryz.prog.globalNamed "tarn/cube.frames" = some 0:=by kernel_rfl
theorem tFc:(Tryz.prog.globals[0]?).map (·.type)=some 112:=by kernel_rfl
def Zyd:List (String × DataW Unit):=[("tarn/cube.frames",Rows.laid_tarn_cube_frames),("tarn/geom.frames",Rows.laid_tarn_geom_frames)]
theorem Z1hp (os:Os) (args:Array Value):laidMetH Tryz.prog Zyd ((World.doorLaid Tryz.prog 400 os).forCall (fun _ _=>0) ⟨#[],args,[]⟩).memory :=
 laidMetH_of_parts3 (fuel:=8) (laidMet_of_run' 8 (by kernel_rfl) (by kernel_rfl)) (by kernel_rfl) (by kernel_rfl)
theorem Z1db (w:World) (h:laidMetH Tryz.prog Zyd w):GW RbG w (fun b=>b<w.heap.size):=by
 rw [MakeChecks.laidMetH_plain _ _ _ (by kernel_rfl)] at h
 intro g k x hg
 unfold RbG at hg
 split at hg
 ·cases hg
  exact Z18n h (n := "tarn/cube.frames") List.mem_cons_self gFc tFc (Z8f 9 112 _ (by kernel_rfl)) (by kernel_rfl)
 ·cases hg
  exact Z18n h (n := "tarn/geom.frames") (List.mem_cons_of_mem _ List.mem_cons_self) gFr tFr (Z8f 9 171 _ (by kernel_rfl)) (by kernel_rfl)
 ·cases hg
end Go.Proofs.YtplhligfkbgllaaGreatDoor

namespace Go.Lift
theorem Z1hq {xs:List Int} {i j:Nat} (h:i≠j):swp xs i j=swp xs j i:=by
 unfold swp; rw [List.set_comm _ _ h]
theorem Z1fz {x:Int} (h0:0≤x) (h1:x<9223372036854775808):i64.wrap ((u64.wrap (i64.wrap x)).fdiv (2 ^ Min.min (Int.toNat 1) u64.bits))=x / 2:=by
 rw [Zt (x:=x) (by omega) (by omega)]
 have:u64.wrap x=x:=by rw [IntKind.wrap_u64]; exact Int.emod_eq_of_lt h0 (by omega)
 rw [this,show (2:Int) ^ Min.min (Int.toNat 1) u64.bits=2 from rfl,Int.fdiv_eq_ediv_of_nonneg _ (by decide),Zt (by omega) (by omega)]
theorem Z6h (bed:List Nat) (x y:Int):cmpB bed x y<0↔keyB bed x<keyB bed y:=by
 unfold cmpB keyB Zw ordF cmpI
 split
 ·constructor <;> intro _ <;> omega
 ·split <;> constructor <;> intro _ <;> omega
theorem Z2y.perm {bed:List Nat} {xs ys:List Int} (h:Z2y bed xs) (hp:ys.Perm xs):Z2y bed ys:=⟨h.1,fun x hx=>h.2.1 x (hp.mem_iff.1 hx),by rw [hp.length_eq]; exact h.2.2⟩
theorem Z8m {xs:List Int} {p:Nat} (h:p<xs.length):at0 xs p ∈ xs:=Z2w h 0
theorem Z2y.cmp {bed:List Nat} {xs:List Int} (h:Z2y bed xs) {p q:Nat} (hp:p<xs.length) (hq:q<xs.length):WCmp (at0 xs p) (at0 xs q) (some bed):=⟨bed,rfl,h.2.1 _ (Z8m hp),h.2.1 _ (Z8m hq),h.1⟩
theorem Zcf {kf:Int→Int} {xs:List Int} {a b i j:Nat} (h:Sgm kf xs a b) (h1:a≤i) (h2:i≤j) (h3:j<b):kf (at0 xs i)≤kf (at0 xs j):=by
 by_cases e:i=j
 ·subst e; exact Int.le_refl _
 ·exact h i j h1 (by omega) h3
section
variable {kf:Int→Int}
def InsI (kf:Int→Int) (ys:List Int) (a i j:Nat):Prop:=(∀ p q,a≤p→p<q→q≤i→p≠j→q≠j→kf (at0 ys p)≤kf (at0 ys q))∧∀ q,j<q→q≤i→kf (at0 ys j)≤kf (at0 ys q)
theorem InsI.start {ys:List Int} {a i:Nat} (h:Sgm kf ys a i):InsI kf ys a i i:=⟨fun p q h1 h2 h3 h4 h5=>h p q h1 h2 (by omega),fun q h1 h2=>by omega⟩
theorem InsI.done {ys:List Int} {a i j:Nat} (h:InsI kf ys a i j) (hj:j≤i) (he:j=a∨(a<j∧kf (at0 ys (j - 1))≤kf (at0 ys j))):Sgm kf ys a (i+1):=by
 intro p q h1 h2 h3
 by_cases e1:p=j
 ·subst e1; exact h.2 q h2 (by omega)
 by_cases e2:q=j
 ·subst e2
  rcases he with he | ⟨g1,g2⟩
  ·omega
  by_cases e3:p=q - 1
  ·subst e3; exact g2
  ·exact Int.le_trans (h.1 p (q - 1) h1 (by omega) (by omega) (by omega) (by omega)) g2
 exact h.1 p q h1 h2 (by omega) e1 e2
theorem InsI.step {ys:List Int} {a i j:Nat} (h:InsI kf ys a i (j+1)) (hj:j+1≤i) (ha:a≤j) (hi:i<ys.length) (hlt:kf (at0 ys (j+1))<kf (at0 ys j)):InsI kf (swp ys (j+1) j) a i j:=by
 refine ⟨fun p q h1 h2 h3 h4 h5=>?_,fun q h1 h2=>?_⟩
 ·rw [Z6f (by omega) (by omega),Z6f (by omega) (by omega),if_neg h4,if_neg h5]
  by_cases e1:p=j+1
  ·subst e1
   rw [if_pos rfl,if_neg (by omega)]
   exact h.1 j q ha (by omega) h3 (by omega) (by omega)
  rw [if_neg e1]
  by_cases e2:q=j+1
  ·subst e2
   rw [if_pos rfl]
   exact h.1 p j h1 (by omega) (by omega) e1 (by omega)
  rw [if_neg e2]
  exact h.1 p q h1 h2 h3 e1 e2
 ·rw [Z6f (by omega) (by omega),Z6f (by omega) (by omega),if_pos rfl,if_neg (by omega)]
  by_cases e2:q=j+1
  ·subst e2; rw [if_pos rfl]; omega
  rw [if_neg e2]
  exact h.2 q (by omega) h2
def ShU (xs ys:List Int) (a k:Nat):Prop:=∀ p,at0 ys p=if a≤p∧p<k then at0 xs (p+1) else if p=k then at0 xs a else at0 xs p
theorem ShU.start (xs:List Int) (a:Nat):ShU xs xs a a:=fun p=>by
 rw [if_neg (by omega)]; split
 ·rename_i e; rw [e]
 ·rfl
theorem ShU.step {xs ys:List Int} {a k:Nat} (h:ShU xs ys a k) (hl:ys.length=xs.length) (ha:a≤k) (hk:k+1<xs.length):ShU xs (swp ys (k+1) k) a (k+1):=fun p=>by
 rw [Z6f (by omega) (by omega),h (k+1),h k,h p,if_neg (show ¬ (a≤k+1∧k+1<k) by omega),if_neg (show ¬ k+1=k by omega),if_neg (show ¬ (a≤k∧k<k) by omega),if_pos (show k=k from rfl)]
 by_cases e1:p=k
 ·subst e1; rw [if_pos rfl,if_pos (by omega)]
 rw [if_neg e1]
 by_cases e2:p=k+1
 ·subst e2; rw [if_pos rfl,if_neg (by omega),if_pos rfl]
 rw [if_neg e2,if_neg e2]
 by_cases e3:a≤p∧p<k
 ·rw [if_pos e3,if_pos (by omega)]
 ·rw [if_neg e3,if_neg (by omega),if_neg (by omega)]
theorem ShU.done {xs ys:List Int} {a i b:Nat} (h:ShU xs ys a (i - 1)) (h1:a+1≤i) (h2:i≤b) (hs:Sgm kf xs (a+1) b) (hlt:∀ p,a+1≤p→p<i→kf (at0 xs p)<kf (at0 xs a)) (hge:∀ p,i≤p→p<b→kf (at0 xs a)≤kf (at0 xs p)):Sgm kf ys a b:=by
 intro p q g1 g2 g3
 rw [h p,h q]
 by_cases e1:a≤p∧p<i - 1
 ·rw [if_pos e1]
  by_cases e2:a≤q∧q<i - 1
  ·rw [if_pos e2]; exact hs _ _ (by omega) (by omega) (by omega)
  rw [if_neg e2]
  by_cases e3:q=i - 1
  ·rw [if_pos e3]; have:=hlt (p+1) (by omega) (by omega); omega
  rw [if_neg e3]
  have:=hlt (p+1) (by omega) (by omega)
  have:=hge q (by omega) g3
  omega
 rw [if_neg e1,if_neg (show ¬ (a≤q∧q<i - 1) by omega)]
 rw [if_neg (show ¬ q=i - 1 by omega)]
 by_cases e3:p=i - 1
 ·rw [if_pos e3]; exact hge q (by omega) g3
 rw [if_neg e3]
 exact hs _ _ (by omega) g2 g3
def ShD (xs ys:List Int) (m k:Nat):Prop:=∀ p,at0 ys p=if k<p∧p≤m then at0 xs (p - 1) else if p=k then at0 xs m else at0 xs p
theorem ShD.start (xs:List Int) (m:Nat):ShD xs xs m m:=fun p=>by
 rw [if_neg (by omega)]; split
 ·rename_i e; rw [e]
 ·rfl
theorem ShD.step {xs ys:List Int} {m k:Nat} (h:ShD xs ys m (k+1)) (hl:ys.length=xs.length) (ha:k+1≤m) (hk:m<xs.length):ShD xs (swp ys (k+1) k) m k:=fun p=>by
 rw [Z6f (by omega) (by omega),h (k+1),h k,h p,if_neg (show ¬ (k+1<k+1∧k+1≤m) by omega),if_pos (show k+1=k+1 from rfl),if_neg (show ¬ (k+1<k∧k≤m) by omega),if_neg (show ¬ k=k+1 by omega)]
 by_cases e1:p=k
 ·subst e1; rw [if_pos rfl,if_neg (by omega),if_pos rfl]
 rw [if_neg e1,if_neg e1]
 by_cases e2:p=k+1
 ·subst e2; rw [if_pos rfl,if_pos (by omega)]; congr 1
 rw [if_neg e2]
 by_cases e3:k+1<p∧p≤m
 ·rw [if_pos e3,if_pos (by omega)]
 ·rw [if_neg e3,if_neg (by omega),if_neg (by omega)]
theorem ShD.done {xs ys:List Int} {a m i:Nat} (h:ShD xs ys m i) (h1:a≤i) (h2:i≤m) (hs:Sgm kf xs a m) (hle:∀ p,a≤p→p<i→kf (at0 xs p)≤kf (at0 xs m)) (hgt:∀ p,i≤p→p<m→kf (at0 xs m)<kf (at0 xs p)):Sgm kf ys a (m+1):=by
 intro p q g1 g2 g3
 rw [h p,h q]
 by_cases e1:i<p∧p≤m
 ·rw [if_pos e1,if_pos (by omega)]
  exact hs _ _ (by omega) (by omega) (by omega)
 rw [if_neg e1]
 by_cases e2:i<q∧q≤m
 ·rw [if_pos e2]
  by_cases e3:p=i
  ·rw [if_pos e3]; have:=hgt (q - 1) (by omega) (by omega); omega
  rw [if_neg e3]
  by_cases e4:p=q - 1
  ·omega
  exact hs _ _ g1 (by omega) (by omega)
 rw [if_neg e2,if_neg (show ¬ p=i by omega)]
 by_cases e3:q=i
 ·rw [if_pos e3]; exact hle p g1 (by omega)
 ·rw [if_neg e3]; exact hs _ _ g1 g2 (by omega)
def Crs (kf:Int→Int) (ys:List Int) (a m b:Nat):Prop:=∀ i j,a≤i→i<m→m≤j→j<b→kf (at0 ys i)≤kf (at0 ys j)
theorem Crs.left {ys zs:List Int} {a m b:Nat} (h:Crs kf ys a m b) (r:Rr kf a m ys zs):Crs kf zs a m b:=fun i j h1 h2 h3 h4=>by
 rw [r.out j (by omega)]
 exact r.ins (fun v=>kf v≤kf (at0 ys j)) (fun i h1 h2=>h i j h1 h2 h3 h4) i h1 h2
theorem Crs.right {ys zs:List Int} {a m b:Nat} (h:Crs kf ys a m b) (r:Rr kf m b ys zs):Crs kf zs a m b:=fun i j h1 h2 h3 h4=>by
 rw [r.out i (by omega)]
 exact r.ins (fun v=>kf (at0 ys i)≤kf v) (fun j h3 h4=>h i j h1 h2 h3 h4) j h3 h4
theorem Crs.join {ys:List Int} {a m b:Nat} (h:Crs kf ys a m b) (h1:Sgm kf ys a m) (h2:Sgm kf ys m b):Sgm kf ys a b:=fun i j g1 g2 g3=>by
 by_cases e1:j<m
 ·exact h1 i j g1 g2 e1
 by_cases e2:m≤i
 ·exact h2 i j e2 g2 g3
 exact h i j g1 (by omega) (by omega) g3
structure Cutd (kf:Int→Int) (xs:List Int) (a m b s e:Nat):Prop where
 le:a≤s∧s≤m∧m≤e∧e≤b
 low:∀ i j,a≤i→i<s→e≤j→j<b→kf (at0 xs i)≤kf (at0 xs j)
 high:∀ i j,s≤i→i<m→m≤j→j<e→kf (at0 xs j)<kf (at0 xs i)
theorem cutd {xs:List Int} {a m b s0 r0 s mid:Nat} (hm:mid=(a+b) / 2) (h1:a<m) (h2:m<b) (h0:(m > mid∧s0+b=mid+m∧r0=mid)∨(m≤mid∧s0=a∧r0=m)) (hs1:Sgm kf xs a m) (hs2:Sgm kf xs m b) (g1:s0≤s) (g2:s≤r0)
  (lo:∀ q,s0≤q→q<s→kf (at0 xs q)≤kf (at0 xs (mid+m - 1 - q))) (hi:∀ q,s≤q→q<r0→kf (at0 xs (mid+m - 1 - q))<kf (at0 xs q)):Cutd kf xs a m b s (mid+m - s) where
 le:=by omega
 low i j i1 i2 j1 j2:=by
  by_cases e:s=s0
  ·omega
  ·have hl:=lo (s - 1) (by omega) (by omega)
   have a1:kf (at0 xs i)≤kf (at0 xs (s - 1)):=by
    by_cases q:i=s - 1
    ·subst q; omega
    ·exact hs1 _ _ i1 (by omega) (by omega)
   have e2:mid+m - 1 - (s - 1)=mid+m - s:=by omega
   rw [e2] at hl
   have a2:kf (at0 xs (mid+m - s))≤kf (at0 xs j):=by
    by_cases q:j=mid+m - s
    ·subst q; omega
    ·exact hs2 _ _ (by omega) (by omega) j2
   omega
 high i j i1 i2 j1 j2:=by
  by_cases e:s=r0
  ·omega
  ·have hl:=hi s (by omega) (by omega)
   have a1:kf (at0 xs s)≤kf (at0 xs i):=by
    by_cases q:i=s
    ·subst q; omega
    ·exact hs1 _ _ (by omega) (by omega) i2
   have a2:kf (at0 xs j)≤kf (at0 xs (mid+m - 1 - s)):=by
    by_cases q:j=mid+m - 1 - s
    ·subst q; omega
    ·exact hs2 _ _ j1 (by omega) (by omega)
   omega
structure Trnd (kf:Int→Int) (xs ys:List Int) (a m b s e mid:Nat):Prop where
 rr:Rr kf a b xs ys
 g1:Sgm kf ys a s
 g2:Sgm kf ys s mid
 g3:Sgm kf ys mid e
 g4:Sgm kf ys e b
 cr:Crs kf ys a mid b
theorem trnd {xs ys:List Int} {a m b s mid:Nat} (c:Cutd kf xs a m b s (mid+m - s)) (hm:mid=(a+b) / 2) (h1:a<m) (h2:m<b) (h3:b≤xs.length) (hs1:Sgm kf xs a m) (hs2:Sgm kf xs m b) (hp:ys.Perm xs) (he:ys=Z2j xs (rotI s m (mid+m - s))):Trnd kf xs ys a m b s (mid+m - s) mid:=by
 obtain ⟨⟨l1,l2,l3,l4⟩,clo,chi⟩:=c
 have rr:=Z1k8 (kf:=kf) l2 l3 (by omega) hp he chi
 have key:∀ p,p<b→at0 ys p=at0 xs (rotI s m (mid+m - s) p):=fun p hp=>by rw [he,Z2x (by omega)]
 have k1:∀ p,p<s→rotI s m (mid+m - s) p=p:=fun p hp=>by unfold rotI; rw [if_neg (by omega),if_neg (by omega)]
 have k2:∀ p,s≤p→p<mid→rotI s m (mid+m - s) p=m+(p - s):=fun p h1 h2=>by unfold rotI; rw [if_pos (by omega)]
 have k3:∀ p,mid≤p→p<mid+m - s→rotI s m (mid+m - s) p=s+(p - mid):=fun p h1 h2=>by unfold rotI; rw [if_neg (by omega),if_pos (by omega)]; omega
 have k4:∀ p,mid+m - s≤p→rotI s m (mid+m - s) p=p:=fun p h1=>by unfold rotI; rw [if_neg (by omega),if_neg (by omega)]
 have ms:s≤mid:=by omega
 refine ⟨rr.wide l1 l4,fun i j i1 i2 i3=>?_,fun i j i1 i2 i3=>?_,fun i j i1 i2 i3=>?_,fun i j i1 i2 i3=>?_,fun i j i1 i2 i3 i4=>?_⟩
 ·rw [key i (by omega),key j (by omega),k1 i (by omega),k1 j (by omega)]
  exact hs1 i j i1 i2 (by omega)
 ·rw [key i (by omega),key j (by omega),k2 i (by omega) (by omega),k2 j (by omega) (by omega)]
  exact hs2 _ _ (by omega) (by omega) (by omega)
 ·rw [key i (by omega),key j (by omega),k3 i (by omega) (by omega),k3 j (by omega) (by omega)]
  exact hs1 _ _ (by omega) (by omega) (by omega)
 ·rw [key i (by omega),key j (by omega),k4 i (by omega),k4 j (by omega)]
  exact hs2 _ _ (by omega) (by omega) (by omega)
 ·rw [key i (by omega),key j (by omega)]
  by_cases e1:i<s
  ·rw [k1 i e1]
   by_cases e2:j<mid+m - s
   ·rw [k3 j i3 e2]; exact hs1 _ _ i1 (by omega) (by omega)
   ·rw [k4 j (by omega)]; exact clo i j i1 e1 (by omega) i4
  ·rw [k2 i (by omega) i2]
   by_cases e2:j<mid+m - s
   ·rw [k3 j i3 e2]
    have:=chi (s+(j - mid)) (m+(i - s)) (by omega) (by omega) (by omega) (by omega)
    omega
   ·rw [k4 j (by omega)]; exact hs2 _ _ (by omega) (by omega) (by omega)
theorem Z1g0 {xs:List Int} {s m e:Nat} (h1:s≤m) (h2:m≤e) (h:s=m∨m=e):Z2j xs (rotI s m e)=xs:=Z18j fun p _=>by
 unfold rotI; (repeat' split) <;> omega
end
end Go.Lift

namespace Go.Lift
theorem Zev {bed:List Nat} {x y:Int}:leB bed x y=true↔keyB bed x<keyB bed y∨(keyB bed x=keyB bed y∧x≤y):=by unfold leB; rw [decide_eq_true_eq]
theorem Z14k (bed:List Nat):∀ a b c:Int,leB bed a b=true→leB bed b c=true→leB bed a c=true:=fun a b c h1 h2=>by
 rw [Zev] at *; omega
theorem Z14l (bed:List Nat):∀ a b:Int,(leB bed a b||leB bed b a)=true:=fun a b=>by
 rw [Bool.or_eq_true,Zev,Zev]; omega
theorem Z1hr {bed:List Nat} {a b:Int} (h1:leB bed a b=true) (h2:leB bed b a=true):a=b:=by
 rw [Zev] at *; omega
theorem Z11i (a b:Int):(seg a b).length=b.toNat - a.toNat:=by unfold seg; rw [List.length_map,List.length_range']
theorem Z1bl {a b x:Int} (h:x ∈ seg a b):(a.toNat:Int)≤x∧x<b.toNat:=by
 unfold seg at h
 obtain ⟨n,hn,rfl⟩:=List.mem_map.1 h
 rw [List.mem_range'_1] at hn
 omega
theorem Z5k (bed:List Nat) (a b:Int):(Z1l bed a b).Perm (seg a b):=List.mergeSort_perm _ _
theorem Zcw (bed:List Nat) (a b:Int):List.Pairwise (fun x y=>leB bed x y=true) (Z1l bed a b):=List.pairwise_mergeSort (Z14k bed) (Z14l bed) _
theorem Z71 {bed:List Nat} {a b x:Int} (h:x ∈ Z1l bed a b):(a.toNat:Int)≤x∧x<b.toNat:=Z1bl ((Z5k bed a b).mem_iff.1 h)
theorem Zej (bed:List Nat) (a b:Int):(Z1l bed a b).length=b.toNat - a.toNat:=(Z5k bed a b).length_eq.trans (Z11i a b)
theorem Z5g {bed:List Nat} {a b:Int} {l:List Int} (hp:l.Perm (seg a b)) (hs:List.Pairwise (fun x y=>leB bed x y=true) l):l=Z1l bed a b :=
 List.Perm.eq_of_pairwise (fun x y _ _ h1 h2=>Z1hr h1 h2) hs (Zcw bed a b) (hp.trans (Z5k bed a b).symm)
theorem Zix {s s':Int→Int→Bool}:∀ (n:Nat) (l r:List Int),l.length+r.length≤n→(∀ x ∈ l,∀ y ∈ r,s x y=s' x y)→List.merge l r s=List.merge l r s'
 | _,[],r,_,_=>by rw [List.nil_merge,List.nil_merge]
 | _,x :: l,[],_,_=>by simp
 | 0,x :: l,y :: r,hn,_=>by simp at hn
 | n+1,x :: l,y :: r,hn,h=>by
  simp only [List.length_cons] at hn
  rw [List.cons_merge_cons,List.cons_merge_cons,h x List.mem_cons_self y List.mem_cons_self,Zix n l (y :: r) (by simp only [List.length_cons]; omega) fun a ha b hb=>h a (List.mem_cons_of_mem _ ha) b hb,
   Zix n (x :: l) r (by simp only [List.length_cons]; omega) fun a ha b hb=>h a ha b (List.mem_cons_of_mem _ hb)]
theorem Z1dc {a m b:Int} (h0:0≤a) (h1:a≤m) (h2:m≤b):seg a m++seg m b=seg a b:=by
 unfold seg
 rw [← List.map_append]
 congr 1
 have:=List.range'_append (s:=a.toNat) (m:=m.toNat - a.toNat) (n:=b.toNat - m.toNat) (step:=1)
 rw [show a.toNat+1*(m.toNat - a.toNat)=m.toNat by omega,show m.toNat - a.toNat+(b.toNat - m.toNat)=b.toNat - a.toNat by omega] at this
 exact this
theorem Z1jh {bed:List Nat} {a m b:Int} (h0:0≤a) (h1:a≤m) (h2:m≤b):mrgL bed (Z1l bed a m) (Z1l bed m b)=Z1l bed a b:=by
 have e:mrgL bed (Z1l bed a m) (Z1l bed m b)=List.merge (Z1l bed a m) (Z1l bed m b) (leB bed):=by
  unfold mrgL
  refine Zix _ _ _ (Nat.le_refl _) fun x hx y hy=>?_
  have hx:=Z71 hx
  have hy:=Z71 hy
  rw [Bool.eq_iff_iff,decide_eq_true_eq,Zev]
  omega
 rw [e]
 refine Z5g ?_ (List.pairwise_merge (Z14k bed) (Z14l bed) _ _ (Zcw _ _ _) (Zcw _ _ _))
 refine (List.merge_perm_append _).trans ?_
 rw [← Z1dc h0 h1 h2]
 exact (Z5k _ _ _).append (Z5k _ _ _)
theorem Z18o (bed:List Nat) (x y:Int):Z3o (bed.getD x.toNat 0) (bed.getD y.toNat 0)=true↔keyB bed y<keyB bed x:=by
 unfold Z3o keyB Zw ordF cmpI
 rw [decide_eq_true_eq]
 split
 ·constructor <;> intro _ <;> omega
 ·split <;> constructor <;> intro _ <;> omega
theorem Zao {l:List Int} {i:Nat} (h:i<l.length):l.drop i=at0 l i :: l.drop (i+1):=by
 rw [Zeu h]; exact List.drop_eq_getElem_cons h
theorem Z1hs {bed:List Nat} {l r:List Int} {i j:Nat} (h:i<l.length) (hj:j=r.length∨(j<r.length∧keyB bed (at0 l i)≤keyB bed (at0 r j))):mrgL bed (l.drop i) (r.drop j)=at0 l i :: mrgL bed (l.drop (i+1)) (r.drop j):=by
 unfold mrgL
 rcases hj with rfl | ⟨h2,h3⟩
 ·rw [List.drop_length,Zao h]; simp
 ·rw [Zao h,Zao h2,List.cons_merge_cons,if_pos (decide_eq_true h3)]
theorem Z1g1 {bed:List Nat} {l r:List Int} {i j:Nat} (h:j<r.length) (hi:i=l.length∨(i<l.length∧¬ keyB bed (at0 l i)≤keyB bed (at0 r j))):mrgL bed (l.drop i) (r.drop j)=at0 r j :: mrgL bed (l.drop i) (r.drop (j+1)):=by
 unfold mrgL
 rcases hi with rfl | ⟨h2,h3⟩
 ·rw [List.drop_length,Zao h]; simp
 ·rw [Zao h2,Zao h,List.cons_merge_cons,if_neg (by rw [decide_eq_true_eq]; exact h3)]
theorem Z1k9 {n:Nat} {l:List Int} (hl:l.length=n) (h:∀ j,j<n→at0 l j=j):l=seg 0 n:=by
 refine Zrs (by rw [Z11i,hl]; simp) fun i hi=>?_
 rw [h i (by omega)]
 unfold at0 seg
 rw [List.getD_eq_getElem?_getD,List.getElem?_map,List.getElem?_range' (by simp; omega)]
 simp
theorem Z1dd {bed:List Nat} {xs ys:List Int} {n:Nat} (hx:xs=seg 0 n) (h1:Rr (keyB bed) 0 xs.length xs ys) (h2:Sgm (keyB bed) ys 0 xs.length):ys=Z1l bed 0 n:=by
 subst hx
 have st:Stb (keyB bed) (seg 0 n):=fun i j hij hj _=>by
  have e:∀ k,k<n→at0 (seg 0 n) k=k:=fun k hk=>by
   unfold at0 seg
   rw [List.getD_eq_getElem?_getD,List.getElem?_map,List.getElem?_range' (by omega)]
   simp
  rw [Z11i] at hj
  rw [e i (by omega),e j (by omega)]
  omega
 refine Z5g h1.perm (List.pairwise_iff_getElem.2 fun i j hi hj hij=>?_)
 rw [← Zeu hi,← Zeu hj,Zev]
 have a:=h2 i j (by omega) hij (by rw [← h1.len]; exact hj)
 have b:=h1.st st i j hij hj
 omega
end Go.Lift

namespace Go.Lift
section
variable {n:Int} {ar:Ar} (A:ArOk n ar)
include A
variable {f:List Int} {gv:Nat→List Int} {all:List Int} (hL:Z18h n ar f gv (4*Zb n) all)
 (hg:∀ c:Nat,(c:Int)<Zb n→∀ o:Nat,o<4→0≤(gv c).getD o 0∧(0<(gv c).getD o 0→0<outN ar f c o))
include hL hg
end
end Go.Lift

namespace Go.Lift
section
variable {n:Int} {ar:Ar} (A:ArOk n ar) {f:List Int} {gv:Nat→List Int} {all:List Int} (hL:Z18h n ar f gv (4*Zb n) all)
 (hg:∀ c:Nat,(c:Int)<Zb n→∀ o:Nat,o<4→0≤(gv c).getD o 0∧(0<(gv c).getD o 0→0<outN ar f c o))
include A hL hg
end
section
variable {n:Int} {ar:Ar} (A:ArOk n ar) {f:List Int} {gv:Nat→List Int} {all:List Int} (hL:Z18h n ar f gv (4*Zb n) all)
 (hg:∀ c:Nat,(c:Int)<Zb n→∀ o:Nat,o<4→0≤(gv c).getD o 0∧(0<(gv c).getD o 0→0<outN ar f c o))
include A hL hg
end
end Go.Lift

namespace Go.Lift
section
variable {N:Int} {w F:List Int} (lw:(w.length:Int)=Zb N) (lF:(F.length:Int)=(netE N).1.length) (hw:∀ x ∈ w,0≤x) (hF:∀ x ∈ F,Zy9 x=true)
include lw lF hw hF
section
variable {h:List Int} (lh:(h.length:Int)=Zb N) (hh:∀ x ∈ h,0≤x∧x≤9223372036854775807) (hok:∀ c:Nat,(c:Int)<Zb N→okTo (w.getD c 0) (Z1ib (Zam (some (netG N))) F c) (Z1ib (Zam (some (netG N))) F c).length)
include lh hh hok
end
end
end Go.Lift

namespace Go.Lift
theorem Zye (s x:Int) (l:List Int):Z2c s (x :: l)=if x<0∨x > 4503599627370496 - s then false else Z2c (s+x) l:=rfl
theorem Z1ji (bed:List Nat) (x y:Int):ordF (Z1d (bed.getD x.toNat 0)) (Z1d (bed.getD y.toNat 0))=cmpI (Zw bed x) (Zw bed y):=rfl
theorem Z11j {x y:Int}:cmpI x y<0↔x<y:=by
 unfold cmpI; split
 ·exact ⟨fun _=>by assumption,fun _=>by decide⟩
 ·split
  ·exact ⟨fun h=>by omega,fun h=>by omega⟩
  ·exact ⟨fun h=>by omega,fun h=>by omega⟩
theorem Z1bm {x y:Int}:cmpI x y > 0↔x > y:=by
 unfold cmpI; split
 ·exact ⟨fun h=>by omega,fun h=>by omega⟩
 ·split
  ·exact ⟨fun _=>by assumption,fun _=>by decide⟩
  ·exact ⟨fun h=>by omega,fun h=>by omega⟩
theorem Z1bn {x y:Int}:cmpI x y=0↔x=y:=by
 unfold cmpI; split
 ·exact ⟨fun h=>by omega,fun h=>by omega⟩
 ·split
  ·exact ⟨fun h=>by omega,fun h=>by omega⟩
  ·exact ⟨fun h=>by omega,fun h=>by omega⟩
theorem Z8n (bed:List Nat) (x y:Int):Z3o (bed.getD x.toNat 0) (bed.getD y.toNat 0)=true↔Zw bed x<Zw bed y:=by
 unfold Z3o; rw [decide_eq_true_eq,Z1ji,Z11j]
theorem Z9d {bed:List Nat} {best to:Int} (h:0≤best) (h2:Zw bed best<Zw bed to∨(Zw bed to=Zw bed best∧best≤to)):Zhj bed best to=best:=by
 unfold Zhj; rw [if_neg (by omega)]
theorem Z52 {bed:List Nat} {best to:Int} (h2:best<0∨Zw bed to<Zw bed best∨(Zw bed to=Zw bed best∧to≤best)):Zhj bed best to=to:=by
 unfold Zhj
 by_cases q:best<0∨Zw bed to<Zw bed best∨(Zw bed to=Zw bed best∧to<best)
 ·rw [if_pos q]
 ·rw [if_neg q]; omega
theorem Z8o {cells n:Int} {bed:List Nat} {c:Int} (h:(bed.length:Int)≠cells∨c<0∨(bed.length:Int)≤c):Z22 true cells n bed c=-1:=by
 unfold Z22; rw [if_pos (.inr h)]
theorem Zm7 {cells n:Int} {bed:List Nat} {c:Int} (h1:(bed.length:Int)=cells) (h2:0≤c) (h3:c<(bed.length:Int)):Z22 true cells n bed c=Z48 n bed c:=by
 unfold Z22; rw [if_neg (by simp; omega)]
theorem Z6i {n c:Int} {k:Nat} (hp:Zh n c=true) (hk:k<4):0≤(Z3 n c k).1∧(Z3 n c k).1<Zb n:=by
 obtain ⟨b1,_⟩:=Z43 (Zy.2 ⟨hp,(by omega:(0:Int)≤k),(by omega:(k:Int)<4)⟩)
 exact Z21 b1
theorem Zbo {n c:Int} {bed:List Nat} (hp:Zh n c=true):∀ k:Nat,k≤4→-1≤Zv n bed c k∧Zv n bed c k<Zb n∧(0<k→∃ j,j<k∧Zv n bed c k=(Z3 n c j).1) ∧
  ∀ j,j<k→Zw bed (Zv n bed c k)<Zw bed (Z3 n c j).1∨(Zw bed (Zv n bed c k)=Zw bed (Z3 n c j).1∧Zv n bed c k≤(Z3 n c j).1)
 | 0,_=>⟨by show (-1:Int)≤-1; decide,by have:=Z21 hp; show (-1:Int)<_; omega,fun h=>by omega,fun j h=>by omega⟩
 | k+1,hk=>by
  obtain ⟨i1,i2,i3,i4⟩:=Zbo (bed:=bed) hp k (by omega)
  obtain ⟨t1,t2⟩:=Z6i hp (k:=k) (by omega)
  have e:Zv n bed c (k+1)=Zhj bed (Zv n bed c k) (Z3 n c k).1:=rfl
  by_cases q:Zv n bed c k<0∨Zw bed (Z3 n c k).1<Zw bed (Zv n bed c k)∨(Zw bed (Z3 n c k).1=Zw bed (Zv n bed c k)∧(Z3 n c k).1≤Zv n bed c k)
  ·rw [e,Z52 q]
   refine ⟨by omega,t2,fun _=>⟨k,by omega,rfl⟩,fun j hj=>?_⟩
   by_cases ej:j=k
   ·subst ej; exact .inr ⟨rfl,Int.le_refl _⟩
   ·have:=i4 j (by omega)
    rcases q with q | q | q
    ·obtain ⟨j0,g1,g2⟩:=i3 (by omega)
     have:=(Z6i hp (k:=j0) (by omega)).1
     omega
    ·omega
    ·omega
  ·rw [e,Z9d (by omega) (by omega)]
   refine ⟨i1,i2,fun _=>?_,fun j hj=>?_⟩
   ·rcases Nat.eq_zero_or_pos k with z | z
    ·subst z
     exact absurd (.inl (show (-1:Int)<0 by decide)) q
    ·obtain ⟨j0,g1,g2⟩:=i3 z
     exact ⟨j0,by omega,g2⟩
   ·by_cases ej:j=k
    ·subst ej; omega
    ·exact i4 j (by omega)
theorem Z1de {n c:Int} {bed:List Nat} (hp:Zh n c=true):0≤Zv n bed c 4∧Zv n bed c 4<Zb n:=by
 obtain ⟨i1,i2,i3,i4⟩:=Zbo (bed:=bed) hp 4 (by omega)
 obtain ⟨j0,g1,g2⟩:=i3 (by omega)
 have:=(Z6i hp (k:=j0) (by omega)).1
 exact ⟨by omega,i2⟩
theorem Z14m {n c:Int} {bed:List Nat} (hp:Zh n c=true):Z48 n bed c=-1∨(0≤Z48 n bed c∧Z48 n bed c<Zb n∧Zw bed (Z48 n bed c)<Zw bed c∧Z48 n bed c=Zv n bed c 4):=by
 unfold Z48
 split
 ·have:=Z1de (bed:=bed) hp
  exact .inr ⟨this.1,this.2,by assumption,rfl⟩
 ·exact .inl rfl
theorem Z1jj {n c:Int} {o:Nat} (ok:Zn n c o=true):∃ q:Nat,q<(netE n).1.length∧(Zam (some (netG n)) c o).1=q∧(Z7v (some (netG n)) q).1+(Z7v (some (netG n)) q).2.2.1=c+(Z3 n c o).1:=by
 obtain ⟨q,hq,h1,h2,h3⟩:=Z1d5 ok
 refine ⟨q,hq,by rw [h1],?_⟩
 have e:Z7v (some (netG n)) q=(netE n).1.getD q dEd:=by
  unfold Z7v
  show (if (0:Int)≤q∧(q:Int)<((netE n).1.length:Nat) then (netE n).1.getD (q:Int).toNat dEd else dEd)=_
  rw [if_pos ⟨by omega,by omega⟩,Int.toNat_natCast]
 rw [e,List.getD_eq_getElem?_getD]
 rcases h3 with ⟨_,h3⟩ | ⟨_,h3⟩ <;> rw [h3]
 ·rfl
 ·show (Z3 n c o).1+c=_
  omega
end Go.Lift

namespace Go.Lift
theorem Z11k:∀ (l:List Int) (i:Nat) (v:Int),i<l.length→(l.set i v).sum=l.sum - at0 l i+v
 | [],i,v,h=>by simp at h
 | x :: l,0,v,h=>by
  rw [List.set_cons_zero,List.sum_cons,List.sum_cons]
  show v+l.sum=x+l.sum - x+v
  omega
 | x :: l,i+1,v,h=>by
  rw [List.set_cons_succ,List.sum_cons,List.sum_cons,Z11k l i v (by simpa using h)]
  show x+(l.sum - at0 l i+v)=x+l.sum - at0 l i+v
  omega
theorem Z1bo:∀ {l:List Int},(∀ x ∈ l,0≤x)→0≤l.sum∧∀ x ∈ l,x≤l.sum
 | [],_=>⟨by simp,fun x h=>by cases h⟩
 | y :: l,h=>by
  obtain ⟨a,b⟩:=Z1bo fun x hx=>h x (List.mem_cons_of_mem _ hx)
  have hy:=h y List.mem_cons_self
  rw [List.sum_cons]
  refine ⟨by omega,fun x hx=>?_⟩
  rcases List.mem_cons.1 hx with rfl | hx
  ·omega
  ·have:=b x hx; omega
theorem Zm8:∀ {l:List Int} {s:Int},Z2c s l=true→s≤4503599627370496→(∀ x ∈ l,0≤x)∧s+l.sum≤4503599627370496
 | [],s,_,hs=>⟨fun x h=>(by cases h),by simpa using hs⟩
 | y :: l,s,h,hs=>by
  rw [Zye] at h
  by_cases q:y<0∨y > 4503599627370496 - s
  ·rw [if_pos q] at h; cases h
  ·rw [if_neg q] at h
   obtain ⟨a,b⟩:=Zm8 h (by omega)
   rw [List.sum_cons]
   refine ⟨fun x hx=>?_,by omega⟩
   rcases List.mem_cons.1 hx with rfl | hx
   ·omega
   ·exact a x hx
structure Pool (n:Nat) (T:Int) (l:List Int):Prop where
 len:l.length=n
 nn:∀ x ∈ l,0≤x
 sum:l.sum=T
theorem Pool.at {n:Nat} {T:Int} {l:List Int} (h:Pool n T l) {i:Nat} (hi:i<n):0≤at0 l i∧at0 l i≤T:=by
 have:=h.len
 have m:=Z8m (xs:=l) (p:=i) (by omega)
 exact ⟨h.nn _ m,by rw [← h.sum]; exact (Z1bo h.nn).2 _ m⟩
theorem Pool.mv {n:Nat} {T:Int} {l:List Int} (h:Pool n T l) {i j d:Int} (i0:0≤i) (i1:i<n) (j0:0≤j) (j1:j<n) (d0:0≤d) (d1:d≤l.getD i.toNat 0) :
  Pool n T (mvL l i j d)∧0≤l.getD i.toNat 0 - d∧l.getD i.toNat 0 - d≤T∧0≤(l.set i.toNat (l.getD i.toNat 0 - d)).getD j.toNat 0+d∧(l.set i.toNat (l.getD i.toNat 0 - d)).getD j.toNat 0+d≤T:=by
 have hl:=h.len
 have hi:=h.at (i:=i.toNat) (by omega)
 have hi:0≤l.getD i.toNat 0∧l.getD i.toNat 0≤T:=hi
 have nn1:∀ x ∈ l.set i.toNat (l.getD i.toNat 0 - d),0≤x:=fun x hx=>by
  rcases List.mem_or_eq_of_mem_set hx with hx | rfl
  ·exact h.nn x hx
  ·omega
 have l1:(l.set i.toNat (l.getD i.toNat 0 - d)).length=n:=by rw [List.length_set]; exact hl
 have v0:=nn1 _ (Z2w (l:=l.set i.toNat (l.getD i.toNat 0 - d)) (i:=j.toNat) (by omega) 0)
 have P:Pool n T (mvL l i j d):=by
  refine ⟨by unfold mvL; rw [List.length_set]; exact l1,fun x hx=>?_,?_⟩
  ·unfold mvL at hx
   rcases List.mem_or_eq_of_mem_set hx with hx | rfl
   ·exact nn1 x hx
   ·omega
  ·unfold mvL
   rw [Z11k _ _ _ (by omega),Z11k _ _ _ (by omega),h.sum]
   show T - at0 l i.toNat+(at0 l i.toNat - d) - _+(_+d)=T
   unfold at0
   omega
 have hj:=P.at (i:=j.toNat) (by omega)
 have e:at0 (mvL l i j d) j.toNat=(l.set i.toNat (l.getD i.toNat 0 - d)).getD j.toNat 0+d:=by
  unfold mvL; rw [Zan (by omega),if_pos rfl]
 rw [e] at hj
 exact ⟨P,by omega,by omega,hj.1,hj.2⟩
theorem Z11l {a b c:Int} (ha:0≤a) (hb:0≤b) (hbc:b≤c) (hc:1≤c):0≤part a b c∧part a b c≤a:=by
 refine ⟨(Z1cv a b c).1,?_⟩
 have k:a*b / c≤a:=by
  refine Int.ediv_le_of_le_mul (by omega) ?_
  exact Int.mul_le_mul_of_nonneg_left hbc ha
 unfold part
 rw [if_neg (by omega),if_neg (by omega),if_neg (by omega)]
 split <;> omega
theorem Zm9 {n:Nat} {W T:Int} {area down:Int→Int} {st:List Int × List Int} {c:Int} (h1:Pool n W st.1) (h2:Pool n T st.2) (c0:0≤c) (c1:c<n) (hd:down c<0∨(0≤down c∧down c<n)) :
  Pool n W (Z3i area down st c).1∧Pool n T (Z3i area down st c).2:=by
 unfold Z3i
 split
 ·exact ⟨h1,h2⟩
 ·rename_i q
  have a1:=h2.at (i:=c.toNat) (by omega)
  have a1:0≤st.2.getD c.toNat 0∧_:=a1
  have p:=Z11l (a:=st.2.getD c.toNat 0) (b:=st.1.getD c.toNat 0 / 4) (c:=st.1.getD c.toNat 0) a1.1 (by omega) (by omega) (by omega)
  exact ⟨(h1.mv c0 c1 (by omega) (by omega) (by omega) (by omega)).1,(h2.mv c0 c1 (by omega) (by omega) p.1 p.2).1⟩
theorem Z1bp {n:Nat} {W T:Int} {area down:Int→Int} (hd:∀ c:Int,0≤c→c<(n:Int)→down c<0∨(0≤down c∧down c<(n:Int))):∀ (order:List Int) {st:List Int × List Int},(∀ c ∈ order,0≤c∧c<(n:Int))→Pool n W st.1→Pool n T st.2 →
  Pool n W (runA area down order st).1∧Pool n T (runA area down order st).2
 | [],st,_,h1,h2=>⟨h1,h2⟩
 | c :: l,st,hc,h1,h2=>by
  have h0:=hc c List.mem_cons_self
  obtain ⟨a,b⟩:=Zm9 (area:=area) h1 h2 h0.1 h0.2 (hd c h0.1 h0.2)
  exact Z1bp hd l (fun x hx=>hc x (List.mem_cons_of_mem _ hx)) a b
theorem Z1g2 {area down:Int→Int} {order:List Int} {st:List Int × List Int} {k:Nat} (hk:k<order.length):runA area down (order.take (k+1)) st=Z3i area down (runA area down (order.take k) st) (at0 order k):=by
 unfold runA
 have e:order.take (k+1)=order.take k++[at0 order k]:=by rw [Zeu hk,List.take_append_getElem hk]
 rw [e,List.foldl_append]; rfl
theorem Z1ht {n m:Int} {area down:Int→Int} {s:SeaT} (h:((Zei n m s&&Z2c 0 s.2.1)&&Z2c 0 s.2.2.1)=false):runF true n m area down s=([],[],1,()):=by
 unfold runF; rw [if_neg (by decide),h]; rfl
theorem Z14n {n m:Int} {area down:Int→Int} {s:SeaT} (h1:Zei n m s=true) (h2:Z2c 0 s.2.1=true) (h3:Z2c 0 s.2.2.1=true):runF true n m area down s=((runA area down (ordL s.1) (s.2.1,s.2.2.1)).1,(runA area down (ordL s.1) (s.2.1,s.2.2.1)).2,0,()):=by
 unfold runF; rw [if_neg (by decide),h1,h2,h3]; rfl
theorem Zpu {n m:Int} {s:SeaT}:Zei n m s=true↔(s.1.length:Int)=n∧(s.2.1.length:Int)=n∧(s.2.2.1.length:Int)=n∧(s.2.2.2.1.length:Int)=m:=by
 unfold Zei
 simp only [Bool.and_eq_true,decide_eq_true_eq,and_assoc]
theorem Z1g3 {n:Int} {bed:List Nat} (hb:(bed.length:Int)=Zb n) (c:Int) (c0:0≤c) (c1:c<(bed.length:Int)):Z22 true (Zb n) n bed c<0∨(0≤Z22 true (Zb n) n bed c∧Z22 true (Zb n) n bed c<(bed.length:Int)):=by
 rw [Zm7 hb c0 c1]
 have hp:Zh n c=true:=by
  obtain ⟨k,rfl⟩:∃ k:Nat,c=k:=⟨c.toNat,by omega⟩
  exact Zcd (by omega)
 rcases Z14m (bed:=bed) hp with q | ⟨q1,q2,_⟩
 ·exact .inl (by omega)
 ·exact .inr ⟨q1,by omega⟩
theorem Z1g4 {n c:Int} (c0:0≤c) (c1:c<Zb n):Zm1 (some (netG n)) c=Z1c n c:=by
 have hl:(Z96 n).length=(Zb n).toNat:=by unfold Z96; rw [List.length_map,List.length_range]
 show (if 0≤c∧c<((Z96 n).length:Nat) then (Z96 n).getD c.toNat 0 else 0)=_
 rw [if_pos ⟨c0,by omega⟩]
 unfold Z96
 rw [List.getD_eq_getElem?_getD,List.getElem?_map,List.getElem?_range (by omega)]
 show Z1c n ((c.toNat:Nat):Int)=_
 rw [show ((c.toNat:Nat):Int)=c by omega]
end Go.Lift

namespace Go.Lift
theorem Z1g5 {l:List Int} {i j d:Int} {k:Nat} (hi:i.toNat<l.length) (hj:j.toNat<l.length) (hij:i.toNat≠j.toNat):at0 (mvL l i j d) k=if k=j.toNat then at0 l k+d else if k=i.toNat then at0 l k - d else at0 l k:=by
 have e1:(l.set i.toNat (l.getD i.toNat 0 - d)).getD j.toNat 0=at0 l j.toNat:=by
  show at0 (l.set i.toNat (l.getD i.toNat 0 - d)) j.toNat=_
  rw [Zan hi,if_neg (fun q=>hij q.symm)]
 unfold mvL
 rw [e1,Zan (by rw [List.length_set]; exact hj)]
 by_cases q:k=j.toNat
 ·rw [if_pos q,if_pos q,q]
 ·rw [if_neg q,if_neg q,Zan hi]
  by_cases q2:k=i.toNat
  ·rw [if_pos q2,if_pos q2,q2]; try rfl
  ·rw [if_neg q2,if_neg q2]
def Z8p (n:Nat) (down:Int→Int):Prop:=∀ c:Int,0≤c→c<(n:Int)→down c<0∨(0≤down c∧down c<(n:Int)∧down c≠c)
theorem Z8p.weak {n:Nat} {down:Int→Int} (h:Z8p n down):∀ c:Int,0≤c→c<(n:Int)→down c<0∨(0≤down c∧down c<(n:Int)):=fun c a b=>(h c a b).imp id fun q=>⟨q.1,q.2.1⟩
theorem Zyf {n:Nat} {W T:Int} {area down:Int→Int} {st:List Int × List Int} {c:Int} (h1:Pool n W st.1) (h2:Pool n T st.2) (c0:0≤c) (c1:c<n) (hd:Z8p n down) (k:Nat) :
  (k≠c.toNat∨down c<0→at0 st.1 k≤at0 (Z3i area down st c).1 k∧at0 st.2 k≤at0 (Z3i area down st c).2 k)∧(k=c.toNat→at0 st.1 k - at0 st.1 k / 4≤at0 (Z3i area down st c).1 k):=by
 have hn:=h1.len
 have hn2:=h2.len
 unfold Z3i
 split
 ·refine ⟨fun _=>⟨Int.le_refl _,Int.le_refl _⟩,fun q=>?_⟩
  have:=(h1.at (i:=k) (by omega)).1
  omega
 ·rename_i q
  obtain ⟨d0,d1,d2⟩:=(hd c c0 c1).resolve_left fun z=>q (.inl z)
  have a1:=h2.at (i:=c.toNat) (by omega)
  have a1:0≤st.2.getD c.toNat 0∧_:=a1
  have p:=Z11l (a:=st.2.getD c.toNat 0) (b:=st.1.getD c.toNat 0 / 4) (c:=st.1.getD c.toNat 0) a1.1 (by omega) (by omega) (by omega)
  have g0:0<st.1.getD c.toNat 0:=by omega
  have ne:c.toNat≠(down c).toNat:=by omega
  have e:st.1.getD c.toNat 0=at0 st.1 c.toNat:=rfl
  dsimp only
  rw [Z1g5 (by omega) (by omega) ne,Z1g5 (by omega) (by omega) ne]
  refine ⟨fun z=>?_,fun z=>?_⟩
  ·have z:k≠c.toNat:=z.resolve_right (by omega)
   rw [if_neg z,if_neg z]
   constructor <;> split <;> omega
  ·subst z
   rw [if_neg ne,if_pos rfl,e]
   omega
theorem Zpv {n:Nat} {W T:Int} {area down:Int→Int} (hd:Z8p n down) (k:Nat):∀ (order:List Int) {st:List Int × List Int},(∀ c ∈ order,0≤c∧c<(n:Int))→(∀ c ∈ order,k≠c.toNat∨down c<0)→Pool n W st.1→Pool n T st.2 →
  at0 st.1 k≤at0 (runA area down order st).1 k∧at0 st.2 k≤at0 (runA area down order st).2 k
 | [],st,_,_,_,_=>⟨Int.le_refl _,Int.le_refl _⟩
 | c :: l,st,hc,hk,h1,h2=>by
  have h0:=hc c List.mem_cons_self
  obtain ⟨a,b⟩:=Zm9 (area:=area) h1 h2 h0.1 h0.2 (hd.weak c h0.1 h0.2)
  obtain ⟨i1,i2⟩:=Zpv hd k l (fun x hx=>hc x (List.mem_cons_of_mem _ hx)) (fun x hx=>hk x (List.mem_cons_of_mem _ hx)) a b
  obtain ⟨j1,j2⟩:=(Zyf (area:=area) h1 h2 h0.1 h0.2 hd k).1 (hk c List.mem_cons_self)
  exact ⟨Int.le_trans j1 i1,Int.le_trans j2 i2⟩
theorem Z14o {n:Nat} {W T:Int} {area down:Int→Int} (hd:Z8p n down) (k:Nat) (hkn:k<n):∀ (order:List Int) {st:List Int × List Int},(∀ c ∈ order,0≤c∧c<(n:Int))→order.Nodup→Pool n W st.1→Pool n T st.2 →
  at0 st.1 k - at0 st.1 k / 4≤at0 (runA area down order st).1 k
 | [],st,_,_,h1,h2=>by
  have:=(h1.at hkn).1
  show at0 st.1 k - at0 st.1 k / 4≤at0 st.1 k
  omega
 | c :: l,st,hc,hk,h1,h2=>by
  have h0:=hc c List.mem_cons_self
  obtain ⟨a,b⟩:=Zm9 (area:=area) h1 h2 h0.1 h0.2 (hd.weak c h0.1 h0.2)
  obtain ⟨j1,j2⟩:=Zyf (area:=area) h1 h2 h0.1 h0.2 hd k
  have hcl:=fun x hx=>hc x (List.mem_cons_of_mem _ hx)
  obtain ⟨n1,n2⟩:=List.nodup_cons.1 hk
  by_cases q:k=c.toNat
  ·have:=(Zpv (area:=area) hd k l hcl (fun x hx=>.inl fun z=>n1 (by have:=(hcl x hx).1; rw [show c=x by omega]; exact hx)) a b).1
   exact Int.le_trans (j2 q) this
  ·have i1:=Z14o (area:=area) hd k hkn l hcl n2 a b
   have:=(j1 (.inl q)).1
   refine Int.le_trans ?_ i1
   omega
theorem Z1g6 (a b:Int):(seg a b).Nodup:=by
 unfold seg
 refine List.pairwise_map.2 ((List.nodup_range' (s:=a.toNat) (n:=b.toNat - a.toNat)).imp fun h q=>h ?_)
 exact Int.ofNat_inj.1 q
theorem Z1g7 (bed:List Nat):(ordL bed).Nodup:=(Z5k bed 0 bed.length).nodup_iff.2 (Z1g6 _ _)
theorem Z11m {bed:List Nat} {x:Int} (h:x ∈ ordL bed):0≤x∧x<(bed.length:Int):=by
 have:=Z71 h
 omega
theorem Z1g8 {n:Int} {bed:List Nat} (hb:(bed.length:Int)=Zb n):Z8p bed.length (Z22 true (Zb n) n bed):=fun c c0 c1=>by
 rw [Zm7 hb c0 c1]
 have hp:Zh n c=true:=by
  obtain ⟨k,rfl⟩:∃ k:Nat,c=k:=⟨c.toNat,by omega⟩
  exact Zcd (by omega)
 rcases Z14m (bed:=bed) hp with q | ⟨q1,q2,q3,_⟩
 ·exact .inl (by omega)
 ·exact .inr ⟨q1,by omega,fun e=>by rw [e] at q3; omega⟩
end Go.Lift

namespace Go.Lift
open Go
theorem BLs.app {a b:List Int} (ha:BLs a) (hb:BLs b):BLs (a++b):=fun x h=>(List.mem_append.1 h).elim (ha x) (hb x)
theorem BLs.take {a:List Int} (ha:BLs a) (n:Nat):BLs (a.take n):=fun x h=>ha x (List.mem_of_mem_take h)
theorem BLs.drop {a:List Int} (ha:BLs a) (n:Nat):BLs (a.drop n):=fun x h=>ha x (List.mem_of_mem_drop h)
end Go.Lift

namespace Go.Lift
open Go
theorem Z1hu {α:Type} {l:List α} {k n:Nat} (hl:l.length=k) (hk:k<n) (z v:α):(l++List.replicate (n - k) z).set (0+k) v=l++[v]++List.replicate (n - (k+1)) z:=by
 obtain ⟨m,hm⟩:∃ m,n - k=m+1:=⟨n - k - 1,by omega⟩
 rw [hm,show n - (k+1)=m by omega,List.replicate_succ,Nat.zero_add,Z1bd hl,List.append_assoc]
 rfl
end Go.Lift

namespace Go.Lift
open Go
end Go.Lift

namespace Go.Lift
open Go
end Go.Lift

namespace Go.Lift
open Go
def Zma (g:Option Gr) (c:Nat):Int:=if c=1 then iw (2*Zm1 g c) else Zm1 g c
theorem Z1g9 {l:List Int} {k:Nat} (hl:l.length=k) (a:Int) (r:List Int):(l++[a]++r).set (0+k) (i64.wrap (2*(l++[a]++r).getD (0+k) 0))=l++[iw (2*a)]++r:=by
 rw [Nat.zero_add,List.append_assoc,List.append_assoc]
 show (l++a :: r).set k (i64.wrap (2*(l++a :: r).getD k 0))=l++iw (2*a) :: r
 rw [Z1bd hl]
 have:(l++a :: r).getD k 0=a:=by
  rw [List.getD_eq_getElem?_getD,List.getElem?_append_right (by omega),hl,Nat.sub_self]; rfl
 rw [this]; rfl
theorem new1:newR 1=(some (netG 1),0,()):=by unfold newR; rw [if_neg (by decide)]
end Go.Lift

namespace Go.Lift
def Z49:List Nat:=[4617315517961601024,4616189618054758400,4613937818241073152,4611686018427387904,4607182418800017408,0]
theorem Z1hv:ordL Z49=[0,1,2,3,4,5]:=(Z5g (by decide +kernel) (by decide +kernel)).symm
theorem Z1ga:ordL [4607182418800017408,4613937818241073152,4611686018427387904,4613937818241073152]=[1,3,2,0]:=(Z5g (by decide +kernel) (by decide +kernel)).symm
def Z1df:SeaT:=(Z49,[100,0,0,0,0,0],[10,0,0,0,0,0],[0,0,0,0,0,0,0,0,0,0,0,0],0,0)
theorem Z1gb:runA (Z1c 1) (Z22 true 6 1 Z49) [0,1,2,3,4,5] ([100,0,0,0,0,0],[10,0,0,0,0,0])=([75,0,0,0,0,25],[8,0,0,0,0,2]):=by decide +kernel
theorem Zek:Z6b (some (netG 1))=6:=by rw [Z3a]; decide
theorem Zyg:Zy2 (some (netG 1))=12:=by decide +kernel
theorem Z1hw:Z7w (some (netG 1)) Z1df=([75,0,0,0,0,25],[8,0,0,0,0,2],0,()):=by
 show runF true (Z6b (some (netG 1))) (Zy2 (some (netG 1))) (Z1c 1) (Z22 true (Z6b (some (netG 1))) 1 Z1df.1) Z1df=_
 rw [Zek,Zyg,Z14n (by decide) (by decide) (by decide)]
 show ((runA (Z1c 1) (Z22 true 6 1 Z49) (ordL Z49) ([100,0,0,0,0,0],[10,0,0,0,0,0])).1,(runA (Z1c 1) (Z22 true 6 1 Z49) (ordL Z49) ([100,0,0,0,0,0],[10,0,0,0,0,0])).2,0,())=_
 rw [Z1hv,Z1gb]
theorem Z1dg:Z1m (some (netG 1)) Z49 0=(5,()):=by
 show r1 (Z22 true (Z6b (some (netG 1))) 1 Z49 0)=_
 rw [Zek]; decide +kernel
theorem Z1dh:Z1m (some (netG 1)) Z49 5=(-1,()):=by
 show r1 (Z22 true (Z6b (some (netG 1))) 1 Z49 5)=_
 rw [Zek]; decide +kernel
def Zru:Nat→List Int
 | 0=>[1431655765,2863311530,1431655765,1431655765,1431655765,1431655765]
 | k+1=>(Zru k).set k 0
def Z171:Nat→List Nat
 | 0=>[0,0,0,0,0,0]
 | k+1=>(Z171 k).set k (f64.nearest (5 - (k:Int)))
theorem Z1ka:Z171 6=Z49:=by decide +kernel
theorem Z1kb:(Zru 6).set 0 100=[100,0,0,0,0,0]:=by decide
theorem Z11n:AllW Z49:=by unfold AllW W64 Z49; decide
theorem Z1kc:(List.range 6).map (Zma (some (netG 1)))=Zru 0:=by decide +kernel
theorem Z14p (n:Int):(Zb n=0∧newR n=(none,10,())∧Z7u n=(none,10,()))∨(Zb n≠0∧Z1b n=true∧newR n=(some (netG n),0,())∧Z7u n=(some (Z6z n),0,())):=by
 by_cases q:Zb n=0
 ·exact .inl ⟨q,by unfold newR; rw [if_pos q],by unfold Z7u; rw [if_pos q]⟩
 ·refine .inr ⟨q,?_,by unfold newR; rw [if_neg q],by unfold Z7u; rw [if_neg q]⟩
  unfold Zb at q
  by_cases g:Z1b n=true
  ·exact g
  ·exact absurd (if_neg g) q
theorem Z8q {n:Int} (g:Z1b n=true) (bed:List Nat) (c:Int):Z1m (some (netG n)) bed c=Z3l (some (Z6z n)) bed c:=by
 show r1 (Z22 true (Z6b (some (netG n))) n bed c)=r1 (Z22 true (Zb n) n bed c)
 rw [Z3a]
structure Ran (n:Int) (s:SeaT) (w t:List Int):Prop where
 bed:(s.1.length:Int)=Zb n
 wat:s.2.1.length=s.1.length
 tra:s.2.2.1.length=s.1.length
 p1:Pool s.1.length s.2.1.sum s.2.1
 p2:Pool s.1.length s.2.2.1.sum s.2.2.1
 b1:s.2.1.sum≤4503599627370496
 b2:s.2.2.1.sum≤4503599627370496
 run:runA (Z1c n) (Z22 true (Zb n) n s.1) (ordL s.1) (s.2.1,s.2.2.1)=(w,t)
 q1:Pool s.1.length s.2.1.sum w
 q2:Pool s.1.length s.2.2.1.sum t
theorem Ran.keep {n:Int} {s:SeaT} {w t:List Int} (h:Ran n s w t) {k:Nat} (hk:k<s.1.length) :
  at0 s.2.1 k - at0 s.2.1 k / 4≤at0 w k∧(Z22 true (Zb n) n s.1 k<0→at0 s.2.1 k≤at0 w k∧at0 s.2.2.1 k≤at0 t k):=by
 have he:=Z1g8 (n:=n) (bed:=s.1) h.bed
 constructor
 ·have:=Z14o (area:=Z1c n) he k hk (ordL s.1) (st:=(s.2.1,s.2.2.1)) (fun c hc=>Z11m hc) (Z1g7 _) h.p1 h.p2
  rw [h.run] at this; exact this
 ·intro hd
  have:=Zpv (area:=Z1c n) he k (ordL s.1) (st:=(s.2.1,s.2.2.1)) (fun c hc=>Z11m hc) (fun c hc=>by
   by_cases q:k=c.toNat
   ·right
    have:=(Z11m hc).1
    rw [show c=(k:Int) by omega]; exact hd
   ·exact .inl q) h.p1 h.p2
  rw [h.run] at this; exact this
end Go.Lift

namespace Go.Lift
def Z5l:=fun (ty3:Nat) (n:Int) (bed:List Nat) (c:Int) (post:Bool × Unit→Prop)=>∃ (h:True),∀ (a:Bool × Unit),a=yesR→∀ (a_1:Bool),a_1 =
 a.fst→Br (!a_1) (post (false,())) (∀ (a:Bool),a=decide ((↑bed.length:Int)≤(65536:Int))→Br a (∃ (h:WOrd bed),∀ (a:List Int × Unit),a=Z9b bed→∃ (h :
 WOrd bed),∀ (a_2:List Int × Unit),a_2=Z9b bed→∃ (h:True),∀ (a_3:Bool × Unit),a_3=Zya (List.take a.fst.length (List.drop (0:Nat) a.fst)) (List.take
 a_2.fst.length (List.drop (0:Nat) a_2.fst))→∀ (a_4:Bool),a_4=a_3.fst→Br (!a_4) (post (false,())) (∃ (h:I64 n),∃ (h:I64 n),∀ (a_5:Option (Int × List (Int ×
 Int × Int × Int) × List Int) × Int × Unit),a_5=Z7u n→∀ (a_6:Bool),a_6=((newR n).snd.fst != a_5.snd.fst)→Br a_6 (∀ (a:Bool),a=((newR n).snd.fst==a_5.snd.fst) →
 post (a,())) (∀ (a_7:Bool),a_7=(a_5.snd.fst != (0:Int))→Br a_7 (∀ (a:Bool),a=((newR n).snd.fst==a_5.snd.fst)→post (a,())) (HIs [HObj.row Md.rw ty3 (K.int
 i64) a.fst,HObj.row Md.rw ty3 (K.int i64) a_2.fst] [HObj.row Md.rw ty3 (K.int i64) a.fst,HObj.row Md.rw ty3 (K.int i64) a_2.fst]∧∃ (I:Int ×
 Unit→Unit→Prop),∃ (μ:Int × Unit→Unit→Nat),I ((-1:Int),()) ()∧∀ (x:Int × Unit) (y:Unit),I x y→∃ (h:True),∀ (a_8:Bool),a_8=decide (x.fst≤(Zd
 (newR n).fst).fst)→Br a_8 (∀ (a_9:Bool),a_9=decide (x.fst≤(6144:Int))→Br a_9 (∃ (h:Z27 (newR n).fst bed x.fst),∀ (a_10:Int × Unit),a_10=Z1m (newR
 n).fst bed x.fst→∃ (h:Z3m a_5.fst bed x.fst),∀ (a_11:Int × Unit),a_11=Z3l a_5.fst bed x.fst→∀ (a_12:Bool),a_12=(a_10.fst != a_11.fst)→Br a_12 (post
 (false,())) (HIs [HObj.row Md.rw ty3 (K.int i64) a.fst,HObj.row Md.rw ty3 (K.int i64) a_2.fst] [HObj.row Md.rw ty3 (K.int i64) a.fst,HObj.row Md.rw
 ty3 (K.int i64) a_2.fst]∧I (i64.wrap (x.fst+(1:Int)),()) ()∧μ (i64.wrap (x.fst+(1:Int)),()) ()<μ x y)) (∃ (h:Z27 (newR n).fst bed c),
 ∀ (a:Int × Unit),a=Z1m (newR n).fst bed c→∃ (h:Z3m a_5.fst bed c),∀ (a_10:Int × Unit),a_10=Z3l a_5.fst bed c→∀ (a_11:Bool),a_11=(a.fst ==
 a_10.fst)→Br a_11 (∃ (h:Z27 none bed c),∀ (a:Int × Unit),a=Z1m none bed c→∀ (a_12:Bool),a_12=(a.fst==(-1:Int))→post (a_12,())) (post
 (false,())))) (∃ (h:Z27 (newR n).fst bed c),∀ (a:Int × Unit),a=Z1m (newR n).fst bed c→∃ (h:Z3m a_5.fst bed c),∀ (a_9:Int × Unit),a_9=Z3l
 a_5.fst bed c→∀ (a_10:Bool),a_10=(a.fst==a_9.fst)→Br a_10 (∃ (h:Z27 none bed c),∀ (a:Int × Unit),a=Z1m none bed c→∀ (a_11:Bool),a_11
 = (a.fst==(-1:Int))→post (a_11,())) (post (false,()))))))) (∃ (h:I64 n),∃ (h:I64 n),∀ (a:Option (Int × List (Int × Int × Int × Int) × List Int) × Int × Unit),
 a=Z7u n→∀ (a_2:Bool),a_2=((newR n).snd.fst != a.snd.fst)→Br a_2 (∀ (a_3:Bool),a_3=((newR n).snd.fst==a.snd.fst)→post (a_3,())) (∀ (a_3:Bool),a_3 =
 (a.snd.fst != (0:Int))→Br a_3 (∀ (a_4:Bool),a_4=((newR n).snd.fst==a.snd.fst)→post (a_4,())) (HIs [HObj.pend,HObj.pend] [HObj.pend,HObj.pend]∧∃ (I:Int × Unit →
 Unit→Prop),∃ (μ:Int × Unit→Unit→Nat),I ((-1:Int),()) ()∧∀ (x:Int × Unit) (y:Unit),I x y→∃ (h:True),∀ (a_4:Bool),a_4=decide (x.fst≤(Zd (newR
 n).fst).fst)→Br a_4 (∀ (a_5:Bool),a_5=decide (x.fst≤(6144:Int))→Br a_5 (∃ (h:Z27 (newR n).fst bed x.fst),∀ (a_6:Int × Unit),a_6=Z1m (newR n).fst bed
 x.fst→∃ (h:Z3m a.fst bed x.fst),∀ (a_7:Int × Unit),a_7=Z3l a.fst bed x.fst→∀ (a:Bool),a=(a_6.fst != a_7.fst)→Br a (post (false,())) (HIs
 [HObj.pend,HObj.pend] [HObj.pend,HObj.pend]∧I (i64.wrap (x.fst+(1:Int)),()) ()∧μ (i64.wrap (x.fst+(1:Int)),()) ()<μ x y)) (∃ (h:Z27 (newR
 n).fst bed c),∀ (a_6:Int × Unit),a_6=Z1m (newR n).fst bed c→∃ (h:Z3m a.fst bed c),∀ (a_7:Int × Unit),a_7=Z3l a.fst bed c→∀ (a:Bool),a=(a_6.fst
 == a_7.fst)→Br a (∃ (h:Z27 none bed c),∀ (a:Int × Unit),a=Z1m none bed c→∀ (a_8:Bool),a_8=(a.fst==(-1:Int))→post (a_8,())) (post
 (false,())))) (∃ (h:Z27 (newR n).fst bed c),∀ (a_5:Int × Unit),a_5=Z1m (newR n).fst bed c→∃ (h:Z3m a.fst bed c),∀ (a_6:Int × Unit),a_6 =
 Z3l a.fst bed c→∀ (a:Bool),a=(a_5.fst==a_6.fst)→Br a (∃ (h:Z27 none bed c),∀ (a:Int × Unit),a=Z1m none bed c→∀ (a_7:Bool),a_7 =
 (a.fst==(-1:Int))→post (a_7,())) (post (false,())))))))
theorem Znx (ty0:Nat) (n:Int) (bed:List Nat) (c:Int) (h:Z1ic n bed c) (w:KS.wf [.int .i64,.slice (.flt .f64),.int .i64] (n,bed,c,())):Z5l ty0 n bed c (fun r=>r=yesD n bed c):=by
 obtain ⟨hn,hb,hc⟩:=h
 have same:∀ l:List Int,(Zya l l).1=true:=fun l=>beq_self_eq_true l
 refine ⟨trivial,?_⟩
 rintro _ rfl
 rintro _ rfl
 refine Br.intro (fun e=>absurd e (by first | decide | simp)) fun _=>?_
 rintro _ rfl
 refine Br.intro (fun e=>?_) fun e=>?_
 ·have wo:WOrd bed:=⟨hb,by have:=of_decide_eq_true e; omega⟩
  refine ⟨wo,?_⟩
  rintro _ rfl
  refine ⟨wo,?_⟩
  rintro _ rfl
  refine ⟨trivial,?_⟩
  rintro _ rfl
  rintro _ rfl
  rw [same]
  refine Br.intro (fun e=>absurd e (by decide)) fun _=>?_
  refine ⟨hn,hn,?_⟩
  rintro _ rfl
  rcases Z14p n with ⟨_,e1,e2⟩ | ⟨_,gn,e1,e2⟩
  ·rw [e1,e2]
   rintro _ rfl
   refine Br.intro (fun e=>absurd e (by decide)) fun _=>?_
   rintro _ rfl
   refine Br.intro (fun _=>?_) fun e=>absurd e (by decide)
   rintro _ rfl
   rfl
  rw [e1,e2]
  rintro _ rfl
  refine Br.intro (fun e=>absurd e (by first | decide | simp)) fun _=>?_
  rintro _ rfl
  refine Br.intro (fun e=>absurd e (by first | decide | simp)) fun _=>?_
  have hC:(Zd (some (netG n))).fst=Zb n:=Z3a n
  have w1:∀ c,Z27 (some (netG n)) bed c:=fun c=>⟨.inr ⟨n,gn,rfl⟩,hb⟩
  have w2:∀ c,Z3m (some (Z6z n)) bed c:=fun c=>⟨.inr ⟨n,gn,rfl⟩,hb⟩
  rw [hC]
  refine ⟨rfl,fun x _=>-1≤x.1∧x.1≤6145,fun x _=>(6145 - x.1).toNat,⟨by decide,by decide⟩,?_⟩
  rintro ⟨x,⟨⟩⟩ ⟨⟩ ⟨h1,h2⟩
  dsimp only at h1 h2 ⊢
  refine ⟨trivial,?_⟩
  rintro _ rfl
  refine Br.intro (fun e=>?_) fun e=>?_
  ·rintro _ rfl
   refine Br.intro (fun e2=>?_) fun e2=>?_
   ·refine ⟨w1 _,?_⟩
    rintro _ rfl
    refine ⟨w2 _,?_⟩
    rintro _ rfl
    rw [Z8q gn]
    rintro _ rfl
    refine Br.intro (fun e=>by simp at e) fun _=>?_
    have e2:=of_decide_eq_true e2
    rw [wi (x:=x+1) ⟨by omega,by omega⟩]
    exact ⟨rfl,⟨by omega,by omega⟩,by omega⟩
   ·refine ⟨w1 c,?_⟩
    rintro _ rfl
    refine ⟨w2 c,?_⟩
    rintro _ rfl
    rw [Z8q gn]
    rintro _ rfl
    refine Br.intro (fun _=>?_) fun e=>by simp at e
    refine ⟨⟨.inl rfl,hb⟩,?_⟩
    rintro _ rfl
    rintro _ rfl
    rfl
  ·refine ⟨w1 c,?_⟩
   rintro _ rfl
   refine ⟨w2 c,?_⟩
   rintro _ rfl
   rw [Z8q gn]
   rintro _ rfl
   refine Br.intro (fun _=>?_) fun e=>by simp at e
   refine ⟨⟨.inl rfl,hb⟩,?_⟩
   rintro _ rfl
   rintro _ rfl
   rfl
 ·refine ⟨hn,hn,?_⟩
  rintro _ rfl
  rcases Z14p n with ⟨_,e1,e2⟩ | ⟨_,gn,e1,e2⟩
  ·rw [e1,e2]
   rintro _ rfl
   refine Br.intro (fun e=>absurd e (by decide)) fun _=>?_
   rintro _ rfl
   refine Br.intro (fun _=>?_) fun e=>absurd e (by decide)
   rintro _ rfl
   rfl
  rw [e1,e2]
  rintro _ rfl
  refine Br.intro (fun e=>absurd e (by first | decide | simp)) fun _=>?_
  rintro _ rfl
  refine Br.intro (fun e=>absurd e (by first | decide | simp)) fun _=>?_
  have hC:(Zd (some (netG n))).fst=Zb n:=Z3a n
  have w1:∀ c,Z27 (some (netG n)) bed c:=fun c=>⟨.inr ⟨n,gn,rfl⟩,hb⟩
  have w2:∀ c,Z3m (some (Z6z n)) bed c:=fun c=>⟨.inr ⟨n,gn,rfl⟩,hb⟩
  rw [hC]
  refine ⟨rfl,fun x _=>-1≤x.1∧x.1≤6145,fun x _=>(6145 - x.1).toNat,⟨by decide,by decide⟩,?_⟩
  rintro ⟨x,⟨⟩⟩ ⟨⟩ ⟨h1,h2⟩
  dsimp only at h1 h2 ⊢
  refine ⟨trivial,?_⟩
  rintro _ rfl
  refine Br.intro (fun e=>?_) fun e=>?_
  ·rintro _ rfl
   refine Br.intro (fun e2=>?_) fun e2=>?_
   ·refine ⟨w1 _,?_⟩
    rintro _ rfl
    refine ⟨w2 _,?_⟩
    rintro _ rfl
    rw [Z8q gn]
    rintro _ rfl
    refine Br.intro (fun e=>by simp at e) fun _=>?_
    have e2:=of_decide_eq_true e2
    rw [wi (x:=x+1) ⟨by omega,by omega⟩]
    exact ⟨rfl,⟨by omega,by omega⟩,by omega⟩
   ·refine ⟨w1 c,?_⟩
    rintro _ rfl
    refine ⟨w2 c,?_⟩
    rintro _ rfl
    rw [Z8q gn]
    rintro _ rfl
    refine Br.intro (fun _=>?_) fun e=>by simp at e
    refine ⟨⟨.inl rfl,hb⟩,?_⟩
    rintro _ rfl
    rintro _ rfl
    rfl
  ·refine ⟨w1 c,?_⟩
   rintro _ rfl
   refine ⟨w2 c,?_⟩
   rintro _ rfl
   rw [Z8q gn]
   rintro _ rfl
   refine Br.intro (fun _=>?_) fun e=>by simp at e
   refine ⟨⟨.inl rfl,hb⟩,?_⟩
   rintro _ rfl
   rintro _ rfl
   rfl
end Go.Lift

namespace Go.Lift
def Z72:=fun (ty39 ty59 ty2:Nat) (post:Bool × Unit→Prop)=>∃ (h:I64 (1:Int)),∀ (a:Bool),a=((newR (1:Int)).snd.fst != (0:Int))→Br a (post
 (false,())) (∃ (h:True),∀ (a:Bool),a=decide ((Zd (newR (1:Int)).fst).fst<(0:Int))→Br a (∀ (a:Bool),a=((0:Int) != (6:Int))→Br a (post
 (false,())) False) (∀ (a:Bool),a=decide ((Zd (newR (1:Int)).fst).fst > (6144:Int))→Br a (∀ (a:Bool),a=((0:Int) != (6:Int))→Br a (post (false,
 ())) False) (∃ (h:True),∀ (a:Bool),a=((Zak (newR (1:Int)).fst).fst != i64.wrap ((2:Int)*(Zd (newR (1:Int)).fst).fst))→Br a (∀ (a:Bool),a =
 ((0:Int) != (6:Int))→Br a (post (false,())) False) (∃ (h:(0:Int)≤(Zd (newR (1:Int)).fst).fst∧(Zd (newR (1:Int)).fst).fst≤(Zd (newR (1 :
 Int)).fst).fst∧(Zd (newR (1:Int)).fst).fst*(↑(8:Nat):Int)≤(281474976710656:Int)),∃ (h:(0:Int)≤(Zd (newR (1:Int)).fst).fst∧(Zd (newR (1 :
 Int)).fst).fst≤(Zd (newR (1:Int)).fst).fst∧(Zd (newR (1:Int)).fst).fst*(↑(8:Nat):Int)≤(281474976710656:Int)),∃ (h:(0:Int)≤(Zd (newR (1 :
 Int)).fst).fst∧(Zd (newR (1:Int)).fst).fst≤(Zd (newR (1:Int)).fst).fst∧(Zd (newR (1:Int)).fst).fst*(↑(8:Nat):Int)≤(281474976710656:Int)),∃ (h
 : (0:Int)≤i64.wrap ((2:Int)*(Zd (newR (1:Int)).fst).fst)∧i64.wrap ((2:Int)*(Zd (newR (1:Int)).fst).fst)≤i64.wrap ((2:Int) *
 (Zd (newR (1:Int)).fst).fst)∧i64.wrap ((2:Int)*(Zd (newR (1:Int)).fst).fst)*(↑(8:Nat):Int)≤(281474976710656:Int)),HIs [HObj.pend,HObj.box
 Md.rw ty39 [SV.val (Go.Value.slice none (0:Nat) (0:Nat)),SV.val (Go.Value.slice none (0:Nat) (0:Nat)),SV.val (Go.Value.slice none (0:Nat) (0 :
 Nat)),SV.val (Go.Value.slice none (0:Nat) (0:Nat)),SV.val (Go.Value.int i64 (0:Int)),SV.val (Go.Value.int i64 (0:Int))],HObj.row Md.rw ty59
 (K.flt f64) (List.replicate (Zd (newR (1:Int)).fst).fst.toNat (0:Nat)),HObj.row Md.rw ty2 (K.int i64) (List.replicate (Zd (newR (1 :
 Int)).fst).fst.toNat (0:Int)),HObj.row Md.rw ty2 (K.int i64) (List.replicate (Zd (newR (1:Int)).fst).fst.toNat (0:Int)),HObj.row Md.rw ty59 (K.flt
 f64) (List.replicate (i64.wrap ((2:Int)*(Zd (newR (1:Int)).fst).fst)).toNat (0:Nat)),HObj.box Md.rw ty39 [SV.osl (2:Nat) (0:Nat) (6:Nat),
 SV.osl (3:Nat) (0:Nat) (6:Nat),SV.osl (4:Nat) (0:Nat) (6:Nat),SV.osl (5:Nat) (0:Nat) (12:Nat),SV.val (Go.Value.int i64 (0:Int)),SV.val
 (Go.Value.int i64 (0:Int))]] [HObj.pend,HObj.box Md.rw ty39 [SV.val (Go.Value.slice none (0:Nat) (0:Nat)),SV.val (Go.Value.slice none (0:Nat) (0 :
 Nat)),SV.val (Go.Value.slice none (0:Nat) (0:Nat)),SV.val (Go.Value.slice none (0:Nat) (0:Nat)),SV.val (Go.Value.int i64 (0:Int)),SV.val
 (Go.Value.int i64 (0:Int))],HObj.row Md.rw ty59 (K.flt f64) (List.replicate (Zd (newR (1:Int)).fst).fst.toNat (0:Nat)),HObj.row Md.rw ty2 (K.int
 i64) (List.replicate (Zd (newR (1:Int)).fst).fst.toNat (0:Int)),HObj.row Md.rw ty2 (K.int i64) (List.replicate (Zd (newR (1:Int)).fst).fst.toNat
 (0:Int)),HObj.row Md.rw ty59 (K.flt f64) (List.replicate (i64.wrap ((2:Int)*(Zd (newR (1:Int)).fst).fst)).toNat (0:Nat)),HObj.box Md.rw ty39
 [SV.osl (2:Nat) (0:Nat) (6:Nat),SV.osl (3:Nat) (0:Nat) (6:Nat),SV.osl (4:Nat) (0:Nat) (6:Nat),SV.osl (5:Nat) (0:Nat) (12:Nat),SV.val (Go.Value.int
 i64 (0:Int)),SV.val (Go.Value.int i64 (0:Int))]]∧∃ (I:Int × Unit→List Int × Unit→Prop),∃ (μ:Int × Unit→List Int × Unit→Nat),I ((0:Int),())
 (List.replicate (Zd (newR (1:Int)).fst).fst.toNat (0:Int),())∧∀ (x:Int × Unit) (y:List Int × Unit),I x y→∀ (a:Bool),a=decide (x.fst<(Zd (newR (1 :
 Int)).fst).fst)→Br a (∃ (h:True),∃ (h:(0:Int)≤x.fst∧x.fst<(↑(Zd (newR (1:Int)).fst).fst.toNat:Int)),∀ (a:Bool),a=(x.fst==(1:Int))→Br a (∃ (h :
 (0:Int)≤x.fst∧x.fst<(↑(Zd (newR (1:Int)).fst).fst.toNat:Int)),∃ (h:(0:Int)≤x.fst∧x.fst<(↑(Zd (newR (1:Int)).fst).fst.toNat:Int)),HIs
 [HObj.pend,HObj.box Md.rw ty39 [SV.val (Go.Value.slice none (0:Nat) (0:Nat)),SV.val (Go.Value.slice none (0:Nat) (0:Nat)),SV.val (Go.Value.slice
 none (0:Nat) (0:Nat)),SV.val (Go.Value.slice none (0:Nat) (0:Nat)),SV.val (Go.Value.int i64 (0:Int)),SV.val (Go.Value.int i64 (0 :
 Int))],HObj.row Md.rw ty59 (K.flt f64) (List.replicate (Zd (newR (1:Int)).fst).fst.toNat (0:Nat)),HObj.row Md.rw ty2 (K.int i64) ((y.fst.set ((0 :
 Nat)+x.fst.toNat) (Z2l (newR (1:Int)).fst x.fst).fst).set ((0:Nat)+x.fst.toNat) (i64.wrap ((2:Int)*(y.fst.set ((0:Nat)+x.fst.toNat) (Z2l (newR (1 :
 Int)).fst x.fst).fst).getD ((0:Nat)+x.fst.toNat) (0:Int)))),HObj.row Md.rw ty2 (K.int i64) (List.replicate (Zd (newR (1:Int)).fst).fst.toNat (0:Int)),
 HObj.row Md.rw ty59 (K.flt f64) (List.replicate (i64.wrap ((2:Int)*(Zd (newR (1:Int)).fst).fst)).toNat (0:Nat)),HObj.box Md.rw ty39 [SV.osl (2 :
 Nat) (0:Nat) (6:Nat),SV.osl (3:Nat) (0:Nat) (6:Nat),SV.osl (4:Nat) (0:Nat) (6:Nat),SV.osl (5:Nat) (0:Nat) (12:Nat),SV.val (Go.Value.int i64 (0 :
 Int)),SV.val (Go.Value.int i64 (0:Int))]] [HObj.pend,HObj.box Md.rw ty39 [SV.val (Go.Value.slice none (0:Nat) (0:Nat)),SV.val (Go.Value.slice none
 (0:Nat) (0:Nat)),SV.val (Go.Value.slice none (0:Nat) (0:Nat)),SV.val (Go.Value.slice none (0:Nat) (0:Nat)),SV.val (Go.Value.int i64 (0 :
 Int)),SV.val (Go.Value.int i64 (0:Int))],HObj.row Md.rw ty59 (K.flt f64) (List.replicate (Zd (newR (1:Int)).fst).fst.toNat (0:Nat)),HObj.row
 Md.rw ty2 (K.int i64) ((y.fst.set ((0:Nat)+x.fst.toNat) (Z2l (newR (1:Int)).fst x.fst).fst).set ((0:Nat)+x.fst.toNat) (i64.wrap ((2:Int) *
 (y.fst.set ((0:Nat)+x.fst.toNat) (Z2l (newR (1:Int)).fst x.fst).fst).getD ((0:Nat)+x.fst.toNat) (0:Int)))),HObj.row Md.rw ty2 (K.int i64) (List.replicate
 (Zd (newR (1:Int)).fst).fst.toNat (0:Int)),HObj.row Md.rw ty59 (K.flt f64) (List.replicate (i64.wrap ((2:Int)*(Zd (newR (1 :
 Int)).fst).fst)).toNat (0:Nat)),HObj.box Md.rw ty39 [SV.osl (2:Nat) (0:Nat) (6:Nat),SV.osl (3:Nat) (0:Nat) (6:Nat),SV.osl (4:Nat) (0:Nat) (6:Nat),SV.osl (5
 : Nat) (0:Nat) (12:Nat),SV.val (Go.Value.int i64 (0:Int)),SV.val (Go.Value.int i64 (0:Int))]]∧I (i64.wrap (x.fst+(1:Int)),()) ((y.fst.set
 ((0:Nat)+x.fst.toNat) (Z2l (newR (1:Int)).fst x.fst).fst).set ((0:Nat)+x.fst.toNat) (i64.wrap ((2:Int)*(y.fst.set ((0:Nat)+x.fst.toNat) (Z2l (newR
 (1:Int)).fst x.fst).fst).getD ((0:Nat)+x.fst.toNat) (0:Int))),())∧μ (i64.wrap (x.fst+(1:Int)),()) ((y.fst.set ((0:Nat)+x.fst.toNat) (Z2l (newR (1 :
 Int)).fst x.fst).fst).set ((0:Nat)+x.fst.toNat) (i64.wrap ((2:Int)*(y.fst.set ((0:Nat)+x.fst.toNat) (Z2l (newR (1:Int)).fst x.fst).fst).getD ((0:Nat) +
 x.fst.toNat) (0:Int))),())<μ x y) (HIs [HObj.pend,HObj.box Md.rw ty39 [SV.val (Go.Value.slice none (0:Nat) (0:Nat)),SV.val (Go.Value.slice none (0:Nat)
 (0:Nat)),SV.val (Go.Value.slice none (0:Nat) (0:Nat)),SV.val (Go.Value.slice none (0:Nat) (0:Nat)),SV.val (Go.Value.int i64 (0:Int)),SV.val
 (Go.Value.int i64 (0:Int))],HObj.row Md.rw ty59 (K.flt f64) (List.replicate (Zd (newR (1:Int)).fst).fst.toNat (0:Nat)),HObj.row Md.rw ty2 (K.int
 i64) (y.fst.set ((0:Nat)+x.fst.toNat) (Z2l (newR (1:Int)).fst x.fst).fst),HObj.row Md.rw ty2 (K.int i64) (List.replicate (Zd (newR (1 :
 Int)).fst).fst.toNat (0:Int)),HObj.row Md.rw ty59 (K.flt f64) (List.replicate (i64.wrap ((2:Int)*(Zd (newR (1:Int)).fst).fst)).toNat (0:Nat)),
 HObj.box Md.rw ty39 [SV.osl (2:Nat) (0:Nat) (6:Nat),SV.osl (3:Nat) (0:Nat) (6:Nat),SV.osl (4:Nat) (0:Nat) (6:Nat),SV.osl (5:Nat) (0:Nat) (12:Nat),
 SV.val (Go.Value.int i64 (0:Int)),SV.val (Go.Value.int i64 (0:Int))]] [HObj.pend,HObj.box Md.rw ty39 [SV.val (Go.Value.slice none (0:Nat) (0 :
 Nat)),SV.val (Go.Value.slice none (0:Nat) (0:Nat)),SV.val (Go.Value.slice none (0:Nat) (0:Nat)),SV.val (Go.Value.slice none (0:Nat) (0:Nat)),
 SV.val (Go.Value.int i64 (0:Int)),SV.val (Go.Value.int i64 (0:Int))],HObj.row Md.rw ty59 (K.flt f64) (List.replicate (Zd (newR (1 :
 Int)).fst).fst.toNat (0:Nat)),HObj.row Md.rw ty2 (K.int i64) (y.fst.set ((0:Nat)+x.fst.toNat) (Z2l (newR (1:Int)).fst x.fst).fst),HObj.row Md.rw ty2 (K.int
 i64) (List.replicate (Zd (newR (1:Int)).fst).fst.toNat (0:Int)),HObj.row Md.rw ty59 (K.flt f64) (List.replicate (i64.wrap ((2:Int) *
 (Zd (newR (1:Int)).fst).fst)).toNat (0:Nat)),HObj.box Md.rw ty39 [SV.osl (2:Nat) (0:Nat) (6:Nat),SV.osl (3:Nat) (0:Nat) (6:Nat),SV.osl (4:Nat) (0:Nat)
 (6:Nat),SV.osl (5:Nat) (0:Nat) (12:Nat),SV.val (Go.Value.int i64 (0:Int)),SV.val (Go.Value.int i64 (0:Int))]]∧I (i64.wrap (x.fst+(1 :
 Int)),()) (y.fst.set ((0:Nat)+x.fst.toNat) (Z2l (newR (1:Int)).fst x.fst).fst,())∧μ (i64.wrap (x.fst+(1:Int)),()) (y.fst.set ((0:Nat)+x.fst.toNat)
 (Z2l (newR (1:Int)).fst x.fst).fst,())<μ x y)) (∀ (a:Bool),a=((↑(Zd (newR (1:Int)).fst).fst.toNat:Int) != (6:Int))→Br a (post (false,())) (HIs
 [HObj.box Md.rw ty39 [SV.osl (2:Nat) (0:Nat) (6:Nat),SV.osl (3:Nat) (0:Nat) (6:Nat),SV.osl (4:Nat) (0:Nat) (6:Nat),SV.osl (5:Nat) (0:Nat) (12:Nat),
 SV.val (Go.Value.int i64 (0:Int)),SV.val (Go.Value.int i64 (0:Int))],HObj.box Md.rw ty39 [SV.osl (2:Nat) (0:Nat) (6:Nat),SV.osl (3:Nat) (0:Nat) (6
 : Nat),SV.osl (4:Nat) (0:Nat) (6:Nat),SV.osl (5:Nat) (0:Nat) (12:Nat),SV.val (Go.Value.int i64 (0:Int)),SV.val (Go.Value.int i64 (0:Int))],
 HObj.row Md.rw ty59 (K.flt f64) (List.replicate (Zd (newR (1:Int)).fst).fst.toNat (0:Nat)),HObj.row Md.rw ty2 (K.int i64) y.fst,HObj.row Md.rw ty2
 (K.int i64) (List.replicate (Zd (newR (1:Int)).fst).fst.toNat (0:Int)),HObj.row Md.rw ty59 (K.flt f64) (List.replicate (i64.wrap ((2:Int)
 * (Zd (newR (1:Int)).fst).fst)).toNat (0:Nat)),HObj.box Md.rw ty39 [SV.osl (2:Nat) (0:Nat) (6:Nat),SV.osl (3:Nat) (0:Nat) (6:Nat),SV.osl (4:Nat) (0 :
 Nat) (6:Nat),SV.osl (5:Nat) (0:Nat) (12:Nat),SV.val (Go.Value.int i64 (0:Int)),SV.val (Go.Value.int i64 (0:Int))]] [HObj.box Md.rw ty39 [SV.osl (2 :
 Nat) (0:Nat) (6:Nat),SV.osl (3:Nat) (0:Nat) (6:Nat),SV.osl (4:Nat) (0:Nat) (6:Nat),SV.osl (5:Nat) (0:Nat) (12:Nat),SV.val (Go.Value.int i64 (0 :
 Int)),SV.val (Go.Value.int i64 (0:Int))],HObj.box Md.rw ty39 [SV.osl (2:Nat) (0:Nat) (6:Nat),SV.osl (3:Nat) (0:Nat) (6:Nat),SV.osl (4:Nat) (0:Nat) (6
 : Nat),SV.osl (5:Nat) (0:Nat) (12:Nat),SV.val (Go.Value.int i64 (0:Int)),SV.val (Go.Value.int i64 (0:Int))],HObj.row Md.rw ty59 (K.flt
 f64) (List.replicate (Zd (newR (1:Int)).fst).fst.toNat (0:Nat)),HObj.row Md.rw ty2 (K.int i64) y.fst,HObj.row Md.rw ty2 (K.int i64)
 (List.replicate (Zd (newR (1:Int)).fst).fst.toNat (0:Int)),HObj.row Md.rw ty59 (K.flt f64) (List.replicate (i64.wrap ((2:Int)*(Zd (newR (1
 : Int)).fst).fst)).toNat (0:Nat)),HObj.box Md.rw ty39 [SV.osl (2:Nat) (0:Nat) (6:Nat),SV.osl (3:Nat) (0:Nat) (6:Nat),SV.osl (4:Nat) (0:Nat) (6:Nat),SV.osl
 (5:Nat) (0:Nat) (12:Nat),SV.val (Go.Value.int i64 (0:Int)),SV.val (Go.Value.int i64 (0:Int))]]∧∃ (I:Int × Unit→List Nat × List Int × Unit →
 Prop),∃ (μ:Int × Unit→List Nat × List Int × Unit→Nat),I ((0:Int),()) (List.replicate (Zd (newR (1:Int)).fst).fst.toNat (0:Nat),y.fst,())∧∀ (x:Int × Unit)
 (y:List Nat × List Int × Unit),I x y→∀ (a:Bool),a=decide (x.fst<(6:Int))→Br a (∃ (h:(0:Int)≤x.fst∧x.fst<(↑(Zd (newR (1:Int)).fst).fst.toNat :
 Int)),∃ (h:(0:Int)≤x.fst∧x.fst<(↑(Zd (newR (1:Int)).fst).fst.toNat:Int)),HIs [HObj.box Md.rw ty39 [SV.osl (2:Nat) (0:Nat) (6:Nat),SV.osl (3:Nat) (0 :
 Nat) (6:Nat),SV.osl (4:Nat) (0:Nat) (6:Nat),SV.osl (5:Nat) (0:Nat) (12:Nat),SV.val (Go.Value.int i64 (0:Int)),SV.val (Go.Value.int i64 (0 :
 Int))],HObj.box Md.rw ty39 [SV.osl (2:Nat) (0:Nat) (6:Nat),SV.osl (3:Nat) (0:Nat) (6:Nat),SV.osl (4:Nat) (0:Nat) (6:Nat),SV.osl (5:Nat) (0:Nat) (12 :
 Nat),SV.val (Go.Value.int i64 (0:Int)),SV.val (Go.Value.int i64 (0:Int))],HObj.row Md.rw ty59 (K.flt f64) (y.fst.set ((0:Nat)+x.fst.toNat)
 (f64.nearest (i64.wrap ((5:Int) - x.fst)))),HObj.row Md.rw ty2 (K.int i64) (y.snd.fst.set ((0:Nat)+x.fst.toNat) (0:Int)),HObj.row Md.rw ty2
 (K.int i64) (List.replicate (Zd (newR (1:Int)).fst).fst.toNat (0:Int)),HObj.row Md.rw ty59 (K.flt f64) (List.replicate (i64.wrap ((2:Int)
 * (Zd (newR (1:Int)).fst).fst)).toNat (0:Nat)),HObj.box Md.rw ty39 [SV.osl (2:Nat) (0:Nat) (6:Nat),SV.osl (3:Nat) (0:Nat) (6:Nat),SV.osl (4:Nat) (0 :
 Nat) (6:Nat),SV.osl (5:Nat) (0:Nat) (12:Nat),SV.val (Go.Value.int i64 (0:Int)),SV.val (Go.Value.int i64 (0:Int))]] [HObj.box Md.rw ty39 [SV.osl (2 :
 Nat) (0:Nat) (6:Nat),SV.osl (3:Nat) (0:Nat) (6:Nat),SV.osl (4:Nat) (0:Nat) (6:Nat),SV.osl (5:Nat) (0:Nat) (12:Nat),SV.val (Go.Value.int i64 (0 :
 Int)),SV.val (Go.Value.int i64 (0:Int))],HObj.box Md.rw ty39 [SV.osl (2:Nat) (0:Nat) (6:Nat),SV.osl (3:Nat) (0:Nat) (6:Nat),SV.osl (4:Nat) (0:Nat) (6
 : Nat),SV.osl (5:Nat) (0:Nat) (12:Nat),SV.val (Go.Value.int i64 (0:Int)),SV.val (Go.Value.int i64 (0:Int))],HObj.row Md.rw ty59 (K.flt
 f64) (y.fst.set ((0:Nat)+x.fst.toNat) (f64.nearest (i64.wrap ((5:Int) - x.fst)))),HObj.row Md.rw ty2 (K.int i64) (y.snd.fst.set
 ((0:Nat)+x.fst.toNat) (0:Int)),HObj.row Md.rw ty2 (K.int i64) (List.replicate (Zd (newR (1:Int)).fst).fst.toNat (0:Int)),HObj.row Md.rw ty59 (K.flt
 f64) (List.replicate (i64.wrap ((2:Int)*(Zd (newR (1:Int)).fst).fst)).toNat (0:Nat)),HObj.box Md.rw ty39 [SV.osl (2:Nat) (0:Nat) (6:Nat),
 SV.osl (3:Nat) (0:Nat) (6:Nat),SV.osl (4:Nat) (0:Nat) (6:Nat),SV.osl (5:Nat) (0:Nat) (12:Nat),SV.val (Go.Value.int i64 (0:Int)),SV.val
 (Go.Value.int i64 (0:Int))]]∧I (i64.wrap (x.fst+(1:Int)),()) (y.fst.set ((0:Nat)+x.fst.toNat) (f64.nearest (i64.wrap ((5:Int) -
 x.fst))),y.snd.fst.set ((0:Nat)+x.fst.toNat) (0:Int),())∧μ (i64.wrap (x.fst+(1:Int)),()) (y.fst.set ((0:Nat)+x.fst.toNat) (f64.nearest
 (i64.wrap ((5:Int) - x.fst))),y.snd.fst.set ((0:Nat)+x.fst.toNat) (0:Int),())<μ x y) (∃ (h:(0:Int)≤(0:Int)∧(0:Int)<(↑(Zd (newR (1 :
 Int)).fst).fst.toNat:Int)),∃ (h:(0:Int)≤(0:Int)∧(0:Int)<(↑(Zd (newR (1:Int)).fst).fst.toNat:Int)),∃ (h:WRun (newR (1:Int)).fst (List.take (Zd
 (newR (1:Int)).fst).fst.toNat (List.drop (0:Nat) y.fst),List.take (Zd (newR (1:Int)).fst).fst.toNat (List.drop (0:Nat) (y.snd.fst.set ((0:Nat)+Int.toNat (0 :
 Int)) (100:Int))),[(10:Int),(0:Int),(0:Int),(0:Int),(0:Int),(0:Int)],[(0:Nat),(0:Nat),(0:Nat),(0:Nat),(0:Nat),(0:Nat),(0:Nat),(0:Nat),
 (0:Nat),(0:Nat),(0:Nat),(0:Nat)],(0:Int),(0:Int))),∀ (a:List Int × List Int × Int × Unit),a=Z7w (newR (1:Int)).fst (List.take (Zd (newR (1 :
 Int)).fst).fst.toNat (List.drop (0:Nat) y.fst),List.take (Zd (newR (1:Int)).fst).fst.toNat (List.drop (0:Nat) (y.snd.fst.set ((0:Nat)+Int.toNat (0:Int)) (100 :
 Int))),[(10:Int),(0:Int),(0:Int),(0:Int),(0:Int),(0:Int)],[(0:Nat),(0:Nat),(0:Nat),(0:Nat),(0:Nat),(0:Nat),(0:Nat),(0:Nat),(0:Nat),(0
 : Nat),(0:Nat),(0:Nat)],(0:Int),(0:Int))→∀ (a_1:Bool),a_1=(a.snd.snd.fst != (0:Int))→Br a_1 (post (false,())) (∀ (a_2:Bool),a_2=((↑a.fst.length :
 Int) != (6:Int))→Br a_2 (post (false,())) (∀ (a_3:Bool),a_3=((↑a.snd.fst.length:Int) != (6:Int))→Br a_3 (post (false,())) (∃ (h:(0:Int)≤(0:Int)
 ∧ (0:Int)<(↑a.fst.length:Int)),∀ (a_4:Bool),a_4=(a.fst.getD ((0:Nat)+Int.toNat (0:Int)) (0:Int) != (75:Int))→Br a_4 (post (false,())) (∃ (h:(0 :
 Int)≤(5:Int)∧(5:Int)<(↑a.fst.length:Int)),∀ (a_5:Bool),a_5=(a.fst.getD ((0:Nat)+Int.toNat (5:Int)) (0:Int) != (25:Int))→Br a_5 (post (false,
 ())) (∃ (h:(0:Int)≤(0:Int)∧(0:Int)<(↑a.snd.fst.length:Int)),∀ (a_6:Bool),a_6=(a.snd.fst.getD ((0:Nat)+Int.toNat (0:Int)) (0:Int) != (8:Int))→Br
 a_6 (post (false,())) (∃ (h:(0:Int)≤(5:Int)∧(5:Int)<(↑a.snd.fst.length:Int)),∀ (a_7:Bool),a_7=(a.snd.fst.getD ((0:Nat)+Int.toNat (5:Int)) (0 :
 Int) != (2:Int))→Br a_7 (post (false,())) (∃ (h:Z27 (newR (1:Int)).fst (List.take (Zd (newR (1:Int)).fst).fst.toNat (List.drop (0:Nat) y.fst)) (0 :
 Int)),∀ (a:Int × Unit),a=Z1m (newR (1:Int)).fst (List.take (Zd (newR (1:Int)).fst).fst.toNat (List.drop (0:Nat) y.fst)) (0:Int)→∀ (a_8:Bool),a_8 =
 (a.fst==(5:Int))→Br a_8 (∃ (h:Z27 (newR (1:Int)).fst (List.take (Zd (newR (1:Int)).fst).fst.toNat (List.drop (0:Nat) y.fst)) (5:Int)),∀ (a:Int × Unit),
 a=Z1m (newR (1:Int)).fst (List.take (Zd (newR (1:Int)).fst).fst.toNat (List.drop (0:Nat) y.fst)) (5:Int)→∀ (a_9:Bool),a_9=(a.fst==(-1:Int))→Br a_9
 (∃ (h:WOrd [(4607182418800017408:Nat),(4613937818241073152:Nat),(4611686018427387904:Nat),(4613937818241073152:Nat)]),∀ (a:List Int × Unit),a=Z9b
 [(4607182418800017408:Nat),(4613937818241073152:Nat),(4611686018427387904:Nat),(4613937818241073152:Nat)]→∃ (h:True),∀ (a_10:Bool × Unit),a_10=Zya
 (List.take a.fst.length (List.drop (0:Nat) a.fst)) [(1:Int),(3:Int),(2:Int),(0:Int)]→∀ (a:Bool),a=a_10.fst→post (a,())) (post (false,()))) (post
 (false,()))))))))))))))))
theorem Z11o (ty0 ty1 ty2:Nat)  : Z72 ty0 ty1 ty2  (fun r=>r=yesR):=by
 delta Z72
 dsimp only
 rw [new1]
 dsimp only
 have hC:(Zd (some (netG 1))).fst=6:=Zek
 have hE:(Zak (some (netG 1))).fst=12:=Zyg
 rw [hC,hE]
 refine ⟨⟨by decide,by decide⟩,?_⟩
 rintro _ rfl
 refine Br.intro (fun e=>absurd e (by first | decide | simp)) fun _=>?_
 refine ⟨trivial,?_⟩
 rintro _ rfl
 refine Br.intro (fun e=>absurd e (by first | decide | simp)) fun _=>?_
 rintro _ rfl
 refine Br.intro (fun e=>absurd e (by first | decide | simp)) fun _=>?_
 refine ⟨trivial,?_⟩
 rintro _ rfl
 refine Br.intro (fun e=>absurd e (by first | decide | simp)) fun _=>?_
 refine ⟨by decide,by decide,by decide,by decide,?_⟩
 refine ⟨rfl,fun x y=>∃ k:Nat,x.1=k∧k≤6∧y.1=(List.range k).map (Zma (some (netG 1)))++List.replicate (6 - k) 0,fun x _=>6 - x.1.toNat,⟨0,rfl,by omega,rfl⟩,?_⟩
 rintro ⟨_,⟨⟩⟩ ⟨_,⟨⟩⟩ ⟨k,rfl,hk,rfl⟩
 dsimp only
 rintro _ rfl
 have lk:((List.range k).map (Zma (some (netG 1)))).length=k:=by rw [List.length_map,List.length_range]
 refine Br.intro (fun e3=>?_) fun e3=>?_
 ·have e3:k<6:=by have:=of_decide_eq_true e3; omega
  refine ⟨trivial,⟨by omega,by show (k:Int)<6; omega⟩,?_⟩
  rw [Int.toNat_natCast,Z26 e3 (by omega),Z1hu lk e3]
  have ha:(Z2l (some (netG 1)) (k:Int)).1=Zm1 (some (netG 1)) (k:Int):=rfl
  rw [ha]
  rintro _ rfl
  refine Br.intro (fun e4=>?_) fun e4=>?_
  ·have e4:k=1:=by have:=beq_iff_eq.1 e4; omega
   refine ⟨⟨by omega,by show (k:Int)<6; omega⟩,⟨by omega,by show (k:Int)<6; omega⟩,rfl,⟨k+1,rfl,by omega,?_⟩,by omega⟩
   have f1:Zma (some (netG 1)) k=iw (2*Zm1 (some (netG 1)) (k:Int)):=by unfold Zma; rw [if_pos e4]
   rw [List.range_succ,List.map_append,List.map_singleton,f1]
   exact Z1g9 lk _ _
  ·have e4:¬ k=1:=fun q=>by rw [q] at e4; simp at e4
   refine ⟨rfl,⟨k+1,rfl,by omega,?_⟩,by omega⟩
   have f1:Zma (some (netG 1)) k=Zm1 (some (netG 1)) (k:Int):=by unfold Zma; rw [if_neg e4]
   rw [List.range_succ,List.map_append,List.map_singleton,f1]
 have e3:k=6:=by have:=of_decide_eq_false e3; omega
 subst e3
 clear lk hk
 rw [Nat.sub_self,List.replicate_zero,List.append_nil,Z1kc]
 rintro _ rfl
 refine Br.intro (fun e=>absurd e (by first | decide | simp)) fun _=>?_
 refine ⟨rfl,fun x y=>∃ k:Nat,x.1=k∧k≤6∧y.1=Z171 k∧y.2.1=Zru k,fun x _=>6 - x.1.toNat,⟨0,rfl,by omega,rfl,rfl⟩,?_⟩
 rintro ⟨_,⟨⟩⟩ ⟨_,_,⟨⟩⟩ ⟨k,rfl,hk,rfl,rfl⟩
 dsimp only
 rintro _ rfl
 refine Br.intro (fun e3=>?_) fun e3=>?_
 ·have e3:k<6:=by have:=of_decide_eq_true e3; omega
  refine ⟨⟨by omega,by show (k:Int)<6; omega⟩,⟨by omega,by show (k:Int)<6; omega⟩,?_⟩
  rw [Int.toNat_natCast,Nat.zero_add,Z26 e3 (by omega),wi (x:=5 - (k:Int)) ⟨by omega,by omega⟩]
  exact ⟨rfl,⟨k+1,rfl,by omega,rfl,rfl⟩,by omega⟩
 have e3:k=6:=by have:=of_decide_eq_false e3; omega
 subst e3
 have t1:List.take (Int.toNat 6) (List.drop 0 (Z171 6))=Z49:=by rw [Z1ka]; rfl
 have t2:List.take (Int.toNat 6) (List.drop 0 ((Zru 6).set (0+Int.toNat 0) 100))=[100,0,0,0,0,0]:=by
  show List.take 6 ((Zru 6).set 0 100)=_
  rw [Z1kb]; rfl
 rw [t1,t2]
 have e:Z7w (some (netG 1)) (Z49,[100,0,0,0,0,0],[10,0,0,0,0,0],[0,0,0,0,0,0,0,0,0,0,0,0],0,0)=([75,0,0,0,0,25],[8,0,0,0,0,2],0,()):=Z1hw
 have np:NetP (some (netG 1)):=.inr ⟨1,rfl,rfl⟩
 refine ⟨by decide,by decide,⟨np,Z11n,by unfold AllI I64; decide,by unfold AllI I64; decide⟩,?_⟩
 rintro _ rfl
 rw [e]
 rintro _ rfl
 refine Br.intro (fun e=>absurd e (by first | decide | simp)) fun _=>?_
 rintro _ rfl
 refine Br.intro (fun e=>absurd e (by first | decide | simp)) fun _=>?_
 rintro _ rfl
 refine Br.intro (fun e=>absurd e (by first | decide | simp)) fun _=>?_
 refine ⟨by decide,?_⟩
 rintro _ rfl
 refine Br.intro (fun e=>absurd e (by first | decide | simp)) fun _=>?_
 refine ⟨by decide,?_⟩
 rintro _ rfl
 refine Br.intro (fun e=>absurd e (by first | decide | simp)) fun _=>?_
 refine ⟨by decide,?_⟩
 rintro _ rfl
 refine Br.intro (fun e=>absurd e (by first | decide | simp)) fun _=>?_
 refine ⟨by decide,?_⟩
 rintro _ rfl
 refine Br.intro (fun e=>absurd e (by first | decide | simp)) fun _=>?_
 refine ⟨⟨np,Z11n⟩,?_⟩
 rw [Z1dg]
 rintro _ rfl
 rintro _ rfl
 refine Br.intro (fun _=>?_) fun e=>absurd e (by decide)
 refine ⟨⟨np,Z11n⟩,?_⟩
 rw [Z1dh]
 rintro _ rfl
 rintro _ rfl
 refine Br.intro (fun _=>?_) fun e=>absurd e (by decide)
 refine ⟨⟨by unfold AllW W64; decide,by decide⟩,?_⟩
 have e4:Z9b [4607182418800017408,4613937818241073152,4611686018427387904,4613937818241073152]=([1,3,2,0],()):=by unfold Z9b; rw [Z1ga]
 rw [e4]
 rintro _ rfl
 refine ⟨trivial,?_⟩
 rintro _ rfl
 rintro _ rfl
 rfl
end Go.Lift

namespace Go.Lift
def Ziy:=fun (ty122 ty123 ty2 ty126 fn86 fn87:Nat) (n:Int) (post:Option (Int × List (Int × Int × Int × Int) × List ((Int × Int) × Int) × List (List Int) × List Int ×
 List Nat × List Nat) × Int × Unit→Prop)=>∃ (h:I64 n),Br ((Z11 n).fst==(0:Int)) (post (none,(10:Int),())) (∃ (h:(0:Int)≤(0:Int)∧(0:Int)<(↑(2
 : Nat):Int)),HIs [HObj.mp Md.rw ((K.int i64).pair (K.int i64)) (K.int i64) [],HObj.box Md.rw ty122 [SV.val (Go.Value.int i64 n),SV.junk,
 SV.mref (0:Nat),SV.val (Go.Value.slice none (0:Nat) (0:Nat)),SV.junk,SV.val (Go.Value.slice none (0:Nat) (0:Nat)),SV.val (Go.Value.slice none (0
 : Nat) (0:Nat))],HObj.box Md.rw ty123 [SV.clo fn86 [LV.ref (1:Nat) (0:Nat)] [],SV.clo fn87 [LV.ref (1:Nat) (0:Nat)] []]] [HObj.mp Md.rw ((K.int i64).pair
 (K.int i64)) (K.int i64) [],HObj.box Md.rw ty122 [SV.val (Go.Value.int i64 n),SV.junk,SV.mref (0:Nat),SV.val (Go.Value.slice none (0:Nat) (0
 : Nat)),SV.junk,SV.val (Go.Value.slice none (0:Nat) (0:Nat)),SV.val (Go.Value.slice none (0:Nat) (0:Nat))],HObj.box Md.rw ty123 [SV.clo fn86 [LV.ref (1 :
 Nat) (0:Nat)] [],SV.clo fn87 [LV.ref (1:Nat) (0:Nat)] []]]∧∃ (I:Int × List (Int × Int × Int × Int) × List Int × Unit→List ((Int × Int) × Int) × Unit→Prop),∃ (μ :
 Int × List (Int × Int × Int × Int) × List Int × Unit→List ((Int × Int) × Int) × Unit→Nat),I ((0:Int),[],[],()) ([],())∧∀ (x:Int × List (Int × Int × Int × Int) ×
 List Int × Unit) (y:List ((Int × Int) × Int) × Unit),I x y→Br (decide (x.fst<(Z11 n).fst)) (((0:Nat)=(0:Nat)∧x.snd.fst.length=x.snd.fst.length)∧HIs [HObj.mp
 Md.rw ((K.int i64).pair (K.int i64)) (K.int i64) y.fst,HObj.box Md.rw ty122 [SV.val (Go.Value.int i64 n),SV.junk,SV.mref (0:Nat),SV.val
 (Go.Value.slice none (0:Nat) (0:Nat)),SV.osl (4:Nat) (0:Nat) x.snd.snd.fst.length,SV.val (Go.Value.slice none (0:Nat) (0:Nat)),SV.val (Go.Value.slice
 none (0:Nat) (0:Nat))],HObj.box Md.rw ty123 [SV.clo fn86 [LV.ref (1:Nat) (0:Nat)] [],SV.clo fn87 [LV.ref (1:Nat) (0:Nat)] []],HObj.dead,HObj.row Md.rw ty2
 (K.int i64) x.snd.snd.fst] [HObj.mp Md.rw ((K.int i64).pair (K.int i64)) (K.int i64) y.fst,HObj.box Md.rw ty122 [SV.val (Go.Value.int i64
 n),SV.junk,SV.mref (0:Nat),SV.val (Go.Value.slice none (0:Nat) (0:Nat)),SV.osl (4:Nat) (0:Nat) x.snd.snd.fst.length,SV.val (Go.Value.slice none (0 :
 Nat) (0:Nat)),SV.val (Go.Value.slice none (0:Nat) (0:Nat))],HObj.box Md.rw ty123 [SV.clo fn86 [LV.ref (1:Nat) (0:Nat)] [],SV.clo fn87 [LV.ref (1:Nat) (0 :
 Nat)] []],HObj.dead,HObj.row Md.rw ty2 (K.int i64) x.snd.snd.fst]∧∃ (I_1:Int × List (Int × Int × Int × Int) × Unit→List ((Int × Int) × Int) × Unit→Prop),∃ (μ_1
 : Int × List (Int × Int × Int × Int) × Unit→List ((Int × Int) × Int) × Unit→Nat),I_1 ((0:Int),x.snd.fst,()) (y.fst,())∧∀ (x_2:Int × List (Int × Int × Int × Int) ×
 Unit) (y_1:List ((Int × Int) × Int) × Unit),I_1 x_2 y_1→Br (decide (x_2.fst<(4:Int))) (∃ (h:III n x.fst x_2.fst),∀ (a:Int × Int × Unit),a=Z1k n x.fst x_2.fst
 → Br (decide (x.fst > a.fst)) (((0:Nat)=(0:Nat)∧x_2.snd.fst.length=x_2.snd.fst.length)∧HIs [HObj.mp Md.rw ((K.int i64).pair (K.int i64)) (K.int
 i64) y_1.fst,HObj.box Md.rw ty122 [SV.val (Go.Value.int i64 n),SV.junk,SV.mref (0:Nat),SV.val (Go.Value.slice none (0:Nat) (0:Nat)),SV.osl (4 :
 Nat) (0:Nat) x.snd.snd.fst.length,SV.val (Go.Value.slice none (0:Nat) (0:Nat)),SV.val (Go.Value.slice none (0:Nat) (0:Nat))],HObj.box Md.rw ty123
 [SV.clo fn86 [LV.ref (1:Nat) (0:Nat)] [],SV.clo fn87 [LV.ref (1:Nat) (0:Nat)] []],HObj.dead,HObj.row Md.rw ty2 (K.int i64) x.snd.snd.fst] [HObj.mp Md.rw ((K.int
 i64).pair (K.int i64)) (K.int i64) y_1.fst,HObj.box Md.rw ty122 [SV.val (Go.Value.int i64 n),SV.junk,SV.mref (0:Nat),SV.val (Go.Value.slice
 none (0:Nat) (0:Nat)),SV.osl (4:Nat) (0:Nat) x.snd.snd.fst.length,SV.val (Go.Value.slice none (0:Nat) (0:Nat)),SV.val (Go.Value.slice none (0 :
 Nat) (0:Nat))],HObj.box Md.rw ty123 [SV.clo fn86 [LV.ref (1:Nat) (0:Nat)] [],SV.clo fn87 [LV.ref (1:Nat) (0:Nat)] []],HObj.dead,HObj.row Md.rw ty2 (K.int
 i64) x.snd.snd.fst]∧I_1 (i64.wrap (x_2.fst+(1:Int)),x_2.snd.fst,()) (y_1.fst,())∧μ_1 (i64.wrap (x_2.fst+(1:Int)),x_2.snd.fst,()) (y_1.fst,
 ())<μ_1 x_2 y_1) (∃ (h:x_2.snd.fst.length=x_2.snd.fst.length∧(x_2.snd.fst.length+(1:Nat))*(32:Nat)≤(140737488355328:Nat)),((0:Nat)=(0:Nat) ∧
 x_2.snd.fst.length+(1:Nat)=(x_2.snd.fst++[(x.fst,x_2.fst,a.fst,a.snd.fst)]).length)∧HIs [HObj.mp Md.rw ((K.int i64).pair (K.int i64)) (K.int
 i64) (mput (a.fst,a.snd.fst) (↑x_2.snd.fst.length:Int) (mput (x.fst,x_2.fst) (↑x_2.snd.fst.length:Int) y_1.fst)),HObj.box Md.rw ty122 [SV.val (Go.Value.int
 i64 n),SV.junk,SV.mref (0:Nat),SV.val (Go.Value.slice none (0:Nat) (0:Nat)),SV.osl (4:Nat) (0:Nat) x.snd.snd.fst.length,SV.val (Go.Value.slice
 none (0:Nat) (0:Nat)),SV.val (Go.Value.slice none (0:Nat) (0:Nat))],HObj.box Md.rw ty123 [SV.clo fn86 [LV.ref (1:Nat) (0:Nat)] [],SV.clo fn87 [LV.ref
 (1:Nat) (0:Nat)] []],HObj.dead,HObj.row Md.rw ty2 (K.int i64) x.snd.snd.fst] [HObj.mp Md.rw ((K.int i64).pair (K.int i64)) (K.int i64) (mput
 (a.fst,a.snd.fst) (↑x_2.snd.fst.length:Int) (mput (x.fst,x_2.fst) (↑x_2.snd.fst.length:Int) y_1.fst)),HObj.box Md.rw ty122 [SV.val (Go.Value.int i64 n),SV.junk,
 SV.mref (0:Nat),SV.val (Go.Value.slice none (0:Nat) (0:Nat)),SV.osl (4:Nat) (0:Nat) x.snd.snd.fst.length,SV.val (Go.Value.slice none (0:Nat) (0 :
 Nat)),SV.val (Go.Value.slice none (0:Nat) (0:Nat))],HObj.box Md.rw ty123 [SV.clo fn86 [LV.ref (1:Nat) (0:Nat)] [],SV.clo fn87 [LV.ref (1:Nat) (0:Nat)] []],
 HObj.dead,HObj.row Md.rw ty2 (K.int i64) x.snd.snd.fst]∧I_1 (i64.wrap (x_2.fst+(1:Int)),x_2.snd.fst++[(x.fst,x_2.fst,a.fst,a.snd.fst)],()) (mput
 (a.fst,a.snd.fst) (↑x_2.snd.fst.length:Int) (mput (x.fst,x_2.fst) (↑x_2.snd.fst.length:Int) y_1.fst),())∧μ_1 (i64.wrap (x_2.fst+(1:Int)),x_2.snd.fst ++
 [(x.fst,x_2.fst,a.fst,a.snd.fst)],()) (mput (a.fst,a.snd.fst) (↑x_2.snd.fst.length:Int) (mput (x.fst,x_2.fst) (↑x_2.snd.fst.length:Int) y_1.fst),())<μ_1 x_2 y_1))
 (((0:Nat)=(0:Nat)∧x_2.snd.fst.length=x_2.snd.fst.length)∧((0:Nat)=(0:Nat)∧x.snd.snd.fst.length=x.snd.snd.fst.length)∧HIs [HObj.mp Md.rw ((K.int
 i64).pair (K.int i64)) (K.int i64) y_1.fst,HObj.box Md.rw ty122 [SV.val (Go.Value.int i64 n),SV.junk,SV.mref (0:Nat),SV.val (Go.Value.slice
 none (0:Nat) (0:Nat)),SV.junk,SV.val (Go.Value.slice none (0:Nat) (0:Nat)),SV.val (Go.Value.slice none (0:Nat) (0:Nat))],HObj.box Md.rw ty123
 [SV.clo fn86 [LV.ref (1:Nat) (0:Nat)] [],SV.clo fn87 [LV.ref (1:Nat) (0:Nat)] []]] [HObj.mp Md.rw ((K.int i64).pair (K.int i64)) (K.int i64)
 y_1.fst,HObj.box Md.rw ty122 [SV.val (Go.Value.int i64 n),SV.junk,SV.mref (0:Nat),SV.val (Go.Value.slice none (0:Nat) (0:Nat)),SV.junk,SV.val
 (Go.Value.slice none (0:Nat) (0:Nat)),SV.val (Go.Value.slice none (0:Nat) (0:Nat))],HObj.box Md.rw ty123 [SV.clo fn86 [LV.ref (1:Nat) (0:Nat)] [],
 SV.clo fn87 [LV.ref (1:Nat) (0:Nat)] []]]∧I (i64.wrap (x.fst+(1:Int)),x_2.snd.fst,x.snd.snd.fst,()) (y_1.fst,())∧μ (i64.wrap (x.fst+(1:Int)),
 x_2.snd.fst,x.snd.snd.fst,()) (y_1.fst,())<μ x y)) (∃ (h:(0:Int)≤i64.wrap ((0:Int)+(1:Int))∧i64.wrap ((0:Int)+(1:Int))<(↑(2:Nat) :
 Int)),((0:Nat)=(0:Nat)∧x.snd.fst.length=x.snd.fst.length)∧((0:Nat)=(0:Nat)∧x.snd.snd.fst.length=x.snd.snd.fst.length)∧HIs [HObj.mp Md.rw ((K.int
 i64).pair (K.int i64)) (K.int i64) y.fst,HObj.box Md.rw ty122 [SV.val (Go.Value.int i64 n),SV.junk,SV.mref (0:Nat),SV.val (Go.Value.slice
 none (0:Nat) (0:Nat)),SV.junk,SV.val (Go.Value.slice none (0:Nat) (0:Nat)),SV.val (Go.Value.slice none (0:Nat) (0:Nat))],HObj.box Md.rw ty123
 [SV.clo fn86 [LV.ref (1:Nat) (0:Nat)] [],SV.clo fn87 [LV.ref (1:Nat) (0:Nat)] []],HObj.dead,HObj.dead] [HObj.mp Md.rw ((K.int i64).pair (K.int i64))
 (K.int i64) y.fst,HObj.box Md.rw ty122 [SV.val (Go.Value.int i64 n),SV.junk,SV.mref (0:Nat),SV.val (Go.Value.slice none (0:Nat) (0:Nat)),SV.junk,
 SV.val (Go.Value.slice none (0:Nat) (0:Nat)),SV.val (Go.Value.slice none (0:Nat) (0:Nat))],HObj.box Md.rw ty123 [SV.clo fn86 [LV.ref (1:Nat) (0:Nat)]
 [],SV.clo fn87 [LV.ref (1:Nat) (0:Nat)] []],HObj.dead,HObj.dead]∧∃ (I:Int × List (Int × Int × Int × Int) × List Int × Unit→List ((Int × Int) × Int) × Unit→Prop),∃
 (μ:Int × List (Int × Int × Int × Int) × List Int × Unit→List ((Int × Int) × Int) × Unit→Nat),I ((0:Int),x.snd.fst,x.snd.snd.fst,()) (y.fst,())∧∀ (x:Int × List
 (Int × Int × Int × Int) × List Int × Unit) (y:List ((Int × Int) × Int) × Unit),I x y→Br (decide (x.fst<(Z11 n).fst)) (∃ (h:II n x.fst),∃ (h:x.snd.snd.fst.length =
 x.snd.snd.fst.length∧(x.snd.snd.fst.length+(1:Nat))*(8:Nat)≤(140737488355328:Nat)),((0:Nat)=(0:Nat)∧x.snd.fst.length=x.snd.fst.length)∧((0:Nat)=(0 :
 Nat)∧x.snd.snd.fst.length+(1:Nat)=(x.snd.snd.fst++[(Zxt n x.fst).fst]).length)∧HIs [HObj.mp Md.rw ((K.int i64).pair (K.int i64)) (K.int i64)
 y.fst,HObj.box Md.rw ty122 [SV.val (Go.Value.int i64 n),SV.junk,SV.mref (0:Nat),SV.val (Go.Value.slice none (0:Nat) (0:Nat)),SV.junk,SV.val
 (Go.Value.slice none (0:Nat) (0:Nat)),SV.val (Go.Value.slice none (0:Nat) (0:Nat))],HObj.box Md.rw ty123 [SV.clo fn86 [LV.ref (1:Nat) (0:Nat)] [],
 SV.clo fn87 [LV.ref (1:Nat) (0:Nat)] []],HObj.dead,HObj.dead] [HObj.mp Md.rw ((K.int i64).pair (K.int i64)) (K.int i64) y.fst,HObj.box Md.rw ty122
 [SV.val (Go.Value.int i64 n),SV.junk,SV.mref (0:Nat),SV.val (Go.Value.slice none (0:Nat) (0:Nat)),SV.junk,SV.val (Go.Value.slice none (0:Nat) (0
 : Nat)),SV.val (Go.Value.slice none (0:Nat) (0:Nat))],HObj.box Md.rw ty123 [SV.clo fn86 [LV.ref (1:Nat) (0:Nat)] [],SV.clo fn87 [LV.ref (1:Nat) (0:Nat)] []],
 HObj.dead,HObj.dead]∧I (i64.wrap (x.fst+(1:Int)),x.snd.fst,x.snd.snd.fst++[(Zxt n x.fst).fst],()) (y.fst,())∧μ (i64.wrap (x.fst+(1:Int)),
 x.snd.fst,x.snd.snd.fst++[(Zxt n x.fst).fst],()) (y.fst,())<μ x y) (HIs [HObj.mp Md.rw ((K.int i64).pair (K.int i64)) (K.int i64) y.fst,HObj.box
 Md.rw ty122 [SV.val (Go.Value.int i64 n),SV.osl (5:Nat) (0:Nat) x.snd.fst.length,SV.mref (0:Nat),SV.junk,SV.osl (6:Nat) (0:Nat) x.snd.snd.fst.length,
 SV.junk,SV.junk],HObj.box Md.rw ty123 [SV.clo fn86 [LV.ref (1:Nat) (0:Nat)] [],SV.clo fn87 [LV.ref (1:Nat) (0:Nat)] []],HObj.dead,HObj.dead,HObj.row Md.rw ty126
 ((K.int i64).pair ((K.int i64).pair ((K.int i64).pair (K.int i64)))) x.snd.fst,HObj.row Md.rw ty2 (K.int i64) x.snd.snd.fst] [HObj.mp
 Md.rw ((K.int i64).pair (K.int i64)) (K.int i64) y.fst,HObj.box Md.rw ty122 [SV.val (Go.Value.int i64 n),SV.osl (5:Nat) (0:Nat)
 x.snd.fst.length,SV.mref (0:Nat),SV.junk,SV.osl (6:Nat) (0:Nat) x.snd.snd.fst.length,SV.junk,SV.junk],HObj.box Md.rw ty123 [SV.clo fn86 [LV.ref (1:Nat) (0:Nat)]
 [],SV.clo fn87 [LV.ref (1:Nat) (0:Nat)] []],HObj.dead,HObj.dead,HObj.row Md.rw ty126 ((K.int i64).pair ((K.int i64).pair ((K.int i64).pair (K.int
 i64)))) x.snd.fst,HObj.row Md.rw ty2 (K.int i64) x.snd.snd.fst]∧∃ (I:Int × List (List Int) × List Nat × List Nat × Unit→Unit→Prop),∃ (μ:Int × List
 (List Int) × List Nat × List Nat × Unit→Unit→Nat),I ((0:Int),[],[],[],()) ()∧∀ (x_3:Int × List (List Int) × List Nat × List Nat × Unit) (y_1:Unit),I x_3 y_1→Br
 (decide (x_3.fst<(↑x.snd.fst.length:Int))) (∃ (h:(0:Int)≤x_3.fst∧x_3.fst<(↑x.snd.fst.length:Int)),∃ (h:(4:Int)≠(0:Int)),∃ (h:III n (x.snd.fst.getD ((0
 : Nat)+x_3.fst.toNat) Z1x.dflt).fst ((i64.wrap ((x.snd.fst.getD ((0:Nat)+x_3.fst.toNat) Z1x.dflt).snd.fst+(2:Int))).tmod (4:Int))),∀ (a:Int × Int ×
 Unit),a=Z1k n (x.snd.fst.getD ((0:Nat)+x_3.fst.toNat) Z1x.dflt).fst ((i64.wrap ((x.snd.fst.getD ((0:Nat)+x_3.fst.toNat) Z1x.dflt).snd.fst+(2 :
 Int))).tmod (4:Int))→∃ (h:(4:Int)≠(0:Int)),∃ (h:III n (x.snd.fst.getD ((0:Nat)+x_3.fst.toNat) Z1x.dflt).snd.snd.fst ((i64.wrap ((x.snd.fst.getD ((0 :
 Nat)+x_3.fst.toNat) Z1x.dflt).snd.snd.snd+(2:Int))).tmod (4:Int))),∀ (a_1:Int × Int × Unit),a_1=Z1k n (x.snd.fst.getD ((0:Nat)+x_3.fst.toNat)
 Z1x.dflt).snd.snd.fst ((i64.wrap ((x.snd.fst.getD ((0:Nat)+x_3.fst.toNat) Z1x.dflt).snd.snd.snd+(2:Int))).tmod (4:Int))→∃ (h:x_3.snd.fst.length =
 x_3.snd.fst.length∧(x_3.snd.fst.length+(1:Nat))*(16:Nat)≤(140737488355328:Nat)),∃ (h:III n (x.snd.fst.getD ((0:Nat)+x_3.fst.toNat) Z1x.dflt).fst
 (x.snd.fst.getD ((0:Nat)+x_3.fst.toNat) Z1x.dflt).snd.fst),∀ (a_2:Nat × Unit),a_2=Zfh n (x.snd.fst.getD ((0:Nat)+x_3.fst.toNat) Z1x.dflt).fst
 (x.snd.fst.getD ((0:Nat)+x_3.fst.toNat) Z1x.dflt).snd.fst→∃ (h:x_3.snd.snd.fst.length=x_3.snd.snd.fst.length∧(x_3.snd.snd.fst.length+(1:Nat))*(8:Nat) ≤
 (140737488355328:Nat)),∃ (h:III n (x.snd.fst.getD ((0:Nat)+x_3.fst.toNat) Z1x.dflt).fst (x.snd.fst.getD ((0:Nat)+x_3.fst.toNat) Z1x.dflt).snd.fst),∀ (a_3:Nat ×
 Unit),a_3=Z1cu n (x.snd.fst.getD ((0:Nat)+x_3.fst.toNat) Z1x.dflt).fst (x.snd.fst.getD ((0:Nat)+x_3.fst.toNat) Z1x.dflt).snd.fst→∃ (h :
 x_3.snd.snd.snd.fst.length=x_3.snd.snd.snd.fst.length∧(x_3.snd.snd.snd.fst.length+(1:Nat))*(8:Nat)≤(140737488355328:Nat)),((0:Nat)=(0:Nat) ∧
 x_3.snd.fst.length+(1:Nat)=(x_3.snd.fst++[[a.fst,a_1.fst]]).length)∧((0:Nat)=(0:Nat)∧x_3.snd.snd.fst.length+(1:Nat)=(x_3.snd.snd.fst++[a_2.fst]).length)
 ∧ ((0:Nat)=(0:Nat)∧x_3.snd.snd.snd.fst.length+(1:Nat)=(x_3.snd.snd.snd.fst++[a_3.fst]).length)∧HIs [HObj.mp Md.rw ((K.int i64).pair (K.int i64))
 (K.int i64) y.fst,HObj.box Md.rw ty122 [SV.val (Go.Value.int i64 n),SV.osl (5:Nat) (0:Nat) x.snd.fst.length,SV.mref (0:Nat),SV.junk,SV.osl (6:Nat) (0
 : Nat) x.snd.snd.fst.length,SV.junk,SV.junk],HObj.box Md.rw ty123 [SV.clo fn86 [LV.ref (1:Nat) (0:Nat)] [],SV.clo fn87 [LV.ref (1:Nat) (0:Nat)] []],HObj.dead,
 HObj.dead,HObj.row Md.rw ty126 ((K.int i64).pair ((K.int i64).pair ((K.int i64).pair (K.int i64)))) x.snd.fst,HObj.row Md.rw ty2 (K.int
 i64) x.snd.snd.fst] [HObj.mp Md.rw ((K.int i64).pair (K.int i64)) (K.int i64) y.fst,HObj.box Md.rw ty122 [SV.val (Go.Value.int i64 n),
 SV.osl (5:Nat) (0:Nat) x.snd.fst.length,SV.mref (0:Nat),SV.junk,SV.osl (6:Nat) (0:Nat) x.snd.snd.fst.length,SV.junk,SV.junk],HObj.box Md.rw ty123 [SV.clo fn86
 [LV.ref (1:Nat) (0:Nat)] [],SV.clo fn87 [LV.ref (1:Nat) (0:Nat)] []],HObj.dead,HObj.dead,HObj.row Md.rw ty126 ((K.int i64).pair ((K.int i64).pair
 ((K.int i64).pair (K.int i64)))) x.snd.fst,HObj.row Md.rw ty2 (K.int i64) x.snd.snd.fst]∧I (i64.wrap (x_3.fst+(1:Int)),x_3.snd.fst ++
 [[a.fst,a_1.fst]],x_3.snd.snd.fst++[a_2.fst],x_3.snd.snd.snd.fst++[a_3.fst],()) ()∧μ (i64.wrap (x_3.fst+(1:Int)),x_3.snd.fst++[[a.fst,a_1.fst]],
 x_3.snd.snd.fst++[a_2.fst],x_3.snd.snd.snd.fst++[a_3.fst],()) ()<μ x_3 y_1) (post (some (n,List.take x.snd.fst.length (List.drop (0:Nat) x.snd.fst),y.fst,
 List.take x_3.snd.fst.length (List.drop (0:Nat) x_3.snd.fst),List.take x.snd.snd.fst.length (List.drop (0:Nat) x.snd.snd.fst),List.take x_3.snd.snd.fst.length (List.drop (0
 : Nat) x_3.snd.snd.fst),List.take x_3.snd.snd.snd.fst.length (List.drop (0:Nat) x_3.snd.snd.snd.fst)),(0:Int),())))))
theorem Z1a9 (ty0 ty1 ty2 ty3 ty4 ty5:Nat) (n:Int) (h:I64 n):Ziy ty0 ty1 ty2 ty3 ty4 ty5 n (fun r=>r=newR n):=by
 have cr:=Z6a n
 obtain ⟨N,hN⟩:∃ N,(Zb n).toNat=N:=⟨_,rfl⟩
 have hc:Zb n=(N:Int):=by omega
 have hc':(Z11 n).fst=(N:Int):=hc
 have hN1:N≤6144:=by omega
 have nk:=fun k=>Z11d n k
 have i6:∀ {z:Int},0≤z→z≤6144→I64 z:=fun {z} a b=>⟨by omega,by omega⟩
 refine ⟨h,?_⟩
 rw [hc']
 refine Br.intro (fun e=>?_) fun e=>?_
 ·have e:(N:Int)=0:=beq_iff_eq.1 e
  show _=newR n
  unfold newR; rw [if_pos (by omega)]
 have e:¬ (N:Int)=0:=fun q=>by rw [q] at e; cases e
 have hnew:newR n=(some (netG n),0,()):=by unfold newR; rw [if_neg (by omega)]
 refine ⟨⟨by decide,by decide⟩,rfl,fun x y=>∃ k:Nat,x.1=k∧k≤N∧x.2.1=(netN n k).1∧x.2.2.1=[]∧y.1=(netN n k).2,fun x _=>N - x.1.toNat,⟨0,rfl,by omega,rfl,rfl,rfl⟩,?_⟩
 rintro ⟨_,_,_,⟨⟩⟩ ⟨_,⟨⟩⟩ ⟨k,rfl,hk,rfl,rfl,rfl⟩
 dsimp only
 refine Br.intro (fun e1=>?_) fun e1=>?_
 ·have e1:k<N:=by have:=of_decide_eq_true e1; omega
  refine ⟨⟨rfl,rfl⟩,rfl,fun x y=>∃ j:Nat,x.1=j∧j≤4∧x.2.1=(addN n k (netN n k) j).1∧y.1=(addN n k (netN n k) j).2,fun x _=>4 - x.1.toNat,⟨0,rfl,by omega,rfl,rfl⟩,?_⟩
  rintro ⟨_,_,⟨⟩⟩ ⟨_,⟨⟩⟩ ⟨j,rfl,hj,rfl,rfl⟩
  dsimp only
  have hlen:=(Z11c (n:=n) (c:=k) (by omega) (by omega) (nk k (by omega)).1 j hj).2
  have hlk:=(nk k (by omega)).2
  refine Br.intro (fun e2=>?_) fun e2=>?_
  ·have e2:j<4:=by have e2:(j:Int)<4:=of_decide_eq_true e2; omega
   refine ⟨⟨h,i6 (by omega) (by omega),i6 (by omega) (by omega)⟩,?_⟩
   rintro ⟨b,q,⟨⟩⟩ hb
   have hb:(b,q,())=Z1k n k j:=hb
   have eb:b=(Z3 n k j).1:=congrArg Prod.fst hb
   have eq:q=(Z3 n k j).2:=congrArg (fun z=>z.2.1) hb
   rw [Z26 e2 (by omega)]
   refine Br.intro (fun g=>?_) fun g=>?_
   ·have g:(k:Int) > b:=of_decide_eq_true g
    have hst:addN n k (netN n k) (j+1)=addN n k (netN n k) j:=by
     show addE n k j (addN n k (netN n k) j)=_
     unfold addE; rw [if_pos (by omega)]
    exact ⟨⟨rfl,rfl⟩,rfl,⟨j+1,rfl,by omega,by rw [hst],by rw [hst]⟩,by omega⟩
   ·have g:¬ (k:Int) > b:=of_decide_eq_false g
    have hst:addN n k (netN n k) (j+1)=((addN n k (netN n k) j).1++[((k:Int),(j:Int),b,q)],mput (b,q) (addN n k (netN n k) j).1.length (mput ((k:Int),(j:Int)) (addN n k (netN n k) j).1.length (addN n k (netN n k) j).2)):=by
     show addE n k j (addN n k (netN n k) j)=_
     unfold addE; rw [if_neg (by omega),eb,eq]
    exact ⟨⟨rfl,by omega⟩,⟨rfl,by rw [List.length_append]; rfl⟩,rfl,⟨j+1,rfl,by omega,by rw [hst],by rw [hst]⟩,by omega⟩
  ·have e2:j=4:=by have e2:¬ (j:Int)<4:=of_decide_eq_false e2; omega
   subst e2
   rw [Z26 e1 (by omega)]
   exact ⟨⟨rfl,rfl⟩,⟨rfl,rfl⟩,rfl,⟨k+1,rfl,by omega,rfl,rfl,rfl⟩,by omega⟩
 have e1:k=N:=by have:=of_decide_eq_false e1; omega
 subst e1
 obtain ⟨eok,elen⟩:=nk k hN1
 have hE:netE n=netN n k:=by unfold netE; rw [hN]
 generalize netN n k=E at *
 refine ⟨⟨by decide,by decide⟩,⟨rfl,rfl⟩,⟨rfl,rfl⟩,rfl,fun x y=>∃ m:Nat,x.1=m∧m≤k∧x.2.1=E.1∧x.2.2.1=((List.range m).map fun q:Nat=>Z1c n (q:Int))∧y.1=E.2,fun x _=>k - x.1.toNat,⟨0,rfl,by omega,rfl,rfl,rfl⟩,?_⟩
 rintro ⟨_,_,_,⟨⟩⟩ ⟨_,⟨⟩⟩ ⟨m,rfl,hm,rfl,rfl,rfl⟩
 dsimp only
 have hml:((List.range m).map fun q:Nat=>Z1c n (q:Int)).length=m:=by rw [List.length_map,List.length_range]
 refine Br.intro (fun e1=>?_) fun e1=>?_
 ·have e1:m<k:=by have:=of_decide_eq_true e1; omega
  rw [Z26 e1 (by omega)]
  exact ⟨⟨h,i6 (by omega) (by omega)⟩,⟨rfl,by rw [hml]; omega⟩,⟨rfl,rfl⟩,⟨rfl,by rw [List.length_append]; rfl⟩,rfl,⟨m+1,rfl,by omega,rfl,(Z119 (fun q:Nat=>Z1c n (q:Int)) m).symm,rfl⟩,by omega⟩
 have e1:m=k:=by have:=of_decide_eq_false e1; omega
 subst e1
 refine ⟨rfl,fun x _=>∃ q:Nat,x.1=q∧q≤E.1.length∧x.2.1=(E.1.take q).map (Z1be n)∧x.2.2.1=(E.1.take q).map (fun e=>Zet n e.1 e.2.1)∧x.2.2.2.1=(E.1.take q).map (fun e=>gapG n e.1 e.2.1),fun x _=>E.1.length - x.1.toNat,⟨0,rfl,by omega,rfl,rfl,rfl⟩,?_⟩
 rintro ⟨_,_,_,_,⟨⟩⟩ _ ⟨q,rfl,hq,rfl,rfl,rfl⟩
 dsimp only
 have hl:∀ {α:Type} (f:Ed→α),((E.1.take q).map f).length=q:=fun {α} f=>by rw [List.length_map,List.length_take]; omega
 refine Br.intro (fun e1=>?_) fun e1=>?_
 ·have e1:q<E.1.length:=by have:=of_decide_eq_true e1; omega
  rw [Int.toNat_natCast,Nat.zero_add,Z26 e1 (by omega)]
  obtain ⟨d,hd⟩:∃ d,E.1.getD q Z1x.dflt=d:=⟨_,rfl⟩
  have dm:d ∈ E.1:=by rw [← hd]; exact Z2w e1 _
  have ts:E.1.take (q+1)=E.1.take q++[d]:=by rw [Zpm e1 Z1x.dflt,hd]
  rw [hd]
  obtain ⟨d1,d2,d3,d4,d5,d6,d7,d8⟩:=eok d dm
  have w1:i64.wrap (d.2.1+2)=d.2.1+2:=wi ⟨by omega,by omega⟩
  have w2:i64.wrap (d.2.2.2+2)=d.2.2.2+2:=wi ⟨by omega,by omega⟩
  rw [w1,w2]
  have t1:I64 (Int.tmod (d.2.1+2) 4):=by rw [Int.tmod_eq_emod_of_nonneg (by omega)]; exact i6 (by omega) (by omega)
  have t2:I64 (Int.tmod (d.2.2.2+2) 4):=by rw [Int.tmod_eq_emod_of_nonneg (by omega)]; exact i6 (by omega) (by omega)
  refine ⟨⟨by omega,by omega⟩,by decide,⟨h,i6 d1 (by omega),t1⟩,?_⟩
  rintro ⟨a1,a2,⟨⟩⟩ ha
  have ea:a1=(Z3 n d.1 (Int.tmod (d.2.1+2) 4)).1:=congrArg Prod.fst ha
  refine ⟨by decide,⟨h,i6 d5 (by omega),t2⟩,?_⟩
  rintro ⟨b1,b2,⟨⟩⟩ hb
  have eb:b1=(Z3 n d.2.2.1 (Int.tmod (d.2.2.2+2) 4)).1:=congrArg Prod.fst hb
  refine ⟨⟨rfl,by rw [hl]; omega⟩,⟨h,i6 d1 (by omega),i6 d3 (by omega)⟩,?_⟩
  rintro ⟨l1,⟨⟩⟩ hl1
  have el:l1=Zet n d.1 d.2.1:=congrArg Prod.fst hl1
  refine ⟨⟨rfl,by rw [hl]; omega⟩,⟨h,i6 d1 (by omega),i6 d3 (by omega)⟩,?_⟩
  rintro ⟨g1,⟨⟩⟩ hg1
  have eg:g1=gapG n d.1 d.2.1:=congrArg Prod.fst hg1
  refine ⟨⟨rfl,by rw [hl]; omega⟩,⟨rfl,by rw [List.length_append]; rfl⟩,⟨rfl,by rw [List.length_append]; rfl⟩,⟨rfl,by rw [List.length_append]; rfl⟩,rfl,⟨q+1,rfl,by omega,?_,?_,?_⟩,by omega⟩
  ·rw [ts,List.map_append]; dsimp only; rw [ea,eb]; rfl
  ·rw [ts,List.map_append]; dsimp only; rw [el]; rfl
  ·rw [ts,List.map_append]; dsimp only; rw [eg]; rfl
 ·have e1:q=E.1.length:=by have:=of_decide_eq_false e1; omega
  subst e1
  show _=newR n
  rw [hnew]
  unfold netG Z96
  rw [hE,hN,List.take_length]
  simp only [List.drop_zero,List.take_length]
end Go.Lift

namespace Go.Lift
def Zfl:=fun (a:Int) (post:Bool × Unit→Prop)=>∀ (a_1:Bool),a_1=decide (a≥(1:Int))→Br a_1 (∀ (a_2:Bool),a_2=decide (a≤(32:Int))→post (a_2,
 ())) (post (false,()))
theorem Z18p (a:Int):Zfl  a (fun r=>r=Zxo a):=by
 rintro _ rfl
 refine Br.intro (fun e=>?_) fun e=>?_
 ·rintro _ rfl
  refine congrArg r1 ?_
  show _=Z1b a
  unfold Z1b
  rw [show decide ((1:Int)≤a)=true from e,Bool.true_and]
 ·refine congrArg r1 ?_
  show _=Z1b a
  unfold Z1b
  rw [show decide ((1:Int)≤a)=false from e,Bool.false_and]
def Zcx:=fun (a:Int) (post:Int × Unit→Prop)=>∃ (h:True),∀ (a_1:Bool),a_1=(Zxo a).fst→Br (!a_1) (post ((0:Int),())) (post (i64.wrap
 (i64.wrap ((6:Int)*a)*a),()))
theorem Z156 (a:Int) (h:I64 a):Zcx  a (fun r=>r=Z11 a):=by
 refine ⟨trivial,?_⟩
 rintro _ rfl
 refine Br.intro (fun e=>?_) fun e=>?_
 ·have e:(!Z1b a)=true:=e
  exact congrArg r1 (Z69 (by simpa using e)).symm
 ·have e:(!Z1b a)=false:=e
  exact congrArg r1 (Zxv (by simpa using e))
def Zcy:=fun (n c:Int) (post:Int × Int × Int × Bool × Unit→Prop)=>∀ (a:Bool),a=decide (c<(0:Int))→Br a (post ((0:Int),(0:Int),(0:Int),
 false,())) (∃ (h:I64 n),∀ (a:Bool),a=decide (c≥(Z11 n).fst)→Br a (post ((0:Int),(0:Int),(0:Int),false,())) (∃ (h:i64.wrap (n*n) ≠
 (0:Int)),∃ (h:n≠(0:Int)),∃ (h:n≠(0:Int)),∃ (h:n≠(0:Int)),post (i64.wrap (c.tdiv (i64.wrap (n*n))),c.tmod n,(i64.wrap (c.tdiv
 n)).tmod n,true,())))
theorem Z157 (n:Int) (c:Int) (h:II n c):Zcy  n c (fun r=>r=Z2 n c):=by
 have bad:Zh n c=false→((0:Int),(0:Int),(0:Int),false,())=Z2 n c:=by
  intro e; unfold Z2; rw [if_neg (by rw [e]; decide)]
 rintro _ rfl
 refine Br.intro (fun e=>?_) fun e=>?_
 ·have e:=of_decide_eq_true e
  exact bad (by unfold Zh; rw [decide_eq_false (by omega),Bool.false_and])
 ·have e:=of_decide_eq_false e
  refine ⟨h.1,?_⟩
  rintro _ rfl
  refine Br.intro (fun f=>?_) fun f=>?_
  ·have f:Zb n≤c:=of_decide_eq_true f
   exact bad (by unfold Zh; rw [decide_eq_false (p:=c<Zb n) (by omega),Bool.and_false])
  ·have f:¬ c≥Zb n:=of_decide_eq_false f
   have ok:Zh n c=true:=by unfold Zh; rw [decide_eq_true (by omega),decide_eq_true (by omega)]; rfl
   obtain ⟨h1,h2,h3,h4,h5,h6⟩:=Z41 ok
   obtain ⟨r1,r2,r3,r4,r5,r6⟩:=Zhg ok
   have w1:i64.wrap (n*n)=n*n:=wi ⟨by omega,by omega⟩
   have d1:c.tdiv (n*n)=c / (n*n):=Int.tdiv_eq_ediv_of_nonneg h3
   have d2:c.tdiv n=c / n:=Int.tdiv_eq_ediv_of_nonneg h3
   have d3:0≤c / n∧c / n≤c:=⟨Int.ediv_nonneg h3 (by omega),Int.ediv_le_self _ h3⟩
   have w2:i64.wrap (c / n)=c / n:=wi ⟨by omega,by have:=h.2; unfold I64 at this; omega⟩
   have w3:i64.wrap (c / (n*n))=c / (n*n):=wi ⟨by omega,by omega⟩
   refine ⟨by rw [w1]; omega,by omega,by omega,by omega,?_⟩
   rw [w1,d1,w3,d2,w2,Int.tmod_eq_emod_of_nonneg h3,Int.tmod_eq_emod_of_nonneg d3.1]
   unfold Z2; rw [if_pos ok]
end Go.Lift

namespace Go.Lift
open Go.Proofs
def Zcz:Con:=.det [.int .i64] [.snap .bool] (fun _=>True) (fun x=>Zxo x.1)
def Zn1:Cx:=⟨Zf Zi,Zg [],RbG⟩
theorem Zuf:CxOk Tryz.prog Zn1:=⟨Z4 Z7,fun f c h=>by cases h⟩
theorem Z11p:FnAt Tryz.prog 97 Tryz.f97.ntmps Tryz.f97.results.toList (Tryz.f97.body.getD .skip):=⟨Tryz.f97,Tryz.func97,rfl,rfl,by simp,by decide⟩
theorem Z11q (a:Int) (post:Bool × Unit→Prop):Za Zn1 nHn Tryz.f97.ntmps Tryz.f97.results.toList (Tryz.f97.body.getD .skip) [.int .i64] [.snap .bool] (a,()) post=Zfl  a post:=by kernel_rfl
theorem Zn2:Zcz.holds Tryz.prog RbG 97 :=
 detP Zuf Z8 nHn Z11p (F:=fun x post=>Zfl  x.1 post) (fun x post=>Z11q x.1 post) fun x _ _=>Z18p  x.1
def Z73:Con:=.det [.int .i64] [.snap (.int .i64)] (fun x=>I64 x.1) (fun x=>Z11 x.1)
def Zjs:Cx:=⟨Zf Zi,Zg [(97,Zcz)],RbG⟩
theorem Zrz:CxOk Tryz.prog Zjs:=⟨Z4 Z7,Z6 ⟨Zn2,trivial⟩⟩
theorem Zyh:FnAt Tryz.prog 58 Tryz.f58.ntmps Tryz.f58.results.toList (Tryz.f58.body.getD .skip):=⟨Tryz.f58,Tryz.func58,rfl,rfl,by simp,by decide⟩
theorem Zyi (a:Int) (post:Int × Unit→Prop):Za Zjs nHn Tryz.f58.ntmps Tryz.f58.results.toList (Tryz.f58.body.getD .skip) [.int .i64] [.snap (.int .i64)] (a,()) post=Zcx  a post:=by kernel_rfl
theorem Zap:Z73.holds Tryz.prog RbG 58 :=
 detP Zrz Z8 nHn Zyh (F:=fun x post=>Zcx  x.1 post) (fun x post=>Zyi x.1 post) fun x h _=>Z156  x.1 h
def Z74:Con:=.det [.int .i64,.int .i64] [.snap (.int .i64),.snap (.int .i64),.snap (.int .i64),.snap .bool] (fun x=>II x.1 x.2.1) (fun x=>Z2 x.1 x.2.1)
def Zjt:Cx:=⟨Zf Zi,Zg [(58,Z73)],RbG⟩
theorem Zs0:CxOk Tryz.prog Zjt:=⟨Z4 Z7,Z6 ⟨Zap,trivial⟩⟩
theorem Zyj:FnAt Tryz.prog 79 Tryz.f79.ntmps Tryz.f79.results.toList (Tryz.f79.body.getD .skip):=⟨Tryz.f79,Tryz.func79,rfl,rfl,by simp,by decide⟩
theorem Zyk (n:Int) (c:Int) (post:Int × Int × Int × Bool × Unit→Prop):Za Zjt nHn Tryz.f79.ntmps Tryz.f79.results.toList (Tryz.f79.body.getD .skip) [.int .i64,.int .i64] [.snap (.int .i64),.snap (.int .i64),.snap (.int .i64),.snap .bool] (n,c,()) post=Zcy  n c post:=by kernel_rfl
theorem Zaq:Z74.holds Tryz.prog RbG 79 :=
 detP Zs0 Z8 nHn Zyj (F:=fun x post=>Zcy  x.1 x.2.1 post) (fun x post=>Zyk x.1 x.2.1 post) fun x h _=>Z157  x.1 x.2.1 h
end Go.Lift

namespace Go.Lift
def Zar:=fun (ty105 ty111 ty109:Nat) (n c o:Int) (post:Int × Int × Unit→Prop)=>∃ (h:II n c),Br (!(Z2 n c).snd.snd.snd.fst) (post ((-1:Int),(0 :
 Int),())) (∀ (a:Bool),a=decide (o<(0:Int))→Br a (post ((-1:Int),(0:Int),())) (∀ (a:Bool),a=decide (o≥(4:Int))→Br a (post ((-1:Int),(0:Int),()))
 (∃ (h:(List.replicate (4:Nat) (K.arr (2:Nat) (K.int i64)).dflt).length=(4:Nat)∧(4:Nat)=(4:Nat)),∃ (h:(0:Int)≤o∧o<(↑(4:Nat):Int)∧(4 :
 Nat)≤(4:Nat)),∃ (h:(0:Int)≤(0:Int)∧(0:Int)<(↑(2:Nat):Int)),∃ (h:(0:Int)≤o∧o<(↑(4:Nat):Int)∧(4:Nat)≤(4:Nat)),∃ (h:(0:Int)≤(1 :
 Int)∧(1:Int)<(↑(2:Nat):Int)),∃ (h:IIII n (Z2 n c).fst (i64.wrap ((Z2 n c).snd.fst+List.getD ([[(1:Int),(0:Int)],[(0:Int),(1:Int)],[(-1
 : Int),(0:Int)],[(0:Int),(-1:Int)]].getD o.toNat (K.arr (2:Nat) (K.int i64)).dflt) (0:Nat) (0:Int))) (i64.wrap ((Z2 n c).snd.snd.fst +
 List.getD ([[(1:Int),(0:Int)],[(0:Int),(1:Int)],[(-1:Int),(0:Int)],[(0:Int),(-1:Int)]].getD o.toNat (K.arr (2:Nat) (K.int i64)).dflt) ((nat_lit 0
 + (1:Nat)) / (K.int i64).sz) (0:Int)))),∀ (a:Int × Unit),a=Z95 n (Z2 n c).fst (i64.wrap ((Z2 n c).snd.fst+List.getD ([[(1:Int),(0 :
 Int)],[(0:Int),(1:Int)],[(-1:Int),(0:Int)],[(0:Int),(-1:Int)]].getD o.toNat (K.arr (2:Nat) (K.int i64)).dflt) (0:Nat) (0:Int))) (i64.wrap
 ((Z2 n c).snd.snd.fst+List.getD ([[(1:Int),(0:Int)],[(0:Int),(1:Int)],[(-1:Int),(0:Int)],[(0:Int),(-1:Int)]].getD o.toNat (K.arr (2:Nat) (K.int
 i64)).dflt) ((nat_lit 0+(1:Nat)) / (K.int i64).sz) (0:Int)))→∀ (a_1:Bool),a_1=decide (a.fst≥(0:Int))→Br a_1 (∃ (h:(4:Int)≠(0:Int)),post
 (a.fst,(i64.wrap (o+(2:Int))).tmod (4:Int),())) (∃ (h:(0:Int)≤(Z2 n c).fst∧(Z2 n c).fst<(↑(6:Nat):Int)),∃ (h:WOut (Zm.getD (Z2
 n c).fst.toNat (K.arr (3:Nat) (K.arr (3:Nat) (K.int i64))).dflt) o),∀ (a:List Int × Unit),a=outR (Zm.getD (Z2 n c).fst.toNat (K.arr (3:Nat) (K.arr (3
 : Nat) (K.int i64))).dflt) o→∃ (h:True),∀ (a_2:Int × Unit),a_2=Z11a a.fst→∃ (h:(0:Int)≤a_2.fst∧a_2.fst<(↑(6:Nat):Int)),∃ (h:(List.replicate
 (3:Nat) (K.arr (3:Nat) (K.int i64)).dflt).length=(3:Nat)∧List.length (Zm.getD a_2.fst.toNat (K.arr (3:Nat) (K.arr (3:Nat) (K.int i64))).dflt) =
 (3:Nat)),∃ (h:Z16 n (Z2 n c).fst (Z2 n c).snd.fst (Z2 n c).snd.snd.fst),∀ (a:List Int × Unit),a=Zub n (Z2 n c).fst (Z2 n c).snd.fst
 (Z2 n c).snd.snd.fst→∃ (h:(0:Int)≤(Z2 n c).fst∧(Z2 n c).fst<(↑(6:Nat):Int)),∃ (h:WOut (Zm.getD (Z2 n c).fst.toNat (K.arr (3:Nat)
 (K.arr (3:Nat) (K.int i64))).dflt) o),∀ (a_3:List Int × Unit),a_3=outR (Zm.getD (Z2 n c).fst.toNat (K.arr (3:Nat) (K.arr (3:Nat) (K.int
 i64))).dflt) o→∃ (h:Zxy a.fst a_3.fst),∀ (a_4:List Int × Unit),a_4=Zro a.fst a_3.fst→∃ (h:(List.replicate (3:Nat) (0:Int)).length=(3:Nat) ∧
 a_4.fst.length=(3:Nat)),∃ (h:a_4.fst.length=(3:Nat)),∃ (h:(0:Int)≤(1:Int)∧(1:Int)<(↑(3:Nat):Int)∧(3:Nat)≤List.length (Zm.getD
 a_2.fst.toNat (K.arr (3:Nat) (K.arr (3:Nat) (K.int i64))).dflt)),∃ (h:WDot a_4.fst (List.getD (Zm.getD a_2.fst.toNat (K.arr (3:Nat) (K.arr (3:Nat) (K.int
 i64))).dflt) (Int.toNat (1:Int)) (K.arr (3:Nat) (K.int i64)).dflt)),∀ (a:Int × Unit),a=dotR a_4.fst (List.getD (Zm.getD a_2.fst.toNat (K.arr (3 :
 Nat) (K.arr (3:Nat) (K.int i64))).dflt) (Int.toNat (1:Int)) (K.arr (3:Nat) (K.int i64)).dflt)→∃ (h:Zy0 n a.fst),∀ (a_5:Int × Unit),a_5=Zxz n
 a.fst→∃ (h:a_4.fst.length=(3:Nat)),∃ (h:(0:Int)≤(2:Int)∧(2:Int)<(↑(3:Nat):Int)∧(3:Nat)≤List.length (Zm.getD a_2.fst.toNat (K.arr (3:Nat)
 (K.arr (3:Nat) (K.int i64))).dflt)),∃ (h:WDot a_4.fst (List.getD (Zm.getD a_2.fst.toNat (K.arr (3:Nat) (K.arr (3:Nat) (K.int i64))).dflt) (Int.toNat
 (2:Int)) (K.arr (3:Nat) (K.int i64)).dflt)),∀ (a:Int × Unit),a=dotR a_4.fst (List.getD (Zm.getD a_2.fst.toNat (K.arr (3:Nat) (K.arr (3:Nat) (K.int
 i64))).dflt) (Int.toNat (2:Int)) (K.arr (3:Nat) (K.int i64)).dflt)→∃ (h:Zy0 n a.fst),∀ (a_6:Int × Unit),a_6=Zxz n a.fst→∃ (h:IIII n a_2.fst
 a_5.fst a_6.fst),∀ (a:Int × Unit),a=Z95 n a_2.fst a_5.fst a_6.fst→HIs [HObj.row Md.rw ty105 (K.arr (2:Nat) (K.int i64)) [[(1:Int),(0:Int)],[(0:Int),(1
 : Int)],[(-1:Int),(0:Int)],[(0:Int),(-1:Int)]],HObj.row Md.rw ty111 (K.arr (3:Nat) (K.int i64)) (Zm.getD a_2.fst.toNat (K.arr (3:Nat) (K.arr (3 :
 Nat) (K.int i64))).dflt),HObj.row Md.rw ty109 (K.int i64) a_4.fst] [HObj.row Md.rw ty105 (K.arr (2:Nat) (K.int i64)) [[(1:Int),(0:Int)],[(0 :
 Int),(1:Int)],[(-1:Int),(0:Int)],[(0:Int),(-1:Int)]],HObj.row Md.rw ty111 (K.arr (3:Nat) (K.int i64)) (Zm.getD a_2.fst.toNat (K.arr (3:Nat) (K.arr
 (3:Nat) (K.int i64))).dflt),HObj.row Md.rw ty109 (K.int i64) a_4.fst]∧∃ (I:Int × Unit→Unit→Prop),∃ (μ:Int × Unit→Unit→Nat),I ((0:Int),()) ()
 ∧ ∀ (x:Int × Unit) (y:Unit),I x y→∀ (a_7:Bool),a_7=decide (x.fst<(4:Int))→Br a_7 (∃ (h:List.length (Zm.getD a_2.fst.toNat (K.arr (3:Nat) (K.arr (3 :
 Nat) (K.int i64))).dflt)=(3:Nat)),∃ (h:WOut (Zm.getD a_2.fst.toNat (K.arr (3:Nat) (K.arr (3:Nat) (K.int i64))).dflt) x.fst),∀ (a_8:List Int ×
 Unit),a_8=outR (Zm.getD a_2.fst.toNat (K.arr (3:Nat) (K.arr (3:Nat) (K.int i64))).dflt) x.fst→∃ (h:(0:Int)≤(Z2 n c).fst∧(Z2 n c).fst<(↑(6
 : Nat):Int)),∃ (h:(0:Int)≤(0:Int)∧(0:Int)<(↑(3:Nat):Int)),∀ (a_9:Bool),a_9=eqL a_8.fst (List.getD (Zm.getD (Z2 n c).fst.toNat (K.arr (3:Nat)
 (K.arr (3:Nat) (K.int i64))).dflt) (Int.toNat (0:Int)) (K.arr (3:Nat) (K.int i64)).dflt)→Br a_9 (post (a.fst,x.fst,())) (HIs [HObj.row Md.rw ty105 (K.arr
 (2:Nat) (K.int i64)) [[(1:Int),(0:Int)],[(0:Int),(1:Int)],[(-1:Int),(0:Int)],[(0:Int),(-1:Int)]],HObj.row Md.rw ty111 (K.arr (3:Nat) (K.int
 i64)) (Zm.getD a_2.fst.toNat (K.arr (3:Nat) (K.arr (3:Nat) (K.int i64))).dflt),HObj.row Md.rw ty109 (K.int i64) a_4.fst] [HObj.row Md.rw ty105
 (K.arr (2:Nat) (K.int i64)) [[(1:Int),(0:Int)],[(0:Int),(1:Int)],[(-1:Int),(0:Int)],[(0:Int),(-1:Int)]],HObj.row Md.rw ty111 (K.arr (3:Nat)
 (K.int i64)) (Zm.getD a_2.fst.toNat (K.arr (3:Nat) (K.arr (3:Nat) (K.int i64))).dflt),HObj.row Md.rw ty109 (K.int i64) a_4.fst]∧I
 (i64.wrap (x.fst+(1:Int)),()) ()∧μ (i64.wrap (x.fst+(1:Int)),()) ()<μ x y)) (post ((-1:Int),(0:Int),()))))))
theorem Z11r (ty0 ty1 ty2:Nat) (n:Int) (c:Int) (o:Int) (h:III n c o):Zar ty0 ty1 ty2 n c o (fun r=>r=Z1k n c o):=by
 refine ⟨⟨h.1,h.2.1⟩,?_⟩
 have no:Zn n c o=false→((-1:Int),(0:Int),())=Z1k n c o:=by
  intro q
  have:Z3 n c o=(-1,0):=by unfold Z3; rw [if_neg (by rw [q]; decide)]
  unfold Z1k; rw [this]
 by_cases ok:Zh n c=true
 ·rw [Zm2 ok]
  have hm:=Z3f ok
  have hh:=hm
  obtain ⟨n1,n2,f0,f5,i0,i1,j0,j1⟩:=hh
  dsimp only
  refine Br.intro (fun e=>absurd e (by decide)) fun _=>?_
  rintro _ rfl
  refine Br.intro (fun e=>no ?_) fun e=>?_
  ·have e:=of_decide_eq_true e
   unfold Zn; rw [decide_eq_false (p:=0≤o) (by omega)]; simp
  have o0:=of_decide_eq_false e
  rintro _ rfl
  refine Br.intro (fun e=>no ?_) fun e=>?_
  ·have e:=of_decide_eq_true e
   unfold Zn; rw [decide_eq_false (p:=o<4) (by omega)]; simp
  have o4:=of_decide_eq_false e
  have o0:0≤o:=by omega
  have o4:o<4:=by omega
  have okb:Zn n c o=true:=by unfold Zn; rw [ok,decide_eq_true o0,decide_eq_true o4]; rfl
  have d:=dxy (o:=o)
  obtain ⟨F,hF⟩:∃ F,c / (n*n)=F:=⟨_,rfl⟩
  obtain ⟨i,hi0⟩:∃ i,c % n=i:=⟨_,rfl⟩
  obtain ⟨j,hj0⟩:∃ j,c / n % n=j:=⟨_,rfl⟩
  have hb:Z3 n c o=if 0≤Zr n F (i+dxI o) (j+dyI o) then (Zr n F (i+dxI o) (j+dyI o),Int.tmod (o+2) 4) else Zy1 n F i j o:=by
   unfold Z3; rw [if_pos okb,hF,hi0,hj0]
  rw [hF,hi0,hj0]
  rw [hF] at hm f0 f5
  rw [hi0] at hm i0 i1
  rw [hj0] at hm j0 j1
  have w1:i64.wrap (i+dxI o)=i+dxI o:=wi ⟨by omega,by omega⟩
  have w2:i64.wrap (j+dyI o)=j+dyI o:=wi ⟨by omega,by omega⟩
  have i6:∀ {z:Int},-1≤z→z≤6144→I64 z:=fun {z} a b=>⟨by omega,by omega⟩
  have fb:=Z42 f0 f5
  have wo:∀ q,WOut (Zu F) q:=fun q=>⟨(fb 1).mono (by decide),(fb 2).mono (by decide)⟩
  refine ⟨⟨rfl,rfl⟩,⟨o0,o4,Nat.le_refl _⟩,⟨by decide,by decide⟩,⟨o0,o4,Nat.le_refl _⟩,⟨by decide,by decide⟩,⟨h.1,i6 (by omega) (by omega),Z188 _,Z188 _⟩,?_⟩
  intro a ha
  have ha:a=Z95 n F (i64.wrap (i+dxI o)) (i64.wrap (j+dyI o)):=ha.trans (by rw [← Z1k6 o0 o4,← Z1k7 o0 o4]; rfl)
  rw [w1,w2] at ha
  obtain ⟨a,⟨⟩⟩:=a
  have ha:a=Zr n F (i+dxI o) (j+dyI o):=congrArg Prod.fst ha
  rw [← ha] at hb
  rintro _ rfl
  refine Br.intro (fun e=>?_) fun e=>?_
  ·have e:a≥0:=of_decide_eq_true e
   rw [if_pos e] at hb
   refine ⟨by decide,?_⟩
   have:i64.wrap (o+2)=o+2:=wi ⟨by omega,by omega⟩
   rw [this]
   unfold Z1k; rw [hb]
  have e:¬ 0≤a:=of_decide_eq_false e
  rw [if_neg e] at hb
  refine ⟨⟨f0,by show F<6; omega⟩,wo o,?_⟩
  rintro ⟨v1,⟨⟩⟩ hv1
  have e1:v1=outF (Zu F) o:=congrArg Prod.fst hv1
  refine ⟨trivial,?_⟩
  rintro ⟨t,⟨⟩⟩ ht
  have et:t=Z3h (outF (Zu F) o):=by rw [← e1]; exact congrArg Prod.fst ht
  obtain ⟨t0,t5⟩:=Z1j2 f0 f5 o0 o4
  rw [← et] at t0 t5
  have fl:=Z14f t0 t5
  have tb:=Z42 t0 t5
  refine ⟨⟨t0,by show t<6; omega⟩,⟨rfl,fl⟩,hm,?_⟩
  rintro ⟨p,⟨⟩⟩ hp
  have ep:p=Z6w n F i j:=congrArg Prod.fst hp
  have pb:Bd 96 p:=by rw [ep]; exact Z1fo hm
  refine ⟨⟨f0,by show F<6; omega⟩,wo o,?_⟩
  rintro ⟨v2,⟨⟩⟩ hv2
  have e2:v2=outF (Zu F) o:=congrArg Prod.fst hv2
  have vb:Bd 1 v2:=by rw [e2]; exact Z1k5 f0 f5 o
  refine ⟨⟨pb.mono (by decide),vb.mono (by decide)⟩,?_⟩
  rintro ⟨q,⟨⟩⟩ hq
  have eq:q=Zbm p v2:=congrArg Prod.fst hq
  have ql:q.length=3:=by rw [eq]; rfl
  have qb:Bd 97 q:=by rw [eq]; exact Zrp pb vb
  refine ⟨⟨rfl,ql⟩,ql,⟨by decide,by decide,Nat.le_of_eq fl.symm⟩,⟨qb.mono (by decide),(tb 1).mono (by decide)⟩,?_⟩
  rintro ⟨d1,⟨⟩⟩ hd1
  have ed1:d1=dotW q (Z1h (Zu t) 1):=congrArg Prod.fst hd1
  have db1:=Z1fn qb (tb 1)
  rw [← ed1] at db1
  refine ⟨⟨n1,n2,by omega,by omega⟩,?_⟩
  rintro ⟨x1,⟨⟩⟩ hx1
  have ex1:x1=Z38 n d1:=congrArg Prod.fst hx1
  have xb1:=Z14g (a:=d1) n1
  rw [← ex1] at xb1
  refine ⟨ql,⟨by decide,by decide,Nat.le_of_eq fl.symm⟩,⟨qb.mono (by decide),(tb 2).mono (by decide)⟩,?_⟩
  rintro ⟨d2,⟨⟩⟩ hd2
  have ed2:d2=dotW q (Z1h (Zu t) 2):=congrArg Prod.fst hd2
  have db2:=Z1fn qb (tb 2)
  rw [← ed2] at db2
  refine ⟨⟨n1,n2,by omega,by omega⟩,?_⟩
  rintro ⟨x2,⟨⟩⟩ hx2
  have ex2:x2=Z38 n d2:=congrArg Prod.fst hx2
  have xb2:=Z14g (a:=d2) n1
  rw [← ex2] at xb2
  refine ⟨⟨h.1,i6 (by omega) (by omega),i6 (by omega) (by omega),i6 (by omega) (by omega)⟩,?_⟩
  rintro ⟨cc,⟨⟩⟩ hcc
  have ecc:cc=Zr n t x1 x2:=congrArg Prod.fst hcc
  have hov:Z3 n c o=Zbn (Zu t) (Z1h (Zu F) 0) cc 4 0:=by
   rw [hb,ecc,ex1,ex2,ed1,ed2,eq,ep,e2,et]; rfl
  refine ⟨rfl,fun x _=>∃ k:Nat,x.1=k∧k≤4∧Z3 n c o=Zbn (Zu t) (Z1h (Zu F) 0) cc (4 - k) k,fun x _=>4 - x.1.toNat,⟨0,rfl,by omega,hov⟩,?_⟩
  rintro ⟨_,⟨⟩⟩ _ ⟨k,rfl,hk,hi⟩
  dsimp only
  rintro _ rfl
  refine Br.intro (fun g=>?_) fun g=>?_
  ·have g:k<4:=by have g:(k:Int)<4:=of_decide_eq_true g; omega
   refine ⟨fl,⟨(tb 1).mono (by decide),(tb 2).mono (by decide)⟩,?_⟩
   rintro ⟨v3,⟨⟩⟩ hv3
   have e3:v3=outF (Zu t) k:=congrArg Prod.fst hv3
   refine ⟨⟨f0,by show F<6; omega⟩,⟨by decide,by decide⟩,?_⟩
   intro z hz
   have hz:z=decide (outF (Zu t) k=Z1h (Zu F) 0):=by rw [← e3]; exact hz
   obtain ⟨r,hr⟩:∃ r,4 - k=r+1:=⟨3 - k,by omega⟩
   rw [hr] at hi
   unfold Zbn at hi
   rw [hz,Z26 g (by omega)]
   refine Br.intro (fun y=>?_) fun y=>?_
   ·rw [if_pos (of_decide_eq_true y)] at hi
    unfold Z1k; rw [hi]
   ·rw [if_neg (of_decide_eq_false y)] at hi
    exact ⟨rfl,⟨k+1,rfl,by omega,by rw [show 4 - (k+1)=r by omega]; exact hi⟩,by omega⟩
  ·have g:k=4:=by have g:¬ (k:Int)<4:=of_decide_eq_false g; omega
   subst g
   have hi:Z3 n c o=(-1,0):=hi
   unfold Z1k; rw [hi]
 ·rw [Z186 ok]
  refine Br.intro (fun _=>no ?_) fun e=>absurd e (by decide)
  unfold Zn; rw [show Zh n c=false by simpa using ok]; rfl
end Go.Lift

namespace Go.Lift
def Z7a:=fun (a:List Int) (k:Int) (post:List Int × Unit→Prop)=>∃ (h:(0:Int)≤(0:Int)∧(0:Int)<(↑(3:Nat):Int)∧(3:Nat)≤a.length),∃ (h
 : (0:Int)≤(1:Int)∧(1:Int)<(↑(3:Nat):Int)∧(3:Nat)≤a.length),∃ (h:(0:Int)≤(2:Int)∧(2:Int)<(↑(3:Nat):Int)∧(3:Nat)≤a.length),∃ (h :
 (List.replicate (3:Nat) (0:Int)).length=(3:Nat)∧(3:Nat)=(3:Nat)),∃ (h:(3:Nat)=(3:Nat)),post ([i64.wrap (k*a.getD (Int.toNat (0:Int)) (0 :
 Int)),i64.wrap (k*a.getD (Int.toNat (1:Int)) (0:Int)),i64.wrap (k*a.getD (Int.toNat (2:Int)) (0:Int))],())
theorem Zs1 (a:List Int) (k:Int) (h:Z5f a k) (w:KS.wf [kWay,.int .i64] (a,k,())):Z7a  a k (fun r=>r=Zca a k):=by
 have hl:a.length=3:=w.1.1
 obtain ⟨hb,k1,k2⟩:=h
 have W:∀ i:Nat,i64.wrap (k*a.getD i 0)=k*a.getD i 0:=fun i=>by
  have:=Z2f k1 k2 (hb i).1 (hb i).2
  exact wi ⟨by omega,by omega⟩
 refine ⟨⟨by decide,by decide,by omega⟩,⟨by decide,by decide,by omega⟩,⟨by decide,by decide,by omega⟩,⟨rfl,rfl⟩,rfl,?_⟩
 show ([i64.wrap (k*a.getD 0 0),i64.wrap (k*a.getD 1 0),i64.wrap (k*a.getD 2 0)],())=Zca a k
 rw [W,W,W]; rfl
def Z82:=fun (a b:List Int) (post:List Int × Unit→Prop)=>∃ (h:(0:Int)≤(0:Int)∧(0:Int)<(↑(3:Nat):Int)∧(3:Nat)≤a.length),∃ (h:(0 :
 Int)≤(0:Int)∧(0:Int)<(↑(3:Nat):Int)∧(3:Nat)≤b.length),∃ (h:(0:Int)≤(1:Int)∧(1:Int)<(↑(3:Nat):Int)∧(3:Nat)≤a.length),∃ (h:(0:Int)
 ≤ (1:Int)∧(1:Int)<(↑(3:Nat):Int)∧(3:Nat)≤b.length),∃ (h:(0:Int)≤(2:Int)∧(2:Int)<(↑(3:Nat):Int)∧(3:Nat)≤a.length),∃ (h:(0:Int)≤(2
 : Int)∧(2:Int)<(↑(3:Nat):Int)∧(3:Nat)≤b.length),∃ (h:(List.replicate (3:Nat) (0:Int)).length=(3:Nat)∧(3:Nat)=(3:Nat)),∃ (h:(3:Nat)=(3 :
 Nat)),post ([i64.wrap (a.getD (Int.toNat (0:Int)) (0:Int)+b.getD (Int.toNat (0:Int)) (0:Int)),i64.wrap (a.getD (Int.toNat (1:Int)) (0:Int)+b.getD
 (Int.toNat (1:Int)) (0:Int)),i64.wrap (a.getD (Int.toNat (2:Int)) (0:Int)+b.getD (Int.toNat (2:Int)) (0:Int))],())
theorem Zug (a:List Int) (b:List Int) (h:Zxy a b) (w:KS.wf [kWay,kWay] (a,b,())):Z82  a b (fun r=>r=Zro a b):=by
 have hl:a.length=3:=w.1.1
 have hm:b.length=3:=w.2.1.1
 obtain ⟨ha,hb⟩:=h
 have W:∀ i:Nat,i64.wrap (a.getD i 0+b.getD i 0)=a.getD i 0+b.getD i 0:=fun i=>by
  have:=ha i; have:=hb i
  exact wi ⟨by omega,by omega⟩
 refine ⟨⟨by decide,by decide,by omega⟩,⟨by decide,by decide,by omega⟩,⟨by decide,by decide,by omega⟩,⟨by decide,by decide,by omega⟩,⟨by decide,by decide,by omega⟩,⟨by decide,by decide,by omega⟩,⟨rfl,rfl⟩,rfl,?_⟩
 show ([i64.wrap (a.getD 0 0+b.getD 0 0),i64.wrap (a.getD 1 0+b.getD 1 0),i64.wrap (a.getD 2 0+b.getD 2 0)],())=Zro a b
 rw [W,W,W]; rfl
def Z9e:=fun (a b:List Int) (post:Int × Unit→Prop)=>∃ (h:(0:Int)≤(0:Int)∧(0:Int)<(↑(3:Nat):Int)∧(3:Nat)≤a.length),∃ (h:(0:Int) ≤
 (0:Int)∧(0:Int)<(↑(3:Nat):Int)∧(3:Nat)≤b.length),∃ (h:(0:Int)≤(1:Int)∧(1:Int)<(↑(3:Nat):Int)∧(3:Nat)≤a.length),∃ (h:(0:Int)≤(1 :
 Int)∧(1:Int)<(↑(3:Nat):Int)∧(3:Nat)≤b.length),∃ (h:(0:Int)≤(2:Int)∧(2:Int)<(↑(3:Nat):Int)∧(3:Nat)≤a.length),∃ (h:(0:Int)≤(2:Int)
 ∧ (2:Int)<(↑(3:Nat):Int)∧(3:Nat)≤b.length),post (i64.wrap (i64.wrap (i64.wrap (a.getD (Int.toNat (0:Int)) (0:Int)*b.getD (Int.toNat (0
 : Int)) (0:Int))+i64.wrap (a.getD (Int.toNat (1:Int)) (0:Int)*b.getD (Int.toNat (1:Int)) (0:Int)))+i64.wrap (a.getD (Int.toNat (2:Int)) (0:Int)
 * b.getD (Int.toNat (2:Int)) (0:Int))),())
theorem Zyl (a:List Int) (b:List Int) (h:WDot a b) (w:KS.wf [kWay,kWay] (a,b,())):Z9e  a b (fun r=>r=dotR a b):=by
 have hl:a.length=3:=w.1.1
 have hm:b.length=3:=w.2.1.1
 obtain ⟨ha,hb⟩:=h
 have M:∀ i:Nat,-(1048576*1048576)≤a.getD i 0*b.getD i 0∧a.getD i 0*b.getD i 0≤1048576*1048576:=fun i=>Z2f (ha i).1 (ha i).2 (hb i).1 (hb i).2
 have m0:=M 0
 have m1:=M 1
 have m2:=M 2
 refine ⟨⟨by decide,by decide,by omega⟩,⟨by decide,by decide,by omega⟩,⟨by decide,by decide,by omega⟩,⟨by decide,by decide,by omega⟩,⟨by decide,by decide,by omega⟩,⟨by decide,by decide,by omega⟩,?_⟩
 show (i64.wrap (i64.wrap (i64.wrap (a.getD 0 0*b.getD 0 0)+i64.wrap (a.getD 1 0*b.getD 1 0))+i64.wrap (a.getD 2 0*b.getD 2 0)),())=dotR a b
 rw [wi (x:=a.getD 0 0*b.getD 0 0) ⟨by omega,by omega⟩,wi (x:=a.getD 1 0*b.getD 1 0) ⟨by omega,by omega⟩,wi (x:=a.getD 2 0*b.getD 2 0) ⟨by omega,by omega⟩,wi (x:=a.getD 0 0*b.getD 0 0+a.getD 1 0*b.getD 1 0) ⟨by omega,by omega⟩,wi ⟨by omega,by omega⟩]
 rfl
def Z7b:=fun (f:List (List Int)) (s:Int) (post:List Int × Unit→Prop)=>∀ (a:Bool),a=(s==(0:Int))→Br a (∃ (h:(0:Int)≤(1:Int)∧(1:Int) <
 (↑(3:Nat):Int)∧(3:Nat)≤f.length),∃ (h:(List.replicate (3:Nat) (0:Int)).length=(3:Nat)∧List.length (f.getD (Int.toNat (1:Int)) (K.arr (3:Nat) (K.int
 i64)).dflt)=(3:Nat)),∃ (h:List.length (f.getD (Int.toNat (1:Int)) (K.arr (3:Nat) (K.int i64)).dflt)=(3:Nat)),post (f.getD (Int.toNat (1:Int))
 (K.arr (3:Nat) (K.int i64)).dflt,())) (∀ (a:Bool),a=(s==(1:Int))→Br a (∃ (h:(0:Int)≤(2:Int)∧(2:Int)<(↑(3:Nat):Int)∧(3:Nat)≤f.length),
 ∃ (h:(List.replicate (3:Nat) (0:Int)).length=(3:Nat)∧List.length (f.getD (Int.toNat (2:Int)) (K.arr (3:Nat) (K.int i64)).dflt)=(3:Nat)),∃ (h :
 List.length (f.getD (Int.toNat (2:Int)) (K.arr (3:Nat) (K.int i64)).dflt)=(3:Nat)),post (f.getD (Int.toNat (2:Int)) (K.arr (3:Nat) (K.int i64)).dflt,
 ())) (∀ (a:Bool),a=(s==(2:Int))→Br a (∃ (h:(0:Int)≤(1:Int)∧(1:Int)<(↑(3:Nat):Int)∧(3:Nat)≤f.length),∃ (h:Z5f (f.getD (Int.toNat (1:Int))
 (K.arr (3:Nat) (K.int i64)).dflt) (-1:Int)),∀ (a:List Int × Unit),a=Zca (f.getD (Int.toNat (1:Int)) (K.arr (3:Nat) (K.int i64)).dflt) (-1:Int) →
 ∃ (h:(List.replicate (3:Nat) (0:Int)).length=(3:Nat)∧a.fst.length=(3:Nat)),∃ (h:a.fst.length=(3:Nat)),post (a.fst,())) (∃ (h:(0:Int)≤(2:Int)∧(2
 : Int)<(↑(3:Nat):Int)∧(3:Nat)≤f.length),∃ (h:Z5f (f.getD (Int.toNat (2:Int)) (K.arr (3:Nat) (K.int i64)).dflt) (-1:Int)),∀ (a:List Int × Unit),
 a=Zca (f.getD (Int.toNat (2:Int)) (K.arr (3:Nat) (K.int i64)).dflt) (-1:Int)→∃ (h:(List.replicate (3:Nat) (0:Int)).length=(3:Nat)∧a.fst.length =
 (3:Nat)),∃ (h:a.fst.length=(3:Nat)),post (a.fst,()))))
theorem Zs2 (f:List (List Int)) (s:Int) (h:WOut f s) (w:KS.wf [Z184,.int .i64] (f,s,())):Z7b  f s (fun r=>r=outR f s):=by
 have hl:f.length=3:=w.1.1
 have hm:∀ i,(Z1h f i).length=3:=fun i=>by
  unfold Z1h
  rcases Nat.lt_or_ge i f.length with g | g
  ·exact (w.1.2 _ (Z2w g [0,0,0])).1
  ·rw [List.getD_eq_getElem?_getD,List.getElem?_eq_none g]; rfl
 obtain ⟨h1,h2⟩:=h
 have t1:Z5f (Z1h f 1) (-1):=⟨h1,by decide,by decide⟩
 have t2:Z5f (Z1h f 2) (-1):=⟨h2,by decide,by decide⟩
 rintro _ rfl
 refine Br.intro (fun e=>?_) fun e=>?_
 ·have e:s=0:=beq_iff_eq.1 e
  exact ⟨⟨by decide,by decide,by omega⟩,⟨rfl,hm 1⟩,hm 1,congrArg r1 (by unfold outF; rw [if_pos e]; rfl)⟩
 have e:¬ s=0:=fun q=>by rw [q] at e; cases e
 rintro _ rfl
 refine Br.intro (fun g=>?_) fun g=>?_
 ·have g:s=1:=beq_iff_eq.1 g
  exact ⟨⟨by decide,by decide,by omega⟩,⟨rfl,hm 2⟩,hm 2,congrArg r1 (by unfold outF; rw [if_neg e,if_pos g]; rfl)⟩
 have g:¬ s=1:=fun q=>by rw [q] at g; cases g
 rintro _ rfl
 refine Br.intro (fun j=>?_) fun j=>?_
 ·have j:s=2:=beq_iff_eq.1 j
  refine ⟨⟨by decide,by decide,by omega⟩,t1,?_⟩
  rintro _ rfl
  exact ⟨⟨rfl,rfl⟩,rfl,congrArg r1 (by unfold outF; rw [if_neg e,if_neg g,if_pos j]; rfl)⟩
 have j:¬ s=2:=fun q=>by rw [q] at j; cases j
 refine ⟨⟨by decide,by decide,by omega⟩,t2,?_⟩
 rintro _ rfl
 exact ⟨⟨rfl,rfl⟩,rfl,congrArg r1 (by unfold outF; rw [if_neg e,if_neg g,if_neg j]; rfl)⟩
def Zas:=fun (ty154:Nat) (c:List Int) (post:Int × Unit→Prop)=>HIs [HObj.row Md.rw ty154 (K.int i64) c] [HObj.row Md.rw ty154 (K.int i64) c] ∧
 ∃ (I:Int × Unit→Unit→Prop),∃ (μ:Int × Unit→Unit→Nat),I ((0:Int),()) ()∧∀ (x:Int × Unit) (y:Unit),I x y→∀ (a:Bool),a=decide (x.fst<(6:Int))→Br
 a (∃ (h:(0:Int)≤x.fst∧x.fst<(↑(6:Nat):Int)),∃ (h:(0:Int)≤(0:Int)∧(0:Int)<(↑(3:Nat):Int)),∃ (h:c.length=(3:Nat)),∀ (a:Bool),a=eqL
 (List.getD (Zm.getD x.fst.toNat (K.arr (3:Nat) (K.arr (3:Nat) (K.int i64))).dflt) (Int.toNat (0:Int)) (K.arr (3:Nat) (K.int i64)).dflt) c→Br a (post
 (x.fst,())) (HIs [HObj.row Md.rw ty154 (K.int i64) c] [HObj.row Md.rw ty154 (K.int i64) c]∧I (i64.wrap (x.fst+(1:Int)),()) ()∧μ (i64.wrap
 (x.fst+(1:Int)),()) ()<μ x y)) (post ((-1:Int),()))
theorem Z11s (ty0:Nat) (c:List Int) (w:KS.wf [kWay] (c,())):Zas ty0 c (fun r=>r=Z11a c):=by
 have hl:c.length=3:=w.1.1
 refine ⟨rfl,fun x _=>∃ k:Nat,x.1=k∧k≤6∧Z3h c=Zpl (fun fr=>decide (Z1h fr 0=c)) k (Zm.drop k),fun x _=>6 - x.1.toNat,⟨0,rfl,by omega,rfl⟩,?_⟩
 rintro ⟨_,⟨⟩⟩ _ ⟨k,rfl,hk,hi⟩
 dsimp only
 rintro _ rfl
 refine Br.intro (fun e=>?_) fun e=>?_
 ·have e:k<6:=by have e:(k:Int)<6:=of_decide_eq_true e; omega
  refine ⟨⟨by omega,by show (k:Int)<6; omega⟩,⟨by decide,by decide⟩,hl,?_⟩
  rw [Z1fd (l:=Zm) (i:=k) e [[0,0,0],[0,0,0],[0,0,0]],Z1a6] at hi
  rw [Int.toNat_natCast,Z26 e (by omega)]
  intro z hz
  have hz:z=decide (Z1h (Zm.getD k [[0,0,0],[0,0,0],[0,0,0]]) 0=c):=hz
  rw [hz]
  refine Br.intro (fun g=>?_) fun g=>?_
  ·rw [if_pos g] at hi
   exact congrArg r1 hi.symm
  ·rw [if_neg (by rw [g]; decide)] at hi
   exact ⟨rfl,⟨k+1,rfl,by omega,hi⟩,by omega⟩
 ·have e:k=6:=by have e:¬ (k:Int)<6:=of_decide_eq_false e; omega
  subst e
  exact congrArg r1 (by rw [hi]; rfl)
def Zfm:=fun (n f i j:Int) (post:Int × Unit→Prop)=>∃ (h:True),∀ (a:Bool),a=(Zxo n).fst→Br (!a) (post ((-1:Int),())) (∀ (a:Bool),a=decide (f <
 (0:Int))→Br a (post ((-1:Int),())) (∀ (a:Bool),a=decide (f≥(6:Int))→Br a (post ((-1:Int),())) (∀ (a:Bool),a=decide (i<(0:Int))→Br a (post ((-1 :
 Int),())) (∀ (a:Bool),a=decide (i≥n)→Br a (post ((-1:Int),())) (∀ (a:Bool),a=decide (j<(0:Int))→Br a (post ((-1:Int),())) (∀ (a:Bool),a=decide (j ≥
 n)→Br a (post ((-1:Int),())) (post (i64.wrap (i64.wrap (i64.wrap (i64.wrap (f*n)+j)*n)+i),()))))))))
theorem Z18q (n:Int) (f:Int) (i:Int) (j:Int) (h:IIII n f i j):Zfm  n f i j (fun r=>r=Z95 n f i j):=by
 obtain ⟨hn,hf,hi,hj⟩:=h
 have no:Z1v n f i j=false→((-1:Int),())=Z95 n f i j:=fun q=>congrArg r1 (by unfold Zr; rw [if_neg (by rw [q]; decide)])
 have ok:∀ p,(Z1b n&&decide (0≤f)&&decide (f<6)&&decide (0≤i)&&decide (i<n)&&decide (0≤j)&&decide (j<n))=p→Z1v n f i j=p:=fun p q=>q
 refine ⟨trivial,?_⟩
 intro g hg
 have hg:g=Z1b n:=hg
 rw [hg]
 refine Br.intro (fun e=>no (ok _ ?_)) fun e=>?_
 ·have e:Z1b n=false:=by simpa using e
  rw [e]; rfl
 have e:Z1b n=true:=by simpa using e
 rintro _ rfl
 refine Br.intro (fun q=>no (ok _ ?_)) fun q=>?_
 ·rw [decide_eq_false (p:=0≤f) (by have:=of_decide_eq_true q; omega)]; simp
 have q1:=of_decide_eq_false q
 rintro _ rfl
 refine Br.intro (fun q=>no (ok _ ?_)) fun q=>?_
 ·rw [decide_eq_false (p:=f<6) (by have:=of_decide_eq_true q; omega)]; simp
 have q2:=of_decide_eq_false q
 rintro _ rfl
 refine Br.intro (fun q=>no (ok _ ?_)) fun q=>?_
 ·rw [decide_eq_false (p:=0≤i) (by have:=of_decide_eq_true q; omega)]; simp
 have q3:=of_decide_eq_false q
 rintro _ rfl
 refine Br.intro (fun q=>no (ok _ ?_)) fun q=>?_
 ·rw [decide_eq_false (p:=i<n) (by have:=of_decide_eq_true q; omega)]; simp
 have q4:=of_decide_eq_false q
 rintro _ rfl
 refine Br.intro (fun q=>no (ok _ ?_)) fun q=>?_
 ·rw [decide_eq_false (p:=0≤j) (by have:=of_decide_eq_true q; omega)]; simp
 have q5:=of_decide_eq_false q
 rintro _ rfl
 refine Br.intro (fun q=>no (ok _ ?_)) fun q=>?_
 ·rw [decide_eq_false (p:=j<n) (by have:=of_decide_eq_true q; omega)]; simp
 have q6:=of_decide_eq_false q
 have hok:Z1v n f i j=true:=by
  unfold Z1v
  rw [e,decide_eq_true (p:=0≤f) (by omega),decide_eq_true (p:=f<6) (by omega),decide_eq_true (p:=0≤i) (by omega),decide_eq_true (p:=i<n) (by omega),decide_eq_true (p:=0≤j) (by omega),decide_eq_true (p:=j<n) (by omega)]; rfl
 obtain ⟨r0,r1',n1,n2⟩:=Zal hok
 have hv:Zr n f i j=(f*n+j)*n+i:=by unfold Zr; rw [if_pos hok]
 rw [hv] at r0 r1'
 have sq:=Zhf n1 n2
 have b1:0≤f*n:=Int.mul_nonneg (by omega) (by omega)
 have b2:f*n≤5*n:=Int.mul_le_mul_of_nonneg_right (by omega) (by omega)
 have b3:0≤(f*n+j)*n:=Int.mul_nonneg (by omega) (by omega)
 rw [wi (x:=f*n) ⟨by omega,by omega⟩,wi (x:=f*n+j) ⟨by omega,by omega⟩,wi (x:=(f*n+j)*n) ⟨by omega,by omega⟩,wi (x:=(f*n+j)*n+i) ⟨by omega,by omega⟩]
 exact congrArg r1 hv.symm
def Z75:=fun (n f i j:Int) (post:List Int × Unit→Prop)=>∃ (h:(0:Int)≤f∧f<(↑(6:Nat):Int)),∃ (h:(List.replicate (3:Nat) (K.arr (3:Nat) (K.int
 i64)).dflt).length=(3:Nat)∧List.length (Zm.getD f.toNat (K.arr (3:Nat) (K.arr (3:Nat) (K.int i64))).dflt)=(3:Nat)),∃ (h:(0:Int)≤(0:Int)
 ∧ (0:Int)<(↑(3:Nat):Int)∧(3:Nat)≤List.length (Zm.getD f.toNat (K.arr (3:Nat) (K.arr (3:Nat) (K.int i64))).dflt)),∃ (h:Z5f (List.getD
 (Zm.getD f.toNat (K.arr (3:Nat) (K.arr (3:Nat) (K.int i64))).dflt) (Int.toNat (0:Int)) (K.arr (3:Nat) (K.int i64)).dflt) n),∀ (a:List Int × Unit),
 a=Zca (List.getD (Zm.getD f.toNat (K.arr (3:Nat) (K.arr (3:Nat) (K.int i64))).dflt) (Int.toNat (0:Int)) (K.arr (3:Nat) (K.int i64)).dflt) n→∃
 (h:(0:Int)≤(1:Int)∧(1:Int)<(↑(3:Nat):Int)∧(3:Nat)≤List.length (Zm.getD f.toNat (K.arr (3:Nat) (K.arr (3:Nat) (K.int i64))).dflt)),∃ (h :
 Z5f (List.getD (Zm.getD f.toNat (K.arr (3:Nat) (K.arr (3:Nat) (K.int i64))).dflt) (Int.toNat (1:Int)) (K.arr (3:Nat) (K.int i64)).dflt)
 (i64.wrap (i64.wrap (i64.wrap ((2:Int)*i)+(1:Int)) - n))),∀ (a_1:List Int × Unit),a_1=Zca (List.getD (Zm.getD f.toNat (K.arr (3 :
 Nat) (K.arr (3:Nat) (K.int i64))).dflt) (Int.toNat (1:Int)) (K.arr (3:Nat) (K.int i64)).dflt) (i64.wrap (i64.wrap (i64.wrap ((2 :
 Int)*i)+(1:Int)) - n))→∃ (h:Zxy a.fst a_1.fst),∀ (a_2:List Int × Unit),a_2=Zro a.fst a_1.fst→∃ (h:(0:Int)≤(2:Int)∧(2:Int)<(↑(3:Nat):Int) ∧
 (3:Nat)≤List.length (Zm.getD f.toNat (K.arr (3:Nat) (K.arr (3:Nat) (K.int i64))).dflt)),∃ (h:Z5f (List.getD (Zm.getD f.toNat (K.arr (3:Nat)
 (K.arr (3:Nat) (K.int i64))).dflt) (Int.toNat (2:Int)) (K.arr (3:Nat) (K.int i64)).dflt) (i64.wrap (i64.wrap (i64.wrap ((2:Int) *
 j)+(1:Int)) - n))),∀ (a:List Int × Unit),a=Zca (List.getD (Zm.getD f.toNat (K.arr (3:Nat) (K.arr (3:Nat) (K.int i64))).dflt) (Int.toNat (2:Int))
 (K.arr (3:Nat) (K.int i64)).dflt) (i64.wrap (i64.wrap (i64.wrap ((2:Int)*j)+(1:Int)) - n))→∃ (h:Zxy a_2.fst a.fst),∀ (a_3:List
 Int × Unit),a_3=Zro a_2.fst a.fst→∃ (h:(List.replicate (3:Nat) (0:Int)).length=(3:Nat)∧a_3.fst.length=(3:Nat)),∃ (h:a_3.fst.length=(3:Nat)),post
 (a_3.fst,())
theorem Z11t (n:Int) (f:Int) (i:Int) (j:Int) (h:Z16 n f i j):Z75  n f i j (fun r=>r=Zub n f i j):=by
 have hh:=h
 obtain ⟨n1,n2,f0,f5,i0,i1,j0,j1⟩:=h
 have fl:(Zm.getD f.toNat (K.arr (3:Nat) (K.arr (3:Nat) (K.int i64))).dflt).length=3:=Z14f f0 f5
 have b:=Z42 f0 f5
 have t0:Z5f (Z1h (Zu f) 0) n:=⟨(b 0).mono (by decide),by omega,by omega⟩
 have w1:i64.wrap (i64.wrap (i64.wrap (2*i)+1) - n)=2*i+1 - n:=by
  rw [wi (x:=2*i) ⟨by omega,by omega⟩,wi (x:=2*i+1) ⟨by omega,by omega⟩,wi ⟨by omega,by omega⟩]
 have w2:i64.wrap (i64.wrap (i64.wrap (2*j)+1) - n)=2*j+1 - n:=by
  rw [wi (x:=2*j) ⟨by omega,by omega⟩,wi (x:=2*j+1) ⟨by omega,by omega⟩,wi ⟨by omega,by omega⟩]
 unfold Z75
 rw [w1,w2]
 have t1:Z5f (Z1h (Zu f) 1) (2*i+1 - n):=⟨(b 1).mono (by decide),by omega,by omega⟩
 have t2:Z5f (Z1h (Zu f) 2) (2*j+1 - n):=⟨(b 2).mono (by decide),by omega,by omega⟩
 have c0:=Z6c (q:=32) (b 0) (k:=n) (by omega) (by omega)
 have c1:=Z6c (q:=32) (b 1) (k:=2*i+1 - n) (by omega) (by omega)
 have c2:=Z6c (q:=32) (b 2) (k:=2*j+1 - n) (by omega) (by omega)
 have p1:=Zrp c0 c1
 refine ⟨⟨f0,by show f<6; omega⟩,⟨rfl,fl⟩,⟨by decide,by decide,by omega⟩,t0,?_⟩
 rintro _ rfl
 refine ⟨⟨by decide,by decide,by omega⟩,t1,?_⟩
 rintro _ rfl
 refine ⟨⟨c0.mono (by decide),c1.mono (by decide)⟩,?_⟩
 rintro _ rfl
 refine ⟨⟨by decide,by decide,by omega⟩,t2,?_⟩
 rintro _ rfl
 refine ⟨⟨p1.mono (by decide),c2.mono (by decide)⟩,?_⟩
 rintro _ rfl
 exact ⟨⟨rfl,rfl⟩,rfl,rfl⟩
def Zd0:=fun (n a:Int) (post:Int × Unit→Prop)=>∃ (h:(2:Int)≠(0:Int)),post (imin (imax (i64.wrap ((i64.wrap (i64.wrap (a+n) -
 (1:Int))).tdiv (2:Int))) (0:Int)) (i64.wrap (n - (1:Int))),())
theorem Z158 (n:Int) (a:Int) (h:Zy0 n a):Zd0  n a (fun r=>r=Zxz n a):=by
 obtain ⟨n1,n2,a1,a2⟩:=h
 have w1:i64.wrap (i64.wrap (a+n) - 1)=a+n - 1:=by
  rw [wi (x:=a+n) ⟨by omega,by omega⟩,wi ⟨by omega,by omega⟩]
 have w2:i64.wrap (n - 1)=n - 1:=wi ⟨by omega,by omega⟩
 have w3:i64.wrap (Int.tdiv (a+n - 1) 2)=Int.tdiv (a+n - 1) 2:=by
  have:(Int.tdiv (a+n - 1) 2).natAbs≤(a+n - 1).natAbs:=by rw [Int.natAbs_tdiv]; exact Nat.div_le_self _ _
  exact wi ⟨by omega,by omega⟩
 exact ⟨by decide,by rw [w1,w2,w3]; rfl⟩
end Go.Lift

namespace Go.Lift
open Go.Proofs
def Z6j:Con:=Con.nam [kWay,.int .i64] [.snap kWay] (fun x=>Z5f x.1 x.2.1) (fun x=>Zca x.1 x.2.1)
def Zcg:Cx:=⟨Zf Zi,Zg [],RbG⟩
theorem Zju:CxOk Tryz.prog Zcg:=⟨Z4 Z7,fun f c h=>by cases h⟩
theorem Zny:FnAt Tryz.prog 116 Tryz.f116.ntmps Tryz.f116.results.toList (Tryz.f116.body.getD .skip):=⟨Tryz.f116,Tryz.func116,rfl,rfl,by simp,by decide⟩
theorem Znz (a:List Int) (k:Int) (post:(List Int) × Unit→Prop):Za Zcg nHn Tryz.f116.ntmps Tryz.f116.results.toList (Tryz.f116.body.getD .skip) [kWay,.int .i64] [.snap kWay] (a,k,()) post=Z7a  a k post:=by kernel_rfl
theorem Zch:Z6j.holds Tryz.prog RbG 116 :=
 Zq (detP Zju Z8 nHn Zny (F:=fun x post=>Z7a  x.1 x.2.1 post) (fun x post=>Znz x.1 x.2.1 post) fun x h w=>Zs1  x.1 x.2.1 h w)
def Z7c:Con:=Con.nam [kWay,kWay] [.snap kWay] (fun x=>Zxy x.1 x.2.1) (fun x=>Zro x.1 x.2.1)
def Zdq:Cx:=⟨Zf Zi,Zg [],RbG⟩
theorem Zmb:CxOk Tryz.prog Zdq:=⟨Z4 Z7,fun f c h=>by cases h⟩
theorem Zpw:FnAt Tryz.prog 84 Tryz.f84.ntmps Tryz.f84.results.toList (Tryz.f84.body.getD .skip):=⟨Tryz.f84,Tryz.func84,rfl,rfl,by simp,by decide⟩
theorem Zpx (a:List Int) (b:List Int) (post:(List Int) × Unit→Prop):Za Zdq nHn Tryz.f84.ntmps Tryz.f84.results.toList (Tryz.f84.body.getD .skip) [kWay,kWay] [.snap kWay] (a,b,()) post=Z82  a b post:=by kernel_rfl
theorem Zdr:Z7c.holds Tryz.prog RbG 84 :=
 Zq (detP Zmb Z8 nHn Zpw (F:=fun x post=>Z82  x.1 x.2.1 post) (fun x post=>Zpx x.1 x.2.1 post) fun x h w=>Zug  x.1 x.2.1 h w)
def Zfn:Con:=Con.nam [kWay,kWay] [.snap (.int .i64)] (fun x=>WDot x.1 x.2.1) (fun x=>dotR x.1 x.2.1)
def Zfo:Cx:=⟨Zf Zi,Zg [],RbG⟩
theorem Zo0:CxOk Tryz.prog Zfo:=⟨Z4 Z7,fun f c h=>by cases h⟩
theorem Zs3:FnAt Tryz.prog 86 Tryz.f86.ntmps Tryz.f86.results.toList (Tryz.f86.body.getD .skip):=⟨Tryz.f86,Tryz.func86,rfl,rfl,by simp,by decide⟩
theorem Zs4 (a:List Int) (b:List Int) (post:Int × Unit→Prop):Za Zfo nHn Tryz.f86.ntmps Tryz.f86.results.toList (Tryz.f86.body.getD .skip) [kWay,kWay] [.snap (.int .i64)] (a,b,()) post=Z9e  a b post:=by kernel_rfl
theorem Zuh:Zfn.holds Tryz.prog RbG 86 :=
 Zq (detP Zo0 Z8 nHn Zs3 (F:=fun x post=>Z9e  x.1 x.2.1 post) (fun x post=>Zs4 x.1 x.2.1 post) fun x h w=>Zyl  x.1 x.2.1 h w)
def Zci:Con:=Con.nam [Z184,.int .i64] [.snap kWay] (fun x=>WOut x.1 x.2.1) (fun x=>outR x.1 x.2.1)
def Zcj:Cx:=⟨Zf Zi,Zg [(116,Z6j)],RbG⟩
theorem Zjv:CxOk Tryz.prog Zcj:=⟨Z4 Z7,Z6 ⟨Zch,trivial⟩⟩
theorem Zo1:FnAt Tryz.prog 82 Tryz.f82.ntmps Tryz.f82.results.toList (Tryz.f82.body.getD .skip):=⟨Tryz.f82,Tryz.func82,rfl,rfl,by simp,by decide⟩
theorem Zo2 (f:List (List Int)) (s:Int) (post:(List Int) × Unit→Prop):Za Zcj nHn Tryz.f82.ntmps Tryz.f82.results.toList (Tryz.f82.body.getD .skip) [Z184,.int .i64] [.snap kWay] (f,s,()) post=Z7b  f s post:=by kernel_rfl
theorem Zpy:Zci.holds Tryz.prog RbG 82 :=
 Zq (detP Zjv Z8 nHn Zo1 (F:=fun x post=>Z7b  x.1 x.2.1 post) (fun x post=>Zo2 x.1 x.2.1 post) fun x h w=>Zs2  x.1 x.2.1 h w)
def Zhk:Con:=Con.nam [kWay] [.snap (.int .i64)] (fun _=>True) (fun x=>Z11a x.1)
def Zfp:Hn:={ loops:=Z2b [(2,{ ls:=[(.slot 4,.data (.int .i64))],os:=[] })],joins:=fun _=>none,named:=true }
def Zhl:Cx:=⟨Zf Zi,Zg [],RbG⟩
theorem Zpz:CxOk Tryz.prog Zhl:=⟨Z4 Z7,fun f c h=>by cases h⟩
theorem Zui:FnAt Tryz.prog 81 Tryz.f81.ntmps Tryz.f81.results.toList (Tryz.f81.body.getD .skip):=⟨Tryz.f81,Tryz.func81,rfl,rfl,by simp,by decide⟩
theorem Zuj (c:List Int) (post:Int × Unit→Prop):Za Zhl Zfp Tryz.f81.ntmps Tryz.f81.results.toList (Tryz.f81.body.getD .skip) [kWay] [.snap (.int .i64)] (c,()) post=Zas 109 c post:=by kernel_rfl
theorem Zym:Zhk.holds Tryz.prog RbG 81 :=
 Zq (detP Zpz Z8 Zfp Zui (F:=fun x post=>Zas 109 x.1 post) (fun x post=>Zuj x.1 post) fun x _ w=>Z11s 109 x.1 w)
def Zn3:Con:=Con.nam [.int .i64,.int .i64,.int .i64,.int .i64] [.snap (.int .i64)] (fun x=>IIII x.1 x.2.1 x.2.2.1 x.2.2.2.1) (fun x=>Z95 x.1 x.2.1 x.2.2.1 x.2.2.2.1)
def Zjw:Hn:=nHn
def Zn4:Cx:=⟨Zf Zi,Zg [(97,Zcz)],RbG⟩
theorem Zuk:CxOk Tryz.prog Zn4:=⟨Z4 Z7,Z6 ⟨Zn2,trivial⟩⟩
theorem Z11u:FnAt Tryz.prog 80 Tryz.f80.ntmps Tryz.f80.results.toList (Tryz.f80.body.getD .skip):=⟨Tryz.f80,Tryz.func80,rfl,rfl,by simp,by decide⟩
theorem Z11v (n:Int) (f:Int) (i:Int) (j:Int) (post:Int × Unit→Prop):Za Zn4 Zjw Tryz.f80.ntmps Tryz.f80.results.toList (Tryz.f80.body.getD .skip) [.int .i64,.int .i64,.int .i64,.int .i64] [.snap (.int .i64)] (n,f,i,j,()) post=Zfm  n f i j post:=by kernel_rfl
theorem Z159:Zn3.holds Tryz.prog RbG 80 :=
 Zq (detP Zuk Z8 Zjw Z11u (F:=fun x post=>Zfm  x.1 x.2.1 x.2.2.1 x.2.2.2.1 post) (fun x post=>Z11v x.1 x.2.1 x.2.2.1 x.2.2.2.1 post) fun x h _=>Z18q  x.1 x.2.1 x.2.2.1 x.2.2.2.1 h)
def Zhm:Con:=Con.nam [.int .i64,.int .i64,.int .i64,.int .i64] [.snap kWay] (fun x=>Z16 x.1 x.2.1 x.2.2.1 x.2.2.2.1) (fun x=>Zub x.1 x.2.1 x.2.2.1 x.2.2.2.1)
def Zhn:Cx:=⟨Zf Zi,Zg [(116,Z6j),(84,Z7c)],RbG⟩
theorem Zq0:CxOk Tryz.prog Zhn:=⟨Z4 Z7,Z6 ⟨Zch,Zdr,trivial⟩⟩
theorem Zul:FnAt Tryz.prog 83 Tryz.f83.ntmps Tryz.f83.results.toList (Tryz.f83.body.getD .skip):=⟨Tryz.f83,Tryz.func83,rfl,rfl,by simp,by decide⟩
theorem Zum (n:Int) (f:Int) (i:Int) (j:Int) (post:(List Int) × Unit→Prop):Za Zhn nHn Tryz.f83.ntmps Tryz.f83.results.toList (Tryz.f83.body.getD .skip) [.int .i64,.int .i64,.int .i64,.int .i64] [.snap kWay] (n,f,i,j,()) post=Z75  n f i j post:=by kernel_rfl
theorem Zyn:Zhm.holds Tryz.prog RbG 83 :=
 Zq (detP Zq0 Z8 nHn Zul (F:=fun x post=>Z75  x.1 x.2.1 x.2.2.1 x.2.2.2.1 post) (fun x post=>Zum x.1 x.2.1 x.2.2.1 x.2.2.2.1 post) fun x h _=>Z11t  x.1 x.2.1 x.2.2.1 x.2.2.2.1 h)
def Zjx:Con:=Con.nam [.int .i64,.int .i64] [.snap (.int .i64)] (fun x=>Zy0 x.1 x.2.1) (fun x=>Zxz x.1 x.2.1)
def Zjy:Cx:=⟨Zf Zi,Zg [],RbG⟩
theorem Zs5:CxOk Tryz.prog Zjy:=⟨Z4 Z7,fun f c h=>by cases h⟩
theorem Zyo:FnAt Tryz.prog 85 Tryz.f85.ntmps Tryz.f85.results.toList (Tryz.f85.body.getD .skip):=⟨Tryz.f85,Tryz.func85,rfl,rfl,by simp,by decide⟩
theorem Zyp (n:Int) (a:Int) (post:Int × Unit→Prop):Za Zjy nHn Tryz.f85.ntmps Tryz.f85.results.toList (Tryz.f85.body.getD .skip) [.int .i64,.int .i64] [.snap (.int .i64)] (n,a,()) post=Zd0  n a post:=by kernel_rfl
theorem Z11w:Zjx.holds Tryz.prog RbG 85 :=
 Zq (detP Zs5 Z8 nHn Zyo (F:=fun x post=>Zd0  x.1 x.2.1 post) (fun x post=>Zyp x.1 x.2.1 post) fun x h _=>Z158  x.1 x.2.1 h)
end Go.Lift

namespace Go.Lift
open Go.Proofs
def Z9f:Con:=Con.nam [.int .i64,.int .i64,.int .i64] [.snap (.int .i64),.snap (.int .i64)] (fun x=>III x.1 x.2.1 x.2.2.1) (fun x=>Z1k x.1 x.2.1 x.2.2.1)
def Zfq:Hn:={ loops:=Z2b [(13,{ ls:=[(.slot 98,.data (.int .i64))],os:=[] })],joins:=fun _=>none,named:=true }
def Zho:Cx:=⟨Zf Zi,Zg [(79,Z74),(80,Zn3),(82,Zci),(81,Zhk),(83,Zhm),(84,Z7c),(86,Zfn),(85,Zjx)],RbG⟩
theorem Zq1:CxOk Tryz.prog Zho:=⟨Z4 Z7,Z6 ⟨Zaq,Z159,Zpy,Zym,Zyn,Zdr,Zuh,Z11w,trivial⟩⟩
theorem Zun:FnAt Tryz.prog 35 Tryz.f35.ntmps Tryz.f35.results.toList (Tryz.f35.body.getD .skip):=⟨Tryz.f35,Tryz.func35,rfl,rfl,by simp,by decide⟩
theorem Zuo (n:Int) (c:Int) (o:Int) (post:Int × Int × Unit→Prop):Za Zho Zfq Tryz.f35.ntmps Tryz.f35.results.toList (Tryz.f35.body.getD .skip) [.int .i64,.int .i64,.int .i64] [.snap (.int .i64),.snap (.int .i64)] (n,c,o,()) post=Zar 105 111 109 n c o post:=by kernel_rfl
theorem Zhp:Z9f.holds Tryz.prog RbG 35 :=
 Zq (detP Zq1 Z8 Zfq Zun (F:=fun x post=>Zar 105 111 109 x.1 x.2.1 x.2.2.1 post) (fun x post=>Zuo x.1 x.2.1 x.2.2.1 post) fun x h _=>Z11r 105 111 109 x.1 x.2.1 x.2.2.1 h)
end Go.Lift

namespace Go.Lift
def Zat:=fun (n c:Int) (post:(Nat × Nat × Nat) × Bool × Unit→Prop)=>∃ (h:II n c),Br (!(Z2 n c).snd.snd.snd.fst) (post (((0:Nat),(0:Nat),(0 :
 Nat)),false,())) (∃ (h:Zff (i64.wrap (i64.wrap (i64.wrap ((2:Int)*(Z2 n c).snd.fst)+(1:Int)) - n)) n),∃ (h:Zff
 (i64.wrap (i64.wrap (i64.wrap ((2:Int)*(Z2 n c).snd.snd.fst)+(1:Int)) - n)) n),∃ (h:Zxr (Z2 n c).fst (Z2u (i64.wrap
 (i64.wrap (i64.wrap ((2:Int)*(Z2 n c).snd.fst)+(1:Int)) - n)) n).fst (Z2u (i64.wrap (i64.wrap (i64.wrap ((2:Int) *
 (Z2 n c).snd.snd.fst)+(1:Int)) - n)) n).fst),post (((Zc8 (Z2 n c).fst (Z2u (i64.wrap (i64.wrap (i64.wrap ((2:Int)*(Z2 n
 c).snd.fst)+(1:Int)) - n)) n).fst (Z2u (i64.wrap (i64.wrap (i64.wrap ((2:Int)*(Z2 n c).snd.snd.fst)+(1:Int)) - n)) n).fst).fst.fst,
 (Zc8 (Z2 n c).fst (Z2u (i64.wrap (i64.wrap (i64.wrap ((2:Int)*(Z2 n c).snd.fst)+(1:Int)) - n)) n).fst (Z2u (i64.wrap
 (i64.wrap (i64.wrap ((2:Int)*(Z2 n c).snd.snd.fst)+(1:Int)) - n)) n).fst).fst.snd.fst,(Zc8 (Z2 n c).fst (Z2u (i64.wrap
 (i64.wrap (i64.wrap ((2:Int)*(Z2 n c).snd.fst)+(1:Int)) - n)) n).fst (Z2u (i64.wrap (i64.wrap (i64.wrap ((2:Int) *
 (Z2 n c).snd.snd.fst)+(1:Int)) - n)) n).fst).fst.snd.snd),true,()))
theorem Z11x (n:Int) (c:Int) (h:II n c):Zat  n c (fun r=>r=Z6x n c):=by
 refine ⟨h,?_⟩
 by_cases ok:Zh n c=true
 ·rw [Zm2 ok]
  obtain ⟨n1,n2,f0,f5,i0,i1,j0,j1⟩:=Z3f ok
  dsimp only
  refine Br.intro (fun e=>absurd e (by decide)) fun _=>?_
  have w1:i64.wrap (i64.wrap (i64.wrap (2*(c % n))+1) - n)=2*(c % n)+1 - n:=by
   rw [wi (x:=2*(c % n)) ⟨by omega,by omega⟩,wi (x:=2*(c % n)+1) ⟨by omega,by omega⟩,wi ⟨by omega,by omega⟩]
  have w2:i64.wrap (i64.wrap (i64.wrap (2*(c / n % n))+1) - n)=2*(c / n % n)+1 - n:=by
   rw [wi (x:=2*(c / n % n)) ⟨by omega,by omega⟩,wi (x:=2*(c / n % n)+1) ⟨by omega,by omega⟩,wi ⟨by omega,by omega⟩]
  rw [w1,w2]
  refine ⟨⟨⟨by omega,by omega⟩,n1,h.1⟩,⟨⟨by omega,by omega⟩,n1,h.1⟩,⟨f0,f5,Za9 _ _,Za9 _ _⟩,?_⟩
  unfold Z6x; rw [if_pos ok]; rfl
 ·rw [Z186 ok]
  refine Br.intro (fun _=>?_) fun e=>absurd e (by decide)
  unfold Z6x; rw [if_neg ok]
def Zau:=fun (n c o:Int) (post:Nat × Unit→Prop)=>∃ (h:II n c),∃ (h:(List.replicate (4:Nat) ((K.flt f64).pair ((K.flt f64).pair
 (K.flt f64))).dflt).length=(4:Nat)∧(Zp n c).fst.length=(4:Nat)),Br (!(Zp n c).snd.fst) (post ((0:Nat),())) (∀ (a:Bool),a=decide (o<(0
 : Int))→Br a (post ((0:Nat),())) (∀ (a:Bool),a=decide (o > (3:Int))→Br a (post ((0:Nat),())) (∃ (h:(0:Int)≤o∧o<(↑(4:Nat):Int)),∃ (h :
 (List.replicate (2:Nat) (0:Int)).length=(2:Nat)∧List.length ([[(1:Int),(2:Int)],[(3:Int),(2:Int)],[(0:Int),(3:Int)],[(0:Int),(1:Int)]].getD
 o.toNat (K.arr (2:Nat) (K.int i64)).dflt)=(2:Nat)),∃ (h:(0:Int)≤(0:Int)∧(0:Int)<(↑(2:Nat):Int)∧(2:Nat)≤List.length ([[(1:Int),(2:Int)],
 [(3:Int),(2:Int)],[(0:Int),(3:Int)],[(0:Int),(1:Int)]].getD o.toNat (K.arr (2:Nat) (K.int i64)).dflt)),∃ (h:(0:Int)≤List.getD ([[(1:Int),(2 :
 Int)],[(3:Int),(2:Int)],[(0:Int),(3:Int)],[(0:Int),(1:Int)]].getD o.toNat (K.arr (2:Nat) (K.int i64)).dflt) (Int.toNat (0:Int)) (0:Int)∧List.getD
 ([[(1:Int),(2:Int)],[(3:Int),(2:Int)],[(0:Int),(3:Int)],[(0:Int),(1:Int)]].getD o.toNat (K.arr (2:Nat) (K.int i64)).dflt) (Int.toNat (0:Int)) (0
 : Int)<(↑(4:Nat):Int)∧(4:Nat)≤(Zp n c).fst.length),∃ (h:(0:Int)≤(1:Int)∧(1:Int)<(↑(2:Nat):Int)∧(2:Nat)≤List.length ([[(1:Int),(2 :
 Int)],[(3:Int),(2:Int)],[(0:Int),(3:Int)],[(0:Int),(1:Int)]].getD o.toNat (K.arr (2:Nat) (K.int i64)).dflt)),∃ (h:(0:Int)≤List.getD ([[(1 :
 Int),(2:Int)],[(3:Int),(2:Int)],[(0:Int),(3:Int)],[(0:Int),(1:Int)]].getD o.toNat (K.arr (2:Nat) (K.int i64)).dflt) (Int.toNat (1:Int)) (0:Int)
 ∧ List.getD ([[(1:Int),(2:Int)],[(3:Int),(2:Int)],[(0:Int),(3:Int)],[(0:Int),(1:Int)]].getD o.toNat (K.arr (2:Nat) (K.int i64)).dflt) (Int.toNat
 (1:Int)) (0:Int)<(↑(4:Nat):Int)∧(4:Nat)≤(Zp n c).fst.length),∃ (h:WV2 ((Zp n c).fst.getD (Int.toNat (List.getD ([[(1:Int),(2:Int)],[(3:Int),
 (2:Int)],[(0:Int),(3:Int)],[(0:Int),(1:Int)]].getD o.toNat (K.arr (2:Nat) (K.int i64)).dflt) (Int.toNat (0:Int)) (0:Int))) ((K.flt
 f64).pair ((K.flt f64).pair (K.flt f64))).dflt) ((Zp n c).fst.getD (Int.toNat (List.getD ([[(1:Int),(2:Int)],[(3:Int),(2 :
 Int)],[(0:Int),(3:Int)],[(0:Int),(1:Int)]].getD o.toNat (K.arr (2:Nat) (K.int i64)).dflt) (Int.toNat (1:Int)) (0:Int))) ((K.flt f64).pair
 ((K.flt f64).pair (K.flt f64))).dflt)),post ((gapR ((Zp n c).fst.getD (Int.toNat (List.getD ([[(1:Int),(2:Int)],[(3:Int),(2:Int)],[(0
 : Int),(3:Int)],[(0:Int),(1:Int)]].getD o.toNat (K.arr (2:Nat) (K.int i64)).dflt) (Int.toNat (0:Int)) (0:Int))) ((K.flt f64).pair ((K.flt
 f64).pair (K.flt f64))).dflt) ((Zp n c).fst.getD (Int.toNat (List.getD ([[(1:Int),(2:Int)],[(3:Int),(2:Int)],[(0:Int),(3:Int)],
 [(0:Int),(1:Int)]].getD o.toNat (K.arr (2:Nat) (K.int i64)).dflt) (Int.toNat (1:Int)) (0:Int))) ((K.flt f64).pair ((K.flt f64).pair
 (K.flt f64))).dflt)).fst,()))))
theorem Z11y (n:Int) (c:Int) (o:Int) (h:III n c o):Zau  n c o (fun r=>r=Zfh n c o):=by
 have cl:=Zto n c
 refine ⟨⟨h.1,h.2.1⟩,⟨rfl,cl⟩,?_⟩
 have no:Zn n c o=false→((0:Nat),())=Zfh n c o:=fun q=>congrArg r1 (by unfold Zet; rw [if_neg (by rw [q]; decide)])
 rw [Zm0]
 refine Br.intro (fun e=>no ?_) fun e=>?_
 ·unfold Zn; rw [show Zh n c=false by simpa using e]; rfl
 have ok:Zh n c=true:=by simpa using e
 rintro _ rfl
 refine Br.intro (fun e=>no ?_) fun e=>?_
 ·have e:=of_decide_eq_true e
  unfold Zn; rw [decide_eq_false (p:=0≤o) (by omega)]; simp
 have o0:=of_decide_eq_false e
 rintro _ rfl
 refine Br.intro (fun e=>no ?_) fun e=>?_
 ·have e:=of_decide_eq_true e
  unfold Zn; rw [decide_eq_false (p:=o<4) (by omega)]; simp
 have o4:=of_decide_eq_false e
 have o0:0≤o:=by omega
 have o4:o<4:=by omega
 have okb:Zn n c o=true:=by unfold Zn; rw [ok,decide_eq_true o0,decide_eq_true o4]; rfl
 have hc:∀ i:Int,0≤i→i≤3→(Zp n c).1.getD i.toNat ((K.flt f64).pair ((K.flt f64).pair (K.flt f64))).dflt=Zee n c i:=fun i a b=>Z1fp ok a b _
 have c0:=hc 0 (by decide) (by decide)
 have c1:=hc 1 (by decide) (by decide)
 have c2:=hc 2 (by decide) (by decide)
 have c3:=hc 3 (by decide) (by decide)
 have fin:∀ A B:Nat × Nat × Nat,A=Zee n c (endA o)→B=Zee n c (endB o)→(gapQ A B,())=Zfh n c o:=by
  intro A B hA hB
  rw [hA,hB]; exact congrArg r1 (by unfold Zet; rw [if_pos okb])
 have wA:∀ i,WV (Zee n c i):=Z1j3 n c
 generalize hQ:(Zp n c).fst=Q at *
 rcases Z12 o0 o4 with rfl | rfl | rfl | rfl
 ·exact ⟨⟨by decide,by decide⟩,⟨rfl,rfl⟩,⟨by decide,by decide,by decide⟩,⟨by decide,by decide,Nat.le_of_eq cl.symm⟩,⟨by decide,by decide,by decide⟩,⟨by decide,by decide,Nat.le_of_eq cl.symm⟩,⟨c1 ▸ wA 1,c2 ▸ wA 2⟩,fin _ _ c1 c2⟩
 ·exact ⟨⟨by decide,by decide⟩,⟨rfl,rfl⟩,⟨by decide,by decide,by decide⟩,⟨by decide,by decide,Nat.le_of_eq cl.symm⟩,⟨by decide,by decide,by decide⟩,⟨by decide,by decide,Nat.le_of_eq cl.symm⟩,⟨c3 ▸ wA 3,c2 ▸ wA 2⟩,fin _ _ c3 c2⟩
 ·exact ⟨⟨by decide,by decide⟩,⟨rfl,rfl⟩,⟨by decide,by decide,by decide⟩,⟨by decide,by decide,Nat.le_of_eq cl.symm⟩,⟨by decide,by decide,by decide⟩,⟨by decide,by decide,Nat.le_of_eq cl.symm⟩,⟨c0 ▸ wA 0,c3 ▸ wA 3⟩,fin _ _ c0 c3⟩
 ·exact ⟨⟨by decide,by decide⟩,⟨rfl,rfl⟩,⟨by decide,by decide,by decide⟩,⟨by decide,by decide,Nat.le_of_eq cl.symm⟩,⟨by decide,by decide,by decide⟩,⟨by decide,by decide,Nat.le_of_eq cl.symm⟩,⟨c0 ▸ wA 0,c1 ▸ wA 1⟩,fin _ _ c0 c1⟩
def Ziz:=fun (n c o:Int) (post:Nat × Unit→Prop)=>∃ (h:III n c o),∀ (a:Int × Int × Unit),a=Z1k n c o→∃ (h:II n c),∀ (a_1:(Nat × Nat × Nat) × Bool
 × Unit),a_1=Z6x n c→∃ (h:II n a.fst),∀ (a_2:(Nat × Nat × Nat) × Bool × Unit),a_2=Z6x n a.fst→Br (!a_1.snd.fst) (post ((0:Nat),())) (Br (!a_2.snd.fst)
 (post ((0:Nat),())) (∃ (h:WV2 (a_1.fst.fst,a_1.fst.snd.fst,a_1.fst.snd.snd) (a_2.fst.fst,a_2.fst.snd.fst,a_2.fst.snd.snd)),post ((gapR (a_1.fst.fst,a_1.fst.snd.fst,
 a_1.fst.snd.snd) (a_2.fst.fst,a_2.fst.snd.fst,a_2.fst.snd.snd)).fst,())))
theorem Z1aa (n:Int) (c:Int) (o:Int) (h:III n c o):Ziz  n c o (fun r=>r=Z1cu n c o):=by
 have br:=Zy4 n c o
 refine ⟨h,?_⟩
 rintro ⟨b,q,⟨⟩⟩ hb
 have eb:b=(Z3 n c o).1:=congrArg Prod.fst hb
 rw [← eb] at br
 refine ⟨⟨h.1,h.2.1⟩,?_⟩
 rintro ⟨⟨A1,A2,A3⟩,p,⟨⟩⟩ hA
 refine ⟨⟨h.1,by omega,by omega⟩,?_⟩
 rintro ⟨⟨B1,B2,B3⟩,r,⟨⟩⟩ hB
 have hA:((A1,A2,A3),p,())=Z6x n c:=hA
 have hB:((B1,B2,B3),r,())=Z6x n b:=hB
 have key:∀ z,Z6x n z=if Zh n z then (Zjn n z,true,()) else ((0,0,0),false,()):=fun z=>rfl
 have bt:∀ {z:Bool},z=true→¬ (!z)=true:=fun {z} e=>by rw [e]; decide
 have bf:∀ {z:Bool},z=false→¬ (!z)=false:=fun {z} e=>by rw [e]; decide
 by_cases o1:Zh n c=true
 ·rw [key,if_pos o1] at hA
  obtain ⟨eA,e1⟩:=Prod.mk.inj hA
  have ep:p=true:=congrArg Prod.fst e1
  refine Br.intro (fun e=>absurd e (bt ep)) fun _=>?_
  by_cases o2:Zh n b=true
  ·rw [key,if_pos o2] at hB
   obtain ⟨eB,e2⟩:=Prod.mk.inj hB
   have er:r=true:=congrArg Prod.fst e2
   refine Br.intro (fun e=>absurd e (bt er)) fun _=>?_
   have hw:WV2 (A1,A2,A3) (B1,B2,B3):=⟨by rw [eA]; exact Z14h _ _,by rw [eB]; exact Z14h _ _⟩
   have hg:gapQ (A1,A2,A3) (B1,B2,B3)=gapG n c o:=by
    rw [eA,eB]; unfold gapG; rw [← eb,o1,o2,if_pos (by decide)]
   exact ⟨hw,congrArg r1 hg⟩
  ·rw [key,if_neg o2] at hB
   obtain ⟨eB,e2⟩:=Prod.mk.inj hB
   have er:r=false:=congrArg Prod.fst e2
   refine Br.intro (fun _=>congrArg r1 ?_) fun e=>absurd e (bf er)
   unfold gapG; rw [← eb,o1,show Zh n b=false by simpa using o2]; rfl
 ·rw [key,if_neg o1] at hA
  obtain ⟨eA,e1⟩:=Prod.mk.inj hA
  have ep:p=false:=congrArg Prod.fst e1
  refine Br.intro (fun _=>congrArg r1 ?_) fun e=>absurd e (bf ep)
  unfold gapG; rw [show Zh n c=false by simpa using o1]; rfl
end Go.Lift
