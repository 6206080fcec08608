/- A part of the proof of RiverKeepsCard: an own lifter of code into plain terms, and plain laws. -/
import Derived.Laws.Externs
import Derived.Test.YtplhligfkbgllaaGreatDoorProg
import Derived.LaidMore
import Derived.MakeChecks
import Derived.Test.YtplhligfkbgllaaGreatDoorRows
import Derived.ProofKit
import Derived.SevenTiedAt
import Derived.Test.YtplhligfkbgllaaGreatDoorPtC
set_option linter.unusedVariables false
set_option linter.unusedSimpArgs false
set_option linter.unusedSectionVars false
open Go.IntKind (i64 u64 u32 u8)
open Go.FloatKind (f64 f32)
namespace Go.Lift
abbrev at0 (xs:List Int) (i:Nat):Int:=xs.getD i 0
theorem Z9c {xs:List Int} {i j:Nat} {v:Int} (hi:i<xs.length):at0 (xs.set i v) j=if j=i then v else at0 xs j:=by
 unfold at0
 by_cases e:j=i
 ·subst e; rw [if_pos rfl]; rw [List.getD_eq_getElem?_getD,List.getElem?_set,if_pos rfl,if_pos hi]; rfl
 ·rw [if_neg e,List.getD_eq_getElem?_getD,List.getElem?_set,if_neg (fun q=>e q.symm),← List.getD_eq_getElem?_getD]
theorem Zo9 {xs ys:List Int} (hl:xs.length=ys.length) (h:∀ i,i<xs.length→at0 xs i=at0 ys i):xs=ys:=by
 apply List.ext_getElem hl
 intro i h1 h2
 have:=h i h1
 unfold at0 at this
 rw [List.getD_eq_getElem?_getD,List.getD_eq_getElem?_getD,List.getElem?_eq_getElem h1,List.getElem?_eq_getElem h2] at this
 exact this
def swp (xs:List Int) (i j:Nat):List Int:=(xs.set i (at0 xs j)).set j (at0 xs i)
theorem Zoa (xs:List Int) (i j:Nat):(swp xs i j).length=xs.length:=by unfold swp; rw [List.length_set,List.length_set]
theorem Z5z {xs:List Int} {i j p:Nat} (hi:i<xs.length) (hj:j<xs.length):at0 (swp xs i j) p=if p=j then at0 xs i else if p=i then at0 xs j else at0 xs p:=by
 unfold swp
 rw [Z9c (by rw [List.length_set]; exact hj),Z9c hi]
theorem Zd5 {xs:List Int} {i:Nat} (hi:i<xs.length):at0 xs i=xs[i]:=by
 unfold at0; rw [List.getD_eq_getElem?_getD,List.getElem?_eq_getElem hi]; rfl
theorem Z12t {xs:List Int} {i j:Nat} (hi:i<xs.length) (hj:j<xs.length):(swp xs i j).Perm xs:=by
 unfold swp
 rw [Zd5 hi,Zd5 hj]
 exact List.set_set_perm hi hj
def Z2l (xs:List Int) (σ:Nat→Nat):List Int:=(List.range xs.length).map fun p=>at0 xs (σ p)
theorem Z1r (xs:List Int) (σ:Nat→Nat):(Z2l xs σ).length=xs.length:=by unfold Z2l; rw [List.length_map,List.length_range]
theorem Z2u {xs:List Int} {σ:Nat→Nat} {p:Nat} (h:p<xs.length):at0 (Z2l xs σ) p=at0 xs (σ p):=by
 unfold Z2l
 rw [show at0 ((List.range xs.length).map fun p=>at0 xs (σ p)) p=(((List.range xs.length).map fun p=>at0 xs (σ p))[p]?).getD 0 from List.getD_eq_getElem?_getD ..,List.getElem?_map,List.getElem?_range h]; rfl
theorem Zpw {xs:List Int} {σ τ υ:Nat→Nat} (hτ:∀ p,p<xs.length→τ p<xs.length) (h:∀ p,p<xs.length→σ (τ p)=υ p):Z2l (Z2l xs σ) τ=Z2l xs υ:=by
 refine Zo9 (by rw [Z1r,Z1r,Z1r]) fun i hi=>?_
 rw [Z1r,Z1r] at hi
 rw [Z2u (by rw [Z1r]; exact hi),Z2u (hτ i hi),Z2u hi,h i hi]
theorem Z12u {xs:List Int} {σ:Nat→Nat} (h:∀ p,p<xs.length→σ p=p):Z2l xs σ=xs :=
 Zo9 (Z1r _ _) fun i hi=>by rw [Z1r] at hi; rw [Z2u hi,h i hi]
def swI (a b n p:Nat):Nat:=if a≤p∧p<a+n then b+(p - a) else if b≤p∧p<b+n then a+(p - b) else p
def rotI (a m b p:Nat):Nat:=if a≤p∧p<a+(b - m) then m+(p - a) else if a+(b - m)≤p∧p<b then a+(p - (a+(b - m))) else p
theorem Z1bo (a b p:Nat):swI a b 0 p=p:=by unfold swI; (repeat' split) <;> omega
theorem Z1a0 {xs:List Int} {a b n:Nat} (h:a+n<b) (hb:b+n<xs.length):swp (Z2l xs (swI a b n)) (a+n) (b+n)=Z2l xs (swI a b (n+1)):=by
 refine Zo9 (by rw [Zoa,Z1r,Z1r]) fun i hi=>?_
 rw [Zoa,Z1r] at hi
 rw [Z5z (i:=a+n) (j:=b+n) (by rw [Z1r]; omega) (by rw [Z1r]; omega),Z2u (p:=a+n) (by omega),Z2u (p:=b+n) (by omega),Z2u hi,Z2u hi]
 by_cases e1:i=b+n
 ·subst e1
  rw [if_pos rfl]
  congr 1
  unfold swI
  (repeat' split) <;> omega
 rw [if_neg e1]
 by_cases e2:i=a+n
 ·subst e2
  rw [if_pos rfl]
  congr 1
  unfold swI
  (repeat' split) <;> omega
 rw [if_neg e2]
 congr 1
 unfold swI
 (repeat' split) <;> omega
theorem Z1bp {m i j:Nat} (h0:0<j) (h:j<i) (hm:i≤m) (p:Nat):swI (m - i) m j (rotI (m - (i - j)) m (m+j) p)=rotI (m - i) m (m+j) p:=by
 unfold rotI
 (repeat' split) <;> unfold swI <;> (repeat' split) <;> omega
theorem Z1bq {m i j:Nat} (h0:0<i) (h:i<j) (hm:i≤m) (p:Nat):swI (m - i) (m+j - i) i (rotI (m - i) m (m+(j - i)) p)=rotI (m - i) m (m+j) p:=by
 unfold rotI
 (repeat' split) <;> unfold swI <;> (repeat' split) <;> omega
theorem Z1br {m i:Nat} (h0:0<i) (hm:i≤m) (p:Nat):swI (m - i) m i p=rotI (m - i) m (m+i) p:=by
 unfold swI rotI
 repeat' split
 all_goals omega
theorem Zwe {a m b n p:Nat} (h1:a≤m) (h2:m≤b) (h3:b≤n) (h:p<n):rotI a m b p<n:=by
 unfold rotI; (repeat' split) <;> omega
section
variable (kf:Int→Int)
def Stb (xs:List Int):Prop:=∀ i j,i<j→j<xs.length→kf (at0 xs i)=kf (at0 xs j)→at0 xs i<at0 xs j
def Sgm (xs:List Int) (a b:Nat):Prop:=∀ i j,a≤i→i<j→j<b→kf (at0 xs i)≤kf (at0 xs j)
structure Rr (a b:Nat) (xs ys:List Int):Prop where
 perm:ys.Perm xs
 len:ys.length=xs.length
 out:∀ i,i<a∨b≤i→at0 ys i=at0 xs i
 ins:∀ P:Int→Prop,(∀ i,a≤i→i<b→P (at0 xs i))→∀ i,a≤i→i<b→P (at0 ys i)
 st:Stb kf xs→Stb kf ys
variable {kf}
theorem Rr.refl (a b:Nat) (xs:List Int):Rr kf a b xs xs:=⟨.refl _,rfl,fun _ _=>rfl,fun P h=>h,fun h=>h⟩
theorem Rr.trans {a b:Nat} {xs ys zs:List Int} (h:Rr kf a b xs ys) (g:Rr kf a b ys zs):Rr kf a b xs zs :=
 ⟨g.perm.trans h.perm,g.len.trans h.len,fun i hi=>(g.out i hi).trans (h.out i hi),fun P hP=>g.ins P (h.ins P hP),fun q=>g.st (h.st q)⟩
theorem Rr.wide {a b a' b':Nat} {xs ys:List Int} (h:Rr kf a b xs ys) (h1:a'≤a) (h2:b≤b'):Rr kf a' b' xs ys :=
 ⟨h.perm,h.len,fun i hi=>h.out i (by omega),fun P hP i i1 i2=>by
  by_cases q:a≤i∧i<b
  ·exact h.ins P (fun i i1 i2=>hP i (by omega) (by omega)) i q.1 q.2
  ·rw [h.out i (by omega)]; exact hP i i1 i2,h.st⟩
theorem Rr.sgm {a b c d:Nat} {xs ys:List Int} (h:Rr kf a b xs ys) (hs:Sgm kf xs c d) (hd:d≤a∨b≤c):Sgm kf ys c d:=fun i j h1 h2 h3=>by
 rw [h.out i (by omega),h.out j (by omega)]; exact hs i j h1 h2 h3
theorem Sgm.sub {a b a' b':Nat} {xs:List Int} (h:Sgm kf xs a b) (h1:a≤a') (h2:b'≤b):Sgm kf xs a' b':=fun i j g1 g2 g3=>h i j (by omega) g2 (by omega)
theorem Sgm.one {a b:Nat} {xs:List Int} (h:b≤a+1):Sgm kf xs a b:=fun i j g1 g2 g3=>by omega
theorem Z12v {xs:List Int} {i a b:Nat} (h1:a≤i) (h2:i+1<b) (h3:i+1<xs.length) (hlt:kf (at0 xs (i+1))<kf (at0 xs i)):Rr kf a b xs (swp xs (i+1) i) where
 perm:=Z12t h3 (by omega)
 len:=Zoa _ _ _
 out p hp:=by rw [Z5z h3 (by omega),if_neg (by omega),if_neg (by omega)]
 ins P hP p p1 p2:=by
  rw [Z5z h3 (by omega)]
  split
  ·exact hP _ (by omega) (by omega)
  ·split
   ·exact hP _ (by omega) (by omega)
   ·exact hP _ p1 p2
 st hs p q hpq hq he:=by
  rw [Zoa] at hq
  rw [Z5z h3 (by omega),Z5z h3 (by omega)] at he ⊢
  by_cases e1:p=i
  ·subst e1
   rw [if_pos rfl] at he ⊢
   by_cases e2:q=p+1
   ·subst e2
    rw [if_neg (by omega),if_pos rfl] at he
    omega
   ·rw [if_neg (by omega),if_neg e2] at he ⊢
    exact hs _ _ (by omega) hq he
  rw [if_neg e1] at he ⊢
  by_cases e2:p=i+1
  ·subst e2
   rw [if_pos rfl,if_neg (by omega),if_neg (by omega)] at he ⊢
   exact hs _ _ (by omega) hq he
  rw [if_neg e2] at he ⊢
  by_cases e3:q=i
  ·subst e3
   rw [if_pos rfl] at he ⊢
   exact hs _ _ (by omega) (by omega) he
  rw [if_neg e3] at he ⊢
  by_cases e4:q=i+1
  ·subst e4
   rw [if_pos rfl] at he ⊢
   exact hs _ _ (by omega) (by omega) he
  rw [if_neg e4] at he ⊢
  exact hs _ _ hpq hq he
theorem Z1e0 {xs ys:List Int} {a m b:Nat} (h1:a≤m) (h2:m≤b) (h3:b≤xs.length) (hp:ys.Perm xs) (he:ys=Z2l xs (rotI a m b)) (hlt:∀ i j,a≤i→i<m→m≤j→j<b→kf (at0 xs j)<kf (at0 xs i)):Rr kf a b xs ys where
 perm:=hp
 len:=by rw [he,Z1r]
 out p hp':=by
  subst he
  rcases Nat.lt_or_ge p xs.length with g | g
  ·rw [Z2u g]; congr 1; unfold rotI; rw [if_neg (by omega),if_neg (by omega)]
  ·unfold at0
   rw [List.getD_eq_getElem?_getD,List.getD_eq_getElem?_getD,List.getElem?_eq_none (by rw [Z1r]; exact g),List.getElem?_eq_none g]
 ins P hP p p1 p2:=by
  subst he
  rw [Z2u (p:=p) (by omega)]
  refine hP _ ?_ ?_ <;> unfold rotI <;> (repeat' split) <;> omega
 st hs p q hpq hq hk:=by
  subst he
  rw [Z1r] at hq
  rw [Z2u (p:=p) (by omega),Z2u hq] at hk ⊢
  have key:rotI a m b p<rotI a m b q∨(m≤rotI a m b p∧rotI a m b p<b∧a≤rotI a m b q∧rotI a m b q<m):=by
   unfold rotI; (repeat' split) <;> omega
  rcases key with key | ⟨k1,k2,k3,k4⟩
  ·exact hs _ _ key (Zwe h1 h2 h3 hq) hk
  ·have:=hlt _ _ k3 k4 k1 k2
   omega
end
end Go.Lift

namespace Go.Lift
theorem Z2a.one {w w':World} {k:K} {x:k.T} {v:Value} {ok:Nat→Prop} (h:∀ fr,KRep w' fr k x v):Z2a w w' ok [.snap k] (x,()) v :=
 ⟨[v],[],rfl,fun i j b h=>by simp at h,v,[],[],[],rfl,rfl,⟨rfl,h _⟩,rfl,rfl⟩
section
variable {P:Program} {G:Z6a} {f:FuncId} {fn:Func} (hf:P.funcs[f]?=some fn) (hname:(fn.name == "runtime.NumGoroutine")=false) (hb:fn.body.isNone=true) (hn:Extern.findNext fn=none)
include hf hname hb hn
theorem Z17f (he:Extern.find fn=some Extern.MathFloatBits.float64bits):(Con.det [.flt .f64] [.snap (.int .u64)] (fun _=>True) (fun x=>Z77 x.1)).holds P G f:=by
 have main:∀ (w:World) (ok:Nat→Prop) (b:Nat) (vs:List Value),vs=[.float .f64 b]→Z26 P f vs.toArray w fun v w'=>Grows w w'∧Z2a w w' ok [.snap (.int .u64)] (Z77 b) v:=by
  rintro w ok b _ rfl
  refine .inl ⟨.int .u64 b,w,?_,Grows.refl w,Z2a.one fun _=>rfl⟩
  rw [run_callFunc_extern hf hname hb hn he]; rfl
 rintro w ok _ ⟨b,⟨⟩⟩ vs ⟨v,r,rfl,h1,rfl⟩ _ _
 exact main w ok b _ h1
theorem Z17g (he:Extern.find fn=some Extern.MathFloatBits.float64frombits):(Con.det [.int .u64] [.snap (.flt .f64)] (fun _=>True) (fun x=>Zo1 x.1)).holds P G f:=by
 have main:∀ (w:World) (ok:Nat→Prop) (b:Int) (vs:List Value),vs=[.int .u64 b]→Z26 P f vs.toArray w fun v w'=>Grows w w'∧Z2a w w' ok [.snap (.flt .f64)] (Zo1 b) v:=by
  rintro w ok b _ rfl
  refine .inl ⟨.float .f64 b.toNat,w,?_,Grows.refl w,Z2a.one fun _=>rfl⟩
  rw [run_callFunc_extern hf hname hb hn he]; rfl
 rintro w ok _ ⟨b,⟨⟩⟩ vs ⟨v,r,rfl,h1,rfl⟩ _ _
 exact main w ok b _ h1
theorem Z1bs (he:Extern.find fn=some Extern.MathSqrt.sqrt) {ne}:(Con.rel [.flt .f64] [.snap (.flt .f64)] (fun _=>True) (fun x r=>Zf6 x.1 r) ne).holds P G f:=by
 have main:∀ (w:World) (ok:Nat→Prop) (b:Nat) (vs:List Value),vs=[.float .f64 b]→Z26 P f vs.toArray w fun v w'=>∃ r:RS [.snap (.flt .f64)],Zf6 b r∧Grows w w'∧Z2a w w' ok [.snap (.flt .f64)] r v:=by
  rintro w ok b _ rfl
  have e:Extern.MathSqrt.sqrt [Value.float .f64 b].toArray=(match f64.format.sqrt b with
   | some r=>pure (.float .f64 r)
   | none=>do pure (.float .f64 (← choose (.nanBits .f64 b b)))):=rfl
  have key:∀ (r:Nat) (w':World),FRes .f64 (f64.format.sqrt b) r→Grows w w'→(Extern.MathSqrt.sqrt [Value.float .f64 b].toArray).run P w=.ok (.float .f64 r) w' →
    Z26 P f [Value.float .f64 b].toArray w fun v w'=>∃ r:RS [.snap (.flt .f64)],Zf6 b r∧Grows w w'∧Z2a w w' ok [.snap (.flt .f64)] r v:=by
   intro r w' hr hg hrun
   refine .inl ⟨.float .f64 r,w',?_,(r,()),Z1e7 hr,hg,Z2a.one fun _=>rfl⟩
   rw [run_callFunc_extern hf hname hb hn he,hrun]; rfl
  cases hs:f64.format.sqrt b with
  | some r=>exact key r w (by rw [hs]; rfl) (Grows.refl w) (by rw [e,hs]; rfl)
  | none =>
   refine key ((Question.nanBits .f64 b b).cut (w.tape w.drawn (.nanBits .f64 b b))) w.drew (by rw [hs]; exact Z154 _ _ _ _) (Grows.drew w) ?_
   have hq:(Question.nanBits .f64 b b).forced=false:=rfl
   rw [e,hs]
   simp [hq]
 rintro w ok _ ⟨b,⟨⟩⟩ vs ⟨v,r,rfl,h1,rfl⟩ _ _
 exact main w ok b _ h1
end
end Go.Lift

namespace Go.Lift
section
variable {P:Program} {G:Z6a} {f:FuncId} {fn:Func} (hf:P.funcs[f]?=some fn) (hname:(fn.name == "runtime.NumGoroutine")=false) (hb:fn.body.isNone=true) (hn:Extern.findNext fn=none)
include hf hname hb hn
theorem Z1a1 (he:Extern.find fn=some (Extern.MathFloor.toIntegral "math.archFloor" .down)):(Con.det [.flt .f64] [.snap (.flt .f64)] (fun x=>WNum x.1) (fun x=>Zaq x.1)).holds P G f:=by
 have main:∀ (w:World) (ok:Nat→Prop) (b:Nat) (vs:List Value),vs=[.float .f64 b]→WNum b→Z26 P f vs.toArray w fun v w'=>Grows w w'∧Z2a w w' ok [.snap (.flt .f64)] (Zaq b) v:=by
  rintro w ok b _ rfl hq
  refine .inl ⟨.float .f64 (Z1l b),w,?_,Grows.refl w,Z2a.one fun _=>rfl⟩
  rw [run_callFunc_extern hf hname hb hn he]
  have e:Extern.MathFloor.toIntegral "math.archFloor" .down [Value.float .f64 b].toArray=pure (.float .f64 (Z1l b)):=by
   show (match Ieee.double.read b with
    | .nan s t=>_
    | d=>pure (Value.float .f64 (f64.encode (d.integral .down))))=_
   have:(Ieee.double.read b).isNaN=false:=(Z182 b).trans hq.2
   unfold Z1l
   cases h:Ieee.double.read b with
   | nan s t=>rw [h] at this; cases this
   | number s m e=>rfl
   | infinity s=>rfl
  rw [e]; rfl
 rintro w ok _ ⟨b,⟨⟩⟩ vs ⟨v,r,rfl,h1,rfl⟩ _ hp
 exact main w ok b _ h1 hp
end
end Go.Lift

namespace Go.Lift
def Zay (cx:Cx) (hn:Hn) (call:Z23) (nt:Nat) (vars:List ResultVar) (code:Code) (args:List EV) (h:List HObj) (k:EV→List HObj→Prop):Prop :=
 Z2y cx hn call code (args++List.replicate (nt - args.length) (.x (.one .junk))) h fun e env h'=>match e with
  | .normal | .ret=>Zcp cx env h' vars fun vs=>k (EV.of vs) h'
  | _=>False
def EvOk (P:Program) (cx:Cx) (f:FuncId) (ev:List EV→List HObj→(EV→List HObj→Prop)→Prop):Prop:=∀ (c:RC) (_:c.Inv) (_:GOk cx.glob c) {args:List EV} {vs:List Value} {k:EV→List HObj→Prop},All2 (EV.rel c) args vs→ev args c.heap k →
 Z26 P f vs.toArray c.w fun v w'=>∃ ev c',k ev c'.heap∧c'.w=w'∧Ext c c'∧c'.Inv∧ev.rel c' v
theorem Z7u {P:Program} {cx:Cx} (hx:CxOk P cx) (hmix:P.follows .mixedOrders=true) {call:Z23} (hcall:Z2j P cx call) {f nt:Nat} {vars:List ResultVar} {code:Code} (hf:FnAt P f nt vars code) (hn:Hn):EvOk P cx f (Zay cx hn call nt vars code):=by
 intro c hi hg args vs k hall h
 unfold Zay at h
 obtain ⟨fu,h1,h2,h3,h4,h5⟩:=hf.ex
 refine .inr ⟨Z88 h1 h2 h5 _ _,calls_of_wp h1 h2 ?_⟩
 have hE:=Zyr hall nt
 rw [← h3] at hE h
 refine Zgb hx hmix hn hcall code (D:=dsts code) (fun t h=>h) hi (a:=⟨_,[]⟩) hg hE h fun e c' env' a' k1 k2 k3 k4 k5=>?_
 have fin:Zcp cx env' c'.heap vars (fun vs=>k (EV.of vs) c'.heap)→a'.defers=[]∧∃ v,(results fu a'.tmps).run P c'.w=.ok v c'.w∧∃ u,Ending.returned v=Ending.returned u∧∃ ev c2,k ev c2.heap∧c2.w=c'.w∧Ext c c2∧c2.Inv∧ev.rel c2 u:=by
  intro hr
  obtain ⟨xs,us,g1,g2,g3⟩:=Zf5 hx.1 k3 k4 vars hr
  obtain ⟨v,ev,hv⟩:=Zgc h4 g3
  exact ⟨k5.defers,v,hv,v,rfl,_,c',g1,rfl,k2,k3,EV.of_rel g2 ev⟩
 cases e with
 | normal=>exact fin k1
 | ret=>exact fin k1
 | _=>exact k1.elim
theorem EvOk.of {P:Program} {cx:Cx} {f:FuncId} {ev ev':List EV→List HObj→(EV→List HObj→Prop)→Prop} (h:EvOk P cx f ev') (hl:∀ args hp k,ev args hp k→ev' args hp k):EvOk P cx f ev:=fun c hi hg args vs k hall q=>h c hi hg hall (hl _ _ _ q)
theorem EvOk.ofN {P:Program} {cx:Cx} {f:FuncId} {ev:List EV→List HObj→(EV→List HObj→Prop)→Prop} {ev':Nat→List EV→List HObj→(EV→List HObj→Prop)→Prop} (h:∀ N,EvOk P cx f (ev' N)) (hl:∀ args hp k,ev args hp k→∃ N,ev' N args hp k):EvOk P cx f ev:=fun c hi hg args vs k hall q=>by
 obtain ⟨N,hN⟩:=hl _ _ _ q
 exact h N c hi hg hall hN
def Z1t (f0:FuncId) (ev:List EV→List HObj→(EV→List HObj→Prop)→Prop) (call:Z23):Z23:=fun f args h k=>match Nat.beq f f0 with
 | true=>ev args h k
 | false=>call f args h k
theorem Z7e {P:Program} {cx:Cx} {f0:FuncId} {ev:List EV→List HObj→(EV→List HObj→Prop)→Prop} {call:Z23} (hev:EvOk P cx f0 ev) (hcall:Z2j P cx call):Z2j P cx (Z1t f0 ev call):=by
 intro c hi hg f args vs k hall h
 unfold Z1t at h
 split at h
 ·rename_i e
  have e:=Nat.eq_of_beq_eq_true e
  subst e
  exact hev c hi hg hall h
 ·exact hcall c hi hg hall h
def Z1h (bed:List Nat) (i:Int):Int:=Zh2 (Z21 (bed.getD i.toNat 0))
def keyB (bed:List Nat) (i:Int):Int:=-(Z1h bed i)
def cmpB (bed:List Nat) (x y:Int):Int:=ordF (Z21 (bed.getD y.toNat 0)) (Z21 (bed.getD x.toNat 0))
def AllW (bed:List Nat):Prop:=∀ b ∈ bed,W64 b
def Z2w (bed:List Nat) (xs:List Int):Prop:=AllW bed∧(∀ x ∈ xs,0≤x∧x<bed.length)∧xs.length≤maxN
def Z60 (ti:TypeId) (args:List EV) (h:List HObj) (k:EV→List HObj→Prop):Prop:=match args,h with
 | [.x (.one (.osl 1 0 len)),.x (.one (.val (.int .i64 a))),.x (.one (.val (.int .i64 b))),.x (.one (.val (.int .i64 n))),_],[.box m tb cs,.row .rw t (.int .i64) xs] =>
  ∃ _:t=ti∧len=@List.length Int xs∧@List.length Int xs≤maxN∧0≤a∧0≤n∧a+n≤b∧b+n≤(@List.length Int xs:Int),∀ ys:List Int,ys=Z2l xs (swI a.toNat b.toNat n.toNat)∧ys.Perm xs→k (.tup []) [.box m tb cs,.row .rw t (.int .i64) ys]
 | _,_=>False
def Zcu (ti:TypeId) (args:List EV) (h:List HObj) (k:EV→List HObj→Prop):Prop:=match args,h with
 | [.x (.one (.osl 1 0 len)),.x (.one (.val (.int .i64 a))),.x (.one (.val (.int .i64 m))),.x (.one (.val (.int .i64 b))),_],[.box md tb cs,.row .rw t (.int .i64) xs] =>
  ∃ _:t=ti∧len=@List.length Int xs∧@List.length Int xs≤maxN∧0≤a∧a<m∧m<b∧b≤(@List.length Int xs:Int),∀ ys:List Int,ys=Z2l xs (rotI a.toNat m.toNat b.toNat)∧ys.Perm xs→k (.tup []) [.box md tb cs,.row .rw t (.int .i64) ys]
 | _,_=>False
def Zfc (ti:TypeId) (fc:FuncId) (args:List EV) (h:List HObj) (k:EV→List HObj→Prop):Prop:=match args,h with
 | [.x (.one (.osl 1 0 len)),.x (.one (.val (.int .i64 a))),.x (.one (.val (.int .i64 b))),.x (.one (.clo f [] [.ref 0 0]))],[.box m tb [.data (.slice (.flt .f64)) bed],.row .rw t (.int .i64) xs] =>
  ∃ _:t=ti∧f=fc∧len=@List.length Int xs∧Z2w bed xs∧0≤a∧a≤b∧b≤(@List.length Int xs:Int),∀ ys:List Int,Rr (keyB bed) a.toNat b.toNat xs ys∧Sgm (keyB bed) ys a.toNat b.toNat→k (.tup []) [.box m tb [.data (.slice (.flt .f64)) bed],.row .rw t (.int .i64) ys]
 | _,_=>False
def Zfd (ti:TypeId) (fc:FuncId) (N:Nat) (args:List EV) (h:List HObj) (k:EV→List HObj→Prop):Prop:=match args,h with
 | [.x (.one (.osl 1 0 len)),.x (.one (.val (.int .i64 a))),.x (.one (.val (.int .i64 m))),.x (.one (.val (.int .i64 b))),.x (.one (.clo f [] [.ref 0 0]))],[.box md tb [.data (.slice (.flt .f64)) bed],.row .rw t (.int .i64) xs] =>
  ∃ _:t=ti∧f=fc∧len=@List.length Int xs∧Z2w bed xs∧0≤a∧a<m∧m<b∧b≤(@List.length Int xs:Int)∧(b - a).toNat<N∧Sgm (keyB bed) xs a.toNat m.toNat∧Sgm (keyB bed) xs m.toNat b.toNat,∀ ys:List Int,Rr (keyB bed) a.toNat b.toNat xs ys∧Sgm (keyB bed) ys a.toNat b.toNat→k (.tup []) [.box md tb [.data (.slice (.flt .f64)) bed],.row .rw t (.int .i64) ys]
 | _,_=>False
def Z119 (ti:TypeId) (fc:FuncId) (args:List EV) (h:List HObj) (k:EV→List HObj→Prop):Prop:=match args,h with
 | [.x (.one (.osl 1 0 len)),.x (.one (.val (.int .i64 n))),.x (.one (.clo f [] [.ref 0 0]))],[.box m tb [.data (.slice (.flt .f64)) bed],.row .rw t (.int .i64) xs] =>
  ∃ _:t=ti∧f=fc∧len=@List.length Int xs∧Z2w bed xs∧n=(@List.length Int xs:Int),∀ ys:List Int,Rr (keyB bed) 0 n.toNat xs ys∧Sgm (keyB bed) ys 0 n.toNat→k (.tup []) [.box m tb [.data (.slice (.flt .f64)) bed],.row .rw t (.int .i64) ys]
 | _,_=>False
def Ztp (ti:TypeId) (fc:FuncId) (args:List EV) (h:List HObj) (k:EV→List HObj→Prop):Prop:=match args,h with
 | [.x (.one (.osl 1 0 len)),.x (.one (.clo f [] [.ref 0 0]))],[.box m tb [.data (.slice (.flt .f64)) bed],.row .rw t (.int .i64) xs] =>
  ∃ _:t=ti∧f=fc∧len=@List.length Int xs∧Z2w bed xs,∀ ys:List Int,Rr (keyB bed) 0 (@List.length Int xs) xs ys∧Sgm (keyB bed) ys 0 (@List.length Int xs)→k (.tup []) [.box m tb [.data (.slice (.flt .f64)) bed],.row .rw t (.int .i64) ys]
 | _,_=>False
end Go.Lift

namespace Go.Lift
def Z6g (a b:Nat):Int × Unit:=r1 (ordF (Z21 a) (Z21 b))
def seg (a b:Int):List Int:=(List.range' a.toNat (b.toNat - a.toNat)).map fun n:Nat=>(n:Int)
def leB (bed:List Nat) (x y:Int):Bool:=decide (keyB bed x<keyB bed y∨(keyB bed x=keyB bed y∧x≤y))
def Z9d (bed:List Nat) (a b:Int):List Int:=(seg a b).mergeSort (leB bed)
def ordL (bed:List Nat):List Int:=Z9d bed 0 bed.length
def Za6 (bed:List Nat):List Int × Unit:=(ordL bed,())
def WOrd (bed:List Nat):Prop:=AllW bed∧bed.length≤65536
def Z8e (x y:Int) (p:Option (List Nat)):Int × Unit:=match p with
 | some bed=>r1 (cmpB bed x y)
 | none=>r1 0
def WCmp (x y:Int) (p:Option (List Nat)):Prop:=∃ bed,p=some bed∧(0≤x∧x<(bed.length:Int))∧(0≤y∧y<(bed.length:Int))∧AllW bed
end Go.Lift

namespace Go.Lift
def Z28 (s:Int):List Int→Bool
 | []=>true
 | x :: l=>if x<0∨x > 4503599627370496 - s then false else Z28 (s+x) l
def Z11a (l:List Int):Bool × Unit:=r1 (Z28 0 l)
def Zmh (l:List Int):List Int × Unit:=(l,())
def Z11b (l:List Int):Prop:=l.length≤65536
abbrev SeaT:=List Nat × List Int × List Int × List Nat × Int × Int
def Za7 (n m:Int) (s:SeaT):Bool:=decide ((s.1.length:Int)=n)&&decide ((s.2.1.length:Int)=n)&&decide ((s.2.2.1.length:Int)=n)&&decide ((s.2.2.2.1.length:Int)=m)
def Z17h (g:Option Gr):Int:=match g with
 | none=>0
 | some g=>g.1
def Zjc (bed:List Nat) (best to:Int):Int:=if best<0∨Z1h bed to<Z1h bed best∨(Z1h bed to=Z1h bed best∧to<best) then to else best
def Z1k (n:Int) (bed:List Nat) (c:Int):Nat→Int
 | 0=>-1
 | k+1=>Zjc bed (Z1k n bed c k) (Z7 n c k).1
def Z7a (n:Int) (bed:List Nat) (c:Int):Int:=if Z1h bed (Z1k n bed c 4)<Z1h bed c then Z1k n bed c 4 else -1
def Z2h (some:Bool) (cells n:Int) (bed:List Nat) (c:Int):Int:=if !some∨(bed.length:Int)≠cells∨c<0∨(bed.length:Int)≤c then -1 else Z7a n bed c
def Z3d (g:Option Gr) (bed:List Nat) (c:Int):Int × Unit:=r1 (Z2h g.isSome (Z53 g) (Z17h g) bed c)
def Z9e (g:Option Gr) (bed:List Nat) (c:Int):Prop:=NetP g∧AllW bed
def Zds (w a:Int):Bool:=fcmp Go.BinOp.lss (f64.format.order (Ztb w a).1 4602678819172646912)
def mvL (l:List Int) (i j:Int) (d:Int):List Int:=(l.set i.toNat (l.getD i.toNat 0 - d)).set j.toNat ((l.set i.toNat (l.getD i.toNat 0 - d)).getD j.toNat 0+d)
def Z3e (area down:Int→Int) (st:List Int × List Int) (c:Int):List Int × List Int :=
 if down c<0∨st.1.getD c.toNat 0≤0∨Zds (st.1.getD c.toNat 0) (area c)=false then st else
 (mvL st.1 c (down c) (st.1.getD c.toNat 0 / 4),mvL st.2 c (down c) (part (st.2.getD c.toNat 0) (st.1.getD c.toNat 0 / 4) (st.1.getD c.toNat 0)))
def runA (area down:Int→Int) (order:List Int) (st:List Int × List Int):List Int × List Int:=order.foldl (Z3e area down) st
def runF (some:Bool) (n m:Int) (area down:Int→Int) (s:SeaT):List Int × List Int × Int × Unit:=if !some then ([],[],2,()) else
 if (Za7 n m s&&Z28 0 s.2.1)&&Z28 0 s.2.2.1 then ((runA area down (ordL s.1) (s.2.1,s.2.2.1)).1,(runA area down (ordL s.1) (s.2.1,s.2.2.1)).2,0,()) else ([],[],1,())
def Z3j (g:Option Gr) (s:SeaT):List Int × List Int × Int × Unit:=runF g.isSome (Z53 g) (Zh4 g) (Z1j (Z17h g)) (Z2h g.isSome (Z53 g) (Z17h g) s.1) s
def WRun (g:Option Gr) (s:SeaT):Prop:=NetP g∧AllW s.1∧AllI s.2.1∧AllI s.2.2.1
end Go.Lift

namespace Go.Lift
def yesS (_:Int) (_:SeaT):Bool × Unit:=(true,())
end Go.Lift

namespace Go.Lift
open Go.Proofs
def Z10:List (Nat × TD):=[
 (72,⟨.arr 4 2,4,32,[.int .i64 0,.int .i64 0,.int .i64 0,.int .i64 0],some (.arr 4 (.int .i64))⟩),
 (138,⟨.struct [(0,3),(1,3),(2,3)],3,24,[.int .i64 0,.int .i64 0,.int .i64 0],some (.pair (.int .i64) (.pair (.int .i64) (.int .i64)))⟩),
 (95,⟨.struct [(0,3),(1,84),(2,49)],3,56,[.int .i64 0,.slice none 0 0,.slice none 0 0],some (.pair (.int .i64) (.pair (.slice (.pair (.int .i64) (.pair (.int .i64) (.pair (.int .i64) (.int .i64))))) (.slice (.int .i64))))⟩),
 (25,⟨.ptr 95,1,8,[.pointer none],some (.ptr (.pair (.int .i64) (.pair (.slice (.pair (.int .i64) (.pair (.int .i64) (.pair (.int .i64) (.int .i64))))) (.slice (.int .i64)))))⟩),
 (2,⟨.int .i64,1,8,[.int .i64 0],some (.int .i64)⟩),
 (3,⟨.int .i64,1,8,[.int .i64 0],some (.int .i64)⟩),
 (4,⟨.bool,1,1,[.bool false],some (.bool)⟩),
 (5,⟨.int .u8,1,1,[.int .u8 0],some (.int .u8)⟩),
 (9,⟨.str,1,16,[.string ⟨#[]⟩],none⟩),
 (201,⟨.int .u32,1,4,[.int .u32 0],some (.int .u32)⟩),
 (28,⟨.int .i64,1,8,[.int .i64 0],some (.int .i64)⟩),
 (70,⟨.int .u64,1,8,[.int .u64 0],some (.int .u64)⟩),
 (37,⟨.slice 59,1,24,[.slice none 0 0],some (.slice (.flt .f64))⟩),
 (22,⟨.slice 2,1,24,[.slice none 0 0],some (.slice (.int .i64))⟩),
 (60,⟨.slice 4,1,24,[.slice none 0 0],some (.slice (.bool))⟩),
 (39,⟨.struct [(0,37),(1,22),(2,22),(3,37),(4,2),(5,3)],6,112,[.slice none 0 0,.slice none 0 0,.slice none 0 0,.slice none 0 0,.int .i64 0,.int .i64 0],some (.pair (.slice (.flt .f64)) (.pair (.slice (.int .i64)) (.pair (.slice (.int .i64)) (.pair (.slice (.flt .f64)) (.pair (.int .i64) (.int .i64))))))⟩),
 (59,⟨.flt .f64,1,8,[.float .f64 0],some (.flt .f64)⟩),
 (73,⟨.arr 4 3,4,32,[.int .i64 0,.int .i64 0,.int .i64 0,.int .i64 0],some (.arr 4 (.int .i64))⟩),
 (118,⟨.int .u64,1,8,[.int .u64 0],some (.int .u64)⟩),
 (130,⟨.struct [(0,59),(1,59),(2,59)],3,24,[.float .f64 0,.float .f64 0,.float .f64 0],some (.pair (.flt .f64) (.pair (.flt .f64) (.flt .f64)))⟩),
 (131,⟨.arr 4 130,12,96,[.float .f64 0,.float .f64 0,.float .f64 0,.float .f64 0,.float .f64 0,.float .f64 0,.float .f64 0,.float .f64 0,.float .f64 0,.float .f64 0,.float .f64 0,.float .f64 0],some (.arr 4 (.pair (.flt .f64) (.pair (.flt .f64) (.flt .f64))))⟩),
 (92,⟨.arr 2 3,2,16,[.int .i64 0,.int .i64 0],some (.arr 2 (.int .i64))⟩),
 (105,⟨.arr 4 92,8,64,[.int .i64 0,.int .i64 0,.int .i64 0,.int .i64 0,.int .i64 0,.int .i64 0,.int .i64 0,.int .i64 0],some (.arr 4 (.arr 2 (.int .i64)))⟩),
 (169,⟨.arr 3 59,3,24,[.float .f64 0,.float .f64 0,.float .f64 0],some (.arr 3 (.flt .f64))⟩),
 (108,⟨.arr 3 3,3,24,[.int .i64 0,.int .i64 0,.int .i64 0],some (.arr 3 (.int .i64))⟩),
 (170,⟨.arr 3 108,9,72,[.int .i64 0,.int .i64 0,.int .i64 0,.int .i64 0,.int .i64 0,.int .i64 0,.int .i64 0,.int .i64 0,.int .i64 0],some (.arr 3 (.arr 3 (.int .i64)))⟩),
 (171,⟨.arr 6 170,54,432,[.int .i64 0,.int .i64 0,.int .i64 0,.int .i64 0,.int .i64 0,.int .i64 0,.int .i64 0,.int .i64 0,.int .i64 0,.int .i64 0,.int .i64 0,.int .i64 0,.int .i64 0,.int .i64 0,.int .i64 0,.int .i64 0,.int .i64 0,.int .i64 0,.int .i64 0,.int .i64 0,.int .i64 0,.int .i64 0,.int .i64 0,.int .i64 0,.int .i64 0,.int .i64 0,.int .i64 0,.int .i64 0,.int .i64 0,.int .i64 0,.int .i64 0,.int .i64 0,.int .i64 0,.int .i64 0,.int .i64 0,.int .i64 0,.int .i64 0,.int .i64 0,.int .i64 0,.int .i64 0,.int .i64 0,.int .i64 0,.int .i64 0,.int .i64 0,.int .i64 0,.int .i64 0,.int .i64 0,.int .i64 0,.int .i64 0,.int .i64 0,.int .i64 0,.int .i64 0,.int .i64 0,.int .i64 0],some (.arr 6 (.arr 3 (.arr 3 (.int .i64))))⟩),
 (49,⟨.slice 3,1,24,[.slice none 0 0],some (.slice (.int .i64))⟩),
 (109,⟨.arr 3 3,3,24,[.int .i64 0,.int .i64 0,.int .i64 0],some (.arr 3 (.int .i64))⟩),
 (111,⟨.arr 3 109,9,72,[.int .i64 0,.int .i64 0,.int .i64 0,.int .i64 0,.int .i64 0,.int .i64 0,.int .i64 0,.int .i64 0,.int .i64 0],some (.arr 3 (.arr 3 (.int .i64)))⟩),
 (112,⟨.arr 6 111,54,432,[.int .i64 0,.int .i64 0,.int .i64 0,.int .i64 0,.int .i64 0,.int .i64 0,.int .i64 0,.int .i64 0,.int .i64 0,.int .i64 0,.int .i64 0,.int .i64 0,.int .i64 0,.int .i64 0,.int .i64 0,.int .i64 0,.int .i64 0,.int .i64 0,.int .i64 0,.int .i64 0,.int .i64 0,.int .i64 0,.int .i64 0,.int .i64 0,.int .i64 0,.int .i64 0,.int .i64 0,.int .i64 0,.int .i64 0,.int .i64 0,.int .i64 0,.int .i64 0,.int .i64 0,.int .i64 0,.int .i64 0,.int .i64 0,.int .i64 0,.int .i64 0,.int .i64 0,.int .i64 0,.int .i64 0,.int .i64 0,.int .i64 0,.int .i64 0,.int .i64 0,.int .i64 0,.int .i64 0,.int .i64 0,.int .i64 0,.int .i64 0,.int .i64 0,.int .i64 0,.int .i64 0,.int .i64 0],some (.arr 6 (.arr 3 (.arr 3 (.int .i64))))⟩),
 (87,⟨.struct [(0,3),(1,84),(2,83),(3,85),(4,22),(5,37),(6,37)],7,136,[.int .i64 0,.slice none 0 0,.map none,.slice none 0 0,.slice none 0 0,.slice none 0 0,.slice none 0 0],some (.pair (.int .i64) (.pair (.slice (.pair (.int .i64) (.pair (.int .i64) (.pair (.int .i64) (.int .i64))))) (.pair (.map (.pair (.int .i64) (.int .i64)) (.int .i64)) (.pair (.slice (.arr 2 (.int .i64))) (.pair (.slice (.int .i64)) (.pair (.slice (.flt .f64)) (.slice (.flt .f64))))))))⟩),
 (24,⟨.ptr 87,1,8,[.pointer none],some (.ptr (.pair (.int .i64) (.pair (.slice (.pair (.int .i64) (.pair (.int .i64) (.pair (.int .i64) (.int .i64))))) (.pair (.map (.pair (.int .i64) (.int .i64)) (.int .i64)) (.pair (.slice (.arr 2 (.int .i64))) (.pair (.slice (.int .i64)) (.pair (.slice (.flt .f64)) (.slice (.flt .f64)))))))))⟩),
 (91,⟨.struct [(0,3),(1,3),(2,3),(3,3)],4,32,[.int .i64 0,.int .i64 0,.int .i64 0,.int .i64 0],some (.pair (.int .i64) (.pair (.int .i64) (.pair (.int .i64) (.int .i64))))⟩),
 (84,⟨.slice 91,1,24,[.slice none 0 0],some (.slice (.pair (.int .i64) (.pair (.int .i64) (.pair (.int .i64) (.int .i64)))))⟩),
 (85,⟨.slice 92,1,24,[.slice none 0 0],some (.slice (.arr 2 (.int .i64)))⟩),
 (83,⟨.map 124 3,1,8,[.map none],some (.map (.pair (.int .i64) (.int .i64)) (.int .i64))⟩),
 (124,⟨.struct [(0,3),(1,3)],2,16,[.int .i64 0,.int .i64 0],some (.pair (.int .i64) (.int .i64))⟩),
 (88,⟨.plain,1,8,[.nilFunc],none⟩),
 (89,⟨.slice 88,1,24,[.slice none 0 0],none⟩)]
theorem Zb:tabB Tryz.prog Z10=true:=by kernel_rfl
theorem Zc:Tryz.prog.follows .mixedOrders=true:=by kernel_rfl
def RbG:Z6a:=fun g=>match g with | 0=>some ⟨.arr 6 (.arr 3 (.arr 3 (.int .i64))),Zv⟩ | 4=>some ⟨.arr 6 (.arr 3 (.arr 3 (.int .i64))),Zv⟩ | _=>none
noncomputable def Zge (f:Nat):Option InFn:=match f with
 | 167=>some ⟨Tryz.f167.ntmps,Tryz.f167.results.toList,Tryz.f167.body.getD .skip,{ loops:=fun _=>none,joins:=fun _=>none,inl:=inlL [167,180,188],unroll:=fun k=>some 4 }⟩
 | 180=>some ⟨Tryz.f180.ntmps,Tryz.f180.results.toList,Tryz.f180.body.getD .skip,{ loops:=fun _=>none,joins:=fun _=>none,inl:=inlL [167,180,188],unroll:=fun k=>some 4 }⟩
 | 188=>some ⟨Tryz.f188.ntmps,Tryz.f188.results.toList,Tryz.f188.body.getD .skip,{ loops:=fun _=>none,joins:=fun _=>none,inl:=inlL [167,180,188],unroll:=fun k=>some 4 }⟩
 | _=>none
theorem Zwf:Zt1 Tryz.prog Zge:=by
 intro f fn h
 unfold Zge at h
 split at h
 ·cases h; exact ⟨Tryz.f167,Tryz.func167,rfl,rfl,by simp,by decide⟩
 ·cases h; exact ⟨Tryz.f180,Tryz.func180,rfl,rfl,by simp,by decide⟩
 ·cases h; exact ⟨Tryz.f188,Tryz.func188,rfl,rfl,by simp,by decide⟩
 ·cases h
noncomputable def Zdt (f:Nat):Option InFn:=match f with
 | 54=>some ⟨Tryz.f54.ntmps,Tryz.f54.results.toList,Tryz.f54.body.getD .skip,{ loops:=Z2n [(6,{ ls:=[(.slot 5,.data (.int .i64))],os:=[(3,2,.int .i64)] })],joins:=fun _=>none,named:=true }⟩
 | _=>none
theorem Ztq:Zt1 Tryz.prog Zdt:=by
 intro f fn h
 unfold Zdt at h
 split at h
 ·cases h; exact ⟨Tryz.f54,Tryz.func54,rfl,rfl,by simp,by decide⟩
 ·cases h
noncomputable def Zgf (f:Nat):Option InFn:=match f with
 | 40=>some ⟨Tryz.f40.ntmps,Tryz.f40.results.toList,Tryz.f40.body.getD .skip,nHn⟩
 | 41=>some ⟨Tryz.f41.ntmps,Tryz.f41.results.toList,Tryz.f41.body.getD .skip,nHn⟩
 | _=>none
theorem Zwg:Zt1 Tryz.prog Zgf:=by
 intro f fn h
 unfold Zgf at h
 split at h
 ·cases h; exact ⟨Tryz.f40,Tryz.func40,rfl,rfl,by simp,by decide⟩
 ·cases h; exact ⟨Tryz.f41,Tryz.func41,rfl,rfl,by simp,by decide⟩
 ·cases h
noncomputable def Zjd (f:Nat):Option InFn:=match f with
 | 59=>some ⟨Tryz.f59.ntmps,Tryz.f59.results.toList,Tryz.f59.body.getD .skip,{ loops:=Z2n [(1,{ ls:=[(.slot 7,.data (.int .i64)),(.cell 1 1,.row 91 Z2g)],os:=[(0,83,.ent (.pair (.int .i64) (.int .i64)) (.int .i64))] })],joins:=fun _=>none }⟩
 | 60=>some ⟨Tryz.f60.ntmps,Tryz.f60.results.toList,Tryz.f60.body.getD .skip,nHn⟩
 | _=>none
theorem Zzo:Zt1 Tryz.prog Zjd:=by
 intro f fn h
 unfold Zjd at h
 split at h
 ·cases h; exact ⟨Tryz.f59,Tryz.func59,rfl,rfl,by simp,by decide⟩
 ·cases h; exact ⟨Tryz.f60,Tryz.func60,rfl,rfl,by simp,by decide⟩
 ·cases h
end Go.Lift

namespace Go.Lift
theorem rngF {b:Nat} (h:K.rng (.flt .f64) b):W64 b:=by
 have h:(Lit.float .f64 b).wf=true:=h
 have:=of_decide_eq_true (show decide (b<2 ^ 64)=true from h)
 exact this
theorem rngL {l:List Nat} (h:K.rng (.slice (.flt .f64)) l):WL l:=fun x hx=>rngF (h x hx)
end Go.Lift

namespace Go.Lift
open Go.ChangeShapes Go.WideShapes Go.RowKit
mutual
def K.ofD:(k:K)→DataW Unit→Option k.T
 | .int ik,.lit (.int jk n)=>if jk=ik then some n else none
 | .arr n e,.agg ds=>match ofDs e ds with
  | some xs=>if xs.length=n then some xs else none
  | none=>none
 | _,_=>none
def ofDs:(e:K)→List (DataW Unit)→Option (List e.T)
 | _,[]=>some []
 | e,d :: ds=>match K.ofD e d with
  | some x=>match ofDs e ds with
   | some xs=>some (x :: xs)
   | none=>none
  | none=>none
end
theorem Z15r {α:Type} {R:α→List Value→Prop} {s:Nat}:∀ {ys:List α} {cs:List Value},cs.length=ys.length*s→(∀ (i:Nat) (y:α),ys[i]?=some y→R y ((cs.drop (i*s)).take s))→Rows R ys cs
 | [],cs,h,_=>List.eq_nil_of_length_eq_zero (by simpa using h)
 | y :: ys,cs,h,hr=>by
  rw [List.length_cons,Nat.add_mul,Nat.one_mul] at h
  refine ⟨cs.take s,cs.drop s,(List.take_append_drop s cs).symm,by simpa using hr 0 y rfl,Z15r (s:=s) (by rw [List.length_drop]; omega) fun i z hz=>?_⟩
  have:=hr (i+1) z (by simpa using hz)
  rwa [Nat.add_mul,Nat.one_mul,Nat.add_comm,← List.drop_drop] at this
theorem Z12w:∀ {e:K} {ds:List (DataW Unit)} {xs:List e.T},ofDs e ds=some xs→xs.length=ds.length∧∀ (i:Nat) (x:e.T),xs[i]?=some x→∃ d,ds[i]?=some d∧K.ofD e d=some x
 | e,[],xs,h=>by simp only [ofDs,Option.some.injEq] at h; subst h; exact ⟨rfl,fun i x hx=>by simp at hx⟩
 | e,d :: ds,xs,h=>by
  simp only [ofDs] at h
  split at h
  ·rename_i x hx
   split at h
   ·rename_i ys hys
    cases h
    obtain ⟨h1,h2⟩:=Z12w hys
    refine ⟨by simp [h1],fun i z hz=>?_⟩
    cases i with
    | zero=>simp at hz; subst hz; exact ⟨d,rfl,hx⟩
    | succ i=>simpa using h2 i z (by simpa using hz)
   ·cases h
  ·cases h
theorem Z1bt {P:Program} {w:World} {ok:Nat→Prop}:∀ {k:K} {t:TypeId},KT P t k→∀ {fuel:Nat} {cs:List Value} {x:DataW Unit × List MemPlace} {y:k.T},DataW.trod (fun _=>()) P w 0 (fun _=>true) false fuel t cs=some x→K.ofD k x.1=some y→k.rep w ok y cs:=by
 intro k
 induction k with
 | int ik =>
  intro t hk fuel cs x y h hy
  cases hk with
  | int ht =>
   obtain ⟨n,h1,h2,_⟩:=DataW.trod_int ht h
   rw [h2] at hy
   simp only [K.ofD,if_true] at hy
   obtain rfl:=Option.some.inj hy
   exact h1
 | arr n e ih =>
  intro t hk fuel cs x y h hy
  cases hk with
  | arr ht hc hs he =>
   obtain ⟨xs,m,rfl,rfl,h1,h2,h3⟩:=DataW.trod_array ht h
   simp only [K.ofD] at hy
   split at hy
   ·rename_i ys hys
    split at hy
    ·rename_i hl
     cases hy
     obtain ⟨g1,g2⟩:=Z12w hys
     refine ⟨hl,Z15r (s:=e.sz) (by rw [h1,hs,hl]) fun i z hz=>?_⟩
     obtain ⟨d,hd,hz2⟩:=g2 i z hz
     have hi:i<n:=by rw [← hl]; exact (List.getElem?_eq_some_iff.1 hz).1
     have h4:=h3 i hi
     rw [hc] at h4
     rw [List.getElem?_map] at hd
     cases hx:xs[i]? with
     | none=>rw [hx] at hd; cases hd
     | some q =>
      rw [hx] at hd h4
      cases hd
      exact ih he h4 hz2
    ·cases hy
   ·cases hy
 | _=>intro t hk fuel cs x y h hy; simp [K.ofD] at hy
theorem Z12x {P:Program} {w:World} {n:String} {d:DataW Unit}:∀ {l:List (String × DataW Unit)} {ps:List MemPlace},DataW.LaidVars P w l ps→(n,d) ∈ l →
  ∃ g t cs fuel p,P.globalNamed n=some g∧(P.globals[g]?).map (·.type)=some t∧w.var? P n=some cs∧DataW.trod (fun _=>()) P w 0 (fun _=>true) false fuel t cs.toList=some (d,p)
 | [],ps,_,h=>by cases h
 | (m,e) :: l,ps,⟨g,t,cs,fuel,p,q,h1,h2,h3,h4,h5,_⟩,h=>by
  rcases List.mem_cons.1 h with h | h
  ·cases h; exact ⟨g,t,cs,fuel,p,h1,h2,h3,h4⟩
  ·exact Z12x h5 h
theorem Z12y {P:Program} {w:World} {l:List (String × DataW Unit)} (h:laidMet P l w) {n:String} {d:DataW Unit} (hm:(n,d) ∈ l) {g:Nat} {t:TypeId} (hg:P.globalNamed n=some g) (ht:(P.globals[g]?).map (·.type)=some t) {k:K} (hk:KT P t k) {x:k.T} (hx:K.ofD k d=some x) :
  (K.ptr k).rep w (fun b=>b<w.heap.size) (some x) [.pointer (some ⟨g,0,none⟩)]:=by
 obtain ⟨ps,h1,_,_⟩:=h
 obtain ⟨g',t',cs,fuel,p,h2,h3,h4,h5⟩:=Z12x h1 hm
 rw [hg] at h2; cases h2
 rw [ht] at h3; cases h3
 have hlt:g<w.heap.size:=by
  simp only [World.var?,hg,Option.bind_some] at h4
  split at h4
  ·rename_i hh; exact Z1i hh
  ·cases h4
 refine .inr ⟨x,g,0,cs.toList,rfl,rfl,hlt,Z1bt hk h5 hx,fun j v hj=>?_⟩
 rw [Nat.zero_add,World.var?_cell hg h4 j]
 simpa using hj
section
variable {H:Type} {enc:TypeId × Value→H}
theorem Z1bu {C:Checked} {os:Os} {f:FuncId} {fn:Func} {s:ChangeSpec} {ks:List K} {pre:KS ks→Prop} {tb:TypeId} {G:Z6a} {X:World→Array Value→Prop} (hX:∀ (w w':World) (args:Array Value),w.heap=w'.heap→X w args→X w' args) (hG:∀ (w:World) (args:Array Value),X w args→GW G w (fun b=>b<w.heap.size))
  (own:ownKnob C.prog.godebug=none) (started:os.Started) (noInit:C.prog.inits.idxOf? f=none)
  (hfn:C.prog.funcs[f]?=some fn) (hbody:fn.body.isSome=true) (hname:(fn.name == "runtime.NumGoroutine")=false)
  (witness:∃ (w:World) (tape:Tape) (i:Input),w.os=os∧(w.forCall tape i).Shaped C.prog∧i.vars=[]∧Input.okWide C.prog (w.forCall tape i) .any w.heap.size f i ∧
   ((s.pre enc C.prog fn [] false (w.forCall tape i).memory i.args∧X (w.forCall tape i).memory i.args)∧sizedMet enc C.prog fn (OpenSpec.ofChange s) false (w.forCall tape i).memory i.args)∧({}:Assume).holds C.prog (lone (Frame.enter C.prog f i.args .normal) [] (w.forCall tape i)))
  (hl:laidOutB C.prog=true) (hks:All2 (KT C.prog) fn.params.toList ks) (hread:∀ t ∈ fn.params.toList,C.prog.readableRec t=true∧t<C.prog.types.size)
  (hres:fn.resultTypes=#[tb]) (htb:C.prog.underlying tb=some .bool) (hs:Z15e s ks.length)
  (hcon:(Con.det ks [.snap .bool] pre (fun _=>(true,()))).holds C.prog G f) (hpre:∀ x,KS.rng ks x→KS.wf ks x→pre x) :
  ReturnsInHanded {} C os f .any (fun w args=>(s.pre enc C.prog fn [] false w args∧X w args)∧sizedMet enc C.prog fn (OpenSpec.ofChange s) false w args) (s.post enc C.prog fn false true false false):=by
 refine returnsInHanded_of_calls own started noInit witness ?_
 intro w tape i _ _ _ hok hp hholds
 obtain ⟨_,_,_,fn',hfn',_,_,_,_,hval⟩:=hok
 have e:fn'=fn:=Option.some.inj (hfn'.symm.trans hfn)
 subst e
 obtain ⟨⟨⟨ds,gs,before,hw,hc⟩,hx⟩,hz⟩:=hp
 have hx:=hX _ (w.forCall tape i) _ (by rfl) hx
 have hW:=DataW.Whole.of_heap (w':=w.forCall tape i) (by rfl) hw
 have hwt:=hz.weights hw
 generalize w.forCall tape i=W at *
 have hlt:∀ p ∈ before,p.block<W.heap.size:=fun p hp=>hW.lt p hp
 obtain ⟨p,q,hA,hV,rfl,hfz,hnd⟩:=id hW
 rw [hs.1] at hV
 obtain ⟨rfl,rfl⟩:=trodVars_none hV
 have hvt:(OpenSpec.ofChange s).bare.plain.varTypes C.prog=[]:=by
  show (s.plain.varTypes C.prog)=[]
  unfold DataSpec.varTypes
  show s.vars.filterMap _=[]
  rw [hs.1]; rfl
 simp only [List.append_nil] at hwt hW hlt
 rw [hvt,List.append_nil,List.all_eq_true] at hwt
 obtain ⟨x,h1,h2,h3⟩:=Z1b3 hks hA (fun j t v ht hv=>hval j t v (by simpa using ht) (by simpa using hv)) (fun m hm=>by simpa using hwt m hm)
 have hspec:=hcon W (fun b=>b<W.heap.size) (fun _ h=>h) x i.args.toList h1 (hG W _ hx) (hpre x h2 h1.wf)
 obtain ⟨code,hcode⟩:=Option.isSome_iff_exists.1 hbody
 have hcalls:Calls C.prog f i.args W fun e w'=>∃ v,e=.returned v∧Grows W w'∧Z2a W w' (fun b=>b<W.heap.size) [.snap .bool] (true,()) v:=by
  rcases hspec with ⟨v,w',g1,_⟩ | ⟨_,g2⟩
  ·have:=Z88 hfn hcode hname i.args.toList.toArray W
   rw [this] at g1; cases g1
  ·simpa using g2
 refine hcalls.mono fun e W' ⟨v,he,hg,hr⟩=>?_
 subst he
 refine ChangeSpec.post_blind ?_
 have hv:v=.bool true:=by
  obtain ⟨vs,obs,hv,_,v0,vr,o1,o2,rfl,_,⟨_,h5⟩,rfl,_⟩:=hr
  rw [hv]
  exact (List.cons.inj h5).1
 subst hv
 have hds:=hs.2 H ds h3
 have hb:Below W.heap.size W W':=⟨hg.os,hg.tape,hg.output,hg.size,hg.keep⟩
 refine ⟨ds,[],p,[],p,[],hW,?_,?_,?_,World.keptBut_mono (fun p hp=>⟨hp,.inr (.inl hp)⟩) (hb.frame (· ∈ p)),fun h=>by cases h⟩
 ·rw [List.append_nil,hds,hres]
  exact trodAll_mk1 (RowKit.shut_bool htb true)
 ·rw [List.append_nil,hds]
  exact Z194 hl hg hread hA hlt (fun x hx=>by simpa using hlt x hx)
 ·rw [List.append_nil,hds,hs.1]
  rfl
end
end Go.Lift

namespace Go.Lift
theorem rngI {n:Int} (h:K.rng (.int .i64) n):I64 n:=by
 have h':(decide (i64.min≤n)&&decide (n≤i64.max))=true:=h
 simp [IntKind.min,IntKind.max,IntKind.bits,IntKind.signed] at h'
 unfold I64; omega
theorem Z1ed {s:Se} (h:K.rng kSea s):Z1c5 s:=⟨rngL h.1,fun x hx=>rngI (h.2.1 x hx),fun x hx=>rngI (h.2.2.1 x hx),rngL h.2.2.2.1,rngI h.2.2.2.2.1,rngI h.2.2.2.2.2⟩
end Go.Lift

namespace Go.Proofs.YtplhligfkbgllaaGreatDoor
open Go.Lift
theorem own:ownKnob Tryz.checked.prog.godebug=none:=by kernel_rfl
theorem Z1da:laidOutB Tryz.checked.prog=true:=by kernel_rfl
theorem gFr:Tryz.prog.globalNamed "tarn/geom.frames" = some 4:=by kernel_rfl
theorem tFr:(Tryz.prog.globals[4]?).map (·.type)=some 171:=by kernel_rfl
theorem gFc:Tryz.prog.globalNamed "tarn/cube.frames" = some 0:=by kernel_rfl
theorem tFc:(Tryz.prog.globals[0]?).map (·.type)=some 112:=by kernel_rfl
def Ztr:List (String × DataW Unit):=[("tarn/cube.frames",Rows.laid_tarn_cube_frames),("tarn/geom.frames",Rows.laid_tarn_geom_frames)]
theorem Z1bv (os:Os) (args:Array Value):laidMetH Tryz.prog Ztr ((World.doorLaid Tryz.prog 400 os).forCall (fun _ _=>0) ⟨#[],args,[]⟩).memory :=
 laidMetH_of_parts3 (fuel:=8) (laidMet_of_run' 8 (by kernel_rfl) (by kernel_rfl)) (by kernel_rfl) (by kernel_rfl)
theorem Z17i (w:World) (h:laidMetH Tryz.prog Ztr w):GW RbG w (fun b=>b<w.heap.size):=by
 rw [MakeChecks.laidMetH_plain _ _ _ (by kernel_rfl)] at h
 intro g k x hg
 unfold RbG at hg
 split at hg
 ·cases hg
  exact Z12y h (n := "tarn/cube.frames") List.mem_cons_self gFc tFc (Z7r 9 112 _ (by kernel_rfl)) (by kernel_rfl)
 ·cases hg
  exact Z12y h (n := "tarn/geom.frames") (List.mem_cons_of_mem _ List.mem_cons_self) gFr tFr (Z7r 9 171 _ (by kernel_rfl)) (by kernel_rfl)
 ·cases hg
end Go.Proofs.YtplhligfkbgllaaGreatDoor

namespace Go.Lift
theorem Z1bw {xs:List Int} {i j:Nat} (h:i≠j):swp xs i j=swp xs j i:=by
 unfold swp; rw [List.set_comm _ _ h]
theorem Z1a2 {x:Int} (h0:0≤x) (h1:x<9223372036854775808):i64.wrap ((u64.wrap (i64.wrap x)).fdiv (2 ^ Min.min (Int.toNat 1) u64.bits))=x / 2:=by
 rw [Z16 (x:=x) (by omega) (by omega)]
 have:u64.wrap x=x:=by rw [IntKind.wrap_u64]; exact Int.emod_eq_of_lt h0 (by omega)
 rw [this,show (2:Int) ^ Min.min (Int.toNat 1) u64.bits=2 from rfl,Int.fdiv_eq_ediv_of_nonneg _ (by decide),Z16 (by omega) (by omega)]
theorem Z61 (bed:List Nat) (x y:Int):cmpB bed x y<0↔keyB bed x<keyB bed y:=by
 unfold cmpB keyB Z1h ordF cmpI
 split
 ·constructor <;> intro _ <;> omega
 ·split <;> constructor <;> intro _ <;> omega
theorem Z2w.perm {bed:List Nat} {xs ys:List Int} (h:Z2w bed xs) (hp:ys.Perm xs):Z2w bed ys:=⟨h.1,fun x hx=>h.2.1 x (hp.mem_iff.1 hx),by rw [hp.length_eq]; exact h.2.2⟩
theorem Zob {xs:List Int} {p:Nat} (h:p<xs.length):at0 xs p ∈ xs:=Z5w h 0
theorem Z2w.cmp {bed:List Nat} {xs:List Int} (h:Z2w bed xs) {p q:Nat} (hp:p<xs.length) (hq:q<xs.length):WCmp (at0 xs p) (at0 xs q) (some bed):=⟨bed,rfl,h.2.1 _ (Zob hp),h.2.1 _ (Zob hq),h.1⟩
theorem Zaz {kf:Int→Int} {xs:List Int} {a b i j:Nat} (h:Sgm kf xs a b) (h1:a≤i) (h2:i≤j) (h3:j<b):kf (at0 xs i)≤kf (at0 xs j):=by
 by_cases e:i=j
 ·subst e; exact Int.le_refl _
 ·exact h i j h1 (by omega) h3
section
variable {kf:Int→Int}
def InsI (kf:Int→Int) (ys:List Int) (a i j:Nat):Prop:=(∀ p q,a≤p→p<q→q≤i→p≠j→q≠j→kf (at0 ys p)≤kf (at0 ys q))∧∀ q,j<q→q≤i→kf (at0 ys j)≤kf (at0 ys q)
theorem InsI.start {ys:List Int} {a i:Nat} (h:Sgm kf ys a i):InsI kf ys a i i:=⟨fun p q h1 h2 h3 h4 h5=>h p q h1 h2 (by omega),fun q h1 h2=>by omega⟩
theorem InsI.done {ys:List Int} {a i j:Nat} (h:InsI kf ys a i j) (hj:j≤i) (he:j=a∨(a<j∧kf (at0 ys (j - 1))≤kf (at0 ys j))):Sgm kf ys a (i+1):=by
 intro p q h1 h2 h3
 by_cases e1:p=j
 ·subst e1; exact h.2 q h2 (by omega)
 by_cases e2:q=j
 ·subst e2
  rcases he with he | ⟨g1,g2⟩
  ·omega
  by_cases e3:p=q - 1
  ·subst e3; exact g2
  ·exact Int.le_trans (h.1 p (q - 1) h1 (by omega) (by omega) (by omega) (by omega)) g2
 exact h.1 p q h1 h2 (by omega) e1 e2
theorem InsI.step {ys:List Int} {a i j:Nat} (h:InsI kf ys a i (j+1)) (hj:j+1≤i) (ha:a≤j) (hi:i<ys.length) (hlt:kf (at0 ys (j+1))<kf (at0 ys j)):InsI kf (swp ys (j+1) j) a i j:=by
 refine ⟨fun p q h1 h2 h3 h4 h5=>?_,fun q h1 h2=>?_⟩
 ·rw [Z5z (by omega) (by omega),Z5z (by omega) (by omega),if_neg h4,if_neg h5]
  by_cases e1:p=j+1
  ·subst e1
   rw [if_pos rfl,if_neg (by omega)]
   exact h.1 j q ha (by omega) h3 (by omega) (by omega)
  rw [if_neg e1]
  by_cases e2:q=j+1
  ·subst e2
   rw [if_pos rfl]
   exact h.1 p j h1 (by omega) (by omega) e1 (by omega)
  rw [if_neg e2]
  exact h.1 p q h1 h2 h3 e1 e2
 ·rw [Z5z (by omega) (by omega),Z5z (by omega) (by omega),if_pos rfl,if_neg (by omega)]
  by_cases e2:q=j+1
  ·subst e2; rw [if_pos rfl]; omega
  rw [if_neg e2]
  exact h.2 q (by omega) h2
def ShU (xs ys:List Int) (a k:Nat):Prop:=∀ p,at0 ys p=if a≤p∧p<k then at0 xs (p+1) else if p=k then at0 xs a else at0 xs p
theorem ShU.start (xs:List Int) (a:Nat):ShU xs xs a a:=fun p=>by
 rw [if_neg (by omega)]; split
 ·rename_i e; rw [e]
 ·rfl
theorem ShU.step {xs ys:List Int} {a k:Nat} (h:ShU xs ys a k) (hl:ys.length=xs.length) (ha:a≤k) (hk:k+1<xs.length):ShU xs (swp ys (k+1) k) a (k+1):=fun p=>by
 rw [Z5z (by omega) (by omega),h (k+1),h k,h p,if_neg (show ¬ (a≤k+1∧k+1<k) by omega),if_neg (show ¬ k+1=k by omega),if_neg (show ¬ (a≤k∧k<k) by omega),if_pos (show k=k from rfl)]
 by_cases e1:p=k
 ·subst e1; rw [if_pos rfl,if_pos (by omega)]
 rw [if_neg e1]
 by_cases e2:p=k+1
 ·subst e2; rw [if_pos rfl,if_neg (by omega),if_pos rfl]
 rw [if_neg e2,if_neg e2]
 by_cases e3:a≤p∧p<k
 ·rw [if_pos e3,if_pos (by omega)]
 ·rw [if_neg e3,if_neg (by omega),if_neg (by omega)]
theorem ShU.done {xs ys:List Int} {a i b:Nat} (h:ShU xs ys a (i - 1)) (h1:a+1≤i) (h2:i≤b) (hs:Sgm kf xs (a+1) b) (hlt:∀ p,a+1≤p→p<i→kf (at0 xs p)<kf (at0 xs a)) (hge:∀ p,i≤p→p<b→kf (at0 xs a)≤kf (at0 xs p)):Sgm kf ys a b:=by
 intro p q g1 g2 g3
 rw [h p,h q]
 by_cases e1:a≤p∧p<i - 1
 ·rw [if_pos e1]
  by_cases e2:a≤q∧q<i - 1
  ·rw [if_pos e2]; exact hs _ _ (by omega) (by omega) (by omega)
  rw [if_neg e2]
  by_cases e3:q=i - 1
  ·rw [if_pos e3]; have:=hlt (p+1) (by omega) (by omega); omega
  rw [if_neg e3]
  have:=hlt (p+1) (by omega) (by omega)
  have:=hge q (by omega) g3
  omega
 rw [if_neg e1,if_neg (show ¬ (a≤q∧q<i - 1) by omega)]
 rw [if_neg (show ¬ q=i - 1 by omega)]
 by_cases e3:p=i - 1
 ·rw [if_pos e3]; exact hge q (by omega) g3
 rw [if_neg e3]
 exact hs _ _ (by omega) g2 g3
def ShD (xs ys:List Int) (m k:Nat):Prop:=∀ p,at0 ys p=if k<p∧p≤m then at0 xs (p - 1) else if p=k then at0 xs m else at0 xs p
theorem ShD.start (xs:List Int) (m:Nat):ShD xs xs m m:=fun p=>by
 rw [if_neg (by omega)]; split
 ·rename_i e; rw [e]
 ·rfl
theorem ShD.step {xs ys:List Int} {m k:Nat} (h:ShD xs ys m (k+1)) (hl:ys.length=xs.length) (ha:k+1≤m) (hk:m<xs.length):ShD xs (swp ys (k+1) k) m k:=fun p=>by
 rw [Z5z (by omega) (by omega),h (k+1),h k,h p,if_neg (show ¬ (k+1<k+1∧k+1≤m) by omega),if_pos (show k+1=k+1 from rfl),if_neg (show ¬ (k+1<k∧k≤m) by omega),if_neg (show ¬ k=k+1 by omega)]
 by_cases e1:p=k
 ·subst e1; rw [if_pos rfl,if_neg (by omega),if_pos rfl]
 rw [if_neg e1,if_neg e1]
 by_cases e2:p=k+1
 ·subst e2; rw [if_pos rfl,if_pos (by omega)]; congr 1
 rw [if_neg e2]
 by_cases e3:k+1<p∧p≤m
 ·rw [if_pos e3,if_pos (by omega)]
 ·rw [if_neg e3,if_neg (by omega),if_neg (by omega)]
theorem ShD.done {xs ys:List Int} {a m i:Nat} (h:ShD xs ys m i) (h1:a≤i) (h2:i≤m) (hs:Sgm kf xs a m) (hle:∀ p,a≤p→p<i→kf (at0 xs p)≤kf (at0 xs m)) (hgt:∀ p,i≤p→p<m→kf (at0 xs m)<kf (at0 xs p)):Sgm kf ys a (m+1):=by
 intro p q g1 g2 g3
 rw [h p,h q]
 by_cases e1:i<p∧p≤m
 ·rw [if_pos e1,if_pos (by omega)]
  exact hs _ _ (by omega) (by omega) (by omega)
 rw [if_neg e1]
 by_cases e2:i<q∧q≤m
 ·rw [if_pos e2]
  by_cases e3:p=i
  ·rw [if_pos e3]; have:=hgt (q - 1) (by omega) (by omega); omega
  rw [if_neg e3]
  by_cases e4:p=q - 1
  ·omega
  exact hs _ _ g1 (by omega) (by omega)
 rw [if_neg e2,if_neg (show ¬ p=i by omega)]
 by_cases e3:q=i
 ·rw [if_pos e3]; exact hle p g1 (by omega)
 ·rw [if_neg e3]; exact hs _ _ g1 g2 (by omega)
def Crs (kf:Int→Int) (ys:List Int) (a m b:Nat):Prop:=∀ i j,a≤i→i<m→m≤j→j<b→kf (at0 ys i)≤kf (at0 ys j)
theorem Crs.left {ys zs:List Int} {a m b:Nat} (h:Crs kf ys a m b) (r:Rr kf a m ys zs):Crs kf zs a m b:=fun i j h1 h2 h3 h4=>by
 rw [r.out j (by omega)]
 exact r.ins (fun v=>kf v≤kf (at0 ys j)) (fun i h1 h2=>h i j h1 h2 h3 h4) i h1 h2
theorem Crs.right {ys zs:List Int} {a m b:Nat} (h:Crs kf ys a m b) (r:Rr kf m b ys zs):Crs kf zs a m b:=fun i j h1 h2 h3 h4=>by
 rw [r.out i (by omega)]
 exact r.ins (fun v=>kf (at0 ys i)≤kf v) (fun j h3 h4=>h i j h1 h2 h3 h4) j h3 h4
theorem Crs.join {ys:List Int} {a m b:Nat} (h:Crs kf ys a m b) (h1:Sgm kf ys a m) (h2:Sgm kf ys m b):Sgm kf ys a b:=fun i j g1 g2 g3=>by
 by_cases e1:j<m
 ·exact h1 i j g1 g2 e1
 by_cases e2:m≤i
 ·exact h2 i j e2 g2 g3
 exact h i j g1 (by omega) (by omega) g3
structure Cutd (kf:Int→Int) (xs:List Int) (a m b s e:Nat):Prop where
 le:a≤s∧s≤m∧m≤e∧e≤b
 low:∀ i j,a≤i→i<s→e≤j→j<b→kf (at0 xs i)≤kf (at0 xs j)
 high:∀ i j,s≤i→i<m→m≤j→j<e→kf (at0 xs j)<kf (at0 xs i)
theorem cutd {xs:List Int} {a m b s0 r0 s mid:Nat} (hm:mid=(a+b) / 2) (h1:a<m) (h2:m<b) (h0:(m > mid∧s0+b=mid+m∧r0=mid)∨(m≤mid∧s0=a∧r0=m)) (hs1:Sgm kf xs a m) (hs2:Sgm kf xs m b) (g1:s0≤s) (g2:s≤r0)
  (lo:∀ q,s0≤q→q<s→kf (at0 xs q)≤kf (at0 xs (mid+m - 1 - q))) (hi:∀ q,s≤q→q<r0→kf (at0 xs (mid+m - 1 - q))<kf (at0 xs q)):Cutd kf xs a m b s (mid+m - s) where
 le:=by omega
 low i j i1 i2 j1 j2:=by
  by_cases e:s=s0
  ·omega
  ·have hl:=lo (s - 1) (by omega) (by omega)
   have a1:kf (at0 xs i)≤kf (at0 xs (s - 1)):=by
    by_cases q:i=s - 1
    ·subst q; omega
    ·exact hs1 _ _ i1 (by omega) (by omega)
   have e2:mid+m - 1 - (s - 1)=mid+m - s:=by omega
   rw [e2] at hl
   have a2:kf (at0 xs (mid+m - s))≤kf (at0 xs j):=by
    by_cases q:j=mid+m - s
    ·subst q; omega
    ·exact hs2 _ _ (by omega) (by omega) j2
   omega
 high i j i1 i2 j1 j2:=by
  by_cases e:s=r0
  ·omega
  ·have hl:=hi s (by omega) (by omega)
   have a1:kf (at0 xs s)≤kf (at0 xs i):=by
    by_cases q:i=s
    ·subst q; omega
    ·exact hs1 _ _ (by omega) (by omega) i2
   have a2:kf (at0 xs j)≤kf (at0 xs (mid+m - 1 - s)):=by
    by_cases q:j=mid+m - 1 - s
    ·subst q; omega
    ·exact hs2 _ _ j1 (by omega) (by omega)
   omega
structure Trnd (kf:Int→Int) (xs ys:List Int) (a m b s e mid:Nat):Prop where
 rr:Rr kf a b xs ys
 g1:Sgm kf ys a s
 g2:Sgm kf ys s mid
 g3:Sgm kf ys mid e
 g4:Sgm kf ys e b
 cr:Crs kf ys a mid b
theorem trnd {xs ys:List Int} {a m b s mid:Nat} (c:Cutd kf xs a m b s (mid+m - s)) (hm:mid=(a+b) / 2) (h1:a<m) (h2:m<b) (h3:b≤xs.length) (hs1:Sgm kf xs a m) (hs2:Sgm kf xs m b) (hp:ys.Perm xs) (he:ys=Z2l xs (rotI s m (mid+m - s))):Trnd kf xs ys a m b s (mid+m - s) mid:=by
 obtain ⟨⟨l1,l2,l3,l4⟩,clo,chi⟩:=c
 have rr:=Z1e0 (kf:=kf) l2 l3 (by omega) hp he chi
 have key:∀ p,p<b→at0 ys p=at0 xs (rotI s m (mid+m - s) p):=fun p hp=>by rw [he,Z2u (by omega)]
 have k1:∀ p,p<s→rotI s m (mid+m - s) p=p:=fun p hp=>by unfold rotI; rw [if_neg (by omega),if_neg (by omega)]
 have k2:∀ p,s≤p→p<mid→rotI s m (mid+m - s) p=m+(p - s):=fun p h1 h2=>by unfold rotI; rw [if_pos (by omega)]
 have k3:∀ p,mid≤p→p<mid+m - s→rotI s m (mid+m - s) p=s+(p - mid):=fun p h1 h2=>by unfold rotI; rw [if_neg (by omega),if_pos (by omega)]; omega
 have k4:∀ p,mid+m - s≤p→rotI s m (mid+m - s) p=p:=fun p h1=>by unfold rotI; rw [if_neg (by omega),if_neg (by omega)]
 have ms:s≤mid:=by omega
 refine ⟨rr.wide l1 l4,fun i j i1 i2 i3=>?_,fun i j i1 i2 i3=>?_,fun i j i1 i2 i3=>?_,fun i j i1 i2 i3=>?_,fun i j i1 i2 i3 i4=>?_⟩
 ·rw [key i (by omega),key j (by omega),k1 i (by omega),k1 j (by omega)]
  exact hs1 i j i1 i2 (by omega)
 ·rw [key i (by omega),key j (by omega),k2 i (by omega) (by omega),k2 j (by omega) (by omega)]
  exact hs2 _ _ (by omega) (by omega) (by omega)
 ·rw [key i (by omega),key j (by omega),k3 i (by omega) (by omega),k3 j (by omega) (by omega)]
  exact hs1 _ _ (by omega) (by omega) (by omega)
 ·rw [key i (by omega),key j (by omega),k4 i (by omega),k4 j (by omega)]
  exact hs2 _ _ (by omega) (by omega) (by omega)
 ·rw [key i (by omega),key j (by omega)]
  by_cases e1:i<s
  ·rw [k1 i e1]
   by_cases e2:j<mid+m - s
   ·rw [k3 j i3 e2]; exact hs1 _ _ i1 (by omega) (by omega)
   ·rw [k4 j (by omega)]; exact clo i j i1 e1 (by omega) i4
  ·rw [k2 i (by omega) i2]
   by_cases e2:j<mid+m - s
   ·rw [k3 j i3 e2]
    have:=chi (s+(j - mid)) (m+(i - s)) (by omega) (by omega) (by omega) (by omega)
    omega
   ·rw [k4 j (by omega)]; exact hs2 _ _ (by omega) (by omega) (by omega)
theorem Z1a3 {xs:List Int} {s m e:Nat} (h1:s≤m) (h2:m≤e) (h:s=m∨m=e):Z2l xs (rotI s m e)=xs:=Z12u fun p _=>by
 unfold rotI; (repeat' split) <;> omega
end
end Go.Lift

namespace Go.Lift
theorem Zh5 {bed:List Nat} {x y:Int}:leB bed x y=true↔keyB bed x<keyB bed y∨(keyB bed x=keyB bed y∧x≤y):=by unfold leB; rw [decide_eq_true_eq]
theorem Z1a4 (bed:List Nat):∀ a b c:Int,leB bed a b=true→leB bed b c=true→leB bed a c=true:=fun a b c h1 h2=>by
 rw [Zh5] at *; omega
theorem Z1a5 (bed:List Nat):∀ a b:Int,(leB bed a b||leB bed b a)=true:=fun a b=>by
 rw [Bool.or_eq_true,Zh5,Zh5]; omega
theorem Z1bx {bed:List Nat} {a b:Int} (h1:leB bed a b=true) (h2:leB bed b a=true):a=b:=by
 rw [Zh5] at *; omega
theorem Zwh (a b:Int):(seg a b).length=b.toNat - a.toNat:=by unfold seg; rw [List.length_map,List.length_range']
theorem Z15s {a b x:Int} (h:x ∈ seg a b):(a.toNat:Int)≤x∧x<b.toNat:=by
 unfold seg at h
 obtain ⟨n,hn,rfl⟩:=List.mem_map.1 h
 rw [List.mem_range'_1] at hn
 omega
theorem Za8 (bed:List Nat) (a b:Int):(Z9d bed a b).Perm (seg a b):=List.mergeSort_perm _ _
theorem Zzp (bed:List Nat) (a b:Int):List.Pairwise (fun x y=>leB bed x y=true) (Z9d bed a b):=List.pairwise_mergeSort (Z1a4 bed) (Z1a5 bed) _
theorem Zts {bed:List Nat} {a b x:Int} (h:x ∈ Z9d bed a b):(a.toNat:Int)≤x∧x<b.toNat:=Z15s ((Za8 bed a b).mem_iff.1 h)
theorem Ztt (bed:List Nat) (a b:Int):(Z9d bed a b).length=b.toNat - a.toNat:=(Za8 bed a b).length_eq.trans (Zwh a b)
theorem Zbd {bed:List Nat} {a b:Int} {l:List Int} (hp:l.Perm (seg a b)) (hs:List.Pairwise (fun x y=>leB bed x y=true) l):l=Z9d bed a b :=
 List.Perm.eq_of_pairwise (fun x y _ _ h1 h2=>Z1bx h1 h2) hs (Zzp bed a b) (hp.trans (Za8 bed a b).symm)
theorem Z1db {l:List Int} {i:Nat} (h:i<l.length):l.drop i=at0 l i :: l.drop (i+1):=by
 rw [Zd5 h]; exact List.drop_eq_getElem_cons h
theorem Z1e1 {n:Nat} {l:List Int} (hl:l.length=n) (h:∀ j,j<n→at0 l j=j):l=seg 0 n:=by
 refine Zo9 (by rw [Zwh,hl]; simp) fun i hi=>?_
 rw [h i (by omega)]
 unfold at0 seg
 rw [List.getD_eq_getElem?_getD,List.getElem?_map,List.getElem?_range' (by simp; omega)]
 simp
theorem Z17j {bed:List Nat} {xs ys:List Int} {n:Nat} (hx:xs=seg 0 n) (h1:Rr (keyB bed) 0 xs.length xs ys) (h2:Sgm (keyB bed) ys 0 xs.length):ys=Z9d bed 0 n:=by
 subst hx
 have st:Stb (keyB bed) (seg 0 n):=fun i j hij hj _=>by
  have e:∀ k,k<n→at0 (seg 0 n) k=k:=fun k hk=>by
   unfold at0 seg
   rw [List.getD_eq_getElem?_getD,List.getElem?_map,List.getElem?_range' (by omega)]
   simp
  rw [Zwh] at hj
  rw [e i (by omega),e j (by omega)]
  omega
 refine Zbd h1.perm (List.pairwise_iff_getElem.2 fun i j hi hj hij=>?_)
 rw [← Zd5 hi,← Zd5 hj,Zh5]
 have a:=h2 i j (by omega) hij (by rw [← h1.len]; exact hj)
 have b:=h1.st st i j hij hj
 omega
end Go.Lift

namespace Go.Lift
section
variable {n:Int} {ar:Ar} (A:ArOk n ar)
include A
variable {f:List Int} {gv:Nat→List Int} {all:List Int} (hL:Z12s n ar f gv (4*Zh n) all)
 (hg:∀ c:Nat,(c:Int)<Zh n→∀ o:Nat,o<4→0≤(gv c).getD o 0∧(0<(gv c).getD o 0→0<outN ar f c o))
include hL hg
end
end Go.Lift

namespace Go.Lift
section
variable {n:Int} {ar:Ar} (A:ArOk n ar) {f:List Int} {gv:Nat→List Int} {all:List Int} (hL:Z12s n ar f gv (4*Zh n) all)
 (hg:∀ c:Nat,(c:Int)<Zh n→∀ o:Nat,o<4→0≤(gv c).getD o 0∧(0<(gv c).getD o 0→0<outN ar f c o))
include A hL hg
end
section
variable {n:Int} {ar:Ar} (A:ArOk n ar) {f:List Int} {gv:Nat→List Int} {all:List Int} (hL:Z12s n ar f gv (4*Zh n) all)
 (hg:∀ c:Nat,(c:Int)<Zh n→∀ o:Nat,o<4→0≤(gv c).getD o 0∧(0<(gv c).getD o 0→0<outN ar f c o))
include A hL hg
end
theorem Zzq {l:List Int} {k:Nat} {v:Int} (h:k<l.length):(l.set k v).getD k 0=v:=by
 rw [List.getD_eq_getElem?_getD,List.getElem?_set,if_pos rfl,if_pos h]; rfl
end Go.Lift

namespace Go.Lift
section
variable {N:Int} {w F:List Int} (lw:(w.length:Int)=Zh N) (lF:(F.length:Int)=(netE N).1.length) (hw:∀ x ∈ w,0≤x) (hF:∀ x ∈ F,Zto x=true)
include lw lF hw hF
section
variable {h:List Int} (lh:(h.length:Int)=Zh N) (hh:∀ x ∈ h,0≤x∧x≤9223372036854775807) (hok:∀ c:Nat,(c:Int)<Zh N→okTo (w.getD c 0) (Z1c9 (Z9b (some (netG N))) F c) (Z1c9 (Z9b (some (netG N))) F c).length)
include lh hh hok
end
end
end Go.Lift

namespace Go.Lift
theorem Ztu (s x:Int) (l:List Int):Z28 s (x :: l)=if x<0∨x > 4503599627370496 - s then false else Z28 (s+x) l:=rfl
theorem Z15t {x y:Int}:cmpI x y<0↔x<y:=by
 unfold cmpI; split
 ·exact ⟨fun _=>by assumption,fun _=>by decide⟩
 ·split
  ·exact ⟨fun h=>by omega,fun h=>by omega⟩
  ·exact ⟨fun h=>by omega,fun h=>by omega⟩
theorem Z15u {x y:Int}:cmpI x y > 0↔x > y:=by
 unfold cmpI; split
 ·exact ⟨fun h=>by omega,fun h=>by omega⟩
 ·split
  ·exact ⟨fun _=>by assumption,fun _=>by decide⟩
  ·exact ⟨fun h=>by omega,fun h=>by omega⟩
theorem Z15v {x y:Int}:cmpI x y=0↔x=y:=by
 unfold cmpI; split
 ·exact ⟨fun h=>by omega,fun h=>by omega⟩
 ·split
  ·exact ⟨fun h=>by omega,fun h=>by omega⟩
  ·exact ⟨fun h=>by omega,fun h=>by omega⟩
theorem Zje {bed:List Nat} {best to:Int} (h:0≤best) (h2:Z1h bed best<Z1h bed to∨(Z1h bed to=Z1h bed best∧best≤to)):Zjc bed best to=best:=by
 unfold Zjc; rw [if_neg (by omega)]
theorem Zcv {bed:List Nat} {best to:Int} (h2:best<0∨Z1h bed to<Z1h bed best∨(Z1h bed to=Z1h bed best∧to≤best)):Zjc bed best to=to:=by
 unfold Zjc
 by_cases q:best<0∨Z1h bed to<Z1h bed best∨(Z1h bed to=Z1h bed best∧to<best)
 ·rw [if_pos q]
 ·rw [if_neg q]; omega
theorem Zmi {cells n:Int} {bed:List Nat} {c:Int} (h:(bed.length:Int)≠cells∨c<0∨(bed.length:Int)≤c):Z2h true cells n bed c=-1:=by
 unfold Z2h; rw [if_pos (.inr h)]
theorem Zqj {cells n:Int} {bed:List Nat} {c:Int} (h1:(bed.length:Int)=cells) (h2:0≤c) (h3:c<(bed.length:Int)):Z2h true cells n bed c=Z7a n bed c:=by
 unfold Z2h; rw [if_neg (by simp; omega)]
theorem Z8f {n c:Int} {k:Nat} (hp:Zw n c=true) (hk:k<4):0≤(Z7 n c k).1∧(Z7 n c k).1<Zh n:=by
 obtain ⟨b1,_⟩:=Z57 (Z1q.2 ⟨hp,(by omega:(0:Int)≤k),(by omega:(k:Int)<4)⟩)
 exact Z2v b1
theorem Zgg {n c:Int} {bed:List Nat} (hp:Zw n c=true):∀ k:Nat,k≤4→-1≤Z1k n bed c k∧Z1k n bed c k<Zh n∧(0<k→∃ j,j<k∧Z1k n bed c k=(Z7 n c j).1) ∧
  ∀ j,j<k→Z1h bed (Z1k n bed c k)<Z1h bed (Z7 n c j).1∨(Z1h bed (Z1k n bed c k)=Z1h bed (Z7 n c j).1∧Z1k n bed c k≤(Z7 n c j).1)
 | 0,_=>⟨by show (-1:Int)≤-1; decide,by have:=Z2v hp; show (-1:Int)<_; omega,fun h=>by omega,fun j h=>by omega⟩
 | k+1,hk=>by
  obtain ⟨i1,i2,i3,i4⟩:=Zgg (bed:=bed) hp k (by omega)
  obtain ⟨t1,t2⟩:=Z8f hp (k:=k) (by omega)
  have e:Z1k n bed c (k+1)=Zjc bed (Z1k n bed c k) (Z7 n c k).1:=rfl
  by_cases q:Z1k n bed c k<0∨Z1h bed (Z7 n c k).1<Z1h bed (Z1k n bed c k)∨(Z1h bed (Z7 n c k).1=Z1h bed (Z1k n bed c k)∧(Z7 n c k).1≤Z1k n bed c k)
  ·rw [e,Zcv q]
   refine ⟨by omega,t2,fun _=>⟨k,by omega,rfl⟩,fun j hj=>?_⟩
   by_cases ej:j=k
   ·subst ej; exact .inr ⟨rfl,Int.le_refl _⟩
   ·have:=i4 j (by omega)
    rcases q with q | q | q
    ·obtain ⟨j0,g1,g2⟩:=i3 (by omega)
     have:=(Z8f hp (k:=j0) (by omega)).1
     omega
    ·omega
    ·omega
  ·rw [e,Zje (by omega) (by omega)]
   refine ⟨i1,i2,fun _=>?_,fun j hj=>?_⟩
   ·rcases Nat.eq_zero_or_pos k with z | z
    ·subst z
     exact absurd (.inl (show (-1:Int)<0 by decide)) q
    ·obtain ⟨j0,g1,g2⟩:=i3 z
     exact ⟨j0,by omega,g2⟩
   ·by_cases ej:j=k
    ·subst ej; omega
    ·exact i4 j (by omega)
theorem Z1ca {n c:Int} {bed:List Nat} (hp:Zw n c=true):0≤Z1k n bed c 4∧Z1k n bed c 4<Zh n:=by
 obtain ⟨i1,i2,i3,i4⟩:=Zgg (bed:=bed) hp 4 (by omega)
 obtain ⟨j0,g1,g2⟩:=i3 (by omega)
 have:=(Z8f hp (k:=j0) (by omega)).1
 exact ⟨by omega,i2⟩
theorem Zz4 {n c:Int} {bed:List Nat} (hp:Zw n c=true):Z7a n bed c=-1∨(0≤Z7a n bed c∧Z7a n bed c<Zh n∧Z1h bed (Z7a n bed c)<Z1h bed c∧Z7a n bed c=Z1k n bed c 4):=by
 unfold Z7a
 split
 ·have:=Z1ca (bed:=bed) hp
  exact .inr ⟨this.1,this.2,by assumption,rfl⟩
 ·exact .inl rfl
theorem Z1dc {n c:Int} {o:Nat} (ok:Z14 n c o=true):∃ q:Nat,q<(netE n).1.length∧(Z9b (some (netG n)) c o).1=q∧(Z79 (some (netG n)) q).1+(Z79 (some (netG n)) q).2.2.1=c+(Z7 n c o).1:=by
 obtain ⟨q,hq,h1,h2,h3⟩:=Z17e ok
 refine ⟨q,hq,by rw [h1],?_⟩
 have e:Z79 (some (netG n)) q=(netE n).1.getD q dEd:=by
  unfold Z79
  show (if (0:Int)≤q∧(q:Int)<((netE n).1.length:Nat) then (netE n).1.getD (q:Int).toNat dEd else dEd)=_
  rw [if_pos ⟨by omega,by omega⟩,Int.toNat_natCast]
 rw [e,List.getD_eq_getElem?_getD]
 rcases h3 with ⟨_,h3⟩ | ⟨_,h3⟩ <;> rw [h3]
 ·rfl
 ·show (Z7 n c o).1+c=_
  omega
end Go.Lift

namespace Go.Lift
theorem Zwi:∀ (l:List Int) (i:Nat) (v:Int),i<l.length→(l.set i v).sum=l.sum - at0 l i+v
 | [],i,v,h=>by simp at h
 | x :: l,0,v,h=>by
  rw [List.set_cons_zero,List.sum_cons,List.sum_cons]
  show v+l.sum=x+l.sum - x+v
  omega
 | x :: l,i+1,v,h=>by
  rw [List.set_cons_succ,List.sum_cons,List.sum_cons,Zwi l i v (by simpa using h)]
  show x+(l.sum - at0 l i+v)=x+l.sum - at0 l i+v
  omega
theorem Z15w:∀ {l:List Int},(∀ x ∈ l,0≤x)→0≤l.sum∧∀ x ∈ l,x≤l.sum
 | [],_=>⟨by simp,fun x h=>by cases h⟩
 | y :: l,h=>by
  obtain ⟨a,b⟩:=Z15w fun x hx=>h x (List.mem_cons_of_mem _ hx)
  have hy:=h y List.mem_cons_self
  rw [List.sum_cons]
  refine ⟨by omega,fun x hx=>?_⟩
  rcases List.mem_cons.1 hx with rfl | hx
  ·omega
  ·have:=b x hx; omega
theorem Z8g:∀ {l:List Int} {s:Int},Z28 s l=true→s≤4503599627370496→(∀ x ∈ l,0≤x)∧s+l.sum≤4503599627370496
 | [],s,_,hs=>⟨fun x h=>(by cases h),by simpa using hs⟩
 | y :: l,s,h,hs=>by
  rw [Ztu] at h
  by_cases q:y<0∨y > 4503599627370496 - s
  ·rw [if_pos q] at h; cases h
  ·rw [if_neg q] at h
   obtain ⟨a,b⟩:=Z8g h (by omega)
   rw [List.sum_cons]
   refine ⟨fun x hx=>?_,by omega⟩
   rcases List.mem_cons.1 hx with rfl | hx
   ·omega
   ·exact a x hx
structure Pool (n:Nat) (T:Int) (l:List Int):Prop where
 len:l.length=n
 nn:∀ x ∈ l,0≤x
 sum:l.sum=T
theorem Pool.at {n:Nat} {T:Int} {l:List Int} (h:Pool n T l) {i:Nat} (hi:i<n):0≤at0 l i∧at0 l i≤T:=by
 have:=h.len
 have m:=Zob (xs:=l) (p:=i) (by omega)
 exact ⟨h.nn _ m,by rw [← h.sum]; exact (Z15w h.nn).2 _ m⟩
theorem Pool.mv {n:Nat} {T:Int} {l:List Int} (h:Pool n T l) {i j d:Int} (i0:0≤i) (i1:i<n) (j0:0≤j) (j1:j<n) (d0:0≤d) (d1:d≤l.getD i.toNat 0) :
  Pool n T (mvL l i j d)∧0≤l.getD i.toNat 0 - d∧l.getD i.toNat 0 - d≤T∧0≤(l.set i.toNat (l.getD i.toNat 0 - d)).getD j.toNat 0+d∧(l.set i.toNat (l.getD i.toNat 0 - d)).getD j.toNat 0+d≤T:=by
 have hl:=h.len
 have hi:=h.at (i:=i.toNat) (by omega)
 have hi:0≤l.getD i.toNat 0∧l.getD i.toNat 0≤T:=hi
 have nn1:∀ x ∈ l.set i.toNat (l.getD i.toNat 0 - d),0≤x:=fun x hx=>by
  rcases List.mem_or_eq_of_mem_set hx with hx | rfl
  ·exact h.nn x hx
  ·omega
 have l1:(l.set i.toNat (l.getD i.toNat 0 - d)).length=n:=by rw [List.length_set]; exact hl
 have v0:=nn1 _ (Z5w (l:=l.set i.toNat (l.getD i.toNat 0 - d)) (i:=j.toNat) (by omega) 0)
 have P:Pool n T (mvL l i j d):=by
  refine ⟨by unfold mvL; rw [List.length_set]; exact l1,fun x hx=>?_,?_⟩
  ·unfold mvL at hx
   rcases List.mem_or_eq_of_mem_set hx with hx | rfl
   ·exact nn1 x hx
   ·omega
  ·unfold mvL
   rw [Zwi _ _ _ (by omega),Zwi _ _ _ (by omega),h.sum]
   show T - at0 l i.toNat+(at0 l i.toNat - d) - _+(_+d)=T
   unfold at0
   omega
 have hj:=P.at (i:=j.toNat) (by omega)
 have e:at0 (mvL l i j d) j.toNat=(l.set i.toNat (l.getD i.toNat 0 - d)).getD j.toNat 0+d:=by
  unfold mvL; rw [Z9c (by omega),if_pos rfl]
 rw [e] at hj
 exact ⟨P,by omega,by omega,hj.1,hj.2⟩
theorem Zwj {a b c:Int} (ha:0≤a) (hb:0≤b) (hbc:b≤c) (hc:1≤c):0≤part a b c∧part a b c≤a:=by
 refine ⟨(Z174 a b c).1,?_⟩
 have k:a*b / c≤a:=by
  refine Int.ediv_le_of_le_mul (by omega) ?_
  exact Int.mul_le_mul_of_nonneg_left hbc ha
 unfold part
 rw [if_neg (by omega),if_neg (by omega),if_neg (by omega)]
 split <;> omega
theorem Zjf {n:Nat} {W T:Int} {area down:Int→Int} {st:List Int × List Int} {c:Int} (h1:Pool n W st.1) (h2:Pool n T st.2) (c0:0≤c) (c1:c<n) (hd:down c<0∨(0≤down c∧down c<n)) :
  Pool n W (Z3e area down st c).1∧Pool n T (Z3e area down st c).2:=by
 unfold Z3e
 split
 ·exact ⟨h1,h2⟩
 ·rename_i q
  have a1:=h2.at (i:=c.toNat) (by omega)
  have a1:0≤st.2.getD c.toNat 0∧_:=a1
  have p:=Zwj (a:=st.2.getD c.toNat 0) (b:=st.1.getD c.toNat 0 / 4) (c:=st.1.getD c.toNat 0) a1.1 (by omega) (by omega) (by omega)
  exact ⟨(h1.mv c0 c1 (by omega) (by omega) (by omega) (by omega)).1,(h2.mv c0 c1 (by omega) (by omega) p.1 p.2).1⟩
theorem Zwk {n:Nat} {W T:Int} {area down:Int→Int} (hd:∀ c:Int,0≤c→c<(n:Int)→down c<0∨(0≤down c∧down c<(n:Int))):∀ (order:List Int) {st:List Int × List Int},(∀ c ∈ order,0≤c∧c<(n:Int))→Pool n W st.1→Pool n T st.2 →
  Pool n W (runA area down order st).1∧Pool n T (runA area down order st).2
 | [],st,_,h1,h2=>⟨h1,h2⟩
 | c :: l,st,hc,h1,h2=>by
  have h0:=hc c List.mem_cons_self
  obtain ⟨a,b⟩:=Zjf (area:=area) h1 h2 h0.1 h0.2 (hd c h0.1 h0.2)
  exact Zwk hd l (fun x hx=>hc x (List.mem_cons_of_mem _ hx)) a b
theorem Z1a6 {area down:Int→Int} {order:List Int} {st:List Int × List Int} {k:Nat} (hk:k<order.length):runA area down (order.take (k+1)) st=Z3e area down (runA area down (order.take k) st) (at0 order k):=by
 unfold runA
 have e:order.take (k+1)=order.take k++[at0 order k]:=by rw [Zd5 hk,List.take_append_getElem hk]
 rw [e,List.foldl_append]; rfl
theorem Z12z {n m:Int} {area down:Int→Int} {s:SeaT} (h:((Za7 n m s&&Z28 0 s.2.1)&&Z28 0 s.2.2.1)=false):runF true n m area down s=([],[],1,()):=by
 unfold runF; rw [if_neg (by decide),h]; rfl
theorem Zmj {n m:Int} {area down:Int→Int} {s:SeaT} (h1:Za7 n m s=true) (h2:Z28 0 s.2.1=true) (h3:Z28 0 s.2.2.1=true):runF true n m area down s=((runA area down (ordL s.1) (s.2.1,s.2.2.1)).1,(runA area down (ordL s.1) (s.2.1,s.2.2.1)).2,0,()):=by
 unfold runF; rw [if_neg (by decide),h1,h2,h3]; rfl
theorem Zfe {n m:Int} {s:SeaT}:Za7 n m s=true↔(s.1.length:Int)=n∧(s.2.1.length:Int)=n∧(s.2.2.1.length:Int)=n∧(s.2.2.2.1.length:Int)=m:=by
 unfold Za7
 simp only [Bool.and_eq_true,decide_eq_true_eq,and_assoc]
theorem Z1a7 {n:Int} {bed:List Nat} (hb:(bed.length:Int)=Zh n) (c:Int) (c0:0≤c) (c1:c<(bed.length:Int)):Z2h true (Zh n) n bed c<0∨(0≤Z2h true (Zh n) n bed c∧Z2h true (Zh n) n bed c<(bed.length:Int)):=by
 rw [Zqj hb c0 c1]
 have hp:Zw n c=true:=by
  obtain ⟨k,rfl⟩:∃ k:Nat,c=k:=⟨c.toNat,by omega⟩
  exact Zmg (by omega)
 rcases Zz4 (bed:=bed) hp with q | ⟨q1,q2,_⟩
 ·exact .inl (by omega)
 ·exact .inr ⟨q1,by omega⟩
theorem Z1a8 {n c:Int} (c0:0≤c) (c1:c<Zh n):Zj7 (some (netG n)) c=Z1j n c:=by
 have hl:(Z8c n).length=(Zh n).toNat:=by unfold Z8c; rw [List.length_map,List.length_range]
 show (if 0≤c∧c<((Z8c n).length:Nat) then (Z8c n).getD c.toNat 0 else 0)=_
 rw [if_pos ⟨c0,by omega⟩]
 unfold Z8c
 rw [List.getD_eq_getElem?_getD,List.getElem?_map,List.getElem?_range (by omega)]
 show Z1j n ((c.toNat:Nat):Int)=_
 rw [show ((c.toNat:Nat):Int)=c by omega]
end Go.Lift

namespace Go.Lift
theorem Z1a9 {l:List Int} {i j d:Int} {k:Nat} (hi:i.toNat<l.length) (hj:j.toNat<l.length) (hij:i.toNat≠j.toNat):at0 (mvL l i j d) k=if k=j.toNat then at0 l k+d else if k=i.toNat then at0 l k - d else at0 l k:=by
 have e1:(l.set i.toNat (l.getD i.toNat 0 - d)).getD j.toNat 0=at0 l j.toNat:=by
  show at0 (l.set i.toNat (l.getD i.toNat 0 - d)) j.toNat=_
  rw [Z9c hi,if_neg (fun q=>hij q.symm)]
 unfold mvL
 rw [e1,Z9c (by rw [List.length_set]; exact hj)]
 by_cases q:k=j.toNat
 ·rw [if_pos q,if_pos q,q]
 ·rw [if_neg q,if_neg q,Z9c hi]
  by_cases q2:k=i.toNat
  ·rw [if_pos q2,if_pos q2,q2]; try rfl
  ·rw [if_neg q2,if_neg q2]
def Z7v (n:Nat) (down:Int→Int):Prop:=∀ c:Int,0≤c→c<(n:Int)→down c<0∨(0≤down c∧down c<(n:Int)∧down c≠c)
theorem Z7v.weak {n:Nat} {down:Int→Int} (h:Z7v n down):∀ c:Int,0≤c→c<(n:Int)→down c<0∨(0≤down c∧down c<(n:Int)):=fun c a b=>(h c a b).imp id fun q=>⟨q.1,q.2.1⟩
theorem Ztv {n:Nat} {W T:Int} {area down:Int→Int} {st:List Int × List Int} {c:Int} (h1:Pool n W st.1) (h2:Pool n T st.2) (c0:0≤c) (c1:c<n) (hd:Z7v n down) (k:Nat) :
  (k≠c.toNat∨down c<0→at0 st.1 k≤at0 (Z3e area down st c).1 k∧at0 st.2 k≤at0 (Z3e area down st c).2 k)∧(k=c.toNat→at0 st.1 k - at0 st.1 k / 4≤at0 (Z3e area down st c).1 k):=by
 have hn:=h1.len
 have hn2:=h2.len
 unfold Z3e
 split
 ·refine ⟨fun _=>⟨Int.le_refl _,Int.le_refl _⟩,fun q=>?_⟩
  have:=(h1.at (i:=k) (by omega)).1
  omega
 ·rename_i q
  obtain ⟨d0,d1,d2⟩:=(hd c c0 c1).resolve_left fun z=>q (.inl z)
  have a1:=h2.at (i:=c.toNat) (by omega)
  have a1:0≤st.2.getD c.toNat 0∧_:=a1
  have p:=Zwj (a:=st.2.getD c.toNat 0) (b:=st.1.getD c.toNat 0 / 4) (c:=st.1.getD c.toNat 0) a1.1 (by omega) (by omega) (by omega)
  have g0:0<st.1.getD c.toNat 0:=by omega
  have ne:c.toNat≠(down c).toNat:=by omega
  have e:st.1.getD c.toNat 0=at0 st.1 c.toNat:=rfl
  dsimp only
  rw [Z1a9 (by omega) (by omega) ne,Z1a9 (by omega) (by omega) ne]
  refine ⟨fun z=>?_,fun z=>?_⟩
  ·have z:k≠c.toNat:=z.resolve_right (by omega)
   rw [if_neg z,if_neg z]
   constructor <;> split <;> omega
  ·subst z
   rw [if_neg ne,if_pos rfl,e]
   omega
theorem Zmk {n:Nat} {W T:Int} {area down:Int→Int} (hd:Z7v n down) (k:Nat):∀ (order:List Int) {st:List Int × List Int},(∀ c ∈ order,0≤c∧c<(n:Int))→(∀ c ∈ order,k≠c.toNat∨down c<0)→Pool n W st.1→Pool n T st.2 →
  at0 st.1 k≤at0 (runA area down order st).1 k∧at0 st.2 k≤at0 (runA area down order st).2 k
 | [],st,_,_,_,_=>⟨Int.le_refl _,Int.le_refl _⟩
 | c :: l,st,hc,hk,h1,h2=>by
  have h0:=hc c List.mem_cons_self
  obtain ⟨a,b⟩:=Zjf (area:=area) h1 h2 h0.1 h0.2 (hd.weak c h0.1 h0.2)
  obtain ⟨i1,i2⟩:=Zmk hd k l (fun x hx=>hc x (List.mem_cons_of_mem _ hx)) (fun x hx=>hk x (List.mem_cons_of_mem _ hx)) a b
  obtain ⟨j1,j2⟩:=(Ztv (area:=area) h1 h2 h0.1 h0.2 hd k).1 (hk c List.mem_cons_self)
  exact ⟨Int.le_trans j1 i1,Int.le_trans j2 i2⟩
theorem Zz5 {n:Nat} {W T:Int} {area down:Int→Int} (hd:Z7v n down) (k:Nat) (hkn:k<n):∀ (order:List Int) {st:List Int × List Int},(∀ c ∈ order,0≤c∧c<(n:Int))→order.Nodup→Pool n W st.1→Pool n T st.2 →
  at0 st.1 k - at0 st.1 k / 4≤at0 (runA area down order st).1 k
 | [],st,_,_,h1,h2=>by
  have:=(h1.at hkn).1
  show at0 st.1 k - at0 st.1 k / 4≤at0 st.1 k
  omega
 | c :: l,st,hc,hk,h1,h2=>by
  have h0:=hc c List.mem_cons_self
  obtain ⟨a,b⟩:=Zjf (area:=area) h1 h2 h0.1 h0.2 (hd.weak c h0.1 h0.2)
  obtain ⟨j1,j2⟩:=Ztv (area:=area) h1 h2 h0.1 h0.2 hd k
  have hcl:=fun x hx=>hc x (List.mem_cons_of_mem _ hx)
  obtain ⟨n1,n2⟩:=List.nodup_cons.1 hk
  by_cases q:k=c.toNat
  ·have:=(Zmk (area:=area) hd k l hcl (fun x hx=>.inl fun z=>n1 (by have:=(hcl x hx).1; rw [show c=x by omega]; exact hx)) a b).1
   exact Int.le_trans (j2 q) this
  ·have i1:=Zz5 (area:=area) hd k hkn l hcl n2 a b
   have:=(j1 (.inl q)).1
   refine Int.le_trans ?_ i1
   omega
theorem Z1aa (a b:Int):(seg a b).Nodup:=by
 unfold seg
 refine List.pairwise_map.2 ((List.nodup_range' (s:=a.toNat) (n:=b.toNat - a.toNat)).imp fun h q=>h ?_)
 exact Int.ofNat_inj.1 q
theorem Z1ab (bed:List Nat):(ordL bed).Nodup:=(Za8 bed 0 bed.length).nodup_iff.2 (Z1aa _ _)
theorem Zoc {bed:List Nat} {x:Int} (h:x ∈ ordL bed):0≤x∧x<(bed.length:Int):=by
 have:=Zts h
 omega
theorem Z1dd (bed:List Nat):(ordL bed).length=bed.length:=by
 have:=Ztt bed 0 bed.length
 rw [Int.toNat_natCast] at this
 exact this
theorem Zz6 {n:Int} {bed:List Nat} (hb:(bed.length:Int)=Zh n):Z7v bed.length (Z2h true (Zh n) n bed):=fun c c0 c1=>by
 rw [Zqj hb c0 c1]
 have hp:Zw n c=true:=by
  obtain ⟨k,rfl⟩:∃ k:Nat,c=k:=⟨c.toNat,by omega⟩
  exact Zmg (by omega)
 rcases Zz4 (bed:=bed) hp with q | ⟨q1,q2,q3,_⟩
 ·exact .inl (by omega)
 ·exact .inr ⟨q1,by omega,fun e=>by rw [e] at q3; omega⟩
end Go.Lift

namespace Go.Lift
open Go
theorem BLs.app {a b:List Int} (ha:BLs a) (hb:BLs b):BLs (a++b):=fun x h=>(List.mem_append.1 h).elim (ha x) (hb x)
theorem BLs.take {a:List Int} (ha:BLs a) (n:Nat):BLs (a.take n):=fun x h=>ha x (List.mem_of_mem_take h)
theorem BLs.drop {a:List Int} (ha:BLs a) (n:Nat):BLs (a.drop n):=fun x h=>ha x (List.mem_of_mem_drop h)
end Go.Lift

namespace Go.Lift
open Go
theorem Z1by {α:Type} {l:List α} {k n:Nat} (hl:l.length=k) (hk:k<n) (z v:α):(l++List.replicate (n - k) z).set (0+k) v=l++[v]++List.replicate (n - (k+1)) z:=by
 obtain ⟨m,hm⟩:∃ m,n - k=m+1:=⟨n - k - 1,by omega⟩
 rw [hm,show n - (k+1)=m by omega,List.replicate_succ,Nat.zero_add,Z15m hl,List.append_assoc]
 rfl
end Go.Lift

namespace Go.Lift
open Go
end Go.Lift

namespace Go.Lift
open Go
end Go.Lift

namespace Go.Lift
open Go
def Zjg (g:Option Gr) (c:Nat):Int:=if c=1 then iw (2*Zj7 g c) else Zj7 g c
theorem Z1ac {l:List Int} {k:Nat} (hl:l.length=k) (a:Int) (r:List Int):(l++[a]++r).set (0+k) (i64.wrap (2*(l++[a]++r).getD (0+k) 0))=l++[iw (2*a)]++r:=by
 rw [Nat.zero_add,List.append_assoc,List.append_assoc]
 show (l++a :: r).set k (i64.wrap (2*(l++a :: r).getD k 0))=l++iw (2*a) :: r
 rw [Z15m hl]
 have:(l++a :: r).getD k 0=a:=by
  rw [List.getD_eq_getElem?_getD,List.getElem?_append_right (by omega),hl,Nat.sub_self]; rfl
 rw [this]; rfl
theorem new1:newR 1=(some (netG 1),0,()):=by unfold newR; rw [if_neg (by decide)]
end Go.Lift

namespace Go.Lift
def Z43:List Nat:=[4617315517961601024,4616189618054758400,4613937818241073152,4611686018427387904,4607182418800017408,0]
theorem Z1bz:ordL Z43=[0,1,2,3,4,5]:=(Zbd (by decide +kernel) (by decide +kernel)).symm
theorem Z1ad:ordL [4607182418800017408,4613937818241073152,4611686018427387904,4613937818241073152]=[1,3,2,0]:=(Zbd (by decide +kernel) (by decide +kernel)).symm
def Z17k:SeaT:=(Z43,[100,0,0,0,0,0],[10,0,0,0,0,0],[0,0,0,0,0,0,0,0,0,0,0,0],0,0)
theorem Z1ae:runA (Z1j 1) (Z2h true 6 1 Z43) [0,1,2,3,4,5] ([100,0,0,0,0,0],[10,0,0,0,0,0])=([75,0,0,0,0,25],[8,0,0,0,0,2]):=by decide +kernel
theorem Zcw:Z53 (some (netG 1))=6:=by rw [Z4t]; decide
theorem Ztw:Zh4 (some (netG 1))=12:=by decide +kernel
theorem Z1c0:Z3j (some (netG 1)) Z17k=([75,0,0,0,0,25],[8,0,0,0,0,2],0,()):=by
 show runF true (Z53 (some (netG 1))) (Zh4 (some (netG 1))) (Z1j 1) (Z2h true (Z53 (some (netG 1))) 1 Z17k.1) Z17k=_
 rw [Zcw,Ztw,Zmj (by decide) (by decide) (by decide)]
 show ((runA (Z1j 1) (Z2h true 6 1 Z43) (ordL Z43) ([100,0,0,0,0,0],[10,0,0,0,0,0])).1,(runA (Z1j 1) (Z2h true 6 1 Z43) (ordL Z43) ([100,0,0,0,0,0],[10,0,0,0,0,0])).2,0,())=_
 rw [Z1bz,Z1ae]
theorem Z17l:Z3d (some (netG 1)) Z43 0=(5,()):=by
 show r1 (Z2h true (Z53 (some (netG 1))) 1 Z43 0)=_
 rw [Zcw]; decide +kernel
theorem Z17m:Z3d (some (netG 1)) Z43 5=(-1,()):=by
 show r1 (Z2h true (Z53 (some (netG 1))) 1 Z43 5)=_
 rw [Zcw]; decide +kernel
def Zod:Nat→List Int
 | 0=>[1431655765,2863311530,1431655765,1431655765,1431655765,1431655765]
 | k+1=>(Zod k).set k 0
def Z11c:Nat→List Nat
 | 0=>[0,0,0,0,0,0]
 | k+1=>(Z11c k).set k (f64.nearest (5 - (k:Int)))
theorem Z1e2:Z11c 6=Z43:=by decide +kernel
theorem Z1e3:(Zod 6).set 0 100=[100,0,0,0,0,0]:=by decide
theorem Zwl:AllW Z43:=by unfold AllW W64 Z43; decide
theorem Z1e4:(List.range 6).map (Zjg (some (netG 1)))=Zod 0:=by decide +kernel
theorem Z1af (n:Int):(Zh n=0∧newR n=(none,10,())∧Z117 n=(none,10,()))∨(Zh n≠0∧Z1z n=true∧newR n=(some (netG n),0,())∧Z117 n=(some (Z17d n),0,())):=by
 by_cases q:Zh n=0
 ·exact .inl ⟨q,by unfold newR; rw [if_pos q],by unfold Z117; rw [if_pos q]⟩
 ·refine .inr ⟨q,?_,by unfold newR; rw [if_neg q],by unfold Z117; rw [if_neg q]⟩
  unfold Zh at q
  by_cases g:Z1z n=true
  ·exact g
  ·exact absurd (if_neg g) q
structure Ran (n:Int) (s:SeaT) (w t:List Int):Prop where
 bed:(s.1.length:Int)=Zh n
 wat:s.2.1.length=s.1.length
 tra:s.2.2.1.length=s.1.length
 p1:Pool s.1.length s.2.1.sum s.2.1
 p2:Pool s.1.length s.2.2.1.sum s.2.2.1
 b1:s.2.1.sum≤4503599627370496
 b2:s.2.2.1.sum≤4503599627370496
 run:runA (Z1j n) (Z2h true (Zh n) n s.1) (ordL s.1) (s.2.1,s.2.2.1)=(w,t)
 q1:Pool s.1.length s.2.1.sum w
 q2:Pool s.1.length s.2.2.1.sum t
theorem Z1de (n:Int) (s:SeaT):Z3j (some (netG n)) s=([],[],1,())∨∃ w t,Z3j (some (netG n)) s=(w,t,0,())∧Ran n s w t:=by
 have e:Z3j (some (netG n)) s=runF true (Zh n) (Zh4 (some (netG n))) (Z1j n) (Z2h true (Zh n) n s.1) s:=by
  show runF true (Z53 (some (netG n))) _ (Z1j n) (Z2h true (Z53 (some (netG n))) n s.1) s=_
  rw [Z4t]
 obtain ⟨m,hm⟩:∃ m,Zh4 (some (netG n))=m:=⟨_,rfl⟩
 rw [e,hm]
 by_cases q:((Za7 (Zh n) m s&&Z28 0 s.2.1)&&Z28 0 s.2.2.1)=true
 ·right
  rw [Bool.and_eq_true,Bool.and_eq_true] at q
  obtain ⟨⟨h1,h2⟩,h3⟩:=q
  have f:=Zfe.1 h1
  have k1:=Z8g h2 (by decide)
  have k2:=Z8g h3 (by decide)
  have p1:Pool s.1.length s.2.1.sum s.2.1:=⟨by omega,k1.1,rfl⟩
  have p2:Pool s.1.length s.2.2.1.sum s.2.2.1:=⟨by omega,k2.1,rfl⟩
  have q:=Zwk (area:=Z1j n) (Zz6 (n:=n) (bed:=s.1) f.1).weak (ordL s.1) (st:=(s.2.1,s.2.2.1)) (fun c hc=>Zoc hc) p1 p2
  exact ⟨_,_,Zmj h1 h2 h3,⟨f.1,by omega,by omega,p1,p2,by omega,by omega,rfl,q.1,q.2⟩⟩
 ·exact .inl (Z12z (by simpa using q))
theorem Ran.keep {n:Int} {s:SeaT} {w t:List Int} (h:Ran n s w t) {k:Nat} (hk:k<s.1.length) :
  at0 s.2.1 k - at0 s.2.1 k / 4≤at0 w k∧(Z2h true (Zh n) n s.1 k<0→at0 s.2.1 k≤at0 w k∧at0 s.2.2.1 k≤at0 t k):=by
 have he:=Zz6 (n:=n) (bed:=s.1) h.bed
 constructor
 ·have:=Zz5 (area:=Z1j n) he k hk (ordL s.1) (st:=(s.2.1,s.2.2.1)) (fun c hc=>Zoc hc) (Z1ab _) h.p1 h.p2
  rw [h.run] at this; exact this
 ·intro hd
  have:=Zmk (area:=Z1j n) he k (ordL s.1) (st:=(s.2.1,s.2.2.1)) (fun c hc=>Zoc hc) (fun c hc=>by
   by_cases q:k=c.toNat
   ·right
    have:=(Zoc hc).1
    rw [show c=(k:Int) by omega]; exact hd
   ·exact .inl q) h.p1 h.p2
  rw [h.run] at this; exact this
end Go.Lift

namespace Go.Lift
def Z11d (s:SeaT):Bool × Unit:=r1 (decide (65536<(s.1.length:Int))||decide (65536<(s.2.1.length:Int))||decide (65536<(s.2.2.1.length:Int))||decide (65536<(s.2.2.2.1.length:Int)))
end Go.Lift

namespace Go.Lift
section
variable {α:Type} (L:List α) (x z d:α)
theorem Zjh:List.take ((L.length:Int) - 0).toNat (List.drop (0+Int.toNat 0) (List.replicate (Int.toNat 0) z++L++[x]))=L:=by simp
theorem Ztx:(List.replicate (Int.toNat 0) z++L++[x]).getD (0+Int.toNat 0+Int.toNat 0+L.length) d=x:=by simp
variable {L x z} (h:L.length≤65536)
include h
theorem Z1e5:i64.wrap ((L.length:Int)+9)=(L.length:Int)+9:=wi ⟨by omega,by omega⟩
theorem Z1ag:i64.wrap ((L.length:Int)+1)=(L.length:Int)+1:=wi ⟨by omega,by omega⟩
theorem cop1:(0:Int)≤0∧0≤i64.wrap ((L.length:Int)+9)∧i64.wrap ((L.length:Int)+9)*((8:Nat):Int)≤281474976710656:=by
 rw [Z1e5 h]; omega
theorem cop2:Int.toNat 0=(List.replicate (Int.toNat 0) z).length∧((List.replicate (Int.toNat 0) z).length+L.length)*8≤140737488355328:=by
 simp; omega
theorem cop3:(List.replicate (Int.toNat 0) z).length+L.length=(List.replicate (Int.toNat 0) z++L).length∧((List.replicate (Int.toNat 0) z++L).length+1)*8≤140737488355328:=by
 simp; omega
theorem cop4:(0:Int)≤0∧0≤(L.length:Int)∧((L.length:Int)≤(((List.replicate (Int.toNat 0) z++L).length+1:Nat):Int)∨0+L.length≤(List.replicate (Int.toNat 0) z++L++[x]).length) :=
 ⟨Int.le_refl _,by omega,.inr (by simp)⟩
theorem cop5:(0:Int)≤0∧0≤i64.wrap ((L.length:Int)+1)∧(i64.wrap ((L.length:Int)+1)≤((((L.length:Int) - 0).toNat:Nat):Int)∨0+Int.toNat 0+(i64.wrap ((L.length:Int)+1)).toNat≤(List.replicate (Int.toNat 0) z++L++[x]).length):=by
 rw [Z1ag h]
 exact ⟨Int.le_refl _,by omega,.inr (by simp)⟩
theorem cop6:0≤(L.length:Int)∧(L.length:Int)<(((i64.wrap ((L.length:Int)+1) - 0).toNat:Nat):Int):=by
 rw [Z1ag h]; omega
end
theorem Zz7:fcmp .neq (f64.format.order 4635118810238550016 4635118810238550016)=false:=by
 show fcmp .neq (Ieee.double.order 4635118810238550016 4635118810238550016)=false
 rw [Zit]; decide
theorem Zqk {α:Type} (L:List α):List.take L.length (List.drop 0 L)=L:=by simp
end Go.Lift

namespace Go.Lift
def Zbe:=fun (s:List Nat × List Int × List Int × List Nat × Int × Int) (post:Bool × Unit→Prop)=>∀ (a:Bool),a=decide ((↑s.fst.length:Int) > (65536:Int))
 → Br a (post (true,())) (∀ (a:Bool),a=decide ((↑s.snd.fst.length:Int) > (65536:Int))→Br a (post (true,())) (∀ (a:Bool),a=decide ((↑s.snd.snd.fst.length
 : Int) > (65536:Int))→Br a (post (true,())) (∀ (a:Bool),a=decide ((↑s.snd.snd.snd.fst.length:Int) > (65536:Int))→post (a,()))))
theorem Zzr (s:(List Nat) × (List Int) × (List Int) × (List Nat) × Int × Int):Zbe  s (fun r=>r=Z11d s):=by
 have key:Z11d s=(decide (65536<(s.1.length:Int))||decide (65536<(s.2.1.length:Int))||decide (65536<(s.2.2.1.length:Int))||decide (65536<(s.2.2.2.1.length:Int)),()):=rfl
 rw [key]
 have g:∀ k:Nat,decide ((k:Int) > 65536)=decide (65536<(k:Int)):=fun _=>rfl
 rintro _ rfl
 refine Br.intro (fun e=>?_) fun e=>?_
 ·rw [← g,e]; rfl
 rintro _ rfl
 refine Br.intro (fun e2=>?_) fun e2=>?_
 ·rw [← g s.1.length,e,← g,e2]; rfl
 rintro _ rfl
 refine Br.intro (fun e3=>?_) fun e3=>?_
 ·rw [← g s.1.length,e,← g s.2.1.length,e2,← g,e3]; rfl
 rintro _ rfl
 rw [← g s.1.length,e,← g s.2.1.length,e2,← g s.2.2.1.length,e3]; rfl
def Z1 (ty39:Nat) (s:List Nat × List Int × List Int × List Nat × Int × Int):HObj:=HObj.box Md.rw ty39 [SV.data (K.flt f64).slice s.fst,
 SV.data (K.int i64).slice s.snd.fst,SV.data (K.int i64).slice s.snd.snd.fst,SV.data (K.flt f64).slice s.snd.snd.snd.fst,SV.val (Go.Value.int
 i64 s.snd.snd.snd.snd.fst),SV.val (Go.Value.int i64 s.snd.snd.snd.snd.snd)]
def Z0 (ty39:Nat) (s:List Nat × List Int × List Int × List Nat × Int × Int):HObj:=HObj.box Md.rw ty39 [SV.osl (8:Nat) (0:Nat) ((↑s.fst.length:Int) -
 (0:Int)).toNat,SV.osl (16:Nat) (0:Nat) ((↑s.snd.fst.length:Int) - (0:Int)).toNat,SV.osl (20:Nat) (0:Nat) ((↑s.snd.snd.fst.length:Int) - (0:Int)).toNat,SV.osl
 (12:Nat) (0:Nat) ((↑s.snd.snd.snd.fst.length:Int) - (0:Int)).toNat,SV.val (Go.Value.int i64 s.snd.snd.snd.snd.fst),SV.val (Go.Value.int i64
 s.snd.snd.snd.snd.snd)]
def Z5 (ty59:Nat):HObj:=HObj.row Md.rw ty59 (K.flt f64) [(4635118810238550016:Nat)]
def Zp (ty59:Nat) (s:List Nat × List Int × List Int × List Nat × Int × Int):HObj:=HObj.row Md.rw ty59 (K.flt f64) (List.replicate (Int.toNat
 (0:Int)) (0:Nat)++s.fst++[(4635118810238550016:Nat)])
def Zq (ty59:Nat) (s:List Nat × List Int × List Int × List Nat × Int × Int):HObj:=HObj.row Md.rw ty59 (K.flt f64) (List.replicate (Int.toNat
 (0:Int)) (0:Nat)++s.snd.snd.snd.fst++[(4635118810238550016:Nat)])
def Z6 (ty2:Nat):HObj:=HObj.row Md.rw ty2 (K.int i64) [(77:Int)]
def Zr (ty2:Nat) (s:List Nat × List Int × List Int × List Nat × Int × Int):HObj:=HObj.row Md.rw ty2 (K.int i64) (List.replicate (Int.toNat (0 :
 Int)) (0:Int)++s.snd.fst++[(77:Int)])
def Zs (ty2:Nat) (s:List Nat × List Int × List Int × List Nat × Int × Int):HObj:=HObj.row Md.rw ty2 (K.int i64) (List.replicate (Int.toNat (0 :
 Int)) (0:Int)++s.snd.snd.fst++[(77:Int)])
def Z8h (ty2:Nat) (a:List Int × List Int × Int × Unit):HObj:=HObj.row Md.rw ty2 (K.int i64) a.fst
def Z29 (ty2:Nat) (a:List Int × List Int × Int × Unit):HObj:=HObj.row Md.rw ty2 (K.int i64) a.snd.fst
def Zj (ty2:Nat) (a_3:List Int × List Int × Int × Unit):HObj:=HObj.row Md.rw ty2 (K.int i64) a_3.fst
def Zk (ty2:Nat) (a_3:List Int × List Int × Int × Unit):HObj:=HObj.row Md.rw ty2 (K.int i64) a_3.snd.fst
def Z1e (ty3:Nat) (a_4:List Int × Unit):HObj:=HObj.row Md.rw ty3 (K.int i64) a_4.fst
def Zl (ty3:Nat) (a_5:List Int × Unit):HObj:=HObj.row Md.rw ty3 (K.int i64) a_5.fst
def Zm (ty2:Nat) (a_3:List Int × List Int × Int × Unit):HObj:=HObj.row Md.rw ty2 (K.int i64) ([]++List.take a_3.fst.length (List.drop (0:Nat)
 a_3.fst))
def Zn (ty2:Nat) (a_3:List Int × List Int × Int × Unit):HObj:=HObj.row Md.rw ty2 (K.int i64) ([]++List.take a_3.snd.fst.length (List.drop (0 :
 Nat) a_3.snd.fst))
def Zo (ty3:Nat) (a_5:List Int × Unit):HObj:=HObj.row Md.rw ty3 (K.int i64) ([]++List.take a_5.fst.length (List.drop (0:Nat) a_5.fst))
def Z7w (ty2:Nat) (y:List Int × Unit) (x:Int × Unit):HObj:=HObj.row Md.rw ty2 (K.int i64) (y.fst.set ((0:Nat)+x.fst.toNat) (77:Int))
def Z18 (ty2:Nat) (y:List Int × Unit):HObj:=HObj.row Md.rw ty2 (K.int i64) y.fst
def Z7x (ty2:Nat) (y_1:List Int × Unit) (x:Int × Unit):HObj:=HObj.row Md.rw ty2 (K.int i64) (y_1.fst.set ((0:Nat)+x.fst.toNat) (79:Int))
def Z1m (ty2:Nat) (y_1:List Int × Unit):HObj:=HObj.row Md.rw ty2 (K.int i64) y_1.fst
def Z7y (ty3:Nat) (y_2:List Int × Unit) (x:Int × Unit):HObj:=HObj.row Md.rw ty3 (K.int i64) (y_2.fst.set ((0:Nat)+x.fst.toNat) (77:Int))
def Z2z (ty3:Nat) (y_2:List Int × Unit):HObj:=HObj.row Md.rw ty3 (K.int i64) y_2.fst
def Z58:=fun (ty39 ty59 ty2 ty3:Nat) (n:Int) (s:List Nat × List Int × List Int × List Nat × Int × Int) (post:Bool × Unit→Prop)=>∃ (h:True),∀ (a :
 Bool × Unit),a=yesR→∀ (a_1:Bool),a_1=a.fst→Br (!a_1) (post (false,())) (∃ (h:I64 n),∀ (a:Bool),a=((newR n).snd.fst != (0:Int))→Br a (post (true,
 ())) (∃ (h:True),∀ (a:Bool × Unit),a=Z11d (s.fst,s.snd.fst,s.snd.snd.fst,s.snd.snd.snd.fst,s.snd.snd.snd.snd.fst,s.snd.snd.snd.snd.snd)→∀ (a_2:Bool),a_2=a.fst
 → Br a_2 (post (true,())) (∃ (h:(0:Int)≤(0:Int)∧(0:Int)≤i64.wrap ((↑s.fst.length:Int)+(9:Int))∧i64.wrap ((↑s.fst.length:Int)+(9 :
 Int))*(↑(8:Nat):Int)≤(281474976710656:Int)),∃ (h:Int.toNat (0:Int)=(List.replicate (Int.toNat (0:Int)) (0:Nat)).length∧((List.replicate (Int.toNat (0 :
 Int)) (0:Nat)).length+s.fst.length)*(8:Nat)≤(140737488355328:Nat)),∃ (h:(List.replicate (Int.toNat (0:Int)) (0:Nat)).length+s.fst.length=(List.replicate
 (Int.toNat (0:Int)) (0:Nat)++s.fst).length∧((List.replicate (Int.toNat (0:Int)) (0:Nat)++s.fst).length+(1:Nat))*(8:Nat)≤(140737488355328:Nat)),∃ (h:(0
 : Int)≤(0:Int)∧(0:Int)≤(↑s.fst.length:Int)∧((↑s.fst.length:Int)≤(↑((List.replicate (Int.toNat (0:Int)) (0:Nat)++s.fst).length+(1:Nat)):Int)∨(0 :
 Nat)+s.fst.length≤(List.replicate (Int.toNat (0:Int)) (0:Nat)++s.fst++[(4635118810238550016:Nat)]).length)),∃ (h:(0:Int)≤(0:Int)∧(0:Int) ≤
 i64.wrap ((↑s.snd.snd.snd.fst.length:Int)+(9:Int))∧i64.wrap ((↑s.snd.snd.snd.fst.length:Int)+(9:Int))*(↑(8:Nat):Int)≤(281474976710656 :
 Int)),∃ (h:Int.toNat (0:Int)=(List.replicate (Int.toNat (0:Int)) (0:Nat)).length∧((List.replicate (Int.toNat (0:Int)) (0:Nat)).length+s.snd.snd.snd.fst.length)
 * (8:Nat)≤(140737488355328:Nat)),∃ (h:(List.replicate (Int.toNat (0:Int)) (0:Nat)).length+s.snd.snd.snd.fst.length=(List.replicate (Int.toNat (0:Int)) (0:Nat)
 ++ s.snd.snd.snd.fst).length∧((List.replicate (Int.toNat (0:Int)) (0:Nat)++s.snd.snd.snd.fst).length+(1:Nat))*(8:Nat)≤(140737488355328:Nat)),∃ (h:(0:Int)
 ≤ (0:Int)∧(0:Int)≤(↑s.snd.snd.snd.fst.length:Int)∧((↑s.snd.snd.snd.fst.length:Int)≤(↑((List.replicate (Int.toNat (0:Int)) (0:Nat)++s.snd.snd.snd.fst).length
 + (1:Nat)):Int)∨(0:Nat)+s.snd.snd.snd.fst.length≤(List.replicate (Int.toNat (0:Int)) (0:Nat)++s.snd.snd.snd.fst++[(4635118810238550016:Nat)]).length)),∃ (h
 : (0:Int)≤(0:Int)∧(0:Int)≤i64.wrap ((↑s.snd.fst.length:Int)+(9:Int))∧i64.wrap ((↑s.snd.fst.length:Int)+(9:Int))*(↑(8:Nat):Int) ≤
 (281474976710656:Int)),∃ (h:Int.toNat (0:Int)=(List.replicate (Int.toNat (0:Int)) (0:Int)).length∧((List.replicate (Int.toNat (0:Int)) (0:Int)).length +
 s.snd.fst.length)*(8:Nat)≤(140737488355328:Nat)),∃ (h:(List.replicate (Int.toNat (0:Int)) (0:Int)).length+s.snd.fst.length=(List.replicate (Int.toNat (0:Int))
 (0:Int)++s.snd.fst).length∧((List.replicate (Int.toNat (0:Int)) (0:Int)++s.snd.fst).length+(1:Nat))*(8:Nat)≤(140737488355328:Nat)),∃ (h:(0:Int)≤(0 :
 Int)∧(0:Int)≤(↑s.snd.fst.length:Int)∧((↑s.snd.fst.length:Int)≤(↑((List.replicate (Int.toNat (0:Int)) (0:Int)++s.snd.fst).length+(1:Nat)):Int)∨(0:Nat)
 + s.snd.fst.length≤(List.replicate (Int.toNat (0:Int)) (0:Int)++s.snd.fst++[(77:Int)]).length)),∃ (h:(0:Int)≤(0:Int)∧(0:Int)≤i64.wrap
 ((↑s.snd.snd.fst.length:Int)+(9:Int))∧i64.wrap ((↑s.snd.snd.fst.length:Int)+(9:Int))*(↑(8:Nat):Int)≤(281474976710656:Int)),∃ (h:Int.toNat (0 :
 Int)=(List.replicate (Int.toNat (0:Int)) (0:Int)).length∧((List.replicate (Int.toNat (0:Int)) (0:Int)).length+s.snd.snd.fst.length)*(8:Nat)≤(140737488355328 :
 Nat)),∃ (h:(List.replicate (Int.toNat (0:Int)) (0:Int)).length+s.snd.snd.fst.length=(List.replicate (Int.toNat (0:Int)) (0:Int)++s.snd.snd.fst).length ∧
 ((List.replicate (Int.toNat (0:Int)) (0:Int)++s.snd.snd.fst).length+(1:Nat))*(8:Nat)≤(140737488355328:Nat)),∃ (h:(0:Int)≤(0:Int)∧(0:Int) ≤
 (↑s.snd.snd.fst.length:Int)∧((↑s.snd.snd.fst.length:Int)≤(↑((List.replicate (Int.toNat (0:Int)) (0:Int)++s.snd.snd.fst).length+(1:Nat)):Int)∨(0:Nat) +
 s.snd.snd.fst.length≤(List.replicate (Int.toNat (0:Int)) (0:Int)++s.snd.snd.fst++[(77:Int)]).length)),∃ (h:WRun (newR n).fst (List.take ((↑s.fst.length:Int) - (0
 : Int)).toNat (List.drop ((0:Nat)+Int.toNat (0:Int)) (List.replicate (Int.toNat (0:Int)) (0:Nat)++s.fst++[(4635118810238550016:Nat)])),List.take
 ((↑s.snd.fst.length:Int) - (0:Int)).toNat (List.drop ((0:Nat)+Int.toNat (0:Int)) (List.replicate (Int.toNat (0:Int)) (0:Int)++s.snd.fst++[(77:Int)])),
 List.take ((↑s.snd.snd.fst.length:Int) - (0:Int)).toNat (List.drop ((0:Nat)+Int.toNat (0:Int)) (List.replicate (Int.toNat (0:Int)) (0:Int)++s.snd.snd.fst++[(77 :
 Int)])),List.take ((↑s.snd.snd.snd.fst.length:Int) - (0:Int)).toNat (List.drop ((0:Nat)+Int.toNat (0:Int)) (List.replicate (Int.toNat (0:Int)) (0:Nat) ++
 s.snd.snd.snd.fst++[(4635118810238550016:Nat)])),s.snd.snd.snd.snd.fst,s.snd.snd.snd.snd.snd)),∀ (a:List Int × List Int × Int × Unit),a=Z3j (newR n).fst (List.take
 ((↑s.fst.length:Int) - (0:Int)).toNat (List.drop ((0:Nat)+Int.toNat (0:Int)) (List.replicate (Int.toNat (0:Int)) (0:Nat)++s.fst++[(4635118810238550016:Nat)])),
 List.take ((↑s.snd.fst.length:Int) - (0:Int)).toNat (List.drop ((0:Nat)+Int.toNat (0:Int)) (List.replicate (Int.toNat (0:Int)) (0:Int)++s.snd.fst++[(77 :
 Int)])),List.take ((↑s.snd.snd.fst.length:Int) - (0:Int)).toNat (List.drop ((0:Nat)+Int.toNat (0:Int)) (List.replicate (Int.toNat (0:Int)) (0:Int)++s.snd.snd.fst
 ++ [(77:Int)])),List.take ((↑s.snd.snd.snd.fst.length:Int) - (0:Int)).toNat (List.drop ((0:Nat)+Int.toNat (0:Int)) (List.replicate (Int.toNat (0:Int)) (0:Nat) ++
 s.snd.snd.snd.fst++[(4635118810238550016:Nat)])),s.snd.snd.snd.snd.fst,s.snd.snd.snd.snd.snd)→∃ (h:WRun (newR n).fst (List.take ((↑s.fst.length:Int) - (0:Int)).toNat
 (List.drop ((0:Nat)+Int.toNat (0:Int)) (List.replicate (Int.toNat (0:Int)) (0:Nat)++s.fst++[(4635118810238550016:Nat)])),List.take ((↑s.snd.fst.length:Int) - (0
 : Int)).toNat (List.drop ((0:Nat)+Int.toNat (0:Int)) (List.replicate (Int.toNat (0:Int)) (0:Int)++s.snd.fst++[(77:Int)])),List.take ((↑s.snd.snd.fst.length:Int)
 - (0:Int)).toNat (List.drop ((0:Nat)+Int.toNat (0:Int)) (List.replicate (Int.toNat (0:Int)) (0:Int)++s.snd.snd.fst++[(77:Int)])),List.take
 ((↑s.snd.snd.snd.fst.length:Int) - (0:Int)).toNat (List.drop ((0:Nat)+Int.toNat (0:Int)) (List.replicate (Int.toNat (0:Int)) (0:Nat)++s.snd.snd.snd.fst ++
 [(4635118810238550016:Nat)])),s.snd.snd.snd.snd.fst,s.snd.snd.snd.snd.snd)),∀ (a_3:List Int × List Int × Int × Unit),a_3=Z3j (newR n).fst (List.take ((↑s.fst.length :
 Int) - (0:Int)).toNat (List.drop ((0:Nat)+Int.toNat (0:Int)) (List.replicate (Int.toNat (0:Int)) (0:Nat)++s.fst++[(4635118810238550016:Nat)])),List.take
 ((↑s.snd.fst.length:Int) - (0:Int)).toNat (List.drop ((0:Nat)+Int.toNat (0:Int)) (List.replicate (Int.toNat (0:Int)) (0:Int)++s.snd.fst++[(77:Int)])),
 List.take ((↑s.snd.snd.fst.length:Int) - (0:Int)).toNat (List.drop ((0:Nat)+Int.toNat (0:Int)) (List.replicate (Int.toNat (0:Int)) (0:Int)++s.snd.snd.fst++[(77 :
 Int)])),List.take ((↑s.snd.snd.snd.fst.length:Int) - (0:Int)).toNat (List.drop ((0:Nat)+Int.toNat (0:Int)) (List.replicate (Int.toNat (0:Int)) (0:Nat) ++
 s.snd.snd.snd.fst++[(4635118810238550016:Nat)])),s.snd.snd.snd.snd.fst,s.snd.snd.snd.snd.snd)→∃ (h:WOrd (List.take ((↑s.fst.length:Int) - (0:Int)).toNat (List.drop
 ((0:Nat)+Int.toNat (0:Int)) (List.replicate (Int.toNat (0:Int)) (0:Nat)++s.fst++[(4635118810238550016:Nat)])))),∀ (a_4:List Int × Unit),a_4=Za6 (List.take
 ((↑s.fst.length:Int) - (0:Int)).toNat (List.drop ((0:Nat)+Int.toNat (0:Int)) (List.replicate (Int.toNat (0:Int)) (0:Nat)++s.fst++[(4635118810238550016:Nat)])))
 → ∃ (h:WOrd (List.take ((↑s.fst.length:Int) - (0:Int)).toNat (List.drop ((0:Nat)+Int.toNat (0:Int)) (List.replicate (Int.toNat (0:Int)) (0:Nat)++s.fst ++
 [(4635118810238550016:Nat)])))),∀ (a_5:List Int × Unit),a_5=Za6 (List.take ((↑s.fst.length:Int) - (0:Int)).toNat (List.drop ((0:Nat)+Int.toNat (0:Int))
 (List.replicate (Int.toNat (0:Int)) (0:Nat)++s.fst++[(4635118810238550016:Nat)])))→∃ (h:Z9e (newR n).fst (List.take ((↑s.fst.length:Int) - (0:Int)).toNat
 (List.drop ((0:Nat)+Int.toNat (0:Int)) (List.replicate (Int.toNat (0:Int)) (0:Nat)++s.fst++[(4635118810238550016:Nat)]))) (0:Int)),∀ (a_6:Int × Unit),a_6 =
 Z3d (newR n).fst (List.take ((↑s.fst.length:Int) - (0:Int)).toNat (List.drop ((0:Nat)+Int.toNat (0:Int)) (List.replicate (Int.toNat (0:Int)) (0:Nat)++s.fst ++
 [(4635118810238550016:Nat)]))) (0:Int)→∀ (a_7:Bool),a_7=(a.snd.snd.fst != a_3.snd.snd.fst)→Br a_7 (post (false,())) (∃ (h:True),∀ (a_8:Bool × Unit),a_8 =
 Z5n (List.take a.fst.length (List.drop (0:Nat) a.fst)) (List.take a_3.fst.length (List.drop (0:Nat) a_3.fst))→∀ (a_9:Bool),a_9=a_8.fst→Br (!a_9) (post (false,
 ())) (∃ (h:True),∀ (a_10:Bool × Unit),a_10=Z5n (List.take a.snd.fst.length (List.drop (0:Nat) a.snd.fst)) (List.take a_3.snd.fst.length (List.drop (0:Nat)
 a_3.snd.fst))→∀ (a_11:Bool),a_11=a_10.fst→Br (!a_11) (post (false,())) (∃ (h:(0:Int)≤(0:Int)∧(0:Int)≤i64.wrap ((↑s.fst.length:Int)+(1 :
 Int))∧(i64.wrap ((↑s.fst.length:Int)+(1:Int))≤(↑((↑s.fst.length:Int) - (0:Int)).toNat:Int)∨(0:Nat)+Int.toNat (0:Int)+(i64.wrap
 ((↑s.fst.length:Int)+(1:Int))).toNat≤(List.replicate (Int.toNat (0:Int)) (0:Nat)++s.fst++[(4635118810238550016:Nat)]).length)),∃ (h:(0:Int)≤(↑s.fst.length
 : Int)∧(↑s.fst.length:Int)<(↑(i64.wrap ((↑s.fst.length:Int)+(1:Int)) - (0:Int)).toNat:Int)),∀ (a_12:Bool),a_12=fcmp Go.BinOp.neq
 (f64.format.order ((List.replicate (Int.toNat (0:Int)) (0:Nat)++s.fst++[(4635118810238550016:Nat)]).getD ((0:Nat)+Int.toNat (0:Int)+Int.toNat (0 :
 Int)+s.fst.length) (0:Nat)) (4635118810238550016:Nat))→Br a_12 (post (false,())) (∃ (h:(0:Int)≤(0:Int)∧(0:Int)≤i64.wrap
 ((↑s.snd.snd.snd.fst.length:Int)+(1:Int))∧(i64.wrap ((↑s.snd.snd.snd.fst.length:Int)+(1:Int))≤(↑((↑s.snd.snd.snd.fst.length:Int) - (0:Int)).toNat :
 Int)∨(0:Nat)+Int.toNat (0:Int)+(i64.wrap ((↑s.snd.snd.snd.fst.length:Int)+(1:Int))).toNat≤(List.replicate (Int.toNat (0:Int)) (0:Nat) ++
 s.snd.snd.snd.fst++[(4635118810238550016:Nat)]).length)),∃ (h:(0:Int)≤(↑s.snd.snd.snd.fst.length:Int)∧(↑s.snd.snd.snd.fst.length:Int)<(↑(i64.wrap
 ((↑s.snd.snd.snd.fst.length:Int)+(1:Int)) - (0:Int)).toNat:Int)),∀ (a_13:Bool),a_13=fcmp Go.BinOp.neq (f64.format.order ((List.replicate (Int.toNat (0
 : Int)) (0:Nat)++s.snd.snd.snd.fst++[(4635118810238550016:Nat)]).getD ((0:Nat)+Int.toNat (0:Int)+Int.toNat (0:Int)+s.snd.snd.snd.fst.length) (0:Nat))
 (4635118810238550016:Nat))→Br a_13 (post (false,())) (∃ (h:(0:Int)≤(0:Int)∧(0:Int)≤i64.wrap ((↑s.snd.fst.length:Int)+(1:Int)) ∧
 (i64.wrap ((↑s.snd.fst.length:Int)+(1:Int))≤(↑((↑s.snd.fst.length:Int) - (0:Int)).toNat:Int)∨(0:Nat)+Int.toNat (0:Int)+(i64.wrap
 ((↑s.snd.fst.length:Int)+(1:Int))).toNat≤(List.replicate (Int.toNat (0:Int)) (0:Int)++s.snd.fst++[(77:Int)]).length)),∃ (h:(0:Int)≤(↑s.snd.fst.length :
 Int)∧(↑s.snd.fst.length:Int)<(↑(i64.wrap ((↑s.snd.fst.length:Int)+(1:Int)) - (0:Int)).toNat:Int)),∀ (a_14:Bool),a_14=((List.replicate (Int.toNat (0 :
 Int)) (0:Int)++s.snd.fst++[(77:Int)]).getD ((0:Nat)+Int.toNat (0:Int)+Int.toNat (0:Int)+s.snd.fst.length) (0:Int) != (77:Int))→Br a_14 (post (false,
 ())) (∃ (h:(0:Int)≤(0:Int)∧(0:Int)≤i64.wrap ((↑s.snd.snd.fst.length:Int)+(1:Int))∧(i64.wrap ((↑s.snd.snd.fst.length:Int)+(1:Int)) ≤
 (↑((↑s.snd.snd.fst.length:Int) - (0:Int)).toNat:Int)∨(0:Nat)+Int.toNat (0:Int)+(i64.wrap ((↑s.snd.snd.fst.length:Int)+(1:Int))).toNat ≤
 (List.replicate (Int.toNat (0:Int)) (0:Int)++s.snd.snd.fst++[(77:Int)]).length)),∃ (h:(0:Int)≤(↑s.snd.snd.fst.length:Int)∧(↑s.snd.snd.fst.length:Int) <
 (↑(i64.wrap ((↑s.snd.snd.fst.length:Int)+(1:Int)) - (0:Int)).toNat:Int)),∀ (a_15:Bool),a_15=((List.replicate (Int.toNat (0:Int)) (0:Int) ++
 s.snd.snd.fst++[(77:Int)]).getD ((0:Nat)+Int.toNat (0:Int)+Int.toNat (0:Int)+s.snd.snd.fst.length) (0:Int) != (77:Int))→Br a_15 (post (false,())) (∃ (h
 : True),∀ (a_16:Bool × Unit),a_16=allR (List.take ((↑s.fst.length:Int) - (0:Int)).toNat (List.drop ((0:Nat)+Int.toNat (0:Int)) (List.replicate (Int.toNat (0 :
 Int)) (0:Nat)++s.fst++[(4635118810238550016:Nat)]))) s.fst→∀ (a_17:Bool),a_17=a_16.fst→Br a_17 (∃ (h:True),∀ (a_18:Bool × Unit),a_18=allR (List.take
 ((↑s.snd.snd.snd.fst.length:Int) - (0:Int)).toNat (List.drop ((0:Nat)+Int.toNat (0:Int)) (List.replicate (Int.toNat (0:Int)) (0:Nat)++s.snd.snd.snd.fst ++
 [(4635118810238550016:Nat)]))) s.snd.snd.snd.fst→∀ (a_19:Bool),a_19=a_18.fst→Br a_19 (∃ (h:True),∀ (a_20:Bool × Unit),a_20=Z5n (List.take ((↑s.snd.fst.length
 : Int) - (0:Int)).toNat (List.drop ((0:Nat)+Int.toNat (0:Int)) (List.replicate (Int.toNat (0:Int)) (0:Int)++s.snd.fst++[(77:Int)]))) s.snd.fst→∀ (a_21:Bool),
 a_21=a_20.fst→Br a_21 (∃ (h:True),∀ (a_22:Bool × Unit),a_22=Z5n (List.take ((↑s.snd.snd.fst.length:Int) - (0:Int)).toNat (List.drop ((0:Nat)+Int.toNat (0 :
 Int)) (List.replicate (Int.toNat (0:Int)) (0:Int)++s.snd.snd.fst++[(77:Int)]))) s.snd.snd.fst→∀ (a_23:Bool),a_23=a_22.fst→Br a_23 (∀ (a_24:Bool),a_24 =
 (s.snd.snd.snd.snd.fst==s.snd.snd.snd.snd.fst)→Br a_24 (∀ (a_25:Bool),a_25=(s.snd.snd.snd.snd.snd==s.snd.snd.snd.snd.snd)→Br (!a_25) (post (false,())) (∃ (h :
 True),∀ (a_26:Bool × Unit),a_26=Z5n (List.take a_4.fst.length (List.drop (0:Nat) a_4.fst)) (List.take a_5.fst.length (List.drop (0:Nat) a_5.fst))→∀ (a_27:Bool),
 a_27=a_26.fst→Br (!a_27) (post (false,())) (∃ (h:(0:Nat)=(0:Nat)∧((0:Nat)+(List.take a_3.fst.length (List.drop (0:Nat) a_3.fst)).length)*(8:Nat) ≤
 (140737488355328:Nat)),∃ (h:(0:Nat)=(0:Nat)∧((0:Nat)+(List.take a_3.snd.fst.length (List.drop (0:Nat) a_3.snd.fst)).length)*(8:Nat)≤(140737488355328 :
 Nat)),∃ (h:(0:Nat)=(0:Nat)∧((0:Nat)+(List.take a_5.fst.length (List.drop (0:Nat) a_5.fst)).length)*(8:Nat)≤(140737488355328:Nat)),HIs
 [Z1 ty39 s,Z0 ty39 s,Z1 ty39 s,Z0 ty39 s,Z0 ty39 s,HObj.dead,HObj.dead,
 Z5 ty59,Zp ty59 s,HObj.dead,HObj.dead,Z5 ty59,Zq ty59 s,HObj.dead,HObj.dead,Z6
 ty2,Zr ty2 s,HObj.dead,HObj.dead,Z6 ty2,Zs ty2 s,Z8h ty2 a,Z29 ty2 a,
 Zj ty2 a_3,Zk ty2 a_3,Z1e ty3 a_4,Zl ty3 a_5,Z0 ty39 s,Z1 ty39
 s,HObj.dead,Zm ty2 a_3,HObj.dead,Zn ty2 a_3,HObj.dead,Zo ty3 a_5] [Z1 ty39 s,Z0
 ty39 s,Z1 ty39 s,Z0 ty39 s,Z0 ty39 s,HObj.dead,HObj.dead,Z5 ty59,Zp ty59 s,
 HObj.dead,HObj.dead,Z5 ty59,Zq ty59 s,HObj.dead,HObj.dead,Z6 ty2,Zr ty2 s,HObj.dead,HObj.dead,
 Z6 ty2,Zs ty2 s,Z8h ty2 a,Z29 ty2 a,Zj ty2 a_3,Zk ty2 a_3,
 Z1e ty3 a_4,Zl ty3 a_5,Z0 ty39 s,Z1 ty39 s,HObj.dead,Zm ty2 a_3,HObj.dead,
 Zn ty2 a_3,HObj.dead,Zo ty3 a_5]∧∃ (I:Int × Unit→List Int × Unit→Prop),∃ (μ:Int × Unit→List Int × Unit→Nat),I ((0:Int),
 ()) (a.fst,())∧∀ (x:Int × Unit) (y:List Int × Unit),I x y→∀ (a_28:Bool),a_28=decide (x.fst<(↑a.fst.length:Int))→Br a_28 (∃ (h:(0:Int)≤x.fst∧x.fst <
 (↑a.fst.length:Int)),HIs [Z1 ty39 s,Z0 ty39 s,Z1 ty39 s,Z0 ty39 s,Z0 ty39 s,
 HObj.dead,HObj.dead,Z5 ty59,Zp ty59 s,HObj.dead,HObj.dead,Z5 ty59,Zq ty59 s,HObj.dead,HObj.dead,
 Z6 ty2,Zr ty2 s,HObj.dead,HObj.dead,Z6 ty2,Zs ty2 s,Z7w ty2 y x,
 Z29 ty2 a,Zj ty2 a_3,Zk ty2 a_3,Z1e ty3 a_4,Zl ty3 a_5,Z0 ty39
 s,Z1 ty39 s,HObj.dead,Zm ty2 a_3,HObj.dead,Zn ty2 a_3,HObj.dead,Zo ty3 a_5] [Z1
 ty39 s,Z0 ty39 s,Z1 ty39 s,Z0 ty39 s,Z0 ty39 s,HObj.dead,HObj.dead,Z5 ty59,
 Zp ty59 s,HObj.dead,HObj.dead,Z5 ty59,Zq ty59 s,HObj.dead,HObj.dead,Z6 ty2,Zr ty2
 s,HObj.dead,HObj.dead,Z6 ty2,Zs ty2 s,Z7w ty2 y x,Z29 ty2 a,Zj ty2 a_3,
 Zk ty2 a_3,Z1e ty3 a_4,Zl ty3 a_5,Z0 ty39 s,Z1 ty39 s,HObj.dead,
 Zm ty2 a_3,HObj.dead,Zn ty2 a_3,HObj.dead,Zo ty3 a_5]∧I (i64.wrap (x.fst+(1:Int)),()) (y.fst.set ((0 :
 Nat)+x.fst.toNat) (77:Int),())∧μ (i64.wrap (x.fst+(1:Int)),()) (y.fst.set ((0:Nat)+x.fst.toNat) (77:Int),())<μ x y) (HIs [Z1 ty39 s,
 Z0 ty39 s,Z1 ty39 s,Z0 ty39 s,Z0 ty39 s,HObj.dead,HObj.dead,Z5 ty59,
 Zp ty59 s,HObj.dead,HObj.dead,Z5 ty59,Zq ty59 s,HObj.dead,HObj.dead,Z6 ty2,Zr ty2
 s,HObj.dead,HObj.dead,Z6 ty2,Zs ty2 s,Z18 ty2 y,Z29 ty2 a,Zj ty2 a_3,
 Zk ty2 a_3,Z1e ty3 a_4,Zl ty3 a_5,Z0 ty39 s,Z1 ty39 s,HObj.dead,
 Zm ty2 a_3,HObj.dead,Zn ty2 a_3,HObj.dead,Zo ty3 a_5] [Z1 ty39 s,Z0 ty39 s,
 Z1 ty39 s,Z0 ty39 s,Z0 ty39 s,HObj.dead,HObj.dead,Z5 ty59,Zp ty59 s,HObj.dead,
 HObj.dead,Z5 ty59,Zq ty59 s,HObj.dead,HObj.dead,Z6 ty2,Zr ty2 s,HObj.dead,HObj.dead,
 Z6 ty2,Zs ty2 s,Z18 ty2 y,Z29 ty2 a,Zj ty2 a_3,Zk ty2 a_3,
 Z1e ty3 a_4,Zl ty3 a_5,Z0 ty39 s,Z1 ty39 s,HObj.dead,Zm ty2 a_3,HObj.dead,
 Zn ty2 a_3,HObj.dead,Zo ty3 a_5]∧∃ (I:Int × Unit→List Int × Unit→Prop),∃ (μ:Int × Unit→List Int × Unit→Nat),I ((0:Int),
 ()) (a.snd.fst,())∧∀ (x:Int × Unit) (y_1:List Int × Unit),I x y_1→∀ (a_29:Bool),a_29=decide (x.fst<(↑a.snd.fst.length:Int))→Br a_29 (∃ (h:(0:Int)≤x.fst
 ∧ x.fst<(↑a.snd.fst.length:Int)),HIs [Z1 ty39 s,Z0 ty39 s,Z1 ty39 s,Z0 ty39 s,Z0
 ty39 s,HObj.dead,HObj.dead,Z5 ty59,Zp ty59 s,HObj.dead,HObj.dead,Z5 ty59,Zq ty59 s,HObj.dead,
 HObj.dead,Z6 ty2,Zr ty2 s,HObj.dead,HObj.dead,Z6 ty2,Zs ty2 s,Z18 ty2 y,
 Z7x ty2 y_1 x,Zj ty2 a_3,Zk ty2 a_3,Z1e ty3 a_4,Zl ty3 a_5,Z0
 ty39 s,Z1 ty39 s,HObj.dead,Zm ty2 a_3,HObj.dead,Zn ty2 a_3,HObj.dead,Zo ty3 a_5]
 [Z1 ty39 s,Z0 ty39 s,Z1 ty39 s,Z0 ty39 s,Z0 ty39 s,HObj.dead,HObj.dead,
 Z5 ty59,Zp ty59 s,HObj.dead,HObj.dead,Z5 ty59,Zq ty59 s,HObj.dead,HObj.dead,Z6
 ty2,Zr ty2 s,HObj.dead,HObj.dead,Z6 ty2,Zs ty2 s,Z18 ty2 y,Z7x ty2 y_1 x,
 Zj ty2 a_3,Zk ty2 a_3,Z1e ty3 a_4,Zl ty3 a_5,Z0 ty39 s,Z1 ty39
 s,HObj.dead,Zm ty2 a_3,HObj.dead,Zn ty2 a_3,HObj.dead,Zo ty3 a_5]∧I (i64.wrap (x.fst+(1:Int)),())
 (y_1.fst.set ((0:Nat)+x.fst.toNat) (79:Int),())∧μ (i64.wrap (x.fst+(1:Int)),()) (y_1.fst.set ((0:Nat)+x.fst.toNat) (79:Int),())<μ x y_1) (HIs
 [Z1 ty39 s,Z0 ty39 s,Z1 ty39 s,Z0 ty39 s,Z0 ty39 s,HObj.dead,HObj.dead,
 Z5 ty59,Zp ty59 s,HObj.dead,HObj.dead,Z5 ty59,Zq ty59 s,HObj.dead,HObj.dead,Z6
 ty2,Zr ty2 s,HObj.dead,HObj.dead,Z6 ty2,Zs ty2 s,Z18 ty2 y,Z1m ty2 y_1,
 Zj ty2 a_3,Zk ty2 a_3,Z1e ty3 a_4,Zl ty3 a_5,Z0 ty39 s,Z1 ty39
 s,HObj.dead,Zm ty2 a_3,HObj.dead,Zn ty2 a_3,HObj.dead,Zo ty3 a_5] [Z1 ty39 s,Z0
 ty39 s,Z1 ty39 s,Z0 ty39 s,Z0 ty39 s,HObj.dead,HObj.dead,Z5 ty59,Zp ty59 s,
 HObj.dead,HObj.dead,Z5 ty59,Zq ty59 s,HObj.dead,HObj.dead,Z6 ty2,Zr ty2 s,HObj.dead,HObj.dead,
 Z6 ty2,Zs ty2 s,Z18 ty2 y,Z1m ty2 y_1,Zj ty2 a_3,Zk ty2 a_3,
 Z1e ty3 a_4,Zl ty3 a_5,Z0 ty39 s,Z1 ty39 s,HObj.dead,Zm ty2 a_3,HObj.dead,
 Zn ty2 a_3,HObj.dead,Zo ty3 a_5]∧∃ (I:Int × Unit→List Int × Unit→Prop),∃ (μ:Int × Unit→List Int × Unit→Nat),I ((0:Int),
 ()) (a_4.fst,())∧∀ (x:Int × Unit) (y_2:List Int × Unit),I x y_2→∀ (a_30:Bool),a_30=decide (x.fst<(↑a_4.fst.length:Int))→Br a_30 (∃ (h:(0:Int)≤x.fst ∧
 x.fst<(↑a_4.fst.length:Int)),HIs [Z1 ty39 s,Z0 ty39 s,Z1 ty39 s,Z0 ty39 s,Z0
 ty39 s,HObj.dead,HObj.dead,Z5 ty59,Zp ty59 s,HObj.dead,HObj.dead,Z5 ty59,Zq ty59 s,HObj.dead,
 HObj.dead,Z6 ty2,Zr ty2 s,HObj.dead,HObj.dead,Z6 ty2,Zs ty2 s,Z18 ty2 y,
 Z1m ty2 y_1,Zj ty2 a_3,Zk ty2 a_3,Z7y ty3 y_2 x,Zl ty3 a_5,Z0
 ty39 s,Z1 ty39 s,HObj.dead,Zm ty2 a_3,HObj.dead,Zn ty2 a_3,HObj.dead,Zo ty3 a_5]
 [Z1 ty39 s,Z0 ty39 s,Z1 ty39 s,Z0 ty39 s,Z0 ty39 s,HObj.dead,HObj.dead,
 Z5 ty59,Zp ty59 s,HObj.dead,HObj.dead,Z5 ty59,Zq ty59 s,HObj.dead,HObj.dead,Z6
 ty2,Zr ty2 s,HObj.dead,HObj.dead,Z6 ty2,Zs ty2 s,Z18 ty2 y,Z1m ty2 y_1,
 Zj ty2 a_3,Zk ty2 a_3,Z7y ty3 y_2 x,Zl ty3 a_5,Z0 ty39 s,Z1
 ty39 s,HObj.dead,Zm ty2 a_3,HObj.dead,Zn ty2 a_3,HObj.dead,Zo ty3 a_5]∧I (i64.wrap (x.fst+(1:Int)),
 ()) (y_2.fst.set ((0:Nat)+x.fst.toNat) (77:Int),())∧μ (i64.wrap (x.fst+(1:Int)),()) (y_2.fst.set ((0:Nat)+x.fst.toNat) (77:Int),())<μ x y_2) (HIs
 [Z1 ty39 s,Z0 ty39 s,Z1 ty39 s,Z0 ty39 s,Z0 ty39 s,HObj.dead,HObj.dead,
 Z5 ty59,Zp ty59 s,HObj.dead,HObj.dead,Z5 ty59,Zq ty59 s,HObj.dead,HObj.dead,Z6
 ty2,Zr ty2 s,HObj.dead,HObj.dead,Z6 ty2,Zs ty2 s,Z18 ty2 y,Z1m ty2 y_1,
 Zj ty2 a_3,Zk ty2 a_3,Z2z ty3 y_2,Zl ty3 a_5,Z0 ty39 s,Z1 ty39
 s,HObj.dead,Zm ty2 a_3,HObj.dead,Zn ty2 a_3,HObj.dead,Zo ty3 a_5] [Z1 ty39 s,Z0
 ty39 s,Z1 ty39 s,Z0 ty39 s,Z0 ty39 s,HObj.dead,HObj.dead,Z5 ty59,Zp ty59 s,
 HObj.dead,HObj.dead,Z5 ty59,Zq ty59 s,HObj.dead,HObj.dead,Z6 ty2,Zr ty2 s,HObj.dead,HObj.dead,
 Z6 ty2,Zs ty2 s,Z18 ty2 y,Z1m ty2 y_1,Zj ty2 a_3,Zk ty2 a_3,
 Z2z ty3 y_2,Zl ty3 a_5,Z0 ty39 s,Z1 ty39 s,HObj.dead,Zm ty2 a_3,HObj.dead,
 Zn ty2 a_3,HObj.dead,Zo ty3 a_5]∧∃ (I:Int × Unit→Unit→Prop),∃ (μ:Int × Unit→Unit→Nat),I ((0:Int),()) ()∧∀ (x:Int ×
 Unit) (y_3:Unit),I x y_3→∀ (a_31:Bool),a_31=decide (x.fst<(↑a.fst.length:Int))→Br a_31 (∃ (h:(0:Int)≤x.fst∧x.fst<(↑a.fst.length:Int)),∀ (a:Bool),a
 = (y.fst.getD ((0:Nat)+x.fst.toNat) (0:Int) != (77:Int))→Br a (post (false,())) (HIs [Z1 ty39 s,Z0 ty39 s,
 Z1 ty39 s,Z0 ty39 s,Z0 ty39 s,HObj.dead,HObj.dead,Z5 ty59,Zp ty59 s,HObj.dead,
 HObj.dead,Z5 ty59,Zq ty59 s,HObj.dead,HObj.dead,Z6 ty2,Zr ty2 s,HObj.dead,HObj.dead,
 Z6 ty2,Zs ty2 s,Z18 ty2 y,Z1m ty2 y_1,Zj ty2 a_3,Zk ty2 a_3,
 Z2z ty3 y_2,Zl ty3 a_5,Z0 ty39 s,Z1 ty39 s,HObj.dead,Zm ty2 a_3,HObj.dead,
 Zn ty2 a_3,HObj.dead,Zo ty3 a_5] [Z1 ty39 s,Z0 ty39 s,Z1 ty39 s,
 Z0 ty39 s,Z0 ty39 s,HObj.dead,HObj.dead,Z5 ty59,Zp ty59 s,HObj.dead,HObj.dead,Z5
 ty59,Zq ty59 s,HObj.dead,HObj.dead,Z6 ty2,Zr ty2 s,HObj.dead,HObj.dead,Z6 ty2,Zs
 ty2 s,Z18 ty2 y,Z1m ty2 y_1,Zj ty2 a_3,Zk ty2 a_3,Z2z ty3 y_2,
 Zl ty3 a_5,Z0 ty39 s,Z1 ty39 s,HObj.dead,Zm ty2 a_3,HObj.dead,Zn ty2 a_3,
 HObj.dead,Zo ty3 a_5]∧I (i64.wrap (x.fst+(1:Int)),()) ()∧μ (i64.wrap (x.fst+(1:Int)),()) ()<μ x y_3)) (((0:Nat)=(0:Nat) ∧
 a.fst.length=y.fst.length)∧((0:Nat)=(0:Nat)∧a.snd.fst.length=y_1.fst.length)∧((0:Nat)=(0:Nat)∧a_4.fst.length=y_2.fst.length)∧HIs [Z1
 ty39 s,Z0 ty39 s,Z1 ty39 s,Z0 ty39 s,Z0 ty39 s,HObj.dead,HObj.dead,Z5 ty59,
 Zp ty59 s,HObj.dead,HObj.dead,Z5 ty59,Zq ty59 s,HObj.dead,HObj.dead,Z6 ty2,Zr ty2
 s,HObj.dead,HObj.dead,Z6 ty2,Zs ty2 s,HObj.dead,HObj.dead,Zj ty2 a_3,Zk ty2 a_3,HObj.dead,
 Zl ty3 a_5,Z0 ty39 s,Z1 ty39 s,HObj.dead,Zm ty2 a_3,HObj.dead,Zn ty2 a_3,
 HObj.dead,Zo ty3 a_5] [Z1 ty39 s,Z0 ty39 s,Z1 ty39 s,Z0 ty39 s,Z0
 ty39 s,HObj.dead,HObj.dead,Z5 ty59,Zp ty59 s,HObj.dead,HObj.dead,Z5 ty59,Zq ty59 s,HObj.dead,
 HObj.dead,Z6 ty2,Zr ty2 s,HObj.dead,HObj.dead,Z6 ty2,Zs ty2 s,HObj.dead,HObj.dead,
 Zj ty2 a_3,Zk ty2 a_3,HObj.dead,Zl ty3 a_5,Z0 ty39 s,Z1 ty39 s,HObj.dead,
 Zm ty2 a_3,HObj.dead,Zn ty2 a_3,HObj.dead,Zo ty3 a_5]∧∃ (I:Int × List Int × List Int × List Int × Unit→Unit →
 Prop),∃ (μ:Int × List Int × List Int × List Int × Unit→Unit→Nat),I ((0:Int),y.fst,y_1.fst,y_2.fst,()) ()∧∀ (x:Int × List Int × List Int × List Int × Unit) (y :
 Unit),I x y→∀ (a:Bool),a=decide (x.fst<(16:Int))→Br a (∃ (h:x.snd.fst.length=x.snd.fst.length∧(x.snd.fst.length+(1:Nat))*(8:Nat)≤(140737488355328 :
 Nat)),∃ (h:x.snd.snd.fst.length=x.snd.snd.fst.length∧(x.snd.snd.fst.length+(1:Nat))*(8:Nat)≤(140737488355328:Nat)),∃ (h:x.snd.snd.snd.fst.length =
 x.snd.snd.snd.fst.length∧(x.snd.snd.snd.fst.length+(1:Nat))*(8:Nat)≤(140737488355328:Nat)),((0:Nat)=(0:Nat)∧x.snd.fst.length+(1:Nat)=(x.snd.fst ++
 [(78:Int)]).length)∧((0:Nat)=(0:Nat)∧x.snd.snd.fst.length+(1:Nat)=(x.snd.snd.fst++[(78:Int)]).length)∧((0:Nat)=(0:Nat)∧x.snd.snd.snd.fst.length +
 (1:Nat)=(x.snd.snd.snd.fst++[(78:Int)]).length)∧HIs [Z1 ty39 s,Z0 ty39 s,Z1 ty39 s,Z0 ty39 s,
 Z0 ty39 s,HObj.dead,HObj.dead,Z5 ty59,Zp ty59 s,HObj.dead,HObj.dead,Z5 ty59,Zq
 ty59 s,HObj.dead,HObj.dead,Z6 ty2,Zr ty2 s,HObj.dead,HObj.dead,Z6 ty2,Zs ty2 s,HObj.dead,
 HObj.dead,Zj ty2 a_3,Zk ty2 a_3,HObj.dead,Zl ty3 a_5,Z0 ty39 s,Z1 ty39 s,
 HObj.dead,Zm ty2 a_3,HObj.dead,Zn ty2 a_3,HObj.dead,Zo ty3 a_5] [Z1 ty39 s,Z0
 ty39 s,Z1 ty39 s,Z0 ty39 s,Z0 ty39 s,HObj.dead,HObj.dead,Z5 ty59,Zp ty59 s,
 HObj.dead,HObj.dead,Z5 ty59,Zq ty59 s,HObj.dead,HObj.dead,Z6 ty2,Zr ty2 s,HObj.dead,HObj.dead,
 Z6 ty2,Zs ty2 s,HObj.dead,HObj.dead,Zj ty2 a_3,Zk ty2 a_3,HObj.dead,Zl ty3 a_5,
 Z0 ty39 s,Z1 ty39 s,HObj.dead,Zm ty2 a_3,HObj.dead,Zn ty2 a_3,HObj.dead,Zo ty3
 a_5]∧I (i64.wrap (x.fst+(1:Int)),x.snd.fst++[(78:Int)],x.snd.snd.fst++[(78:Int)],x.snd.snd.snd.fst++[(78:Int)],()) ()∧μ (i64.wrap (x.fst +
 (1:Int)),x.snd.fst++[(78:Int)],x.snd.snd.fst++[(78:Int)],x.snd.snd.snd.fst++[(78:Int)],()) ()<μ x y) (∃ (h:True),∀ (a:Bool × Unit),a=Z5n (List.take
 a_3.fst.length (List.drop (0:Nat) a_3.fst)) (List.take ((0:Nat)+(List.take a_3.fst.length (List.drop (0:Nat) a_3.fst)).length) (List.drop (0:Nat) ([]++List.take
 a_3.fst.length (List.drop (0:Nat) a_3.fst))))→∀ (a_32:Bool),a_32=a.fst→Br a_32 (∃ (h:True),∀ (a:Bool × Unit),a=Z5n (List.take a_3.snd.fst.length (List.drop (0
 : Nat) a_3.snd.fst)) (List.take ((0:Nat)+(List.take a_3.snd.fst.length (List.drop (0:Nat) a_3.snd.fst)).length) (List.drop (0:Nat) ([]++List.take a_3.snd.fst.length
 (List.drop (0:Nat) a_3.snd.fst))))→∀ (a_33:Bool),a_33=a.fst→Br a_33 (∃ (h:True),∀ (a:Bool × Unit),a=Z5n (List.take a_5.fst.length (List.drop (0:Nat)
 a_5.fst)) (List.take ((0:Nat)+(List.take a_5.fst.length (List.drop (0:Nat) a_5.fst)).length) (List.drop (0:Nat) ([]++List.take a_5.fst.length (List.drop (0:Nat)
 a_5.fst))))→∀ (a_34:Bool),a_34=a.fst→Br a_34 (∃ (h:True),∀ (a:Bool × Unit),a=allR (List.take ((↑s.fst.length:Int) - (0:Int)).toNat (List.drop ((0:Nat) +
 Int.toNat (0:Int)) (List.replicate (Int.toNat (0:Int)) (0:Nat)++s.fst++[(4635118810238550016:Nat)]))) s.fst→∀ (a_35:Bool),a_35=a.fst→post (a_35,())) (post
 (false,()))) (post (false,()))) (post (false,())))))))))) (post (false,()))) (post (false,()))) (post (false,()))) (post (false,())))
 (post (false,()))))))))))))
theorem Zks (ty0 ty1 ty2 ty3:Nat) (n:Int) (s:(List Nat) × (List Int) × (List Int) × (List Nat) × Int × Int) (h:Z19e n s) (w:KS.wf [.int .i64,kSea] (n,s,())):Z58 ty0 ty1 ty2 ty3 n s (fun r=>r=yesS n s):=by
 obtain ⟨hn,hs⟩:=h
 have wr:∀ {g},NetP g→WRun g (s.1,s.2.1,s.2.2.1,s.2.2.2.1,s.2.2.2.2.1,s.2.2.2.2.2):=fun hg=>⟨hg,hs.1,hs.2.1,hs.2.2.1⟩
 have same:∀ l:List Int,(Z5n l l).1=true:=fun l=>beq_self_eq_true l
 have sameF:∀ l:List Nat,(allR l l).1=true:=fun l=>beq_self_eq_true l
 refine ⟨trivial,?_⟩
 rintro _ rfl
 rintro _ rfl
 refine Br.intro (fun e=>absurd e (by first | decide | simp)) fun _=>?_
 refine ⟨hn,?_⟩
 rcases Z1af n with ⟨_,e1,_⟩ | ⟨_,gn,e1,_⟩
 ·rw [e1]
  rintro _ rfl
  exact Br.intro (fun _=>rfl) fun e=>absurd e (by decide)
 rw [e1]
 rintro _ rfl
 refine Br.intro (fun e=>absurd e (by first | decide | simp)) fun _=>?_
 refine ⟨trivial,?_⟩
 rintro _ rfl
 rintro _ rfl
 refine Br.intro (fun _=>rfl) fun e=>?_
 obtain ⟨l1,l2,l3,l4⟩:s.1.length≤65536∧s.2.1.length≤65536∧s.2.2.1.length≤65536∧s.2.2.2.1.length≤65536:=by
  have e:(decide (65536<(s.1.length:Int))||decide (65536<(s.2.1.length:Int))||decide (65536<(s.2.2.1.length:Int))||decide (65536<(s.2.2.2.1.length:Int)))=false:=e
  simp at e; omega
 rw [Zjh s.1,Zjh s.2.1,Zjh s.2.2.1,Zjh s.2.2.2.1]
 have np:NetP (some (netG n)):=.inr ⟨n,gn,rfl⟩
 have wo:WOrd s.1:=⟨hs.1,l1⟩
 refine ⟨cop1 l1,cop2 l1,cop3 l1,cop4 l1,cop1 l4,cop2 l4,cop3 l4,cop4 l4,cop1 l2,cop2 l2,cop3 l2,cop4 l2,cop1 l3,cop2 l3,cop3 l3,cop4 l3,wr np,?_⟩
 obtain ⟨R,hR⟩:∃ R,Z3j (some (netG n)) (s.1,s.2.1,s.2.2.1,s.2.2.2.1,s.2.2.2.2.1,s.2.2.2.2.2)=R:=⟨_,rfl⟩
 have hl:R.1.length≤65536∧R.2.1.length≤65536:=by
  rcases Z1de n s with e | ⟨w',t,e,Q⟩
  ·have e:R=([],[],1,()):=hR.symm.trans e
   rw [e]; exact ⟨by decide,by decide⟩
  ·have e:R=(w',t,0,()):=hR.symm.trans e
   rw [e]
   have:=Q.q1.len
   have:=Q.q2.len
   have:=Q.wat
   exact ⟨by show w'.length≤65536; omega,by show t.length≤65536; omega⟩
 obtain ⟨r1',r2'⟩:=hl
 rw [hR]
 rintro R' hR'
 obtain rfl:R=R':=hR'.symm
 refine ⟨wr np,?_⟩
 rintro R' hR'
 obtain rfl:R=R':=hR'.symm
 obtain ⟨O,hO⟩:∃ O,Za6 s.1=O:=⟨_,rfl⟩
 have ho:O.1.length≤65536:=by
  rw [← hO]; show (ordL s.1).length≤65536
  rw [Z1dd]; exact l1
 rw [hO]
 clear hO hR
 refine ⟨wo,?_⟩
 rintro O' hO'
 obtain rfl:O=O':=hO'.symm
 refine ⟨wo,?_⟩
 rintro O' hO'
 obtain rfl:O=O':=hO'.symm
 refine ⟨⟨np,hs.1⟩,?_⟩
 rintro _ _
 rintro _ rfl
 refine Br.intro (fun e=>by simp at e) fun _=>?_
 refine ⟨trivial,?_⟩
 rintro _ rfl
 rintro _ rfl
 rw [same]
 refine Br.intro (fun e=>absurd e (by decide)) fun _=>?_
 refine ⟨trivial,?_⟩
 rintro _ rfl
 rintro _ rfl
 rw [same]
 refine Br.intro (fun e=>absurd e (by decide)) fun _=>?_
 refine ⟨cop5 l1,cop6 l1,?_⟩
 rintro _ rfl
 refine Br.intro (fun e=>?_) fun _=>?_
 ·rw [Ztx] at e
  exact absurd e (by rw [Zz7]; decide)
 refine ⟨cop5 l4,cop6 l4,?_⟩
 rintro _ rfl
 refine Br.intro (fun e=>?_) fun _=>?_
 ·rw [Ztx] at e
  exact absurd e (by rw [Zz7]; decide)
 refine ⟨cop5 l2,cop6 l2,?_⟩
 rintro _ rfl
 refine Br.intro (fun e=>?_) fun _=>?_
 ·rw [Ztx] at e
  exact absurd e (by decide)
 refine ⟨cop5 l3,cop6 l3,?_⟩
 rintro _ rfl
 refine Br.intro (fun e=>?_) fun _=>?_
 ·rw [Ztx] at e
  exact absurd e (by decide)
 refine ⟨trivial,?_⟩
 rintro _ rfl
 rintro _ rfl
 rw [sameF]
 refine Br.intro (fun _=>?_) fun e=>absurd e (by decide)
 refine ⟨trivial,?_⟩
 rintro _ rfl
 rintro _ rfl
 rw [sameF]
 refine Br.intro (fun _=>?_) fun e=>absurd e (by decide)
 refine ⟨trivial,?_⟩
 rintro _ rfl
 rintro _ rfl
 rw [same]
 refine Br.intro (fun _=>?_) fun e=>absurd e (by decide)
 refine ⟨trivial,?_⟩
 rintro _ rfl
 rintro _ rfl
 rw [same]
 refine Br.intro (fun _=>?_) fun e=>absurd e (by decide)
 rintro _ rfl
 refine Br.intro (fun _=>?_) fun e=>by simp at e
 rintro _ rfl
 refine Br.intro (fun e=>by simp at e) fun _=>?_
 refine ⟨trivial,?_⟩
 rintro _ rfl
 rintro _ rfl
 rw [same]
 refine Br.intro (fun e=>absurd e (by decide)) fun _=>?_
 rw [Zqk R.1,Zqk R.2.1,Zqk O.1]
 refine ⟨⟨rfl,by omega⟩,⟨rfl,by omega⟩,⟨rfl,by omega⟩,?_⟩
 refine ⟨rfl,fun x y=>∃ k:Nat,x.1=k∧k≤R.1.length∧y.1.length=R.1.length∧∀ j,j<k→y.1.getD j 0=77,fun x _=>R.1.length - x.1.toNat,⟨0,rfl,by omega,rfl,fun j hj=>by omega⟩,?_⟩
 rintro ⟨_,⟨⟩⟩ ⟨A,⟨⟩⟩ ⟨k,rfl,hk,lA,hA⟩
 dsimp only at lA hA ⊢
 rintro _ rfl
 refine Br.intro (fun e=>?_) fun e=>?_
 ·have hk2:k<R.1.length:=by have:=of_decide_eq_true e; omega
  rw [Int.toNat_natCast,Z24 hk2 (by omega),Nat.zero_add]
  refine ⟨⟨by omega,by omega⟩,rfl,⟨k+1,rfl,by omega,by rw [List.length_set]; exact lA,fun j hj=>?_⟩,by omega⟩
  by_cases ej:j=k
  ·subst ej; exact Zzq (by omega)
  ·rw [List.getD_eq_getElem?_getD,List.getElem?_set_ne (fun z=>ej z.symm),← List.getD_eq_getElem?_getD]
   exact hA j (by omega)
 have hke:k=R.1.length:=by have:=of_decide_eq_false e; omega
 subst hke
 refine ⟨rfl,fun x y=>∃ k:Nat,x.1=k∧k≤R.2.1.length∧y.1.length=R.2.1.length,fun x _=>R.2.1.length - x.1.toNat,⟨0,rfl,by omega,rfl⟩,?_⟩
 rintro ⟨_,⟨⟩⟩ ⟨B,⟨⟩⟩ ⟨k,rfl,hk,lB⟩
 dsimp only at lB ⊢
 rintro _ rfl
 refine Br.intro (fun e=>?_) fun e=>?_
 ·have hk2:k<R.2.1.length:=by have:=of_decide_eq_true e; omega
  rw [Int.toNat_natCast,Z24 hk2 (by omega),Nat.zero_add]
  exact ⟨⟨by omega,by omega⟩,rfl,⟨k+1,rfl,by omega,by rw [List.length_set]; exact lB⟩,by omega⟩
 refine ⟨rfl,fun x y=>∃ k:Nat,x.1=k∧k≤O.1.length∧y.1.length=O.1.length,fun x _=>O.1.length - x.1.toNat,⟨0,rfl,by omega,rfl⟩,?_⟩
 rintro ⟨_,⟨⟩⟩ ⟨C,⟨⟩⟩ ⟨k,rfl,hk,lC⟩
 dsimp only at lC ⊢
 rintro _ rfl
 refine Br.intro (fun e=>?_) fun e=>?_
 ·have hk2:k<O.1.length:=by have:=of_decide_eq_true e; omega
  rw [Int.toNat_natCast,Z24 hk2 (by omega),Nat.zero_add]
  exact ⟨⟨by omega,by omega⟩,rfl,⟨k+1,rfl,by omega,by rw [List.length_set]; exact lC⟩,by omega⟩
 refine ⟨rfl,fun x _=>∃ k:Nat,x.1=k∧k≤R.1.length,fun x _=>R.1.length - x.1.toNat,⟨0,rfl,by omega⟩,?_⟩
 rintro ⟨_,⟨⟩⟩ ⟨⟩ ⟨k,rfl,hk⟩
 dsimp only
 rintro _ rfl
 refine Br.intro (fun e=>?_) fun e=>?_
 ·have hk2:k<R.1.length:=by have:=of_decide_eq_true e; omega
  rw [Int.toNat_natCast,Z24 hk2 (by omega),Nat.zero_add]
  refine ⟨⟨by omega,by omega⟩,?_⟩
  rintro _ rfl
  rw [hA k hk2]
  refine Br.intro (fun e=>absurd e (by decide)) fun _=>?_
  exact ⟨rfl,⟨k+1,rfl,by omega⟩,by omega⟩
 refine ⟨⟨rfl,lA.symm⟩,⟨rfl,lB.symm⟩,⟨rfl,lC.symm⟩,?_⟩
 refine ⟨rfl,fun x _=>∃ k:Nat,x.1=k∧k≤16∧x.2.1.length≤65536+k∧x.2.2.1.length≤65536+k∧x.2.2.2.1.length≤65536+k,fun x _=>16 - x.1.toNat,⟨0,rfl,by omega,by show A.length≤_; omega,by show B.length≤_; omega,by show C.length≤_; omega⟩,?_⟩
 rintro ⟨_,A',B',C',⟨⟩⟩ ⟨⟩ ⟨k,rfl,hk,lA',lB',lC'⟩
 dsimp only at lA' lB' lC' ⊢
 rintro _ rfl
 refine Br.intro (fun e=>?_) fun e=>?_
 ·have hk2:k<16:=by have:=of_decide_eq_true e; omega
  have a1:∀ l:List Int,(l++[78]).length=l.length+1:=fun l=>by rw [List.length_append]; rfl
  rw [Z24 hk2 (by omega)]
  refine ⟨⟨rfl,by omega⟩,⟨rfl,by omega⟩,⟨rfl,by omega⟩,⟨rfl,(a1 _).symm⟩,⟨rfl,(a1 _).symm⟩,⟨rfl,(a1 _).symm⟩,rfl,⟨k+1,rfl,by omega,?_,?_,?_⟩,by omega⟩
  ·show (A'++[78]).length≤_; rw [a1]; omega
  ·show (B'++[78]).length≤_; rw [a1]; omega
  ·show (C'++[78]).length≤_; rw [a1]; omega
 have t2:∀ L:List Int,List.take (0+L.length) (List.drop 0 ([]++L))=L:=fun L=>by rw [List.drop_zero,List.nil_append,Nat.zero_add,List.take_length]
 rw [t2 R.1,t2 R.2.1,t2 O.1]
 refine ⟨trivial,?_⟩
 rintro _ rfl
 rintro _ rfl
 rw [same]
 refine Br.intro (fun _=>?_) fun e=>absurd e (by decide)
 refine ⟨trivial,?_⟩
 rintro _ rfl
 rintro _ rfl
 rw [same]
 refine Br.intro (fun _=>?_) fun e=>absurd e (by decide)
 refine ⟨trivial,?_⟩
 rintro _ rfl
 rintro _ rfl
 rw [same]
 refine Br.intro (fun _=>?_) fun e=>absurd e (by decide)
 refine ⟨trivial,?_⟩
 rintro _ rfl
 rintro _ rfl
 rw [sameF]
 rfl
end Go.Lift

namespace Go.Lift
def Z6h:=fun (ty39 ty59 ty2:Nat) (post:Bool × Unit→Prop)=>∃ (h:I64 (1:Int)),∀ (a:Bool),a=((newR (1:Int)).snd.fst != (0:Int))→Br a (post
 (false,())) (∃ (h:True),∀ (a:Bool),a=decide ((Ze (newR (1:Int)).fst).fst<(0:Int))→Br a (∀ (a:Bool),a=((0:Int) != (6:Int))→Br a (post
 (false,())) False) (∀ (a:Bool),a=decide ((Ze (newR (1:Int)).fst).fst > (6144:Int))→Br a (∀ (a:Bool),a=((0:Int) != (6:Int))→Br a (post (false,
 ())) False) (∃ (h:True),∀ (a:Bool),a=((Z99 (newR (1:Int)).fst).fst != i64.wrap ((2:Int)*(Ze (newR (1:Int)).fst).fst))→Br a (∀ (a:Bool),a =
 ((0:Int) != (6:Int))→Br a (post (false,())) False) (∃ (h:(0:Int)≤(Ze (newR (1:Int)).fst).fst∧(Ze (newR (1:Int)).fst).fst≤(Ze (newR (1 :
 Int)).fst).fst∧(Ze (newR (1:Int)).fst).fst*(↑(8:Nat):Int)≤(281474976710656:Int)),∃ (h:(0:Int)≤(Ze (newR (1:Int)).fst).fst∧(Ze (newR (1 :
 Int)).fst).fst≤(Ze (newR (1:Int)).fst).fst∧(Ze (newR (1:Int)).fst).fst*(↑(8:Nat):Int)≤(281474976710656:Int)),∃ (h:(0:Int)≤(Ze (newR (1 :
 Int)).fst).fst∧(Ze (newR (1:Int)).fst).fst≤(Ze (newR (1:Int)).fst).fst∧(Ze (newR (1:Int)).fst).fst*(↑(8:Nat):Int)≤(281474976710656:Int)),∃ (h
 : (0:Int)≤i64.wrap ((2:Int)*(Ze (newR (1:Int)).fst).fst)∧i64.wrap ((2:Int)*(Ze (newR (1:Int)).fst).fst)≤i64.wrap ((2:Int) *
 (Ze (newR (1:Int)).fst).fst)∧i64.wrap ((2:Int)*(Ze (newR (1:Int)).fst).fst)*(↑(8:Nat):Int)≤(281474976710656:Int)),HIs [HObj.pend,HObj.box
 Md.rw ty39 [SV.val (Go.Value.slice none (0:Nat) (0:Nat)),SV.val (Go.Value.slice none (0:Nat) (0:Nat)),SV.val (Go.Value.slice none (0:Nat) (0 :
 Nat)),SV.val (Go.Value.slice none (0:Nat) (0:Nat)),SV.val (Go.Value.int i64 (0:Int)),SV.val (Go.Value.int i64 (0:Int))],HObj.row Md.rw ty59
 (K.flt f64) (List.replicate (Ze (newR (1:Int)).fst).fst.toNat (0:Nat)),HObj.row Md.rw ty2 (K.int i64) (List.replicate (Ze (newR (1 :
 Int)).fst).fst.toNat (0:Int)),HObj.row Md.rw ty2 (K.int i64) (List.replicate (Ze (newR (1:Int)).fst).fst.toNat (0:Int)),HObj.row Md.rw ty59 (K.flt
 f64) (List.replicate (i64.wrap ((2:Int)*(Ze (newR (1:Int)).fst).fst)).toNat (0:Nat)),HObj.box Md.rw ty39 [SV.osl (2:Nat) (0:Nat) (6:Nat),
 SV.osl (3:Nat) (0:Nat) (6:Nat),SV.osl (4:Nat) (0:Nat) (6:Nat),SV.osl (5:Nat) (0:Nat) (12:Nat),SV.val (Go.Value.int i64 (0:Int)),SV.val
 (Go.Value.int i64 (0:Int))]] [HObj.pend,HObj.box Md.rw ty39 [SV.val (Go.Value.slice none (0:Nat) (0:Nat)),SV.val (Go.Value.slice none (0:Nat) (0 :
 Nat)),SV.val (Go.Value.slice none (0:Nat) (0:Nat)),SV.val (Go.Value.slice none (0:Nat) (0:Nat)),SV.val (Go.Value.int i64 (0:Int)),SV.val
 (Go.Value.int i64 (0:Int))],HObj.row Md.rw ty59 (K.flt f64) (List.replicate (Ze (newR (1:Int)).fst).fst.toNat (0:Nat)),HObj.row Md.rw ty2 (K.int
 i64) (List.replicate (Ze (newR (1:Int)).fst).fst.toNat (0:Int)),HObj.row Md.rw ty2 (K.int i64) (List.replicate (Ze (newR (1:Int)).fst).fst.toNat
 (0:Int)),HObj.row Md.rw ty59 (K.flt f64) (List.replicate (i64.wrap ((2:Int)*(Ze (newR (1:Int)).fst).fst)).toNat (0:Nat)),HObj.box Md.rw ty39
 [SV.osl (2:Nat) (0:Nat) (6:Nat),SV.osl (3:Nat) (0:Nat) (6:Nat),SV.osl (4:Nat) (0:Nat) (6:Nat),SV.osl (5:Nat) (0:Nat) (12:Nat),SV.val (Go.Value.int
 i64 (0:Int)),SV.val (Go.Value.int i64 (0:Int))]]∧∃ (I:Int × Unit→List Int × Unit→Prop),∃ (μ:Int × Unit→List Int × Unit→Nat),I ((0:Int),())
 (List.replicate (Ze (newR (1:Int)).fst).fst.toNat (0:Int),())∧∀ (x:Int × Unit) (y:List Int × Unit),I x y→∀ (a:Bool),a=decide (x.fst<(Ze (newR (1 :
 Int)).fst).fst)→Br a (∃ (h:True),∃ (h:(0:Int)≤x.fst∧x.fst<(↑(Ze (newR (1:Int)).fst).fst.toNat:Int)),∀ (a:Bool),a=(x.fst==(1:Int))→Br a (∃ (h :
 (0:Int)≤x.fst∧x.fst<(↑(Ze (newR (1:Int)).fst).fst.toNat:Int)),∃ (h:(0:Int)≤x.fst∧x.fst<(↑(Ze (newR (1:Int)).fst).fst.toNat:Int)),HIs
 [HObj.pend,HObj.box Md.rw ty39 [SV.val (Go.Value.slice none (0:Nat) (0:Nat)),SV.val (Go.Value.slice none (0:Nat) (0:Nat)),SV.val (Go.Value.slice
 none (0:Nat) (0:Nat)),SV.val (Go.Value.slice none (0:Nat) (0:Nat)),SV.val (Go.Value.int i64 (0:Int)),SV.val (Go.Value.int i64 (0 :
 Int))],HObj.row Md.rw ty59 (K.flt f64) (List.replicate (Ze (newR (1:Int)).fst).fst.toNat (0:Nat)),HObj.row Md.rw ty2 (K.int i64) ((y.fst.set ((0 :
 Nat)+x.fst.toNat) (Z2o (newR (1:Int)).fst x.fst).fst).set ((0:Nat)+x.fst.toNat) (i64.wrap ((2:Int)*(y.fst.set ((0:Nat)+x.fst.toNat) (Z2o (newR (1 :
 Int)).fst x.fst).fst).getD ((0:Nat)+x.fst.toNat) (0:Int)))),HObj.row Md.rw ty2 (K.int i64) (List.replicate (Ze (newR (1:Int)).fst).fst.toNat (0:Int)),
 HObj.row Md.rw ty59 (K.flt f64) (List.replicate (i64.wrap ((2:Int)*(Ze (newR (1:Int)).fst).fst)).toNat (0:Nat)),HObj.box Md.rw ty39 [SV.osl (2 :
 Nat) (0:Nat) (6:Nat),SV.osl (3:Nat) (0:Nat) (6:Nat),SV.osl (4:Nat) (0:Nat) (6:Nat),SV.osl (5:Nat) (0:Nat) (12:Nat),SV.val (Go.Value.int i64 (0 :
 Int)),SV.val (Go.Value.int i64 (0:Int))]] [HObj.pend,HObj.box Md.rw ty39 [SV.val (Go.Value.slice none (0:Nat) (0:Nat)),SV.val (Go.Value.slice none
 (0:Nat) (0:Nat)),SV.val (Go.Value.slice none (0:Nat) (0:Nat)),SV.val (Go.Value.slice none (0:Nat) (0:Nat)),SV.val (Go.Value.int i64 (0 :
 Int)),SV.val (Go.Value.int i64 (0:Int))],HObj.row Md.rw ty59 (K.flt f64) (List.replicate (Ze (newR (1:Int)).fst).fst.toNat (0:Nat)),HObj.row
 Md.rw ty2 (K.int i64) ((y.fst.set ((0:Nat)+x.fst.toNat) (Z2o (newR (1:Int)).fst x.fst).fst).set ((0:Nat)+x.fst.toNat) (i64.wrap ((2:Int) *
 (y.fst.set ((0:Nat)+x.fst.toNat) (Z2o (newR (1:Int)).fst x.fst).fst).getD ((0:Nat)+x.fst.toNat) (0:Int)))),HObj.row Md.rw ty2 (K.int i64) (List.replicate
 (Ze (newR (1:Int)).fst).fst.toNat (0:Int)),HObj.row Md.rw ty59 (K.flt f64) (List.replicate (i64.wrap ((2:Int)*(Ze (newR (1 :
 Int)).fst).fst)).toNat (0:Nat)),HObj.box Md.rw ty39 [SV.osl (2:Nat) (0:Nat) (6:Nat),SV.osl (3:Nat) (0:Nat) (6:Nat),SV.osl (4:Nat) (0:Nat) (6:Nat),SV.osl (5
 : Nat) (0:Nat) (12:Nat),SV.val (Go.Value.int i64 (0:Int)),SV.val (Go.Value.int i64 (0:Int))]]∧I (i64.wrap (x.fst+(1:Int)),()) ((y.fst.set
 ((0:Nat)+x.fst.toNat) (Z2o (newR (1:Int)).fst x.fst).fst).set ((0:Nat)+x.fst.toNat) (i64.wrap ((2:Int)*(y.fst.set ((0:Nat)+x.fst.toNat) (Z2o (newR
 (1:Int)).fst x.fst).fst).getD ((0:Nat)+x.fst.toNat) (0:Int))),())∧μ (i64.wrap (x.fst+(1:Int)),()) ((y.fst.set ((0:Nat)+x.fst.toNat) (Z2o (newR (1 :
 Int)).fst x.fst).fst).set ((0:Nat)+x.fst.toNat) (i64.wrap ((2:Int)*(y.fst.set ((0:Nat)+x.fst.toNat) (Z2o (newR (1:Int)).fst x.fst).fst).getD ((0:Nat) +
 x.fst.toNat) (0:Int))),())<μ x y) (HIs [HObj.pend,HObj.box Md.rw ty39 [SV.val (Go.Value.slice none (0:Nat) (0:Nat)),SV.val (Go.Value.slice none (0:Nat)
 (0:Nat)),SV.val (Go.Value.slice none (0:Nat) (0:Nat)),SV.val (Go.Value.slice none (0:Nat) (0:Nat)),SV.val (Go.Value.int i64 (0:Int)),SV.val
 (Go.Value.int i64 (0:Int))],HObj.row Md.rw ty59 (K.flt f64) (List.replicate (Ze (newR (1:Int)).fst).fst.toNat (0:Nat)),HObj.row Md.rw ty2 (K.int
 i64) (y.fst.set ((0:Nat)+x.fst.toNat) (Z2o (newR (1:Int)).fst x.fst).fst),HObj.row Md.rw ty2 (K.int i64) (List.replicate (Ze (newR (1 :
 Int)).fst).fst.toNat (0:Int)),HObj.row Md.rw ty59 (K.flt f64) (List.replicate (i64.wrap ((2:Int)*(Ze (newR (1:Int)).fst).fst)).toNat (0:Nat)),
 HObj.box Md.rw ty39 [SV.osl (2:Nat) (0:Nat) (6:Nat),SV.osl (3:Nat) (0:Nat) (6:Nat),SV.osl (4:Nat) (0:Nat) (6:Nat),SV.osl (5:Nat) (0:Nat) (12:Nat),
 SV.val (Go.Value.int i64 (0:Int)),SV.val (Go.Value.int i64 (0:Int))]] [HObj.pend,HObj.box Md.rw ty39 [SV.val (Go.Value.slice none (0:Nat) (0 :
 Nat)),SV.val (Go.Value.slice none (0:Nat) (0:Nat)),SV.val (Go.Value.slice none (0:Nat) (0:Nat)),SV.val (Go.Value.slice none (0:Nat) (0:Nat)),
 SV.val (Go.Value.int i64 (0:Int)),SV.val (Go.Value.int i64 (0:Int))],HObj.row Md.rw ty59 (K.flt f64) (List.replicate (Ze (newR (1 :
 Int)).fst).fst.toNat (0:Nat)),HObj.row Md.rw ty2 (K.int i64) (y.fst.set ((0:Nat)+x.fst.toNat) (Z2o (newR (1:Int)).fst x.fst).fst),HObj.row Md.rw ty2 (K.int
 i64) (List.replicate (Ze (newR (1:Int)).fst).fst.toNat (0:Int)),HObj.row Md.rw ty59 (K.flt f64) (List.replicate (i64.wrap ((2:Int) *
 (Ze (newR (1:Int)).fst).fst)).toNat (0:Nat)),HObj.box Md.rw ty39 [SV.osl (2:Nat) (0:Nat) (6:Nat),SV.osl (3:Nat) (0:Nat) (6:Nat),SV.osl (4:Nat) (0:Nat)
 (6:Nat),SV.osl (5:Nat) (0:Nat) (12:Nat),SV.val (Go.Value.int i64 (0:Int)),SV.val (Go.Value.int i64 (0:Int))]]∧I (i64.wrap (x.fst+(1 :
 Int)),()) (y.fst.set ((0:Nat)+x.fst.toNat) (Z2o (newR (1:Int)).fst x.fst).fst,())∧μ (i64.wrap (x.fst+(1:Int)),()) (y.fst.set ((0:Nat)+x.fst.toNat)
 (Z2o (newR (1:Int)).fst x.fst).fst,())<μ x y)) (∀ (a:Bool),a=((↑(Ze (newR (1:Int)).fst).fst.toNat:Int) != (6:Int))→Br a (post (false,())) (HIs
 [HObj.box Md.rw ty39 [SV.osl (2:Nat) (0:Nat) (6:Nat),SV.osl (3:Nat) (0:Nat) (6:Nat),SV.osl (4:Nat) (0:Nat) (6:Nat),SV.osl (5:Nat) (0:Nat) (12:Nat),
 SV.val (Go.Value.int i64 (0:Int)),SV.val (Go.Value.int i64 (0:Int))],HObj.box Md.rw ty39 [SV.osl (2:Nat) (0:Nat) (6:Nat),SV.osl (3:Nat) (0:Nat) (6
 : Nat),SV.osl (4:Nat) (0:Nat) (6:Nat),SV.osl (5:Nat) (0:Nat) (12:Nat),SV.val (Go.Value.int i64 (0:Int)),SV.val (Go.Value.int i64 (0:Int))],
 HObj.row Md.rw ty59 (K.flt f64) (List.replicate (Ze (newR (1:Int)).fst).fst.toNat (0:Nat)),HObj.row Md.rw ty2 (K.int i64) y.fst,HObj.row Md.rw ty2
 (K.int i64) (List.replicate (Ze (newR (1:Int)).fst).fst.toNat (0:Int)),HObj.row Md.rw ty59 (K.flt f64) (List.replicate (i64.wrap ((2:Int)
 * (Ze (newR (1:Int)).fst).fst)).toNat (0:Nat)),HObj.box Md.rw ty39 [SV.osl (2:Nat) (0:Nat) (6:Nat),SV.osl (3:Nat) (0:Nat) (6:Nat),SV.osl (4:Nat) (0 :
 Nat) (6:Nat),SV.osl (5:Nat) (0:Nat) (12:Nat),SV.val (Go.Value.int i64 (0:Int)),SV.val (Go.Value.int i64 (0:Int))]] [HObj.box Md.rw ty39 [SV.osl (2 :
 Nat) (0:Nat) (6:Nat),SV.osl (3:Nat) (0:Nat) (6:Nat),SV.osl (4:Nat) (0:Nat) (6:Nat),SV.osl (5:Nat) (0:Nat) (12:Nat),SV.val (Go.Value.int i64 (0 :
 Int)),SV.val (Go.Value.int i64 (0:Int))],HObj.box Md.rw ty39 [SV.osl (2:Nat) (0:Nat) (6:Nat),SV.osl (3:Nat) (0:Nat) (6:Nat),SV.osl (4:Nat) (0:Nat) (6
 : Nat),SV.osl (5:Nat) (0:Nat) (12:Nat),SV.val (Go.Value.int i64 (0:Int)),SV.val (Go.Value.int i64 (0:Int))],HObj.row Md.rw ty59 (K.flt
 f64) (List.replicate (Ze (newR (1:Int)).fst).fst.toNat (0:Nat)),HObj.row Md.rw ty2 (K.int i64) y.fst,HObj.row Md.rw ty2 (K.int i64)
 (List.replicate (Ze (newR (1:Int)).fst).fst.toNat (0:Int)),HObj.row Md.rw ty59 (K.flt f64) (List.replicate (i64.wrap ((2:Int)*(Ze (newR (1
 : Int)).fst).fst)).toNat (0:Nat)),HObj.box Md.rw ty39 [SV.osl (2:Nat) (0:Nat) (6:Nat),SV.osl (3:Nat) (0:Nat) (6:Nat),SV.osl (4:Nat) (0:Nat) (6:Nat),SV.osl
 (5:Nat) (0:Nat) (12:Nat),SV.val (Go.Value.int i64 (0:Int)),SV.val (Go.Value.int i64 (0:Int))]]∧∃ (I:Int × Unit→List Nat × List Int × Unit →
 Prop),∃ (μ:Int × Unit→List Nat × List Int × Unit→Nat),I ((0:Int),()) (List.replicate (Ze (newR (1:Int)).fst).fst.toNat (0:Nat),y.fst,())∧∀ (x:Int × Unit)
 (y:List Nat × List Int × Unit),I x y→∀ (a:Bool),a=decide (x.fst<(6:Int))→Br a (∃ (h:(0:Int)≤x.fst∧x.fst<(↑(Ze (newR (1:Int)).fst).fst.toNat :
 Int)),∃ (h:(0:Int)≤x.fst∧x.fst<(↑(Ze (newR (1:Int)).fst).fst.toNat:Int)),HIs [HObj.box Md.rw ty39 [SV.osl (2:Nat) (0:Nat) (6:Nat),SV.osl (3:Nat) (0 :
 Nat) (6:Nat),SV.osl (4:Nat) (0:Nat) (6:Nat),SV.osl (5:Nat) (0:Nat) (12:Nat),SV.val (Go.Value.int i64 (0:Int)),SV.val (Go.Value.int i64 (0 :
 Int))],HObj.box Md.rw ty39 [SV.osl (2:Nat) (0:Nat) (6:Nat),SV.osl (3:Nat) (0:Nat) (6:Nat),SV.osl (4:Nat) (0:Nat) (6:Nat),SV.osl (5:Nat) (0:Nat) (12 :
 Nat),SV.val (Go.Value.int i64 (0:Int)),SV.val (Go.Value.int i64 (0:Int))],HObj.row Md.rw ty59 (K.flt f64) (y.fst.set ((0:Nat)+x.fst.toNat)
 (f64.nearest (i64.wrap ((5:Int) - x.fst)))),HObj.row Md.rw ty2 (K.int i64) (y.snd.fst.set ((0:Nat)+x.fst.toNat) (0:Int)),HObj.row Md.rw ty2
 (K.int i64) (List.replicate (Ze (newR (1:Int)).fst).fst.toNat (0:Int)),HObj.row Md.rw ty59 (K.flt f64) (List.replicate (i64.wrap ((2:Int)
 * (Ze (newR (1:Int)).fst).fst)).toNat (0:Nat)),HObj.box Md.rw ty39 [SV.osl (2:Nat) (0:Nat) (6:Nat),SV.osl (3:Nat) (0:Nat) (6:Nat),SV.osl (4:Nat) (0 :
 Nat) (6:Nat),SV.osl (5:Nat) (0:Nat) (12:Nat),SV.val (Go.Value.int i64 (0:Int)),SV.val (Go.Value.int i64 (0:Int))]] [HObj.box Md.rw ty39 [SV.osl (2 :
 Nat) (0:Nat) (6:Nat),SV.osl (3:Nat) (0:Nat) (6:Nat),SV.osl (4:Nat) (0:Nat) (6:Nat),SV.osl (5:Nat) (0:Nat) (12:Nat),SV.val (Go.Value.int i64 (0 :
 Int)),SV.val (Go.Value.int i64 (0:Int))],HObj.box Md.rw ty39 [SV.osl (2:Nat) (0:Nat) (6:Nat),SV.osl (3:Nat) (0:Nat) (6:Nat),SV.osl (4:Nat) (0:Nat) (6
 : Nat),SV.osl (5:Nat) (0:Nat) (12:Nat),SV.val (Go.Value.int i64 (0:Int)),SV.val (Go.Value.int i64 (0:Int))],HObj.row Md.rw ty59 (K.flt
 f64) (y.fst.set ((0:Nat)+x.fst.toNat) (f64.nearest (i64.wrap ((5:Int) - x.fst)))),HObj.row Md.rw ty2 (K.int i64) (y.snd.fst.set
 ((0:Nat)+x.fst.toNat) (0:Int)),HObj.row Md.rw ty2 (K.int i64) (List.replicate (Ze (newR (1:Int)).fst).fst.toNat (0:Int)),HObj.row Md.rw ty59 (K.flt
 f64) (List.replicate (i64.wrap ((2:Int)*(Ze (newR (1:Int)).fst).fst)).toNat (0:Nat)),HObj.box Md.rw ty39 [SV.osl (2:Nat) (0:Nat) (6:Nat),
 SV.osl (3:Nat) (0:Nat) (6:Nat),SV.osl (4:Nat) (0:Nat) (6:Nat),SV.osl (5:Nat) (0:Nat) (12:Nat),SV.val (Go.Value.int i64 (0:Int)),SV.val
 (Go.Value.int i64 (0:Int))]]∧I (i64.wrap (x.fst+(1:Int)),()) (y.fst.set ((0:Nat)+x.fst.toNat) (f64.nearest (i64.wrap ((5:Int) -
 x.fst))),y.snd.fst.set ((0:Nat)+x.fst.toNat) (0:Int),())∧μ (i64.wrap (x.fst+(1:Int)),()) (y.fst.set ((0:Nat)+x.fst.toNat) (f64.nearest
 (i64.wrap ((5:Int) - x.fst))),y.snd.fst.set ((0:Nat)+x.fst.toNat) (0:Int),())<μ x y) (∃ (h:(0:Int)≤(0:Int)∧(0:Int)<(↑(Ze (newR (1 :
 Int)).fst).fst.toNat:Int)),∃ (h:(0:Int)≤(0:Int)∧(0:Int)<(↑(Ze (newR (1:Int)).fst).fst.toNat:Int)),∃ (h:WRun (newR (1:Int)).fst (List.take (Ze
 (newR (1:Int)).fst).fst.toNat (List.drop (0:Nat) y.fst),List.take (Ze (newR (1:Int)).fst).fst.toNat (List.drop (0:Nat) (y.snd.fst.set ((0:Nat)+Int.toNat (0 :
 Int)) (100:Int))),[(10:Int),(0:Int),(0:Int),(0:Int),(0:Int),(0:Int)],[(0:Nat),(0:Nat),(0:Nat),(0:Nat),(0:Nat),(0:Nat),(0:Nat),(0:Nat),
 (0:Nat),(0:Nat),(0:Nat),(0:Nat)],(0:Int),(0:Int))),∀ (a:List Int × List Int × Int × Unit),a=Z3j (newR (1:Int)).fst (List.take (Ze (newR (1 :
 Int)).fst).fst.toNat (List.drop (0:Nat) y.fst),List.take (Ze (newR (1:Int)).fst).fst.toNat (List.drop (0:Nat) (y.snd.fst.set ((0:Nat)+Int.toNat (0:Int)) (100 :
 Int))),[(10:Int),(0:Int),(0:Int),(0:Int),(0:Int),(0:Int)],[(0:Nat),(0:Nat),(0:Nat),(0:Nat),(0:Nat),(0:Nat),(0:Nat),(0:Nat),(0:Nat),(0
 : Nat),(0:Nat),(0:Nat)],(0:Int),(0:Int))→∀ (a_1:Bool),a_1=(a.snd.snd.fst != (0:Int))→Br a_1 (post (false,())) (∀ (a_2:Bool),a_2=((↑a.fst.length :
 Int) != (6:Int))→Br a_2 (post (false,())) (∀ (a_3:Bool),a_3=((↑a.snd.fst.length:Int) != (6:Int))→Br a_3 (post (false,())) (∃ (h:(0:Int)≤(0:Int)
 ∧ (0:Int)<(↑a.fst.length:Int)),∀ (a_4:Bool),a_4=(a.fst.getD ((0:Nat)+Int.toNat (0:Int)) (0:Int) != (75:Int))→Br a_4 (post (false,())) (∃ (h:(0 :
 Int)≤(5:Int)∧(5:Int)<(↑a.fst.length:Int)),∀ (a_5:Bool),a_5=(a.fst.getD ((0:Nat)+Int.toNat (5:Int)) (0:Int) != (25:Int))→Br a_5 (post (false,
 ())) (∃ (h:(0:Int)≤(0:Int)∧(0:Int)<(↑a.snd.fst.length:Int)),∀ (a_6:Bool),a_6=(a.snd.fst.getD ((0:Nat)+Int.toNat (0:Int)) (0:Int) != (8:Int))→Br
 a_6 (post (false,())) (∃ (h:(0:Int)≤(5:Int)∧(5:Int)<(↑a.snd.fst.length:Int)),∀ (a_7:Bool),a_7=(a.snd.fst.getD ((0:Nat)+Int.toNat (5:Int)) (0 :
 Int) != (2:Int))→Br a_7 (post (false,())) (∃ (h:Z9e (newR (1:Int)).fst (List.take (Ze (newR (1:Int)).fst).fst.toNat (List.drop (0:Nat) y.fst)) (0 :
 Int)),∀ (a:Int × Unit),a=Z3d (newR (1:Int)).fst (List.take (Ze (newR (1:Int)).fst).fst.toNat (List.drop (0:Nat) y.fst)) (0:Int)→∀ (a_8:Bool),a_8 =
 (a.fst==(5:Int))→Br a_8 (∃ (h:Z9e (newR (1:Int)).fst (List.take (Ze (newR (1:Int)).fst).fst.toNat (List.drop (0:Nat) y.fst)) (5:Int)),∀ (a:Int × Unit),
 a=Z3d (newR (1:Int)).fst (List.take (Ze (newR (1:Int)).fst).fst.toNat (List.drop (0:Nat) y.fst)) (5:Int)→∀ (a_9:Bool),a_9=(a.fst==(-1:Int))→Br a_9
 (∃ (h:WOrd [(4607182418800017408:Nat),(4613937818241073152:Nat),(4611686018427387904:Nat),(4613937818241073152:Nat)]),∀ (a:List Int × Unit),a=Za6
 [(4607182418800017408:Nat),(4613937818241073152:Nat),(4611686018427387904:Nat),(4613937818241073152:Nat)]→∃ (h:True),∀ (a_10:Bool × Unit),a_10=Z5n
 (List.take a.fst.length (List.drop (0:Nat) a.fst)) [(1:Int),(3:Int),(2:Int),(0:Int)]→∀ (a:Bool),a=a_10.fst→post (a,())) (post (false,()))) (post
 (false,()))))))))))))))))
theorem Zwm (ty0 ty1 ty2:Nat)  : Z6h ty0 ty1 ty2  (fun r=>r=yesR):=by
 delta Z6h
 dsimp only
 rw [new1]
 dsimp only
 have hC:(Ze (some (netG 1))).fst=6:=Zcw
 have hE:(Z99 (some (netG 1))).fst=12:=Ztw
 rw [hC,hE]
 refine ⟨⟨by decide,by decide⟩,?_⟩
 rintro _ rfl
 refine Br.intro (fun e=>absurd e (by first | decide | simp)) fun _=>?_
 refine ⟨trivial,?_⟩
 rintro _ rfl
 refine Br.intro (fun e=>absurd e (by first | decide | simp)) fun _=>?_
 rintro _ rfl
 refine Br.intro (fun e=>absurd e (by first | decide | simp)) fun _=>?_
 refine ⟨trivial,?_⟩
 rintro _ rfl
 refine Br.intro (fun e=>absurd e (by first | decide | simp)) fun _=>?_
 refine ⟨by decide,by decide,by decide,by decide,?_⟩
 refine ⟨rfl,fun x y=>∃ k:Nat,x.1=k∧k≤6∧y.1=(List.range k).map (Zjg (some (netG 1)))++List.replicate (6 - k) 0,fun x _=>6 - x.1.toNat,⟨0,rfl,by omega,rfl⟩,?_⟩
 rintro ⟨_,⟨⟩⟩ ⟨_,⟨⟩⟩ ⟨k,rfl,hk,rfl⟩
 dsimp only
 rintro _ rfl
 have lk:((List.range k).map (Zjg (some (netG 1)))).length=k:=by rw [List.length_map,List.length_range]
 refine Br.intro (fun e3=>?_) fun e3=>?_
 ·have e3:k<6:=by have:=of_decide_eq_true e3; omega
  refine ⟨trivial,⟨by omega,by show (k:Int)<6; omega⟩,?_⟩
  rw [Int.toNat_natCast,Z24 e3 (by omega),Z1by lk e3]
  have ha:(Z2o (some (netG 1)) (k:Int)).1=Zj7 (some (netG 1)) (k:Int):=rfl
  rw [ha]
  rintro _ rfl
  refine Br.intro (fun e4=>?_) fun e4=>?_
  ·have e4:k=1:=by have:=beq_iff_eq.1 e4; omega
   refine ⟨⟨by omega,by show (k:Int)<6; omega⟩,⟨by omega,by show (k:Int)<6; omega⟩,rfl,⟨k+1,rfl,by omega,?_⟩,by omega⟩
   have f1:Zjg (some (netG 1)) k=iw (2*Zj7 (some (netG 1)) (k:Int)):=by unfold Zjg; rw [if_pos e4]
   rw [List.range_succ,List.map_append,List.map_singleton,f1]
   exact Z1ac lk _ _
  ·have e4:¬ k=1:=fun q=>by rw [q] at e4; simp at e4
   refine ⟨rfl,⟨k+1,rfl,by omega,?_⟩,by omega⟩
   have f1:Zjg (some (netG 1)) k=Zj7 (some (netG 1)) (k:Int):=by unfold Zjg; rw [if_neg e4]
   rw [List.range_succ,List.map_append,List.map_singleton,f1]
 have e3:k=6:=by have:=of_decide_eq_false e3; omega
 subst e3
 clear lk hk
 rw [Nat.sub_self,List.replicate_zero,List.append_nil,Z1e4]
 rintro _ rfl
 refine Br.intro (fun e=>absurd e (by first | decide | simp)) fun _=>?_
 refine ⟨rfl,fun x y=>∃ k:Nat,x.1=k∧k≤6∧y.1=Z11c k∧y.2.1=Zod k,fun x _=>6 - x.1.toNat,⟨0,rfl,by omega,rfl,rfl⟩,?_⟩
 rintro ⟨_,⟨⟩⟩ ⟨_,_,⟨⟩⟩ ⟨k,rfl,hk,rfl,rfl⟩
 dsimp only
 rintro _ rfl
 refine Br.intro (fun e3=>?_) fun e3=>?_
 ·have e3:k<6:=by have:=of_decide_eq_true e3; omega
  refine ⟨⟨by omega,by show (k:Int)<6; omega⟩,⟨by omega,by show (k:Int)<6; omega⟩,?_⟩
  rw [Int.toNat_natCast,Nat.zero_add,Z24 e3 (by omega),wi (x:=5 - (k:Int)) ⟨by omega,by omega⟩]
  exact ⟨rfl,⟨k+1,rfl,by omega,rfl,rfl⟩,by omega⟩
 have e3:k=6:=by have:=of_decide_eq_false e3; omega
 subst e3
 have t1:List.take (Int.toNat 6) (List.drop 0 (Z11c 6))=Z43:=by rw [Z1e2]; rfl
 have t2:List.take (Int.toNat 6) (List.drop 0 ((Zod 6).set (0+Int.toNat 0) 100))=[100,0,0,0,0,0]:=by
  show List.take 6 ((Zod 6).set 0 100)=_
  rw [Z1e3]; rfl
 rw [t1,t2]
 have e:Z3j (some (netG 1)) (Z43,[100,0,0,0,0,0],[10,0,0,0,0,0],[0,0,0,0,0,0,0,0,0,0,0,0],0,0)=([75,0,0,0,0,25],[8,0,0,0,0,2],0,()):=Z1c0
 have np:NetP (some (netG 1)):=.inr ⟨1,rfl,rfl⟩
 refine ⟨by decide,by decide,⟨np,Zwl,by unfold AllI I64; decide,by unfold AllI I64; decide⟩,?_⟩
 rintro _ rfl
 rw [e]
 rintro _ rfl
 refine Br.intro (fun e=>absurd e (by first | decide | simp)) fun _=>?_
 rintro _ rfl
 refine Br.intro (fun e=>absurd e (by first | decide | simp)) fun _=>?_
 rintro _ rfl
 refine Br.intro (fun e=>absurd e (by first | decide | simp)) fun _=>?_
 refine ⟨by decide,?_⟩
 rintro _ rfl
 refine Br.intro (fun e=>absurd e (by first | decide | simp)) fun _=>?_
 refine ⟨by decide,?_⟩
 rintro _ rfl
 refine Br.intro (fun e=>absurd e (by first | decide | simp)) fun _=>?_
 refine ⟨by decide,?_⟩
 rintro _ rfl
 refine Br.intro (fun e=>absurd e (by first | decide | simp)) fun _=>?_
 refine ⟨by decide,?_⟩
 rintro _ rfl
 refine Br.intro (fun e=>absurd e (by first | decide | simp)) fun _=>?_
 refine ⟨⟨np,Zwl⟩,?_⟩
 rw [Z17l]
 rintro _ rfl
 rintro _ rfl
 refine Br.intro (fun _=>?_) fun e=>absurd e (by decide)
 refine ⟨⟨np,Zwl⟩,?_⟩
 rw [Z17m]
 rintro _ rfl
 rintro _ rfl
 refine Br.intro (fun _=>?_) fun e=>absurd e (by decide)
 refine ⟨⟨by unfold AllW W64; decide,by decide⟩,?_⟩
 have e4:Za6 [4607182418800017408,4613937818241073152,4611686018427387904,4613937818241073152]=([1,3,2,0],()):=by unfold Za6; rw [Z1ad]
 rw [e4]
 rintro _ rfl
 refine ⟨trivial,?_⟩
 rintro _ rfl
 rintro _ rfl
 rfl
end Go.Lift

namespace Go.Lift
def Zgh:=fun (ty122 ty123 ty2 ty126 fn86 fn87:Nat) (n:Int) (post:Option (Int × List (Int × Int × Int × Int) × List ((Int × Int) × Int) × List (List Int) × List Int ×
 List Nat × List Nat) × Int × Unit→Prop)=>∃ (h:I64 n),Br ((Zap n).fst==(0:Int)) (post (none,(10:Int),())) (∃ (h:(0:Int)≤(0:Int)∧(0:Int)<(↑(2
 : Nat):Int)),HIs [HObj.mp Md.rw ((K.int i64).pair (K.int i64)) (K.int i64) [],HObj.box Md.rw ty122 [SV.val (Go.Value.int i64 n),SV.junk,
 SV.mref (0:Nat),SV.val (Go.Value.slice none (0:Nat) (0:Nat)),SV.junk,SV.val (Go.Value.slice none (0:Nat) (0:Nat)),SV.val (Go.Value.slice none (0
 : Nat) (0:Nat))],HObj.box Md.rw ty123 [SV.clo fn86 [LV.ref (1:Nat) (0:Nat)] [],SV.clo fn87 [LV.ref (1:Nat) (0:Nat)] []]] [HObj.mp Md.rw ((K.int i64).pair
 (K.int i64)) (K.int i64) [],HObj.box Md.rw ty122 [SV.val (Go.Value.int i64 n),SV.junk,SV.mref (0:Nat),SV.val (Go.Value.slice none (0:Nat) (0
 : Nat)),SV.junk,SV.val (Go.Value.slice none (0:Nat) (0:Nat)),SV.val (Go.Value.slice none (0:Nat) (0:Nat))],HObj.box Md.rw ty123 [SV.clo fn86 [LV.ref (1 :
 Nat) (0:Nat)] [],SV.clo fn87 [LV.ref (1:Nat) (0:Nat)] []]]∧∃ (I:Int × List (Int × Int × Int × Int) × List Int × Unit→List ((Int × Int) × Int) × Unit→Prop),∃ (μ :
 Int × List (Int × Int × Int × Int) × List Int × Unit→List ((Int × Int) × Int) × Unit→Nat),I ((0:Int),[],[],()) ([],())∧∀ (x:Int × List (Int × Int × Int × Int) ×
 List Int × Unit) (y:List ((Int × Int) × Int) × Unit),I x y→Br (decide (x.fst<(Zap n).fst)) (((0:Nat)=(0:Nat)∧x.snd.fst.length=x.snd.fst.length)∧HIs [HObj.mp
 Md.rw ((K.int i64).pair (K.int i64)) (K.int i64) y.fst,HObj.box Md.rw ty122 [SV.val (Go.Value.int i64 n),SV.junk,SV.mref (0:Nat),SV.val
 (Go.Value.slice none (0:Nat) (0:Nat)),SV.osl (4:Nat) (0:Nat) x.snd.snd.fst.length,SV.val (Go.Value.slice none (0:Nat) (0:Nat)),SV.val (Go.Value.slice
 none (0:Nat) (0:Nat))],HObj.box Md.rw ty123 [SV.clo fn86 [LV.ref (1:Nat) (0:Nat)] [],SV.clo fn87 [LV.ref (1:Nat) (0:Nat)] []],HObj.dead,HObj.row Md.rw ty2
 (K.int i64) x.snd.snd.fst] [HObj.mp Md.rw ((K.int i64).pair (K.int i64)) (K.int i64) y.fst,HObj.box Md.rw ty122 [SV.val (Go.Value.int i64
 n),SV.junk,SV.mref (0:Nat),SV.val (Go.Value.slice none (0:Nat) (0:Nat)),SV.osl (4:Nat) (0:Nat) x.snd.snd.fst.length,SV.val (Go.Value.slice none (0 :
 Nat) (0:Nat)),SV.val (Go.Value.slice none (0:Nat) (0:Nat))],HObj.box Md.rw ty123 [SV.clo fn86 [LV.ref (1:Nat) (0:Nat)] [],SV.clo fn87 [LV.ref (1:Nat) (0 :
 Nat)] []],HObj.dead,HObj.row Md.rw ty2 (K.int i64) x.snd.snd.fst]∧∃ (I_1:Int × List (Int × Int × Int × Int) × Unit→List ((Int × Int) × Int) × Unit→Prop),∃ (μ_1
 : Int × List (Int × Int × Int × Int) × Unit→List ((Int × Int) × Int) × Unit→Nat),I_1 ((0:Int),x.snd.fst,()) (y.fst,())∧∀ (x_2:Int × List (Int × Int × Int × Int) ×
 Unit) (y_1:List ((Int × Int) × Int) × Unit),I_1 x_2 y_1→Br (decide (x_2.fst<(4:Int))) (∃ (h:III n x.fst x_2.fst),∀ (a:Int × Int × Unit),a=Z3n n x.fst x_2.fst
 → Br (decide (x.fst > a.fst)) (((0:Nat)=(0:Nat)∧x_2.snd.fst.length=x_2.snd.fst.length)∧HIs [HObj.mp Md.rw ((K.int i64).pair (K.int i64)) (K.int
 i64) y_1.fst,HObj.box Md.rw ty122 [SV.val (Go.Value.int i64 n),SV.junk,SV.mref (0:Nat),SV.val (Go.Value.slice none (0:Nat) (0:Nat)),SV.osl (4 :
 Nat) (0:Nat) x.snd.snd.fst.length,SV.val (Go.Value.slice none (0:Nat) (0:Nat)),SV.val (Go.Value.slice none (0:Nat) (0:Nat))],HObj.box Md.rw ty123
 [SV.clo fn86 [LV.ref (1:Nat) (0:Nat)] [],SV.clo fn87 [LV.ref (1:Nat) (0:Nat)] []],HObj.dead,HObj.row Md.rw ty2 (K.int i64) x.snd.snd.fst] [HObj.mp Md.rw ((K.int
 i64).pair (K.int i64)) (K.int i64) y_1.fst,HObj.box Md.rw ty122 [SV.val (Go.Value.int i64 n),SV.junk,SV.mref (0:Nat),SV.val (Go.Value.slice
 none (0:Nat) (0:Nat)),SV.osl (4:Nat) (0:Nat) x.snd.snd.fst.length,SV.val (Go.Value.slice none (0:Nat) (0:Nat)),SV.val (Go.Value.slice none (0 :
 Nat) (0:Nat))],HObj.box Md.rw ty123 [SV.clo fn86 [LV.ref (1:Nat) (0:Nat)] [],SV.clo fn87 [LV.ref (1:Nat) (0:Nat)] []],HObj.dead,HObj.row Md.rw ty2 (K.int
 i64) x.snd.snd.fst]∧I_1 (i64.wrap (x_2.fst+(1:Int)),x_2.snd.fst,()) (y_1.fst,())∧μ_1 (i64.wrap (x_2.fst+(1:Int)),x_2.snd.fst,()) (y_1.fst,
 ())<μ_1 x_2 y_1) (∃ (h:x_2.snd.fst.length=x_2.snd.fst.length∧(x_2.snd.fst.length+(1:Nat))*(32:Nat)≤(140737488355328:Nat)),((0:Nat)=(0:Nat) ∧
 x_2.snd.fst.length+(1:Nat)=(x_2.snd.fst++[(x.fst,x_2.fst,a.fst,a.snd.fst)]).length)∧HIs [HObj.mp Md.rw ((K.int i64).pair (K.int i64)) (K.int
 i64) (mput (a.fst,a.snd.fst) (↑x_2.snd.fst.length:Int) (mput (x.fst,x_2.fst) (↑x_2.snd.fst.length:Int) y_1.fst)),HObj.box Md.rw ty122 [SV.val (Go.Value.int
 i64 n),SV.junk,SV.mref (0:Nat),SV.val (Go.Value.slice none (0:Nat) (0:Nat)),SV.osl (4:Nat) (0:Nat) x.snd.snd.fst.length,SV.val (Go.Value.slice
 none (0:Nat) (0:Nat)),SV.val (Go.Value.slice none (0:Nat) (0:Nat))],HObj.box Md.rw ty123 [SV.clo fn86 [LV.ref (1:Nat) (0:Nat)] [],SV.clo fn87 [LV.ref
 (1:Nat) (0:Nat)] []],HObj.dead,HObj.row Md.rw ty2 (K.int i64) x.snd.snd.fst] [HObj.mp Md.rw ((K.int i64).pair (K.int i64)) (K.int i64) (mput
 (a.fst,a.snd.fst) (↑x_2.snd.fst.length:Int) (mput (x.fst,x_2.fst) (↑x_2.snd.fst.length:Int) y_1.fst)),HObj.box Md.rw ty122 [SV.val (Go.Value.int i64 n),SV.junk,
 SV.mref (0:Nat),SV.val (Go.Value.slice none (0:Nat) (0:Nat)),SV.osl (4:Nat) (0:Nat) x.snd.snd.fst.length,SV.val (Go.Value.slice none (0:Nat) (0 :
 Nat)),SV.val (Go.Value.slice none (0:Nat) (0:Nat))],HObj.box Md.rw ty123 [SV.clo fn86 [LV.ref (1:Nat) (0:Nat)] [],SV.clo fn87 [LV.ref (1:Nat) (0:Nat)] []],
 HObj.dead,HObj.row Md.rw ty2 (K.int i64) x.snd.snd.fst]∧I_1 (i64.wrap (x_2.fst+(1:Int)),x_2.snd.fst++[(x.fst,x_2.fst,a.fst,a.snd.fst)],()) (mput
 (a.fst,a.snd.fst) (↑x_2.snd.fst.length:Int) (mput (x.fst,x_2.fst) (↑x_2.snd.fst.length:Int) y_1.fst),())∧μ_1 (i64.wrap (x_2.fst+(1:Int)),x_2.snd.fst ++
 [(x.fst,x_2.fst,a.fst,a.snd.fst)],()) (mput (a.fst,a.snd.fst) (↑x_2.snd.fst.length:Int) (mput (x.fst,x_2.fst) (↑x_2.snd.fst.length:Int) y_1.fst),())<μ_1 x_2 y_1))
 (((0:Nat)=(0:Nat)∧x_2.snd.fst.length=x_2.snd.fst.length)∧((0:Nat)=(0:Nat)∧x.snd.snd.fst.length=x.snd.snd.fst.length)∧HIs [HObj.mp Md.rw ((K.int
 i64).pair (K.int i64)) (K.int i64) y_1.fst,HObj.box Md.rw ty122 [SV.val (Go.Value.int i64 n),SV.junk,SV.mref (0:Nat),SV.val (Go.Value.slice
 none (0:Nat) (0:Nat)),SV.junk,SV.val (Go.Value.slice none (0:Nat) (0:Nat)),SV.val (Go.Value.slice none (0:Nat) (0:Nat))],HObj.box Md.rw ty123
 [SV.clo fn86 [LV.ref (1:Nat) (0:Nat)] [],SV.clo fn87 [LV.ref (1:Nat) (0:Nat)] []]] [HObj.mp Md.rw ((K.int i64).pair (K.int i64)) (K.int i64)
 y_1.fst,HObj.box Md.rw ty122 [SV.val (Go.Value.int i64 n),SV.junk,SV.mref (0:Nat),SV.val (Go.Value.slice none (0:Nat) (0:Nat)),SV.junk,SV.val
 (Go.Value.slice none (0:Nat) (0:Nat)),SV.val (Go.Value.slice none (0:Nat) (0:Nat))],HObj.box Md.rw ty123 [SV.clo fn86 [LV.ref (1:Nat) (0:Nat)] [],
 SV.clo fn87 [LV.ref (1:Nat) (0:Nat)] []]]∧I (i64.wrap (x.fst+(1:Int)),x_2.snd.fst,x.snd.snd.fst,()) (y_1.fst,())∧μ (i64.wrap (x.fst+(1:Int)),
 x_2.snd.fst,x.snd.snd.fst,()) (y_1.fst,())<μ x y)) (∃ (h:(0:Int)≤i64.wrap ((0:Int)+(1:Int))∧i64.wrap ((0:Int)+(1:Int))<(↑(2:Nat) :
 Int)),((0:Nat)=(0:Nat)∧x.snd.fst.length=x.snd.fst.length)∧((0:Nat)=(0:Nat)∧x.snd.snd.fst.length=x.snd.snd.fst.length)∧HIs [HObj.mp Md.rw ((K.int
 i64).pair (K.int i64)) (K.int i64) y.fst,HObj.box Md.rw ty122 [SV.val (Go.Value.int i64 n),SV.junk,SV.mref (0:Nat),SV.val (Go.Value.slice
 none (0:Nat) (0:Nat)),SV.junk,SV.val (Go.Value.slice none (0:Nat) (0:Nat)),SV.val (Go.Value.slice none (0:Nat) (0:Nat))],HObj.box Md.rw ty123
 [SV.clo fn86 [LV.ref (1:Nat) (0:Nat)] [],SV.clo fn87 [LV.ref (1:Nat) (0:Nat)] []],HObj.dead,HObj.dead] [HObj.mp Md.rw ((K.int i64).pair (K.int i64))
 (K.int i64) y.fst,HObj.box Md.rw ty122 [SV.val (Go.Value.int i64 n),SV.junk,SV.mref (0:Nat),SV.val (Go.Value.slice none (0:Nat) (0:Nat)),SV.junk,
 SV.val (Go.Value.slice none (0:Nat) (0:Nat)),SV.val (Go.Value.slice none (0:Nat) (0:Nat))],HObj.box Md.rw ty123 [SV.clo fn86 [LV.ref (1:Nat) (0:Nat)]
 [],SV.clo fn87 [LV.ref (1:Nat) (0:Nat)] []],HObj.dead,HObj.dead]∧∃ (I:Int × List (Int × Int × Int × Int) × List Int × Unit→List ((Int × Int) × Int) × Unit→Prop),∃
 (μ:Int × List (Int × Int × Int × Int) × List Int × Unit→List ((Int × Int) × Int) × Unit→Nat),I ((0:Int),x.snd.fst,x.snd.snd.fst,()) (y.fst,())∧∀ (x:Int × List
 (Int × Int × Int × Int) × List Int × Unit) (y:List ((Int × Int) × Int) × Unit),I x y→Br (decide (x.fst<(Zap n).fst)) (∃ (h:II n x.fst),∃ (h:x.snd.snd.fst.length =
 x.snd.snd.fst.length∧(x.snd.snd.fst.length+(1:Nat))*(8:Nat)≤(140737488355328:Nat)),((0:Nat)=(0:Nat)∧x.snd.fst.length=x.snd.fst.length)∧((0:Nat)=(0 :
 Nat)∧x.snd.snd.fst.length+(1:Nat)=(x.snd.snd.fst++[(Zte n x.fst).fst]).length)∧HIs [HObj.mp Md.rw ((K.int i64).pair (K.int i64)) (K.int i64)
 y.fst,HObj.box Md.rw ty122 [SV.val (Go.Value.int i64 n),SV.junk,SV.mref (0:Nat),SV.val (Go.Value.slice none (0:Nat) (0:Nat)),SV.junk,SV.val
 (Go.Value.slice none (0:Nat) (0:Nat)),SV.val (Go.Value.slice none (0:Nat) (0:Nat))],HObj.box Md.rw ty123 [SV.clo fn86 [LV.ref (1:Nat) (0:Nat)] [],
 SV.clo fn87 [LV.ref (1:Nat) (0:Nat)] []],HObj.dead,HObj.dead] [HObj.mp Md.rw ((K.int i64).pair (K.int i64)) (K.int i64) y.fst,HObj.box Md.rw ty122
 [SV.val (Go.Value.int i64 n),SV.junk,SV.mref (0:Nat),SV.val (Go.Value.slice none (0:Nat) (0:Nat)),SV.junk,SV.val (Go.Value.slice none (0:Nat) (0
 : Nat)),SV.val (Go.Value.slice none (0:Nat) (0:Nat))],HObj.box Md.rw ty123 [SV.clo fn86 [LV.ref (1:Nat) (0:Nat)] [],SV.clo fn87 [LV.ref (1:Nat) (0:Nat)] []],
 HObj.dead,HObj.dead]∧I (i64.wrap (x.fst+(1:Int)),x.snd.fst,x.snd.snd.fst++[(Zte n x.fst).fst],()) (y.fst,())∧μ (i64.wrap (x.fst+(1:Int)),
 x.snd.fst,x.snd.snd.fst++[(Zte n x.fst).fst],()) (y.fst,())<μ x y) (HIs [HObj.mp Md.rw ((K.int i64).pair (K.int i64)) (K.int i64) y.fst,HObj.box
 Md.rw ty122 [SV.val (Go.Value.int i64 n),SV.osl (5:Nat) (0:Nat) x.snd.fst.length,SV.mref (0:Nat),SV.junk,SV.osl (6:Nat) (0:Nat) x.snd.snd.fst.length,
 SV.junk,SV.junk],HObj.box Md.rw ty123 [SV.clo fn86 [LV.ref (1:Nat) (0:Nat)] [],SV.clo fn87 [LV.ref (1:Nat) (0:Nat)] []],HObj.dead,HObj.dead,HObj.row Md.rw ty126
 ((K.int i64).pair ((K.int i64).pair ((K.int i64).pair (K.int i64)))) x.snd.fst,HObj.row Md.rw ty2 (K.int i64) x.snd.snd.fst] [HObj.mp
 Md.rw ((K.int i64).pair (K.int i64)) (K.int i64) y.fst,HObj.box Md.rw ty122 [SV.val (Go.Value.int i64 n),SV.osl (5:Nat) (0:Nat)
 x.snd.fst.length,SV.mref (0:Nat),SV.junk,SV.osl (6:Nat) (0:Nat) x.snd.snd.fst.length,SV.junk,SV.junk],HObj.box Md.rw ty123 [SV.clo fn86 [LV.ref (1:Nat) (0:Nat)]
 [],SV.clo fn87 [LV.ref (1:Nat) (0:Nat)] []],HObj.dead,HObj.dead,HObj.row Md.rw ty126 ((K.int i64).pair ((K.int i64).pair ((K.int i64).pair (K.int
 i64)))) x.snd.fst,HObj.row Md.rw ty2 (K.int i64) x.snd.snd.fst]∧∃ (I:Int × List (List Int) × List Nat × List Nat × Unit→Unit→Prop),∃ (μ:Int × List
 (List Int) × List Nat × List Nat × Unit→Unit→Nat),I ((0:Int),[],[],[],()) ()∧∀ (x_3:Int × List (List Int) × List Nat × List Nat × Unit) (y_1:Unit),I x_3 y_1→Br
 (decide (x_3.fst<(↑x.snd.fst.length:Int))) (∃ (h:(0:Int)≤x_3.fst∧x_3.fst<(↑x.snd.fst.length:Int)),∃ (h:(4:Int)≠(0:Int)),∃ (h:III n (x.snd.fst.getD ((0
 : Nat)+x_3.fst.toNat) Z2g.dflt).fst ((i64.wrap ((x.snd.fst.getD ((0:Nat)+x_3.fst.toNat) Z2g.dflt).snd.fst+(2:Int))).tmod (4:Int))),∀ (a:Int × Int ×
 Unit),a=Z3n n (x.snd.fst.getD ((0:Nat)+x_3.fst.toNat) Z2g.dflt).fst ((i64.wrap ((x.snd.fst.getD ((0:Nat)+x_3.fst.toNat) Z2g.dflt).snd.fst+(2 :
 Int))).tmod (4:Int))→∃ (h:(4:Int)≠(0:Int)),∃ (h:III n (x.snd.fst.getD ((0:Nat)+x_3.fst.toNat) Z2g.dflt).snd.snd.fst ((i64.wrap ((x.snd.fst.getD ((0 :
 Nat)+x_3.fst.toNat) Z2g.dflt).snd.snd.snd+(2:Int))).tmod (4:Int))),∀ (a_1:Int × Int × Unit),a_1=Z3n n (x.snd.fst.getD ((0:Nat)+x_3.fst.toNat)
 Z2g.dflt).snd.snd.fst ((i64.wrap ((x.snd.fst.getD ((0:Nat)+x_3.fst.toNat) Z2g.dflt).snd.snd.snd+(2:Int))).tmod (4:Int))→∃ (h:x_3.snd.fst.length =
 x_3.snd.fst.length∧(x_3.snd.fst.length+(1:Nat))*(16:Nat)≤(140737488355328:Nat)),∃ (h:III n (x.snd.fst.getD ((0:Nat)+x_3.fst.toNat) Z2g.dflt).fst
 (x.snd.fst.getD ((0:Nat)+x_3.fst.toNat) Z2g.dflt).snd.fst),∀ (a_2:Nat × Unit),a_2=Zdr n (x.snd.fst.getD ((0:Nat)+x_3.fst.toNat) Z2g.dflt).fst
 (x.snd.fst.getD ((0:Nat)+x_3.fst.toNat) Z2g.dflt).snd.fst→∃ (h:x_3.snd.snd.fst.length=x_3.snd.snd.fst.length∧(x_3.snd.snd.fst.length+(1:Nat))*(8:Nat) ≤
 (140737488355328:Nat)),∃ (h:III n (x.snd.fst.getD ((0:Nat)+x_3.fst.toNat) Z2g.dflt).fst (x.snd.fst.getD ((0:Nat)+x_3.fst.toNat) Z2g.dflt).snd.fst),∀ (a_3:Nat ×
 Unit),a_3=Z173 n (x.snd.fst.getD ((0:Nat)+x_3.fst.toNat) Z2g.dflt).fst (x.snd.fst.getD ((0:Nat)+x_3.fst.toNat) Z2g.dflt).snd.fst→∃ (h :
 x_3.snd.snd.snd.fst.length=x_3.snd.snd.snd.fst.length∧(x_3.snd.snd.snd.fst.length+(1:Nat))*(8:Nat)≤(140737488355328:Nat)),((0:Nat)=(0:Nat) ∧
 x_3.snd.fst.length+(1:Nat)=(x_3.snd.fst++[[a.fst,a_1.fst]]).length)∧((0:Nat)=(0:Nat)∧x_3.snd.snd.fst.length+(1:Nat)=(x_3.snd.snd.fst++[a_2.fst]).length)
 ∧ ((0:Nat)=(0:Nat)∧x_3.snd.snd.snd.fst.length+(1:Nat)=(x_3.snd.snd.snd.fst++[a_3.fst]).length)∧HIs [HObj.mp Md.rw ((K.int i64).pair (K.int i64))
 (K.int i64) y.fst,HObj.box Md.rw ty122 [SV.val (Go.Value.int i64 n),SV.osl (5:Nat) (0:Nat) x.snd.fst.length,SV.mref (0:Nat),SV.junk,SV.osl (6:Nat) (0
 : Nat) x.snd.snd.fst.length,SV.junk,SV.junk],HObj.box Md.rw ty123 [SV.clo fn86 [LV.ref (1:Nat) (0:Nat)] [],SV.clo fn87 [LV.ref (1:Nat) (0:Nat)] []],HObj.dead,
 HObj.dead,HObj.row Md.rw ty126 ((K.int i64).pair ((K.int i64).pair ((K.int i64).pair (K.int i64)))) x.snd.fst,HObj.row Md.rw ty2 (K.int
 i64) x.snd.snd.fst] [HObj.mp Md.rw ((K.int i64).pair (K.int i64)) (K.int i64) y.fst,HObj.box Md.rw ty122 [SV.val (Go.Value.int i64 n),
 SV.osl (5:Nat) (0:Nat) x.snd.fst.length,SV.mref (0:Nat),SV.junk,SV.osl (6:Nat) (0:Nat) x.snd.snd.fst.length,SV.junk,SV.junk],HObj.box Md.rw ty123 [SV.clo fn86
 [LV.ref (1:Nat) (0:Nat)] [],SV.clo fn87 [LV.ref (1:Nat) (0:Nat)] []],HObj.dead,HObj.dead,HObj.row Md.rw ty126 ((K.int i64).pair ((K.int i64).pair
 ((K.int i64).pair (K.int i64)))) x.snd.fst,HObj.row Md.rw ty2 (K.int i64) x.snd.snd.fst]∧I (i64.wrap (x_3.fst+(1:Int)),x_3.snd.fst ++
 [[a.fst,a_1.fst]],x_3.snd.snd.fst++[a_2.fst],x_3.snd.snd.snd.fst++[a_3.fst],()) ()∧μ (i64.wrap (x_3.fst+(1:Int)),x_3.snd.fst++[[a.fst,a_1.fst]],
 x_3.snd.snd.fst++[a_2.fst],x_3.snd.snd.snd.fst++[a_3.fst],()) ()<μ x_3 y_1) (post (some (n,List.take x.snd.fst.length (List.drop (0:Nat) x.snd.fst),y.fst,
 List.take x_3.snd.fst.length (List.drop (0:Nat) x_3.snd.fst),List.take x.snd.snd.fst.length (List.drop (0:Nat) x.snd.snd.fst),List.take x_3.snd.snd.fst.length (List.drop (0
 : Nat) x_3.snd.snd.fst),List.take x_3.snd.snd.snd.fst.length (List.drop (0:Nat) x_3.snd.snd.snd.fst)),(0:Int),())))))
theorem Z14j (ty0 ty1 ty2 ty3 ty4 ty5:Nat) (n:Int) (h:I64 n):Zgh ty0 ty1 ty2 ty3 ty4 ty5 n (fun r=>r=newR n):=by
 have cr:=Zat n
 obtain ⟨N,hN⟩:∃ N,(Zh n).toNat=N:=⟨_,rfl⟩
 have hc:Zh n=(N:Int):=by omega
 have hc':(Zap n).fst=(N:Int):=hc
 have hN1:N≤6144:=by omega
 have nk:=fun k=>Zwd n k
 have i6:∀ {z:Int},0≤z→z≤6144→I64 z:=fun {z} a b=>⟨by omega,by omega⟩
 refine ⟨h,?_⟩
 rw [hc']
 refine Br.intro (fun e=>?_) fun e=>?_
 ·have e:(N:Int)=0:=beq_iff_eq.1 e
  show _=newR n
  unfold newR; rw [if_pos (by omega)]
 have e:¬ (N:Int)=0:=fun q=>by rw [q] at e; cases e
 have hnew:newR n=(some (netG n),0,()):=by unfold newR; rw [if_neg (by omega)]
 refine ⟨⟨by decide,by decide⟩,rfl,fun x y=>∃ k:Nat,x.1=k∧k≤N∧x.2.1=(netN n k).1∧x.2.2.1=[]∧y.1=(netN n k).2,fun x _=>N - x.1.toNat,⟨0,rfl,by omega,rfl,rfl,rfl⟩,?_⟩
 rintro ⟨_,_,_,⟨⟩⟩ ⟨_,⟨⟩⟩ ⟨k,rfl,hk,rfl,rfl,rfl⟩
 dsimp only
 refine Br.intro (fun e1=>?_) fun e1=>?_
 ·have e1:k<N:=by have:=of_decide_eq_true e1; omega
  refine ⟨⟨rfl,rfl⟩,rfl,fun x y=>∃ j:Nat,x.1=j∧j≤4∧x.2.1=(addN n k (netN n k) j).1∧y.1=(addN n k (netN n k) j).2,fun x _=>4 - x.1.toNat,⟨0,rfl,by omega,rfl,rfl⟩,?_⟩
  rintro ⟨_,_,⟨⟩⟩ ⟨_,⟨⟩⟩ ⟨j,rfl,hj,rfl,rfl⟩
  dsimp only
  have hlen:=(Zwc (n:=n) (c:=k) (by omega) (by omega) (nk k (by omega)).1 j hj).2
  have hlk:=(nk k (by omega)).2
  refine Br.intro (fun e2=>?_) fun e2=>?_
  ·have e2:j<4:=by have e2:(j:Int)<4:=of_decide_eq_true e2; omega
   refine ⟨⟨h,i6 (by omega) (by omega),i6 (by omega) (by omega)⟩,?_⟩
   rintro ⟨b,q,⟨⟩⟩ hb
   have hb:(b,q,())=Z3n n k j:=hb
   have eb:b=(Z7 n k j).1:=congrArg Prod.fst hb
   have eq:q=(Z7 n k j).2:=congrArg (fun z=>z.2.1) hb
   rw [Z24 e2 (by omega)]
   refine Br.intro (fun g=>?_) fun g=>?_
   ·have g:(k:Int) > b:=of_decide_eq_true g
    have hst:addN n k (netN n k) (j+1)=addN n k (netN n k) j:=by
     show addE n k j (addN n k (netN n k) j)=_
     unfold addE; rw [if_pos (by omega)]
    exact ⟨⟨rfl,rfl⟩,rfl,⟨j+1,rfl,by omega,by rw [hst],by rw [hst]⟩,by omega⟩
   ·have g:¬ (k:Int) > b:=of_decide_eq_false g
    have hst:addN n k (netN n k) (j+1)=((addN n k (netN n k) j).1++[((k:Int),(j:Int),b,q)],mput (b,q) (addN n k (netN n k) j).1.length (mput ((k:Int),(j:Int)) (addN n k (netN n k) j).1.length (addN n k (netN n k) j).2)):=by
     show addE n k j (addN n k (netN n k) j)=_
     unfold addE; rw [if_neg (by omega),eb,eq]
    exact ⟨⟨rfl,by omega⟩,⟨rfl,by rw [List.length_append]; rfl⟩,rfl,⟨j+1,rfl,by omega,by rw [hst],by rw [hst]⟩,by omega⟩
  ·have e2:j=4:=by have e2:¬ (j:Int)<4:=of_decide_eq_false e2; omega
   subst e2
   rw [Z24 e1 (by omega)]
   exact ⟨⟨rfl,rfl⟩,⟨rfl,rfl⟩,rfl,⟨k+1,rfl,by omega,rfl,rfl,rfl⟩,by omega⟩
 have e1:k=N:=by have:=of_decide_eq_false e1; omega
 subst e1
 obtain ⟨eok,elen⟩:=nk k hN1
 have hE:netE n=netN n k:=by unfold netE; rw [hN]
 generalize netN n k=E at *
 refine ⟨⟨by decide,by decide⟩,⟨rfl,rfl⟩,⟨rfl,rfl⟩,rfl,fun x y=>∃ m:Nat,x.1=m∧m≤k∧x.2.1=E.1∧x.2.2.1=((List.range m).map fun q:Nat=>Z1j n (q:Int))∧y.1=E.2,fun x _=>k - x.1.toNat,⟨0,rfl,by omega,rfl,rfl,rfl⟩,?_⟩
 rintro ⟨_,_,_,⟨⟩⟩ ⟨_,⟨⟩⟩ ⟨m,rfl,hm,rfl,rfl,rfl⟩
 dsimp only
 have hml:((List.range m).map fun q:Nat=>Z1j n (q:Int)).length=m:=by rw [List.length_map,List.length_range]
 refine Br.intro (fun e1=>?_) fun e1=>?_
 ·have e1:m<k:=by have:=of_decide_eq_true e1; omega
  rw [Z24 e1 (by omega)]
  exact ⟨⟨h,i6 (by omega) (by omega)⟩,⟨rfl,by rw [hml]; omega⟩,⟨rfl,rfl⟩,⟨rfl,by rw [List.length_append]; rfl⟩,rfl,⟨m+1,rfl,by omega,rfl,(Zw9 (fun q:Nat=>Z1j n (q:Int)) m).symm,rfl⟩,by omega⟩
 have e1:m=k:=by have:=of_decide_eq_false e1; omega
 subst e1
 refine ⟨rfl,fun x _=>∃ q:Nat,x.1=q∧q≤E.1.length∧x.2.1=(E.1.take q).map (Z15n n)∧x.2.2.1=(E.1.take q).map (fun e=>Zd4 n e.1 e.2.1)∧x.2.2.2.1=(E.1.take q).map (fun e=>gapG n e.1 e.2.1),fun x _=>E.1.length - x.1.toNat,⟨0,rfl,by omega,rfl,rfl,rfl⟩,?_⟩
 rintro ⟨_,_,_,_,⟨⟩⟩ _ ⟨q,rfl,hq,rfl,rfl,rfl⟩
 dsimp only
 have hl:∀ {α:Type} (f:Ed→α),((E.1.take q).map f).length=q:=fun {α} f=>by rw [List.length_map,List.length_take]; omega
 refine Br.intro (fun e1=>?_) fun e1=>?_
 ·have e1:q<E.1.length:=by have:=of_decide_eq_true e1; omega
  rw [Int.toNat_natCast,Nat.zero_add,Z24 e1 (by omega)]
  obtain ⟨d,hd⟩:∃ d,E.1.getD q Z2g.dflt=d:=⟨_,rfl⟩
  have dm:d ∈ E.1:=by rw [← hd]; exact Z5w e1 _
  have ts:E.1.take (q+1)=E.1.take q++[d]:=by rw [Z5x e1 Z2g.dflt,hd]
  rw [hd]
  obtain ⟨d1,d2,d3,d4,d5,d6,d7,d8⟩:=eok d dm
  have w1:i64.wrap (d.2.1+2)=d.2.1+2:=wi ⟨by omega,by omega⟩
  have w2:i64.wrap (d.2.2.2+2)=d.2.2.2+2:=wi ⟨by omega,by omega⟩
  rw [w1,w2]
  have t1:I64 (Int.tmod (d.2.1+2) 4):=by rw [Int.tmod_eq_emod_of_nonneg (by omega)]; exact i6 (by omega) (by omega)
  have t2:I64 (Int.tmod (d.2.2.2+2) 4):=by rw [Int.tmod_eq_emod_of_nonneg (by omega)]; exact i6 (by omega) (by omega)
  refine ⟨⟨by omega,by omega⟩,by decide,⟨h,i6 d1 (by omega),t1⟩,?_⟩
  rintro ⟨a1,a2,⟨⟩⟩ ha
  have ea:a1=(Z7 n d.1 (Int.tmod (d.2.1+2) 4)).1:=congrArg Prod.fst ha
  refine ⟨by decide,⟨h,i6 d5 (by omega),t2⟩,?_⟩
  rintro ⟨b1,b2,⟨⟩⟩ hb
  have eb:b1=(Z7 n d.2.2.1 (Int.tmod (d.2.2.2+2) 4)).1:=congrArg Prod.fst hb
  refine ⟨⟨rfl,by rw [hl]; omega⟩,⟨h,i6 d1 (by omega),i6 d3 (by omega)⟩,?_⟩
  rintro ⟨l1,⟨⟩⟩ hl1
  have el:l1=Zd4 n d.1 d.2.1:=congrArg Prod.fst hl1
  refine ⟨⟨rfl,by rw [hl]; omega⟩,⟨h,i6 d1 (by omega),i6 d3 (by omega)⟩,?_⟩
  rintro ⟨g1,⟨⟩⟩ hg1
  have eg:g1=gapG n d.1 d.2.1:=congrArg Prod.fst hg1
  refine ⟨⟨rfl,by rw [hl]; omega⟩,⟨rfl,by rw [List.length_append]; rfl⟩,⟨rfl,by rw [List.length_append]; rfl⟩,⟨rfl,by rw [List.length_append]; rfl⟩,rfl,⟨q+1,rfl,by omega,?_,?_,?_⟩,by omega⟩
  ·rw [ts,List.map_append]; dsimp only; rw [ea,eb]; rfl
  ·rw [ts,List.map_append]; dsimp only; rw [el]; rfl
  ·rw [ts,List.map_append]; dsimp only; rw [eg]; rfl
 ·have e1:q=E.1.length:=by have:=of_decide_eq_false e1; omega
  subst e1
  show _=newR n
  rw [hnew]
  unfold netG Z8c
  rw [hE,hN,List.take_length]
  simp only [List.drop_zero,List.take_length]
end Go.Lift

namespace Go.Lift
def Zdu:=fun (a:Int) (post:Bool × Unit→Prop)=>∀ (a_1:Bool),a_1=decide (a≥(1:Int))→Br a_1 (∀ (a_2:Bool),a_2=decide (a≤(32:Int))→post (a_2,
 ())) (post (false,()))
theorem Z130 (a:Int):Zdu  a (fun r=>r=Zt9 a):=by
 rintro _ rfl
 refine Br.intro (fun e=>?_) fun e=>?_
 ·rintro _ rfl
  refine congrArg r1 ?_
  show _=Z1z a
  unfold Z1z
  rw [show decide ((1:Int)≤a)=true from e,Bool.true_and]
 ·refine congrArg r1 ?_
  show _=Z1z a
  unfold Z1z
  rw [show decide ((1:Int)≤a)=false from e,Bool.false_and]
def Zbf:=fun (a:Int) (post:Int × Unit→Prop)=>∃ (h:True),∀ (a_1:Bool),a_1=(Zt9 a).fst→Br (!a_1) (post ((0:Int),())) (post (i64.wrap
 (i64.wrap ((6:Int)*a)*a),()))
theorem Zzs (a:Int) (h:I64 a):Zbf  a (fun r=>r=Zap a):=by
 refine ⟨trivial,?_⟩
 rintro _ rfl
 refine Br.intro (fun e=>?_) fun e=>?_
 ·have e:(!Z1z a)=true:=e
  exact congrArg r1 (Zfb (by simpa using e)).symm
 ·have e:(!Z1z a)=false:=e
  exact congrArg r1 (Z172 (by simpa using e))
def Zbg:=fun (n c:Int) (post:Int × Int × Int × Bool × Unit→Prop)=>∀ (a:Bool),a=decide (c<(0:Int))→Br a (post ((0:Int),(0:Int),(0:Int),
 false,())) (∃ (h:I64 n),∀ (a:Bool),a=decide (c≥(Zap n).fst)→Br a (post ((0:Int),(0:Int),(0:Int),false,())) (∃ (h:i64.wrap (n*n) ≠
 (0:Int)),∃ (h:n≠(0:Int)),∃ (h:n≠(0:Int)),∃ (h:n≠(0:Int)),post (i64.wrap (c.tdiv (i64.wrap (n*n))),c.tmod n,(i64.wrap (c.tdiv
 n)).tmod n,true,())))
theorem Zzt (n:Int) (c:Int) (h:II n c):Zbg  n c (fun r=>r=Z3 n c):=by
 have bad:Zw n c=false→((0:Int),(0:Int),(0:Int),false,())=Z3 n c:=by
  intro e; unfold Z3; rw [if_neg (by rw [e]; decide)]
 rintro _ rfl
 refine Br.intro (fun e=>?_) fun e=>?_
 ·have e:=of_decide_eq_true e
  exact bad (by unfold Zw; rw [decide_eq_false (by omega),Bool.false_and])
 ·have e:=of_decide_eq_false e
  refine ⟨h.1,?_⟩
  rintro _ rfl
  refine Br.intro (fun f=>?_) fun f=>?_
  ·have f:Zh n≤c:=of_decide_eq_true f
   exact bad (by unfold Zw; rw [decide_eq_false (p:=c<Zh n) (by omega),Bool.and_false])
  ·have f:¬ c≥Zh n:=of_decide_eq_false f
   have ok:Zw n c=true:=by unfold Zw; rw [decide_eq_true (by omega),decide_eq_true (by omega)]; rfl
   obtain ⟨h1,h2,h3,h4,h5,h6⟩:=Za2 ok
   obtain ⟨r1,r2,r3,r4,r5,r6⟩:=Zmd ok
   have w1:i64.wrap (n*n)=n*n:=wi ⟨by omega,by omega⟩
   have d1:c.tdiv (n*n)=c / (n*n):=Int.tdiv_eq_ediv_of_nonneg h3
   have d2:c.tdiv n=c / n:=Int.tdiv_eq_ediv_of_nonneg h3
   have d3:0≤c / n∧c / n≤c:=⟨Int.ediv_nonneg h3 (by omega),Int.ediv_le_self _ h3⟩
   have w2:i64.wrap (c / n)=c / n:=wi ⟨by omega,by have:=h.2; unfold I64 at this; omega⟩
   have w3:i64.wrap (c / (n*n))=c / (n*n):=wi ⟨by omega,by omega⟩
   refine ⟨by rw [w1]; omega,by omega,by omega,by omega,?_⟩
   rw [w1,d1,w3,d2,w2,Int.tmod_eq_emod_of_nonneg h3,Int.tmod_eq_emod_of_nonneg d3.1]
   unfold Z3; rw [if_pos ok]
end Go.Lift

namespace Go.Lift
open Go.Proofs
def Zbh:Con:=.det [.int .i64] [.snap .bool] (fun _=>True) (fun x=>Zt9 x.1)
def Zk4:Cx:=⟨Zx Z10,Zz [],RbG⟩
theorem Zql:CxOk Tryz.prog Zk4:=⟨Z8 Zb,fun f c h=>by cases h⟩
theorem Zwn:FnAt Tryz.prog 97 Tryz.f97.ntmps Tryz.f97.results.toList (Tryz.f97.body.getD .skip):=⟨Tryz.f97,Tryz.func97,rfl,rfl,by simp,by decide⟩
theorem Zwo (a:Int) (post:Bool × Unit→Prop):Zi Zk4 nHn Tryz.f97.ntmps Tryz.f97.results.toList (Tryz.f97.body.getD .skip) [.int .i64] [.snap .bool] (a,()) post=Zdu  a post:=by kernel_rfl
theorem Zk5:Zbh.holds Tryz.prog RbG 97 :=
 detP Zql Zc nHn Zwn (F:=fun x post=>Zdu  x.1 post) (fun x post=>Zwo x.1 post) fun x _ _=>Z130  x.1
def Z6i:Con:=.det [.int .i64] [.snap (.int .i64)] (fun x=>I64 x.1) (fun x=>Zap x.1)
def Zh6:Cx:=⟨Zx Z10,Zz [(97,Zbh)],RbG⟩
theorem Zoi:CxOk Tryz.prog Zh6:=⟨Z8 Zb,Zd ⟨Zk5,trivial⟩⟩
theorem Zty:FnAt Tryz.prog 58 Tryz.f58.ntmps Tryz.f58.results.toList (Tryz.f58.body.getD .skip):=⟨Tryz.f58,Tryz.func58,rfl,rfl,by simp,by decide⟩
theorem Ztz (a:Int) (post:Int × Unit→Prop):Zi Zh6 nHn Tryz.f58.ntmps Tryz.f58.results.toList (Tryz.f58.body.getD .skip) [.int .i64] [.snap (.int .i64)] (a,()) post=Zbf  a post:=by kernel_rfl
theorem Z9f:Z6i.holds Tryz.prog RbG 58 :=
 detP Zoi Zc nHn Zty (F:=fun x post=>Zbf  x.1 post) (fun x post=>Ztz x.1 post) fun x h _=>Zzs  x.1 h
def Z6j:Con:=.det [.int .i64,.int .i64] [.snap (.int .i64),.snap (.int .i64),.snap (.int .i64),.snap .bool] (fun x=>II x.1 x.2.1) (fun x=>Z3 x.1 x.2.1)
def Zh7:Cx:=⟨Zx Z10,Zz [(58,Z6i)],RbG⟩
theorem Zoj:CxOk Tryz.prog Zh7:=⟨Z8 Zb,Zd ⟨Z9f,trivial⟩⟩
theorem Zu0:FnAt Tryz.prog 79 Tryz.f79.ntmps Tryz.f79.results.toList (Tryz.f79.body.getD .skip):=⟨Tryz.f79,Tryz.func79,rfl,rfl,by simp,by decide⟩
theorem Zu1 (n:Int) (c:Int) (post:Int × Int × Int × Bool × Unit→Prop):Zi Zh7 nHn Tryz.f79.ntmps Tryz.f79.results.toList (Tryz.f79.body.getD .skip) [.int .i64,.int .i64] [.snap (.int .i64),.snap (.int .i64),.snap (.int .i64),.snap .bool] (n,c,()) post=Zbg  n c post:=by kernel_rfl
theorem Z9g:Z6j.holds Tryz.prog RbG 79 :=
 detP Zoj Zc nHn Zu0 (F:=fun x post=>Zbg  x.1 x.2.1 post) (fun x post=>Zu1 x.1 x.2.1 post) fun x h _=>Zzt  x.1 x.2.1 h
end Go.Lift

namespace Go.Lift
def Z9h:=fun (ty105 ty111 ty109:Nat) (n c o:Int) (post:Int × Int × Unit→Prop)=>∃ (h:II n c),Br (!(Z3 n c).snd.snd.snd.fst) (post ((-1:Int),(0 :
 Int),())) (∀ (a:Bool),a=decide (o<(0:Int))→Br a (post ((-1:Int),(0:Int),())) (∀ (a:Bool),a=decide (o≥(4:Int))→Br a (post ((-1:Int),(0:Int),()))
 (∃ (h:(List.replicate (4:Nat) (K.arr (2:Nat) (K.int i64)).dflt).length=(4:Nat)∧(4:Nat)=(4:Nat)),∃ (h:(0:Int)≤o∧o<(↑(4:Nat):Int)∧(4 :
 Nat)≤(4:Nat)),∃ (h:(0:Int)≤(0:Int)∧(0:Int)<(↑(2:Nat):Int)),∃ (h:(0:Int)≤o∧o<(↑(4:Nat):Int)∧(4:Nat)≤(4:Nat)),∃ (h:(0:Int)≤(1 :
 Int)∧(1:Int)<(↑(2:Nat):Int)),∃ (h:IIII n (Z3 n c).fst (i64.wrap ((Z3 n c).snd.fst+List.getD ([[(1:Int),(0:Int)],[(0:Int),(1:Int)],[(-1
 : Int),(0:Int)],[(0:Int),(-1:Int)]].getD o.toNat (K.arr (2:Nat) (K.int i64)).dflt) (0:Nat) (0:Int))) (i64.wrap ((Z3 n c).snd.snd.fst +
 List.getD ([[(1:Int),(0:Int)],[(0:Int),(1:Int)],[(-1:Int),(0:Int)],[(0:Int),(-1:Int)]].getD o.toNat (K.arr (2:Nat) (K.int i64)).dflt) ((nat_lit 0
 + (1:Nat)) / (K.int i64).sz) (0:Int)))),∀ (a:Int × Unit),a=Zo7 n (Z3 n c).fst (i64.wrap ((Z3 n c).snd.fst+List.getD ([[(1:Int),(0 :
 Int)],[(0:Int),(1:Int)],[(-1:Int),(0:Int)],[(0:Int),(-1:Int)]].getD o.toNat (K.arr (2:Nat) (K.int i64)).dflt) (0:Nat) (0:Int))) (i64.wrap
 ((Z3 n c).snd.snd.fst+List.getD ([[(1:Int),(0:Int)],[(0:Int),(1:Int)],[(-1:Int),(0:Int)],[(0:Int),(-1:Int)]].getD o.toNat (K.arr (2:Nat) (K.int
 i64)).dflt) ((nat_lit 0+(1:Nat)) / (K.int i64).sz) (0:Int)))→∀ (a_1:Bool),a_1=decide (a.fst≥(0:Int))→Br a_1 (∃ (h:(4:Int)≠(0:Int)),post
 (a.fst,(i64.wrap (o+(2:Int))).tmod (4:Int),())) (∃ (h:(0:Int)≤(Z3 n c).fst∧(Z3 n c).fst<(↑(6:Nat):Int)),∃ (h:WOut (Zv.getD (Z3
 n c).fst.toNat (K.arr (3:Nat) (K.arr (3:Nat) (K.int i64))).dflt) o),∀ (a:List Int × Unit),a=outR (Zv.getD (Z3 n c).fst.toNat (K.arr (3:Nat) (K.arr (3
 : Nat) (K.int i64))).dflt) o→∃ (h:True),∀ (a_2:Int × Unit),a_2=Zwa a.fst→∃ (h:(0:Int)≤a_2.fst∧a_2.fst<(↑(6:Nat):Int)),∃ (h:(List.replicate
 (3:Nat) (K.arr (3:Nat) (K.int i64)).dflt).length=(3:Nat)∧List.length (Zv.getD a_2.fst.toNat (K.arr (3:Nat) (K.arr (3:Nat) (K.int i64))).dflt) =
 (3:Nat)),∃ (h:Z25 n (Z3 n c).fst (Z3 n c).snd.fst (Z3 n c).snd.snd.fst),∀ (a:List Int × Unit),a=Zqh n (Z3 n c).fst (Z3 n c).snd.fst
 (Z3 n c).snd.snd.fst→∃ (h:(0:Int)≤(Z3 n c).fst∧(Z3 n c).fst<(↑(6:Nat):Int)),∃ (h:WOut (Zv.getD (Z3 n c).fst.toNat (K.arr (3:Nat)
 (K.arr (3:Nat) (K.int i64))).dflt) o),∀ (a_3:List Int × Unit),a_3=outR (Zv.getD (Z3 n c).fst.toNat (K.arr (3:Nat) (K.arr (3:Nat) (K.int
 i64))).dflt) o→∃ (h:Zti a.fst a_3.fst),∀ (a_4:List Int × Unit),a_4=Zo6 a.fst a_3.fst→∃ (h:(List.replicate (3:Nat) (0:Int)).length=(3:Nat) ∧
 a_4.fst.length=(3:Nat)),∃ (h:a_4.fst.length=(3:Nat)),∃ (h:(0:Int)≤(1:Int)∧(1:Int)<(↑(3:Nat):Int)∧(3:Nat)≤List.length (Zv.getD
 a_2.fst.toNat (K.arr (3:Nat) (K.arr (3:Nat) (K.int i64))).dflt)),∃ (h:WDot a_4.fst (List.getD (Zv.getD a_2.fst.toNat (K.arr (3:Nat) (K.arr (3:Nat) (K.int
 i64))).dflt) (Int.toNat (1:Int)) (K.arr (3:Nat) (K.int i64)).dflt)),∀ (a:Int × Unit),a=dotR a_4.fst (List.getD (Zv.getD a_2.fst.toNat (K.arr (3 :
 Nat) (K.arr (3:Nat) (K.int i64))).dflt) (Int.toNat (1:Int)) (K.arr (3:Nat) (K.int i64)).dflt)→∃ (h:Ztk n a.fst),∀ (a_5:Int × Unit),a_5=Ztj n
 a.fst→∃ (h:a_4.fst.length=(3:Nat)),∃ (h:(0:Int)≤(2:Int)∧(2:Int)<(↑(3:Nat):Int)∧(3:Nat)≤List.length (Zv.getD a_2.fst.toNat (K.arr (3:Nat)
 (K.arr (3:Nat) (K.int i64))).dflt)),∃ (h:WDot a_4.fst (List.getD (Zv.getD a_2.fst.toNat (K.arr (3:Nat) (K.arr (3:Nat) (K.int i64))).dflt) (Int.toNat
 (2:Int)) (K.arr (3:Nat) (K.int i64)).dflt)),∀ (a:Int × Unit),a=dotR a_4.fst (List.getD (Zv.getD a_2.fst.toNat (K.arr (3:Nat) (K.arr (3:Nat) (K.int
 i64))).dflt) (Int.toNat (2:Int)) (K.arr (3:Nat) (K.int i64)).dflt)→∃ (h:Ztk n a.fst),∀ (a_6:Int × Unit),a_6=Ztj n a.fst→∃ (h:IIII n a_2.fst
 a_5.fst a_6.fst),∀ (a:Int × Unit),a=Zo7 n a_2.fst a_5.fst a_6.fst→HIs [HObj.row Md.rw ty105 (K.arr (2:Nat) (K.int i64)) [[(1:Int),(0:Int)],[(0:Int),(1
 : Int)],[(-1:Int),(0:Int)],[(0:Int),(-1:Int)]],HObj.row Md.rw ty111 (K.arr (3:Nat) (K.int i64)) (Zv.getD a_2.fst.toNat (K.arr (3:Nat) (K.arr (3 :
 Nat) (K.int i64))).dflt),HObj.row Md.rw ty109 (K.int i64) a_4.fst] [HObj.row Md.rw ty105 (K.arr (2:Nat) (K.int i64)) [[(1:Int),(0:Int)],[(0 :
 Int),(1:Int)],[(-1:Int),(0:Int)],[(0:Int),(-1:Int)]],HObj.row Md.rw ty111 (K.arr (3:Nat) (K.int i64)) (Zv.getD a_2.fst.toNat (K.arr (3:Nat) (K.arr
 (3:Nat) (K.int i64))).dflt),HObj.row Md.rw ty109 (K.int i64) a_4.fst]∧∃ (I:Int × Unit→Unit→Prop),∃ (μ:Int × Unit→Unit→Nat),I ((0:Int),()) ()
 ∧ ∀ (x:Int × Unit) (y:Unit),I x y→∀ (a_7:Bool),a_7=decide (x.fst<(4:Int))→Br a_7 (∃ (h:List.length (Zv.getD a_2.fst.toNat (K.arr (3:Nat) (K.arr (3 :
 Nat) (K.int i64))).dflt)=(3:Nat)),∃ (h:WOut (Zv.getD a_2.fst.toNat (K.arr (3:Nat) (K.arr (3:Nat) (K.int i64))).dflt) x.fst),∀ (a_8:List Int ×
 Unit),a_8=outR (Zv.getD a_2.fst.toNat (K.arr (3:Nat) (K.arr (3:Nat) (K.int i64))).dflt) x.fst→∃ (h:(0:Int)≤(Z3 n c).fst∧(Z3 n c).fst<(↑(6
 : Nat):Int)),∃ (h:(0:Int)≤(0:Int)∧(0:Int)<(↑(3:Nat):Int)),∀ (a_9:Bool),a_9=eqL a_8.fst (List.getD (Zv.getD (Z3 n c).fst.toNat (K.arr (3:Nat)
 (K.arr (3:Nat) (K.int i64))).dflt) (Int.toNat (0:Int)) (K.arr (3:Nat) (K.int i64)).dflt)→Br a_9 (post (a.fst,x.fst,())) (HIs [HObj.row Md.rw ty105 (K.arr
 (2:Nat) (K.int i64)) [[(1:Int),(0:Int)],[(0:Int),(1:Int)],[(-1:Int),(0:Int)],[(0:Int),(-1:Int)]],HObj.row Md.rw ty111 (K.arr (3:Nat) (K.int
 i64)) (Zv.getD a_2.fst.toNat (K.arr (3:Nat) (K.arr (3:Nat) (K.int i64))).dflt),HObj.row Md.rw ty109 (K.int i64) a_4.fst] [HObj.row Md.rw ty105
 (K.arr (2:Nat) (K.int i64)) [[(1:Int),(0:Int)],[(0:Int),(1:Int)],[(-1:Int),(0:Int)],[(0:Int),(-1:Int)]],HObj.row Md.rw ty111 (K.arr (3:Nat)
 (K.int i64)) (Zv.getD a_2.fst.toNat (K.arr (3:Nat) (K.arr (3:Nat) (K.int i64))).dflt),HObj.row Md.rw ty109 (K.int i64) a_4.fst]∧I
 (i64.wrap (x.fst+(1:Int)),()) ()∧μ (i64.wrap (x.fst+(1:Int)),()) ()<μ x y)) (post ((-1:Int),(0:Int),()))))))
theorem Zwp (ty0 ty1 ty2:Nat) (n:Int) (c:Int) (o:Int) (h:III n c o):Z9h ty0 ty1 ty2 n c o (fun r=>r=Z3n n c o):=by
 refine ⟨⟨h.1,h.2.1⟩,?_⟩
 have no:Z14 n c o=false→((-1:Int),(0:Int),())=Z3n n c o:=by
  intro q
  have:Z7 n c o=(-1,0):=by unfold Z7; rw [if_neg (by rw [q]; decide)]
  unfold Z3n; rw [this]
 by_cases ok:Zw n c=true
 ·rw [Z12j ok]
  have hm:=Zax ok
  have hh:=hm
  obtain ⟨n1,n2,f0,f5,i0,i1,j0,j1⟩:=hh
  dsimp only
  refine Br.intro (fun e=>absurd e (by decide)) fun _=>?_
  rintro _ rfl
  refine Br.intro (fun e=>no ?_) fun e=>?_
  ·have e:=of_decide_eq_true e
   unfold Z14; rw [decide_eq_false (p:=0≤o) (by omega)]; simp
  have o0:=of_decide_eq_false e
  rintro _ rfl
  refine Br.intro (fun e=>no ?_) fun e=>?_
  ·have e:=of_decide_eq_true e
   unfold Z14; rw [decide_eq_false (p:=o<4) (by omega)]; simp
  have o4:=of_decide_eq_false e
  have o0:0≤o:=by omega
  have o4:o<4:=by omega
  have okb:Z14 n c o=true:=by unfold Z14; rw [ok,decide_eq_true o0,decide_eq_true o4]; rfl
  have d:=dxy (o:=o)
  obtain ⟨F,hF⟩:∃ F,c / (n*n)=F:=⟨_,rfl⟩
  obtain ⟨i,hi0⟩:∃ i,c % n=i:=⟨_,rfl⟩
  obtain ⟨j,hj0⟩:∃ j,c / n % n=j:=⟨_,rfl⟩
  have hb:Z7 n c o=if 0≤Z1o n F (i+dxI o) (j+dyI o) then (Z1o n F (i+dxI o) (j+dyI o),Int.tmod (o+2) 4) else Ztl n F i j o:=by
   unfold Z7; rw [if_pos okb,hF,hi0,hj0]
  rw [hF,hi0,hj0]
  rw [hF] at hm f0 f5
  rw [hi0] at hm i0 i1
  rw [hj0] at hm j0 j1
  have w1:i64.wrap (i+dxI o)=i+dxI o:=wi ⟨by omega,by omega⟩
  have w2:i64.wrap (j+dyI o)=j+dyI o:=wi ⟨by omega,by omega⟩
  have i6:∀ {z:Int},-1≤z→z≤6144→I64 z:=fun {z} a b=>⟨by omega,by omega⟩
  have fb:=Z3x f0 f5
  have wo:∀ q,WOut (Z15 F) q:=fun q=>⟨(fb 1).mono (by decide),(fb 2).mono (by decide)⟩
  refine ⟨⟨rfl,rfl⟩,⟨o0,o4,Nat.le_refl _⟩,⟨by decide,by decide⟩,⟨o0,o4,Nat.le_refl _⟩,⟨by decide,by decide⟩,⟨h.1,i6 (by omega) (by omega),Z12m _,Z12m _⟩,?_⟩
  intro a ha
  have ha:a=Zo7 n F (i64.wrap (i+dxI o)) (i64.wrap (j+dyI o)):=ha.trans (by rw [← Z1dy o0 o4,← Z1dz o0 o4]; rfl)
  rw [w1,w2] at ha
  obtain ⟨a,⟨⟩⟩:=a
  have ha:a=Z1o n F (i+dxI o) (j+dyI o):=congrArg Prod.fst ha
  rw [← ha] at hb
  rintro _ rfl
  refine Br.intro (fun e=>?_) fun e=>?_
  ·have e:a≥0:=of_decide_eq_true e
   rw [if_pos e] at hb
   refine ⟨by decide,?_⟩
   have:i64.wrap (o+2)=o+2:=wi ⟨by omega,by omega⟩
   rw [this]
   unfold Z3n; rw [hb]
  have e:¬ 0≤a:=of_decide_eq_false e
  rw [if_neg e] at hb
  refine ⟨⟨f0,by show F<6; omega⟩,wo o,?_⟩
  rintro ⟨v1,⟨⟩⟩ hv1
  have e1:v1=outF (Z15 F) o:=congrArg Prod.fst hv1
  refine ⟨trivial,?_⟩
  rintro ⟨t,⟨⟩⟩ ht
  have et:t=Z3c (outF (Z15 F) o):=by rw [← e1]; exact congrArg Prod.fst ht
  obtain ⟨t0,t5⟩:=Z1d0 f0 f5 o0 o4
  rw [← et] at t0 t5
  have fl:=Zyx t0 t5
  have tb:=Z3x t0 t5
  refine ⟨⟨t0,by show t<6; omega⟩,⟨rfl,fl⟩,hm,?_⟩
  rintro ⟨p,⟨⟩⟩ hp
  have ep:p=Z6e n F i j:=congrArg Prod.fst hp
  have pb:Bd 96 p:=by rw [ep]; exact Z19u hm
  refine ⟨⟨f0,by show F<6; omega⟩,wo o,?_⟩
  rintro ⟨v2,⟨⟩⟩ hv2
  have e2:v2=outF (Z15 F) o:=congrArg Prod.fst hv2
  have vb:Bd 1 v2:=by rw [e2]; exact Z1dx f0 f5 o
  refine ⟨⟨pb.mono (by decide),vb.mono (by decide)⟩,?_⟩
  rintro ⟨q,⟨⟩⟩ hq
  have eq:q=Za3 p v2:=congrArg Prod.fst hq
  have ql:q.length=3:=by rw [eq]; rfl
  have qb:Bd 97 q:=by rw [eq]; exact Zo8 pb vb
  refine ⟨⟨rfl,ql⟩,ql,⟨by decide,by decide,Nat.le_of_eq fl.symm⟩,⟨qb.mono (by decide),(tb 1).mono (by decide)⟩,?_⟩
  rintro ⟨d1,⟨⟩⟩ hd1
  have ed1:d1=dotW q (Z1s (Z15 t) 1):=congrArg Prod.fst hd1
  have db1:=Z19t qb (tb 1)
  rw [← ed1] at db1
  refine ⟨⟨n1,n2,by omega,by omega⟩,?_⟩
  rintro ⟨x1,⟨⟩⟩ hx1
  have ex1:x1=Z34 n d1:=congrArg Prod.fst hx1
  have xb1:=Zyy (a:=d1) n1
  rw [← ex1] at xb1
  refine ⟨ql,⟨by decide,by decide,Nat.le_of_eq fl.symm⟩,⟨qb.mono (by decide),(tb 2).mono (by decide)⟩,?_⟩
  rintro ⟨d2,⟨⟩⟩ hd2
  have ed2:d2=dotW q (Z1s (Z15 t) 2):=congrArg Prod.fst hd2
  have db2:=Z19t qb (tb 2)
  rw [← ed2] at db2
  refine ⟨⟨n1,n2,by omega,by omega⟩,?_⟩
  rintro ⟨x2,⟨⟩⟩ hx2
  have ex2:x2=Z34 n d2:=congrArg Prod.fst hx2
  have xb2:=Zyy (a:=d2) n1
  rw [← ex2] at xb2
  refine ⟨⟨h.1,i6 (by omega) (by omega),i6 (by omega) (by omega),i6 (by omega) (by omega)⟩,?_⟩
  rintro ⟨cc,⟨⟩⟩ hcc
  have ecc:cc=Z1o n t x1 x2:=congrArg Prod.fst hcc
  have hov:Z7 n c o=Za4 (Z15 t) (Z1s (Z15 F) 0) cc 4 0:=by
   rw [hb,ecc,ex1,ex2,ed1,ed2,eq,ep,e2,et]; rfl
  refine ⟨rfl,fun x _=>∃ k:Nat,x.1=k∧k≤4∧Z7 n c o=Za4 (Z15 t) (Z1s (Z15 F) 0) cc (4 - k) k,fun x _=>4 - x.1.toNat,⟨0,rfl,by omega,hov⟩,?_⟩
  rintro ⟨_,⟨⟩⟩ _ ⟨k,rfl,hk,hi⟩
  dsimp only
  rintro _ rfl
  refine Br.intro (fun g=>?_) fun g=>?_
  ·have g:k<4:=by have g:(k:Int)<4:=of_decide_eq_true g; omega
   refine ⟨fl,⟨(tb 1).mono (by decide),(tb 2).mono (by decide)⟩,?_⟩
   rintro ⟨v3,⟨⟩⟩ hv3
   have e3:v3=outF (Z15 t) k:=congrArg Prod.fst hv3
   refine ⟨⟨f0,by show F<6; omega⟩,⟨by decide,by decide⟩,?_⟩
   intro z hz
   have hz:z=decide (outF (Z15 t) k=Z1s (Z15 F) 0):=by rw [← e3]; exact hz
   obtain ⟨r,hr⟩:∃ r,4 - k=r+1:=⟨3 - k,by omega⟩
   rw [hr] at hi
   unfold Za4 at hi
   rw [hz,Z24 g (by omega)]
   refine Br.intro (fun y=>?_) fun y=>?_
   ·rw [if_pos (of_decide_eq_true y)] at hi
    unfold Z3n; rw [hi]
   ·rw [if_neg (of_decide_eq_false y)] at hi
    exact ⟨rfl,⟨k+1,rfl,by omega,by rw [show 4 - (k+1)=r by omega]; exact hi⟩,by omega⟩
  ·have g:k=4:=by have g:¬ (k:Int)<4:=of_decide_eq_false g; omega
   subst g
   have hi:Z7 n c o=(-1,0):=hi
   unfold Z3n; rw [hi]
 ·rw [Z12k ok]
  refine Br.intro (fun _=>no ?_) fun e=>absurd e (by decide)
  unfold Z14; rw [show Zw n c=false by simpa using ok]; rfl
end Go.Lift

namespace Go.Lift
def Z6p:=fun (a:List Int) (k:Int) (post:List Int × Unit→Prop)=>∃ (h:(0:Int)≤(0:Int)∧(0:Int)<(↑(3:Nat):Int)∧(3:Nat)≤a.length),∃ (h
 : (0:Int)≤(1:Int)∧(1:Int)<(↑(3:Nat):Int)∧(3:Nat)≤a.length),∃ (h:(0:Int)≤(2:Int)∧(2:Int)<(↑(3:Nat):Int)∧(3:Nat)≤a.length),∃ (h :
 (List.replicate (3:Nat) (0:Int)).length=(3:Nat)∧(3:Nat)=(3:Nat)),∃ (h:(3:Nat)=(3:Nat)),post ([i64.wrap (k*a.getD (Int.toNat (0:Int)) (0 :
 Int)),i64.wrap (k*a.getD (Int.toNat (1:Int)) (0:Int)),i64.wrap (k*a.getD (Int.toNat (2:Int)) (0:Int))],())
theorem Zok (a:List Int) (k:Int) (h:Z52 a k) (w:KS.wf [kWay,.int .i64] (a,k,())):Z6p  a k (fun r=>r=Zau a k):=by
 have hl:a.length=3:=w.1.1
 obtain ⟨hb,k1,k2⟩:=h
 have W:∀ i:Nat,i64.wrap (k*a.getD i 0)=k*a.getD i 0:=fun i=>by
  have:=Zaw k1 k2 (hb i).1 (hb i).2
  exact wi ⟨by omega,by omega⟩
 refine ⟨⟨by decide,by decide,by omega⟩,⟨by decide,by decide,by omega⟩,⟨by decide,by decide,by omega⟩,⟨rfl,rfl⟩,rfl,?_⟩
 show ([i64.wrap (k*a.getD 0 0),i64.wrap (k*a.getD 1 0),i64.wrap (k*a.getD 2 0)],())=Zau a k
 rw [W,W,W]; rfl
def Z7f:=fun (a b:List Int) (post:List Int × Unit→Prop)=>∃ (h:(0:Int)≤(0:Int)∧(0:Int)<(↑(3:Nat):Int)∧(3:Nat)≤a.length),∃ (h:(0 :
 Int)≤(0:Int)∧(0:Int)<(↑(3:Nat):Int)∧(3:Nat)≤b.length),∃ (h:(0:Int)≤(1:Int)∧(1:Int)<(↑(3:Nat):Int)∧(3:Nat)≤a.length),∃ (h:(0:Int)
 ≤ (1:Int)∧(1:Int)<(↑(3:Nat):Int)∧(3:Nat)≤b.length),∃ (h:(0:Int)≤(2:Int)∧(2:Int)<(↑(3:Nat):Int)∧(3:Nat)≤a.length),∃ (h:(0:Int)≤(2
 : Int)∧(2:Int)<(↑(3:Nat):Int)∧(3:Nat)≤b.length),∃ (h:(List.replicate (3:Nat) (0:Int)).length=(3:Nat)∧(3:Nat)=(3:Nat)),∃ (h:(3:Nat)=(3 :
 Nat)),post ([i64.wrap (a.getD (Int.toNat (0:Int)) (0:Int)+b.getD (Int.toNat (0:Int)) (0:Int)),i64.wrap (a.getD (Int.toNat (1:Int)) (0:Int)+b.getD
 (Int.toNat (1:Int)) (0:Int)),i64.wrap (a.getD (Int.toNat (2:Int)) (0:Int)+b.getD (Int.toNat (2:Int)) (0:Int))],())
theorem Zqm (a:List Int) (b:List Int) (h:Zti a b) (w:KS.wf [kWay,kWay] (a,b,())):Z7f  a b (fun r=>r=Zo6 a b):=by
 have hl:a.length=3:=w.1.1
 have hm:b.length=3:=w.2.1.1
 obtain ⟨ha,hb⟩:=h
 have W:∀ i:Nat,i64.wrap (a.getD i 0+b.getD i 0)=a.getD i 0+b.getD i 0:=fun i=>by
  have:=ha i; have:=hb i
  exact wi ⟨by omega,by omega⟩
 refine ⟨⟨by decide,by decide,by omega⟩,⟨by decide,by decide,by omega⟩,⟨by decide,by decide,by omega⟩,⟨by decide,by decide,by omega⟩,⟨by decide,by decide,by omega⟩,⟨by decide,by decide,by omega⟩,⟨rfl,rfl⟩,rfl,?_⟩
 show ([i64.wrap (a.getD 0 0+b.getD 0 0),i64.wrap (a.getD 1 0+b.getD 1 0),i64.wrap (a.getD 2 0+b.getD 2 0)],())=Zo6 a b
 rw [W,W,W]; rfl
def Z8i:=fun (a b:List Int) (post:Int × Unit→Prop)=>∃ (h:(0:Int)≤(0:Int)∧(0:Int)<(↑(3:Nat):Int)∧(3:Nat)≤a.length),∃ (h:(0:Int) ≤
 (0:Int)∧(0:Int)<(↑(3:Nat):Int)∧(3:Nat)≤b.length),∃ (h:(0:Int)≤(1:Int)∧(1:Int)<(↑(3:Nat):Int)∧(3:Nat)≤a.length),∃ (h:(0:Int)≤(1 :
 Int)∧(1:Int)<(↑(3:Nat):Int)∧(3:Nat)≤b.length),∃ (h:(0:Int)≤(2:Int)∧(2:Int)<(↑(3:Nat):Int)∧(3:Nat)≤a.length),∃ (h:(0:Int)≤(2:Int)
 ∧ (2:Int)<(↑(3:Nat):Int)∧(3:Nat)≤b.length),post (i64.wrap (i64.wrap (i64.wrap (a.getD (Int.toNat (0:Int)) (0:Int)*b.getD (Int.toNat (0
 : Int)) (0:Int))+i64.wrap (a.getD (Int.toNat (1:Int)) (0:Int)*b.getD (Int.toNat (1:Int)) (0:Int)))+i64.wrap (a.getD (Int.toNat (2:Int)) (0:Int)
 * b.getD (Int.toNat (2:Int)) (0:Int))),())
theorem Zu2 (a:List Int) (b:List Int) (h:WDot a b) (w:KS.wf [kWay,kWay] (a,b,())):Z8i  a b (fun r=>r=dotR a b):=by
 have hl:a.length=3:=w.1.1
 have hm:b.length=3:=w.2.1.1
 obtain ⟨ha,hb⟩:=h
 have M:∀ i:Nat,-(1048576*1048576)≤a.getD i 0*b.getD i 0∧a.getD i 0*b.getD i 0≤1048576*1048576:=fun i=>Zaw (ha i).1 (ha i).2 (hb i).1 (hb i).2
 have m0:=M 0
 have m1:=M 1
 have m2:=M 2
 refine ⟨⟨by decide,by decide,by omega⟩,⟨by decide,by decide,by omega⟩,⟨by decide,by decide,by omega⟩,⟨by decide,by decide,by omega⟩,⟨by decide,by decide,by omega⟩,⟨by decide,by decide,by omega⟩,?_⟩
 show (i64.wrap (i64.wrap (i64.wrap (a.getD 0 0*b.getD 0 0)+i64.wrap (a.getD 1 0*b.getD 1 0))+i64.wrap (a.getD 2 0*b.getD 2 0)),())=dotR a b
 rw [wi (x:=a.getD 0 0*b.getD 0 0) ⟨by omega,by omega⟩,wi (x:=a.getD 1 0*b.getD 1 0) ⟨by omega,by omega⟩,wi (x:=a.getD 2 0*b.getD 2 0) ⟨by omega,by omega⟩,wi (x:=a.getD 0 0*b.getD 0 0+a.getD 1 0*b.getD 1 0) ⟨by omega,by omega⟩,wi ⟨by omega,by omega⟩]
 rfl
def Z6q:=fun (f:List (List Int)) (s:Int) (post:List Int × Unit→Prop)=>∀ (a:Bool),a=(s==(0:Int))→Br a (∃ (h:(0:Int)≤(1:Int)∧(1:Int) <
 (↑(3:Nat):Int)∧(3:Nat)≤f.length),∃ (h:(List.replicate (3:Nat) (0:Int)).length=(3:Nat)∧List.length (f.getD (Int.toNat (1:Int)) (K.arr (3:Nat) (K.int
 i64)).dflt)=(3:Nat)),∃ (h:List.length (f.getD (Int.toNat (1:Int)) (K.arr (3:Nat) (K.int i64)).dflt)=(3:Nat)),post (f.getD (Int.toNat (1:Int))
 (K.arr (3:Nat) (K.int i64)).dflt,())) (∀ (a:Bool),a=(s==(1:Int))→Br a (∃ (h:(0:Int)≤(2:Int)∧(2:Int)<(↑(3:Nat):Int)∧(3:Nat)≤f.length),
 ∃ (h:(List.replicate (3:Nat) (0:Int)).length=(3:Nat)∧List.length (f.getD (Int.toNat (2:Int)) (K.arr (3:Nat) (K.int i64)).dflt)=(3:Nat)),∃ (h :
 List.length (f.getD (Int.toNat (2:Int)) (K.arr (3:Nat) (K.int i64)).dflt)=(3:Nat)),post (f.getD (Int.toNat (2:Int)) (K.arr (3:Nat) (K.int i64)).dflt,
 ())) (∀ (a:Bool),a=(s==(2:Int))→Br a (∃ (h:(0:Int)≤(1:Int)∧(1:Int)<(↑(3:Nat):Int)∧(3:Nat)≤f.length),∃ (h:Z52 (f.getD (Int.toNat (1:Int))
 (K.arr (3:Nat) (K.int i64)).dflt) (-1:Int)),∀ (a:List Int × Unit),a=Zau (f.getD (Int.toNat (1:Int)) (K.arr (3:Nat) (K.int i64)).dflt) (-1:Int) →
 ∃ (h:(List.replicate (3:Nat) (0:Int)).length=(3:Nat)∧a.fst.length=(3:Nat)),∃ (h:a.fst.length=(3:Nat)),post (a.fst,())) (∃ (h:(0:Int)≤(2:Int)∧(2
 : Int)<(↑(3:Nat):Int)∧(3:Nat)≤f.length),∃ (h:Z52 (f.getD (Int.toNat (2:Int)) (K.arr (3:Nat) (K.int i64)).dflt) (-1:Int)),∀ (a:List Int × Unit),
 a=Zau (f.getD (Int.toNat (2:Int)) (K.arr (3:Nat) (K.int i64)).dflt) (-1:Int)→∃ (h:(List.replicate (3:Nat) (0:Int)).length=(3:Nat)∧a.fst.length =
 (3:Nat)),∃ (h:a.fst.length=(3:Nat)),post (a.fst,()))))
theorem Zol (f:List (List Int)) (s:Int) (h:WOut f s) (w:KS.wf [Z12h,.int .i64] (f,s,())):Z6q  f s (fun r=>r=outR f s):=by
 have hl:f.length=3:=w.1.1
 have hm:∀ i,(Z1s f i).length=3:=fun i=>by
  unfold Z1s
  rcases Nat.lt_or_ge i f.length with g | g
  ·exact (w.1.2 _ (Z5w g [0,0,0])).1
  ·rw [List.getD_eq_getElem?_getD,List.getElem?_eq_none g]; rfl
 obtain ⟨h1,h2⟩:=h
 have t1:Z52 (Z1s f 1) (-1):=⟨h1,by decide,by decide⟩
 have t2:Z52 (Z1s f 2) (-1):=⟨h2,by decide,by decide⟩
 rintro _ rfl
 refine Br.intro (fun e=>?_) fun e=>?_
 ·have e:s=0:=beq_iff_eq.1 e
  exact ⟨⟨by decide,by decide,by omega⟩,⟨rfl,hm 1⟩,hm 1,congrArg r1 (by unfold outF; rw [if_pos e]; rfl)⟩
 have e:¬ s=0:=fun q=>by rw [q] at e; cases e
 rintro _ rfl
 refine Br.intro (fun g=>?_) fun g=>?_
 ·have g:s=1:=beq_iff_eq.1 g
  exact ⟨⟨by decide,by decide,by omega⟩,⟨rfl,hm 2⟩,hm 2,congrArg r1 (by unfold outF; rw [if_neg e,if_pos g]; rfl)⟩
 have g:¬ s=1:=fun q=>by rw [q] at g; cases g
 rintro _ rfl
 refine Br.intro (fun j=>?_) fun j=>?_
 ·have j:s=2:=beq_iff_eq.1 j
  refine ⟨⟨by decide,by decide,by omega⟩,t1,?_⟩
  rintro _ rfl
  exact ⟨⟨rfl,rfl⟩,rfl,congrArg r1 (by unfold outF; rw [if_neg e,if_neg g,if_pos j]; rfl)⟩
 have j:¬ s=2:=fun q=>by rw [q] at j; cases j
 refine ⟨⟨by decide,by decide,by omega⟩,t2,?_⟩
 rintro _ rfl
 exact ⟨⟨rfl,rfl⟩,rfl,congrArg r1 (by unfold outF; rw [if_neg e,if_neg g,if_neg j]; rfl)⟩
def Z9i:=fun (ty154:Nat) (c:List Int) (post:Int × Unit→Prop)=>HIs [HObj.row Md.rw ty154 (K.int i64) c] [HObj.row Md.rw ty154 (K.int i64) c] ∧
 ∃ (I:Int × Unit→Unit→Prop),∃ (μ:Int × Unit→Unit→Nat),I ((0:Int),()) ()∧∀ (x:Int × Unit) (y:Unit),I x y→∀ (a:Bool),a=decide (x.fst<(6:Int))→Br
 a (∃ (h:(0:Int)≤x.fst∧x.fst<(↑(6:Nat):Int)),∃ (h:(0:Int)≤(0:Int)∧(0:Int)<(↑(3:Nat):Int)),∃ (h:c.length=(3:Nat)),∀ (a:Bool),a=eqL
 (List.getD (Zv.getD x.fst.toNat (K.arr (3:Nat) (K.arr (3:Nat) (K.int i64))).dflt) (Int.toNat (0:Int)) (K.arr (3:Nat) (K.int i64)).dflt) c→Br a (post
 (x.fst,())) (HIs [HObj.row Md.rw ty154 (K.int i64) c] [HObj.row Md.rw ty154 (K.int i64) c]∧I (i64.wrap (x.fst+(1:Int)),()) ()∧μ (i64.wrap
 (x.fst+(1:Int)),()) ()<μ x y)) (post ((-1:Int),()))
theorem Zwq (ty0:Nat) (c:List Int) (w:KS.wf [kWay] (c,())):Z9i ty0 c (fun r=>r=Zwa c):=by
 have hl:c.length=3:=w.1.1
 refine ⟨rfl,fun x _=>∃ k:Nat,x.1=k∧k≤6∧Z3c c=Zmc (fun fr=>decide (Z1s fr 0=c)) k (Zv.drop k),fun x _=>6 - x.1.toNat,⟨0,rfl,by omega,rfl⟩,?_⟩
 rintro ⟨_,⟨⟩⟩ _ ⟨k,rfl,hk,hi⟩
 dsimp only
 rintro _ rfl
 refine Br.intro (fun e=>?_) fun e=>?_
 ·have e:k<6:=by have e:(k:Int)<6:=of_decide_eq_true e; omega
  refine ⟨⟨by omega,by show (k:Int)<6; omega⟩,⟨by decide,by decide⟩,hl,?_⟩
  rw [Z19j (l:=Zv) (i:=k) e [[0,0,0],[0,0,0],[0,0,0]],Z14g] at hi
  rw [Int.toNat_natCast,Z24 e (by omega)]
  intro z hz
  have hz:z=decide (Z1s (Zv.getD k [[0,0,0],[0,0,0],[0,0,0]]) 0=c):=hz
  rw [hz]
  refine Br.intro (fun g=>?_) fun g=>?_
  ·rw [if_pos g] at hi
   exact congrArg r1 hi.symm
  ·rw [if_neg (by rw [g]; decide)] at hi
   exact ⟨rfl,⟨k+1,rfl,by omega,hi⟩,by omega⟩
 ·have e:k=6:=by have e:¬ (k:Int)<6:=of_decide_eq_false e; omega
  subst e
  exact congrArg r1 (by rw [hi]; rfl)
def Zdv:=fun (n f i j:Int) (post:Int × Unit→Prop)=>∃ (h:True),∀ (a:Bool),a=(Zt9 n).fst→Br (!a) (post ((-1:Int),())) (∀ (a:Bool),a=decide (f <
 (0:Int))→Br a (post ((-1:Int),())) (∀ (a:Bool),a=decide (f≥(6:Int))→Br a (post ((-1:Int),())) (∀ (a:Bool),a=decide (i<(0:Int))→Br a (post ((-1 :
 Int),())) (∀ (a:Bool),a=decide (i≥n)→Br a (post ((-1:Int),())) (∀ (a:Bool),a=decide (j<(0:Int))→Br a (post ((-1:Int),())) (∀ (a:Bool),a=decide (j ≥
 n)→Br a (post ((-1:Int),())) (post (i64.wrap (i64.wrap (i64.wrap (i64.wrap (f*n)+j)*n)+i),()))))))))
theorem Z131 (n:Int) (f:Int) (i:Int) (j:Int) (h:IIII n f i j):Zdv  n f i j (fun r=>r=Zo7 n f i j):=by
 obtain ⟨hn,hf,hi,hj⟩:=h
 have no:Z3u n f i j=false→((-1:Int),())=Zo7 n f i j:=fun q=>congrArg r1 (by unfold Z1o; rw [if_neg (by rw [q]; decide)])
 have ok:∀ p,(Z1z n&&decide (0≤f)&&decide (f<6)&&decide (0≤i)&&decide (i<n)&&decide (0≤j)&&decide (j<n))=p→Z3u n f i j=p:=fun p q=>q
 refine ⟨trivial,?_⟩
 intro g hg
 have hg:g=Z1z n:=hg
 rw [hg]
 refine Br.intro (fun e=>no (ok _ ?_)) fun e=>?_
 ·have e:Z1z n=false:=by simpa using e
  rw [e]; rfl
 have e:Z1z n=true:=by simpa using e
 rintro _ rfl
 refine Br.intro (fun q=>no (ok _ ?_)) fun q=>?_
 ·rw [decide_eq_false (p:=0≤f) (by have:=of_decide_eq_true q; omega)]; simp
 have q1:=of_decide_eq_false q
 rintro _ rfl
 refine Br.intro (fun q=>no (ok _ ?_)) fun q=>?_
 ·rw [decide_eq_false (p:=f<6) (by have:=of_decide_eq_true q; omega)]; simp
 have q2:=of_decide_eq_false q
 rintro _ rfl
 refine Br.intro (fun q=>no (ok _ ?_)) fun q=>?_
 ·rw [decide_eq_false (p:=0≤i) (by have:=of_decide_eq_true q; omega)]; simp
 have q3:=of_decide_eq_false q
 rintro _ rfl
 refine Br.intro (fun q=>no (ok _ ?_)) fun q=>?_
 ·rw [decide_eq_false (p:=i<n) (by have:=of_decide_eq_true q; omega)]; simp
 have q4:=of_decide_eq_false q
 rintro _ rfl
 refine Br.intro (fun q=>no (ok _ ?_)) fun q=>?_
 ·rw [decide_eq_false (p:=0≤j) (by have:=of_decide_eq_true q; omega)]; simp
 have q5:=of_decide_eq_false q
 rintro _ rfl
 refine Br.intro (fun q=>no (ok _ ?_)) fun q=>?_
 ·rw [decide_eq_false (p:=j<n) (by have:=of_decide_eq_true q; omega)]; simp
 have q6:=of_decide_eq_false q
 have hok:Z3u n f i j=true:=by
  unfold Z3u
  rw [e,decide_eq_true (p:=0≤f) (by omega),decide_eq_true (p:=f<6) (by omega),decide_eq_true (p:=0≤i) (by omega),decide_eq_true (p:=i<n) (by omega),decide_eq_true (p:=0≤j) (by omega),decide_eq_true (p:=j<n) (by omega)]; rfl
 obtain ⟨r0,r1',n1,n2⟩:=Zj8 hok
 have hv:Z1o n f i j=(f*n+j)*n+i:=by unfold Z1o; rw [if_pos hok]
 rw [hv] at r0 r1'
 have sq:=Zo5 n1 n2
 have b1:0≤f*n:=Int.mul_nonneg (by omega) (by omega)
 have b2:f*n≤5*n:=Int.mul_le_mul_of_nonneg_right (by omega) (by omega)
 have b3:0≤(f*n+j)*n:=Int.mul_nonneg (by omega) (by omega)
 rw [wi (x:=f*n) ⟨by omega,by omega⟩,wi (x:=f*n+j) ⟨by omega,by omega⟩,wi (x:=(f*n+j)*n) ⟨by omega,by omega⟩,wi (x:=(f*n+j)*n+i) ⟨by omega,by omega⟩]
 exact congrArg r1 hv.symm
def Z6k:=fun (n f i j:Int) (post:List Int × Unit→Prop)=>∃ (h:(0:Int)≤f∧f<(↑(6:Nat):Int)),∃ (h:(List.replicate (3:Nat) (K.arr (3:Nat) (K.int
 i64)).dflt).length=(3:Nat)∧List.length (Zv.getD f.toNat (K.arr (3:Nat) (K.arr (3:Nat) (K.int i64))).dflt)=(3:Nat)),∃ (h:(0:Int)≤(0:Int)
 ∧ (0:Int)<(↑(3:Nat):Int)∧(3:Nat)≤List.length (Zv.getD f.toNat (K.arr (3:Nat) (K.arr (3:Nat) (K.int i64))).dflt)),∃ (h:Z52 (List.getD
 (Zv.getD f.toNat (K.arr (3:Nat) (K.arr (3:Nat) (K.int i64))).dflt) (Int.toNat (0:Int)) (K.arr (3:Nat) (K.int i64)).dflt) n),∀ (a:List Int × Unit),
 a=Zau (List.getD (Zv.getD f.toNat (K.arr (3:Nat) (K.arr (3:Nat) (K.int i64))).dflt) (Int.toNat (0:Int)) (K.arr (3:Nat) (K.int i64)).dflt) n→∃
 (h:(0:Int)≤(1:Int)∧(1:Int)<(↑(3:Nat):Int)∧(3:Nat)≤List.length (Zv.getD f.toNat (K.arr (3:Nat) (K.arr (3:Nat) (K.int i64))).dflt)),∃ (h :
 Z52 (List.getD (Zv.getD f.toNat (K.arr (3:Nat) (K.arr (3:Nat) (K.int i64))).dflt) (Int.toNat (1:Int)) (K.arr (3:Nat) (K.int i64)).dflt)
 (i64.wrap (i64.wrap (i64.wrap ((2:Int)*i)+(1:Int)) - n))),∀ (a_1:List Int × Unit),a_1=Zau (List.getD (Zv.getD f.toNat (K.arr (3 :
 Nat) (K.arr (3:Nat) (K.int i64))).dflt) (Int.toNat (1:Int)) (K.arr (3:Nat) (K.int i64)).dflt) (i64.wrap (i64.wrap (i64.wrap ((2 :
 Int)*i)+(1:Int)) - n))→∃ (h:Zti a.fst a_1.fst),∀ (a_2:List Int × Unit),a_2=Zo6 a.fst a_1.fst→∃ (h:(0:Int)≤(2:Int)∧(2:Int)<(↑(3:Nat):Int) ∧
 (3:Nat)≤List.length (Zv.getD f.toNat (K.arr (3:Nat) (K.arr (3:Nat) (K.int i64))).dflt)),∃ (h:Z52 (List.getD (Zv.getD f.toNat (K.arr (3:Nat)
 (K.arr (3:Nat) (K.int i64))).dflt) (Int.toNat (2:Int)) (K.arr (3:Nat) (K.int i64)).dflt) (i64.wrap (i64.wrap (i64.wrap ((2:Int) *
 j)+(1:Int)) - n))),∀ (a:List Int × Unit),a=Zau (List.getD (Zv.getD f.toNat (K.arr (3:Nat) (K.arr (3:Nat) (K.int i64))).dflt) (Int.toNat (2:Int))
 (K.arr (3:Nat) (K.int i64)).dflt) (i64.wrap (i64.wrap (i64.wrap ((2:Int)*j)+(1:Int)) - n))→∃ (h:Zti a_2.fst a.fst),∀ (a_3:List
 Int × Unit),a_3=Zo6 a_2.fst a.fst→∃ (h:(List.replicate (3:Nat) (0:Int)).length=(3:Nat)∧a_3.fst.length=(3:Nat)),∃ (h:a_3.fst.length=(3:Nat)),post
 (a_3.fst,())
theorem Zwr (n:Int) (f:Int) (i:Int) (j:Int) (h:Z25 n f i j):Z6k  n f i j (fun r=>r=Zqh n f i j):=by
 have hh:=h
 obtain ⟨n1,n2,f0,f5,i0,i1,j0,j1⟩:=h
 have fl:(Zv.getD f.toNat (K.arr (3:Nat) (K.arr (3:Nat) (K.int i64))).dflt).length=3:=Zyx f0 f5
 have b:=Z3x f0 f5
 have t0:Z52 (Z1s (Z15 f) 0) n:=⟨(b 0).mono (by decide),by omega,by omega⟩
 have w1:i64.wrap (i64.wrap (i64.wrap (2*i)+1) - n)=2*i+1 - n:=by
  rw [wi (x:=2*i) ⟨by omega,by omega⟩,wi (x:=2*i+1) ⟨by omega,by omega⟩,wi ⟨by omega,by omega⟩]
 have w2:i64.wrap (i64.wrap (i64.wrap (2*j)+1) - n)=2*j+1 - n:=by
  rw [wi (x:=2*j) ⟨by omega,by omega⟩,wi (x:=2*j+1) ⟨by omega,by omega⟩,wi ⟨by omega,by omega⟩]
 unfold Z6k
 rw [w1,w2]
 have t1:Z52 (Z1s (Z15 f) 1) (2*i+1 - n):=⟨(b 1).mono (by decide),by omega,by omega⟩
 have t2:Z52 (Z1s (Z15 f) 2) (2*j+1 - n):=⟨(b 2).mono (by decide),by omega,by omega⟩
 have c0:=Z5y (q:=32) (b 0) (k:=n) (by omega) (by omega)
 have c1:=Z5y (q:=32) (b 1) (k:=2*i+1 - n) (by omega) (by omega)
 have c2:=Z5y (q:=32) (b 2) (k:=2*j+1 - n) (by omega) (by omega)
 have p1:=Zo8 c0 c1
 refine ⟨⟨f0,by show f<6; omega⟩,⟨rfl,fl⟩,⟨by decide,by decide,by omega⟩,t0,?_⟩
 rintro _ rfl
 refine ⟨⟨by decide,by decide,by omega⟩,t1,?_⟩
 rintro _ rfl
 refine ⟨⟨c0.mono (by decide),c1.mono (by decide)⟩,?_⟩
 rintro _ rfl
 refine ⟨⟨by decide,by decide,by omega⟩,t2,?_⟩
 rintro _ rfl
 refine ⟨⟨p1.mono (by decide),c2.mono (by decide)⟩,?_⟩
 rintro _ rfl
 exact ⟨⟨rfl,rfl⟩,rfl,rfl⟩
def Zbi:=fun (n a:Int) (post:Int × Unit→Prop)=>∃ (h:(2:Int)≠(0:Int)),post (imin (imax (i64.wrap ((i64.wrap (i64.wrap (a+n) -
 (1:Int))).tdiv (2:Int))) (0:Int)) (i64.wrap (n - (1:Int))),())
theorem Zzu (n:Int) (a:Int) (h:Ztk n a):Zbi  n a (fun r=>r=Ztj n a):=by
 obtain ⟨n1,n2,a1,a2⟩:=h
 have w1:i64.wrap (i64.wrap (a+n) - 1)=a+n - 1:=by
  rw [wi (x:=a+n) ⟨by omega,by omega⟩,wi ⟨by omega,by omega⟩]
 have w2:i64.wrap (n - 1)=n - 1:=wi ⟨by omega,by omega⟩
 have w3:i64.wrap (Int.tdiv (a+n - 1) 2)=Int.tdiv (a+n - 1) 2:=by
  have:(Int.tdiv (a+n - 1) 2).natAbs≤(a+n - 1).natAbs:=by rw [Int.natAbs_tdiv]; exact Nat.div_le_self _ _
  exact wi ⟨by omega,by omega⟩
 exact ⟨by decide,by rw [w1,w2,w3]; rfl⟩
end Go.Lift

namespace Go.Lift
open Go.Proofs
def Z62:Con:=Con.nam [kWay,.int .i64] [.snap kWay] (fun x=>Z52 x.1 x.2.1) (fun x=>Zau x.1 x.2.1)
def Zb0:Cx:=⟨Zx Z10,Zz [],RbG⟩
theorem Zh8:CxOk Tryz.prog Zb0:=⟨Z8 Zb,fun f c h=>by cases h⟩
theorem Zkt:FnAt Tryz.prog 116 Tryz.f116.ntmps Tryz.f116.results.toList (Tryz.f116.body.getD .skip):=⟨Tryz.f116,Tryz.func116,rfl,rfl,by simp,by decide⟩
theorem Zku (a:List Int) (k:Int) (post:(List Int) × Unit→Prop):Zi Zb0 nHn Tryz.f116.ntmps Tryz.f116.results.toList (Tryz.f116.body.getD .skip) [kWay,.int .i64] [.snap kWay] (a,k,()) post=Z6p  a k post:=by kernel_rfl
theorem Zb1:Z62.holds Tryz.prog RbG 116 :=
 Z19 (detP Zh8 Zc nHn Zkt (F:=fun x post=>Z6p  x.1 x.2.1 post) (fun x post=>Zku x.1 x.2.1 post) fun x h w=>Zok  x.1 x.2.1 h w)
def Z6r:Con:=Con.nam [kWay,kWay] [.snap kWay] (fun x=>Zti x.1 x.2.1) (fun x=>Zo6 x.1 x.2.1)
def Zc6:Cx:=⟨Zx Z10,Zz [],RbG⟩
theorem Zji:CxOk Tryz.prog Zc6:=⟨Z8 Zb,fun f c h=>by cases h⟩
theorem Zml:FnAt Tryz.prog 84 Tryz.f84.ntmps Tryz.f84.results.toList (Tryz.f84.body.getD .skip):=⟨Tryz.f84,Tryz.func84,rfl,rfl,by simp,by decide⟩
theorem Zmm (a:List Int) (b:List Int) (post:(List Int) × Unit→Prop):Zi Zc6 nHn Tryz.f84.ntmps Tryz.f84.results.toList (Tryz.f84.body.getD .skip) [kWay,kWay] [.snap kWay] (a,b,()) post=Z7f  a b post:=by kernel_rfl
theorem Zc7:Z6r.holds Tryz.prog RbG 84 :=
 Z19 (detP Zji Zc nHn Zml (F:=fun x post=>Z7f  x.1 x.2.1 post) (fun x post=>Zmm x.1 x.2.1 post) fun x h w=>Zqm  x.1 x.2.1 h w)
def Zdw:Con:=Con.nam [kWay,kWay] [.snap (.int .i64)] (fun x=>WDot x.1 x.2.1) (fun x=>dotR x.1 x.2.1)
def Zdx:Cx:=⟨Zx Z10,Zz [],RbG⟩
theorem Zkv:CxOk Tryz.prog Zdx:=⟨Z8 Zb,fun f c h=>by cases h⟩
theorem Zom:FnAt Tryz.prog 86 Tryz.f86.ntmps Tryz.f86.results.toList (Tryz.f86.body.getD .skip):=⟨Tryz.f86,Tryz.func86,rfl,rfl,by simp,by decide⟩
theorem Zon (a:List Int) (b:List Int) (post:Int × Unit→Prop):Zi Zdx nHn Tryz.f86.ntmps Tryz.f86.results.toList (Tryz.f86.body.getD .skip) [kWay,kWay] [.snap (.int .i64)] (a,b,()) post=Z8i  a b post:=by kernel_rfl
theorem Zqn:Zdw.holds Tryz.prog RbG 86 :=
 Z19 (detP Zkv Zc nHn Zom (F:=fun x post=>Z8i  x.1 x.2.1 post) (fun x post=>Zon x.1 x.2.1 post) fun x h w=>Zu2  x.1 x.2.1 h w)
def Zb2:Con:=Con.nam [Z12h,.int .i64] [.snap kWay] (fun x=>WOut x.1 x.2.1) (fun x=>outR x.1 x.2.1)
def Zb3:Cx:=⟨Zx Z10,Zz [(116,Z62)],RbG⟩
theorem Zh9:CxOk Tryz.prog Zb3:=⟨Z8 Zb,Zd ⟨Zb1,trivial⟩⟩
theorem Zkw:FnAt Tryz.prog 82 Tryz.f82.ntmps Tryz.f82.results.toList (Tryz.f82.body.getD .skip):=⟨Tryz.f82,Tryz.func82,rfl,rfl,by simp,by decide⟩
theorem Zkx (f:List (List Int)) (s:Int) (post:(List Int) × Unit→Prop):Zi Zb3 nHn Tryz.f82.ntmps Tryz.f82.results.toList (Tryz.f82.body.getD .skip) [Z12h,.int .i64] [.snap kWay] (f,s,()) post=Z6q  f s post:=by kernel_rfl
theorem Zmn:Zb2.holds Tryz.prog RbG 82 :=
 Z19 (detP Zh9 Zc nHn Zkw (F:=fun x post=>Z6q  x.1 x.2.1 post) (fun x post=>Zkx x.1 x.2.1 post) fun x h w=>Zol  x.1 x.2.1 h w)
def Zff:Con:=Con.nam [kWay] [.snap (.int .i64)] (fun _=>True) (fun x=>Zwa x.1)
def Zdy:Hn:={ loops:=Z2n [(2,{ ls:=[(.slot 4,.data (.int .i64))],os:=[] })],joins:=fun _=>none,named:=true }
def Zfg:Cx:=⟨Zx Z10,Zz [],RbG⟩
theorem Zmo:CxOk Tryz.prog Zfg:=⟨Z8 Zb,fun f c h=>by cases h⟩
theorem Zqo:FnAt Tryz.prog 81 Tryz.f81.ntmps Tryz.f81.results.toList (Tryz.f81.body.getD .skip):=⟨Tryz.f81,Tryz.func81,rfl,rfl,by simp,by decide⟩
theorem Zqp (c:List Int) (post:Int × Unit→Prop):Zi Zfg Zdy Tryz.f81.ntmps Tryz.f81.results.toList (Tryz.f81.body.getD .skip) [kWay] [.snap (.int .i64)] (c,()) post=Z9i 109 c post:=by kernel_rfl
theorem Zu3:Zff.holds Tryz.prog RbG 81 :=
 Z19 (detP Zmo Zc Zdy Zqo (F:=fun x post=>Z9i 109 x.1 post) (fun x post=>Zqp x.1 post) fun x _ w=>Zwq 109 x.1 w)
def Zk6:Con:=Con.nam [.int .i64,.int .i64,.int .i64,.int .i64] [.snap (.int .i64)] (fun x=>IIII x.1 x.2.1 x.2.2.1 x.2.2.2.1) (fun x=>Zo7 x.1 x.2.1 x.2.2.1 x.2.2.2.1)
def Zha:Hn:=nHn
def Zk7:Cx:=⟨Zx Z10,Zz [(97,Zbh)],RbG⟩
theorem Zqq:CxOk Tryz.prog Zk7:=⟨Z8 Zb,Zd ⟨Zk5,trivial⟩⟩
theorem Zws:FnAt Tryz.prog 80 Tryz.f80.ntmps Tryz.f80.results.toList (Tryz.f80.body.getD .skip):=⟨Tryz.f80,Tryz.func80,rfl,rfl,by simp,by decide⟩
theorem Zwt (n:Int) (f:Int) (i:Int) (j:Int) (post:Int × Unit→Prop):Zi Zk7 Zha Tryz.f80.ntmps Tryz.f80.results.toList (Tryz.f80.body.getD .skip) [.int .i64,.int .i64,.int .i64,.int .i64] [.snap (.int .i64)] (n,f,i,j,()) post=Zdv  n f i j post:=by kernel_rfl
theorem Zzv:Zk6.holds Tryz.prog RbG 80 :=
 Z19 (detP Zqq Zc Zha Zws (F:=fun x post=>Zdv  x.1 x.2.1 x.2.2.1 x.2.2.2.1 post) (fun x post=>Zwt x.1 x.2.1 x.2.2.1 x.2.2.2.1 post) fun x h _=>Z131  x.1 x.2.1 x.2.2.1 x.2.2.2.1 h)
def Zfh:Con:=Con.nam [.int .i64,.int .i64,.int .i64,.int .i64] [.snap kWay] (fun x=>Z25 x.1 x.2.1 x.2.2.1 x.2.2.2.1) (fun x=>Zqh x.1 x.2.1 x.2.2.1 x.2.2.2.1)
def Zfi:Cx:=⟨Zx Z10,Zz [(116,Z62),(84,Z6r)],RbG⟩
theorem Zmp:CxOk Tryz.prog Zfi:=⟨Z8 Zb,Zd ⟨Zb1,Zc7,trivial⟩⟩
theorem Zqr:FnAt Tryz.prog 83 Tryz.f83.ntmps Tryz.f83.results.toList (Tryz.f83.body.getD .skip):=⟨Tryz.f83,Tryz.func83,rfl,rfl,by simp,by decide⟩
theorem Zqs (n:Int) (f:Int) (i:Int) (j:Int) (post:(List Int) × Unit→Prop):Zi Zfi nHn Tryz.f83.ntmps Tryz.f83.results.toList (Tryz.f83.body.getD .skip) [.int .i64,.int .i64,.int .i64,.int .i64] [.snap kWay] (n,f,i,j,()) post=Z6k  n f i j post:=by kernel_rfl
theorem Zu4:Zfh.holds Tryz.prog RbG 83 :=
 Z19 (detP Zmp Zc nHn Zqr (F:=fun x post=>Z6k  x.1 x.2.1 x.2.2.1 x.2.2.2.1 post) (fun x post=>Zqs x.1 x.2.1 x.2.2.1 x.2.2.2.1 post) fun x h _=>Zwr  x.1 x.2.1 x.2.2.1 x.2.2.2.1 h)
def Zhb:Con:=Con.nam [.int .i64,.int .i64] [.snap (.int .i64)] (fun x=>Ztk x.1 x.2.1) (fun x=>Ztj x.1 x.2.1)
def Zhc:Cx:=⟨Zx Z10,Zz [],RbG⟩
theorem Zoo:CxOk Tryz.prog Zhc:=⟨Z8 Zb,fun f c h=>by cases h⟩
theorem Zu5:FnAt Tryz.prog 85 Tryz.f85.ntmps Tryz.f85.results.toList (Tryz.f85.body.getD .skip):=⟨Tryz.f85,Tryz.func85,rfl,rfl,by simp,by decide⟩
theorem Zu6 (n:Int) (a:Int) (post:Int × Unit→Prop):Zi Zhc nHn Tryz.f85.ntmps Tryz.f85.results.toList (Tryz.f85.body.getD .skip) [.int .i64,.int .i64] [.snap (.int .i64)] (n,a,()) post=Zbi  n a post:=by kernel_rfl
theorem Zwu:Zhb.holds Tryz.prog RbG 85 :=
 Z19 (detP Zoo Zc nHn Zu5 (F:=fun x post=>Zbi  x.1 x.2.1 post) (fun x post=>Zu6 x.1 x.2.1 post) fun x h _=>Zzu  x.1 x.2.1 h)
end Go.Lift

namespace Go.Lift
open Go.Proofs
def Z8j:Con:=Con.nam [.int .i64,.int .i64,.int .i64] [.snap (.int .i64),.snap (.int .i64)] (fun x=>III x.1 x.2.1 x.2.2.1) (fun x=>Z3n x.1 x.2.1 x.2.2.1)
def Zdz:Hn:={ loops:=Z2n [(13,{ ls:=[(.slot 98,.data (.int .i64))],os:=[] })],joins:=fun _=>none,named:=true }
def Zfj:Cx:=⟨Zx Z10,Zz [(79,Z6j),(80,Zk6),(82,Zb2),(81,Zff),(83,Zfh),(84,Z6r),(86,Zdw),(85,Zhb)],RbG⟩
theorem Zmq:CxOk Tryz.prog Zfj:=⟨Z8 Zb,Zd ⟨Z9g,Zzv,Zmn,Zu3,Zu4,Zc7,Zqn,Zwu,trivial⟩⟩
theorem Zqt:FnAt Tryz.prog 35 Tryz.f35.ntmps Tryz.f35.results.toList (Tryz.f35.body.getD .skip):=⟨Tryz.f35,Tryz.func35,rfl,rfl,by simp,by decide⟩
theorem Zqu (n:Int) (c:Int) (o:Int) (post:Int × Int × Unit→Prop):Zi Zfj Zdz Tryz.f35.ntmps Tryz.f35.results.toList (Tryz.f35.body.getD .skip) [.int .i64,.int .i64,.int .i64] [.snap (.int .i64),.snap (.int .i64)] (n,c,o,()) post=Z9h 105 111 109 n c o post:=by kernel_rfl
theorem Zfk:Z8j.holds Tryz.prog RbG 35 :=
 Z19 (detP Zmq Zc Zdz Zqt (F:=fun x post=>Z9h 105 111 109 x.1 x.2.1 x.2.2.1 post) (fun x post=>Zqu x.1 x.2.1 x.2.2.1 post) fun x h _=>Zwp 105 111 109 x.1 x.2.1 x.2.2.1 h)
end Go.Lift

namespace Go.Lift
def Z9j:=fun (n c:Int) (post:(Nat × Nat × Nat) × Bool × Unit→Prop)=>∃ (h:II n c),Br (!(Z3 n c).snd.snd.snd.fst) (post (((0:Nat),(0:Nat),(0 :
 Nat)),false,())) (∃ (h:Zdp (i64.wrap (i64.wrap (i64.wrap ((2:Int)*(Z3 n c).snd.fst)+(1:Int)) - n)) n),∃ (h:Zdp
 (i64.wrap (i64.wrap (i64.wrap ((2:Int)*(Z3 n c).snd.snd.fst)+(1:Int)) - n)) n),∃ (h:Ztc (Z3 n c).fst (Z2t (i64.wrap
 (i64.wrap (i64.wrap ((2:Int)*(Z3 n c).snd.fst)+(1:Int)) - n)) n).fst (Z2t (i64.wrap (i64.wrap (i64.wrap ((2:Int) *
 (Z3 n c).snd.snd.fst)+(1:Int)) - n)) n).fst),post (((Zar (Z3 n c).fst (Z2t (i64.wrap (i64.wrap (i64.wrap ((2:Int)*(Z3 n
 c).snd.fst)+(1:Int)) - n)) n).fst (Z2t (i64.wrap (i64.wrap (i64.wrap ((2:Int)*(Z3 n c).snd.snd.fst)+(1:Int)) - n)) n).fst).fst.fst,
 (Zar (Z3 n c).fst (Z2t (i64.wrap (i64.wrap (i64.wrap ((2:Int)*(Z3 n c).snd.fst)+(1:Int)) - n)) n).fst (Z2t (i64.wrap
 (i64.wrap (i64.wrap ((2:Int)*(Z3 n c).snd.snd.fst)+(1:Int)) - n)) n).fst).fst.snd.fst,(Zar (Z3 n c).fst (Z2t (i64.wrap
 (i64.wrap (i64.wrap ((2:Int)*(Z3 n c).snd.fst)+(1:Int)) - n)) n).fst (Z2t (i64.wrap (i64.wrap (i64.wrap ((2:Int) *
 (Z3 n c).snd.snd.fst)+(1:Int)) - n)) n).fst).fst.snd.snd),true,()))
theorem Zwv (n:Int) (c:Int) (h:II n c):Z9j  n c (fun r=>r=Z6f n c):=by
 refine ⟨h,?_⟩
 by_cases ok:Zw n c=true
 ·rw [Z12j ok]
  obtain ⟨n1,n2,f0,f5,i0,i1,j0,j1⟩:=Zax ok
  dsimp only
  refine Br.intro (fun e=>absurd e (by decide)) fun _=>?_
  have w1:i64.wrap (i64.wrap (i64.wrap (2*(c % n))+1) - n)=2*(c % n)+1 - n:=by
   rw [wi (x:=2*(c % n)) ⟨by omega,by omega⟩,wi (x:=2*(c % n)+1) ⟨by omega,by omega⟩,wi ⟨by omega,by omega⟩]
  have w2:i64.wrap (i64.wrap (i64.wrap (2*(c / n % n))+1) - n)=2*(c / n % n)+1 - n:=by
   rw [wi (x:=2*(c / n % n)) ⟨by omega,by omega⟩,wi (x:=2*(c / n % n)+1) ⟨by omega,by omega⟩,wi ⟨by omega,by omega⟩]
  rw [w1,w2]
  refine ⟨⟨⟨by omega,by omega⟩,n1,h.1⟩,⟨⟨by omega,by omega⟩,n1,h.1⟩,⟨f0,f5,Z8z _ _,Z8z _ _⟩,?_⟩
  unfold Z6f; rw [if_pos ok]; rfl
 ·rw [Z12k ok]
  refine Br.intro (fun _=>?_) fun e=>absurd e (by decide)
  unfold Z6f; rw [if_neg ok]
def Z9k:=fun (n c o:Int) (post:Nat × Unit→Prop)=>∃ (h:II n c),∃ (h:(List.replicate (4:Nat) ((K.flt f64).pair ((K.flt f64).pair
 (K.flt f64))).dflt).length=(4:Nat)∧(Z12 n c).fst.length=(4:Nat)),Br (!(Z12 n c).snd.fst) (post ((0:Nat),())) (∀ (a:Bool),a=decide (o<(0
 : Int))→Br a (post ((0:Nat),())) (∀ (a:Bool),a=decide (o > (3:Int))→Br a (post ((0:Nat),())) (∃ (h:(0:Int)≤o∧o<(↑(4:Nat):Int)),∃ (h :
 (List.replicate (2:Nat) (0:Int)).length=(2:Nat)∧List.length ([[(1:Int),(2:Int)],[(3:Int),(2:Int)],[(0:Int),(3:Int)],[(0:Int),(1:Int)]].getD
 o.toNat (K.arr (2:Nat) (K.int i64)).dflt)=(2:Nat)),∃ (h:(0:Int)≤(0:Int)∧(0:Int)<(↑(2:Nat):Int)∧(2:Nat)≤List.length ([[(1:Int),(2:Int)],
 [(3:Int),(2:Int)],[(0:Int),(3:Int)],[(0:Int),(1:Int)]].getD o.toNat (K.arr (2:Nat) (K.int i64)).dflt)),∃ (h:(0:Int)≤List.getD ([[(1:Int),(2 :
 Int)],[(3:Int),(2:Int)],[(0:Int),(3:Int)],[(0:Int),(1:Int)]].getD o.toNat (K.arr (2:Nat) (K.int i64)).dflt) (Int.toNat (0:Int)) (0:Int)∧List.getD
 ([[(1:Int),(2:Int)],[(3:Int),(2:Int)],[(0:Int),(3:Int)],[(0:Int),(1:Int)]].getD o.toNat (K.arr (2:Nat) (K.int i64)).dflt) (Int.toNat (0:Int)) (0
 : Int)<(↑(4:Nat):Int)∧(4:Nat)≤(Z12 n c).fst.length),∃ (h:(0:Int)≤(1:Int)∧(1:Int)<(↑(2:Nat):Int)∧(2:Nat)≤List.length ([[(1:Int),(2 :
 Int)],[(3:Int),(2:Int)],[(0:Int),(3:Int)],[(0:Int),(1:Int)]].getD o.toNat (K.arr (2:Nat) (K.int i64)).dflt)),∃ (h:(0:Int)≤List.getD ([[(1 :
 Int),(2:Int)],[(3:Int),(2:Int)],[(0:Int),(3:Int)],[(0:Int),(1:Int)]].getD o.toNat (K.arr (2:Nat) (K.int i64)).dflt) (Int.toNat (1:Int)) (0:Int)
 ∧ List.getD ([[(1:Int),(2:Int)],[(3:Int),(2:Int)],[(0:Int),(3:Int)],[(0:Int),(1:Int)]].getD o.toNat (K.arr (2:Nat) (K.int i64)).dflt) (Int.toNat
 (1:Int)) (0:Int)<(↑(4:Nat):Int)∧(4:Nat)≤(Z12 n c).fst.length),∃ (h:WV2 ((Z12 n c).fst.getD (Int.toNat (List.getD ([[(1:Int),(2:Int)],[(3:Int),
 (2:Int)],[(0:Int),(3:Int)],[(0:Int),(1:Int)]].getD o.toNat (K.arr (2:Nat) (K.int i64)).dflt) (Int.toNat (0:Int)) (0:Int))) ((K.flt
 f64).pair ((K.flt f64).pair (K.flt f64))).dflt) ((Z12 n c).fst.getD (Int.toNat (List.getD ([[(1:Int),(2:Int)],[(3:Int),(2 :
 Int)],[(0:Int),(3:Int)],[(0:Int),(1:Int)]].getD o.toNat (K.arr (2:Nat) (K.int i64)).dflt) (Int.toNat (1:Int)) (0:Int))) ((K.flt f64).pair
 ((K.flt f64).pair (K.flt f64))).dflt)),post ((gapR ((Z12 n c).fst.getD (Int.toNat (List.getD ([[(1:Int),(2:Int)],[(3:Int),(2:Int)],[(0
 : Int),(3:Int)],[(0:Int),(1:Int)]].getD o.toNat (K.arr (2:Nat) (K.int i64)).dflt) (Int.toNat (0:Int)) (0:Int))) ((K.flt f64).pair ((K.flt
 f64).pair (K.flt f64))).dflt) ((Z12 n c).fst.getD (Int.toNat (List.getD ([[(1:Int),(2:Int)],[(3:Int),(2:Int)],[(0:Int),(3:Int)],
 [(0:Int),(1:Int)]].getD o.toNat (K.arr (2:Nat) (K.int i64)).dflt) (Int.toNat (1:Int)) (0:Int))) ((K.flt f64).pair ((K.flt f64).pair
 (K.flt f64))).dflt)).fst,()))))
theorem Zww (n:Int) (c:Int) (o:Int) (h:III n c o):Z9k  n c o (fun r=>r=Zdr n c o):=by
 have cl:=Zpu n c
 refine ⟨⟨h.1,h.2.1⟩,⟨rfl,cl⟩,?_⟩
 have no:Z14 n c o=false→((0:Nat),())=Zdr n c o:=fun q=>congrArg r1 (by unfold Zd4; rw [if_neg (by rw [q]; decide)])
 rw [Zj6]
 refine Br.intro (fun e=>no ?_) fun e=>?_
 ·unfold Z14; rw [show Zw n c=false by simpa using e]; rfl
 have ok:Zw n c=true:=by simpa using e
 rintro _ rfl
 refine Br.intro (fun e=>no ?_) fun e=>?_
 ·have e:=of_decide_eq_true e
  unfold Z14; rw [decide_eq_false (p:=0≤o) (by omega)]; simp
 have o0:=of_decide_eq_false e
 rintro _ rfl
 refine Br.intro (fun e=>no ?_) fun e=>?_
 ·have e:=of_decide_eq_true e
  unfold Z14; rw [decide_eq_false (p:=o<4) (by omega)]; simp
 have o4:=of_decide_eq_false e
 have o0:0≤o:=by omega
 have o4:o<4:=by omega
 have okb:Z14 n c o=true:=by unfold Z14; rw [ok,decide_eq_true o0,decide_eq_true o4]; rfl
 have hc:∀ i:Int,0≤i→i≤3→(Z12 n c).1.getD i.toNat ((K.flt f64).pair ((K.flt f64).pair (K.flt f64))).dflt=Zcs n c i:=fun i a b=>Z19v ok a b _
 have c0:=hc 0 (by decide) (by decide)
 have c1:=hc 1 (by decide) (by decide)
 have c2:=hc 2 (by decide) (by decide)
 have c3:=hc 3 (by decide) (by decide)
 have fin:∀ A B:Nat × Nat × Nat,A=Zcs n c (endA o)→B=Zcs n c (endB o)→(gapQ A B,())=Zdr n c o:=by
  intro A B hA hB
  rw [hA,hB]; exact congrArg r1 (by unfold Zd4; rw [if_pos okb])
 have wA:∀ i,WV (Zcs n c i):=Z1d1 n c
 generalize hQ:(Z12 n c).fst=Q at *
 rcases Z1p o0 o4 with rfl | rfl | rfl | rfl
 ·exact ⟨⟨by decide,by decide⟩,⟨rfl,rfl⟩,⟨by decide,by decide,by decide⟩,⟨by decide,by decide,Nat.le_of_eq cl.symm⟩,⟨by decide,by decide,by decide⟩,⟨by decide,by decide,Nat.le_of_eq cl.symm⟩,⟨c1 ▸ wA 1,c2 ▸ wA 2⟩,fin _ _ c1 c2⟩
 ·exact ⟨⟨by decide,by decide⟩,⟨rfl,rfl⟩,⟨by decide,by decide,by decide⟩,⟨by decide,by decide,Nat.le_of_eq cl.symm⟩,⟨by decide,by decide,by decide⟩,⟨by decide,by decide,Nat.le_of_eq cl.symm⟩,⟨c3 ▸ wA 3,c2 ▸ wA 2⟩,fin _ _ c3 c2⟩
 ·exact ⟨⟨by decide,by decide⟩,⟨rfl,rfl⟩,⟨by decide,by decide,by decide⟩,⟨by decide,by decide,Nat.le_of_eq cl.symm⟩,⟨by decide,by decide,by decide⟩,⟨by decide,by decide,Nat.le_of_eq cl.symm⟩,⟨c0 ▸ wA 0,c3 ▸ wA 3⟩,fin _ _ c0 c3⟩
 ·exact ⟨⟨by decide,by decide⟩,⟨rfl,rfl⟩,⟨by decide,by decide,by decide⟩,⟨by decide,by decide,Nat.le_of_eq cl.symm⟩,⟨by decide,by decide,by decide⟩,⟨by decide,by decide,Nat.le_of_eq cl.symm⟩,⟨c0 ▸ wA 0,c1 ▸ wA 1⟩,fin _ _ c0 c1⟩
def Zgi:=fun (n c o:Int) (post:Nat × Unit→Prop)=>∃ (h:III n c o),∀ (a:Int × Int × Unit),a=Z3n n c o→∃ (h:II n c),∀ (a_1:(Nat × Nat × Nat) × Bool
 × Unit),a_1=Z6f n c→∃ (h:II n a.fst),∀ (a_2:(Nat × Nat × Nat) × Bool × Unit),a_2=Z6f n a.fst→Br (!a_1.snd.fst) (post ((0:Nat),())) (Br (!a_2.snd.fst)
 (post ((0:Nat),())) (∃ (h:WV2 (a_1.fst.fst,a_1.fst.snd.fst,a_1.fst.snd.snd) (a_2.fst.fst,a_2.fst.snd.fst,a_2.fst.snd.snd)),post ((gapR (a_1.fst.fst,a_1.fst.snd.fst,
 a_1.fst.snd.snd) (a_2.fst.fst,a_2.fst.snd.fst,a_2.fst.snd.snd)).fst,())))
theorem Z14k (n:Int) (c:Int) (o:Int) (h:III n c o):Zgi  n c o (fun r=>r=Z173 n c o):=by
 have br:=Ztn n c o
 refine ⟨h,?_⟩
 rintro ⟨b,q,⟨⟩⟩ hb
 have eb:b=(Z7 n c o).1:=congrArg Prod.fst hb
 rw [← eb] at br
 refine ⟨⟨h.1,h.2.1⟩,?_⟩
 rintro ⟨⟨A1,A2,A3⟩,p,⟨⟩⟩ hA
 refine ⟨⟨h.1,by omega,by omega⟩,?_⟩
 rintro ⟨⟨B1,B2,B3⟩,r,⟨⟩⟩ hB
 have hA:((A1,A2,A3),p,())=Z6f n c:=hA
 have hB:((B1,B2,B3),r,())=Z6f n b:=hB
 have key:∀ z,Z6f n z=if Zw n z then (Zh3 n z,true,()) else ((0,0,0),false,()):=fun z=>rfl
 have bt:∀ {z:Bool},z=true→¬ (!z)=true:=fun {z} e=>by rw [e]; decide
 have bf:∀ {z:Bool},z=false→¬ (!z)=false:=fun {z} e=>by rw [e]; decide
 by_cases o1:Zw n c=true
 ·rw [key,if_pos o1] at hA
  obtain ⟨eA,e1⟩:=Prod.mk.inj hA
  have ep:p=true:=congrArg Prod.fst e1
  refine Br.intro (fun e=>absurd e (bt ep)) fun _=>?_
  by_cases o2:Zw n b=true
  ·rw [key,if_pos o2] at hB
   obtain ⟨eB,e2⟩:=Prod.mk.inj hB
   have er:r=true:=congrArg Prod.fst e2
   refine Br.intro (fun e=>absurd e (bt er)) fun _=>?_
   have hw:WV2 (A1,A2,A3) (B1,B2,B3):=⟨by rw [eA]; exact Zyz _ _,by rw [eB]; exact Zyz _ _⟩
   have hg:gapQ (A1,A2,A3) (B1,B2,B3)=gapG n c o:=by
    rw [eA,eB]; unfold gapG; rw [← eb,o1,o2,if_pos (by decide)]
   exact ⟨hw,congrArg r1 hg⟩
  ·rw [key,if_neg o2] at hB
   obtain ⟨eB,e2⟩:=Prod.mk.inj hB
   have er:r=false:=congrArg Prod.fst e2
   refine Br.intro (fun _=>congrArg r1 ?_) fun e=>absurd e (bf er)
   unfold gapG; rw [← eb,o1,show Zw n b=false by simpa using o2]; rfl
 ·rw [key,if_neg o1] at hA
  obtain ⟨eA,e1⟩:=Prod.mk.inj hA
  have ep:p=false:=congrArg Prod.fst e1
  refine Br.intro (fun _=>congrArg r1 ?_) fun e=>absurd e (bf ep)
  unfold gapG; rw [show Zw n c=false by simpa using o1]; rfl
end Go.Lift
