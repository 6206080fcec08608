/- A part of the proof of StepGivesCard: an own lifter of code into plain terms, and plain laws. -/
import Derived.Test.YtkfafhbmdccmgaaGreatDoorPtD
set_option linter.unusedVariables false
set_option linter.unusedSimpArgs false
set_option linter.unusedSectionVars false
open Go.IntKind (i64 u64 u32 u8)
open Go.FloatKind (f64 f32)
namespace Go.Lift
open Ieee
theorem Z1t1(p:Int):rnd 0 p=0:=by
 have h:=Z1pf (m:=0) (p:=p) (m':=0) (p':=-1074) (by unfold leV; rw[Nat.zero_mul,Nat.zero_mul]; exact Nat.le_refl 0)
 have e:=Zdp (r:=0) (by decide)
 rw[show Zr 0=0 by decide,show Z8 0=-1074 by decide]at e
 omega
theorem Z1t2 {x y:Nat}(hx:Z0 x<infR)(hy:Z0 y<infR):mulQ x y=double.word (sgn x ^^ sgn y) (rnd (Zr (Z0 x)*Zr (Z0 y)) (Z8 (Z0 x)+Z8 (Z0 y))):=by
 have h:(double.read x).product (double.read y)=some (.number (sgn x ^^ sgn y) (Zr (Z0 x)*Zr (Z0 y)) (Z8 (Z0 x)+Z8 (Z0 y))):=by
  rw[Z2e hx,Z2e hy]
  simp only[Datum.product]
 unfold mulQ
 show(((double.read x).product (double.read y)).map double.write).getD QN=_
 rw[h]
 show double.write (.number _ _ _)=_
 rw[Zsb]
theorem Z1ej {x y:Nat}(hx:Z0 x=infR)(hy:Z0 y≤infR)(h:isN (mulQ x y)=false):mulQ x y=double.word (sgn x ^^ sgn y) infR∧Z0 y≠0:=by
 rcases Nat.lt_or_ge (Z0 y) infR with q | q
 ·by_cases z:Zr (Z0 y)=0
  ·exfalso
   have e:mulQ x y=QN:=by
    unfold mulQ
    show(((double.read x).product (double.read y)).map double.write).getD QN=_
    rw[Z53 hx,Z2e q]
    simp[Datum.product,z]
   rw[e,QN_N]at h; cases h
  ·refine⟨?_,fun r=>z (by rw[r]; decide)⟩
   unfold mulQ
   show(((double.read x).product (double.read y)).map double.write).getD QN=_
   rw[Z53 hx,Z2e q]
   simp[Datum.product,z]
   exact Zsa _
 ·have q:Z0 y=infR:=by omega
  refine⟨?_,by rw[q]; decide⟩
  unfold mulQ
  show(((double.read x).product (double.read y)).map double.write).getD QN=_
  rw[Z53 hx,Z53 q]
  simp[Datum.product]
  exact Zsa _
theorem Z1qy {x y:Nat}(h:isN (mulQ x y)=false):isN x=false∧isN y=false∧sgn (mulQ x y)=(sgn x ^^ sgn y)∧(Z0 x=0∨Z0 y=0→Z0 (mulQ x y)=0):=by
 have nx:isN x=false:=by
  cases q:isN x with
  | false=>rfl
  | true=>rw[Zxt (.inl q),QN_N]at h; cases h
 have ny:isN y=false:=by
  cases q:isN y with
  | false=>rfl
  | true=>rw[Zxt (.inr q),QN_N]at h; cases h
 have lx:Z0 x≤infR:=by rcases Z5m x with⟨a,_⟩ | ⟨a,_⟩ | ⟨_,a⟩ <;> first | omega | (rw[nx]at a; cases a)
 have ly:Z0 y≤infR:=by rcases Z5m y with⟨a,_⟩ | ⟨a,_⟩ | ⟨_,a⟩ <;> first | omega | (rw[ny]at a; cases a)
 refine⟨nx,ny,?_⟩
 rcases Nat.lt_or_ge (Z0 x) infR with qx | qx
 ·rcases Nat.lt_or_ge (Z0 y) infR with qy | qy
  ·rw[Z1t2 qx qy]
   obtain⟨_,_,k3,k4⟩:=Z5e (s:=sgn x ^^ sgn y) (Z105 (Zr (Z0 x)*Zr (Z0 y)) (Z8 (Z0 x)+Z8 (Z0 y)))
   refine⟨k4,fun z=>?_⟩
   rw[k3]
   rcases z with z | z <;> rw[z,show Zr 0=0 by decide] <;> simp only[Nat.zero_mul,Nat.mul_zero] <;> exact Z1t1 _
  ·have e:Z0 y=infR:=by omega
   rw[Z17m]at h
   obtain⟨a,b⟩:=Z1ej e lx h
   rw[Z17m,a]
   obtain⟨_,_,k3,k4⟩:=Z5e (s:=sgn y ^^ sgn x) (Nat.le_refl infR)
   refine⟨by rw[k4,Bool.xor_comm],fun z=>?_⟩
   rcases z with z | z
   ·exact absurd z b
   ·rw[e]at z; exact absurd z (by decide)
 ·have e:Z0 x=infR:=by omega
  obtain⟨a,b⟩:=Z1ej e ly h
  rw[a]
  obtain⟨_,_,k3,k4⟩:=Z5e (s:=sgn x ^^ sgn y) (Nat.le_refl infR)
  refine⟨k4,fun z=>?_⟩
  rcases z with z | z
  ·rw[e]at z; exact absurd z (by decide)
  ·exact absurd z b
theorem Zo8 {x y:Nat}(hy:sgn y=false)(h:isN (mulQ x y)=false)(hz:Z0 (mulQ x y)≠0):isN x=false∧sgn x=sgn (mulQ x y)∧Z0 x≠0:=by
 obtain⟨a,_,b,c⟩:=Z1qy h
 refine⟨a,by rw[b,hy,Bool.xor_false],fun q=>hz (c (.inl q))⟩
theorem Z1kn {x:Nat}{m:Int}(hm:0≤m):(0<Z3p x m→isN x=false∧Z0 x≠0∧sgn x=false)∧(Z3p x m<0→isN x=false∧Z0 x≠0∧sgn x=true):=by
 have nn:0≤Z56 x m:=by
  unfold Z56
  by_cases h:Z0 x<Z1o
  ·rw[if_pos h]; have:=Zo0 h; unfold imin imax; split <;> split <;> omega
  ·rw[if_neg h]; unfold imax; split <;> omega
 have z0:Z0 x=0→Z56 x m=0:=fun z=>by
  unfold Z56
  rw[z,if_pos (by decide)]
  have:Z5a 0=0:=by decide +kernel
  rw[this]; unfold imin imax; split <;> split <;> omega
 unfold Z3p
 by_cases hn:isN x=true
 ·rw[if_pos hn]; exact⟨fun h=>absurd h (by decide),fun h=>absurd h (by decide)⟩
 ·have hn:isN x=false:=by simpa using hn
  rw[hn,if_neg (by decide)]
  by_cases hz:Z0 x=0
  ·rw[z0 hz]; split <;> exact⟨fun h=>by omega,fun h=>by omega⟩
  ·cases hs:sgn x with
   | true=>
    rw[if_pos (by simpa using hz)]
    exact⟨fun h=>by omega,fun _=>⟨rfl,hz,rfl⟩⟩
   | false=>
    rw[if_neg (by simp)]
    exact⟨fun _=>⟨rfl,hz,rfl⟩,fun h=>by omega⟩
theorem Z1ek {u:Nat}(hn:isN u=false)(hz:Z0 u≠0):(sgn u=false→gtS u 0=true)∧(sgn u=true→ltS u 0=true):=by
 unfold gtS ltS
 rw[Z35 hn (by decide),Z153,Zve,key0]
 unfold Z1m
 constructor
 ·intro h; rw[h,if_neg (by decide)]; exact decide_eq_true (by omega)
 ·intro h; rw[h,if_pos rfl]; exact decide_eq_true (by omega)
theorem Z1ko {u d l t:Nat}(hd:sgn d=false)(hl:sgn l=false)(ht:sgn t=false):(0<Zhi u d l t→gtS u 0=true)∧(Zhi u d l t<0→ltS u 0=true):=by
 have back:∀ b,(isN (mulQ (mulQ (mulQ (mulQ u d) l) t) Zj0)=false∧Z0 (mulQ (mulQ (mulQ (mulQ u d) l) t) Zj0)≠0∧sgn (mulQ (mulQ (mulQ (mulQ u d) l) t) Zj0)=b)→isN u=false∧Z0 u≠0∧sgn u=b:=fun b ⟨h1,h2,h3⟩=>by
  obtain⟨a1,a2,a3⟩:=Zo8 (show sgn Zj0=false by decide) h1 h2
  obtain⟨b1,b2,b3⟩:=Zo8 ht a1 a3
  obtain⟨c1,c2,c3⟩:=Zo8 hl b1 b3
  obtain⟨d1,d2,d3⟩:=Zo8 hd c1 c3
  exact⟨d1,d3,by rw[d2,c2,b2,a2,h3]⟩
 obtain⟨k1,k2⟩:=Z1kn (x:=mulQ (mulQ (mulQ (mulQ u d) l) t) Zj0) (m:=4503599627370496) (by decide)
 constructor
 ·intro h
  obtain⟨h1,h2,h3⟩:=back _ (k1 h)
  exact(Z1ek h1 h2).1 h3
 ·intro h
  obtain⟨h1,h2,h3⟩:=back _ (k2 h)
  exact(Z1ek h1 h2).2 h3
theorem Z1oe(g:Option Gr)(lim:Int)(s:SeaT)(e:Int)(u:Nat):sgn (Z57 g lim s e u)=false:=by
 have h:∀(n:Int)(bed:List Nat)(water:List Int)(up down back:Int),sgn (recD n lim bed water up down back)=false:=fun n bed water up down back=>by
  unfold recD
  split
  ·rename_i q; exact(Z1ca q).2
  ·decide
 unfold Z57
 split
 ·unfold recF
  split
  ·exact h _ _ _ _ _ _
  ·split
   ·exact h _ _ _ _ _ _
   ·decide
 ·decide
theorem Z1kp(n c o:Int):sgn (Z3g n c o)=false:=by
 unfold Z3g
 split
 ·exact Zwg _
 ·decide
theorem Z1gm(n e:Int):sgn (Zgm (some (netG n)) e)=false:=by
 by_cases h:nIs (some (netG n)) e=true
 ·rw[Z1km h]; exact Z1kp _ _ _
 ·show sgn (if 0≤e∧e<(((netE n).1.length:Nat):Int)then _ else 0)=false
  rw[if_neg]
  ·decide
  ·intro q
   apply h
   show(decide (0≤e)&&decide (e<(((netE n).1.length:Nat):Int)))=true
   rw[decide_eq_true q.1,decide_eq_true q.2]; rfl
theorem Z1of {p:Z16}(h:Z1g p=0):gtS p.2.1 0=true:=by
 unfold Z1g at h
 by_cases a:Z2 p.1=0
 ·rw[if_pos a]at h; exact absurd h (by decide)
 rw[if_neg a]at h
 by_cases q:(!gtS p.2.1 0||gtS p.2.1 Z3l||!Z25 p.2.2.1 0 Z3l||!Z25 p.2.2.2.1 0 Z3l||!Z49 p.2.2.2.2.1)=true
 ·rw[if_pos q]at h; exact absurd h (by decide)
 ·simp at q
  exact q.1.1.1.1
theorem Z1og {n:Int}{p:Z16}{s:SeaT}(hp:Z1g p=0)(S:Stepped n p s)(C:Can n s){k:Nat}(hk:k<(netE n).1.length):
  (0<(Zi (some (netG n)) p s).getD k 0→gtS ((Z1c (some (netG n)) p s).getD k 0) 0=true)∧((Zi (some (netG n)) p s).getD k 0<0→ltS ((Z1c (some (netG n)) p s).getD k 0) 0=true):=by
 have A:=Z75 n
 obtain⟨e1,e2,_⟩:=Z1ns A S.gone.laid S.gone.nn hk
 have w:(Z2x (some (netG n)) p s).getD k 0=Zj2 (some (netG n)) p (Zb1 s (Z1c (some (netG n)) p s)) k:=by
  unfold Z2x
  rw[Z1in C,List.getD_eq_getElem?_getD,List.getElem?_map,List.getElem?_range hk]; rfl
 have ht:sgn p.2.1=false:=(Z1ca (Z1of hp)).2
 obtain⟨q1,q2⟩:=Z1ko (u:=(Z1c (some (netG n)) p s).getD k 0) (Z1oe (some (netG n)) p.2.2.2.2.1 (Zb1 s (Z1c (some (netG n)) p s)) k ((Z1c (some (netG n)) p s).getD k 0)) (Z1gm n k) ht
 have w2:Zj2 (some (netG n)) p (Zb1 s (Z1c (some (netG n)) p s)) k=Zhi ((Z1c (some (netG n)) p s).getD k 0) (Z57 (some (netG n)) p.2.2.2.2.1 (Zb1 s (Z1c (some (netG n)) p s)) k ((Z1c (some (netG n)) p s).getD k 0)) (Zgm (some (netG n)) k) p.2.1:=rfl
 rw[← w2,← w]at q1 q2
 constructor
 ·intro h
  apply q1
  rcases Int.lt_or_le 0 ((Z2x (some (netG n)) p s).getD k 0)with z | z
  ·exact z
  ·have:=e2 z; omega
 ·intro h
  apply q2
  rcases Int.lt_or_le ((Z2x (some (netG n)) p s).getD k 0) 0 with z | z
  ·exact z
  ·have:=e1 z; omega
def accP(X Y:Int→Int):Nat→Int × Int
 | 0=>(0,0)
 | k+1=>if 0<X k then((accP X Y k).1+X k,(accP X Y k).2+Y k)else accP X Y k
theorem Z1ir {X Y:Int→Int}{gx gy:List Int}(hx:gx.length=4)(hy:gy.length=4)(nx:∀ o:Nat,o<4→0≤gx.getD o 0∧X o≤gx.getD o 0)(ny:∀ o:Nat,o<4→0≤gy.getD o 0∧Y o≤gy.getD o 0∧(0<X o→0≤Y o)):∀ k:Nat,k≤4→
  (0≤(accP X Y k).1∧(accP X Y k).1≤psum gx k)∧0≤(accP X Y k).2∧(accP X Y k).2≤psum gy k
 | 0,_=>by rw[Z3f,Z3f]; exact⟨⟨Int.le_refl 0,Int.le_refl 0⟩,Int.le_refl 0,Int.le_refl 0⟩
 | k+1,h=>by
  obtain⟨⟨a,b⟩,c,d⟩:=Z1ir hx hy nx ny k (by omega)
  rw[Z36 gx k (by omega),Z36 gy k (by omega)]
  obtain⟨x1,x2⟩:=nx k (by omega)
  obtain⟨y1,y2,y3⟩:=ny k (by omega)
  unfold accP
  split
  ·rename_i q; have:=y3 q; dsimp only; omega
  ·omega
theorem Z18j {n:Int}{p:Z16}{s:SeaT}(S:Stepped n p s){c:Nat}(hp:Ze n (c:Int)=true){o:Nat}(ho:o<4):
  (0<Zz (Za (some (netG n))) (Zi (some (netG n)) p s) c o→0≤Zz (Za (some (netG n))) (Z20 (some (netG n)) p s) c o)∧
  (Zz (Za (some (netG n))) (Zi (some (netG n)) p s) c o<0→Zz (Za (some (netG n))) (Z20 (some (netG n)) p s) c o≤0)∧
  (Zz (Za (some (netG n))) (Zi (some (netG n)) p s) c o=0→Zz (Za (some (netG n))) (Z20 (some (netG n)) p s) c o=0):=by
 have A:=Z75 n
 obtain⟨g1,g2⟩:=Z5w A S.gone2 hp ho
 have ok:=Zc.2 ⟨hp,show(0:Int)≤(o:Int) by omega,show(o:Int)<4 by omega⟩
 obtain⟨b1,b2,b3,b4,b5⟩:=Z1l ok
 have c1:=Z15 hp
 have c2:=Z15 b1
 obtain⟨n1,m1⟩:=S.gone2.nn c c1.2 o ho
 obtain⟨n2,m2⟩:=S.gone2.nn (Z1 n c o).1.toNat (by omega) (Z1 n c o).2.toNat (by omega)
 obtain⟨k,hk,h1,h1'⟩:=Zef A ok
 rw[show(((Z1 n c o).1.toNat:Nat):Int)=(Z1 n c o).1 by omega,show(((Z1 n c o).2.toNat:Nat):Int)=(Z1 n c o).2 by omega]at m2
 unfold outN at m1 m2
 rw[h1]at m1
 rw[h1']at m2
 have ex:Zz (Za (some (netG n))) (Zi (some (netG n)) p s) c o=(Zi (some (netG n)) p s).getD (k:Int).toNat 0*sgnE n c o:=by unfold Zz; rw[h1]
 have ey:(Zi (some (netG n)) p s).getD (k:Int).toNat 0*-sgnE n c o=-Zz (Za (some (netG n))) (Zi (some (netG n)) p s) c o:=by rw[ex]; exact Int.mul_neg _ _
 dsimp only at m1 m2
 rw[← ex]at m1
 rw[ey]at m2
 generalize Zz (Za (some (netG n))) (Zi (some (netG n)) p s) c o=X at *
 generalize Zz (Za (some (netG n))) (Z20 (some (netG n)) p s) c o=Y at *
 have z1:X≤0→(Z34 (Za (some (netG n))) s.2.1 s.2.2.1 (Zi (some (netG n)) p s) c).getD o 0=0:=fun h=>by
  rcases Int.lt_or_le 0 ((Z34 (Za (some (netG n))) s.2.1 s.2.2.1 (Zi (some (netG n)) p s) c).getD o 0)with q | q
  ·have:=m1 q; unfold imax at this; split at this <;> omega
  ·omega
 have z2:0≤X→(Z34 (Za (some (netG n))) s.2.1 s.2.2.1 (Zi (some (netG n)) p s) (Z1 n c o).1.toNat).getD (Z1 n c o).2.toNat 0=0:=fun h=>by
  rcases Int.lt_or_le 0 ((Z34 (Za (some (netG n))) s.2.1 s.2.2.1 (Zi (some (netG n)) p s) (Z1 n c o).1.toNat).getD (Z1 n c o).2.toNat 0)with q | q
  ·have:=m2 q; unfold imax at this; split at this <;> omega
  ·omega
 refine⟨fun h=>?_,fun h=>?_,fun h=>?_⟩
 ·have:=z2 (by omega); omega
 ·have:=z1 (by omega); omega
 ·have:=z1 (by omega); have:=z2 (by omega); omega
end Go.Lift

namespace Go.Lift
def Zv(ty25:Nat)(p:YP)(ty29:Nat)(s:YS)(ty2:Nat)(a_2:(List Int × List Int) × Int × Unit)(ty35:Nat)(ty22:Nat)(a_3:YS × Int × Unit):List HObj:=[HObj.box Md.rw ty25 [SV.val (Go.Value.int i64 p.1),SV.val (Go.Value.float f64 p.2.1),SV.val (Go.Value.float f64 p.2.2.1),SV.val (Go.Value.float f64 p.2.2.2.1),SV.val (Go.Value.int i64 p.2.2.2.2.1),SV.val (Go.Value.bool p.2.2.2.2.2.1),SV.data ((K.int i64).pair ((K.int i64).pair ((K.int i64).pair (K.int i64)))).slice p.2.2.2.2.2.2],HObj.box Md.rw ty29 [SV.data (K.flt f64).slice s.1,SV.data (K.int i64).slice s.2.1,SV.data (K.int i64).slice s.2.2.1,SV.data (K.flt f64).slice s.2.2.2.1,SV.val (Go.Value.int i64 s.2.2.2.2.1),SV.val (Go.Value.int i64 s.2.2.2.2.2)],HObj.row Md.rw ty2 (K.int i64) a_2.1.1,HObj.row Md.rw ty2 (K.int i64) a_2.1.2,HObj.box Md.rw ty35 [SV.osl (2:Nat) (0:Nat) a_2.1.1.length,SV.osl (3:Nat) (0:Nat) a_2.1.2.length],HObj.row Md.rw ty22 (K.flt f64) a_3.1.1,HObj.row Md.rw ty2 (K.int i64) a_3.1.2.1,HObj.row Md.rw ty2 (K.int i64) a_3.1.2.2.1,HObj.row Md.rw ty22 (K.flt f64) a_3.1.2.2.2.1,HObj.box Md.rw ty29 [SV.osl (5:Nat) (0:Nat) a_3.1.1.length,SV.osl (6:Nat) (0:Nat) a_3.1.2.1.length,SV.osl (7:Nat) (0:Nat) a_3.1.2.2.1.length,SV.osl (8:Nat) (0:Nat) a_3.1.2.2.2.1.length,SV.val (Go.Value.int i64 a_3.1.2.2.2.2.1),SV.val (Go.Value.int i64 a_3.1.2.2.2.2.2)]]
def Zeg:=fun(ty25 ty29 ty2 ty35 ty22:Nat)(p:YP)(s:YS)(post:Bool × Unit→Prop)=>∃(h:True),∀ a,a=yesR→∀ a_1,a_1=a.1→Br (!a_1) (post
 (false,())) (∃(h:Zsj p s),∀ a,a=Z6h p s→Br (!a.2.1) (post (true,())) (∃(h:Z5u a.1 p s),∀ a_2,a_2=Z79 a.1 p s→∃(h:Z5u a.1 p s),∀
 a_3,a_3=Z8n a.1 p s→∀ a_4,a_4=(a_2.2.1 != (0:Int))→Br a_4 (post (false,())) (∀ a_5,a_5=(a_3.2.1 != (0:Int))→Br a_5 (post (false,())) (∃(h:
 True),∀ a_6,a_6=((↑a_2.1.1.length:Int) != (Z1b a.1).1)→Br a_6 (post (false,())) (∃(h:True),∀ a_7,a_7=((↑a_2.1.2.length:Int) != (Z1b a.1).1)→Br a_7
 (post (false,())) (HS (Zv ty25 p ty29 s ty2 a_2 ty35 ty22 a_3)∧∃(I:Int × Unit→Unit→Prop),∃(μ:Int × Unit→Unit→Nat),I (0,()) ()∧∀(x:
 Int × Unit) (y:Unit),I x y→∃(h:True),∀ a_8,a_8=decide (x.1<(Z1u a.1).1)→Br a_8 (HS (Zv ty25 p ty29 s ty2 a_2 ty35 ty22 a_3)∧∃(I_1:Int ×
 Int × Int × Unit→Unit→Prop),∃(μ_1:Int × Int × Int × Unit→Unit→Nat),I_1 (0,0,0,()) ()∧∀(x_3:Int × Int × Int × Unit)(y_1:Unit),I_1 x_3 y_1→∀ a_9,a_9=
 decide (x_3.2.2.1<(4:Int))→Br a_9 (∃(h:WNet a.1 x.1 x_3.2.2.1),∀ a_10,a_10=Z40 a.1 x.1 x_3.2.2.1→∃(h:(0:Int)≤a_10.1∧a_10.1<(↑a_2.1.1.length:Int)),
 ∃(h:(0:Int)≤a_10.1∧a_10.1<(↑a_2.1.2.length:Int)),∃(post_1:Int × Int × Unit→Unit→Prop),(∀ a,a=decide (i64.wrap (a_2.1.1.getD ((0:Nat)+
 a_10.1.toNat) (0:Int)*a_10.2.1) > (0:Int))→Br a (HS (Zv ty25 p ty29 s ty2 a_2 ty35 ty22 a_3)∧post_1 (i64.wrap (x_3.1+i64.wrap
 (a_2.1.1.getD ((0:Nat)+a_10.1.toNat) (0:Int)*a_10.2.1)),i64.wrap (x_3.2.1+i64.wrap (a_2.1.2.getD ((0:Nat)+a_10.1.toNat) (0:Int)*a_10.2.1)),())
 ()) (HS (Zv ty25 p ty29 s ty2 a_2 ty35 ty22 a_3)∧post_1 (x_3.1,x_3.2.1,()) ()))∧∀(x:Int × Int × Unit)(y:Unit),post_1 x y→∀ a,a=decide
 (i64.wrap (a_2.1.1.getD ((0:Nat)+a_10.1.toNat) (0:Int)*a_10.2.1) > (0:Int))→Br a (∀ a,a=decide (i64.wrap (a_2.1.2.getD ((0:Nat)+a_10.1.toNat) (0
 : Int)*a_10.2.1)<(0:Int))→Br a (post (false,())) (∀ a,a=decide (i64.wrap (a_2.1.1.getD ((0:Nat)+a_10.1.toNat) (0:Int)*a_10.2.1)<(0:Int))→Br
 a (∀ a,a=decide (i64.wrap (a_2.1.2.getD ((0:Nat)+a_10.1.toNat) (0:Int)*a_10.2.1) > (0:Int))→Br a (post (false,())) (∀ a,a=(i64.wrap
 (a_2.1.1.getD ((0:Nat)+a_10.1.toNat) (0:Int)*a_10.2.1)==(0:Int))→Br a (∀ a,a=(i64.wrap (a_2.1.2.getD ((0:Nat)+a_10.1.toNat) (0:Int)*a_10.2.1) !=
 (0:Int))→Br a (post (false,())) (HS (Zv ty25 p ty29 s ty2 a_2 ty35 ty22 a_3)∧I_1 (x.1,x.2.1,i64.wrap (x_3.2.2.1+1),()) ()∧μ_1 (x.1,
 x.2.1,i64.wrap (x_3.2.2.1+1),()) ()<μ_1 x_3 y_1)) (HS (Zv ty25 p ty29 s ty2 a_2 ty35 ty22 a_3)∧I_1 (x.1,x.2.1,i64.wrap (x_3.2.2.1+1),
 ()) ()∧μ_1 (x.1,x.2.1,i64.wrap (x_3.2.2.1+1),()) ()<μ_1 x_3 y_1))) (∀ a,a=(i64.wrap (a_2.1.1.getD ((0:Nat)+a_10.1.toNat) (0:Int)*a_10.2.1)==
 (0:Int))→Br a (∀ a,a=(i64.wrap (a_2.1.2.getD ((0:Nat)+a_10.1.toNat) (0:Int)*a_10.2.1) != (0:Int))→Br a (post (false,())) (HS (Zv
 ty25 p ty29 s ty2 a_2 ty35 ty22 a_3)∧I_1 (x.1,x.2.1,i64.wrap (x_3.2.2.1+1),()) ()∧μ_1 (x.1,x.2.1,i64.wrap (x_3.2.2.1+1),()) ()<μ_1 x_3 y_1)) (HS
 (Zv ty25 p ty29 s ty2 a_2 ty35 ty22 a_3)∧I_1 (x.1,x.2.1,i64.wrap (x_3.2.2.1+1),()) ()∧μ_1 (x.1,x.2.1,i64.wrap (x_3.2.2.1+1),()) () <
 μ_1 x_3 y_1)))) (∀ a,a=decide (i64.wrap (a_2.1.1.getD ((0:Nat)+a_10.1.toNat) (0:Int)*a_10.2.1)<(0:Int))→Br a (∀ a,a=decide (i64.wrap
 (a_2.1.2.getD ((0:Nat)+a_10.1.toNat) (0:Int)*a_10.2.1) > (0:Int))→Br a (post (false,())) (∀ a,a=(i64.wrap (a_2.1.1.getD ((0:Nat)+a_10.1.toNat) (0
 : Int)*a_10.2.1)==(0:Int))→Br a (∀ a,a=(i64.wrap (a_2.1.2.getD ((0:Nat)+a_10.1.toNat) (0:Int)*a_10.2.1) != (0:Int))→Br a (post (false,())) (HS
 (Zv ty25 p ty29 s ty2 a_2 ty35 ty22 a_3)∧I_1 (x.1,x.2.1,i64.wrap (x_3.2.2.1+1),()) ()∧μ_1 (x.1,x.2.1,i64.wrap (x_3.2.2.1+1),()) () <
 μ_1 x_3 y_1)) (HS (Zv ty25 p ty29 s ty2 a_2 ty35 ty22 a_3)∧I_1 (x.1,x.2.1,i64.wrap (x_3.2.2.1+1),()) ()∧μ_1 (x.1,x.2.1,i64.wrap
 (x_3.2.2.1+1),()) ()<μ_1 x_3 y_1))) (∀ a,a=(i64.wrap (a_2.1.1.getD ((0:Nat)+a_10.1.toNat) (0:Int)*a_10.2.1)==(0:Int))→Br a (∀ a,a=
 (i64.wrap (a_2.1.2.getD ((0:Nat)+a_10.1.toNat) (0:Int)*a_10.2.1) != (0:Int))→Br a (post (false,())) (HS (Zv ty25 p ty29 s ty2 a_2 ty35
 ty22 a_3)∧I_1 (x.1,x.2.1,i64.wrap (x_3.2.2.1+1),()) ()∧μ_1 (x.1,x.2.1,i64.wrap (x_3.2.2.1+1),()) ()<μ_1 x_3 y_1)) (HS (Zv ty25 p
 ty29 s ty2 a_2 ty35 ty22 a_3)∧I_1 (x.1,x.2.1,i64.wrap (x_3.2.2.1+1),()) ()∧μ_1 (x.1,x.2.1,i64.wrap (x_3.2.2.1+1),()) ()<μ_1 x_3 y_1)))) (∃(h:(0
 : Int)≤x.1∧x.1<(↑s.2.1.length:Int)),∀ a,a=decide (x_3.1 > s.2.1.getD x.1.toNat (0:Int))→Br a (post (false,())) (∃(h:(0:Int)≤x.1∧x.1 <
 (↑s.2.2.1.length:Int)),∀ a,a=decide (x_3.2.1 > s.2.2.1.getD x.1.toNat (0:Int))→Br a (post (false,())) (HS (Zv ty25 p ty29 s ty2 a_2 ty35 ty22 a_3)
 ∧ I (i64.wrap (x.1+1),()) ()∧μ (i64.wrap (x.1+1),()) ()<μ x y)))) (HS (Zv ty25 p ty29 s ty2 a_2 ty35 ty22 a_3)∧∃(I:Int × Unit→
 Unit→Prop),∃(μ:Int × Unit→Unit→Nat),I (0,()) ()∧∀(x:Int × Unit)(y:Unit),I x y→∃(h:True),∀ a_9,a_9=decide (x.1<(Z1b a.1).1)→Br a_9 (∃(h:(0
 : Int)≤x.1∧x.1<(↑a_2.1.1.length:Int)),∀ a,a=decide (a_2.1.1.getD ((0:Nat)+x.1.toNat) (0:Int) > (0:Int))→Br a (∃(h:(0:Int)≤x.1∧x.1 <
 (↑a_3.1.2.2.2.1.length:Int)),∀ a,a=fcmp Go.BinOp.gtr (f64.format.order (a_3.1.2.2.2.1.getD ((0:Nat)+x.1.toNat) (0:Nat)) (0:Nat))→Br (!a) (post
 (false,())) (∃(h:(0:Int)≤x.1∧x.1<(↑a_2.1.1.length:Int)),∀ a,a=decide (a_2.1.1.getD ((0:Nat)+x.1.toNat) (0:Int)<(0:Int))→Br a (∃(h:(0:Int)≤
 x.1∧x.1<(↑a_3.1.2.2.2.1.length:Int)),∀ a,a=fcmp Go.BinOp.lss (f64.format.order (a_3.1.2.2.2.1.getD ((0:Nat)+x.1.toNat) (0:Nat)) (0:Nat))→Br (!a)
 (post (false,())) (HS (Zv ty25 p ty29 s ty2 a_2 ty35 ty22 a_3)∧I (i64.wrap (x.1+1),()) ()∧μ (i64.wrap (x.1+1),()) ()<μ x y)) (HS
 (Zv ty25 p ty29 s ty2 a_2 ty35 ty22 a_3)∧I (i64.wrap (x.1+1),()) ()∧μ (i64.wrap (x.1+1),()) ()<μ x y))) (∃(h:(0:Int)≤x.1∧x.1
 < (↑a_2.1.1.length:Int)),∀ a,a=decide (a_2.1.1.getD ((0:Nat)+x.1.toNat) (0:Int)<(0:Int))→Br a (∃(h:(0:Int)≤x.1∧x.1<(↑a_3.1.2.2.2.1.length:Int)),∀
 a,a=fcmp Go.BinOp.lss (f64.format.order (a_3.1.2.2.2.1.getD ((0:Nat)+x.1.toNat) (0:Nat)) (0:Nat))→Br (!a) (post (false,())) (HS
 (Zv ty25 p ty29 s ty2 a_2 ty35 ty22 a_3)∧I (i64.wrap (x.1+1),()) ()∧μ (i64.wrap (x.1+1),()) ()<μ x y)) (HS (Zv ty25 p
 ty29 s ty2 a_2 ty35 ty22 a_3)∧I (i64.wrap (x.1+1),()) ()∧μ (i64.wrap (x.1+1),()) ()<μ x y))) (post (true,())))))))))
theorem Zsv(ty0 ty1 ty2 ty3 ty4:Nat)(p:YP)(s:YS)(h:Zsj p s):Zeg ty0 ty1 ty2 ty3 ty4 p s (fun r=>r=Z1ra p s):=by
 obtain⟨hP,hS⟩:=h
 refine⟨trivial,fun a ha=>?_⟩
 have ha:a=(true,()):=ha
 subst ha
 rintro _ rfl
 refine Br.intro (fun e=>absurd e (by first | decide | simp)) fun _=>?_
 refine⟨⟨hP,hS⟩,fun a ha=>?_⟩
 have ha:a=Z6h p s:=ha
 rcases Z1t0 p s with q | ⟨hp,C⟩
 ·rw[Z1sz q]at ha
  subst ha
  exact brY rfl rfl
 have hG:NetP (some (netG p.1)):=.inr ⟨p.1,C.good,rfl⟩
 rw[Z1sy rfl hp C]at ha
 subst ha
 refine brN rfl ?_
 have S:=Zvj rfl hp C
 obtain⟨k0,k3⟩:=Z1iq (Zo7 hp).2.2.2
 have cr:=Z37 p.1
 have A:=Z75 p.1
 have l1:=Zo6 A S.gone
 have l2:=Zo6 A S.gone2
 have M2:=Z6p (n:=p.1)
 have ws:=S.wsum
 have ts:=S.tsum
 have sky:=C.sky
 obtain⟨K,sp⟩:=Z1oc rfl hp C
 refine⟨⟨hG,hP,hS⟩,fun a ha=>?_⟩
 have ha:a=_:=ha.trans (Z1sx rfl hp C)
 subst ha
 refine⟨⟨hG,hP,hS⟩,fun a ha=>?_⟩
 have ha:a=_:=ha.trans (Z1sw rfl hp C)
 subst ha
 rintro _ rfl
 refine brN rfl ?_
 rintro _ rfl
 refine brN rfl ?_
 refine⟨trivial,?_⟩
 rintro _ rfl
 refine brN (by show(((Zi (some (netG p.1)) p s).length:Int) != (((netE p.1).1.length:Nat):Int))=false; rw[l1]; exact bne_self_eq_false _) ?_
 refine⟨trivial,?_⟩
 rintro _ rfl
 refine brN (by show(((Z20 (some (netG p.1)) p s).length:Int) != (((netE p.1).1.length:Nat):Int))=false; rw[l2]; exact bne_self_eq_false _) ?_
 have nc:(Z1u (some (netG p.1))).1=Z2 p.1:=Z1w p.1
 have ne:(Z1b (some (netG p.1))).1=2*Z2 p.1:=Z70 p.1
 rw[nc,ne]
 refine⟨rfl,fun x _=>0≤x.1∧x.1≤Z2 p.1,fun x _=>(Z2 p.1 - x.1).toNat,⟨Int.le_refl 0,cr.1⟩,?_⟩
 rintro⟨c,⟨⟩⟩ ⟨⟩ ⟨c0,c1⟩
 have c0:0≤c:=c0
 have c1:c≤Z2 p.1:=c1
 refine⟨trivial,?_⟩
 rintro _ rfl
 refine Br.intro (fun e=>?_) fun e=>?_
 ·have e:c<Z2 p.1:=of_decide_eq_true e
  obtain⟨c',rfl⟩:=Int.eq_ofNat_of_zero_le c0
  have hpl:Ze p.1 (c':Int)=true:=Z3t e
  have b1:s.2.1.getD c' 0≤s.2.1.sum:=Zgn ws.1 _ (Zw (by have:=C.wat; omega) 0)
  have b2:s.2.2.1.getD c' 0≤s.2.2.1.sum:=Zgn ts.1 _ (Zw (by have:=C.tra; omega) 0)
  have g1:=S.gone.most c' e
  have g2:=S.gone2.most c' e
  have bx:=Z1ir (X:=Zz (Za (some (netG p.1))) (Zi (some (netG p.1)) p s) c') (Y:=Zz (Za (some (netG p.1))) (Z20 (some (netG p.1)) p s) c') (S.gone.four c' e) (S.gone2.four c' e)
   (fun o ho=>⟨(S.gone.nn c' e o ho).1,(Z5w A S.gone hpl ho).1⟩) (fun o ho=>⟨(S.gone2.nn c' e o ho).1,(Z5w A S.gone2 hpl ho).1,(Z18j S hpl ho).1⟩)
  have q1:=(Zcd (S.gone.four c' e) fun o ho=>(S.gone.nn c' e o ho).1).1
  have q2:=(Zcd (S.gone2.four c' e) fun o ho=>(S.gone2.nn c' e o ho).1).1
  refine⟨rfl,fun x _=>∃ k:Nat,x.2.2.1=k∧k≤4∧(x.1,x.2.1)=accP (Zz (Za (some (netG p.1))) (Zi (some (netG p.1)) p s) c') (Zz (Za (some (netG p.1))) (Z20 (some (netG p.1)) p s) c') k,fun x _=>(4 - x.2.2.1).toNat,⟨0,rfl,by omega,rfl⟩,?_⟩
  rintro⟨a,b,_,⟨⟩⟩ ⟨⟩ ⟨k,rfl,k4,hab⟩
  have hab:(a,b)=_:=hab
  rintro _ rfl
  dsimp only
  refine Br.intro (fun e2=>?_) fun e2=>?_
  ·have e2:k<4:=by have:=of_decide_eq_true e2; omega
   have ok:=Zc.2 ⟨hpl,show(0:Int)≤(k:Int) by omega,show(k:Int)<4 by omega⟩
   obtain⟨j,hj,h1,_⟩:=A.side _ _ ok
   have r1:0≤(Za (some (netG p.1)) c' k).1∧(Za (some (netG p.1)) c' k).1<((Zi (some (netG p.1)) p s).length:Int):=by rw[h1,l1]; dsimp only; omega
   have r2:0≤(Za (some (netG p.1)) c' k).1∧(Za (some (netG p.1)) c' k).1<((Z20 (some (netG p.1)) p s).length:Int):=by rw[h1,l2]; dsimp only; omega
   refine⟨⟨hG,⟨by omega,by omega⟩,⟨by omega,by omega⟩⟩,fun a ha=>?_⟩
   have ha:a=((Za (some (netG p.1)) c' k).1,(Za (some (netG p.1)) c' k).2,()):=ha
   subst ha
   refine⟨r1,r2,?_⟩
   have sx:=Z5w A S.gone hpl e2
   have sy:=Z5w A S.gone2 hpl e2
   obtain⟨z1,z2,z3⟩:=Z18j S hpl e2
   obtain⟨⟨u1,u2⟩,u3,u4⟩:=bx k k4
   obtain⟨⟨v1,v2⟩,v3,v4⟩:=bx (k+1) e2
   have w1:=(q1 k (by omega)).2
   have w2:=(q2 k (by omega)).2
   have w3:=(q1 (k+1) (by omega)).2
   have w4:=(q2 (k+1) (by omega)).2
   have fx:∀ i:Nat,-4503599627370496≤(Zi (some (netG p.1)) p s).getD i 0∧(Zi (some (netG p.1)) p s).getD i 0≤4503599627370496:=fun i=>Zy2 S.watF i
   have xb:-4503599627370496≤Zz (Za (some (netG p.1))) (Zi (some (netG p.1)) p s) c' k∧Zz (Za (some (netG p.1))) (Zi (some (netG p.1)) p s) c' k≤4503599627370496:=by
    have:=fx (j:Int).toNat
    unfold Zz; rw[h1]; dsimp only
    rcases Ze8 p.1 c' k with r | r <;> rw[r] <;> omega
   have yb:-9223372036854775808≤Zz (Za (some (netG p.1))) (Z20 (some (netG p.1)) p s) c' k∧Zz (Za (some (netG p.1))) (Z20 (some (netG p.1)) p s) c' k<9223372036854775808:=by
    obtain⟨d1,d2,d3,d4,d5⟩:=Z1l ok
    have dc:=Z15 d1
    have t1:=(Zcd (S.gone2.four c' e) fun o ho=>(S.gone2.nn c' e o ho).1).2.2 k e2
    have t2:=(Zcd (S.gone2.four (Z1 p.1 c' k).1.toNat (by omega)) fun o ho=>(S.gone2.nn (Z1 p.1 c' k).1.toNat (by omega) o ho).1).2.2 (Z1 p.1 c' k).2.toNat (by omega)
    have t3:=S.gone2.most (Z1 p.1 c' k).1.toNat (by omega)
    have t4:s.2.2.1.getD (Z1 p.1 c' k).1.toNat 0≤s.2.2.1.sum:=Zgn ts.1 _ (Zw (by have:=C.tra; omega) 0)
    omega
   have ex:i64.wrap ((Zi (some (netG p.1)) p s).getD (0+(Za (some (netG p.1)) c' k).1.toNat) 0*(Za (some (netG p.1)) c' k).2)=Zz (Za (some (netG p.1))) (Zi (some (netG p.1)) p s) c' k:=by
    rw[Nat.zero_add]; exact Zq (by have:=xb.1; unfold Zz at this; omega) (by have:=xb.2; unfold Zz at this; omega)
   have ey:i64.wrap ((Z20 (some (netG p.1)) p s).getD (0+(Za (some (netG p.1)) c' k).1.toNat) 0*(Za (some (netG p.1)) c' k).2)=Zz (Za (some (netG p.1))) (Z20 (some (netG p.1)) p s) c' k:=by
    rw[Nat.zero_add]; exact Zq yb.1 yb.2
   dsimp only
   simp only[Z11j,ex,ey]
   have wk:i64.wrap ((k:Int)+1)=((k+1:Nat):Int):=Z12 e2 (by omega)
   rw[wk]
   have acc1:accP (Zz (Za (some (netG p.1))) (Zi (some (netG p.1)) p s) c') (Zz (Za (some (netG p.1))) (Z20 (some (netG p.1)) p s) c') (k+1)=if 0<Zz (Za (some (netG p.1))) (Zi (some (netG p.1)) p s) c' k then((accP (Zz (Za (some (netG p.1))) (Zi (some (netG p.1)) p s) c') (Zz (Za (some (netG p.1))) (Z20 (some (netG p.1)) p s) c') k).1+Zz (Za (some (netG p.1))) (Zi (some (netG p.1)) p s) c' k,(accP (Zz (Za (some (netG p.1))) (Zi (some (netG p.1)) p s) c') (Zz (Za (some (netG p.1))) (Z20 (some (netG p.1)) p s) c') k).2+Zz (Za (some (netG p.1))) (Z20 (some (netG p.1)) p s) c' k)else accP (Zz (Za (some (netG p.1))) (Zi (some (netG p.1)) p s) c') (Zz (Za (some (netG p.1))) (Z20 (some (netG p.1)) p s) c') k:=rfl
   generalize hQ:accP (Zz (Za (some (netG p.1))) (Zi (some (netG p.1)) p s) c') (Zz (Za (some (netG p.1))) (Z20 (some (netG p.1)) p s) c') (k+1)=Q at *
   generalize accP (Zz (Za (some (netG p.1))) (Zi (some (netG p.1)) p s) c') (Zz (Za (some (netG p.1))) (Z20 (some (netG p.1)) p s) c') k=P at *
   generalize hX:Zz (Za (some (netG p.1))) (Zi (some (netG p.1)) p s) c' k=X at *
   generalize hY:Zz (Za (some (netG p.1))) (Z20 (some (netG p.1)) p s) c' k=Y at *
   subst hab
   refine⟨fun x _=>(x.1,x.2.1)=Q,?_,?_⟩
   ·rintro _ rfl
    refine Br.intro (fun q=>⟨rfl,?_⟩) fun q=>⟨rfl,?_⟩
    ·have q:0<X:=of_decide_eq_true q
     rw[if_pos q]at acc1
     show(i64.wrap (a+X),i64.wrap (b+Y))=Q
     rw[acc1]at v1 v2 v3 v4 ⊢
     dsimp only at *
     rw[Zq (by omega) (by omega),Zq (by omega) (by omega)]
    ·have q:¬ 0<X:=of_decide_eq_false q
     rw[if_neg q]at acc1
     exact acc1.symm
   rintro⟨a',b',⟨⟩⟩ ⟨⟩ hab
   have next:(∃ k2:Nat,((k+1:Nat):Int)=k2∧k2≤4∧(a',b')=accP (Zz (Za (some (netG p.1))) (Zi (some (netG p.1)) p s) c') (Zz (Za (some (netG p.1))) (Z20 (some (netG p.1)) p s) c') k2)∧(4 - ((k+1:Nat):Int)).toNat<(4 - (k:Int)).toNat:=⟨⟨k+1,rfl,e2,by rw[hQ]; exact hab⟩,by omega⟩
   rintro _ rfl
   refine Br.intro (fun h1=>?_) fun h1=>?_
   ·have h1:0<X:=of_decide_eq_true h1
    rintro _ rfl
    refine Br.intro (fun h2=>absurd (of_decide_eq_true h2) (by have:=z1 h1; omega)) fun _=>?_
    rintro _ rfl
    refine Br.intro (fun h3=>absurd (of_decide_eq_true h3) (by omega)) fun _=>?_
    rintro _ rfl
    refine Br.intro (fun h3=>absurd (beq_iff_eq.1 h3) (by omega)) fun _=>⟨rfl,next⟩
   ·rintro _ rfl
    refine Br.intro (fun h2=>?_) fun h2=>?_
    ·have h2:X<0:=of_decide_eq_true h2
     rintro _ rfl
     refine Br.intro (fun h3=>absurd (of_decide_eq_true h3) (by have:=z2 h2; omega)) fun _=>?_
     rintro _ rfl
     refine Br.intro (fun h3=>absurd (beq_iff_eq.1 h3) (by omega)) fun _=>⟨rfl,next⟩
    ·rintro _ rfl
     refine Br.intro (fun h3=>?_) fun _=>⟨rfl,next⟩
     have h3:=beq_iff_eq.1 h3
     rintro _ rfl
     refine Br.intro (fun h4=>absurd (z3 h3) (by simpa using h4)) fun _=>⟨rfl,next⟩
  ·have e2:k=4:=by have:=of_decide_eq_false e2; omega
   subst e2
   obtain⟨⟨u1,u2⟩,u3,u4⟩:=bx 4 (by decide)
   rw[← hab]at u1 u2 u3 u4
   have cc:i64.wrap ((c':Int)+1)=(c':Int)+1:=Zq (by omega) (by omega)
   refine⟨⟨by omega,by have:=C.wat; omega⟩,?_⟩
   rintro _ rfl
   refine Br.intro (fun h=>absurd (of_decide_eq_true h) (by rw[Int.toNat_natCast]; dsimp only at u2; omega)) fun _=>?_
   refine⟨⟨by omega,by have:=C.tra; omega⟩,?_⟩
   rintro _ rfl
   refine Br.intro (fun h=>absurd (of_decide_eq_true h) (by rw[Int.toNat_natCast]; dsimp only at u4; omega)) fun _=>?_
   refine⟨rfl,?_,?_⟩
   ·show 0≤i64.wrap ((c':Int)+1)∧i64.wrap ((c':Int)+1)≤Z2 p.1
    rw[cc]; omega
   ·show(Z2 p.1 - i64.wrap ((c':Int)+1)).toNat<(Z2 p.1 - (c':Int)).toNat
    rw[cc]; omega
 ·refine⟨rfl,fun x _=>0≤x.1∧x.1≤2*Z2 p.1,fun x _=>(2*Z2 p.1 - x.1).toNat,⟨Int.le_refl 0,by omega⟩,?_⟩
  rintro⟨i,⟨⟩⟩ ⟨⟩ ⟨i0,i1⟩
  have i0:0≤i:=i0
  have i1:i≤2*Z2 p.1:=i1
  refine⟨trivial,?_⟩
  rintro _ rfl
  refine Br.intro (fun e=>?_) fun _=>rfl
  have e:i<2*Z2 p.1:=of_decide_eq_true e
  have ci:i64.wrap (i+1)=i+1:=Zq (by omega) (by omega)
  have next:(0≤i64.wrap (i+1)∧i64.wrap (i+1)≤2*Z2 p.1)∧(2*Z2 p.1 - i64.wrap (i+1)).toNat<(2*Z2 p.1 - i).toNat:=by rw[ci]; omega
  have r1:0≤i∧i<((Zi (some (netG p.1)) p s).length:Int):=by omega
  have r2:0≤i∧i<((Zg5 (some (netG p.1)) p s).2.2.2.1.length:Int):=by rw[sp,S.spd.1]; omega
  obtain⟨z1,z2⟩:=Z1og hp S C (k:=i.toNat) (by omega)
  refine⟨r1,?_⟩
  rintro _ rfl
  refine Br.intro (fun h=>⟨r2,?_⟩) fun _=>?_
  ·have h:=of_decide_eq_true h
   have h:0<(Zi (some (netG p.1)) p s).getD (0+i.toNat) 0:=h
   rw[Nat.zero_add]at h
   rintro _ rfl
   refine brN (by rw[sp,Nat.zero_add]; have:=z1 h; unfold gtS at this; show(!fcmp .gtr (Ieee.double.order _ 0))=false; rw[this]; rfl) ?_
   refine⟨r1,?_⟩
   rintro _ rfl
   refine Br.intro (fun h2=>absurd (of_decide_eq_true h2) (by show ¬ (Zi (some (netG p.1)) p s).getD (0+i.toNat) 0<0; rw[Nat.zero_add]; omega)) fun _=>⟨rfl,next⟩
  ·refine⟨r1,?_⟩
   rintro _ rfl
   refine Br.intro (fun h=>⟨r2,?_⟩) fun _=>⟨rfl,next⟩
   have h:=of_decide_eq_true h
   have h:(Zi (some (netG p.1)) p s).getD (0+i.toNat) 0<0:=h
   rw[Nat.zero_add]at h
   rintro _ rfl
   exact brN (by rw[sp,Nat.zero_add]; have:=z2 h; unfold ltS at this; show(!fcmp .lss (Ieee.double.order _ 0))=false; rw[this]; rfl) ⟨rfl,next⟩
end Go.Lift

namespace Go.Lift
def Zo9:SeaT:=([0,0,0,0,0,0],[1431655765,1431655765,1431655765,1431655765,1431655765,1431655765],[0,0,0,0,0,0],[0,0,0,0,0,0,0,0,0,0,0,0],0,0)
def Z1rc:SeaT:=([0,0,0,0,0,0],[1431655765,1431655765,1431655765,1431655765,1431655765,1431655765],[0,0,0,0,0,0],[0,0,0,0,0,0,0,0,0,0,0,0],0,1)
def Zvk:SeaT:=([0,0,0,0,0,0],[2863311530,1431655765,1431655765,1431655765,1431655765,1431655765],[0,0,0,0,0,0],[0,0,0,0,0,0,0,0,0,0,0,0],0,0)
def Z1rd:SeaT:=([0,0,0,0,0,0],[1109898474,1870009029,1431655765,1870009029,1870009029,1870009029],[0,0,0,0,0,0],[4600040671590431692,4600040671590431692,4600040671590431692,4600040671590431692,0,0,0,0,0,0,0,0],0,1)
theorem Z1oh:Z8n (some (netG 1)) Zb3 Zo9=(Z1rc,0,()):=by kernel_rfl
theorem Z1oi:Z79 (some (netG 1)) Zb3 Zo9=(([0,0,0,0,0,0,0,0,0,0,0,0],[0,0,0,0,0,0,0,0,0,0,0,0]),0,()):=by kernel_rfl
theorem Z1oj:Z8n (some (netG 1)) Zb3 Zvk=(Z1rd,0,()):=by kernel_rfl
end Go.Lift

namespace Go.Lift
theorem Z1t3:(List.range 6).map (fun k:Nat=>Z1a 1 k)=List.replicate 6 1431655765:=by kernel_rfl
theorem Z1u5 {k:Nat}(h:k<6):(Z18 (some (netG 1)) (k:Int)).1=1431655765:=by
 have e:(Z18 (some (netG 1)) (k:Int)).1=Z1a 1 k:=Z81 (n:=1) (by omega) (by have:Z2 1=6:=rfl; omega)
 rw[e]
 have q:=congrArg (fun l=>l[k]?) Z1t3
 have q:((List.range 6).map (fun k:Nat=>Z1a 1 k))[k]?=(List.replicate 6 (1431655765:Int))[k]?:=q
 rw[List.getElem?_map,List.getElem?_range h,List.getElem?_replicate,if_pos h]at q
 exact Option.some.inj q
theorem Z1ok:NetP (some (netG 1)):=.inr ⟨1,rfl,rfl⟩
theorem Z1ol:Z5u (some (netG 1)) Zb3 Zo9:=
 ⟨Z1ok,⟨⟨by decide,by decide⟩,⟨by unfold W64; decide,by unfold W64; decide,by unfold W64; decide⟩,by decide,by decide⟩,fun x hx=>by simp[Zo9]at hx; subst hx; unfold W64; decide,fun x hx=>by simp[Zo9]at hx; subst hx; exact⟨by decide,by decide⟩,fun x hx=>by simp[Zo9]at hx; subst hx; exact⟨by decide,by decide⟩,fun x hx=>by simp[Zo9]at hx; subst hx; unfold W64; decide,⟨by decide,by decide⟩,by decide,by decide⟩
theorem Z1tv:Z5u (some (netG 1)) Zb3 Zvk:=
 ⟨Z1ok,⟨⟨by decide,by decide⟩,⟨by unfold W64; decide,by unfold W64; decide,by unfold W64; decide⟩,by decide,by decide⟩,fun x hx=>by simp[Zvk]at hx; subst hx; unfold W64; decide,fun x hx=>by simp[Zvk]at hx; rcases hx with rfl | rfl <;> exact⟨by decide,by decide⟩,fun x hx=>by simp[Zvk]at hx; subst hx; exact⟨by decide,by decide⟩,fun x hx=>by simp[Zvk]at hx; subst hx; unfold W64; decide,⟨by decide,by decide⟩,by decide,by decide⟩
end Go.Lift

namespace Go.Lift
def Z7h(ty29:Nat):HObj:=HObj.box Md.rw ty29 [SV.val (Go.Value.slice none (0:Nat) (0:Nat)),SV.val (Go.Value.slice none (0:Nat) (0:Nat)),
 SV.val (Go.Value.slice none (0:Nat) (0:Nat)),SV.val (Go.Value.slice none (0:Nat) (0:Nat)),SV.val (Go.Value.int i64 (0:Int)),SV.val (Go.Value.int
 i64 (0:Int))]
def Z7i(ty22:Nat):HObj:=HObj.row Md.rw ty22 (K.flt f64) (List.replicate (Int.toNat (6:Int)) (0:Nat))
def Z4g(ty2:Nat):HObj:=HObj.row Md.rw ty2 (K.int i64) (List.replicate (Int.toNat (6:Int)) (0:Int))
def Z7j(ty22:Nat):HObj:=HObj.row Md.rw ty22 (K.flt f64) (List.replicate (Int.toNat (12:Int)) (0:Nat))
def Z7k(ty29:Nat):HObj:=HObj.box Md.rw ty29 [SV.osl (2:Nat) (0:Nat) (6:Nat),SV.osl (3:Nat) (0:Nat) (6:Nat),SV.osl (4:Nat) (0:Nat) (6:Nat),
 SV.osl (5:Nat) (0:Nat) (12:Nat),SV.val (Go.Value.int i64 (0:Int)),SV.val (Go.Value.int i64 (0:Int))]
def Zjb(ty2:Nat)(y:List Int × Unit)(x:Int × Unit):HObj:=HObj.row Md.rw ty2 (K.int i64) (y.fst.set ((0:Nat)+x.fst.toNat) (Z18 (newR (1:
 Int)).fst x.fst).fst)
def Zcf:=fun(ty29 ty22 ty2:Nat)(post:Bool × Unit→Prop)=>∃(h:I64 (1:Int)),∀(a:Bool),a=((newR (1:Int)).snd.fst != (0:Int))→Br a (post
 (false,())) (∃(h:(0:Int)≤(6:Int)∧(6:Int)≤(6:Int)∧(6:Int)*(↑(8:Nat):Int)≤(281474976710656:Int)),∃(h:(0:Int)≤(6:Int)∧(6:Int)≤(6
 : Int)∧(6:Int)*(↑(8:Nat):Int)≤(281474976710656:Int)),∃(h:(0:Int)≤(6:Int)∧(6:Int)≤(6:Int)∧(6:Int)*(↑(8:Nat):Int)≤(281474976710656:
 Int)),∃(h:(0:Int)≤(12:Int)∧(12:Int)≤(12:Int)∧(12:Int)*(↑(8:Nat):Int)≤(281474976710656:Int)),HIs [HObj.pend,Z7h ty29,Z7i
 ty22,Z4g ty2,Z4g ty2,Z7j ty22,Z7k ty29] [HObj.pend,Z7h ty29,Z7i ty22,Z4g ty2,
 Z4g ty2,Z7j ty22,Z7k ty29]∧∃(I:Int × Unit→List Int × Unit→Prop),∃(μ:Int × Unit→List Int × Unit→Nat),I ((0:Int),())
 (List.replicate (Int.toNat (6:Int)) (0:Int),())∧∀(x:Int × Unit)(y:List Int × Unit),I x y→∀(a:Bool),a=decide (x.fst<(6:Int))→Br a (∃(h:True),∃(h:
 (0:Int)≤x.fst∧x.fst<(↑(Int.toNat (6:Int)):Int)),HIs [HObj.pend,Z7h ty29,Z7i ty22,Zjb ty2 y x,Z4g ty2,
 Z7j ty22,Z7k ty29] [HObj.pend,Z7h ty29,Z7i ty22,Zjb ty2 y x,Z4g ty2,Z7j ty22,
 Z7k ty29]∧I (i64.wrap (x.fst+(1:Int)),()) (y.fst.set ((0:Nat)+x.fst.toNat) (Z18 (newR (1:Int)).fst x.fst).fst,())∧μ (i64.wrap (x.fst
 + (1:Int)),()) (y.fst.set ((0:Nat)+x.fst.toNat) (Z18 (newR (1:Int)).fst x.fst).fst,())<μ x y) (∃(h:(0:Int)≤(0:Int)∧(0:Int)<(↑(Int.toNat (6:Int)):
 Int)),∀(a:Bool),a=(y.fst.getD ((0:Nat)+Int.toNat (0:Int)) (0:Int) != (1431655765:Int))→Br a (post (false,())) (∃(h:True),∀(a:(Int × Nat × Nat × Nat
 × Int × Bool × List (Int × Int × Int × Int)) × Unit),a=Zsk→∃(h:Z5u (newR (1:Int)).fst a.fst ([(0:Nat),(0:Nat),(0:Nat),(0:Nat),(0:Nat),(0:Nat)],
 List.take (Int.toNat (6:Int)) (List.drop (0:Nat) y.fst),[(0:Int),(0:Int),(0:Int),(0:Int),(0:Int),(0:Int)],[(0:Nat),(0:Nat),(0:Nat),(0:Nat),(0:
 Nat),(0:Nat),(0:Nat),(0:Nat),(0:Nat),(0:Nat),(0:Nat),(0:Nat)],(0:Int),(0:Int))),∀(a_1:(List Nat × List Int × List Int × List Nat × Int × Int) × Int
 × Unit),a_1=Z8n (newR (1:Int)).fst a.fst ([(0:Nat),(0:Nat),(0:Nat),(0:Nat),(0:Nat),(0:Nat)],List.take (Int.toNat (6:Int)) (List.drop (0:Nat) y.fst),
 [(0:Int),(0:Int),(0:Int),(0:Int),(0:Int),(0:Int)],[(0:Nat),(0:Nat),(0:Nat),(0:Nat),(0:Nat),(0:Nat),(0:Nat),(0:Nat),(0:Nat),(0:Nat),
 (0:Nat),(0:Nat)],(0:Int),(0:Int))→∃(h:True),∀(a:(Int × Nat × Nat × Nat × Int × Bool × List (Int × Int × Int × Int)) × Unit),a=Zsk→∃(h:Z5u (newR (1
 : Int)).fst a.fst ([(0:Nat),(0:Nat),(0:Nat),(0:Nat),(0:Nat),(0:Nat)],List.take (Int.toNat (6:Int)) (List.drop (0:Nat) y.fst),[(0:Int),(0:Int),(0:
 Int),(0:Int),(0:Int),(0:Int)],[(0:Nat),(0:Nat),(0:Nat),(0:Nat),(0:Nat),(0:Nat),(0:Nat),(0:Nat),(0:Nat),(0:Nat),(0:Nat),(0:Nat)],(0:
 Int),(0:Int))),∀(a_2:(List Int × List Int) × Int × Unit),a_2=Z79 (newR (1:Int)).fst a.fst ([(0:Nat),(0:Nat),(0:Nat),(0:Nat),(0:Nat),(0:Nat)],
 List.take (Int.toNat (6:Int)) (List.drop (0:Nat) y.fst),[(0:Int),(0:Int),(0:Int),(0:Int),(0:Int),(0:Int)],[(0:Nat),(0:Nat),(0:Nat),(0:Nat),(0:
 Nat),(0:Nat),(0:Nat),(0:Nat),(0:Nat),(0:Nat),(0:Nat),(0:Nat)],(0:Int),(0:Int))→∀(a:Bool),a=(a_1.snd.fst != (0:Int))→Br a (post (false,
 ())) (∀(a:Bool),a=(a_2.snd.fst != (0:Int))→Br a (post (false,())) (∃(h:True),∀(a:Bool × Unit),a=Zv1 (List.take a_1.fst.fst.length (List.drop (0:Nat)
 a_1.fst.fst),List.take a_1.fst.snd.fst.length (List.drop (0:Nat) a_1.fst.snd.fst),List.take a_1.fst.snd.snd.fst.length (List.drop (0:Nat) a_1.fst.snd.snd.fst),List.take
 a_1.fst.snd.snd.snd.fst.length (List.drop (0:Nat) a_1.fst.snd.snd.snd.fst),a_1.fst.snd.snd.snd.snd.fst,a_1.fst.snd.snd.snd.snd.snd) ([(0:Nat),(0:Nat),(0:Nat),(0:
 Nat),(0:Nat),(0:Nat)],List.take (Int.toNat (6:Int)) (List.drop (0:Nat) y.fst),[(0:Int),(0:Int),(0:Int),(0:Int),(0:Int),(0:Int)],[(0:Nat),(0:
 Nat),(0:Nat),(0:Nat),(0:Nat),(0:Nat),(0:Nat),(0:Nat),(0:Nat),(0:Nat),(0:Nat),(0:Nat)],(0:Int),(1:Int))→∀(a_3:Bool),a_3=a.fst→Br
 (!a_3) (post (false,())) (∃(h:(0:Int)≤(12:Int)∧(12:Int)≤(12:Int)∧(12:Int)*(↑(8:Nat):Int)≤(281474976710656:Int)),∃(h:True),∀(a:Bool ×
 Unit),a=Z10x (List.take a_2.fst.fst.length (List.drop (0:Nat) a_2.fst.fst)) [(0:Int),(0:Int),(0:Int),(0:Int),(0:Int),(0:Int),(0:Int),(0:Int),(0:
 Int),(0:Int),(0:Int),(0:Int)]→∀(a_4:Bool),a_4=a.fst→Br (!a_4) (post (false,())) (∃(h:(0:Int)≤(0:Int)∧(0:Int)<(↑(Int.toNat (6:Int)):
 Int)),∃(h:(0:Int)≤(0:Int)∧(0:Int)<(↑(Int.toNat (6:Int)):Int)),∃(h:True),∀(a:(Int × Nat × Nat × Nat × Int × Bool × List (Int × Int × Int × Int)) ×
 Unit),a=Zsk→∃(h:Z5u (newR (1:Int)).fst a.fst ([(0:Nat),(0:Nat),(0:Nat),(0:Nat),(0:Nat),(0:Nat)],List.take (Int.toNat (6:Int)) (List.drop (0:
 Nat) (y.fst.set ((0:Nat)+Int.toNat (0:Int)) (i64.wrap ((2:Int)*y.fst.getD ((0:Nat)+Int.toNat (0:Int)) (0:Int))))),[(0:Int),(0:Int),(0:Int),(0:
 Int),(0:Int),(0:Int)],[(0:Nat),(0:Nat),(0:Nat),(0:Nat),(0:Nat),(0:Nat),(0:Nat),(0:Nat),(0:Nat),(0:Nat),(0:Nat),(0:Nat)],(0:Int),(0:
 Int))),∀(a_5:(List Nat × List Int × List Int × List Nat × Int × Int) × Int × Unit),a_5=Z8n (newR (1:Int)).fst a.fst ([(0:Nat),(0:Nat),(0:Nat),(0:Nat),(0:
 Nat),(0:Nat)],List.take (Int.toNat (6:Int)) (List.drop (0:Nat) (y.fst.set ((0:Nat)+Int.toNat (0:Int)) (i64.wrap ((2:Int)*y.fst.getD ((0:Nat)+
 Int.toNat (0:Int)) (0:Int))))),[(0:Int),(0:Int),(0:Int),(0:Int),(0:Int),(0:Int)],[(0:Nat),(0:Nat),(0:Nat),(0:Nat),(0:Nat),(0:Nat),(0:
 Nat),(0:Nat),(0:Nat),(0:Nat),(0:Nat),(0:Nat)],(0:Int),(0:Int))→∀(a:Bool),a=(a_5.snd.fst==(0:Int))→Br a (∀(a:Bool),a=
 ((↑a_5.fst.snd.fst.length:Int)==(6:Int))→Br a (∃(h:(0:Int)≤(1:Int)∧(1:Int)<(↑a_5.fst.snd.fst.length:Int)),∃(h:(0:Int)≤(3:Int)∧(3:Int) <
 (↑a_5.fst.snd.fst.length:Int)),∀(a:Bool),a=(a_5.fst.snd.fst.getD ((0:Nat)+Int.toNat (1:Int)) (0:Int)==a_5.fst.snd.fst.getD ((0:Nat)+Int.toNat (3:Int)) (0
 : Int))→Br a (∃(h:(0:Int)≤(1:Int)∧(1:Int)<(↑a_5.fst.snd.fst.length:Int)),∃(h:(0:Int)≤(1:Int)∧(1:Int)<(↑(Int.toNat (6:Int)):Int)),∀(a:
 Bool),a=decide (a_5.fst.snd.fst.getD ((0:Nat)+Int.toNat (1:Int)) (0:Int) > (y.fst.set ((0:Nat)+Int.toNat (0:Int)) (i64.wrap ((2:Int)*y.fst.getD ((0:
 Nat)+Int.toNat (0:Int)) (0:Int)))).getD ((0:Nat)+Int.toNat (1:Int)) (0:Int))→Br a (∃(h:(0:Int)≤(2:Int)∧(2:Int)<(↑a_5.fst.snd.fst.length:Int)),∃
 (h:(0:Int)≤(2:Int)∧(2:Int)<(↑(Int.toNat (6:Int)):Int)),∀(a:Bool),a=(a_5.fst.snd.fst.getD ((0:Nat)+Int.toNat (2:Int)) (0:Int)==(y.fst.set ((0:
 Nat)+Int.toNat (0:Int)) (i64.wrap ((2:Int)*y.fst.getD ((0:Nat)+Int.toNat (0:Int)) (0:Int)))).getD ((0:Nat)+Int.toNat (2:Int)) (0:Int))→Br a (∃(h
 : (0:Int)≤(0:Int)∧(0:Int)<(↑a_5.fst.snd.snd.snd.fst.length:Int)),∀(a:Bool),a=fcmp Go.BinOp.gtr (f64.format.order (a_5.fst.snd.snd.snd.fst.getD
 ((0:Nat)+Int.toNat (0:Int)) (0:Nat)) (0:Nat))→Br a (∃(h:(0:Int)≤(0:Int)∧(0:Int)<(↑a_5.fst.snd.snd.snd.fst.length:Int)),∃(h:(0:Int)≤(3:Int)∧
 (3:Int)<(↑a_5.fst.snd.snd.snd.fst.length:Int)),∃(h:True),∀(a:Bool),a=(Z1bp (a_5.fst.snd.snd.snd.fst.getD ((0:Nat)+Int.toNat (0:Int)) (0:Nat))
 (a_5.fst.snd.snd.snd.fst.getD ((0:Nat)+Int.toNat (3:Int)) (0:Nat))).fst→post (a,())) (post (false,()))) (post (false,()))) (post (false,()))) (post
 (false,()))) (post (false,()))) (post (false,())))))))))
theorem Z159(ty0 ty1 ty2:Nat)  : Zcf ty0 ty1 ty2  (fun r=>r=yesR):=by
 delta Zcf
 dsimp only
 rw[new1]
 dsimp only
 refine⟨⟨by decide,by decide⟩,?_⟩
 rintro _ rfl
 refine Br.intro (fun e=>absurd e (by first | decide | simp)) fun _=>?_
 refine⟨by decide,by decide,by decide,by decide,?_⟩
 refine⟨rfl,fun x y=>∃ k:Nat,x.1=k∧k≤6∧y.1=List.replicate k 1431655765++List.replicate (6 - k) 0,fun x _=>6 - x.1.toNat,⟨0,rfl,by omega,rfl⟩,?_⟩
 rintro⟨_,⟨⟩⟩ ⟨_,⟨⟩⟩ ⟨k,rfl,hk,rfl⟩
 dsimp only
 rintro _ rfl
 have lk:(List.replicate k (1431655765:Int)).length=k:=List.length_replicate
 refine Br.intro (fun e3=>?_) fun e3=>?_
 ·have e3:k<6:=by have:=of_decide_eq_true e3; omega
  refine⟨trivial,⟨by omega,by show(k:Int)<6; omega⟩,rfl,?_⟩
  rw[Int.toNat_natCast,Z12 e3 (by omega),Zo4 lk e3,Z1u5 e3]
  exact⟨⟨k+1,rfl,by omega,by rw[List.replicate_succ']⟩,by omega⟩
 have e3:k=6:=by have:=of_decide_eq_false e3; omega
 subst e3
 clear lk hk
 have y6:List.replicate 6 (1431655765:Int)++List.replicate (6 - 6) 0=[1431655765,1431655765,1431655765,1431655765,1431655765,1431655765]:=rfl
 rw[y6]
 have t1:List.take (Int.toNat 6) (List.drop 0 [(1431655765:Int),1431655765,1431655765,1431655765,1431655765,1431655765])=[1431655765,1431655765,1431655765,1431655765,1431655765,1431655765]:=rfl
 have t2:List.take (Int.toNat 6) (List.drop 0 ([(1431655765:Int),1431655765,1431655765,1431655765,1431655765,1431655765].set (0+Int.toNat 0) (i64.wrap (2*[(1431655765:Int),1431655765,1431655765,1431655765,1431655765,1431655765].getD (0+Int.toNat 0) 0))))=[2863311530,1431655765,1431655765,1431655765,1431655765,1431655765]:=by decide
 rw[t1,t2]
 refine⟨by decide,?_⟩
 rintro _ rfl
 refine Br.intro (fun e=>absurd e (by first | decide | simp)) fun _=>?_
 refine⟨trivial,fun a ha=>?_⟩
 have ha:a=(Zb3,()):=ha
 subst ha
 refine⟨Z1ol,fun a ha=>?_⟩
 have ha:a=(Z1rc,0,()):=ha.trans Z1oh
 subst ha
 refine⟨trivial,fun a ha=>?_⟩
 have ha:a=(Zb3,()):=ha
 subst ha
 refine⟨Z1ol,fun a ha=>?_⟩
 have ha:a=(([0,0,0,0,0,0,0,0,0,0,0,0],[0,0,0,0,0,0,0,0,0,0,0,0]),0,()):=ha.trans Z1oi
 subst ha
 rintro _ rfl
 refine Br.intro (fun e=>absurd e (by first | decide | simp)) fun _=>?_
 rintro _ rfl
 refine Br.intro (fun e=>absurd e (by first | decide | simp)) fun _=>?_
 refine⟨trivial,fun a ha=>?_⟩
 have ha:a=(true,()):=ha
 subst ha
 rintro _ rfl
 refine Br.intro (fun e=>absurd e (by first | decide | simp)) fun _=>?_
 refine⟨by decide,trivial,fun a ha=>?_⟩
 have ha:a=(true,()):=ha
 subst ha
 rintro _ rfl
 refine Br.intro (fun e=>absurd e (by first | decide | simp)) fun _=>?_
 refine⟨by decide,by decide,trivial,fun a ha=>?_⟩
 have ha:a=(Zb3,()):=ha
 subst ha
 refine⟨Z1tv,fun a ha=>?_⟩
 have ha:a=(Z1rd,0,()):=ha.trans Z1oj
 subst ha
 rintro _ rfl
 refine Br.intro (fun _=>?_) fun e=>absurd e (by decide)
 rintro _ rfl
 refine Br.intro (fun _=>?_) fun e=>absurd e (by decide)
 refine⟨by decide,by decide,?_⟩
 rintro _ rfl
 refine Br.intro (fun _=>?_) fun e=>absurd e (by decide)
 refine⟨by decide,by decide,?_⟩
 rintro _ rfl
 refine Br.intro (fun _=>?_) fun e=>absurd e (by decide)
 refine⟨by decide,by decide,?_⟩
 rintro _ rfl
 refine Br.intro (fun _=>?_) fun e=>absurd e (by decide)
 refine⟨by decide,?_⟩
 rintro _ rfl
 refine Br.intro (fun _=>?_) fun e=>absurd e (by decide)
 refine⟨by decide,by decide,trivial,?_⟩
 rintro _ rfl
 rfl
end Go.Lift

namespace Go.Lift
def Z1el(ty92:Nat)(n:Int)(ty93:Nat)(fn49:Nat)(fn50:Nat):List HObj:=[HObj.mp Md.rw ((K.int i64).pair (K.int i64)) (K.int i64) [],HObj.box Md.rw ty92 [SV.val (Go.Value.int i64 n),SV.junk,SV.mref (0:Nat),SV.val (Go.Value.slice none (0:Nat) (0:Nat)),SV.junk,SV.val (Go.Value.slice none (0:Nat) (0:Nat)),SV.val (Go.Value.slice none (0:Nat) (0:Nat))],HObj.box Md.rw ty93 [SV.clo fn49 [LV.ref (1:Nat) (0:Nat)] [],SV.clo fn50 [LV.ref (1:Nat) (0:Nat)] []]]
def Z1em(y:List ((Int × Int) × Int) × Unit)(ty92:Nat)(n:Int)(x:Int × List (Int × Int × Int × Int) × List Int × Unit)(ty93:Nat)(fn49:Nat)(fn50:Nat)(ty2:Nat):List HObj:=[HObj.mp Md.rw ((K.int i64).pair (K.int i64)) (K.int i64) y.1,HObj.box Md.rw ty92 [SV.val (Go.Value.int i64 n),SV.junk,SV.mref (0:Nat),SV.val (Go.Value.slice none (0:Nat) (0:Nat)),SV.osl (4:Nat) (0:Nat) x.2.2.1.length,SV.val (Go.Value.slice none (0:Nat) (0:Nat)),SV.val (Go.Value.slice none (0:Nat) (0:Nat))],HObj.box Md.rw ty93 [SV.clo fn49 [LV.ref (1:Nat) (0:Nat)] [],SV.clo fn50 [LV.ref (1:Nat) (0:Nat)] []],HObj.dead,HObj.row Md.rw ty2 (K.int i64) x.2.2.1]
def Z1en(y_1:List ((Int × Int) × Int) × Unit)(ty92:Nat)(n:Int)(x:Int × List (Int × Int × Int × Int) × List Int × Unit)(ty93:Nat)(fn49:Nat)(fn50:Nat)(ty2:Nat):List HObj:=[HObj.mp Md.rw ((K.int i64).pair (K.int i64)) (K.int i64) y_1.1,HObj.box Md.rw ty92 [SV.val (Go.Value.int i64 n),SV.junk,SV.mref (0:Nat),SV.val (Go.Value.slice none (0:Nat) (0:Nat)),SV.osl (4:Nat) (0:Nat) x.2.2.1.length,SV.val (Go.Value.slice none (0:Nat) (0:Nat)),SV.val (Go.Value.slice none (0:Nat) (0:Nat))],HObj.box Md.rw ty93 [SV.clo fn49 [LV.ref (1:Nat) (0:Nat)] [],SV.clo fn50 [LV.ref (1:Nat) (0:Nat)] []],HObj.dead,HObj.row Md.rw ty2 (K.int i64) x.2.2.1]
def Z1eo(a:Int × Int × Unit)(x_2:Int × List (Int × Int × Int × Int) × Unit)(x:Int × List (Int × Int × Int × Int) × List Int × Unit)(y_1:List ((Int × Int) × Int) × Unit)(ty92:Nat)(n:Int)(ty93:Nat)(fn49:Nat)(fn50:Nat)(ty2:Nat):List HObj:=[HObj.mp Md.rw ((K.int i64).pair (K.int i64)) (K.int i64) (mput (a.1,a.2.1) (↑x_2.2.1.length:Int) (mput (x.1,x_2.1) (↑x_2.2.1.length:Int) y_1.1)),HObj.box Md.rw ty92 [SV.val (Go.Value.int i64 n),SV.junk,SV.mref (0:Nat),SV.val (Go.Value.slice none (0:Nat) (0:Nat)),SV.osl (4:Nat) (0:Nat) x.2.2.1.length,SV.val (Go.Value.slice none (0:Nat) (0:Nat)),SV.val (Go.Value.slice none (0:Nat) (0:Nat))],HObj.box Md.rw ty93 [SV.clo fn49 [LV.ref (1:Nat) (0:Nat)] [],SV.clo fn50 [LV.ref (1:Nat) (0:Nat)] []],HObj.dead,HObj.row Md.rw ty2 (K.int i64) x.2.2.1]
def Z1ep(y_1:List ((Int × Int) × Int) × Unit)(ty92:Nat)(n:Int)(ty93:Nat)(fn49:Nat)(fn50:Nat):List HObj:=[HObj.mp Md.rw ((K.int i64).pair (K.int i64)) (K.int i64) y_1.1,HObj.box Md.rw ty92 [SV.val (Go.Value.int i64 n),SV.junk,SV.mref (0:Nat),SV.val (Go.Value.slice none (0:Nat) (0:Nat)),SV.junk,SV.val (Go.Value.slice none (0:Nat) (0:Nat)),SV.val (Go.Value.slice none (0:Nat) (0:Nat))],HObj.box Md.rw ty93 [SV.clo fn49 [LV.ref (1:Nat) (0:Nat)] [],SV.clo fn50 [LV.ref (1:Nat) (0:Nat)] []]]
def Zsw(y:List ((Int × Int) × Int) × Unit)(ty92:Nat)(n:Int)(ty93:Nat)(fn49:Nat)(fn50:Nat):List HObj:=[HObj.mp Md.rw ((K.int i64).pair (K.int i64)) (K.int i64) y.1,HObj.box Md.rw ty92 [SV.val (Go.Value.int i64 n),SV.junk,SV.mref (0:Nat),SV.val (Go.Value.slice none (0:Nat) (0:Nat)),SV.junk,SV.val (Go.Value.slice none (0:Nat) (0:Nat)),SV.val (Go.Value.slice none (0:Nat) (0:Nat))],HObj.box Md.rw ty93 [SV.clo fn49 [LV.ref (1:Nat) (0:Nat)] [],SV.clo fn50 [LV.ref (1:Nat) (0:Nat)] []],HObj.dead,HObj.dead]
def Zsx(y:List ((Int × Int) × Int) × Unit)(ty92:Nat)(n:Int)(x:Int × List (Int × Int × Int × Int) × List Int × Unit)(ty93:Nat)(fn49:Nat)(fn50:Nat)(ty96:Nat)(ty2:Nat):List HObj:=[HObj.mp Md.rw ((K.int i64).pair (K.int i64)) (K.int i64) y.1,HObj.box Md.rw ty92 [SV.val (Go.Value.int i64 n),SV.osl (5:Nat) (0:Nat) x.2.1.length,SV.mref (0:Nat),SV.junk,SV.osl (6:Nat) (0:Nat) x.2.2.1.length,SV.junk,SV.junk],HObj.box Md.rw ty93 [SV.clo fn49 [LV.ref (1:Nat) (0:Nat)] [],SV.clo fn50 [LV.ref (1:Nat) (0:Nat)] []],HObj.dead,HObj.dead,HObj.row Md.rw ty96 ((K.int i64).pair ((K.int i64).pair ((K.int i64).pair (K.int i64)))) x.2.1,HObj.row Md.rw ty2 (K.int i64) x.2.2.1]
def Zwr:=fun(ty92 ty93 ty2 ty96 fn49 fn50:Nat)(n:Int)(post:Option YG × Int × Unit→Prop)=>∃(h:I64 n),Br ((Z3y n).1==(0:Int)) (post (none,(10
 : Int),())) (∃(h:(0:Int)≤(0:Int)∧(0:Int)<(↑(2:Nat):Int)),HS (Z1el ty92 n ty93 fn49 fn50)∧∃(I:Int × List (Int × Int × Int × Int) × List Int × Unit
 → List ((Int × Int) × Int) × Unit→Prop),∃(μ:Int × List (Int × Int × Int × Int) × List Int × Unit→List ((Int × Int) × Int) × Unit→Nat),I ((0:Int),[],[],()) ([],())
 ∧ ∀(x:Int × List (Int × Int × Int × Int) × List Int × Unit)(y:List ((Int × Int) × Int) × Unit),I x y→Br (decide (x.1<(Z3y n).1)) (((0:Nat)=(0:Nat)∧
 x.2.1.length=x.2.1.length)∧HS (Z1em y ty92 n x ty93 fn49 fn50 ty2)∧∃(I_1:Int × List (Int × Int × Int × Int) × Unit→List ((Int × Int) × Int) × Unit→Prop),∃
 (μ_1:Int × List (Int × Int × Int × Int) × Unit→List ((Int × Int) × Int) × Unit→Nat),I_1 ((0:Int),x.2.1,()) (y.1,())∧∀(x_2:Int × List (Int × Int × Int × Int) ×
 Unit) (y_1:List ((Int × Int) × Int) × Unit),I_1 x_2 y_1→Br (decide (x_2.1<(4:Int))) (∃(h:III n x.1 x_2.1),∀ a,a=Z5g n x.1 x_2.1→Br (decide (x.1 > a.1)) (((0
 : Nat)=(0:Nat)∧x_2.2.1.length=x_2.2.1.length)∧HS (Z1en y_1 ty92 n x ty93 fn49 fn50 ty2)∧I_1 (i64.wrap (x_2.1+(1:Int)),x_2.2.1,()) (y_1.1,())∧
 μ_1 (i64.wrap (x_2.1+(1:Int)),x_2.2.1,()) (y_1.1,())<μ_1 x_2 y_1) (∃(h:x_2.2.1.length=x_2.2.1.length∧(x_2.2.1.length+(1:Nat))*(32:Nat)≤
 (140737488355328:Nat)),((0:Nat)=(0:Nat)∧x_2.2.1.length+(1:Nat)=(x_2.2.1++[(x.1,x_2.1,a.1,a.2.1)]).length)∧HS (Z1eo a x_2 x y_1 ty92 n ty93 fn49
 fn50 ty2)∧I_1 (i64.wrap (x_2.1+(1:Int)),x_2.2.1++[(x.1,x_2.1,a.1,a.2.1)],()) (mput (a.1,a.2.1) (↑x_2.2.1.length:Int) (mput (x.1,x_2.1) (↑x_2.2.1.length:
 Int) y_1.1),())∧μ_1 (i64.wrap (x_2.1+(1:Int)),x_2.2.1++[(x.1,x_2.1,a.1,a.2.1)],()) (mput (a.1,a.2.1) (↑x_2.2.1.length:Int) (mput (x.1,x_2.1)
 (↑x_2.2.1.length:Int) y_1.1),())<μ_1 x_2 y_1)) (((0:Nat)=(0:Nat)∧x_2.2.1.length=x_2.2.1.length)∧((0:Nat)=(0:Nat)∧x.2.2.1.length=x.2.2.1.length)∧HS
 (Z1ep y_1 ty92 n ty93 fn49 fn50)∧I (i64.wrap (x.1+(1:Int)),x_2.2.1,x.2.2.1,()) (y_1.1,())∧μ (i64.wrap (x.1+(1:Int)),x_2.2.1,x.2.2.1,())
 (y_1.1,())<μ x y)) (∃(h:(0:Int)≤i64.wrap ((0:Int)+(1:Int))∧i64.wrap ((0:Int)+(1:Int))<(↑(2:Nat):Int)),((0:Nat)=(0:Nat)∧
 x.2.1.length=x.2.1.length)∧((0:Nat)=(0:Nat)∧x.2.2.1.length=x.2.2.1.length)∧HS (Zsw y ty92 n ty93 fn49 fn50)∧∃(I:Int × List (Int × Int × Int × Int) ×
 List Int × Unit→List ((Int × Int) × Int) × Unit→Prop),∃(μ:Int × List (Int × Int × Int × Int) × List Int × Unit→List ((Int × Int) × Int) × Unit→Nat),I ((0:Int),
 x.2.1,x.2.2.1,()) (y.1,())∧∀(x:Int × List (Int × Int × Int × Int) × List Int × Unit)(y:List ((Int × Int) × Int) × Unit),I x y→Br (decide (x.1<(Z3y n).1)) (∃(h
 : II n x.1),∃(h:x.2.2.1.length=x.2.2.1.length∧(x.2.2.1.length+(1:Nat))*(8:Nat)≤(140737488355328:Nat)),((0:Nat)=(0:Nat)∧x.2.1.length=x.2.1.length)∧
 ((0:Nat)=(0:Nat)∧x.2.2.1.length+(1:Nat)=(x.2.2.1++[(Z10l n x.1).1]).length)∧HS (Zsw y ty92 n ty93 fn49 fn50)∧I (i64.wrap (x.1+(1:Int)),
 x.2.1,x.2.2.1++[(Z10l n x.1).1],()) (y.1,())∧μ (i64.wrap (x.1+(1:Int)),x.2.1,x.2.2.1++[(Z10l n x.1).1],()) (y.1,())<μ x y) (HS (Zsx y ty92 n
 x ty93 fn49 fn50 ty96 ty2)∧∃(I:Int × List (List Int) × List Nat × List Nat × Unit→Unit→Prop),∃(μ:Int × List (List Int) × List Nat × List Nat × Unit→Unit→Nat),I
 ((0:Int),[],[],[],()) ()∧∀(x_3:Int × List (List Int) × List Nat × List Nat × Unit)(y_1:Unit),I x_3 y_1→Br (decide (x_3.1<(↑x.2.1.length:Int))) (∃(h:(0:
 Int)≤x_3.1∧x_3.1<(↑x.2.1.length:Int)),∃(h:(4:Int)≠(0:Int)),∃(h:III n (x.2.1.getD ((0:Nat)+x_3.1.toNat) Z3u.dflt).1 ((i64.wrap ((x.2.1.getD ((0
 : Nat)+x_3.1.toNat) Z3u.dflt).2.1+(2:Int))).tmod (4:Int))),∀ a,a=Z5g n (x.2.1.getD ((0:Nat)+x_3.1.toNat) Z3u.dflt).1 ((i64.wrap ((x.2.1.getD ((0:
 Nat)+x_3.1.toNat) Z3u.dflt).2.1+(2:Int))).tmod (4:Int))→∃(h:(4:Int)≠(0:Int)),∃(h:III n (x.2.1.getD ((0:Nat)+x_3.1.toNat) Z3u.dflt).2.2.1
 ((i64.wrap ((x.2.1.getD ((0:Nat)+x_3.1.toNat) Z3u.dflt).2.2.2+(2:Int))).tmod (4:Int))),∀ a_1,a_1=Z5g n (x.2.1.getD ((0:Nat)+x_3.1.toNat)
 Z3u.dflt).2.2.1 ((i64.wrap ((x.2.1.getD ((0:Nat)+x_3.1.toNat) Z3u.dflt).2.2.2+(2:Int))).tmod (4:Int))→∃(h:x_3.2.1.length=x_3.2.1.length∧
 (x_3.2.1.length+(1:Nat))*(16:Nat)≤(140737488355328:Nat)),∃(h:III n (x.2.1.getD ((0:Nat)+x_3.1.toNat) Z3u.dflt).1 (x.2.1.getD ((0:Nat)+x_3.1.toNat)
 Z3u.dflt).2.1),∀ a_2,a_2=Zhc n (x.2.1.getD ((0:Nat)+x_3.1.toNat) Z3u.dflt).1 (x.2.1.getD ((0:Nat)+x_3.1.toNat) Z3u.dflt).2.1→∃(h:x_3.2.2.1.length=
 x_3.2.2.1.length∧(x_3.2.2.1.length+(1:Nat))*(8:Nat)≤(140737488355328:Nat)),∃(h:III n (x.2.1.getD ((0:Nat)+x_3.1.toNat) Z3u.dflt).1 (x.2.1.getD ((0:Nat)+
 x_3.1.toNat) Z3u.dflt).2.1),∀ a_3,a_3=Z1jx n (x.2.1.getD ((0:Nat)+x_3.1.toNat) Z3u.dflt).1 (x.2.1.getD ((0:Nat)+x_3.1.toNat) Z3u.dflt).2.1→∃(h:
 x_3.2.2.2.1.length=x_3.2.2.2.1.length∧(x_3.2.2.2.1.length+(1:Nat))*(8:Nat)≤(140737488355328:Nat)),((0:Nat)=(0:Nat)∧x_3.2.1.length+(1:Nat)=(x_3.2.1
 ++ [[a.1,a_1.1]]).length)∧((0:Nat)=(0:Nat)∧x_3.2.2.1.length+(1:Nat)=(x_3.2.2.1++[a_2.1]).length)∧((0:Nat)=(0:Nat)∧x_3.2.2.2.1.length+(1:Nat)=
 (x_3.2.2.2.1++[a_3.1]).length)∧HS (Zsx y ty92 n x ty93 fn49 fn50 ty96 ty2)∧I (i64.wrap (x_3.1+(1:Int)),x_3.2.1++[[a.1,a_1.1]],x_3.2.2.1++[a_2.1],
 x_3.2.2.2.1++[a_3.1],()) ()∧μ (i64.wrap (x_3.1+(1:Int)),x_3.2.1++[[a.1,a_1.1]],x_3.2.2.1++[a_2.1],x_3.2.2.2.1++[a_3.1],()) ()<μ x_3 y_1) (post
 (some (n,List.take x.2.1.length (List.drop (0:Nat) x.2.1),y.1,List.take x_3.2.1.length (List.drop (0:Nat) x_3.2.1),List.take x.2.2.1.length (List.drop (0:Nat)
 x.2.2.1),List.take x_3.2.2.1.length (List.drop (0:Nat) x_3.2.2.1),List.take x_3.2.2.2.1.length (List.drop (0:Nat) x_3.2.2.2.1)),(0:Int),())))))
theorem Z1gn(ty0 ty1 ty2 ty3 ty4 ty5:Nat)(n:Int)(h:I64 n):Zwr ty0 ty1 ty2 ty3 ty4 ty5 n (fun r=>r=newR n):=by
 have cr:=Z37 n
 obtain⟨N,hN⟩:∃ N,(Z2 n).toNat=N:=⟨_,rfl⟩
 have hc:Z2 n=(N:Int):=by omega
 have hc':(Z3y n).fst=(N:Int):=hc
 have hN1:N≤6144:=by omega
 have nk:=fun k=>Z9x n k
 have i6:∀ {z:Int},0≤z→z≤6144→I64 z:=fun {z} a b=>⟨by omega,by omega⟩
 refine⟨h,?_⟩
 rw[hc']
 refine Br.intro (fun e=>?_) fun e=>?_
 ·have e:(N:Int)=0:=beq_iff_eq.1 e
  show _=newR n
  unfold newR; rw[if_pos (by omega)]
 have e:¬ (N:Int)=0:=fun q=>by rw[q]at e; cases e
 have hnew:newR n=(some (netG n),0,()):=by unfold newR; rw[if_neg (by omega)]
 refine⟨⟨by decide,by decide⟩,rfl,fun x y=>∃ k:Nat,x.1=k∧k≤N∧x.2.1=(netN n k).1∧x.2.2.1=[]∧y.1=(netN n k).2,fun x _=>N - x.1.toNat,⟨0,rfl,by omega,rfl,rfl,rfl⟩,?_⟩
 rintro⟨_,_,_,⟨⟩⟩ ⟨_,⟨⟩⟩ ⟨k,rfl,hk,rfl,rfl,rfl⟩
 dsimp only
 refine Br.intro (fun e1=>?_) fun e1=>?_
 ·have e1:k<N:=by have:=of_decide_eq_true e1; omega
  refine⟨⟨rfl,rfl⟩,rfl,fun x y=>∃ j:Nat,x.1=j∧j≤4∧x.2.1=(addN n k (netN n k) j).1∧y.1=(addN n k (netN n k) j).2,fun x _=>4 - x.1.toNat,⟨0,rfl,by omega,rfl,rfl⟩,?_⟩
  rintro⟨_,_,⟨⟩⟩ ⟨_,⟨⟩⟩ ⟨j,rfl,hj,rfl,rfl⟩
  dsimp only
  have hlen:=(Z14w (n:=n) (c:=k) (by omega) (by omega) (nk k (by omega)).1 j hj).2
  have hlk:=(nk k (by omega)).2
  refine Br.intro (fun e2=>?_) fun e2=>?_
  ·have e2:j<4:=by have e2:(j:Int)<4:=of_decide_eq_true e2; omega
   refine⟨⟨h,i6 (by omega) (by omega),i6 (by omega) (by omega)⟩,?_⟩
   rintro⟨b,q,⟨⟩⟩ hb
   have hb:(b,q,())=Z5g n k j:=hb
   have eb:b=(Z1 n k j).1:=congrArg Prod.fst hb
   have eq:q=(Z1 n k j).2:=congrArg (fun z=>z.2.1) hb
   rw[Z12 e2 (by omega)]
   refine Br.intro (fun g=>?_) fun g=>?_
   ·have g:(k:Int) > b:=of_decide_eq_true g
    have hst:addN n k (netN n k) (j+1)=addN n k (netN n k) j:=by
     show addE n k j (addN n k (netN n k) j)=_
     unfold addE; rw[if_pos (by omega)]
    exact⟨⟨rfl,rfl⟩,rfl,⟨j+1,rfl,by omega,by rw[hst],by rw[hst]⟩,by omega⟩
   ·have g:¬ (k:Int) > b:=of_decide_eq_false g
    have hst:addN n k (netN n k) (j+1)=((addN n k (netN n k) j).1++[((k:Int),(j:Int),b,q)],mput (b,q) (addN n k (netN n k) j).1.length (mput ((k:Int),(j:Int)) (addN n k (netN n k) j).1.length (addN n k (netN n k) j).2)):=by
     show addE n k j (addN n k (netN n k) j)=_
     unfold addE; rw[if_neg (by omega),eb,eq]
    exact⟨⟨rfl,by omega⟩,⟨rfl,by rw[List.length_append]; rfl⟩,rfl,⟨j+1,rfl,by omega,by rw[hst],by rw[hst]⟩,by omega⟩
  ·have e2:j=4:=by have e2:¬ (j:Int)<4:=of_decide_eq_false e2; omega
   subst e2
   rw[Z12 e1 (by omega)]
   exact⟨⟨rfl,rfl⟩,⟨rfl,rfl⟩,rfl,⟨k+1,rfl,by omega,rfl,rfl,rfl⟩,by omega⟩
 have e1:k=N:=by have:=of_decide_eq_false e1; omega
 subst e1
 obtain⟨eok,elen⟩:=nk k hN1
 have hE:netE n=netN n k:=by unfold netE; rw[hN]
 generalize netN n k=E at *
 refine⟨⟨by decide,by decide⟩,⟨rfl,rfl⟩,⟨rfl,rfl⟩,rfl,fun x y=>∃ m:Nat,x.1=m∧m≤k∧x.2.1=E.1∧x.2.2.1=((List.range m).map fun q:Nat=>Z1a n (q:Int))∧y.1=E.2,fun x _=>k - x.1.toNat,⟨0,rfl,by omega,rfl,rfl,rfl⟩,?_⟩
 rintro⟨_,_,_,⟨⟩⟩ ⟨_,⟨⟩⟩ ⟨m,rfl,hm,rfl,rfl,rfl⟩
 dsimp only
 have hml:((List.range m).map fun q:Nat=>Z1a n (q:Int)).length=m:=by rw[List.length_map,List.length_range]
 refine Br.intro (fun e1=>?_) fun e1=>?_
 ·have e1:m<k:=by have:=of_decide_eq_true e1; omega
  rw[Z12 e1 (by omega)]
  exact⟨⟨h,i6 (by omega) (by omega)⟩,⟨rfl,by rw[hml]; omega⟩,⟨rfl,rfl⟩,⟨rfl,by rw[List.length_append]; rfl⟩,rfl,⟨m+1,rfl,by omega,rfl,(Z14t (fun q:Nat=>Z1a n (q:Int)) m).symm,rfl⟩,by omega⟩
 have e1:m=k:=by have:=of_decide_eq_false e1; omega
 subst e1
 refine⟨rfl,fun x _=>∃ q:Nat,x.1=q∧q≤E.1.length∧x.2.1=(E.1.take q).map (Z8i n)∧x.2.2.1=(E.1.take q).map (fun e=>Z3g n e.1 e.2.1)∧x.2.2.2.1=(E.1.take q).map (fun e=>gapG n e.1 e.2.1),fun x _=>E.1.length - x.1.toNat,⟨0,rfl,by omega,rfl,rfl,rfl⟩,?_⟩
 rintro⟨_,_,_,_,⟨⟩⟩ _ ⟨q,rfl,hq,rfl,rfl,rfl⟩
 dsimp only
 have hl:∀ {α:Type}(f:Ed→α),((E.1.take q).map f).length=q:=fun {α} f=>by rw[List.length_map,List.length_take]; omega
 refine Br.intro (fun e1=>?_) fun e1=>?_
 ·have e1:q<E.1.length:=by have:=of_decide_eq_true e1; omega
  rw[Int.toNat_natCast,Nat.zero_add,Z12 e1 (by omega)]
  obtain⟨d,hd⟩:∃ d,E.1.getD q Z3u.dflt=d:=⟨_,rfl⟩
  have dm:d ∈ E.1:=by rw[← hd]; exact Zw e1 _
  have ts:E.1.take (q+1)=E.1.take q++[d]:=by rw[Ze0 e1 Z3u.dflt,hd]
  rw[hd]
  obtain⟨d1,d2,d3,d4,d5,d6,d7,d8⟩:=eok d dm
  have w1:i64.wrap (d.2.1+2)=d.2.1+2:=wi ⟨by omega,by omega⟩
  have w2:i64.wrap (d.2.2.2+2)=d.2.2.2+2:=wi ⟨by omega,by omega⟩
  rw[w1,w2]
  have t1:I64 (Int.tmod (d.2.1+2) 4):=by rw[Int.tmod_eq_emod_of_nonneg (by omega)]; exact i6 (by omega) (by omega)
  have t2:I64 (Int.tmod (d.2.2.2+2) 4):=by rw[Int.tmod_eq_emod_of_nonneg (by omega)]; exact i6 (by omega) (by omega)
  refine⟨⟨by omega,by omega⟩,by decide,⟨h,i6 d1 (by omega),t1⟩,?_⟩
  rintro⟨a1,a2,⟨⟩⟩ ha
  have ea:a1=(Z1 n d.1 (Int.tmod (d.2.1+2) 4)).1:=congrArg Prod.fst ha
  refine⟨by decide,⟨h,i6 d5 (by omega),t2⟩,?_⟩
  rintro⟨b1,b2,⟨⟩⟩ hb
  have eb:b1=(Z1 n d.2.2.1 (Int.tmod (d.2.2.2+2) 4)).1:=congrArg Prod.fst hb
  refine⟨⟨rfl,by rw[hl]; omega⟩,⟨h,i6 d1 (by omega),i6 d3 (by omega)⟩,?_⟩
  rintro⟨l1,⟨⟩⟩ hl1
  have el:l1=Z3g n d.1 d.2.1:=congrArg Prod.fst hl1
  refine⟨⟨rfl,by rw[hl]; omega⟩,⟨h,i6 d1 (by omega),i6 d3 (by omega)⟩,?_⟩
  rintro⟨g1,⟨⟩⟩ hg1
  have eg:g1=gapG n d.1 d.2.1:=congrArg Prod.fst hg1
  refine⟨⟨rfl,by rw[hl]; omega⟩,⟨rfl,by rw[List.length_append]; rfl⟩,⟨rfl,by rw[List.length_append]; rfl⟩,⟨rfl,by rw[List.length_append]; rfl⟩,rfl,⟨q+1,rfl,by omega,?_,?_,?_⟩,by omega⟩
  ·rw[ts,List.map_append]; dsimp only; rw[ea,eb]; rfl
  ·rw[ts,List.map_append]; dsimp only; rw[el]; rfl
  ·rw[ts,List.map_append]; dsimp only; rw[eg]; rfl
 ·have e1:q=E.1.length:=by have:=of_decide_eq_false e1; omega
  subst e1
  show _=newR n
  rw[hnew]
  unfold netG Zau
  rw[hE,hN,List.take_length]
  simp only[List.drop_zero,List.take_length]
end Go.Lift

namespace Go.Lift
def Zsy:=fun(a:Int)(post:Bool × Unit→Prop)=>∀ a_1,a_1=decide (a≥(1:Int))→Br a_1 (∀ a_2,a_2=decide (a≤(32:Int))→post (a_2,())) (post
 (false,()))
theorem Z1eq(a:Int):Zsy  a (fun r=>r=Z10i a):=by
 rintro _ rfl
 refine Br.intro (fun e=>?_) fun e=>?_
 ·rintro _ rfl
  refine congrArg r1 ?_
  show _=Z22 a
  unfold Z22
  rw[show decide ((1:Int)≤a)=true from e,Bool.true_and]
 ·refine congrArg r1 ?_
  show _=Z22 a
  unfold Z22
  rw[show decide ((1:Int)≤a)=false from e,Bool.false_and]
def Zoq:=fun(a:Int)(post:Int × Unit→Prop)=>∃(h:True),∀ a_1,a_1=(Z10i a).1→Br (!a_1) (post (0,())) (post (i64.wrap (i64.wrap ((6:
 Int)*a)*a),()))
theorem Z19q(a:Int)(h:I64 a):Zoq  a (fun r=>r=Z3y a):=by
 refine⟨trivial,?_⟩
 rintro _ rfl
 refine Br.intro (fun e=>?_) fun e=>?_
 ·have e:(!Z22 a)=true:=e
  exact congrArg r1 (Zdy (by simpa using e)).symm
 ·have e:(!Z22 a)=false:=e
  exact congrArg r1 (Z1jw (by simpa using e))
def Zor:=fun(n c:Int)(post:Int × Int × Int × Bool × Unit→Prop)=>∀ a,a=decide (c<(0:Int))→Br a (post (0,0,0,false,())) (∃(h:I64 n),∀ a,a
 = decide (c≥(Z3y n).1)→Br a (post (0,0,0,false,())) (∃(h:i64.wrap (n*n)≠(0:Int)),∃(h:n≠(0:Int)),∃(h:n≠(0:Int)),∃(h:n≠(0:
 Int)),post (i64.wrap (c.tdiv (i64.wrap (n*n))),c.tmod n,(i64.wrap (c.tdiv n)).tmod n,true,())))
theorem Z19r(n:Int)(c:Int)(h:II n c):Zor  n c (fun r=>r=Z4 n c):=by
 have bad:Ze n c=false→((0:Int),(0:Int),(0:Int),false,())=Z4 n c:=by
  intro e; unfold Z4; rw[if_neg (by rw[e]; decide)]
 rintro _ rfl
 refine Br.intro (fun e=>?_) fun e=>?_
 ·have e:=of_decide_eq_true e
  exact bad (by unfold Ze; rw[decide_eq_false (by omega),Bool.false_and])
 ·have e:=of_decide_eq_false e
  refine⟨h.1,?_⟩
  rintro _ rfl
  refine Br.intro (fun f=>?_) fun f=>?_
  ·have f:Z2 n≤c:=of_decide_eq_true f
   exact bad (by unfold Ze; rw[decide_eq_false (p:=c<Z2 n) (by omega),Bool.and_false])
  ·have f:¬ c≥Z2 n:=of_decide_eq_false f
   have ok:Ze n c=true:=by unfold Ze; rw[decide_eq_true (by omega),decide_eq_true (by omega)]; rfl
   obtain⟨h1,h2,h3,h4,h5,h6⟩:=Zd3 ok
   obtain⟨r1,r2,r3,r4,r5,r6⟩:=Zsd ok
   have w1:i64.wrap (n*n)=n*n:=wi ⟨by omega,by omega⟩
   have d1:c.tdiv (n*n)=c / (n*n):=Int.tdiv_eq_ediv_of_nonneg h3
   have d2:c.tdiv n=c / n:=Int.tdiv_eq_ediv_of_nonneg h3
   have d3:0≤c / n∧c / n≤c:=⟨Int.ediv_nonneg h3 (by omega),Int.ediv_le_self _ h3⟩
   have w2:i64.wrap (c / n)=c / n:=wi ⟨by omega,by have:=h.2; unfold I64 at this; omega⟩
   have w3:i64.wrap (c / (n*n))=c / (n*n):=wi ⟨by omega,by omega⟩
   refine⟨by rw[w1]; omega,by omega,by omega,by omega,?_⟩
   rw[w1,d1,w3,d2,w2,Int.tmod_eq_emod_of_nonneg h3,Int.tmod_eq_emod_of_nonneg d3.1]
   unfold Z4; rw[if_pos ok]
end Go.Lift

namespace Go.Lift
open Go.Proofs
def Z124:Cx:=⟨Z1t Z23,Z21 [],SqG⟩
theorem Zos:CxOk Tryz.prog Z124:=⟨Zn Zy,fun f c h=>by cases h⟩
def Zet:Con:=.det [.int .i64] [.snap .bool] (fun _=>True) (fun x=>Z10i x.1)
theorem Zot:SqH Zet 102:=
 dP Zos Z3 Zd nHn Tryz.func102 (fun x p=>Zsy  x.1 p) fun x _ _=>Z1eq  x.1
def Z125:Cx:=addC 102 Zet Z124
theorem Zou:CxOk Tryz.prog Z125:=Zm Zos Zot
def Z4y:Con:=.det [.int .i64] [.snap (.int .i64)] (fun x=>I64 x.1) (fun x=>Z3y x.1)
theorem Z6j:SqH Z4y 48:=
 dP Zou Z3 Zd nHn Tryz.func48 (fun x p=>Zoq  x.1 p) fun x h _=>Z19q  x.1 h
def Z1kq:Cx:=addC 48 Z4y Z125
theorem Z19s:CxOk Tryz.prog Z1kq:=Zm Zou Z6j
def Z8o:Con:=.det [.int .i64,.int .i64] [.snap (.int .i64),.snap (.int .i64),.snap (.int .i64),.snap .bool] (fun x=>II x.1 x.2.1) (fun x=>Z4 x.1 x.2.1)
theorem Zcg:SqH Z8o 104:=
 dP Z19s Z3 Zd nHn Tryz.func104 (fun x p=>Zor  x.1 x.2.1 p) fun x h _=>Z19r  x.1 x.2.1 h
end Go.Lift

namespace Go.Lift
def Zjc(ty154:Nat)(ty160:Nat)(a_2:Int × Unit)(ty158:Nat)(a_4:List Int × Unit):List HObj:=[HObj.row Md.rw ty154 (K.arr (2:Nat) (K.int i64)) [[(1:Int),(0:Int)],[(0:Int),(1:Int)],[(-1:Int),(0:Int)],[(0:Int),(-1:Int)]],HObj.row Md.rw ty160 (K.arr (3:Nat) (K.int i64)) (Zo.getD a_2.1.toNat (K.arr (3:Nat) (K.arr (3:Nat) (K.int i64))).dflt),HObj.row Md.rw ty158 (K.int i64) a_4.1]
def Zlc:=fun(ty154 ty160 ty158:Nat)(n c o:Int)(post:Int × Int × Unit→Prop)=>∃(h:II n c),Br (!(Z4 n c).2.2.2.1) (post ((-1:Int),(0:Int),()))
 (∀ a,a=decide (o<(0:Int))→Br a (post ((-1:Int),(0:Int),())) (∀ a,a=decide (o≥(4:Int))→Br a (post ((-1:Int),(0:Int),())) (∃(h:(List.replicate (4:
 Nat) (K.arr (2:Nat) (K.int i64)).dflt).length=(4:Nat)∧(4:Nat)=(4:Nat)),∃(h:(0:Int)≤o∧o<(↑(4:Nat):Int)∧(4:Nat)≤(4:Nat)),∃(h:(0:
 Int)≤(0:Int)∧(0:Int)<(↑(2:Nat):Int)),∃(h:(0:Int)≤o∧o<(↑(4:Nat):Int)∧(4:Nat)≤(4:Nat)),∃(h:(0:Int)≤(1:Int)∧(1:Int)<(↑(2:Nat)
 : Int)),∃(h:IIII n (Z4 n c).1 (i64.wrap ((Z4 n c).2.1+List.getD ([[(1:Int),(0:Int)],[(0:Int),(1:Int)],[(-1:Int),(0:Int)],[(0:Int),(-1
 : Int)]].getD o.toNat (K.arr (2:Nat) (K.int i64)).dflt) (0:Nat) (0:Int))) (i64.wrap ((Z4 n c).2.2.1+List.getD ([[(1:Int),(0:Int)],[(0:Int),(1
 : Int)],[(-1:Int),(0:Int)],[(0:Int),(-1:Int)]].getD o.toNat (K.arr (2:Nat) (K.int i64)).dflt) ((nat_lit 0+(1:Nat)) / (K.int i64).sz) (0:
 Int)))),∀ a,a=Zuz n (Z4 n c).1 (i64.wrap ((Z4 n c).2.1+List.getD ([[(1:Int),(0:Int)],[(0:Int),(1:Int)],[(-1:Int),(0:Int)],[(0:Int),
 (-1:Int)]].getD o.toNat (K.arr (2:Nat) (K.int i64)).dflt) (0:Nat) (0:Int))) (i64.wrap ((Z4 n c).2.2.1+List.getD ([[(1:Int),(0:Int)],[(0:
 Int),(1:Int)],[(-1:Int),(0:Int)],[(0:Int),(-1:Int)]].getD o.toNat (K.arr (2:Nat) (K.int i64)).dflt) ((nat_lit 0+(1:Nat)) / (K.int i64).sz) (0
 : Int)))→∀ a_1,a_1=decide (a.1≥(0:Int))→Br a_1 (∃(h:(4:Int)≠(0:Int)),post (a.1,(i64.wrap (o+(2:Int))).tmod (4:Int),())) (∃(h:(0:Int)≤
 (Z4 n c).1∧(Z4 n c).1<(↑(6:Nat):Int)),∃(h:WOut (Zo.getD (Z4 n c).1.toNat (K.arr (3:Nat) (K.arr (3:Nat) (K.int i64))).dflt) o),∀ a,a=
 outR (Zo.getD (Z4 n c).1.toNat (K.arr (3:Nat) (K.arr (3:Nat) (K.int i64))).dflt) o→∃(h:True),∀ a_2,a_2=Z14u a.1→∃(h:(0:Int)≤a_2.1∧
 a_2.1<(↑(6:Nat):Int)),∃(h:(List.replicate (3:Nat) (K.arr (3:Nat) (K.int i64)).dflt).length=(3:Nat)∧List.length (Zo.getD a_2.1.toNat (K.arr (3:
 Nat) (K.arr (3:Nat) (K.int i64))).dflt)=(3:Nat)),∃(h:Z2z n (Z4 n c).1 (Z4 n c).2.1 (Z4 n c).2.2.1),∀ a,a=Zxz n (Z4 n c).1
 (Z4 n c).2.1 (Z4 n c).2.2.1→∃(h:(0:Int)≤(Z4 n c).1∧(Z4 n c).1<(↑(6:Nat):Int)),∃(h:WOut (Zo.getD (Z4 n c).1.toNat (K.arr (3:
 Nat) (K.arr (3:Nat) (K.int i64))).dflt) o),∀ a_3,a_3=outR (Zo.getD (Z4 n c).1.toNat (K.arr (3:Nat) (K.arr (3:Nat) (K.int i64))).dflt) o→∃(h
 : Z10p a.1 a_3.1),∀ a_4,a_4=Zuy a.1 a_3.1→∃(h:(List.replicate (3:Nat) (0:Int)).length=(3:Nat)∧a_4.1.length=(3:Nat)),∃(h:a_4.1.length=(3:Nat)),∃
 (h:(0:Int)≤(1:Int)∧(1:Int)<(↑(3:Nat):Int)∧(3:Nat)≤List.length (Zo.getD a_2.1.toNat (K.arr (3:Nat) (K.arr (3:Nat) (K.int i64))).dflt)),∃
 (h:WDot a_4.1 (List.getD (Zo.getD a_2.1.toNat (K.arr (3:Nat) (K.arr (3:Nat) (K.int i64))).dflt) (Int.toNat (1:Int)) (K.arr (3:Nat) (K.int
 i64)).dflt)),∀ a,a=dotR a_4.1 (List.getD (Zo.getD a_2.1.toNat (K.arr (3:Nat) (K.arr (3:Nat) (K.int i64))).dflt) (Int.toNat (1:Int)) (K.arr (3:Nat)
 (K.int i64)).dflt)→∃(h:Z10r n a.1),∀ a_5,a_5=Z10q n a.1→∃(h:a_4.1.length=(3:Nat)),∃(h:(0:Int)≤(2:Int)∧(2:Int)<(↑(3:Nat):Int)∧(3
 : Nat)≤List.length (Zo.getD a_2.1.toNat (K.arr (3:Nat) (K.arr (3:Nat) (K.int i64))).dflt)),∃(h:WDot a_4.1 (List.getD (Zo.getD a_2.1.toNat (K.arr (3:
 Nat) (K.arr (3:Nat) (K.int i64))).dflt) (Int.toNat (2:Int)) (K.arr (3:Nat) (K.int i64)).dflt)),∀ a,a=dotR a_4.1 (List.getD (Zo.getD a_2.1.toNat
 (K.arr (3:Nat) (K.arr (3:Nat) (K.int i64))).dflt) (Int.toNat (2:Int)) (K.arr (3:Nat) (K.int i64)).dflt)→∃(h:Z10r n a.1),∀ a_6,a_6=Z10q n a.1→
 ∃(h:IIII n a_2.1 a_5.1 a_6.1),∀ a,a=Zuz n a_2.1 a_5.1 a_6.1→HS (Zjc ty154 ty160 a_2 ty158 a_4)∧∃(I:Int × Unit→Unit→Prop),∃(μ:Int × Unit→Unit
 → Nat),I ((0:Int),()) ()∧∀(x:Int × Unit)(y:Unit),I x y→∀ a_7,a_7=decide (x.1<(4:Int))→Br a_7 (∃(h:List.length (Zo.getD a_2.1.toNat (K.arr (3:Nat)
 (K.arr (3:Nat) (K.int i64))).dflt)=(3:Nat)),∃(h:WOut (Zo.getD a_2.1.toNat (K.arr (3:Nat) (K.arr (3:Nat) (K.int i64))).dflt) x.1),∀ a_8,a_8=
 outR (Zo.getD a_2.1.toNat (K.arr (3:Nat) (K.arr (3:Nat) (K.int i64))).dflt) x.1→∃(h:(0:Int)≤(Z4 n c).1∧(Z4 n c).1<(↑(6:Nat):Int)),∃(h
 : (0:Int)≤(0:Int)∧(0:Int)<(↑(3:Nat):Int)),∀ a_9,a_9=eqL a_8.1 (List.getD (Zo.getD (Z4 n c).1.toNat (K.arr (3:Nat) (K.arr (3:Nat) (K.int
 i64))).dflt) (Int.toNat (0:Int)) (K.arr (3:Nat) (K.int i64)).dflt)→Br a_9 (post (a.1,x.1,())) (HS (Zjc ty154 ty160 a_2 ty158 a_4)∧I
 (i64.wrap (x.1+(1:Int)),()) ()∧μ (i64.wrap (x.1+(1:Int)),()) ()<μ x y)) (post ((-1:Int),(0:Int),()))))))
theorem Z15a(ty0 ty1 ty2:Nat)(n:Int)(c:Int)(o:Int)(h:III n c o):Zlc ty0 ty1 ty2 n c o (fun r=>r=Z5g n c o):=by
 refine⟨⟨h.1,h.2.1⟩,?_⟩
 have no:Zh n c o=false→((-1:Int),(0:Int),())=Z5g n c o:=by
  intro q
  have:Z1 n c o=(-1,0):=by unfold Z1; rw[if_neg (by rw[q]; decide)]
  unfold Z5g; rw[this]
 by_cases ok:Ze n c=true
 ·rw[Z1dg ok]
  have hm:=Ze4 ok
  have hh:=hm
  obtain⟨n1,n2,f0,f5,i0,i1,j0,j1⟩:=hh
  dsimp only
  refine Br.intro (fun e=>absurd e (by decide)) fun _=>?_
  rintro _ rfl
  refine Br.intro (fun e=>no ?_) fun e=>?_
  ·have e:=of_decide_eq_true e
   unfold Zh; rw[decide_eq_false (p:=0≤o) (by omega)]; simp
  have o0:=of_decide_eq_false e
  rintro _ rfl
  refine Br.intro (fun e=>no ?_) fun e=>?_
  ·have e:=of_decide_eq_true e
   unfold Zh; rw[decide_eq_false (p:=o<4) (by omega)]; simp
  have o4:=of_decide_eq_false e
  have o0:0≤o:=by omega
  have o4:o<4:=by omega
  have okb:Zh n c o=true:=by unfold Zh; rw[ok,decide_eq_true o0,decide_eq_true o4]; rfl
  have d:=dxy (o:=o)
  obtain⟨F,hF⟩:∃ F,c / (n*n)=F:=⟨_,rfl⟩
  obtain⟨i,hi0⟩:∃ i,c % n=i:=⟨_,rfl⟩
  obtain⟨j,hj0⟩:∃ j,c / n % n=j:=⟨_,rfl⟩
  have hb:Z1 n c o=if 0≤Z2a n F (i+dxI o) (j+dyI o)then(Z2a n F (i+dxI o) (j+dyI o),Int.tmod (o+2) 4)else Z10s n F i j o:=by
   unfold Z1; rw[if_pos okb,hF,hi0,hj0]
  rw[hF,hi0,hj0]
  rw[hF]at hm f0 f5
  rw[hi0]at hm i0 i1
  rw[hj0]at hm j0 j1
  have w1:i64.wrap (i+dxI o)=i+dxI o:=wi ⟨by omega,by omega⟩
  have w2:i64.wrap (j+dyI o)=j+dyI o:=wi ⟨by omega,by omega⟩
  have i6:∀ {z:Int},-1≤z→z≤6144→I64 z:=fun {z} a b=>⟨by omega,by omega⟩
  have fb:=Z63 f0 f5
  have wo:∀ q,WOut (Z11 F) q:=fun q=>⟨(fb 1).mono (by decide),(fb 2).mono (by decide)⟩
  refine⟨⟨rfl,rfl⟩,⟨o0,o4,Nat.le_refl _⟩,⟨by decide,by decide⟩,⟨o0,o4,Nat.le_refl _⟩,⟨by decide,by decide⟩,⟨h.1,i6 (by omega) (by omega),Zy0 _,Zy0 _⟩,?_⟩
  intro a ha
  have ha:a=Zuz n F (i64.wrap (i+dxI o)) (i64.wrap (j+dyI o)):=ha.trans (by rw[← Z1tk o0 o4,← Z1tl o0 o4]; rfl)
  rw[w1,w2]at ha
  obtain⟨a,⟨⟩⟩:=a
  have ha:a=Z2a n F (i+dxI o) (j+dyI o):=congrArg Prod.fst ha
  rw[← ha]at hb
  rintro _ rfl
  refine Br.intro (fun e=>?_) fun e=>?_
  ·have e:a≥0:=of_decide_eq_true e
   rw[if_pos e]at hb
   refine⟨by decide,?_⟩
   have:i64.wrap (o+2)=o+2:=wi ⟨by omega,by omega⟩
   rw[this]
   unfold Z5g; rw[hb]
  have e:¬ 0≤a:=of_decide_eq_false e
  rw[if_neg e]at hb
  refine⟨⟨f0,by show F<6; omega⟩,wo o,?_⟩
  rintro⟨v1,⟨⟩⟩ hv1
  have e1:v1=outF (Z11 F) o:=congrArg Prod.fst hv1
  refine⟨trivial,?_⟩
  rintro⟨t,⟨⟩⟩ ht
  have et:t=Z4v (outF (Z11 F) o):=by rw[← e1]; exact congrArg Prod.fst ht
  obtain⟨t0,t5⟩:=Z1s3 f0 f5 o0 o4
  rw[← et]at t0 t5
  have fl:=Z17s t0 t5
  have tb:=Z63 t0 t5
  refine⟨⟨t0,by show t<6; omega⟩,⟨rfl,fl⟩,hm,?_⟩
  rintro⟨p,⟨⟩⟩ hp
  have ep:p=Z8g n F i j:=congrArg Prod.fst hp
  have pb:Bd 96 p:=by rw[ep]; exact Z1n9 hm
  refine⟨⟨f0,by show F<6; omega⟩,wo o,?_⟩
  rintro⟨v2,⟨⟩⟩ hv2
  have e2:v2=outF (Z11 F) o:=congrArg Prod.fst hv2
  have vb:Bd 1 v2:=by rw[e2]; exact Z1tj f0 f5 o
  refine⟨⟨pb.mono (by decide),vb.mono (by decide)⟩,?_⟩
  rintro⟨q,⟨⟩⟩ hq
  have eq:q=Zd4 p v2:=congrArg Prod.fst hq
  have ql:q.length=3:=by rw[eq]; rfl
  have qb:Bd 97 q:=by rw[eq]; exact Zv0 pb vb
  refine⟨⟨rfl,ql⟩,ql,⟨by decide,by decide,Nat.le_of_eq fl.symm⟩,⟨qb.mono (by decide),(tb 1).mono (by decide)⟩,?_⟩
  rintro⟨d1,⟨⟩⟩ hd1
  have ed1:d1=dotW q (Z2f (Z11 t) 1):=congrArg Prod.fst hd1
  have db1:=Z1n8 qb (tb 1)
  rw[← ed1]at db1
  refine⟨⟨n1,n2,by omega,by omega⟩,?_⟩
  rintro⟨x1,⟨⟩⟩ hx1
  have ex1:x1=Z4l n d1:=congrArg Prod.fst hx1
  have xb1:=Z17t (a:=d1) n1
  rw[← ex1]at xb1
  refine⟨ql,⟨by decide,by decide,Nat.le_of_eq fl.symm⟩,⟨qb.mono (by decide),(tb 2).mono (by decide)⟩,?_⟩
  rintro⟨d2,⟨⟩⟩ hd2
  have ed2:d2=dotW q (Z2f (Z11 t) 2):=congrArg Prod.fst hd2
  have db2:=Z1n8 qb (tb 2)
  rw[← ed2]at db2
  refine⟨⟨n1,n2,by omega,by omega⟩,?_⟩
  rintro⟨x2,⟨⟩⟩ hx2
  have ex2:x2=Z4l n d2:=congrArg Prod.fst hx2
  have xb2:=Z17t (a:=d2) n1
  rw[← ex2]at xb2
  refine⟨⟨h.1,i6 (by omega) (by omega),i6 (by omega) (by omega),i6 (by omega) (by omega)⟩,?_⟩
  rintro⟨cc,⟨⟩⟩ hcc
  have ecc:cc=Z2a n t x1 x2:=congrArg Prod.fst hcc
  have hov:Z1 n c o=Zd5 (Z11 t) (Z2f (Z11 F) 0) cc 4 0:=by
   rw[hb,ecc,ex1,ex2,ed1,ed2,eq,ep,e2,et]; rfl
  refine⟨rfl,fun x _=>∃ k:Nat,x.1=k∧k≤4∧Z1 n c o=Zd5 (Z11 t) (Z2f (Z11 F) 0) cc (4 - k) k,fun x _=>4 - x.1.toNat,⟨0,rfl,by omega,hov⟩,?_⟩
  rintro⟨_,⟨⟩⟩ _ ⟨k,rfl,hk,hi⟩
  dsimp only
  rintro _ rfl
  refine Br.intro (fun g=>?_) fun g=>?_
  ·have g:k<4:=by have g:(k:Int)<4:=of_decide_eq_true g; omega
   refine⟨fl,⟨(tb 1).mono (by decide),(tb 2).mono (by decide)⟩,?_⟩
   rintro⟨v3,⟨⟩⟩ hv3
   have e3:v3=outF (Z11 t) k:=congrArg Prod.fst hv3
   refine⟨⟨f0,by show F<6; omega⟩,⟨by decide,by decide⟩,?_⟩
   intro z hz
   have hz:z=decide (outF (Z11 t) k=Z2f (Z11 F) 0):=by rw[← e3]; exact hz
   obtain⟨r,hr⟩:∃ r,4 - k=r+1:=⟨3 - k,by omega⟩
   rw[hr]at hi
   unfold Zd5 at hi
   rw[hz,Z12 g (by omega)]
   refine Br.intro (fun y=>?_) fun y=>?_
   ·rw[if_pos (of_decide_eq_true y)]at hi
    unfold Z5g; rw[hi]
   ·rw[if_neg (of_decide_eq_false y)]at hi
    exact⟨rfl,⟨k+1,rfl,by omega,by rw[show 4 - (k+1)=r by omega]; exact hi⟩,by omega⟩
  ·have g:k=4:=by have g:¬ (k:Int)<4:=of_decide_eq_false g; omega
   subst g
   have hi:Z1 n c o=(-1,0):=hi
   unfold Z5g; rw[hi]
 ·rw[Z1dh ok]
  refine Br.intro (fun _=>no ?_) fun e=>absurd e (by decide)
  unfold Zh; rw[show Ze n c=false by simpa using ok]; rfl
end Go.Lift

namespace Go.Lift
def Zf7:=fun(a:List Int)(k:Int)(post:List Int × Unit→Prop)=>∃(h:(0:Int)≤(0:Int)∧(0:Int)<(↑(3:Nat):Int)∧(3:Nat)≤a.length),∃(h
 : (0:Int)≤(1:Int)∧(1:Int)<(↑(3:Nat):Int)∧(3:Nat)≤a.length),∃(h:(0:Int)≤(2:Int)∧(2:Int)<(↑(3:Nat):Int)∧(3:Nat)≤a.length),∃(h:
 (List.replicate (3:Nat) (0:Int)).length=(3:Nat)∧(3:Nat)=(3:Nat)),∃(h:(3:Nat)=(3:Nat)),post ([i64.wrap (k*a.getD (Int.toNat (0:Int)) (0:
 Int)),i64.wrap (k*a.getD (Int.toNat (1:Int)) (0:Int)),i64.wrap (k*a.getD (Int.toNat (2:Int)) (0:Int))],())
theorem Zvp(a:List Int)(k:Int)(h:Z74 a k)(w:KS.wf [kWay,.int .i64] (a,k,())):Zf7  a k (fun r=>r=Ze1 a k):=by
 have hl:a.length=3:=w.1.1
 obtain⟨hb,k1,k2⟩:=h
 have W:∀ i:Nat,i64.wrap (k*a.getD i 0)=k*a.getD i 0:=fun i=>by
  have:=Ze3 k1 k2 (hb i).1 (hb i).2
  exact wi ⟨by omega,by omega⟩
 refine⟨⟨by decide,by decide,by omega⟩,⟨by decide,by decide,by omega⟩,⟨by decide,by decide,by omega⟩,⟨rfl,rfl⟩,rfl,?_⟩
 show([i64.wrap (k*a.getD 0 0),i64.wrap (k*a.getD 1 0),i64.wrap (k*a.getD 2 0)],())=Ze1 a k
 rw[W,W,W]; rfl
def Zhn:=fun(a b:List Int)(post:List Int × Unit→Prop)=>∃(h:(0:Int)≤(0:Int)∧(0:Int)<(↑(3:Nat):Int)∧(3:Nat)≤a.length),∃(h:(0:
 Int)≤(0:Int)∧(0:Int)<(↑(3:Nat):Int)∧(3:Nat)≤b.length),∃(h:(0:Int)≤(1:Int)∧(1:Int)<(↑(3:Nat):Int)∧(3:Nat)≤a.length),∃(h:(0:Int)
 ≤ (1:Int)∧(1:Int)<(↑(3:Nat):Int)∧(3:Nat)≤b.length),∃(h:(0:Int)≤(2:Int)∧(2:Int)<(↑(3:Nat):Int)∧(3:Nat)≤a.length),∃(h:(0:Int)≤(2
 : Int)∧(2:Int)<(↑(3:Nat):Int)∧(3:Nat)≤b.length),∃(h:(List.replicate (3:Nat) (0:Int)).length=(3:Nat)∧(3:Nat)=(3:Nat)),∃(h:(3:Nat)=(3:
 Nat)),post ([i64.wrap (a.getD (Int.toNat (0:Int)) (0:Int)+b.getD (Int.toNat (0:Int)) (0:Int)),i64.wrap (a.getD (Int.toNat (1:Int)) (0:Int)+b.getD
 (Int.toNat (1:Int)) (0:Int)),i64.wrap (a.getD (Int.toNat (2:Int)) (0:Int)+b.getD (Int.toNat (2:Int)) (0:Int))],())
theorem Zy7(a:List Int)(b:List Int)(h:Z10p a b)(w:KS.wf [kWay,kWay] (a,b,())):Zhn  a b (fun r=>r=Zuy a b):=by
 have hl:a.length=3:=w.1.1
 have hm:b.length=3:=w.2.1.1
 obtain⟨ha,hb⟩:=h
 have W:∀ i:Nat,i64.wrap (a.getD i 0+b.getD i 0)=a.getD i 0+b.getD i 0:=fun i=>by
  have:=ha i; have:=hb i
  exact wi ⟨by omega,by omega⟩
 refine⟨⟨by decide,by decide,by omega⟩,⟨by decide,by decide,by omega⟩,⟨by decide,by decide,by omega⟩,⟨by decide,by decide,by omega⟩,⟨by decide,by decide,by omega⟩,⟨by decide,by decide,by omega⟩,⟨rfl,rfl⟩,rfl,?_⟩
 show([i64.wrap (a.getD 0 0+b.getD 0 0),i64.wrap (a.getD 1 0+b.getD 1 0),i64.wrap (a.getD 2 0+b.getD 2 0)],())=Zuy a b
 rw[W,W,W]; rfl
def Zjd:=fun(a b:List Int)(post:Int × Unit→Prop)=>∃(h:(0:Int)≤(0:Int)∧(0:Int)<(↑(3:Nat):Int)∧(3:Nat)≤a.length),∃(h:(0:Int)≤
 (0:Int)∧(0:Int)<(↑(3:Nat):Int)∧(3:Nat)≤b.length),∃(h:(0:Int)≤(1:Int)∧(1:Int)<(↑(3:Nat):Int)∧(3:Nat)≤a.length),∃(h:(0:Int)≤(1:
 Int)∧(1:Int)<(↑(3:Nat):Int)∧(3:Nat)≤b.length),∃(h:(0:Int)≤(2:Int)∧(2:Int)<(↑(3:Nat):Int)∧(3:Nat)≤a.length),∃(h:(0:Int)≤(2:Int)
 ∧ (2:Int)<(↑(3:Nat):Int)∧(3:Nat)≤b.length),post (i64.wrap (i64.wrap (i64.wrap (a.getD (Int.toNat (0:Int)) (0:Int)*b.getD (Int.toNat (0
 : Int)) (0:Int))+i64.wrap (a.getD (Int.toNat (1:Int)) (0:Int)*b.getD (Int.toNat (1:Int)) (0:Int)))+i64.wrap (a.getD (Int.toNat (2:Int)) (0:Int)
 * b.getD (Int.toNat (2:Int)) (0:Int))),())
theorem Z126(a:List Int)(b:List Int)(h:WDot a b)(w:KS.wf [kWay,kWay] (a,b,())):Zjd  a b (fun r=>r=dotR a b):=by
 have hl:a.length=3:=w.1.1
 have hm:b.length=3:=w.2.1.1
 obtain⟨ha,hb⟩:=h
 have M:∀ i:Nat,-(1048576*1048576)≤a.getD i 0*b.getD i 0∧a.getD i 0*b.getD i 0≤1048576*1048576:=fun i=>Ze3 (ha i).1 (ha i).2 (hb i).1 (hb i).2
 have m0:=M 0
 have m1:=M 1
 have m2:=M 2
 refine⟨⟨by decide,by decide,by omega⟩,⟨by decide,by decide,by omega⟩,⟨by decide,by decide,by omega⟩,⟨by decide,by decide,by omega⟩,⟨by decide,by decide,by omega⟩,⟨by decide,by decide,by omega⟩,?_⟩
 show(i64.wrap (i64.wrap (i64.wrap (a.getD 0 0*b.getD 0 0)+i64.wrap (a.getD 1 0*b.getD 1 0))+i64.wrap (a.getD 2 0*b.getD 2 0)),())=dotR a b
 rw[wi (x:=a.getD 0 0*b.getD 0 0) ⟨by omega,by omega⟩,wi (x:=a.getD 1 0*b.getD 1 0) ⟨by omega,by omega⟩,wi (x:=a.getD 2 0*b.getD 2 0) ⟨by omega,by omega⟩,wi (x:=a.getD 0 0*b.getD 0 0+a.getD 1 0*b.getD 1 0) ⟨by omega,by omega⟩,wi ⟨by omega,by omega⟩]
 rfl
def Zf8:=fun(f:List (List Int))(s:Int)(post:List Int × Unit→Prop)=>∀ a,a=(s==(0:Int))→Br a (∃(h:(0:Int)≤(1:Int)∧(1:Int)<(↑(3:
 Nat):Int)∧(3:Nat)≤f.length),∃(h:(List.replicate (3:Nat) (0:Int)).length=(3:Nat)∧List.length (f.getD (Int.toNat (1:Int)) (K.arr (3:Nat) (K.int
 i64)).dflt)=(3:Nat)),∃(h:List.length (f.getD (Int.toNat (1:Int)) (K.arr (3:Nat) (K.int i64)).dflt)=(3:Nat)),post (f.getD (Int.toNat (1:Int))
 (K.arr (3:Nat) (K.int i64)).dflt,())) (∀ a,a=(s==(1:Int))→Br a (∃(h:(0:Int)≤(2:Int)∧(2:Int)<(↑(3:Nat):Int)∧(3:Nat)≤f.length),∃(h:
 (List.replicate (3:Nat) (0:Int)).length=(3:Nat)∧List.length (f.getD (Int.toNat (2:Int)) (K.arr (3:Nat) (K.int i64)).dflt)=(3:Nat)),∃(h:List.length
 (f.getD (Int.toNat (2:Int)) (K.arr (3:Nat) (K.int i64)).dflt)=(3:Nat)),post (f.getD (Int.toNat (2:Int)) (K.arr (3:Nat) (K.int i64)).dflt,())) (∀ a,a
 = (s==(2:Int))→Br a (∃(h:(0:Int)≤(1:Int)∧(1:Int)<(↑(3:Nat):Int)∧(3:Nat)≤f.length),∃(h:Z74 (f.getD (Int.toNat (1:Int)) (K.arr (3:Nat)
 (K.int i64)).dflt) (-1:Int)),∀ a,a=Ze1 (f.getD (Int.toNat (1:Int)) (K.arr (3:Nat) (K.int i64)).dflt) (-1:Int)→∃(h:(List.replicate (3:Nat) (0
 : Int)).length=(3:Nat)∧a.1.length=(3:Nat)),∃(h:a.1.length=(3:Nat)),post (a.1,())) (∃(h:(0:Int)≤(2:Int)∧(2:Int)<(↑(3:Nat):Int)∧(3:Nat)≤
 f.length),∃(h:Z74 (f.getD (Int.toNat (2:Int)) (K.arr (3:Nat) (K.int i64)).dflt) (-1:Int)),∀ a,a=Ze1 (f.getD (Int.toNat (2:Int)) (K.arr (3:Nat)
 (K.int i64)).dflt) (-1:Int)→∃(h:(List.replicate (3:Nat) (0:Int)).length=(3:Nat)∧a.1.length=(3:Nat)),∃(h:a.1.length=(3:Nat)),post (a.1,()))))
theorem Zvq(f:List (List Int))(s:Int)(h:WOut f s)(w:KS.wf [Z1my,.int .i64] (f,s,())):Zf8  f s (fun r=>r=outR f s):=by
 have hl:f.length=3:=w.1.1
 have hm:∀ i,(Z2f f i).length=3:=fun i=>by
  unfold Z2f
  rcases Nat.lt_or_ge i f.length with g | g
  ·exact(w.1.2 _ (Zw g [0,0,0])).1
  ·rw[List.getD_eq_getElem?_getD,List.getElem?_eq_none g]; rfl
 obtain⟨h1,h2⟩:=h
 have t1:Z74 (Z2f f 1) (-1):=⟨h1,by decide,by decide⟩
 have t2:Z74 (Z2f f 2) (-1):=⟨h2,by decide,by decide⟩
 rintro _ rfl
 refine Br.intro (fun e=>?_) fun e=>?_
 ·have e:s=0:=beq_iff_eq.1 e
  exact⟨⟨by decide,by decide,by omega⟩,⟨rfl,hm 1⟩,hm 1,congrArg r1 (by unfold outF; rw[if_pos e]; rfl)⟩
 have e:¬ s=0:=fun q=>by rw[q]at e; cases e
 rintro _ rfl
 refine Br.intro (fun g=>?_) fun g=>?_
 ·have g:s=1:=beq_iff_eq.1 g
  exact⟨⟨by decide,by decide,by omega⟩,⟨rfl,hm 2⟩,hm 2,congrArg r1 (by unfold outF; rw[if_neg e,if_pos g]; rfl)⟩
 have g:¬ s=1:=fun q=>by rw[q]at g; cases g
 rintro _ rfl
 refine Br.intro (fun j=>?_) fun j=>?_
 ·have j:s=2:=beq_iff_eq.1 j
  refine⟨⟨by decide,by decide,by omega⟩,t1,?_⟩
  rintro _ rfl
  exact⟨⟨rfl,rfl⟩,rfl,congrArg r1 (by unfold outF; rw[if_neg e,if_neg g,if_pos j]; rfl)⟩
 have j:¬ s=2:=fun q=>by rw[q]at j; cases j
 refine⟨⟨by decide,by decide,by omega⟩,t2,?_⟩
 rintro _ rfl
 exact⟨⟨rfl,rfl⟩,rfl,congrArg r1 (by unfold outF; rw[if_neg e,if_neg g,if_neg j]; rfl)⟩
def Zje(ty158:Nat)(c:List Int):List HObj:=[HObj.row Md.rw ty158 (K.int i64) c]
def Zld:=fun(ty158:Nat)(c:List Int)(post:Int × Unit→Prop)=>HS (Zje ty158 c)∧∃(I:Int × Unit→Unit→Prop),∃(μ:Int × Unit→Unit→
 Nat),I ((0:Int),()) ()∧∀(x:Int × Unit)(y:Unit),I x y→∀ a,a=decide (x.1<(6:Int))→Br a (∃(h:(0:Int)≤x.1∧x.1<(↑(6:Nat):Int)),∃(h:(0:Int)
 ≤ (0:Int)∧(0:Int)<(↑(3:Nat):Int)),∃(h:c.length=(3:Nat)),∀ a,a=eqL (List.getD (Zo.getD x.1.toNat (K.arr (3:Nat) (K.arr (3:Nat) (K.int
 i64))).dflt) (Int.toNat (0:Int)) (K.arr (3:Nat) (K.int i64)).dflt) c→Br a (post (x.1,())) (HS (Zje ty158 c)∧I (i64.wrap (x.1+(1:
 Int)),()) ()∧μ (i64.wrap (x.1+(1:Int)),()) ()<μ x y)) (post ((-1:Int),()))
theorem Z15b(ty0:Nat)(c:List Int)(w:KS.wf [kWay] (c,())):Zld ty0 c (fun r=>r=Z14u c):=by
 have hl:c.length=3:=w.1.1
 refine⟨rfl,fun x _=>∃ k:Nat,x.1=k∧k≤6∧Z4v c=Zdx (fun fr=>decide (Z2f fr 0=c)) k (Zo.drop k),fun x _=>6 - x.1.toNat,⟨0,rfl,by omega,rfl⟩,?_⟩
 rintro⟨_,⟨⟩⟩ _ ⟨k,rfl,hk,hi⟩
 dsimp only
 rintro _ rfl
 refine Br.intro (fun e=>?_) fun e=>?_
 ·have e:k<6:=by have e:(k:Int)<6:=of_decide_eq_true e; omega
  refine⟨⟨by omega,by show(k:Int)<6; omega⟩,⟨by decide,by decide⟩,hl,?_⟩
  rw[Zit (l:=Zo) (i:=k) e [[0,0,0],[0,0,0],[0,0,0]],Zkn]at hi
  rw[Int.toNat_natCast,Z12 e (by omega)]
  intro z hz
  have hz:z=decide (Z2f (Zo.getD k [[0,0,0],[0,0,0],[0,0,0]]) 0=c):=hz
  rw[hz]
  refine Br.intro (fun g=>?_) fun g=>?_
  ·rw[if_pos g]at hi
   exact congrArg r1 hi.symm
  ·rw[if_neg (by rw[g]; decide)]at hi
   exact⟨rfl,⟨k+1,rfl,by omega,hi⟩,by omega⟩
 ·have e:k=6:=by have e:¬ (k:Int)<6:=of_decide_eq_false e; omega
  subst e
  exact congrArg r1 (by rw[hi]; rfl)
def Zsz:=fun(n f i j:Int)(post:Int × Unit→Prop)=>∃(h:True),∀ a,a=(Z10i n).1→Br (!a) (post ((-1:Int),())) (∀ a,a=decide (f<(0:Int))→Br a
 (post ((-1:Int),())) (∀ a,a=decide (f≥(6:Int))→Br a (post ((-1:Int),())) (∀ a,a=decide (i<(0:Int))→Br a (post ((-1:Int),())) (∀ a,a=decide (i≥n)→
 Br a (post ((-1:Int),())) (∀ a,a=decide (j<(0:Int))→Br a (post ((-1:Int),())) (∀ a,a=decide (j≥n)→Br a (post ((-1:Int),())) (post (i64.wrap
 (i64.wrap (i64.wrap (i64.wrap (f*n)+j)*n)+i),()))))))))
theorem Z1er(n:Int)(f:Int)(i:Int)(j:Int)(h:IIII n f i j):Zsz  n f i j (fun r=>r=Zuz n f i j):=by
 obtain⟨hn,hf,hi,hj⟩:=h
 have no:Z5q n f i j=false→((-1:Int),())=Zuz n f i j:=fun q=>congrArg r1 (by unfold Z2a; rw[if_neg (by rw[q]; decide)])
 have ok:∀ p,(Z22 n&&decide (0≤f)&&decide (f<6)&&decide (0≤i)&&decide (i<n)&&decide (0≤j)&&decide (j<n))=p→Z5q n f i j=p:=fun p q=>q
 refine⟨trivial,?_⟩
 intro g hg
 have hg:g=Z22 n:=hg
 rw[hg]
 refine Br.intro (fun e=>no (ok _ ?_)) fun e=>?_
 ·have e:Z22 n=false:=by simpa using e
  rw[e]; rfl
 have e:Z22 n=true:=by simpa using e
 rintro _ rfl
 refine Br.intro (fun q=>no (ok _ ?_)) fun q=>?_
 ·rw[decide_eq_false (p:=0≤f) (by have:=of_decide_eq_true q; omega)]; simp
 have q1:=of_decide_eq_false q
 rintro _ rfl
 refine Br.intro (fun q=>no (ok _ ?_)) fun q=>?_
 ·rw[decide_eq_false (p:=f<6) (by have:=of_decide_eq_true q; omega)]; simp
 have q2:=of_decide_eq_false q
 rintro _ rfl
 refine Br.intro (fun q=>no (ok _ ?_)) fun q=>?_
 ·rw[decide_eq_false (p:=0≤i) (by have:=of_decide_eq_true q; omega)]; simp
 have q3:=of_decide_eq_false q
 rintro _ rfl
 refine Br.intro (fun q=>no (ok _ ?_)) fun q=>?_
 ·rw[decide_eq_false (p:=i<n) (by have:=of_decide_eq_true q; omega)]; simp
 have q4:=of_decide_eq_false q
 rintro _ rfl
 refine Br.intro (fun q=>no (ok _ ?_)) fun q=>?_
 ·rw[decide_eq_false (p:=0≤j) (by have:=of_decide_eq_true q; omega)]; simp
 have q5:=of_decide_eq_false q
 rintro _ rfl
 refine Br.intro (fun q=>no (ok _ ?_)) fun q=>?_
 ·rw[decide_eq_false (p:=j<n) (by have:=of_decide_eq_true q; omega)]; simp
 have q6:=of_decide_eq_false q
 have hok:Z5q n f i j=true:=by
  unfold Z5q
  rw[e,decide_eq_true (p:=0≤f) (by omega),decide_eq_true (p:=f<6) (by omega),decide_eq_true (p:=0≤i) (by omega),decide_eq_true (p:=i<n) (by omega),decide_eq_true (p:=0≤j) (by omega),decide_eq_true (p:=j<n) (by omega)]; rfl
 obtain⟨r0,r1',n1,n2⟩:=Znr hok
 have hv:Z2a n f i j=(f*n+j)*n+i:=by unfold Z2a; rw[if_pos hok]
 rw[hv]at r0 r1'
 have sq:=Zux n1 n2
 have b1:0≤f*n:=Int.mul_nonneg (by omega) (by omega)
 have b2:f*n≤5*n:=Int.mul_le_mul_of_nonneg_right (by omega) (by omega)
 have b3:0≤(f*n+j)*n:=Int.mul_nonneg (by omega) (by omega)
 rw[wi (x:=f*n) ⟨by omega,by omega⟩,wi (x:=f*n+j) ⟨by omega,by omega⟩,wi (x:=(f*n+j)*n) ⟨by omega,by omega⟩,wi (x:=(f*n+j)*n+i) ⟨by omega,by omega⟩]
 exact congrArg r1 hv.symm
def Zch:=fun(n f i j:Int)(post:List Int × Unit→Prop)=>∃(h:(0:Int)≤f∧f<(↑(6:Nat):Int)),∃(h:(List.replicate (3:Nat) (K.arr (3:Nat) (K.int
 i64)).dflt).length=(3:Nat)∧List.length (Zo.getD f.toNat (K.arr (3:Nat) (K.arr (3:Nat) (K.int i64))).dflt)=(3:Nat)),∃(h:(0:Int)≤(0:Int)
 ∧ (0:Int)<(↑(3:Nat):Int)∧(3:Nat)≤List.length (Zo.getD f.toNat (K.arr (3:Nat) (K.arr (3:Nat) (K.int i64))).dflt)),∃(h:Z74 (List.getD
 (Zo.getD f.toNat (K.arr (3:Nat) (K.arr (3:Nat) (K.int i64))).dflt) (Int.toNat (0:Int)) (K.arr (3:Nat) (K.int i64)).dflt) n),∀ a,a=Ze1
 (List.getD (Zo.getD f.toNat (K.arr (3:Nat) (K.arr (3:Nat) (K.int i64))).dflt) (Int.toNat (0:Int)) (K.arr (3:Nat) (K.int i64)).dflt) n→∃(h:(0:
 Int)≤(1:Int)∧(1:Int)<(↑(3:Nat):Int)∧(3:Nat)≤List.length (Zo.getD f.toNat (K.arr (3:Nat) (K.arr (3:Nat) (K.int i64))).dflt)),∃(h:Z74
 (List.getD (Zo.getD f.toNat (K.arr (3:Nat) (K.arr (3:Nat) (K.int i64))).dflt) (Int.toNat (1:Int)) (K.arr (3:Nat) (K.int i64)).dflt) (i64.wrap
 (i64.wrap (i64.wrap ((2:Int)*i)+(1:Int)) - n))),∀ a_1,a_1=Ze1 (List.getD (Zo.getD f.toNat (K.arr (3:Nat) (K.arr (3:Nat) (K.int
 i64))).dflt) (Int.toNat (1:Int)) (K.arr (3:Nat) (K.int i64)).dflt) (i64.wrap (i64.wrap (i64.wrap ((2:Int)*i)+(1:Int)) - n))→∃
 (h:Z10p a.1 a_1.1),∀ a_2,a_2=Zuy a.1 a_1.1→∃(h:(0:Int)≤(2:Int)∧(2:Int)<(↑(3:Nat):Int)∧(3:Nat)≤List.length (Zo.getD f.toNat (K.arr (3:
 Nat) (K.arr (3:Nat) (K.int i64))).dflt)),∃(h:Z74 (List.getD (Zo.getD f.toNat (K.arr (3:Nat) (K.arr (3:Nat) (K.int i64))).dflt) (Int.toNat (2:
 Int)) (K.arr (3:Nat) (K.int i64)).dflt) (i64.wrap (i64.wrap (i64.wrap ((2:Int)*j)+(1:Int)) - n))),∀ a,a=Ze1 (List.getD
 (Zo.getD f.toNat (K.arr (3:Nat) (K.arr (3:Nat) (K.int i64))).dflt) (Int.toNat (2:Int)) (K.arr (3:Nat) (K.int i64)).dflt) (i64.wrap
 (i64.wrap (i64.wrap ((2:Int)*j)+(1:Int)) - n))→∃(h:Z10p a_2.1 a.1),∀ a_3,a_3=Zuy a_2.1 a.1→∃(h:(List.replicate (3:Nat) (0:Int)).length
 = (3:Nat)∧a_3.1.length=(3:Nat)),∃(h:a_3.1.length=(3:Nat)),post (a_3.1,())
theorem Z15c(n:Int)(f:Int)(i:Int)(j:Int)(h:Z2z n f i j):Zch  n f i j (fun r=>r=Zxz n f i j):=by
 have hh:=h
 obtain⟨n1,n2,f0,f5,i0,i1,j0,j1⟩:=h
 have fl:(Zo.getD f.toNat (K.arr (3:Nat) (K.arr (3:Nat) (K.int i64))).dflt).length=3:=Z17s f0 f5
 have b:=Z63 f0 f5
 have t0:Z74 (Z2f (Z11 f) 0) n:=⟨(b 0).mono (by decide),by omega,by omega⟩
 have w1:i64.wrap (i64.wrap (i64.wrap (2*i)+1) - n)=2*i+1 - n:=by
  rw[wi (x:=2*i) ⟨by omega,by omega⟩,wi (x:=2*i+1) ⟨by omega,by omega⟩,wi ⟨by omega,by omega⟩]
 have w2:i64.wrap (i64.wrap (i64.wrap (2*j)+1) - n)=2*j+1 - n:=by
  rw[wi (x:=2*j) ⟨by omega,by omega⟩,wi (x:=2*j+1) ⟨by omega,by omega⟩,wi ⟨by omega,by omega⟩]
 unfold Zch
 rw[w1,w2]
 have t1:Z74 (Z2f (Z11 f) 1) (2*i+1 - n):=⟨(b 1).mono (by decide),by omega,by omega⟩
 have t2:Z74 (Z2f (Z11 f) 2) (2*j+1 - n):=⟨(b 2).mono (by decide),by omega,by omega⟩
 have c0:=Z7u (q:=32) (b 0) (k:=n) (by omega) (by omega)
 have c1:=Z7u (q:=32) (b 1) (k:=2*i+1 - n) (by omega) (by omega)
 have c2:=Z7u (q:=32) (b 2) (k:=2*j+1 - n) (by omega) (by omega)
 have p1:=Zv0 c0 c1
 refine⟨⟨f0,by show f<6; omega⟩,⟨rfl,fl⟩,⟨by decide,by decide,by omega⟩,t0,?_⟩
 rintro _ rfl
 refine⟨⟨by decide,by decide,by omega⟩,t1,?_⟩
 rintro _ rfl
 refine⟨⟨c0.mono (by decide),c1.mono (by decide)⟩,?_⟩
 rintro _ rfl
 refine⟨⟨by decide,by decide,by omega⟩,t2,?_⟩
 rintro _ rfl
 refine⟨⟨p1.mono (by decide),c2.mono (by decide)⟩,?_⟩
 rintro _ rfl
 exact⟨⟨rfl,rfl⟩,rfl,rfl⟩
def Zov:=fun(n a:Int)(post:Int × Unit→Prop)=>∃(h:(2:Int)≠(0:Int)),post (imin (imax (i64.wrap ((i64.wrap (i64.wrap (a+n) -
 (1:Int))).tdiv (2:Int))) (0:Int)) (i64.wrap (n - 1)),())
theorem Z19t(n:Int)(a:Int)(h:Z10r n a):Zov  n a (fun r=>r=Z10q n a):=by
 obtain⟨n1,n2,a1,a2⟩:=h
 have w1:i64.wrap (i64.wrap (a+n) - 1)=a+n - 1:=by
  rw[wi (x:=a+n) ⟨by omega,by omega⟩,wi ⟨by omega,by omega⟩]
 have w2:i64.wrap (n - 1)=n - 1:=wi ⟨by omega,by omega⟩
 have w3:i64.wrap (Int.tdiv (a+n - 1) 2)=Int.tdiv (a+n - 1) 2:=by
  have:(Int.tdiv (a+n - 1) 2).natAbs≤(a+n - 1).natAbs:=by rw[Int.natAbs_tdiv]; exact Nat.div_le_self _ _
  exact wi ⟨by omega,by omega⟩
 exact⟨by decide,by rw[w1,w2,w3]; rfl⟩
end Go.Lift

namespace Go.Lift
open Go.Proofs
def Zws:Cx:=⟨Z1t Z23,Z21 [(102,Zet)],SqG⟩
theorem Zle:CxOk Tryz.prog Zws:=⟨Zn Zy,Zu ⟨Zot,trivial⟩⟩
def Zeh:Con:=Con.nam [kWay,.int .i64] [.snap kWay] (fun x=>Z74 x.1 x.2.1) (fun x=>Ze1 x.1 x.2.1)
theorem Zt0:SqH Zeh 177:=
 nP Zle Z3 Zd nHn Tryz.func177 (fun x p=>Zf7  x.1 x.2.1 p) fun x h w=>Zvp  x.1 x.2.1 h w
def Zwt:Cx:=addC 177 Zeh Zws
theorem Zlf:CxOk Tryz.prog Zwt:=Zm Zle Zt0
def Z8r:Con:=Con.nam [kWay,kWay] [.snap kWay] (fun x=>Z10p x.1 x.2.1) (fun x=>Zuy x.1 x.2.1)
theorem Zf9:SqH Z8r 109:=
 nP Zlf Z3 Zd nHn Tryz.func109 (fun x p=>Zhn  x.1 x.2.1 p) fun x h w=>Zy7  x.1 x.2.1 h w
def Z1go:Cx:=addC 109 Z8r Zwt
theorem Z4z:CxOk Tryz.prog Z1go:=Zm Zlf Zf9
def Zho:Con:=Con.nam [kWay,kWay] [.snap (.int .i64)] (fun x=>WDot x.1 x.2.1) (fun x=>dotR x.1 x.2.1)
theorem Zy8:SqH Zho 111:=
 nP Z4z Z3 Zd nHn Tryz.func111 (fun x p=>Zjd  x.1 x.2.1 p) fun x h w=>Z126  x.1 x.2.1 h w
def Zei:Con:=Con.nam [Z1my,.int .i64] [.snap kWay] (fun x=>WOut x.1 x.2.1) (fun x=>outR x.1 x.2.1)
theorem Zt1:SqH Zei 107:=
 nP Z4z Z3 Zd nHn Tryz.func107 (fun x p=>Zf8  x.1 x.2.1 p) fun x h w=>Zvq  x.1 x.2.1 h w
def Zjf:Con:=Con.nam [kWay] [.snap (.int .i64)] (fun _=>True) (fun x=>Z14u x.1)
theorem Z127:SqH Zjf 106:=
 nP Z4z Z3 Zd ({loops:=Z10 [(2,{ls:=[(.slot 4,.data (.int .i64))],os:=[]})],joins:=fun _=>none,named:=true}) Tryz.func106 (fun x p=>Zld 158 x.1 p) fun x _ w=>Z15b 158 x.1 w
def Zow:Con:=Con.nam [.int .i64,.int .i64,.int .i64,.int .i64] [.snap (.int .i64)] (fun x=>IIII x.1 x.2.1 x.2.2.1 x.2.2.2.1) (fun x=>Zuz x.1 x.2.1 x.2.2.1 x.2.2.2.1)
theorem Z19u:SqH Zow 105:=
 nP Z4z Z3 Zd nHn Tryz.func105 (fun x p=>Zsz  x.1 x.2.1 x.2.2.1 x.2.2.2.1 p) fun x h _=>Z1er  x.1 x.2.1 x.2.2.1 x.2.2.2.1 h
def Zjg:Con:=Con.nam [.int .i64,.int .i64,.int .i64,.int .i64] [.snap kWay] (fun x=>Z2z x.1 x.2.1 x.2.2.1 x.2.2.2.1) (fun x=>Zxz x.1 x.2.1 x.2.2.1 x.2.2.2.1)
theorem Z128:SqH Zjg 108:=
 nP Z4z Z3 Zd nHn Tryz.func108 (fun x p=>Zch  x.1 x.2.1 x.2.2.1 x.2.2.2.1 p) fun x h _=>Z15c  x.1 x.2.1 x.2.2.1 x.2.2.2.1 h
def Zlg:Con:=Con.nam [.int .i64,.int .i64] [.snap (.int .i64)] (fun x=>Z10r x.1 x.2.1) (fun x=>Z10q x.1 x.2.1)
theorem Z15d:SqH Zlg 110:=
 nP Z4z Z3 Zd nHn Tryz.func110 (fun x p=>Zov  x.1 x.2.1 p) fun x h _=>Z19t  x.1 x.2.1 h
end Go.Lift

namespace Go.Lift
open Go.Proofs
def Z1es:Cx:=⟨Z1t Z23,Z21 [(104,Z8o),(105,Zow),(107,Zei),(106,Zjf),(108,Zjg),(109,Z8r),(111,Zho),(110,Zlg)],SqG⟩
theorem Z129:CxOk Tryz.prog Z1es:=⟨Zn Zy,Zu ⟨Zcg,Z19u,Zt1,Z127,Z128,Zf9,Zy8,Z15d,trivial⟩⟩
def Zb4:Con:=Con.nam [.int .i64,.int .i64,.int .i64] [.snap (.int .i64),.snap (.int .i64)] (fun x=>III x.1 x.2.1 x.2.2.1) (fun x=>Z5g x.1 x.2.1 x.2.2.1)
theorem Zjh:SqH Zb4 51:=
 nP Z129 Z3 Zd ({loops:=Z10 [(13,{ls:=[(.slot 98,.data (.int .i64))],os:=[]})],joins:=fun _=>none,named:=true}) Tryz.func51 (fun x p=>Zlc 154 160 158 x.1 x.2.1 x.2.2.1 p) fun x h _=>Z15a 154 160 158 x.1 x.2.1 x.2.2.1 h
end Go.Lift

namespace Go.Lift
def Zox:=fun(a b:Int)(post:Nat × Unit→Prop)=>∀(a_1:Nat),FRes f64 (f64.format.div (f64.nearest a)
 (f64.nearest b)) a_1→post (a_1,())
theorem Z19v(a:Int)(b:Int)(h:Zh9 a b):Zox  a b (fun r=>r=Z3z a b):=by
 intro r hr
 exact congrArg r1 (Z1i0 h.1 h.2.1 h.2.2 hr)
def Z15e(ty166:Nat)(ty236:Nat)(s:Nat)(t:Nat):List HObj:=[HObj.box Md.rw ty166 [SV.val (Go.Value.float f64 (0:Nat)),SV.val (Go.Value.float f64 (0:Nat)),SV.val (Go.Value.float f64 (0:Nat))],HObj.row Md.rw ty236 (K.flt f64) ((List.replicate (3:Nat) (0:Nat)).set (Int.toNat (0:Int)) (Zt ([(4607182418800017408:Nat),s,t].getD (Int.toNat (0:Int)) (0:Nat))).1)]
def Z15f(ty166:Nat)(ty236:Nat)(s:Nat)(t:Nat):List HObj:=[HObj.box Md.rw ty166 [SV.val (Go.Value.float f64 (0:Nat)),SV.val (Go.Value.float f64 (0:Nat)),SV.val (Go.Value.float f64 (0:Nat))],HObj.row Md.rw ty236 (K.flt f64) ((List.replicate (3:Nat) (0:Nat)).set (Int.toNat (0:Int)) (Zt (Go.Op.negFloat f64 ([(4607182418800017408:Nat),s,t].getD (Int.toNat (0:Int)) (0:Nat)))).1)]
def Z15g(ty166:Nat)(ty236:Nat):List HObj:=[HObj.box Md.rw ty166 [SV.val (Go.Value.float f64 (0:Nat)),SV.val (Go.Value.float f64 (0:Nat)),SV.val (Go.Value.float f64 (0:Nat))],HObj.row Md.rw ty236 (K.flt f64) (List.replicate (3:Nat) (0:Nat))]
def Z15h(ty166:Nat)(ty236:Nat)(y:List Nat × Unit)(s:Nat)(t:Nat):List HObj:=[HObj.box Md.rw ty166 [SV.val (Go.Value.float f64 (0:Nat)),SV.val (Go.Value.float f64 (0:Nat)),SV.val (Go.Value.float f64 (0:Nat))],HObj.row Md.rw ty236 (K.flt f64) (y.1.set (Int.toNat (0:Int)) (Zt ([(4607182418800017408:Nat),s,t].getD (i64.wrap ((0:Int)+(1:Int))).toNat (0:Nat))).1)]
def Z15i(ty166:Nat)(ty236:Nat)(y:List Nat × Unit)(s:Nat)(t:Nat):List HObj:=[HObj.box Md.rw ty166 [SV.val (Go.Value.float f64 (0:Nat)),SV.val (Go.Value.float f64 (0:Nat)),SV.val (Go.Value.float f64 (0:Nat))],HObj.row Md.rw ty236 (K.flt f64) (y.1.set (Int.toNat (0:Int)) (Zt (Go.Op.negFloat f64 ([(4607182418800017408:Nat),s,t].getD (i64.wrap ((0:Int)+(1:Int))).toNat (0:Nat)))).1)]
def Z3h(ty166:Nat)(ty236:Nat)(y:List Nat × Unit):List HObj:=[HObj.box Md.rw ty166 [SV.val (Go.Value.float f64 (0:Nat)),SV.val (Go.Value.float f64 (0:Nat)),SV.val (Go.Value.float f64 (0:Nat))],HObj.row Md.rw ty236 (K.flt f64) y.1]
def Z15j(ty166:Nat)(ty236:Nat)(y:List Nat × Unit)(s:Nat)(t:Nat):List HObj:=[HObj.box Md.rw ty166 [SV.val (Go.Value.float f64 (0:Nat)),SV.val (Go.Value.float f64 (0:Nat)),SV.val (Go.Value.float f64 (0:Nat))],HObj.row Md.rw ty236 (K.flt f64) (y.1.set (Int.toNat (0:Int)) (Zt ([(4607182418800017408:Nat),s,t].getD (i64.wrap (i64.wrap ((0:Int)+(1:Int))+(1:Int))).toNat (0:Nat))).1)]
def Z15k(ty166:Nat)(ty236:Nat)(y:List Nat × Unit)(s:Nat)(t:Nat):List HObj:=[HObj.box Md.rw ty166 [SV.val (Go.Value.float f64 (0:Nat)),SV.val (Go.Value.float f64 (0:Nat)),SV.val (Go.Value.float f64 (0:Nat))],HObj.row Md.rw ty236 (K.flt f64) (y.1.set (Int.toNat (0:Int)) (Zt (Go.Op.negFloat f64 ([(4607182418800017408:Nat),s,t].getD (i64.wrap (i64.wrap ((0:Int)+(1:Int))+(1:Int))).toNat (0:Nat)))).1)]
def Z15l(ty166:Nat)(ty236:Nat)(y:List Nat × Unit)(s:Nat)(t:Nat):List HObj:=[HObj.box Md.rw ty166 [SV.val (Go.Value.float f64 (0:Nat)),SV.val (Go.Value.float f64 (0:Nat)),SV.val (Go.Value.float f64 (0:Nat))],HObj.row Md.rw ty236 (K.flt f64) (y.1.set (i64.wrap ((0:Int)+(1:Int))).toNat (Zt ([(4607182418800017408:Nat),s,t].getD (Int.toNat (0:Int)) (0:Nat))).1)]
def Z15m(ty166:Nat)(ty236:Nat)(y:List Nat × Unit)(s:Nat)(t:Nat):List HObj:=[HObj.box Md.rw ty166 [SV.val (Go.Value.float f64 (0:Nat)),SV.val (Go.Value.float f64 (0:Nat)),SV.val (Go.Value.float f64 (0:Nat))],HObj.row Md.rw ty236 (K.flt f64) (y.1.set (i64.wrap ((0:Int)+(1:Int))).toNat (Zt (Go.Op.negFloat f64 ([(4607182418800017408:Nat),s,t].getD (Int.toNat (0:Int)) (0:Nat)))).1)]
def Z12a(ty166:Nat)(ty236:Nat)(y:List Nat × Unit)(s:Nat)(t:Nat):List HObj:=[HObj.box Md.rw ty166 [SV.val (Go.Value.float f64 (0:Nat)),SV.val (Go.Value.float f64 (0:Nat)),SV.val (Go.Value.float f64 (0:Nat))],HObj.row Md.rw ty236 (K.flt f64) (y.1.set (i64.wrap ((0:Int)+(1:Int))).toNat (Zt ([(4607182418800017408:Nat),s,t].getD (i64.wrap ((0:Int)+(1:Int))).toNat (0:Nat))).1)]
def Z12b(ty166:Nat)(ty236:Nat)(y:List Nat × Unit)(s:Nat)(t:Nat):List HObj:=[HObj.box Md.rw ty166 [SV.val (Go.Value.float f64 (0:Nat)),SV.val (Go.Value.float f64 (0:Nat)),SV.val (Go.Value.float f64 (0:Nat))],HObj.row Md.rw ty236 (K.flt f64) (y.1.set (i64.wrap ((0:Int)+(1:Int))).toNat (Zt (Go.Op.negFloat f64 ([(4607182418800017408:Nat),s,t].getD (i64.wrap ((0:Int)+(1:Int))).toNat (0:Nat)))).1)]
def Z12c(ty166:Nat)(ty236:Nat)(y:List Nat × Unit)(s:Nat)(t:Nat):List HObj:=[HObj.box Md.rw ty166 [SV.val (Go.Value.float f64 (0:Nat)),SV.val (Go.Value.float f64 (0:Nat)),SV.val (Go.Value.float f64 (0:Nat))],HObj.row Md.rw ty236 (K.flt f64) (y.1.set (i64.wrap ((0:Int)+(1:Int))).toNat (Zt ([(4607182418800017408:Nat),s,t].getD (i64.wrap (i64.wrap ((0:Int)+(1:Int))+(1:Int))).toNat (0:Nat))).1)]
def Z12d(ty166:Nat)(ty236:Nat)(y:List Nat × Unit)(s:Nat)(t:Nat):List HObj:=[HObj.box Md.rw ty166 [SV.val (Go.Value.float f64 (0:Nat)),SV.val (Go.Value.float f64 (0:Nat)),SV.val (Go.Value.float f64 (0:Nat))],HObj.row Md.rw ty236 (K.flt f64) (y.1.set (i64.wrap ((0:Int)+(1:Int))).toNat (Zt (Go.Op.negFloat f64 ([(4607182418800017408:Nat),s,t].getD (i64.wrap (i64.wrap ((0:Int)+(1:Int))+(1:Int))).toNat (0:Nat)))).1)]
def Z12e(ty166:Nat)(ty236:Nat)(y:List Nat × Unit)(s:Nat)(t:Nat):List HObj:=[HObj.box Md.rw ty166 [SV.val (Go.Value.float f64 (0:Nat)),SV.val (Go.Value.float f64 (0:Nat)),SV.val (Go.Value.float f64 (0:Nat))],HObj.row Md.rw ty236 (K.flt f64) (y.1.set (i64.wrap (i64.wrap ((0:Int)+(1:Int))+(1:Int))).toNat (Zt ([(4607182418800017408:Nat),s,t].getD (Int.toNat (0:Int)) (0:Nat))).1)]
def Z12f(ty166:Nat)(ty236:Nat)(y:List Nat × Unit)(s:Nat)(t:Nat):List HObj:=[HObj.box Md.rw ty166 [SV.val (Go.Value.float f64 (0:Nat)),SV.val (Go.Value.float f64 (0:Nat)),SV.val (Go.Value.float f64 (0:Nat))],HObj.row Md.rw ty236 (K.flt f64) (y.1.set (i64.wrap (i64.wrap ((0:Int)+(1:Int))+(1:Int))).toNat (Zt (Go.Op.negFloat f64 ([(4607182418800017408:Nat),s,t].getD (Int.toNat (0:Int)) (0:Nat)))).1)]
def Z12g(ty166:Nat)(ty236:Nat)(y:List Nat × Unit)(s:Nat)(t:Nat):List HObj:=[HObj.box Md.rw ty166 [SV.val (Go.Value.float f64 (0:Nat)),SV.val (Go.Value.float f64 (0:Nat)),SV.val (Go.Value.float f64 (0:Nat))],HObj.row Md.rw ty236 (K.flt f64) (y.1.set (i64.wrap (i64.wrap ((0:Int)+(1:Int))+(1:Int))).toNat (Zt ([(4607182418800017408:Nat),s,t].getD (i64.wrap ((0:Int)+(1:Int))).toNat (0:Nat))).1)]
def Z12h(ty166:Nat)(ty236:Nat)(y:List Nat × Unit)(s:Nat)(t:Nat):List HObj:=[HObj.box Md.rw ty166 [SV.val (Go.Value.float f64 (0:Nat)),SV.val (Go.Value.float f64 (0:Nat)),SV.val (Go.Value.float f64 (0:Nat))],HObj.row Md.rw ty236 (K.flt f64) (y.1.set (i64.wrap (i64.wrap ((0:Int)+(1:Int))+(1:Int))).toNat (Zt (Go.Op.negFloat f64 ([(4607182418800017408:Nat),s,t].getD (i64.wrap ((0:Int)+(1:Int))).toNat (0:Nat)))).1)]
def Z12i(ty166:Nat)(ty236:Nat)(y:List Nat × Unit)(s:Nat)(t:Nat):List HObj:=[HObj.box Md.rw ty166 [SV.val (Go.Value.float f64 (0:Nat)),SV.val (Go.Value.float f64 (0:Nat)),SV.val (Go.Value.float f64 (0:Nat))],HObj.row Md.rw ty236 (K.flt f64) (y.1.set (i64.wrap (i64.wrap ((0:Int)+(1:Int))+(1:Int))).toNat (Zt ([(4607182418800017408:Nat),s,t].getD (i64.wrap (i64.wrap ((0:Int)+(1:Int))+(1:Int))).toNat (0:Nat))).1)]
def Z12j(ty166:Nat)(ty236:Nat)(y:List Nat × Unit)(s:Nat)(t:Nat):List HObj:=[HObj.box Md.rw ty166 [SV.val (Go.Value.float f64 (0:Nat)),SV.val (Go.Value.float f64 (0:Nat)),SV.val (Go.Value.float f64 (0:Nat))],HObj.row Md.rw ty236 (K.flt f64) (y.1.set (i64.wrap (i64.wrap ((0:Int)+(1:Int))+(1:Int))).toNat (Zt (Go.Op.negFloat f64 ([(4607182418800017408:Nat),s,t].getD (i64.wrap (i64.wrap ((0:Int)+(1:Int))+(1:Int))).toNat (0:Nat)))).1)]
def Zoy:=fun(ty166 ty236:Nat)(f:Int)(s t:Nat)(post:(Nat × Nat × Nat) × Unit→Prop)=>∃(post_1:Unit→List Nat × Unit→Prop),(∃(h:(0:Int)≤(0:
 Int)∧(0:Int)<(↑(3:Nat):Int)),∃(h:(0:Int)≤f∧f<(↑(6:Nat):Int)),∃(h:(0:Int)≤(0:Int)∧(0:Int)<(↑(3:Nat):Int)),∃(h:(0:Int)≤(0:
 Int)∧(0:Int)<(↑(3:Nat):Int)),Br (List.getD (List.getD (Zo.getD f.toNat (K.arr (3:Nat) (K.arr (3:Nat) (K.int i64))).dflt) (Int.toNat (0:Int)) (K.arr
 (3:Nat) (K.int i64)).dflt) (Int.toNat (0:Int)) (0:Int)==(1:Int)) (∃(h:True),∃(h:(0:Int)≤(0:Int)∧(0:Int)<(↑(3:Nat):Int)∧(3:Nat)≤
 (List.replicate (3:Nat) (0:Nat)).length),HS (Z15e ty166 ty236 s t)∧post_1 () ((List.replicate (3:Nat) (0:Nat)).set (Int.toNat (0:Int)) (Zt
 ([(4607182418800017408:Nat),s,t].getD (Int.toNat (0:Int)) (0:Nat))).1,())) (Br (List.getD (List.getD (Zo.getD f.toNat (K.arr (3:Nat) (K.arr (3:Nat) (K.int
 i64))).dflt) (Int.toNat (0:Int)) (K.arr (3:Nat) (K.int i64)).dflt) (Int.toNat (0:Int)) (0:Int)==(-1:Int)) (∃(h:True),∃(h:(0:Int)≤(0:Int)∧
 (0:Int)<(↑(3:Nat):Int)∧(3:Nat)≤(List.replicate (3:Nat) (0:Nat)).length),HS (Z15f ty166 ty236 s t)∧post_1 () ((List.replicate (3:Nat) (0:
 Nat)).set (Int.toNat (0:Int)) (Zt (Go.Op.negFloat f64 ([(4607182418800017408:Nat),s,t].getD (Int.toNat (0:Int)) (0:Nat)))).1,())) (HS (Z15g
 ty166 ty236)∧post_1 () (List.replicate (3:Nat) (0:Nat),()))))∧∀(x:Unit)(y:List Nat × Unit),post_1 x y→∃(post_2:Unit→List Nat × Unit→Prop),(∃(h:(0:
 Int)≤i64.wrap ((0:Int)+(1:Int))∧i64.wrap ((0:Int)+(1:Int))<(↑(3:Nat):Int)),∃(h:(0:Int)≤f∧f<(↑(6:Nat):Int)),∃(h:(0:Int)
 ≤ i64.wrap ((0:Int)+(1:Int))∧i64.wrap ((0:Int)+(1:Int))<(↑(3:Nat):Int)),∃(h:(0:Int)≤(0:Int)∧(0:Int)<(↑(3:Nat):Int)),Br
 (List.getD (List.getD (Zo.getD f.toNat (K.arr (3:Nat) (K.arr (3:Nat) (K.int i64))).dflt) (i64.wrap ((0:Int)+(1:Int))).toNat (K.arr (3:Nat) (K.int
 i64)).dflt) (Int.toNat (0:Int)) (0:Int)==(1:Int)) (∃(h:True),∃(h:(0:Int)≤(0:Int)∧(0:Int)<(↑(3:Nat):Int)∧(3:Nat)≤y.1.length),HS
 (Z15h ty166 ty236 y s t)∧post_2 () (y.1.set (Int.toNat (0:Int)) (Zt ([(4607182418800017408:Nat),s,t].getD (i64.wrap ((0:Int)+(1:Int))).toNat (0
 : Nat))).1,())) (Br (List.getD (List.getD (Zo.getD f.toNat (K.arr (3:Nat) (K.arr (3:Nat) (K.int i64))).dflt) (i64.wrap ((0:Int)+(1:Int))).toNat
 (K.arr (3:Nat) (K.int i64)).dflt) (Int.toNat (0:Int)) (0:Int)==(-1:Int)) (∃(h:True),∃(h:(0:Int)≤(0:Int)∧(0:Int)<(↑(3:Nat):Int)∧(3:Nat)
 ≤ y.1.length),HS (Z15i ty166 ty236 y s t)∧post_2 () (y.1.set (Int.toNat (0:Int)) (Zt (Go.Op.negFloat f64 ([(4607182418800017408:Nat),s,t].getD
 (i64.wrap ((0:Int)+(1:Int))).toNat (0:Nat)))).1,())) (HS (Z3h ty166 ty236 y)∧post_2 () (y.1,()))))∧∀(x:Unit)(y:List Nat × Unit),post_2 x y
 → ∃(post_3:Unit→List Nat × Unit→Prop),(∃(h:(0:Int)≤i64.wrap (i64.wrap ((0:Int)+(1:Int))+(1:Int))∧i64.wrap (i64.wrap ((0
 : Int)+(1:Int))+(1:Int))<(↑(3:Nat):Int)),∃(h:(0:Int)≤f∧f<(↑(6:Nat):Int)),∃(h:(0:Int)≤i64.wrap (i64.wrap ((0:Int)+(1:
 Int))+(1:Int))∧i64.wrap (i64.wrap ((0:Int)+(1:Int))+(1:Int))<(↑(3:Nat):Int)),∃(h:(0:Int)≤(0:Int)∧(0:Int)<(↑(3:Nat):Int)),
 Br (List.getD (List.getD (Zo.getD f.toNat (K.arr (3:Nat) (K.arr (3:Nat) (K.int i64))).dflt) (i64.wrap (i64.wrap ((0:Int)+(1:Int))+(1:
 Int))).toNat (K.arr (3:Nat) (K.int i64)).dflt) (Int.toNat (0:Int)) (0:Int)==(1:Int)) (∃(h:True),∃(h:(0:Int)≤(0:Int)∧(0:Int)<(↑(3:Nat):Int)
 ∧ (3:Nat)≤y.1.length),HS (Z15j ty166 ty236 y s t)∧post_3 () (y.1.set (Int.toNat (0:Int)) (Zt ([(4607182418800017408:Nat),s,t].getD (i64.wrap
 (i64.wrap ((0:Int)+(1:Int))+(1:Int))).toNat (0:Nat))).1,())) (Br (List.getD (List.getD (Zo.getD f.toNat (K.arr (3:Nat) (K.arr (3:Nat) (K.int
 i64))).dflt) (i64.wrap (i64.wrap ((0:Int)+(1:Int))+(1:Int))).toNat (K.arr (3:Nat) (K.int i64)).dflt) (Int.toNat (0:Int)) (0:Int)==
 (-1:Int)) (∃(h:True),∃(h:(0:Int)≤(0:Int)∧(0:Int)<(↑(3:Nat):Int)∧(3:Nat)≤y.1.length),HS (Z15k ty166 ty236 y s t)∧post_3 () (y.1.set
 (Int.toNat (0:Int)) (Zt (Go.Op.negFloat f64 ([(4607182418800017408:Nat),s,t].getD (i64.wrap (i64.wrap ((0:Int)+(1:Int))+(1:
 Int))).toNat (0:Nat)))).1,())) (HS (Z3h ty166 ty236 y)∧post_3 () (y.1,()))))∧∀(x:Unit)(y:List Nat × Unit),post_3 x y→∃(post_4:Unit→List Nat × Unit
 → Prop),(∃(h:(0:Int)≤(0:Int)∧(0:Int)<(↑(3:Nat):Int)),∃(h:(0:Int)≤f∧f<(↑(6:Nat):Int)),∃(h:(0:Int)≤(0:Int)∧(0:Int)<(↑(3:Nat):
 Int)),∃(h:(0:Int)≤i64.wrap ((0:Int)+(1:Int))∧i64.wrap ((0:Int)+(1:Int))<(↑(3:Nat):Int)),Br (List.getD (List.getD (Zo.getD f.toNat
 (K.arr (3:Nat) (K.arr (3:Nat) (K.int i64))).dflt) (Int.toNat (0:Int)) (K.arr (3:Nat) (K.int i64)).dflt) (i64.wrap ((0:Int)+(1:Int))).toNat (0
 : Int)==(1:Int)) (∃(h:True),∃(h:(0:Int)≤i64.wrap ((0:Int)+(1:Int))∧i64.wrap ((0:Int)+(1:Int))<(↑(3:Nat):Int)∧(3:Nat)≤
 y.1.length),HS (Z15l ty166 ty236 y s t)∧post_4 () (y.1.set (i64.wrap ((0:Int)+(1:Int))).toNat (Zt ([(4607182418800017408:Nat),s,t].getD
 (Int.toNat (0:Int)) (0:Nat))).1,())) (Br (List.getD (List.getD (Zo.getD f.toNat (K.arr (3:Nat) (K.arr (3:Nat) (K.int i64))).dflt) (Int.toNat (0:Int))
 (K.arr (3:Nat) (K.int i64)).dflt) (i64.wrap ((0:Int)+(1:Int))).toNat (0:Int)==(-1:Int)) (∃(h:True),∃(h:(0:Int)≤i64.wrap ((0:Int)
 + (1:Int))∧i64.wrap ((0:Int)+(1:Int))<(↑(3:Nat):Int)∧(3:Nat)≤y.1.length),HS (Z15m ty166 ty236 y s t)∧post_4 () (y.1.set
 (i64.wrap ((0:Int)+(1:Int))).toNat (Zt (Go.Op.negFloat f64 ([(4607182418800017408:Nat),s,t].getD (Int.toNat (0:Int)) (0:Nat)))).1,())) (HS
 (Z3h ty166 ty236 y)∧post_4 () (y.1,()))))∧∀(x:Unit)(y:List Nat × Unit),post_4 x y→∃(post_5:Unit→List Nat × Unit→Prop),(∃(h:(0:Int)≤
 i64.wrap ((0:Int)+(1:Int))∧i64.wrap ((0:Int)+(1:Int))<(↑(3:Nat):Int)),∃(h:(0:Int)≤f∧f<(↑(6:Nat):Int)),∃(h:(0:Int)≤
 i64.wrap ((0:Int)+(1:Int))∧i64.wrap ((0:Int)+(1:Int))<(↑(3:Nat):Int)),∃(h:(0:Int)≤i64.wrap ((0:Int)+(1:Int))∧
 i64.wrap ((0:Int)+(1:Int))<(↑(3:Nat):Int)),Br (List.getD (List.getD (Zo.getD f.toNat (K.arr (3:Nat) (K.arr (3:Nat) (K.int i64))).dflt)
 (i64.wrap ((0:Int)+(1:Int))).toNat (K.arr (3:Nat) (K.int i64)).dflt) (i64.wrap ((0:Int)+(1:Int))).toNat (0:Int)==(1:Int)) (∃(h:
 True),∃(h:(0:Int)≤i64.wrap ((0:Int)+(1:Int))∧i64.wrap ((0:Int)+(1:Int))<(↑(3:Nat):Int)∧(3:Nat)≤y.1.length),HS (Z12a
 ty166 ty236 y s t)∧post_5 () (y.1.set (i64.wrap ((0:Int)+(1:Int))).toNat (Zt ([(4607182418800017408:Nat),s,t].getD (i64.wrap ((0:Int)+(1:
 Int))).toNat (0:Nat))).1,())) (Br (List.getD (List.getD (Zo.getD f.toNat (K.arr (3:Nat) (K.arr (3:Nat) (K.int i64))).dflt) (i64.wrap ((0:Int)+(1:
 Int))).toNat (K.arr (3:Nat) (K.int i64)).dflt) (i64.wrap ((0:Int)+(1:Int))).toNat (0:Int)==(-1:Int)) (∃(h:True),∃(h:(0:Int)≤
 i64.wrap ((0:Int)+(1:Int))∧i64.wrap ((0:Int)+(1:Int))<(↑(3:Nat):Int)∧(3:Nat)≤y.1.length),HS (Z12b ty166 ty236 y s t)∧post_5
 () (y.1.set (i64.wrap ((0:Int)+(1:Int))).toNat (Zt (Go.Op.negFloat f64 ([(4607182418800017408:Nat),s,t].getD (i64.wrap ((0:Int)+(1:
 Int))).toNat (0:Nat)))).1,())) (HS (Z3h ty166 ty236 y)∧post_5 () (y.1,()))))∧∀(x:Unit)(y:List Nat × Unit),post_5 x y→∃(post_6:Unit→List Nat × Unit
 → Prop),(∃(h:(0:Int)≤i64.wrap (i64.wrap ((0:Int)+(1:Int))+(1:Int))∧i64.wrap (i64.wrap ((0:Int)+(1:Int))+(1:Int)) <
 (↑(3:Nat):Int)),∃(h:(0:Int)≤f∧f<(↑(6:Nat):Int)),∃(h:(0:Int)≤i64.wrap (i64.wrap ((0:Int)+(1:Int))+(1:Int))∧i64.wrap
 (i64.wrap ((0:Int)+(1:Int))+(1:Int))<(↑(3:Nat):Int)),∃(h:(0:Int)≤i64.wrap ((0:Int)+(1:Int))∧i64.wrap ((0:Int)+(1:
 Int))<(↑(3:Nat):Int)),Br (List.getD (List.getD (Zo.getD f.toNat (K.arr (3:Nat) (K.arr (3:Nat) (K.int i64))).dflt) (i64.wrap (i64.wrap ((0:
 Int)+(1:Int))+(1:Int))).toNat (K.arr (3:Nat) (K.int i64)).dflt) (i64.wrap ((0:Int)+(1:Int))).toNat (0:Int)==(1:Int)) (∃(h:True),∃(h:(0
 : Int)≤i64.wrap ((0:Int)+(1:Int))∧i64.wrap ((0:Int)+(1:Int))<(↑(3:Nat):Int)∧(3:Nat)≤y.1.length),HS (Z12c ty166 ty236 y s t)
 ∧ post_6 () (y.1.set (i64.wrap ((0:Int)+(1:Int))).toNat (Zt ([(4607182418800017408:Nat),s,t].getD (i64.wrap (i64.wrap ((0:Int)+(1:Int))
 + (1:Int))).toNat (0:Nat))).1,())) (Br (List.getD (List.getD (Zo.getD f.toNat (K.arr (3:Nat) (K.arr (3:Nat) (K.int i64))).dflt) (i64.wrap
 (i64.wrap ((0:Int)+(1:Int))+(1:Int))).toNat (K.arr (3:Nat) (K.int i64)).dflt) (i64.wrap ((0:Int)+(1:Int))).toNat (0:Int)==(-1:Int))
 (∃(h:True),∃(h:(0:Int)≤i64.wrap ((0:Int)+(1:Int))∧i64.wrap ((0:Int)+(1:Int))<(↑(3:Nat):Int)∧(3:Nat)≤y.1.length),HS
 (Z12d ty166 ty236 y s t)∧post_6 () (y.1.set (i64.wrap ((0:Int)+(1:Int))).toNat (Zt (Go.Op.negFloat f64 ([(4607182418800017408:Nat),
 s,t].getD (i64.wrap (i64.wrap ((0:Int)+(1:Int))+(1:Int))).toNat (0:Nat)))).1,())) (HS (Z3h ty166 ty236 y)∧post_6 () (y.1,()))))∧∀(x
 : Unit) (y:List Nat × Unit),post_6 x y→∃(post_7:Unit→List Nat × Unit→Prop),(∃(h:(0:Int)≤(0:Int)∧(0:Int)<(↑(3:Nat):Int)),∃(h:(0:Int)≤f∧f <
 (↑(6:Nat):Int)),∃(h:(0:Int)≤(0:Int)∧(0:Int)<(↑(3:Nat):Int)),∃(h:(0:Int)≤i64.wrap (i64.wrap ((0:Int)+(1:Int))+(1:Int))∧
 i64.wrap (i64.wrap ((0:Int)+(1:Int))+(1:Int))<(↑(3:Nat):Int)),Br (List.getD (List.getD (Zo.getD f.toNat (K.arr (3:Nat) (K.arr (3:Nat)
 (K.int i64))).dflt) (Int.toNat (0:Int)) (K.arr (3:Nat) (K.int i64)).dflt) (i64.wrap (i64.wrap ((0:Int)+(1:Int))+(1:Int))).toNat (0:
 Int)==(1:Int)) (∃(h:True),∃(h:(0:Int)≤i64.wrap (i64.wrap ((0:Int)+(1:Int))+(1:Int))∧i64.wrap (i64.wrap ((0:Int)+(1:
 Int))+(1:Int))<(↑(3:Nat):Int)∧(3:Nat)≤y.1.length),HS (Z12e ty166 ty236 y s t)∧post_7 () (y.1.set (i64.wrap (i64.wrap ((0:Int)+(1
 : Int))+(1:Int))).toNat (Zt ([(4607182418800017408:Nat),s,t].getD (Int.toNat (0:Int)) (0:Nat))).1,())) (Br (List.getD (List.getD (Zo.getD f.toNat (K.arr (3:
 Nat) (K.arr (3:Nat) (K.int i64))).dflt) (Int.toNat (0:Int)) (K.arr (3:Nat) (K.int i64)).dflt) (i64.wrap (i64.wrap ((0:Int)+(1:Int))+
 (1:Int))).toNat (0:Int)==(-1:Int)) (∃(h:True),∃(h:(0:Int)≤i64.wrap (i64.wrap ((0:Int)+(1:Int))+(1:Int))∧i64.wrap
 (i64.wrap ((0:Int)+(1:Int))+(1:Int))<(↑(3:Nat):Int)∧(3:Nat)≤y.1.length),HS (Z12f ty166 ty236 y s t)∧post_7 () (y.1.set
 (i64.wrap (i64.wrap ((0:Int)+(1:Int))+(1:Int))).toNat (Zt (Go.Op.negFloat f64 ([(4607182418800017408:Nat),s,t].getD (Int.toNat (0:
 Int)) (0:Nat)))).1,())) (HS (Z3h ty166 ty236 y)∧post_7 () (y.1,()))))∧∀(x:Unit)(y:List Nat × Unit),post_7 x y→∃(post_8:Unit→List Nat × Unit→
 Prop),(∃(h:(0:Int)≤i64.wrap ((0:Int)+(1:Int))∧i64.wrap ((0:Int)+(1:Int))<(↑(3:Nat):Int)),∃(h:(0:Int)≤f∧f<(↑(6:Nat):
 Int)),∃(h:(0:Int)≤i64.wrap ((0:Int)+(1:Int))∧i64.wrap ((0:Int)+(1:Int))<(↑(3:Nat):Int)),∃(h:(0:Int)≤i64.wrap
 (i64.wrap ((0:Int)+(1:Int))+(1:Int))∧i64.wrap (i64.wrap ((0:Int)+(1:Int))+(1:Int))<(↑(3:Nat):Int)),Br (List.getD (List.getD
 (Zo.getD f.toNat (K.arr (3:Nat) (K.arr (3:Nat) (K.int i64))).dflt) (i64.wrap ((0:Int)+(1:Int))).toNat (K.arr (3:Nat) (K.int i64)).dflt)
 (i64.wrap (i64.wrap ((0:Int)+(1:Int))+(1:Int))).toNat (0:Int)==(1:Int)) (∃(h:True),∃(h:(0:Int)≤i64.wrap (i64.wrap ((0:
 Int)+(1:Int))+(1:Int))∧i64.wrap (i64.wrap ((0:Int)+(1:Int))+(1:Int))<(↑(3:Nat):Int)∧(3:Nat)≤y.1.length),HS (Z12g ty166
 ty236 y s t)∧post_8 () (y.1.set (i64.wrap (i64.wrap ((0:Int)+(1:Int))+(1:Int))).toNat (Zt ([(4607182418800017408:Nat),s,t].getD
 (i64.wrap ((0:Int)+(1:Int))).toNat (0:Nat))).1,())) (Br (List.getD (List.getD (Zo.getD f.toNat (K.arr (3:Nat) (K.arr (3:Nat) (K.int i64))).dflt)
 (i64.wrap ((0:Int)+(1:Int))).toNat (K.arr (3:Nat) (K.int i64)).dflt) (i64.wrap (i64.wrap ((0:Int)+(1:Int))+(1:Int))).toNat (0:
 Int)==(-1:Int)) (∃(h:True),∃(h:(0:Int)≤i64.wrap (i64.wrap ((0:Int)+(1:Int))+(1:Int))∧i64.wrap (i64.wrap ((0:Int)+(1
 : Int))+(1:Int))<(↑(3:Nat):Int)∧(3:Nat)≤y.1.length),HS (Z12h ty166 ty236 y s t)∧post_8 () (y.1.set (i64.wrap (i64.wrap ((0:Int)+
 (1:Int))+(1:Int))).toNat (Zt (Go.Op.negFloat f64 ([(4607182418800017408:Nat),s,t].getD (i64.wrap ((0:Int)+(1:Int))).toNat (0:Nat)))).1,
 ())) (HS (Z3h ty166 ty236 y)∧post_8 () (y.1,()))))∧∀(x:Unit)(y:List Nat × Unit),post_8 x y→∃(post_9:Unit→List Nat × Unit→Prop),(∃(h:(0:Int)≤
 i64.wrap (i64.wrap ((0:Int)+(1:Int))+(1:Int))∧i64.wrap (i64.wrap ((0:Int)+(1:Int))+(1:Int))<(↑(3:Nat):Int)),∃(h:(0
 : Int)≤f∧f<(↑(6:Nat):Int)),∃(h:(0:Int)≤i64.wrap (i64.wrap ((0:Int)+(1:Int))+(1:Int))∧i64.wrap (i64.wrap ((0:Int)+
 (1:Int))+(1:Int))<(↑(3:Nat):Int)),∃(h:(0:Int)≤i64.wrap (i64.wrap ((0:Int)+(1:Int))+(1:Int))∧i64.wrap (i64.wrap ((0
 : Int)+(1:Int))+(1:Int))<(↑(3:Nat):Int)),Br (List.getD (List.getD (Zo.getD f.toNat (K.arr (3:Nat) (K.arr (3:Nat) (K.int i64))).dflt)
 (i64.wrap (i64.wrap ((0:Int)+(1:Int))+(1:Int))).toNat (K.arr (3:Nat) (K.int i64)).dflt) (i64.wrap (i64.wrap ((0:Int)+(1:
 Int))+(1:Int))).toNat (0:Int)==(1:Int)) (∃(h:True),∃(h:(0:Int)≤i64.wrap (i64.wrap ((0:Int)+(1:Int))+(1:Int))∧i64.wrap
 (i64.wrap ((0:Int)+(1:Int))+(1:Int))<(↑(3:Nat):Int)∧(3:Nat)≤y.1.length),HS (Z12i ty166 ty236 y s t)∧post_9 () (y.1.set
 (i64.wrap (i64.wrap ((0:Int)+(1:Int))+(1:Int))).toNat (Zt ([(4607182418800017408:Nat),s,t].getD (i64.wrap (i64.wrap ((0:Int)+
 (1:Int))+(1:Int))).toNat (0:Nat))).1,())) (Br (List.getD (List.getD (Zo.getD f.toNat (K.arr (3:Nat) (K.arr (3:Nat) (K.int i64))).dflt) (i64.wrap
 (i64.wrap ((0:Int)+(1:Int))+(1:Int))).toNat (K.arr (3:Nat) (K.int i64)).dflt) (i64.wrap (i64.wrap ((0:Int)+(1:Int))+(1:
 Int))).toNat (0:Int)==(-1:Int)) (∃(h:True),∃(h:(0:Int)≤i64.wrap (i64.wrap ((0:Int)+(1:Int))+(1:Int))∧i64.wrap
 (i64.wrap ((0:Int)+(1:Int))+(1:Int))<(↑(3:Nat):Int)∧(3:Nat)≤y.1.length),HS (Z12j ty166 ty236 y s t)∧post_9 () (y.1.set
 (i64.wrap (i64.wrap ((0:Int)+(1:Int))+(1:Int))).toNat (Zt (Go.Op.negFloat f64 ([(4607182418800017408:Nat),s,t].getD
 (i64.wrap (i64.wrap ((0:Int)+(1:Int))+(1:Int))).toNat (0:Nat)))).1,())) (HS (Z3h ty166 ty236 y)∧post_9 () (y.1,()))))∧∀(x:Unit)(y
 : List Nat × Unit),post_9 x y→∃(h:(0:Int)≤(0:Int)∧(0:Int)<(↑(3:Nat):Int)∧(3:Nat)≤y.1.length),∃(h:(0:Int)≤(1:Int)∧(1:Int)<(↑(3:Nat):
 Int)∧(3:Nat)≤y.1.length),∃(h:(0:Int)≤(2:Int)∧(2:Int)<(↑(3:Nat):Int)∧(3:Nat)≤y.1.length),∃(h:WV (y.1.getD (Int.toNat (0:Int)) (0:Nat),
 y.1.getD (Int.toNat (1:Int)) (0:Nat),y.1.getD (Int.toNat (2:Int)) (0:Nat))),post (((Z10h (y.1.getD (Int.toNat (0:Int)) (0:Nat),y.1.getD (Int.toNat (1:Int)) (0:
 Nat),y.1.getD (Int.toNat (2:Int)) (0:Nat))).1.1,(Z10h (y.1.getD (Int.toNat (0:Int)) (0:Nat),y.1.getD (Int.toNat (1:Int)) (0:Nat),y.1.getD (Int.toNat (2:Int)) (0
 : Nat))).1.2.1,(Z10h (y.1.getD (Int.toNat (0:Int)) (0:Nat),y.1.getD (Int.toNat (1:Int)) (0:Nat),y.1.getD (Int.toNat (2:Int)) (0:Nat))).1.2.2),())
theorem Z19w(ty0 ty1:Nat)(f:Int)(s:Nat)(t:Nat)(h:Z10j f s t):Zoy ty0 ty1 f s t (fun r=>r=Zdw f s t):=by
 obtain⟨f0,f5,hs,ht⟩:=h
 have hfb:0≤f∧f<((6:Nat):Int):=⟨f0,by omega⟩
 refine⟨fun _ y=>y.1=[(Z9 (Z6 f 0 0) (List.getD [(4607182418800017408:Nat),s,t] (Int.toNat (0:Int)) (0:Nat)) 0),0,0],⟨by decide,hfb,by decide,by decide,Z8e (m:=(Z6 f 0 0)) (v:=(List.getD [(4607182418800017408:Nat),s,t] (Int.toNat (0:Int)) (0:Nat))) (c:=0) (P:=fun z=>[z,0,0]=[(Z9 (Z6 f 0 0) (List.getD [(4607182418800017408:Nat),s,t] (Int.toNat (0:Int)) (0:Nat)) 0),0,0]) rfl (fun e=>⟨trivial,⟨by decide,by decide,Nat.le_refl 3⟩,rfl,e⟩) (fun e=>⟨trivial,⟨by decide,by decide,Nat.le_refl 3⟩,rfl,e⟩) (fun e=>⟨rfl,e⟩)⟩,?_⟩
 rintro⟨⟩ ⟨_,⟨⟩⟩ rfl
 refine⟨fun _ y=>y.1=[(Z9 (Z6 f 1 0) s (Z9 (Z6 f 0 0) (List.getD [(4607182418800017408:Nat),s,t] (Int.toNat (0:Int)) (0:Nat)) 0)),0,0],⟨by decide,hfb,by decide,by decide,Z8e (m:=(Z6 f 1 0)) (v:=s) (c:=(Z9 (Z6 f 0 0) (List.getD [(4607182418800017408:Nat),s,t] (Int.toNat (0:Int)) (0:Nat)) 0)) (P:=fun z=>[z,0,0]=[(Z9 (Z6 f 1 0) s (Z9 (Z6 f 0 0) (List.getD [(4607182418800017408:Nat),s,t] (Int.toNat (0:Int)) (0:Nat)) 0)),0,0]) rfl (fun e=>⟨trivial,⟨by decide,by decide,Nat.le_refl 3⟩,rfl,e⟩) (fun e=>⟨trivial,⟨by decide,by decide,Nat.le_refl 3⟩,rfl,e⟩) (fun e=>⟨rfl,e⟩)⟩,?_⟩
 rintro⟨⟩ ⟨_,⟨⟩⟩ rfl
 refine⟨fun _ y=>y.1=[(Z9 (Z6 f 2 0) t (Z9 (Z6 f 1 0) s (Z9 (Z6 f 0 0) (List.getD [(4607182418800017408:Nat),s,t] (Int.toNat (0:Int)) (0:Nat)) 0))),0,0],⟨by decide,hfb,by decide,by decide,Z8e (m:=(Z6 f 2 0)) (v:=t) (c:=(Z9 (Z6 f 1 0) s (Z9 (Z6 f 0 0) (List.getD [(4607182418800017408:Nat),s,t] (Int.toNat (0:Int)) (0:Nat)) 0))) (P:=fun z=>[z,0,0]=[(Z9 (Z6 f 2 0) t (Z9 (Z6 f 1 0) s (Z9 (Z6 f 0 0) (List.getD [(4607182418800017408:Nat),s,t] (Int.toNat (0:Int)) (0:Nat)) 0))),0,0]) rfl (fun e=>⟨trivial,⟨by decide,by decide,Nat.le_refl 3⟩,rfl,e⟩) (fun e=>⟨trivial,⟨by decide,by decide,Nat.le_refl 3⟩,rfl,e⟩) (fun e=>⟨rfl,e⟩)⟩,?_⟩
 rintro⟨⟩ ⟨_,⟨⟩⟩ rfl
 refine⟨fun _ y=>y.1=[(Z9 (Z6 f 2 0) t (Z9 (Z6 f 1 0) s (Z9 (Z6 f 0 0) (List.getD [(4607182418800017408:Nat),s,t] (Int.toNat (0:Int)) (0:Nat)) 0))),(Z9 (Z6 f 0 1) (List.getD [(4607182418800017408:Nat),s,t] (Int.toNat (0:Int)) (0:Nat)) 0),0],⟨by decide,hfb,by decide,by decide,Z8e (m:=(Z6 f 0 1)) (v:=(List.getD [(4607182418800017408:Nat),s,t] (Int.toNat (0:Int)) (0:Nat))) (c:=0) (P:=fun z=>[(Z9 (Z6 f 2 0) t (Z9 (Z6 f 1 0) s (Z9 (Z6 f 0 0) (List.getD [(4607182418800017408:Nat),s,t] (Int.toNat (0:Int)) (0:Nat)) 0))),z,0]=[(Z9 (Z6 f 2 0) t (Z9 (Z6 f 1 0) s (Z9 (Z6 f 0 0) (List.getD [(4607182418800017408:Nat),s,t] (Int.toNat (0:Int)) (0:Nat)) 0))),(Z9 (Z6 f 0 1) (List.getD [(4607182418800017408:Nat),s,t] (Int.toNat (0:Int)) (0:Nat)) 0),0]) rfl (fun e=>⟨trivial,⟨by decide,by decide,Nat.le_refl 3⟩,rfl,e⟩) (fun e=>⟨trivial,⟨by decide,by decide,Nat.le_refl 3⟩,rfl,e⟩) (fun e=>⟨rfl,e⟩)⟩,?_⟩
 rintro⟨⟩ ⟨_,⟨⟩⟩ rfl
 refine⟨fun _ y=>y.1=[(Z9 (Z6 f 2 0) t (Z9 (Z6 f 1 0) s (Z9 (Z6 f 0 0) (List.getD [(4607182418800017408:Nat),s,t] (Int.toNat (0:Int)) (0:Nat)) 0))),(Z9 (Z6 f 1 1) s (Z9 (Z6 f 0 1) (List.getD [(4607182418800017408:Nat),s,t] (Int.toNat (0:Int)) (0:Nat)) 0)),0],⟨by decide,hfb,by decide,by decide,Z8e (m:=(Z6 f 1 1)) (v:=s) (c:=(Z9 (Z6 f 0 1) (List.getD [(4607182418800017408:Nat),s,t] (Int.toNat (0:Int)) (0:Nat)) 0)) (P:=fun z=>[(Z9 (Z6 f 2 0) t (Z9 (Z6 f 1 0) s (Z9 (Z6 f 0 0) (List.getD [(4607182418800017408:Nat),s,t] (Int.toNat (0:Int)) (0:Nat)) 0))),z,0]=[(Z9 (Z6 f 2 0) t (Z9 (Z6 f 1 0) s (Z9 (Z6 f 0 0) (List.getD [(4607182418800017408:Nat),s,t] (Int.toNat (0:Int)) (0:Nat)) 0))),(Z9 (Z6 f 1 1) s (Z9 (Z6 f 0 1) (List.getD [(4607182418800017408:Nat),s,t] (Int.toNat (0:Int)) (0:Nat)) 0)),0]) rfl (fun e=>⟨trivial,⟨by decide,by decide,Nat.le_refl 3⟩,rfl,e⟩) (fun e=>⟨trivial,⟨by decide,by decide,Nat.le_refl 3⟩,rfl,e⟩) (fun e=>⟨rfl,e⟩)⟩,?_⟩
 rintro⟨⟩ ⟨_,⟨⟩⟩ rfl
 refine⟨fun _ y=>y.1=[(Z9 (Z6 f 2 0) t (Z9 (Z6 f 1 0) s (Z9 (Z6 f 0 0) (List.getD [(4607182418800017408:Nat),s,t] (Int.toNat (0:Int)) (0:Nat)) 0))),(Z9 (Z6 f 2 1) t (Z9 (Z6 f 1 1) s (Z9 (Z6 f 0 1) (List.getD [(4607182418800017408:Nat),s,t] (Int.toNat (0:Int)) (0:Nat)) 0))),0],⟨by decide,hfb,by decide,by decide,Z8e (m:=(Z6 f 2 1)) (v:=t) (c:=(Z9 (Z6 f 1 1) s (Z9 (Z6 f 0 1) (List.getD [(4607182418800017408:Nat),s,t] (Int.toNat (0:Int)) (0:Nat)) 0))) (P:=fun z=>[(Z9 (Z6 f 2 0) t (Z9 (Z6 f 1 0) s (Z9 (Z6 f 0 0) (List.getD [(4607182418800017408:Nat),s,t] (Int.toNat (0:Int)) (0:Nat)) 0))),z,0]=[(Z9 (Z6 f 2 0) t (Z9 (Z6 f 1 0) s (Z9 (Z6 f 0 0) (List.getD [(4607182418800017408:Nat),s,t] (Int.toNat (0:Int)) (0:Nat)) 0))),(Z9 (Z6 f 2 1) t (Z9 (Z6 f 1 1) s (Z9 (Z6 f 0 1) (List.getD [(4607182418800017408:Nat),s,t] (Int.toNat (0:Int)) (0:Nat)) 0))),0]) rfl (fun e=>⟨trivial,⟨by decide,by decide,Nat.le_refl 3⟩,rfl,e⟩) (fun e=>⟨trivial,⟨by decide,by decide,Nat.le_refl 3⟩,rfl,e⟩) (fun e=>⟨rfl,e⟩)⟩,?_⟩
 rintro⟨⟩ ⟨_,⟨⟩⟩ rfl
 refine⟨fun _ y=>y.1=[(Z9 (Z6 f 2 0) t (Z9 (Z6 f 1 0) s (Z9 (Z6 f 0 0) (List.getD [(4607182418800017408:Nat),s,t] (Int.toNat (0:Int)) (0:Nat)) 0))),(Z9 (Z6 f 2 1) t (Z9 (Z6 f 1 1) s (Z9 (Z6 f 0 1) (List.getD [(4607182418800017408:Nat),s,t] (Int.toNat (0:Int)) (0:Nat)) 0))),(Z9 (Z6 f 0 2) (List.getD [(4607182418800017408:Nat),s,t] (Int.toNat (0:Int)) (0:Nat)) 0)],⟨by decide,hfb,by decide,by decide,Z8e (m:=(Z6 f 0 2)) (v:=(List.getD [(4607182418800017408:Nat),s,t] (Int.toNat (0:Int)) (0:Nat))) (c:=0) (P:=fun z=>[(Z9 (Z6 f 2 0) t (Z9 (Z6 f 1 0) s (Z9 (Z6 f 0 0) (List.getD [(4607182418800017408:Nat),s,t] (Int.toNat (0:Int)) (0:Nat)) 0))),(Z9 (Z6 f 2 1) t (Z9 (Z6 f 1 1) s (Z9 (Z6 f 0 1) (List.getD [(4607182418800017408:Nat),s,t] (Int.toNat (0:Int)) (0:Nat)) 0))),z]=[(Z9 (Z6 f 2 0) t (Z9 (Z6 f 1 0) s (Z9 (Z6 f 0 0) (List.getD [(4607182418800017408:Nat),s,t] (Int.toNat (0:Int)) (0:Nat)) 0))),(Z9 (Z6 f 2 1) t (Z9 (Z6 f 1 1) s (Z9 (Z6 f 0 1) (List.getD [(4607182418800017408:Nat),s,t] (Int.toNat (0:Int)) (0:Nat)) 0))),(Z9 (Z6 f 0 2) (List.getD [(4607182418800017408:Nat),s,t] (Int.toNat (0:Int)) (0:Nat)) 0)]) rfl (fun e=>⟨trivial,⟨by decide,by decide,Nat.le_refl 3⟩,rfl,e⟩) (fun e=>⟨trivial,⟨by decide,by decide,Nat.le_refl 3⟩,rfl,e⟩) (fun e=>⟨rfl,e⟩)⟩,?_⟩
 rintro⟨⟩ ⟨_,⟨⟩⟩ rfl
 refine⟨fun _ y=>y.1=[(Z9 (Z6 f 2 0) t (Z9 (Z6 f 1 0) s (Z9 (Z6 f 0 0) (List.getD [(4607182418800017408:Nat),s,t] (Int.toNat (0:Int)) (0:Nat)) 0))),(Z9 (Z6 f 2 1) t (Z9 (Z6 f 1 1) s (Z9 (Z6 f 0 1) (List.getD [(4607182418800017408:Nat),s,t] (Int.toNat (0:Int)) (0:Nat)) 0))),(Z9 (Z6 f 1 2) s (Z9 (Z6 f 0 2) (List.getD [(4607182418800017408:Nat),s,t] (Int.toNat (0:Int)) (0:Nat)) 0))],⟨by decide,hfb,by decide,by decide,Z8e (m:=(Z6 f 1 2)) (v:=s) (c:=(Z9 (Z6 f 0 2) (List.getD [(4607182418800017408:Nat),s,t] (Int.toNat (0:Int)) (0:Nat)) 0)) (P:=fun z=>[(Z9 (Z6 f 2 0) t (Z9 (Z6 f 1 0) s (Z9 (Z6 f 0 0) (List.getD [(4607182418800017408:Nat),s,t] (Int.toNat (0:Int)) (0:Nat)) 0))),(Z9 (Z6 f 2 1) t (Z9 (Z6 f 1 1) s (Z9 (Z6 f 0 1) (List.getD [(4607182418800017408:Nat),s,t] (Int.toNat (0:Int)) (0:Nat)) 0))),z]=[(Z9 (Z6 f 2 0) t (Z9 (Z6 f 1 0) s (Z9 (Z6 f 0 0) (List.getD [(4607182418800017408:Nat),s,t] (Int.toNat (0:Int)) (0:Nat)) 0))),(Z9 (Z6 f 2 1) t (Z9 (Z6 f 1 1) s (Z9 (Z6 f 0 1) (List.getD [(4607182418800017408:Nat),s,t] (Int.toNat (0:Int)) (0:Nat)) 0))),(Z9 (Z6 f 1 2) s (Z9 (Z6 f 0 2) (List.getD [(4607182418800017408:Nat),s,t] (Int.toNat (0:Int)) (0:Nat)) 0))]) rfl (fun e=>⟨trivial,⟨by decide,by decide,Nat.le_refl 3⟩,rfl,e⟩) (fun e=>⟨trivial,⟨by decide,by decide,Nat.le_refl 3⟩,rfl,e⟩) (fun e=>⟨rfl,e⟩)⟩,?_⟩
 rintro⟨⟩ ⟨_,⟨⟩⟩ rfl
 refine⟨fun _ y=>y.1=[(Z9 (Z6 f 2 0) t (Z9 (Z6 f 1 0) s (Z9 (Z6 f 0 0) (List.getD [(4607182418800017408:Nat),s,t] (Int.toNat (0:Int)) (0:Nat)) 0))),(Z9 (Z6 f 2 1) t (Z9 (Z6 f 1 1) s (Z9 (Z6 f 0 1) (List.getD [(4607182418800017408:Nat),s,t] (Int.toNat (0:Int)) (0:Nat)) 0))),(Z9 (Z6 f 2 2) t (Z9 (Z6 f 1 2) s (Z9 (Z6 f 0 2) (List.getD [(4607182418800017408:Nat),s,t] (Int.toNat (0:Int)) (0:Nat)) 0)))],⟨by decide,hfb,by decide,by decide,Z8e (m:=(Z6 f 2 2)) (v:=t) (c:=(Z9 (Z6 f 1 2) s (Z9 (Z6 f 0 2) (List.getD [(4607182418800017408:Nat),s,t] (Int.toNat (0:Int)) (0:Nat)) 0))) (P:=fun z=>[(Z9 (Z6 f 2 0) t (Z9 (Z6 f 1 0) s (Z9 (Z6 f 0 0) (List.getD [(4607182418800017408:Nat),s,t] (Int.toNat (0:Int)) (0:Nat)) 0))),(Z9 (Z6 f 2 1) t (Z9 (Z6 f 1 1) s (Z9 (Z6 f 0 1) (List.getD [(4607182418800017408:Nat),s,t] (Int.toNat (0:Int)) (0:Nat)) 0))),z]=[(Z9 (Z6 f 2 0) t (Z9 (Z6 f 1 0) s (Z9 (Z6 f 0 0) (List.getD [(4607182418800017408:Nat),s,t] (Int.toNat (0:Int)) (0:Nat)) 0))),(Z9 (Z6 f 2 1) t (Z9 (Z6 f 1 1) s (Z9 (Z6 f 0 1) (List.getD [(4607182418800017408:Nat),s,t] (Int.toNat (0:Int)) (0:Nat)) 0))),(Z9 (Z6 f 2 2) t (Z9 (Z6 f 1 2) s (Z9 (Z6 f 0 2) (List.getD [(4607182418800017408:Nat),s,t] (Int.toNat (0:Int)) (0:Nat)) 0)))]) rfl (fun e=>⟨trivial,⟨by decide,by decide,Nat.le_refl 3⟩,rfl,e⟩) (fun e=>⟨trivial,⟨by decide,by decide,Nat.le_refl 3⟩,rfl,e⟩) (fun e=>⟨rfl,e⟩)⟩,?_⟩
 rintro⟨⟩ ⟨_,⟨⟩⟩ rfl
 refine⟨⟨by decide,by decide,Nat.le_refl 3⟩,⟨by decide,by decide,Nat.le_refl 3⟩,⟨by decide,by decide,Nat.le_refl 3⟩,⟨Z14s f hs ht 0,Z14s f hs ht 1,Z14s f hs ht 2⟩,rfl⟩
def Zlh:=fun(n f i j:Int)(post:(Nat × Nat × Nat) × Bool × Unit→Prop)=>∃(h:I64 n),∀ a,a=((Z3y n).1==(0:Int))→Br a (post ((0,0,0),false,
 ())) (∀ a,a=decide (f<(0:Int))→Br a (post ((0,0,0),false,())) (∀ a,a=decide (f > (5:Int))→Br a (post ((0,0,0),false,())) (∀ a,a=decide (i<(0
 : Int))→Br a (post ((0,0,0),false,())) (∀ a,a=decide (i > n)→Br a (post ((0,0,0),false,())) (∀ a,a=decide (j<(0:Int))→Br a (post ((0,0,0),
 false,())) (∀ a,a=decide (j > n)→Br a (post ((0,0,0),false,())) (∃(h:Zh9 (i64.wrap (i64.wrap ((2:Int)*i) - n)) n),∃(h:Zh9
 (i64.wrap (i64.wrap ((2:Int)*j) - n)) n),∃(h:Z10j f (Z3z (i64.wrap (i64.wrap ((2:Int)*i) - n)) n).1 (Z3z (i64.wrap
 (i64.wrap ((2:Int)*j) - n)) n).1),post (((Zdw f (Z3z (i64.wrap (i64.wrap ((2:Int)*i) - n)) n).1 (Z3z (i64.wrap (i64.wrap
 ((2:Int)*j) - n)) n).1).1.1,(Zdw f (Z3z (i64.wrap (i64.wrap ((2:Int)*i) - n)) n).1 (Z3z (i64.wrap (i64.wrap ((2:Int)*j) - n))
 n).1).1.2.1,(Zdw f (Z3z (i64.wrap (i64.wrap ((2:Int)*i) - n)) n).1 (Z3z (i64.wrap (i64.wrap ((2:Int)*j) - n)) n).1).1.2.2),
 true,()))))))))
theorem Z15n(n:Int)(f:Int)(i:Int)(j:Int)(h:IIII n f i j):Zlh  n f i j (fun r=>r=Z1h n f i j):=by
 obtain⟨hn,hf,hi,hj⟩:=h
 have bad:Z7t n f i j=false→(((0:Nat),(0:Nat),(0:Nat)),false,())=Z1h n f i j:=by
  intro e; unfold Z1h; rw[if_neg (by rw[e]; decide)]
 refine⟨hn,?_⟩
 rintro _ rfl
 refine Br.intro (fun e=>?_) fun e0=>?_
 ·have e:Z2 n=0:=by have e:(Z2 n==0)=true:=e; simpa using e
  refine bad ?_
  cases hg:Z22 n with
  | false=>unfold Z7t; rw[hg]; rfl
  | true=>rw[Zfu hg]at e; have:=Zux (Z3s.1 hg).1 (Z3s.1 hg).2; omega
 have e0:¬ Z2 n=0:=by have e:(Z2 n==0)=false:=e0; simpa using e
 have hg:Z22 n=true:=by
  cases hg:Z22 n with
  | false=>exact absurd (Zdy hg) e0
  | true=>rfl
 obtain⟨n1,n2⟩:=Z3s.1 hg
 have no:¬ (0≤f∧f≤5∧0≤i∧i≤n∧0≤j∧j≤n)→Z7t n f i j=false:=by
  intro q
  rw[Bool.eq_false_iff]
  intro w
  unfold Z7t at w
  simp only[Bool.and_eq_true,decide_eq_true_eq]at w
  omega
 rintro _ rfl
 refine Br.intro (fun e=>bad (no (by have e:=of_decide_eq_true e; omega))) fun e1=>?_
 have e1:=of_decide_eq_false e1
 rintro _ rfl
 refine Br.intro (fun e=>bad (no (by have e:=of_decide_eq_true e; omega))) fun e2=>?_
 have e2:=of_decide_eq_false e2
 rintro _ rfl
 refine Br.intro (fun e=>bad (no (by have e:=of_decide_eq_true e; omega))) fun e3=>?_
 have e3:=of_decide_eq_false e3
 rintro _ rfl
 refine Br.intro (fun e=>bad (no (by have e:=of_decide_eq_true e; omega))) fun e4=>?_
 have e4:=of_decide_eq_false e4
 rintro _ rfl
 refine Br.intro (fun e=>bad (no (by have e:=of_decide_eq_true e; omega))) fun e5=>?_
 have e5:=of_decide_eq_false e5
 rintro _ rfl
 refine Br.intro (fun e=>bad (no (by have e:=of_decide_eq_true e; omega))) fun e6=>?_
 have e6:=of_decide_eq_false e6
 obtain⟨w1,w2⟩:=Z10o n1 n2 (i:=i) (by omega) (by omega)
 obtain⟨w3,w4⟩:=Z10o n1 n2 (i:=j) (by omega) (by omega)
 rw[w1,w3]
 refine⟨w2,w4,⟨by omega,by omega,Z8c _ _,Z8c _ _⟩,?_⟩
 have ok:Z7t n f i j=true:=by
  unfold Z7t
  rw[hg,decide_eq_true (by omega),decide_eq_true (by omega),decide_eq_true (by omega),decide_eq_true (by omega),decide_eq_true (by omega),decide_eq_true (by omega)]
  rfl
 unfold Z1h; rw[if_pos ok]; rfl
def Zji:=fun(n c:Int)(post:List (Nat × Nat × Nat) × Bool × Unit→Prop)=>∃(h:II n c),Br (!(Z4 n c).2.2.2.1) (∃(h:(List.replicate (4:Nat) ((K.flt
 f64).pair ((K.flt f64).pair (K.flt f64))).dflt).length=(4:Nat)∧(4:Nat)=(4:Nat)),∃(h:(4:Nat)=(4:Nat)),post ([((0:
 Nat),(0:Nat),(0:Nat)),((0:Nat),(0:Nat),(0:Nat)),((0:Nat),(0:Nat),(0:Nat)),((0:Nat),(0:Nat),(0:Nat))],false,())) (∃(h:(0:Int)≤(0:
 Int)∧(0:Int)<(↑(4:Nat):Int)),∃(h:(List.replicate (2:Nat) (0:Int)).length=(2:Nat)∧List.length ([[(0:Int),(0:Int)],[(1:Int),(0:Int)],[(1:Int),
 (1:Int)],[(0:Int),(1:Int)]].getD (Int.toNat (0:Int)) (K.arr (2:Nat) (K.int i64)).dflt)=(2:Nat)),∃(h:(0:Int)≤(0:Int)∧(0:Int)<(↑(2:Nat):
 Int)∧(2:Nat)≤List.length ([[(0:Int),(0:Int)],[(1:Int),(0:Int)],[(1:Int),(1:Int)],[(0:Int),(1:Int)]].getD (Int.toNat (0:Int)) (K.arr (2:Nat) (K.int
 i64)).dflt)),∃(h:(0:Int)≤(1:Int)∧(1:Int)<(↑(2:Nat):Int)∧(2:Nat)≤List.length ([[(0:Int),(0:Int)],[(1:Int),(0:Int)],[(1:Int),(1:
 Int)],[(0:Int),(1:Int)]].getD (Int.toNat (0:Int)) (K.arr (2:Nat) (K.int i64)).dflt)),∃(h:IIII n (Z4 n c).1 (i64.wrap ((Z4 n c).2.1+
 List.getD ([[(0:Int),(0:Int)],[(1:Int),(0:Int)],[(1:Int),(1:Int)],[(0:Int),(1:Int)]].getD (Int.toNat (0:Int)) (K.arr (2:Nat) (K.int i64)).dflt)
 (Int.toNat (0:Int)) (0:Int))) (i64.wrap ((Z4 n c).2.2.1+List.getD ([[(0:Int),(0:Int)],[(1:Int),(0:Int)],[(1:Int),(1:Int)],[(0:Int),(1:
 Int)]].getD (Int.toNat (0:Int)) (K.arr (2:Nat) (K.int i64)).dflt) (Int.toNat (1:Int)) (0:Int)))),∃(h:(0:Int)≤(0:Int)∧(0:Int)<(↑(4:Nat):Int)∧
 (4:Nat)≤(List.replicate (4:Nat) ((K.flt f64).pair ((K.flt f64).pair (K.flt f64))).dflt).length),∃(h:(0:Int)≤i64.wrap
 ((0:Int)+(1:Int))∧i64.wrap ((0:Int)+(1:Int))<(↑(4:Nat):Int)),∃(h:(List.replicate (2:Nat) (0:Int)).length=(2:Nat)∧List.length ([[(0:
 Int),(0:Int)],[(1:Int),(0:Int)],[(1:Int),(1:Int)],[(0:Int),(1:Int)]].getD (i64.wrap ((0:Int)+(1:Int))).toNat (K.arr (2:Nat) (K.int
 i64)).dflt)=(2:Nat)),∃(h:(0:Int)≤(0:Int)∧(0:Int)<(↑(2:Nat):Int)∧(2:Nat)≤List.length ([[(0:Int),(0:Int)],[(1:Int),(0:Int)],[(1:
 Int),(1:Int)],[(0:Int),(1:Int)]].getD (i64.wrap ((0:Int)+(1:Int))).toNat (K.arr (2:Nat) (K.int i64)).dflt)),∃(h:(0:Int)≤(1:Int)∧(1:
 Int)<(↑(2:Nat):Int)∧(2:Nat)≤List.length ([[(0:Int),(0:Int)],[(1:Int),(0:Int)],[(1:Int),(1:Int)],[(0:Int),(1:Int)]].getD (i64.wrap ((0:
 Int)+(1:Int))).toNat (K.arr (2:Nat) (K.int i64)).dflt)),∃(h:IIII n (Z4 n c).1 (i64.wrap ((Z4 n c).2.1+List.getD ([[(0:Int),(0:Int)],[(1
 : Int),(0:Int)],[(1:Int),(1:Int)],[(0:Int),(1:Int)]].getD (i64.wrap ((0:Int)+(1:Int))).toNat (K.arr (2:Nat) (K.int i64)).dflt) (Int.toNat (0
 : Int)) (0:Int))) (i64.wrap ((Z4 n c).2.2.1+List.getD ([[(0:Int),(0:Int)],[(1:Int),(0:Int)],[(1:Int),(1:Int)],[(0:Int),(1:Int)]].getD
 (i64.wrap ((0:Int)+(1:Int))).toNat (K.arr (2:Nat) (K.int i64)).dflt) (Int.toNat (1:Int)) (0:Int)))),∃(h:(0:Int)≤i64.wrap ((0:Int)+
 (1:Int))∧i64.wrap ((0:Int)+(1:Int))<(↑(4:Nat):Int)∧(4:Nat)≤((List.replicate (4:Nat) ((K.flt f64).pair ((K.flt f64).pair
 (K.flt f64))).dflt).set (Int.toNat (0:Int)) (Z1h n (Z4 n c).1 (i64.wrap ((Z4 n c).2.1+List.getD ([[(0:Int),(0:Int)],[(1:Int),(0:
 Int)],[(1:Int),(1:Int)],[(0:Int),(1:Int)]].getD (Int.toNat (0:Int)) (K.arr (2:Nat) (K.int i64)).dflt) (Int.toNat (0:Int)) (0:Int))) (i64.wrap
 ((Z4 n c).2.2.1+List.getD ([[(0:Int),(0:Int)],[(1:Int),(0:Int)],[(1:Int),(1:Int)],[(0:Int),(1:Int)]].getD (Int.toNat (0:Int)) (K.arr (2:Nat)
 (K.int i64)).dflt) (Int.toNat (1:Int)) (0:Int)))).1).length),∃(h:(0:Int)≤i64.wrap (i64.wrap ((0:Int)+(1:Int))+(1:Int))∧
 i64.wrap (i64.wrap ((0:Int)+(1:Int))+(1:Int))<(↑(4:Nat):Int)),∃(h:(List.replicate (2:Nat) (0:Int)).length=(2:Nat)∧List.length ([[(0:
 Int),(0:Int)],[(1:Int),(0:Int)],[(1:Int),(1:Int)],[(0:Int),(1:Int)]].getD (i64.wrap (i64.wrap ((0:Int)+(1:Int))+(1:Int))).toNat
 (K.arr (2:Nat) (K.int i64)).dflt)=(2:Nat)),∃(h:(0:Int)≤(0:Int)∧(0:Int)<(↑(2:Nat):Int)∧(2:Nat)≤List.length ([[(0:Int),(0:Int)],[(1:
 Int),(0:Int)],[(1:Int),(1:Int)],[(0:Int),(1:Int)]].getD (i64.wrap (i64.wrap ((0:Int)+(1:Int))+(1:Int))).toNat (K.arr (2:Nat) (K.int
 i64)).dflt)),∃(h:(0:Int)≤(1:Int)∧(1:Int)<(↑(2:Nat):Int)∧(2:Nat)≤List.length ([[(0:Int),(0:Int)],[(1:Int),(0:Int)],[(1:Int),(1:
 Int)],[(0:Int),(1:Int)]].getD (i64.wrap (i64.wrap ((0:Int)+(1:Int))+(1:Int))).toNat (K.arr (2:Nat) (K.int i64)).dflt)),∃(h:IIII n
 (Z4 n c).1 (i64.wrap ((Z4 n c).2.1+List.getD ([[(0:Int),(0:Int)],[(1:Int),(0:Int)],[(1:Int),(1:Int)],[(0:Int),(1:Int)]].getD
 (i64.wrap (i64.wrap ((0:Int)+(1:Int))+(1:Int))).toNat (K.arr (2:Nat) (K.int i64)).dflt) (Int.toNat (0:Int)) (0:Int))) (i64.wrap
 ((Z4 n c).2.2.1+List.getD ([[(0:Int),(0:Int)],[(1:Int),(0:Int)],[(1:Int),(1:Int)],[(0:Int),(1:Int)]].getD (i64.wrap (i64.wrap ((0:
 Int)+(1:Int))+(1:Int))).toNat (K.arr (2:Nat) (K.int i64)).dflt) (Int.toNat (1:Int)) (0:Int)))),∃(h:(0:Int)≤i64.wrap (i64.wrap ((0:
 Int)+(1:Int))+(1:Int))∧i64.wrap (i64.wrap ((0:Int)+(1:Int))+(1:Int))<(↑(4:Nat):Int)∧(4:Nat)≤(((List.replicate (4:Nat) ((K.flt
 f64).pair ((K.flt f64).pair (K.flt f64))).dflt).set (Int.toNat (0:Int)) (Z1h n (Z4 n c).1 (i64.wrap ((Z4 n c).2.1+
 List.getD ([[(0:Int),(0:Int)],[(1:Int),(0:Int)],[(1:Int),(1:Int)],[(0:Int),(1:Int)]].getD (Int.toNat (0:Int)) (K.arr (2:Nat) (K.int i64)).dflt)
 (Int.toNat (0:Int)) (0:Int))) (i64.wrap ((Z4 n c).2.2.1+List.getD ([[(0:Int),(0:Int)],[(1:Int),(0:Int)],[(1:Int),(1:Int)],[(0:Int),(1:
 Int)]].getD (Int.toNat (0:Int)) (K.arr (2:Nat) (K.int i64)).dflt) (Int.toNat (1:Int)) (0:Int)))).1).set (i64.wrap ((0:Int)+(1:Int))).toNat (Z1h n
 (Z4 n c).1 (i64.wrap ((Z4 n c).2.1+List.getD ([[(0:Int),(0:Int)],[(1:Int),(0:Int)],[(1:Int),(1:Int)],[(0:Int),(1:Int)]].getD
 (i64.wrap ((0:Int)+(1:Int))).toNat (K.arr (2:Nat) (K.int i64)).dflt) (Int.toNat (0:Int)) (0:Int))) (i64.wrap ((Z4 n c).2.2.1+List.getD
 ([[(0:Int),(0:Int)],[(1:Int),(0:Int)],[(1:Int),(1:Int)],[(0:Int),(1:Int)]].getD (i64.wrap ((0:Int)+(1:Int))).toNat (K.arr (2:Nat) (K.int
 i64)).dflt) (Int.toNat (1:Int)) (0:Int)))).1).length),∃(h:(0:Int)≤i64.wrap (i64.wrap (i64.wrap ((0:Int)+(1:Int))+(1:Int))+
 (1:Int))∧i64.wrap (i64.wrap (i64.wrap ((0:Int)+(1:Int))+(1:Int))+(1:Int))<(↑(4:Nat):Int)),∃(h:(List.replicate (2:Nat) (0:
 Int)).length=(2:Nat)∧List.length ([[(0:Int),(0:Int)],[(1:Int),(0:Int)],[(1:Int),(1:Int)],[(0:Int),(1:Int)]].getD (i64.wrap (i64.wrap
 (i64.wrap ((0:Int)+(1:Int))+(1:Int))+(1:Int))).toNat (K.arr (2:Nat) (K.int i64)).dflt)=(2:Nat)),∃(h:(0:Int)≤(0:Int)∧(0:Int) <
 (↑(2:Nat):Int)∧(2:Nat)≤List.length ([[(0:Int),(0:Int)],[(1:Int),(0:Int)],[(1:Int),(1:Int)],[(0:Int),(1:Int)]].getD (i64.wrap
 (i64.wrap (i64.wrap ((0:Int)+(1:Int))+(1:Int))+(1:Int))).toNat (K.arr (2:Nat) (K.int i64)).dflt)),∃(h:(0:Int)≤(1:Int)∧(1:Int)
 < (↑(2:Nat):Int)∧(2:Nat)≤List.length ([[(0:Int),(0:Int)],[(1:Int),(0:Int)],[(1:Int),(1:Int)],[(0:Int),(1:Int)]].getD (i64.wrap
 (i64.wrap (i64.wrap ((0:Int)+(1:Int))+(1:Int))+(1:Int))).toNat (K.arr (2:Nat) (K.int i64)).dflt)),∃(h:IIII n (Z4 n c).1
 (i64.wrap ((Z4 n c).2.1+List.getD ([[(0:Int),(0:Int)],[(1:Int),(0:Int)],[(1:Int),(1:Int)],[(0:Int),(1:Int)]].getD (i64.wrap
 (i64.wrap (i64.wrap ((0:Int)+(1:Int))+(1:Int))+(1:Int))).toNat (K.arr (2:Nat) (K.int i64)).dflt) (Int.toNat (0:Int)) (0:Int)))
 (i64.wrap ((Z4 n c).2.2.1+List.getD ([[(0:Int),(0:Int)],[(1:Int),(0:Int)],[(1:Int),(1:Int)],[(0:Int),(1:Int)]].getD (i64.wrap
 (i64.wrap (i64.wrap ((0:Int)+(1:Int))+(1:Int))+(1:Int))).toNat (K.arr (2:Nat) (K.int i64)).dflt) (Int.toNat (1:Int)) (0:Int)))),∃(h:
 (0:Int)≤i64.wrap (i64.wrap (i64.wrap ((0:Int)+(1:Int))+(1:Int))+(1:Int))∧i64.wrap (i64.wrap (i64.wrap ((0:
 Int)+(1:Int))+(1:Int))+(1:Int))<(↑(4:Nat):Int)∧(4:Nat)≤((((List.replicate (4:Nat) ((K.flt f64).pair ((K.flt f64).pair (K.flt
 f64))).dflt).set (Int.toNat (0:Int)) (Z1h n (Z4 n c).1 (i64.wrap ((Z4 n c).2.1+List.getD ([[(0:Int),(0:Int)],[(1:Int),(0:Int)],
 [(1:Int),(1:Int)],[(0:Int),(1:Int)]].getD (Int.toNat (0:Int)) (K.arr (2:Nat) (K.int i64)).dflt) (Int.toNat (0:Int)) (0:Int))) (i64.wrap
 ((Z4 n c).2.2.1+List.getD ([[(0:Int),(0:Int)],[(1:Int),(0:Int)],[(1:Int),(1:Int)],[(0:Int),(1:Int)]].getD (Int.toNat (0:Int)) (K.arr (2:Nat)
 (K.int i64)).dflt) (Int.toNat (1:Int)) (0:Int)))).1).set (i64.wrap ((0:Int)+(1:Int))).toNat (Z1h n (Z4 n c).1 (i64.wrap ((Z4 n
 c).2.1+List.getD ([[(0:Int),(0:Int)],[(1:Int),(0:Int)],[(1:Int),(1:Int)],[(0:Int),(1:Int)]].getD (i64.wrap ((0:Int)+(1:Int))).toNat (K.arr
 (2:Nat) (K.int i64)).dflt) (Int.toNat (0:Int)) (0:Int))) (i64.wrap ((Z4 n c).2.2.1+List.getD ([[(0:Int),(0:Int)],[(1:Int),(0:Int)],[(1:
 Int),(1:Int)],[(0:Int),(1:Int)]].getD (i64.wrap ((0:Int)+(1:Int))).toNat (K.arr (2:Nat) (K.int i64)).dflt) (Int.toNat (1:Int)) (0:
 Int)))).1).set (i64.wrap (i64.wrap ((0:Int)+(1:Int))+(1:Int))).toNat (Z1h n (Z4 n c).1 (i64.wrap ((Z4 n c).2.1+List.getD ([[(0:
 Int),(0:Int)],[(1:Int),(0:Int)],[(1:Int),(1:Int)],[(0:Int),(1:Int)]].getD (i64.wrap (i64.wrap ((0:Int)+(1:Int))+(1:Int))).toNat
 (K.arr (2:Nat) (K.int i64)).dflt) (Int.toNat (0:Int)) (0:Int))) (i64.wrap ((Z4 n c).2.2.1+List.getD ([[(0:Int),(0:Int)],[(1:Int),(0:Int)],
 [(1:Int),(1:Int)],[(0:Int),(1:Int)]].getD (i64.wrap (i64.wrap ((0:Int)+(1:Int))+(1:Int))).toNat (K.arr (2:Nat) (K.int i64)).dflt)
 (Int.toNat (1:Int)) (0:Int)))).1).length),∃(h:(((((List.replicate (4:Nat) ((K.flt f64).pair ((K.flt f64).pair (K.flt
 f64))).dflt).set (Int.toNat (0:Int)) (Z1h n (Z4 n c).1 (i64.wrap ((Z4 n c).2.1+List.getD ([[(0:Int),(0:Int)],[(1:Int),(0:Int)],
 [(1:Int),(1:Int)],[(0:Int),(1:Int)]].getD (Int.toNat (0:Int)) (K.arr (2:Nat) (K.int i64)).dflt) (Int.toNat (0:Int)) (0:Int))) (i64.wrap
 ((Z4 n c).2.2.1+List.getD ([[(0:Int),(0:Int)],[(1:Int),(0:Int)],[(1:Int),(1:Int)],[(0:Int),(1:Int)]].getD (Int.toNat (0:Int)) (K.arr (2:Nat)
 (K.int i64)).dflt) (Int.toNat (1:Int)) (0:Int)))).1).set (i64.wrap ((0:Int)+(1:Int))).toNat (Z1h n (Z4 n c).1 (i64.wrap ((Z4 n
 c).2.1+List.getD ([[(0:Int),(0:Int)],[(1:Int),(0:Int)],[(1:Int),(1:Int)],[(0:Int),(1:Int)]].getD (i64.wrap ((0:Int)+(1:Int))).toNat (K.arr
 (2:Nat) (K.int i64)).dflt) (Int.toNat (0:Int)) (0:Int))) (i64.wrap ((Z4 n c).2.2.1+List.getD ([[(0:Int),(0:Int)],[(1:Int),(0:Int)],[(1:
 Int),(1:Int)],[(0:Int),(1:Int)]].getD (i64.wrap ((0:Int)+(1:Int))).toNat (K.arr (2:Nat) (K.int i64)).dflt) (Int.toNat (1:Int)) (0:
 Int)))).1).set (i64.wrap (i64.wrap ((0:Int)+(1:Int))+(1:Int))).toNat (Z1h n (Z4 n c).1 (i64.wrap ((Z4 n c).2.1+List.getD ([[(0:
 Int),(0:Int)],[(1:Int),(0:Int)],[(1:Int),(1:Int)],[(0:Int),(1:Int)]].getD (i64.wrap (i64.wrap ((0:Int)+(1:Int))+(1:Int))).toNat
 (K.arr (2:Nat) (K.int i64)).dflt) (Int.toNat (0:Int)) (0:Int))) (i64.wrap ((Z4 n c).2.2.1+List.getD ([[(0:Int),(0:Int)],[(1:Int),(0:Int)],
 [(1:Int),(1:Int)],[(0:Int),(1:Int)]].getD (i64.wrap (i64.wrap ((0:Int)+(1:Int))+(1:Int))).toNat (K.arr (2:Nat) (K.int i64)).dflt)
 (Int.toNat (1:Int)) (0:Int)))).1).set (i64.wrap (i64.wrap (i64.wrap ((0:Int)+(1:Int))+(1:Int))+(1:Int))).toNat (Z1h n (Z4 n c).1
 (i64.wrap ((Z4 n c).2.1+List.getD ([[(0:Int),(0:Int)],[(1:Int),(0:Int)],[(1:Int),(1:Int)],[(0:Int),(1:Int)]].getD (i64.wrap
 (i64.wrap (i64.wrap ((0:Int)+(1:Int))+(1:Int))+(1:Int))).toNat (K.arr (2:Nat) (K.int i64)).dflt) (Int.toNat (0:Int)) (0:Int)))
 (i64.wrap ((Z4 n c).2.2.1+List.getD ([[(0:Int),(0:Int)],[(1:Int),(0:Int)],[(1:Int),(1:Int)],[(0:Int),(1:Int)]].getD (i64.wrap
 (i64.wrap (i64.wrap ((0:Int)+(1:Int))+(1:Int))+(1:Int))).toNat (K.arr (2:Nat) (K.int i64)).dflt) (Int.toNat (1:Int)) (0:
 Int)))).1).length=(4:Nat)),∃(h:(List.replicate (4:Nat) ((K.flt f64).pair ((K.flt f64).pair (K.flt f64))).dflt).length=(4:Nat)
 ∧ (((((List.replicate (4:Nat) ((K.flt f64).pair ((K.flt f64).pair (K.flt f64))).dflt).set (Int.toNat (0:Int)) (Z1h n (Z4 n c).1
 (i64.wrap ((Z4 n c).2.1+List.getD ([[(0:Int),(0:Int)],[(1:Int),(0:Int)],[(1:Int),(1:Int)],[(0:Int),(1:Int)]].getD (Int.toNat (0:Int))
 (K.arr (2:Nat) (K.int i64)).dflt) (Int.toNat (0:Int)) (0:Int))) (i64.wrap ((Z4 n c).2.2.1+List.getD ([[(0:Int),(0:Int)],[(1:Int),(0:Int)],
 [(1:Int),(1:Int)],[(0:Int),(1:Int)]].getD (Int.toNat (0:Int)) (K.arr (2:Nat) (K.int i64)).dflt) (Int.toNat (1:Int)) (0:Int)))).1).set (i64.wrap
 ((0:Int)+(1:Int))).toNat (Z1h n (Z4 n c).1 (i64.wrap ((Z4 n c).2.1+List.getD ([[(0:Int),(0:Int)],[(1:Int),(0:Int)],[(1:Int),(1:
 Int)],[(0:Int),(1:Int)]].getD (i64.wrap ((0:Int)+(1:Int))).toNat (K.arr (2:Nat) (K.int i64)).dflt) (Int.toNat (0:Int)) (0:Int)))
 (i64.wrap ((Z4 n c).2.2.1+List.getD ([[(0:Int),(0:Int)],[(1:Int),(0:Int)],[(1:Int),(1:Int)],[(0:Int),(1:Int)]].getD (i64.wrap ((0:
 Int)+(1:Int))).toNat (K.arr (2:Nat) (K.int i64)).dflt) (Int.toNat (1:Int)) (0:Int)))).1).set (i64.wrap (i64.wrap ((0:Int)+(1:Int))+(1:
 Int))).toNat (Z1h n (Z4 n c).1 (i64.wrap ((Z4 n c).2.1+List.getD ([[(0:Int),(0:Int)],[(1:Int),(0:Int)],[(1:Int),(1:Int)],[(0:Int),(1:
 Int)]].getD (i64.wrap (i64.wrap ((0:Int)+(1:Int))+(1:Int))).toNat (K.arr (2:Nat) (K.int i64)).dflt) (Int.toNat (0:Int)) (0:Int)))
 (i64.wrap ((Z4 n c).2.2.1+List.getD ([[(0:Int),(0:Int)],[(1:Int),(0:Int)],[(1:Int),(1:Int)],[(0:Int),(1:Int)]].getD (i64.wrap
 (i64.wrap ((0:Int)+(1:Int))+(1:Int))).toNat (K.arr (2:Nat) (K.int i64)).dflt) (Int.toNat (1:Int)) (0:Int)))).1).set (i64.wrap
 (i64.wrap (i64.wrap ((0:Int)+(1:Int))+(1:Int))+(1:Int))).toNat (Z1h n (Z4 n c).1 (i64.wrap ((Z4 n c).2.1+List.getD ([[(0:
 Int),(0:Int)],[(1:Int),(0:Int)],[(1:Int),(1:Int)],[(0:Int),(1:Int)]].getD (i64.wrap (i64.wrap (i64.wrap ((0:Int)+(1:Int))+(1:
 Int))+(1:Int))).toNat (K.arr (2:Nat) (K.int i64)).dflt) (Int.toNat (0:Int)) (0:Int))) (i64.wrap ((Z4 n c).2.2.1+List.getD ([[(0:Int),(0:
 Int)],[(1:Int),(0:Int)],[(1:Int),(1:Int)],[(0:Int),(1:Int)]].getD (i64.wrap (i64.wrap (i64.wrap ((0:Int)+(1:Int))+(1:Int))+(1
 : Int))).toNat (K.arr (2:Nat) (K.int i64)).dflt) (Int.toNat (1:Int)) (0:Int)))).1).length=(4:Nat)),∃(h:(((((List.replicate (4:Nat) ((K.flt
 f64).pair ((K.flt f64).pair (K.flt f64))).dflt).set (Int.toNat (0:Int)) (Z1h n (Z4 n c).1 (i64.wrap ((Z4 n c).2.1+
 List.getD ([[(0:Int),(0:Int)],[(1:Int),(0:Int)],[(1:Int),(1:Int)],[(0:Int),(1:Int)]].getD (Int.toNat (0:Int)) (K.arr (2:Nat) (K.int i64)).dflt)
 (Int.toNat (0:Int)) (0:Int))) (i64.wrap ((Z4 n c).2.2.1+List.getD ([[(0:Int),(0:Int)],[(1:Int),(0:Int)],[(1:Int),(1:Int)],[(0:Int),(1:
 Int)]].getD (Int.toNat (0:Int)) (K.arr (2:Nat) (K.int i64)).dflt) (Int.toNat (1:Int)) (0:Int)))).1).set (i64.wrap ((0:Int)+(1:Int))).toNat (Z1h n
 (Z4 n c).1 (i64.wrap ((Z4 n c).2.1+List.getD ([[(0:Int),(0:Int)],[(1:Int),(0:Int)],[(1:Int),(1:Int)],[(0:Int),(1:Int)]].getD
 (i64.wrap ((0:Int)+(1:Int))).toNat (K.arr (2:Nat) (K.int i64)).dflt) (Int.toNat (0:Int)) (0:Int))) (i64.wrap ((Z4 n c).2.2.1+List.getD
 ([[(0:Int),(0:Int)],[(1:Int),(0:Int)],[(1:Int),(1:Int)],[(0:Int),(1:Int)]].getD (i64.wrap ((0:Int)+(1:Int))).toNat (K.arr (2:Nat) (K.int
 i64)).dflt) (Int.toNat (1:Int)) (0:Int)))).1).set (i64.wrap (i64.wrap ((0:Int)+(1:Int))+(1:Int))).toNat (Z1h n (Z4 n c).1
 (i64.wrap ((Z4 n c).2.1+List.getD ([[(0:Int),(0:Int)],[(1:Int),(0:Int)],[(1:Int),(1:Int)],[(0:Int),(1:Int)]].getD (i64.wrap
 (i64.wrap ((0:Int)+(1:Int))+(1:Int))).toNat (K.arr (2:Nat) (K.int i64)).dflt) (Int.toNat (0:Int)) (0:Int))) (i64.wrap ((Z4 n c).2.2.1
 + List.getD ([[(0:Int),(0:Int)],[(1:Int),(0:Int)],[(1:Int),(1:Int)],[(0:Int),(1:Int)]].getD (i64.wrap (i64.wrap ((0:Int)+(1:Int))+(1
 : Int))).toNat (K.arr (2:Nat) (K.int i64)).dflt) (Int.toNat (1:Int)) (0:Int)))).1).set (i64.wrap (i64.wrap (i64.wrap ((0:Int)+(1:Int))
 + (1:Int))+(1:Int))).toNat (Z1h n (Z4 n c).1 (i64.wrap ((Z4 n c).2.1+List.getD ([[(0:Int),(0:Int)],[(1:Int),(0:Int)],[(1:Int),(1:
 Int)],[(0:Int),(1:Int)]].getD (i64.wrap (i64.wrap (i64.wrap ((0:Int)+(1:Int))+(1:Int))+(1:Int))).toNat (K.arr (2:Nat) (K.int
 i64)).dflt) (Int.toNat (0:Int)) (0:Int))) (i64.wrap ((Z4 n c).2.2.1+List.getD ([[(0:Int),(0:Int)],[(1:Int),(0:Int)],[(1:Int),(1:Int)],
 [(0:Int),(1:Int)]].getD (i64.wrap (i64.wrap (i64.wrap ((0:Int)+(1:Int))+(1:Int))+(1:Int))).toNat (K.arr (2:Nat) (K.int
 i64)).dflt) (Int.toNat (1:Int)) (0:Int)))).1).length=(4:Nat)),post (((((List.replicate (4:Nat) ((K.flt f64).pair ((K.flt f64).pair
 (K.flt f64))).dflt).set (Int.toNat (0:Int)) (Z1h n (Z4 n c).1 (i64.wrap ((Z4 n c).2.1+List.getD ([[(0:Int),(0:Int)],[(1:Int),(0:
 Int)],[(1:Int),(1:Int)],[(0:Int),(1:Int)]].getD (Int.toNat (0:Int)) (K.arr (2:Nat) (K.int i64)).dflt) (Int.toNat (0:Int)) (0:Int))) (i64.wrap
 ((Z4 n c).2.2.1+List.getD ([[(0:Int),(0:Int)],[(1:Int),(0:Int)],[(1:Int),(1:Int)],[(0:Int),(1:Int)]].getD (Int.toNat (0:Int)) (K.arr (2:Nat)
 (K.int i64)).dflt) (Int.toNat (1:Int)) (0:Int)))).1).set (i64.wrap ((0:Int)+(1:Int))).toNat (Z1h n (Z4 n c).1 (i64.wrap ((Z4 n
 c).2.1+List.getD ([[(0:Int),(0:Int)],[(1:Int),(0:Int)],[(1:Int),(1:Int)],[(0:Int),(1:Int)]].getD (i64.wrap ((0:Int)+(1:Int))).toNat (K.arr
 (2:Nat) (K.int i64)).dflt) (Int.toNat (0:Int)) (0:Int))) (i64.wrap ((Z4 n c).2.2.1+List.getD ([[(0:Int),(0:Int)],[(1:Int),(0:Int)],[(1:
 Int),(1:Int)],[(0:Int),(1:Int)]].getD (i64.wrap ((0:Int)+(1:Int))).toNat (K.arr (2:Nat) (K.int i64)).dflt) (Int.toNat (1:Int)) (0:
 Int)))).1).set (i64.wrap (i64.wrap ((0:Int)+(1:Int))+(1:Int))).toNat (Z1h n (Z4 n c).1 (i64.wrap ((Z4 n c).2.1+List.getD ([[(0:
 Int),(0:Int)],[(1:Int),(0:Int)],[(1:Int),(1:Int)],[(0:Int),(1:Int)]].getD (i64.wrap (i64.wrap ((0:Int)+(1:Int))+(1:Int))).toNat
 (K.arr (2:Nat) (K.int i64)).dflt) (Int.toNat (0:Int)) (0:Int))) (i64.wrap ((Z4 n c).2.2.1+List.getD ([[(0:Int),(0:Int)],[(1:Int),(0:Int)],
 [(1:Int),(1:Int)],[(0:Int),(1:Int)]].getD (i64.wrap (i64.wrap ((0:Int)+(1:Int))+(1:Int))).toNat (K.arr (2:Nat) (K.int i64)).dflt)
 (Int.toNat (1:Int)) (0:Int)))).1).set (i64.wrap (i64.wrap (i64.wrap ((0:Int)+(1:Int))+(1:Int))+(1:Int))).toNat (Z1h n (Z4 n c).1
 (i64.wrap ((Z4 n c).2.1+List.getD ([[(0:Int),(0:Int)],[(1:Int),(0:Int)],[(1:Int),(1:Int)],[(0:Int),(1:Int)]].getD (i64.wrap
 (i64.wrap (i64.wrap ((0:Int)+(1:Int))+(1:Int))+(1:Int))).toNat (K.arr (2:Nat) (K.int i64)).dflt) (Int.toNat (0:Int)) (0:Int)))
 (i64.wrap ((Z4 n c).2.2.1+List.getD ([[(0:Int),(0:Int)],[(1:Int),(0:Int)],[(1:Int),(1:Int)],[(0:Int),(1:Int)]].getD (i64.wrap
 (i64.wrap (i64.wrap ((0:Int)+(1:Int))+(1:Int))+(1:Int))).toNat (K.arr (2:Nat) (K.int i64)).dflt) (Int.toNat (1:Int)) (0:Int)))).1,
 true,()))
theorem Z12k(n:Int)(c:Int)(h:II n c):Zji  n c (fun r=>r=Zs n c):=by
 obtain⟨hn,hc⟩:=h
 refine⟨⟨hn,hc⟩,Br.intro (fun e=>?_) fun e=>?_⟩
 ·refine⟨⟨by decide,by decide⟩,by decide,?_⟩
  have ok:Ze n c=false:=by
   cases q:Ze n c with
   | false=>rfl
   | true=>unfold Z4 at e; rw[if_pos q]at e; cases e
  unfold Zs; rw[if_neg (by rw[ok]; decide)]
 have ok:Ze n c=true:=by
  cases q:Ze n c with
  | true=>rfl
  | false=>unfold Z4 at e; rw[if_neg (by rw[q]; decide)]at e; cases e
 obtain⟨h1,h2,h3,h4,h5,h6⟩:=Zd3 ok
 obtain⟨r1,r2,r3,r4,r5,r6⟩:=Zsd ok
 have hp:Z4 n c=(c / (n*n),c % n,c / n % n,true,()):=by unfold Z4; rw[if_pos ok]
 have hf:I64 (c / (n*n)):=⟨by omega,by omega⟩
 have ho:∀ x,0≤x→x≤33→I64 x:=fun x a b=>⟨by omega,by omega⟩
 have w0:∀ x,0≤x→x≤33→i64.wrap (x+0)=x:=fun x a b=>by rw[Int.add_zero,wi (ho x a b)]
 have w1:∀ x,0≤x→x≤32→i64.wrap (x+1)=x+1:=fun x a b=>wi (ho _ (by omega) (by omega))
 have hC:∀ i j,0≤i→i≤n→0≤j→j≤n→Z1h n (c / (n*n)) i j=(Z9w n (c / (n*n)) i j,true,()):=by
  intro i j a1 a2 a3 a4
  unfold Z1h
  rw[if_pos]
  unfold Z7t
  rw[Z3s.2 ⟨h1,h2⟩,decide_eq_true (by omega),decide_eq_true (by omega),decide_eq_true (by omega),decide_eq_true (by omega),decide_eq_true (by omega),decide_eq_true (by omega)]
  rfl
 have a0:=w0 (c % n) (by omega) (by omega)
 have a1:=w1 (c % n) (by omega) (by omega)
 have b0:=w0 (c / n % n) (by omega) (by omega)
 have b1:=w1 (c / n % n) (by omega) (by omega)
 have A0:I64 (i64.wrap (c % n+0)):=by rw[a0]; exact ho _ (by omega) (by omega)
 have A1:I64 (i64.wrap (c % n+1)):=by rw[a1]; exact ho _ (by omega) (by omega)
 have B0:I64 (i64.wrap (c / n % n+0)):=by rw[b0]; exact ho _ (by omega) (by omega)
 have B1:I64 (i64.wrap (c / n % n+1)):=by rw[b1]; exact ho _ (by omega) (by omega)
 rw[hp]
 refine⟨by decide,⟨by decide,by decide⟩,⟨by decide,by decide,by decide⟩,⟨by decide,by decide,by decide⟩,⟨hn,hf,A0,B0⟩,⟨by decide,by decide,Nat.le_refl 4⟩,
  by decide,⟨by decide,by decide⟩,⟨by decide,by decide,by decide⟩,⟨by decide,by decide,by decide⟩,⟨hn,hf,A1,B0⟩,⟨by decide,by decide,Nat.le_refl 4⟩,
  by decide,⟨by decide,by decide⟩,⟨by decide,by decide,by decide⟩,⟨by decide,by decide,by decide⟩,⟨hn,hf,A1,B1⟩,⟨by decide,by decide,Nat.le_refl 4⟩,
  by decide,⟨by decide,by decide⟩,⟨by decide,by decide,by decide⟩,⟨by decide,by decide,by decide⟩,⟨hn,hf,A0,B1⟩,⟨by decide,by decide,Nat.le_refl 4⟩,rfl,⟨rfl,rfl⟩,rfl,?_⟩
 show([(Z1h n (c / (n*n)) (i64.wrap (c % n+0)) (i64.wrap (c / n % n+0))).1,(Z1h n (c / (n*n)) (i64.wrap (c % n+1)) (i64.wrap (c / n % n+0))).1,(Z1h n (c / (n*n)) (i64.wrap (c % n+1)) (i64.wrap (c / n % n+1))).1,(Z1h n (c / (n*n)) (i64.wrap (c % n+0)) (i64.wrap (c / n % n+1))).1],true,())=_
 rw[a0,a1,b0,b1,hC _ _ (by omega) (by omega) (by omega) (by omega),hC _ _ (by omega) (by omega) (by omega) (by omega),hC _ _ (by omega) (by omega) (by omega) (by omega),hC _ _ (by omega) (by omega) (by omega) (by omega)]
 unfold Zs; rw[if_pos ok]
def Zt2:=fun(n c:Int)(post:Int × Unit→Prop)=>∃(h:II n c),∃(h:(List.replicate (4:Nat) ((K.flt f64).pair ((K.flt f64).pair
 (K.flt f64))).dflt).length=(4:Nat)∧(Zs n c).1.length=(4:Nat)),Br (!(Zs n c).2.1) (post ((0:Int),())) (∃(h:(0:Int)≤(2:Int)∧(2:
 Int)<(↑(4:Nat):Int)∧(4:Nat)≤(Zs n c).1.length),∃(h:(0:Int)≤(0:Int)∧(0:Int)<(↑(4:Nat):Int)∧(4:Nat)≤(Zs n c).1.length),∃(h:WV2
 ((Zs n c).1.getD (Int.toNat (2:Int)) ((K.flt f64).pair ((K.flt f64).pair (K.flt f64))).dflt) ((Zs n c).1.getD (Int.toNat (0:
 Int)) ((K.flt f64).pair ((K.flt f64).pair (K.flt f64))).dflt)),∃(h:(0:Int)≤(3:Int)∧(3:Int)<(↑(4:Nat):Int)∧(4:Nat)≤
 (Zs n c).1.length),∃(h:(0:Int)≤(1:Int)∧(1:Int)<(↑(4:Nat):Int)∧(4:Nat)≤(Zs n c).1.length),∃(h:WV2 ((Zs n c).1.getD (Int.toNat (3:
 Int)) ((K.flt f64).pair ((K.flt f64).pair (K.flt f64))).dflt) ((Zs n c).1.getD (Int.toNat (1:Int)) ((K.flt f64).pair
 ((K.flt f64).pair (K.flt f64))).dflt)),∃(h:True),∃(h:WV (Zs9 (Z93 ((Zs n c).1.getD (Int.toNat (2:Int)) ((K.flt
 f64).pair ((K.flt f64).pair (K.flt f64))).dflt) ((Zs n c).1.getD (Int.toNat (0:Int)) ((K.flt f64).pair ((K.flt
 f64).pair (K.flt f64))).dflt)).1 (Z93 ((Zs n c).1.getD (Int.toNat (3:Int)) ((K.flt f64).pair ((K.flt f64).pair
 (K.flt f64))).dflt) ((Zs n c).1.getD (Int.toNat (1:Int)) ((K.flt f64).pair ((K.flt f64).pair (K.flt
 f64))).dflt)).1).1),∀(a:Nat),FRes f64 (f64.format.mul (Z6e (Zs9 (Z93 ((Zs n c).1.getD (Int.toNat (2:Int)) ((K.flt
 f64).pair ((K.flt f64).pair (K.flt f64))).dflt) ((Zs n c).1.getD (Int.toNat (0:Int)) ((K.flt f64).pair ((K.flt
 f64).pair (K.flt f64))).dflt)).1 (Z93 ((Zs n c).1.getD (Int.toNat (3:Int)) ((K.flt f64).pair ((K.flt f64).pair
 (K.flt f64))).dflt) ((Zs n c).1.getD (Int.toNat (1:Int)) ((K.flt f64).pair ((K.flt f64).pair (K.flt
 f64))).dflt)).1).1).1 (4602678819172646912:Nat)) a→∀(a_1:Nat),FRes f64 (f64.format.mul a (4742290407621132288:Nat)) a_1→∃(h:
 W64 a_1),post (imax (Zh8 a_1).1 (1:Int),()))
theorem Z1et(n:Int)(c:Int)(h:II n c):Zt2  n c (fun r=>r=Z10l n c):=by
 have g0:∀ i:Nat,WV ((Zs n c).fst.getD i ((K.flt f64).pair ((K.flt f64).pair (K.flt f64))).dflt):=Z1mu n c
 have hl:=Zwi n c
 refine⟨h,⟨by decide,hl⟩,?_⟩
 rw[hl]
 refine Br.intro (fun e=>?_) fun e=>?_
 ·rw[Znq]at e
  exact congrArg r1 (by unfold Z1a; rw[if_neg (by intro q; rw[q]at e; cases e)])
 rw[Znq]at e
 have ok:Ze n c=true:=by simpa using e
 refine⟨⟨by decide,by decide,Nat.le_refl 4⟩,⟨by decide,by decide,Nat.le_refl 4⟩,⟨g0 2,g0 0⟩,⟨by decide,by decide,Nat.le_refl 4⟩,⟨by decide,by decide,Nat.le_refl 4⟩,⟨g0 3,g0 1⟩,trivial,Z1pt _ _,?_⟩
 intro x hx y hy
 obtain⟨x1,x2⟩:=fmul hx
 obtain⟨y1,y2⟩:=fmul hy
 refine⟨y2,congrArg r1 ?_⟩
 have hs:Zs n c=([Z2q n c 0 0,Z2q n c 1 0,Z2q n c 1 1,Z2q n c 0 1],true,()):=by
  unfold Zs; rw[if_pos ok]; unfold Z2q; rw[Int.add_zero,Int.add_zero]
 have hq:[Z2q n c 0 0,Z2q n c 1 0,Z2q n c 1 1,Z2q n c 0 1]=(Zs n c).1:=by rw[hs]
 have hx1:Z5 x=mulQ (Z10k n c) Z3i:=by
  rw[x1]
  exact congrArg (fun z=>mulQ z 4602678819172646912) (Z1tf (z:=(0,0,0)) hq.symm)
 have hy1:Z5 y=mulQ (mulQ (Z10k n c) Z3i) Zxw:=by
  rw[y1]
  have u:Z5 x=Z5 (mulQ (Z10k n c) Z3i):=by rw[hx1,Z3x]
  exact Z46 u rfl
 show imax (Z5p y).1 1=Z1a n c
 unfold Z1a
 rw[if_pos ok,Z1gg y2,hy1]
end Go.Lift

namespace Go.Lift
def Zwu:=fun(a b:Nat)(post:Bool × Unit→Prop)=>∃(h:True),∃(h:True),∀(a_1:Bool),a_1=((Z8d a).fst==(Z8d b).fst)→post (a_1,())
theorem Z1gp(a:Nat)(b:Nat):Zwu  a b (fun r=>r=Z1bp a b):=by
 refine⟨trivial,trivial,?_⟩
 rintro _ rfl
 exact congrArg r1 (Z1hx a b)
def Zoz:=fun(post:Nat × Unit→Prop)=>∃(h:True),post ((Zuu (9221120237041090561:Int)).fst,())
theorem Z19x  : Zoz   (fun r=>r=qnR):=by
 exact⟨trivial,rfl⟩
def Zwv:=fun(a:Nat)(post:Nat × Unit→Prop)=>∃(h:True),∃(h:True),post ((Zuu (Go.bits Go.BinOp.andNot u64 (Z8d a).fst (9223372036854775808:
 Int))).fst,())
theorem Z1gq(a:Nat)(h:W64 a):Zwv  a (fun r=>r=absR a):=by
 refine⟨trivial,trivial,?_⟩
 show r1 (Go.bits .andNot .u64 (a:Int) 9223372036854775808).toNat=_
 rw[Z1gd h]; rfl
def Zp0:=fun(a:Nat)(post:Bool × Unit→Prop)=>∀(a_1:Bool),a_1=fcmp Go.BinOp.neq (f64.format.order a a)→post (a_1,())
theorem Z19y(a:Nat):Zp0  a (fun r=>r=nanR a):=by
 rintro _ rfl
 exact congrArg r1 (Z6v a)
def Zp1:=fun(a:Nat)(post:Nat × Unit→Prop)=>∀(a_1:Bool),a_1=fcmp Go.BinOp.neq (f64.format.order a a)→Br a_1 (∃(h:True),post (qnR.fst,
 ())) (∀(a_2:Bool),a_2=fcmp Go.BinOp.eql (f64.format.order a (0:Nat))→Br a_2 (post ((0:Nat),())) (post (a,())))
theorem Z19z(a:Nat):Zp1  a (fun r=>r=Zt a):=by
 rintro _ rfl
 refine Br.intro (fun e=>⟨trivial,?_⟩) fun e=>?_
 ·have e:isN a=true:=(Z6v a).symm.trans e
  exact congrArg r1 (by unfold Z14; rw[if_pos e]; rfl)
 ·have e:isN a=false:=(Z6v a).symm.trans e
  rintro _ rfl
  refine Br.intro (fun z=>?_) fun z=>?_
  ·have z:=(Z1d4 a).symm.trans z
   rw[e]at z
   exact congrArg r1 (by unfold Z14; rw[e,if_neg (by simp),if_pos (by simpa using z)])
  ·have z:=(Z1d4 a).symm.trans z
   rw[e]at z
   exact congrArg r1 (by unfold Z14; rw[e,if_neg (by simp),if_neg (by simpa using z)])
def Zt3:=fun(a:Nat)(post:Nat × Unit→Prop)=>∃(h:True),∀(a_1:Bool),a_1=(nanR a).fst→Br a_1 (∃(h:True),post ((Zuu (9221120237041090561:
 Int)).fst,())) (post (a,()))
theorem Z1eu(a:Nat):Zt3  a (fun r=>r=Z1d6 a):=by
 refine⟨trivial,?_⟩
 rintro _ rfl
 refine Br.intro (fun e=>⟨trivial,?_⟩) fun e=>?_
 ·have e:isN a=true:=e
  exact congrArg r1 (by unfold Z5; rw[if_pos e]; rfl)
 ·have e:isN a=false:=e
  exact congrArg r1 (by unfold Z5; rw[e]; rfl)
def Zhp:=fun(a:Nat)(post:Int × Unit→Prop)=>∃(h:True),∃(h:(0:Int)≤(1:Int)),post (u64.wrap ((Z8d a).fst*(2:Int) ^ Min.min
 (Int.toNat (1:Int)) u64.bits),())
theorem Zy9(a:Nat)(h:W64 a):Zhp  a (fun r=>r=Z1bq a):=by
 refine⟨trivial,by decide,?_⟩
 refine congrArg r1 ?_
 show u64.wrap ((a:Int)*2 ^ 1)=_
 rw[IntKind.wrap_u64]; unfold mag2 magI Z0 sw; omega
def Zp2:=fun(a:Nat)(post:Int × Unit→Prop)=>∃(h:True),∀(a_1:Bool),a_1=decide ((Z8d a).fst≥(9223372036854775808:Int))→Br a_1 (post (Go.bits
 Go.BinOp.xor u64 (if u64.signed=true then(-1:Int)else u64.max) (Z8d a).fst,())) (post (Go.bits Go.BinOp.or u64 (Z8d a).fst
 (9223372036854775808:Int),()))
theorem Z1a0(a:Nat)(h:W64 a):Zp2  a (fun r=>r=Z10d a):=by
 refine⟨trivial,?_⟩
 rintro _ rfl
 refine Br.intro (fun e=>?_) fun e=>?_
 ·have e:9223372036854775808≤a:=by have:=of_decide_eq_true e; dsimp only[Z8d,r1]at this; omega
  refine congrArg r1 ?_
  show Go.bits .xor .u64 _ (a:Int)=_
  unfold Zdt; rw[if_pos ((Zl2 h).2 e)]
  exact Z1pl h
 ·have e:a<9223372036854775808:=by have:=of_decide_eq_false e; dsimp only[Z8d,r1]at this; omega
  refine congrArg r1 ?_
  show Go.bits .or .u64 (a:Int) 9223372036854775808=_
  unfold Zdt; rw[if_neg (by rw[Zl2 h]; omega)]
  exact Z1rp e
def Zbs:=fun(a:Int)(post:Bool × Unit→Prop)=>∀(a_1:Bool),a_1=(a != a)→post (a_1,())
theorem Zqs(a:Int):Zbs  a (fun r=>r=noR a):=by
 rintro _ rfl
 exact congrArg r1 (by simp)
def Za6:=fun(a b:Int)(post:Int × Unit→Prop)=>∃(h:True),∀(a_1:Bool),a_1=(noR a).fst→∃(h:True),∀(a_2:Bool),a_2=(noR b).fst→Br a_1
 (Br a_2 (post ((0:Int),())) (post ((-1:Int),()))) (Br a_2 (post ((1:Int),())) (∀(a_3:Bool),a_3=decide (a<b)→Br a_3 (post ((-1:Int),())) (∀(a_4:Bool),a_4
 = decide (a > b)→Br a_4 (post ((1:Int),())) (post ((0:Int),())))))
theorem Zli(a:Int)(b:Int):Za6  a b (fun r=>r=cmpR a b):=by
 refine⟨trivial,?_⟩
 rintro _ rfl
 refine⟨trivial,?_⟩
 rintro _ rfl
 refine Br.intro (fun e=>by cases e) fun _=>Br.intro (fun e=>by cases e) fun _=>?_
 rintro _ rfl
 refine Br.intro (fun e=>?_) fun e=>?_
 ·exact congrArg r1 (by unfold cmpI; rw[if_pos (of_decide_eq_true e)])
 ·rintro _ rfl
  refine Br.intro (fun f=>?_) fun f=>?_
  ·exact congrArg r1 (by unfold cmpI; rw[if_neg (of_decide_eq_false e),if_pos (of_decide_eq_true f)])
  ·exact congrArg r1 (by unfold cmpI; rw[if_neg (of_decide_eq_false e),if_neg (of_decide_eq_false f)])
def Zp3:=fun(a b:Nat)(post:Int × Unit→Prop)=>∃(h:W64 a),∃(h:W64 b),∃(h:True),post ((cmpR (Z10d a).fst (Z10d b).fst).fst,())
theorem Z1a1(a:Nat)(b:Nat)(h:W2 a b):Zp3  a b (fun r=>r=ordR a b):=by
 exact⟨h.1,h.2,trivial,rfl⟩
def Zp4:=fun(a:List Int)(post:Int × Unit→Prop)=>HIs [] []∧∃(I:Int × Unit→Unit→Prop),∃(μ:Int × Unit→Unit→Nat),I ((0:Int),()) ()∧∀(x:
 Int × Unit) (y:Unit),I x y→∀(a_1:Bool),a_1=decide (x.fst<(↑a.length:Int))→Br a_1 (∃(h:(0:Int)≤x.fst∧x.fst<(↑a.length:Int)),∀(a_2:Bool),a_2=
 (a.getD x.fst.toNat (0:Int) != (0:Int))→Br a_2 (post (a.getD x.fst.toNat (0:Int),())) (HIs [] []∧I (i64.wrap (x.fst+(1:Int)),()) ()∧μ (i64.wrap
 (x.fst+(1:Int)),()) ()<μ x y)) (post ((0:Int),()))
theorem Z1a2(a:List Int)(w:KS.wf [.slice (.int .i64)] (a,())):Zp4  a (fun r=>r=orR a):=by
 have hl:a.length≤maxN:=w.1.1
 unfold maxN at hl
 refine⟨rfl,fun x _=>∃ i:Nat,x.1=i∧i≤a.length∧Zc7 (a.drop i)=Zc7 a,fun x _=>a.length - x.1.toNat,⟨0,rfl,by omega,rfl⟩,?_⟩
 rintro⟨_,⟨⟩⟩ _ ⟨i,hi,hil,hn⟩
 dsimp only at hi
 subst hi
 rintro _ rfl
 refine Br.intro (fun e=>?_) fun e=>?_
 ·have e:i<a.length:=by have:=of_decide_eq_true e; dsimp only at this; omega
  have hd:a.drop i=a.getD i 0 :: a.drop (i+1):=by
   rw[List.drop_eq_getElem_cons e,List.getD_eq_getElem?_getD,List.getElem?_eq_getElem e]; rfl
  rw[hd]at hn
  simp only[Int.toNat_natCast]
  refine⟨⟨by omega,by omega⟩,?_⟩
  rintro _ rfl
  refine Br.intro (fun z=>?_) fun z=>⟨rfl,⟨i+1,?_,by omega,?_⟩,?_⟩
  ·have z:a.getD i 0≠0:=by simpa using z
   refine congrArg r1 ?_
   rw[← hn]; unfold Zc7; rw[if_pos z]
  ·rw[wi ⟨by omega,by omega⟩]; omega
  ·have z:a.getD i 0=0:=by simpa using z
   rw[← hn,z]; rfl
  ·rw[wi ⟨by omega,by omega⟩]; omega
 ·have e:a.length≤i:=by have:=of_decide_eq_false e; dsimp only at this; omega
  refine congrArg r1 ?_
  rw[← hn,List.drop_eq_nil_of_le e]; rfl
def Zjj:=fun(a b:Nat)(post:Int × Unit→Prop)=>∃(h:W64 a),∃(h:W64 b),∃(h:True),∃(h:W2 a b),∃(h:True),post ((orR [(cmpR (Z1bq a).fst (Z1bq
 b).fst).fst,(ordR a b).fst]).fst,())
theorem Z12l(a:Nat)(b:Nat)(h:W2 a b):Zjj  a b (fun r=>r=Znl a b):=by
 refine⟨h.1,h.2,trivial,h,trivial,?_⟩
 refine congrArg r1 ?_
 unfold cmpM
 show Zc7 [cmpI (mag2 a) (mag2 b),ordF a b]=_
 simp only[Zc7]
 split
 ·rfl
 ·split
  ·rfl
  ·rename_i z; simpa using(by simpa using z:ordF a b=0).symm
def Zp5:=fun(a:Nat)(b:Int)(post:Bool × Unit→Prop)=>∀(a_1:Bool),a_1=(b==(0:Int))→Br a_1 (∃(h:W64 a),∀(a_2:Bool),a_2=fcmp Go.BinOp.gtr
 (f64.format.order (absR a).fst (9218868437227405311:Nat))→post (a_2,())) (∀(a_2:Bool),a_2=decide (b<(0:Int))→Br a_2 (∀(a_3:Bool),a_3=fcmp
 Go.BinOp.gtr (f64.format.order (Go.Op.negFloat f64 a) (9218868437227405311:Nat))→post (a_3,())) (∀(a_3:Bool),a_3=fcmp Go.BinOp.gtr
 (f64.format.order a (9218868437227405311:Nat))→post (a_3,())))
theorem Z1a3(a:Nat)(b:Int)(h:WI a b):Zp5  a b (fun r=>r=Z10e a b):=by
 have h:W64 a:=h
 rintro _ rfl
 refine Br.intro (fun e=>⟨h,?_⟩) fun e=>?_
 ·have e:b=0:=by simpa using e
  rintro _ rfl
  refine congrArg r1 ?_
  show fcmp .gtr (Ieee.double.order (Z0 a) 9218868437227405311)=_
  unfold infS; rw[if_pos e,Z1d7]
  have:=Z14n a
  have e1:Z0 (Z0 a)=Z0 a:=Zgg this
  have e2:sgn (Z0 a)=false:=by rw[Z1hw (by unfold W64; omega)]; simp; omega
  rw[e1,e2]; simp
 ·have e:b≠0:=by simpa using e
  rintro _ rfl
  refine Br.intro (fun f=>?_) fun f=>?_
  ·have f:b<0:=of_decide_eq_true f
   rintro _ rfl
   refine congrArg r1 ?_
   show fcmp .gtr (Ieee.double.order (negF a) 9218868437227405311)=_
   unfold infS; rw[if_neg e,if_pos f,Z1d7,(Zs8 h).1,Zxu h]; simp
  ·have f:¬ b<0:=of_decide_eq_false f
   rintro _ rfl
   refine congrArg r1 ?_
   show fcmp .gtr (Ieee.double.order a 9218868437227405311)=_
   unfold infS; rw[if_neg e,if_neg f,Z1d7]
end Go.Lift

namespace Go.Lift
open Go.Proofs
def Zww:Cx:=⟨Z1t Z23,Z21 [],SqG⟩
theorem Z15o:CxOk Tryz.prog Zww:=⟨Zn Zy,fun f c h=>by cases h⟩
def Z71:Con:=.det [.flt .f64] [.snap (.int .u64)] (fun _=>True) (fun x=>Z8d x.1)
theorem Zb5:Z71.holds Tryz.prog SqG 100:=by
 refine Z1ka (fn:=Tryz.f100) Tryz.func100 (by decide) rfl rfl (by kernel_rfl)
def Zwx:Cx:=addC 100 Z71 Zww
theorem Z15p:CxOk Tryz.prog Zwx:=Zm Z15o Zb5
def Z82:Con:=.det [.int .u64] [.snap (.flt .f64)] (fun _=>True) (fun x=>Zuu x.1)
theorem Zhq:Z82.holds Tryz.prog SqG 200:=by
 refine Z1kb (fn:=Tryz.f200) Tryz.func200 (by decide) rfl rfl (by kernel_rfl)
def Zwy:Cx:=addC 200 Z82 Zwx
theorem Zci:CxOk Tryz.prog Zwy:=Zm Z15p Zhq
def Zp6:Con:=.rel [.flt .f64] [.snap (.flt .f64)] (fun _=>True) (fun x r=>Ziq x.1 r) (fun x h=>Z1hv (Z1ht _) (Z14k _))
theorem Z1a4:Zp6.holds Tryz.prog SqG 246:=by
 refine Z1qe (fn:=Tryz.f246) Tryz.func246 (by decide) rfl rfl (by kernel_rfl)
def Zhr:Con:=.det [.flt .f64,.flt .f64] [.snap .bool] (fun _=>True) (fun x=>Z1bp x.1 x.2.1)
theorem Zt4:SqH Zhr 44:=
 dP Zci Z3 Zd nHn Tryz.func44 (fun x p=>Zwu  x.1 x.2.1 p) fun x _ _=>Z1gp  x.1 x.2.1
def Zcj:Con:=.det [] [.snap (.flt .f64)] (fun _=>True) (fun x=>qnR)
theorem Zlj:SqH Zcj 172:=
 dP Zci Z3 Zd nHn Tryz.func172 (fun x p=>Zoz   p) fun x _ _=>Z19x
def Zwz:Cx:=addC 172 Zcj Zwy
theorem Zlk:CxOk Tryz.prog Zwz:=Zm Zci Zlj
def Z83:Con:=.det [.flt .f64] [.snap (.flt .f64)] (fun x=>W64 x.1) (fun x=>absR x.1)
theorem Zb6:SqH Z83 152:=
 dP Zlk Z3 Zd nHn Tryz.func152 (fun x p=>Zwv  x.1 p) fun x h _=>Z1gq  x.1 h
def Zx0:Cx:=addC 152 Z83 Zwz
theorem Zll:CxOk Tryz.prog Zx0:=Zm Zlk Zb6
def Zck:Con:=.det [.flt .f64] [.snap .bool] (fun _=>True) (fun x=>nanR x.1)
theorem Zlm:SqH Zck 201:=
 dP Zll Z3 Zd nHn Tryz.func201 (fun x p=>Zp0  x.1 p) fun x _ _=>Z19y  x.1
def Zx1:Cx:=addC 201 Zck Zx0
theorem Z8p:CxOk Tryz.prog Zx1:=Zm Zll Zlm
def Z43:Con:=.det [.flt .f64] [.snap (.flt .f64)] (fun _=>True) (fun x=>Zt x.1)
theorem Z50:SqH Z43 99:=
 dP Z8p Z3 Zd nHn Tryz.func99 (fun x p=>Zp1  x.1 p) fun x _ _=>Z19z  x.1
def Zp7:Con:=.det [.flt .f64] [.snap (.flt .f64)] (fun _=>True) (fun x=>Z1d6 x.1)
theorem Z1a5:SqH Zp7 276:=
 dP Z8p Z3 Zd nHn Tryz.func276 (fun x p=>Zt3  x.1 p) fun x _ _=>Z1eu  x.1
def Zfa:Con:=.det [.flt .f64] [.snap (.int .u64)] (fun x=>W64 x.1) (fun x=>Z1bq x.1)
theorem Zvr:SqH Zfa 250:=
 dP Z8p Z3 Zd nHn Tryz.func250 (fun x p=>Zhp  x.1 p) fun x h _=>Zy9  x.1 h
def Zt5:Cx:=addC 250 Zfa Zx1
theorem Zjk:CxOk Tryz.prog Zt5:=Zm Z8p Zvr
def Zln:Con:=.det [.flt .f64] [.snap (.int .u64)] (fun x=>W64 x.1) (fun x=>Z10d x.1)
theorem Z15q:SqH Zln 242:=
 dP Zjk Z3 Zd nHn Tryz.func242 (fun x p=>Zp2  x.1 p) fun x h _=>Z1a0  x.1 h
def Zt6:Cx:=addC 242 Zln Zt5
theorem Zjl:CxOk Tryz.prog Zt6:=Zm Zjk Z15q
def Zb7:Con:=.det [.int .u64] [.snap .bool] (fun _=>True) (fun x=>noR x.1)
theorem Zoa:SqH Zb7 272:=
 dP Zjl Z3 Zd nHn Tryz.func272 (fun x p=>Zbs  x.1 p) fun x _ _=>Zqs  x.1
def Zt7:Cx:=addC 272 Zb7 Zt6
theorem Zjm:CxOk Tryz.prog Zt7:=Zm Zjl Zoa
def Z99:Con:=.det [.int .u64,.int .u64] [.snap (.int .i64)] (fun _=>True) (fun x=>cmpR x.1 x.2.1)
theorem Zkq:SqH Z99 241:=
 dP Zjm Z3 Zd nHn Tryz.func241 (fun x p=>Za6  x.1 x.2.1 p) fun x _ _=>Zli  x.1 x.2.1
def Zt8:Cx:=addC 241 Z99 Zt7
theorem Zjn:CxOk Tryz.prog Zt8:=Zm Zjm Zkq
def Z8q:Con:=.det [.flt .f64,.flt .f64] [.snap (.int .i64)] (fun x=>W2 x.1 x.2.1) (fun x=>ordR x.1 x.2.1)
theorem Zcl:SqH Z8q 204:=
 dP Zjn Z3 Zd nHn Tryz.func204 (fun x p=>Zp3  x.1 x.2.1 p) fun x h _=>Z1a1  x.1 x.2.1 h
def Zt9:Cx:=addC 204 Z8q Zt8
theorem Zjo:CxOk Tryz.prog Zt9:=Zm Zjn Zcl
def Zlo:Con:=.det [.slice (.int .i64)] [.snap (.int .i64)] (fun _=>True) (fun x=>orR x.1)
theorem Z15r:SqH Zlo 249:=
 dP Zjo Z3 Zd ({loops:=fun k=>match k with | 3=>some {ls:=[(.slot 8,.data (.int .i64))],os:=[]} | _=>none,joins:=fun _=>none,named:=true}) Tryz.func249 (fun x p=>Zp4  x.1 p) fun x _ w=>Z1a2  x.1 w
def Z1ev:Cx:=addC 249 Zlo Zt9
theorem Zjp:CxOk Tryz.prog Z1ev:=Zm Zjo Z15r
def Zhs:Con:=.det [.flt .f64,.flt .f64] [.snap (.int .i64)] (fun x=>W2 x.1 x.2.1) (fun x=>Znl x.1 x.2.1)
theorem Zya:SqH Zhs 248:=
 dP Zjp Z3 Zd nHn Tryz.func248 (fun x p=>Zjj  x.1 x.2.1 p) fun x h _=>Z12l  x.1 x.2.1 h
def Zcm:Con:=.det [.flt .f64,.int .i64] [.snap .bool] (fun x=>WI x.1 x.2.1) (fun x=>Z10e x.1 x.2.1)
theorem Zlp:SqH Zcm 240:=
 dP Zjp Z3 Zd nHn Tryz.func240 (fun x p=>Zp5  x.1 x.2.1 p) fun x h _=>Z1a3  x.1 x.2.1 h
end Go.Lift

namespace Go.Lift
def Zta:=fun(a b c:Nat)(post:(Nat × Nat × Nat) × Unit→Prop)=>∃(h:True),∃(h:True),∃(h:True),post (((Zt a).fst,(Zt b).fst,(Zt c).fst),
 ())
theorem Z1ew(a:Nat)(b:Nat)(c:Nat):Zta  a b c (fun r=>r=Z6d a b c):=by
 exact⟨trivial,trivial,trivial,rfl⟩
def Ztb:=fun(a b:Nat × Nat × Nat)(post:(Nat × Nat × Nat) × Unit→Prop)=>∀(a_1:Nat),FRes f64 (f64.format.sub a.fst b.fst) a_1→∀
 (a_2:Nat),FRes f64 (f64.format.sub a.snd.fst b.snd.fst) a_2→∀(a_3:Nat),FRes f64 (f64.format.sub a.snd.snd b.snd.snd)
 a_3→∃(h:True),post (((Z6d a_1 a_2 a_3).fst.fst,(Z6d a_1 a_2 a_3).fst.snd.fst,(Z6d a_1 a_2 a_3).fst.snd.snd),())
theorem Z1ex(a:Nat × Nat × Nat)(b:Nat × Nat × Nat)(h:WV2 a b):Ztb  a b (fun r=>r=Z93 a b):=by
 intro x hx y hy z hz
 exact⟨trivial,congrArg r1 (Zh6 (fsub hx).1 (fsub hy).1 (fsub hz).1)⟩
def Ztc:=fun(a b:Nat × Nat × Nat)(post:(Nat × Nat × Nat) × Unit→Prop)=>∀(a_1:Nat),FRes f64 (f64.format.mul a.snd.fst b.snd.snd)
 a_1→∀(a_2:Nat),FRes f64 (f64.format.mul a.snd.snd b.snd.fst) a_2→∀(a_3:Nat),FRes f64 (f64.format.sub a_1 a_2) a_3→
 ∀(a_4:Nat),FRes f64 (f64.format.mul a.snd.snd b.fst) a_4→∀(a_5:Nat),FRes f64 (f64.format.mul a.fst b.snd.snd) a_5→∀
 (a_6:Nat),FRes f64 (f64.format.sub a_4 a_5) a_6→∀(a_7:Nat),FRes f64 (f64.format.mul a.fst b.snd.fst) a_7→∀(a_8:
 Nat),FRes f64 (f64.format.mul a.snd.fst b.fst) a_8→∀(a:Nat),FRes f64 (f64.format.sub a_7 a_8) a→∃(h:True),post
 (((Z6d a_3 a_6 a).fst.fst,(Z6d a_3 a_6 a).fst.snd.fst,(Z6d a_3 a_6 a).fst.snd.snd),())
theorem Z1ey(a:Nat × Nat × Nat)(b:Nat × Nat × Nat):Ztc  a b (fun r=>r=Zs9 a b):=by
 intro x1 h1 x2 h2 x3 h3 x4 h4 x5 h5 x6 h6 x7 h7 x8 h8 x9 h9
 exact⟨trivial,congrArg r1 (Zh6 (Z14p (fmul h1).1 (fmul h2).1 (fsub h3).1) (Z14p (fmul h4).1 (fmul h5).1 (fsub h6).1) (Z14p (fmul h7).1 (fmul h8).1 (fsub h9).1))⟩
def Ztd:=fun(a:Nat)(post:Nat × Unit→Prop)=>∃(h:True),∀(a_1:Nat × Unit),Ziq a a_1→post (a_1.fst,())
theorem Z1ez(a:Nat):Ztd  a (fun r=>Ziq a r):=by
 exact⟨trivial,fun x hx=>hx⟩
def Zp8:=fun(a:Nat × Nat × Nat)(post:Nat × Unit→Prop)=>∀(a_1:Nat),FRes f64 (f64.format.mul a.fst a.fst) a_1→∀(a_2:Nat),FRes
 f64 (f64.format.mul a.snd.fst a.snd.fst) a_2→∀(a_3:Nat),FRes f64 (f64.format.mul a.snd.snd a.snd.snd) a_3→∃(h:W3 a_1
 a_2 a_3),∃(h:True),∀(a:Nat × Unit),Ziq (Z10f a_1 a_2 a_3).fst a→∃(h:True),post ((Zt a.fst).fst,())
theorem Z1a6(a:Nat × Nat × Nat)(h:WV a):Zp8  a (fun r=>r=Z6e a):=by
 intro x hx y hy z hz
 exact⟨⟨(fmul hx).2,(fmul hy).2,(fmul hz).2⟩,trivial,fun w hw=>⟨trivial,congrArg r1 (length_eq (fmul hx).1 (fmul hy).1 (fmul hz).1 hw.1)⟩⟩
def Z12m:=fun(a b:Nat × Nat × Nat)(post:Nat × Unit→Prop)=>∃(h:WV2 (a.fst,a.snd.fst,a.snd.snd) (b.fst,b.snd.fst,b.snd.snd)),∃(h:WV (Z93 (a.fst,
 a.snd.fst,a.snd.snd) (b.fst,b.snd.fst,b.snd.snd)).fst),post ((Z6e (Z93 (a.fst,a.snd.fst,a.snd.snd) (b.fst,b.snd.fst,b.snd.snd)).fst).fst,())
theorem Z1kr(a:Nat × Nat × Nat)(b:Nat × Nat × Nat)(h:WV2 a b):Z12m  a b (fun r=>r=gapR a b):=by
 exact⟨h,Z1po _ _,rfl⟩
def Zx2:=fun(a:Nat × Nat × Nat)(post:(Nat × Nat × Nat) × Unit→Prop)=>∃(h:WV (a.fst,a.snd.fst,a.snd.snd)),∀(a_1:Bool),a_1=fcmp Go.BinOp.gtr
 (f64.format.order (Z6e (a.fst,a.snd.fst,a.snd.snd)).fst (0:Nat))→Br (!a_1) (post (((0:Nat),(0:Nat),(0:Nat)),())) (∃(h:WI (Z6e (a.fst,
 a.snd.fst,a.snd.snd)).fst (1:Int)),∀(a_2:Bool),a_2=(Z10e (Z6e (a.fst,a.snd.fst,a.snd.snd)).fst (1:Int)).fst→Br a_2 (post (((0:Nat),(0:Nat),(0:Nat)),
 ())) (∀(a_3:Nat),FRes f64 (f64.format.div a.fst (Z6e (a.fst,a.snd.fst,a.snd.snd)).fst) a_3→∀(a_4:Nat),FRes f64
 (f64.format.div a.snd.fst (Z6e (a.fst,a.snd.fst,a.snd.snd)).fst) a_4→∀(a_5:Nat),FRes f64 (f64.format.div a.snd.snd (Z6e
 (a.fst,a.snd.fst,a.snd.snd)).fst) a_5→∃(h:True),post (((Z6d a_3 a_4 a_5).fst.fst,(Z6d a_3 a_4 a_5).fst.snd.fst,(Z6d a_3 a_4 a_5).fst.snd.snd),())))
theorem Z1gr(a:Nat × Nat × Nat)(h:WV a):Zx2  a (fun r=>r=Z10h a):=by
 refine⟨h,?_⟩
 have hs:=Zwg a
 have hg:=Z1rs hs
 rintro _ rfl
 refine Br.intro (fun e=>?_) fun e=>⟨Z17k a,?_⟩
 ·have e:(!fcmp .gtr (Ieee.double.order (Z1q a) 0))=true:=e
  rw[hg]at e
  refine(congrArg r1 (Z17l ?_)).symm
  rw[Z14q]
  rintro⟨h1,h2⟩
  have:isN (Z1q a)=false:=by unfold isN; simp; omega
  rw[this]at e
  simp[h1]at e
 ·have e:(!fcmp .gtr (Ieee.double.order (Z1q a) 0))=false:=e
  rw[hg]at e
  have e:isN (Z1q a)=false∧Z0 (Z1q a)≠0:=by simpa using e
  have hi:infS (Z1q a) 1=decide (Z0 (Z1q a)=infR):=by unfold infS; rw[if_neg (by decide),if_neg (by decide),hs]; simp
  rintro _ rfl
  refine Br.intro (fun f=>?_) fun f=>?_
  ·have f:infS (Z1q a) 1=true:=f
   rw[hi]at f
   have f:=of_decide_eq_true f
   exact(congrArg r1 (Z17l (by rw[Z14q]; rintro⟨h1,h2⟩; omega))).symm
  ·have f:infS (Z1q a) 1=false:=f
   rw[hi]at f
   have f:=of_decide_eq_false f
   have g:Z0 (Z1q a)≤infR:=by have:=e.1; unfold isN at this; simpa using this
   intro x hx y hy z hz
   exact⟨trivial,congrArg r1 (Z1mo ((Z14q _).2 ⟨e.2,by omega⟩) (fdiv hx).1 (fdiv hy).1 (fdiv hz).1)⟩
end Go.Lift

namespace Go.Lift
def Z12n:=fun(a:List Nat)(post:Nat × Unit→Prop)=>∀(a_1:Bool),a_1=((↑a.length:Int)==(0:Int))→Br a_1 (post ((0:Nat),())) (∃(h:(0:Int)≤(0:
 Int)∧(0:Int)<(↑a.length:Int)),∃(h:(0:Int)≤(1:Int)∧(1:Int)≤(↑a.length:Int)∧(↑a.length:Int)≤(↑a.length:Int)),HIs [] []∧∃(I:Nat × Int × Unit→
 Unit→Prop),∃(μ:Nat × Int × Unit→Unit→Nat),I (a.getD (Int.toNat (0:Int)) (0:Nat),(0:Int),()) ()∧∀(x:Nat × Int × Unit)(y:Unit),I x y→∀(a_2:Bool),
 a_2=decide (x.snd.fst<(↑(List.take ((↑a.length:Int) - (1:Int)).toNat (List.drop (Int.toNat (1:Int)) a)).length:Int))→Br a_2 (∃(h:(0:Int)≤x.snd.fst∧x.snd.fst
 < (↑(List.take ((↑a.length:Int) - (1:Int)).toNat (List.drop (Int.toNat (1:Int)) a)).length:Int)),∀(a_3:Nat),FRes f64 (f64.format.add x.fst
 ((List.take ((↑a.length:Int) - (1:Int)).toNat (List.drop (Int.toNat (1:Int)) a)).getD x.snd.fst.toNat (0:Nat))) a_3→HIs [] []∧I (a_3,i64.wrap (x.snd.fst+(1
 : Int)),()) ()∧μ (a_3,i64.wrap (x.snd.fst+(1:Int)),()) ()<μ x y) (∃(h:True),post ((Z1d6 x.fst).fst,())))
theorem Z1ks(a:List Nat)(h:WL a)(w:KS.wf [.slice (.flt .f64)] (a,())):Z12n  a (fun r=>r=rowR a):=by
 have hl:a.length≤maxN:=w.1.1
 unfold maxN at hl
 rintro _ rfl
 refine Br.intro (fun e=>?_) fun e=>?_
 ·have e:a.length=0:=by have:=eq_of_beq e; omega
  have:a=[]:=List.eq_nil_of_length_eq_zero e
  subst this; rfl
 ·have e:0<a.length:=by
   rcases Nat.eq_zero_or_pos a.length with z | z
   ·rw[z]at e; cases e
   ·exact z
  refine⟨⟨by omega,by omega⟩,⟨by omega,by omega,by omega⟩,rfl,fun x _=>∃ i:Nat,x.2.1=i∧i+1≤a.length∧W64 x.1∧Z5 x.1=rowQ (a.take (i+1)),fun x _=>a.length - x.2.1.toNat,⟨0,rfl,by omega,Z1rr h 0,(Z1pm e).symm⟩,?_⟩
  have ht:List.take ((a.length:Int) - 1).toNat (List.drop (Int.toNat 1) a)=a.drop 1:=by
   show List.take ((a.length:Int) - 1).toNat (List.drop 1 a)=a.drop 1
   apply List.take_of_length_le; rw[List.length_drop]; omega
  rw[ht]
  have hd:∀ i,(a.drop 1).getD i 0=a.getD (i+1) 0:=by
   intro i; rw[List.getD_eq_getElem?_getD,List.getD_eq_getElem?_getD,List.getElem?_drop,Nat.add_comm]
  rintro⟨acc,_,⟨⟩⟩ _ ⟨i,hi,hil,hw,hq⟩
  dsimp only at hi hw hq
  subst hi
  dsimp only
  rintro _ rfl
  refine Br.intro (fun f=>?_) fun f=>?_
  ·have f:i+1<a.length:=by have:=of_decide_eq_true f; rw[List.length_drop]at this; omega
   refine⟨⟨by omega,by rw[List.length_drop]; omega⟩,fun r hr=>?_⟩
   rw[Int.toNat_natCast,hd]at hr
   obtain⟨q1,q2⟩:=fadd hr
   refine⟨rfl,⟨i+1,?_,by omega,q2,?_⟩,?_⟩
   ·rw[wi ⟨by omega,by omega⟩]; omega
   ·show Z5 r=_
    rw[q1,Z1rq f (by omega),Zfs (x':=rowQ (a.take (i+1))) (by rw[hq,Z1tb]) rfl]
   ·rw[wi ⟨by omega,by omega⟩]; omega
  ·have f:a.length≤i+1:=by have:=of_decide_eq_false f; rw[List.length_drop]at this; omega
   refine⟨trivial,congrArg r1 ?_⟩
   show Z5 acc=_
   rw[hq,List.take_of_length_le f]
def Zte:=fun(a b c:Nat)(post:Nat × Unit→Prop)=>∃(h:(List.replicate (3:Nat) (0:Nat)).length=(3:Nat)∧(3:Nat)=(3:Nat)),∃(h:(0:Int)≤(0:
 Int)∧(0:Int)≤(3:Int)∧(3:Int)≤(3:Int)∧(3:Nat)=(3:Nat)),∃(h:Zuv (3:Int)),∃(h:(0:Int)≤(1:Int)∧(1:Int)<(3:Int)),∃(h:(0:Int)≤
 (0:Int)∧(0:Int)<(3:Int)),∃(h:W2 b a),Br (decide ((Znl b a).fst<(0:Int))) (∃(h:(0:Int)≤(0:Int)∧(0:Int)<(3:Int)),∃(h:(0:Int)≤(1:Int)
 ∧ (1:Int)<(3:Int)),∃(h:(0:Int)≤(1:Int)∧(1:Int)<(3:Int)),∃(h:(0:Int)≤(0:Int)∧(0:Int)<(3:Int)),∃(h:(0:Int)≤(2:Int)∧(2:Int) <
 (3:Int)),∃(h:(0:Int)≤(1:Int)∧(1:Int)<(3:Int)),∃(h:W2 c a),Br (decide ((Znl c a).fst<(0:Int))) (∃(h:(0:Int)≤(1:Int)∧(1:Int)<(3:
 Int)),∃(h:(0:Int)≤(2:Int)∧(2:Int)<(3:Int)),∃(h:(0:Int)≤(2:Int)∧(2:Int)<(3:Int)),∃(h:(0:Int)≤(1:Int)∧(1:Int)<(3:Int)),∃(h:
 (0:Int)≤(1:Int)∧(1:Int)<(3:Int)),∃(h:(0:Int)≤(0:Int)∧(0:Int)<(3:Int)),∃(h:W2 c b),Br (decide ((Znl c b).fst<(0:Int))) (∃(h:(0:Int)
 ≤ (0:Int)∧(0:Int)<(3:Int)),∃(h:(0:Int)≤(1:Int)∧(1:Int)<(3:Int)),∃(h:(0:Int)≤(1:Int)∧(1:Int)<(3:Int)),∃(h:(0:Int)≤(0:Int)∧
 (0:Int)<(3:Int)),∃(h:(0:Int)≤(0:Int)∧(0:Int)≤(3:Int)∧(3:Int)≤(3:Int)∧(3:Nat)=[c,b,a].length),∃(h:WL [c,b,a]),post ((rowR [c,b,
 a]).fst,())) (∃(h:(0:Int)≤(0:Int)∧(0:Int)≤(3:Int)∧(3:Int)≤(3:Int)∧(3:Nat)=[b,c,a].length),∃(h:WL [b,c,a]),post ((rowR [b,c,a]).fst,
 ()))) (∃(h:(0:Int)≤(0:Int)∧(0:Int)≤(3:Int)∧(3:Int)≤(3:Int)∧(3:Nat)=[b,a,c].length),∃(h:WL [b,a,c]),post ((rowR [b,a,c]).fst,()))) (∃(h
 : (0:Int)≤(2:Int)∧(2:Int)<(3:Int)),∃(h:(0:Int)≤(1:Int)∧(1:Int)<(3:Int)),∃(h:W2 c b),Br (decide ((Znl c b).fst<(0:Int))) (∃(h:(0:
 Int)≤(1:Int)∧(1:Int)<(3:Int)),∃(h:(0:Int)≤(2:Int)∧(2:Int)<(3:Int)),∃(h:(0:Int)≤(2:Int)∧(2:Int)<(3:Int)),∃(h:(0:Int)≤(1:
 Int)∧(1:Int)<(3:Int)),∃(h:(0:Int)≤(1:Int)∧(1:Int)<(3:Int)),∃(h:(0:Int)≤(0:Int)∧(0:Int)<(3:Int)),∃(h:W2 c a),Br (decide ((Znl c
 a).fst<(0:Int))) (∃(h:(0:Int)≤(0:Int)∧(0:Int)<(3:Int)),∃(h:(0:Int)≤(1:Int)∧(1:Int)<(3:Int)),∃(h:(0:Int)≤(1:Int)∧(1:Int)<(3:
 Int)),∃(h:(0:Int)≤(0:Int)∧(0:Int)<(3:Int)),∃(h:(0:Int)≤(0:Int)∧(0:Int)≤(3:Int)∧(3:Int)≤(3:Int)∧(3:Nat)=[c,a,b].length),∃(h:
 WL [c,a,b]),post ((rowR [c,a,b]).fst,())) (∃(h:(0:Int)≤(0:Int)∧(0:Int)≤(3:Int)∧(3:Int)≤(3:Int)∧(3:Nat)=[a,c,b].length),∃(h:WL [a,c,
 b]),post ((rowR [a,c,b]).fst,()))) (∃(h:(0:Int)≤(0:Int)∧(0:Int)≤(3:Int)∧(3:Int)≤(3:Int)∧(3:Nat)=(3:Nat)),∃(h:WL [a,b,c]),post ((rowR
 [a,b,c]).fst,())))
theorem Z1f0(a:Nat)(b:Nat)(c:Nat)(h:W3 a b c):Zte  a b c (fun r=>r=Z10f a b c):=by
 obtain⟨ha,hb,hc⟩:=h
 have leaf:∀ l,Zft a b c=l→((rowR l).fst,())=Z10f a b c:=by rintro _ rfl; rfl
 refine⟨⟨rfl,rfl⟩,⟨by decide,by decide,by decide,rfl⟩,rfl,by decide,by decide,⟨hb,ha⟩,Br.intro (fun e=>⟨by decide,by decide,by decide,by decide,by decide,by decide,⟨hc,ha⟩,Br.intro (fun f=>⟨by decide,by decide,by decide,by decide,by decide,by decide,⟨hc,hb⟩,Br.intro (fun g=>⟨by decide,by decide,by decide,by decide,⟨by decide,by decide,by decide,rfl⟩,WL3 hc hb ha,leaf _ ?_⟩) fun g=>⟨⟨by decide,by decide,by decide,rfl⟩,WL3 hb hc ha,leaf _ ?_⟩⟩) fun f=>⟨⟨by decide,by decide,by decide,rfl⟩,WL3 hb ha hc,leaf _ ?_⟩⟩) fun e=>⟨by decide,by decide,⟨hc,hb⟩,Br.intro (fun f=>⟨by decide,by decide,by decide,by decide,by decide,by decide,⟨hc,ha⟩,Br.intro (fun g=>⟨by decide,by decide,by decide,by decide,⟨by decide,by decide,by decide,rfl⟩,WL3 hc ha hb,leaf _ ?_⟩) fun g=>⟨⟨by decide,by decide,by decide,rfl⟩,WL3 ha hc hb,leaf _ ?_⟩⟩) fun f=>⟨⟨by decide,by decide,by decide,rfl⟩,WL3 ha hb hc,leaf _ ?_⟩⟩⟩
 ·have e:ltM b a=true:=e
  have f:ltM c a=true:=f
  have g:ltM c b=true:=g
  unfold Zft; rw[e,f,g]; rfl
 ·have e:ltM b a=true:=e
  have f:ltM c a=true:=f
  have g:ltM c b=false:=g
  unfold Zft; rw[e,f,g]; rfl
 ·have e:ltM b a=true:=e
  have f:ltM c a=false:=f
  unfold Zft; rw[e,f]; rfl
 ·have e:ltM b a=false:=e
  have f:ltM c b=true:=f
  have g:ltM c a=true:=g
  unfold Zft; rw[e,f,g]; rfl
 ·have e:ltM b a=false:=e
  have f:ltM c b=true:=f
  have g:ltM c a=false:=g
  unfold Zft; rw[e,f,g]; rfl
 ·have e:ltM b a=false:=e
  have f:ltM c b=false:=f
  unfold Zft; rw[e,f]; rfl
end Go.Lift

namespace Go.Lift
open Go.Proofs
def Z12o:Cx:=⟨Z1t Z23,Z21 [(276,Zp7),(248,Zhs)],SqG⟩
theorem Zp9:CxOk Tryz.prog Z12o:=⟨Zn Zy,Zu ⟨Z1a5,Zya,trivial⟩⟩
def Zx3:Con:=.det [.slice (.flt .f64)] [.snap (.flt .f64)] (fun x=>WL x.1) (fun x=>rowR x.1)
theorem Z1gs:SqH Zx3 251:=
 dP Zp9 Z3 Zd ({loops:=fun k=>match k with | 5=>some {ls:=[(.slot 3,.data (.flt .f64)),(.slot 15,.data (.int .i64))],os:=[]} | _=>none,joins:=fun _=>none,named:=true}) Tryz.func251 (fun x p=>Z12n  x.1 p) fun x h w=>Z1ks  x.1 h w
def Z12p:Cx:=addC 251 Zx3 Z12o
theorem Z1a7:CxOk Tryz.prog Z12p:=Zm Zp9 Z1gs
def Z7l:Con:=.det [.int .u64] [.snap (.int .i64)] (fun x=>Zuv x.1) (fun x=>twoR x.1)
def Zjq:Cx:=⟨Z1t Z23,fun _=>none,SqG⟩
theorem Ztf:CxOk Tryz.prog Zjq:=⟨Zn Zy,fun f c h=>by cases h⟩
theorem Zyb:FnAt Tryz.prog 245 Tryz.f245.ntmps Tryz.f245.results.toList (Tryz.f245.body.getD .skip):=⟨Tryz.f245,Tryz.func245,rfl,rfl,by simp,by decide⟩
theorem Zyc(post:Int × Unit→Prop):Z3w Zjq noHn Tryz.f245.ntmps Tryz.f245.results.toList (Tryz.f245.body.getD .skip) [.int .u64] [.snap (.int .i64)] ((3:Int),()) post=(∃(h:(0:Int)≤(3:Int)∧(3:Int)<(256:Int)),post ((2:Int),())):=by kernel_rfl
theorem Zb8:Z7l.holds Tryz.prog SqG 245:=by
 refine Z17g Ztf Z3 noHn Zyb ?_
 rintro⟨a,⟨⟩⟩ h
 have h:a=(3:Int):=h
 subst h
 exact(Zyc _).mpr ⟨by decide,rfl⟩
def Z12q:Cx:=addC 245 Z7l Z12p
theorem Z1a8:CxOk Tryz.prog Z12q:=Zm Z1a7 Zb8
def Zpa:Con:=.det [.int .u64] [.snap (.int .i64)] (fun x=>Zuv x.1) (fun x=>twoR x.1)
def Zpb:Cx:=⟨Z1t Z23,Z21 [(245,Z7l)],SqG⟩
theorem Zyd:CxOk Tryz.prog Zpb:=⟨Zn Zy,Zu ⟨Zb8,trivial⟩⟩
theorem Z15s:FnAt Tryz.prog 275 Tryz.f275.ntmps Tryz.f275.results.toList (Tryz.f275.body.getD .skip):=⟨Tryz.f275,Tryz.func275,rfl,rfl,by simp,by decide⟩
theorem Z15t(post:Int × Unit→Prop):Z3w Zpb noHn Tryz.f275.ntmps Tryz.f275.results.toList (Tryz.f275.body.getD .skip) [.int .u64] [.snap (.int .i64)] ((3:Int),()) post=(∃(h:Zuv 3),post ((2:Int),())):=by kernel_rfl
theorem Z1a9:Zpa.holds Tryz.prog SqG 275:=by
 refine Z17g Zyd Z3 noHn Z15s ?_
 rintro⟨a,⟨⟩⟩ h
 have h:a=(3:Int):=h
 subst h
 exact(Z15t _).mpr ⟨rfl,rfl⟩
def Z1kt:Cx:=addC 275 Zpa Z12q
theorem Zpc:CxOk Tryz.prog Z1kt:=Zm Z1a8 Z1a9
def Zpd:Con:=.det [.flt .f64,.flt .f64,.flt .f64] [.snap (.flt .f64)] (fun x=>W3 x.1 x.2.1 x.2.2.1) (fun x=>Z10f x.1 x.2.1 x.2.2.1)
theorem Z1aa:SqH Zpd 209:=
 dPI Zpc Z3 Zd ({loops:=fun _=>none,joins:=fun _=>none,inl:=inlL [247]}) (Z3n Zpc Z3 Z14z 5) Tryz.func209 (fun x p=>Zte  x.1 x.2.1 x.2.2.1 p) fun x h _=>Z1f0  x.1 x.2.1 x.2.2.1 h
end Go.Lift

namespace Go.Lift
open Go.Proofs
def Z12r:Cx:=⟨Z1t Z23,Z21 [(99,Z43),(246,Zp6),(209,Zpd),(240,Zcm)],SqG⟩
theorem Zpe:CxOk Tryz.prog Z12r:=⟨Zn Zy,Zu ⟨Z50,Z1a4,Z1aa,Zlp,trivial⟩⟩
def Zpf:Con:=.det [.flt .f64,.flt .f64,.flt .f64] [.snap kVec] (fun _=>True) (fun x=>Z6d x.1 x.2.1 x.2.2.1)
theorem Z1ab:SqH Zpf 210:=
 dP Zpe Z3 Zd nHn Tryz.func210 (fun x p=>Zta  x.1 x.2.1 x.2.2.1 p) fun x _ _=>Z1ew  x.1 x.2.1 x.2.2.1
def Z12s:Cx:=addC 210 Zpf Z12r
theorem Zpg:CxOk Tryz.prog Z12s:=Zm Zpe Z1ab
def Zeu:Con:=.det [kVec,kVec] [.snap kVec] (fun x=>WV2 x.1 x.2.1) (fun x=>Z93 x.1 x.2.1)
theorem Zph:SqH Zeu 175:=
 dP Zpg Z3 Zd nHn Tryz.func175 (fun x p=>Ztb  x.1 x.2.1 p) fun x h _=>Z1ex  x.1 x.2.1 h
def Z12t:Cx:=addC 175 Zeu Z12s
theorem Zev:CxOk Tryz.prog Z12t:=Zm Zpg Zph
def Zpi:Con:=.det [kVec,kVec] [.snap kVec] (fun _=>True) (fun x=>Zs9 x.1 x.2.1)
theorem Z1ac:SqH Zpi 174:=
 dP Zev Z3 Zd nHn Tryz.func174 (fun x p=>Ztc  x.1 x.2.1 p) fun x _ _=>Z1ey  x.1 x.2.1
def Zpj:Con:=.rel [.flt .f64] [.snap (.flt .f64)] (fun _=>True) (fun x r=>Ziq x.1 r) (fun x h=>Z1hv (Z1ht _) (Z14k _))
theorem Z1ad:SqH Zpj 208:=
 rP Zev Z3 Zd nHn Tryz.func208 (fun x p=>Ztd  x.1 p) fun x _ _=>Z1ez  x.1
def Z12u:Cx:=addC 208 Zpj Z12t
theorem Zpk:CxOk Tryz.prog Z12u:=Zm Zev Z1ad
def Zcn:Con:=.det [kVec] [.snap (.flt .f64)] (fun x=>WV x.1) (fun x=>Z6e x.1)
theorem Zlq:SqH Zcn 173:=
 dP Zpk Z3 Zd nHn Tryz.func173 (fun x p=>Zp8  x.1 p) fun x h _=>Z1a6  x.1 h
def Z1ku:Cx:=addC 173 Zcn Z12u
theorem Zpl:CxOk Tryz.prog Z1ku:=Zm Zpk Zlq
def Zx4:Con:=.det [kVec,kVec] [.snap (.flt .f64)] (fun x=>WV2 x.1 x.2.1) (fun x=>gapR x.1 x.2.1)
theorem Z1gt:SqH Zx4 113:=
 dP Zpl Z3 Zd nHn Tryz.func113 (fun x p=>Z12m  x.1 x.2.1 p) fun x h _=>Z1kr  x.1 x.2.1 h
def Ztg:Con:=.det [kVec] [.snap kVec] (fun x=>WV x.1) (fun x=>Z10h x.1)
theorem Z1f1:SqH Ztg 211:=
 dP Zpl Z3 Zd nHn Tryz.func211 (fun x p=>Zx2  x.1 p) fun x h _=>Z1gr  x.1 h
end Go.Lift

namespace Go.Lift
def Zjr:=fun(a:Int)(post:Nat × Unit→Prop)=>post (f64.nearest a,())
theorem Z12v(a:Int):Zjr  a (fun r=>r=ofIR a):=by
 exact rfl
def Zlr:=fun(a b:Int)(post:Nat × Unit→Prop)=>∀ a_1,a_1=decide (a<(1:Int))→Br a_1 (post (0,())) (∀ a_2,a_2=decide (b<(1:Int))→Br a_2 (post
 (0,())) (∃(h:True),∃(h:True),∀(a_3:Nat),FRes f64 (f64.format.div (ofIR a).1 (ofIR b).1) a_3→post (a_3,())))
theorem Z15u(a:Int)(b:Int)(h:II a b):Zlr  a b (fun r=>r=Z4k a b):=by
 rintro _ rfl
 refine Br.intro (fun e=>?_) fun e=>?_
 ·exact congrArg r1 (by unfold Z94; rw[if_pos (.inl (of_decide_eq_true e))])
 ·rintro _ rfl
  refine Br.intro (fun f=>?_) fun f=>?_
  ·exact congrArg r1 (by unfold Z94; rw[if_pos (.inr (of_decide_eq_true f))])
  ·have e:=of_decide_eq_false e
   have f:=of_decide_eq_false f
   refine⟨trivial,trivial,fun r hr=>congrArg r1 ?_⟩
   rw[Z1i0 h.1 (by omega) h.2 hr]
   unfold Z94; rw[if_neg (by omega)]
def Zpm:=fun(a:Nat)(post:Nat × Unit→Prop)=>∃(h:WNum a),post ((Zdv a).1,())
theorem Z1ae(a:Nat)(h:WNum a):Zpm  a (fun r=>r=Zdv a):=by
 exact⟨h,rfl⟩
def Zth:=fun(a:Nat)(post:Int × Unit→Prop)=>∃(h:WNum a),∀(a_1:Int),F2I f64 (Zdv a).1 u64 a_1→∀(a_2:Nat),FRes
 f64 (f64.format.sub a (Zdv a).1) a_2→∀ a,a=fcmp Go.BinOp.gtr (f64.format.order a_2 (4602678819172646912:Nat))→Br a (post
 (u64.wrap (a_1+1),())) (∀ a,a=fcmp Go.BinOp.eql (f64.format.order a_2 (4602678819172646912:Nat))→Br a (∃(h:(2:Int)≠(0:Int)),∀ a,a=
 (a_1.tmod (2:Int)==(1:Int))→Br a (post (u64.wrap (a_1+1),())) (post (a_1,()))) (post (a_1,())))
theorem Z1f2(a:Nat)(h:Zno a):Zth  a (fun r=>r=Znn a):=by
 have hw:W64 a:=by unfold Zno Z1o at h; unfold W64; omega
 have hn:isN a=false:=by
  have:=(Zdu (r:=a) (by unfold Zno Z1o at h; omega)).2.1
  unfold isN; rw[this,decide_eq_false_iff_not]; unfold Zno Z1o at h; unfold infR; omega
 refine⟨⟨hw,hn⟩,?_⟩
 intro n hn2
 have hn2:=Z1ms h hn2
 subst hn2
 intro d hd
 have hd:∀ z,Ieee.double.order d z=Ieee.double.order (subQ a (Z1n a)) z:=Z10n hd
 obtain⟨_,r1',r2'⟩:=Z17n h
 have hwp:u64.wrap (Z54 (Z1n a)+1)=Z54 (Z1n a)+1:=wu1 ⟨by omega,by omega⟩
 have tm:(Z54 (Z1n a)).tmod 2=Z54 (Z1n a) % 2:=Int.tmod_eq_emod_of_nonneg r1'
 rintro _ rfl
 refine Br.intro (fun e=>?_) fun e=>?_
 ·rw[show f64.format.order d 4602678819172646912=_ from hd _]at e
  exact congrArg r1 (by rw[hwp]; unfold Z5a; rw[if_pos (by rw[show fcmp .gtr (Ieee.double.order (subQ a (Z1n a)) Z3i)=true from e]; rfl)])
 ·rw[show f64.format.order d 4602678819172646912=_ from hd _]at e
  rintro _ rfl
  refine Br.intro (fun f=>?_) fun f=>?_
  ·rw[show f64.format.order d 4602678819172646912=_ from hd _]at f
   refine⟨by decide,?_⟩
   rintro _ rfl
   refine Br.intro (fun g=>?_) fun g=>?_
   ·rw[tm]at g
    exact congrArg r1 (by rw[hwp]; unfold Z5a; rw[if_pos (by rw[show fcmp .eql (Ieee.double.order (subQ a (Z1n a)) Z3i)=true from f,g,Bool.true_and,Bool.or_true])])
   ·rw[tm]at g
    exact congrArg r1 (by unfold Z5a; rw[if_neg (by rw[show fcmp .gtr (Ieee.double.order (subQ a (Z1n a)) Z3i)=false from e,g,Bool.and_false]; decide)])
  ·rw[show f64.format.order d 4602678819172646912=_ from hd _]at f
   exact congrArg r1 (by unfold Z5a; rw[if_neg (by rw[show fcmp .gtr (Ieee.double.order (subQ a (Z1n a)) Z3i)=false from e,show fcmp .eql (Ieee.double.order (subQ a (Z1n a)) Z3i)=false from f,Bool.false_and]; decide)])
def Zpn:=fun(a:Nat)(post:Int × Bool × Unit→Prop)=>∃(h:W64 a),∀ a_1,a_1=fcmp Go.BinOp.lss (f64.format.order (absR a).1 (4890909195324358656
 : Nat))→Br a_1 (∃(h:Zno (absR a).1),∀ a_2,a_2=fcmp Go.BinOp.lss (f64.format.order a (0:Nat))→Br a_2 (post (i64.wrap ((0:Int) -
 i64.wrap (Znn (absR a).1).1),true,())) (post (i64.wrap (Znn (absR a).1).1,true,()))) (∀ a_2,a_2=fcmp Go.BinOp.eql
 (f64.format.order a (14114281232179134464:Nat))→Br a_2 (post ((-9223372036854775808:Int),true,())) (post (0,false,())))
theorem Z1af(a:Nat)(h:W64 a):Zpn  a (fun r=>r=Zh8 a):=by
 refine⟨h,?_⟩
 rintro _ rfl
 refine Br.intro (fun e=>?_) fun e=>?_
 ·have e:fcmp .lss (Ieee.double.order (Z0 a) Z1o)=true:=e
  rw[Zxx]at e
  have e:=of_decide_eq_true e
  have hn:isN a=false:=by unfold isN; rw[decide_eq_false_iff_not]; unfold Z1o at e; unfold infR; omega
  refine⟨e,?_⟩
  rintro _ rfl
  refine Br.intro (fun f=>?_) fun f=>?_
  ·rw[show fcmp .lss (f64.format.order a 0)=_ from Znp hn]at f
   unfold Zh8 Z5p; rw[if_pos e,if_pos f]; rfl
  ·rw[show fcmp .lss (f64.format.order a 0)=_ from Znp hn]at f
   unfold Zh8 Z5p; rw[if_pos e,if_neg (by rw[f]; decide)]; rfl
 ·have e:fcmp .lss (Ieee.double.order (Z0 a) Z1o)=false:=e
  rw[Zxx]at e
  have e:=of_decide_eq_false e
  rintro _ rfl
  refine Br.intro (fun f=>?_) fun f=>?_
  ·rw[show fcmp .eql (f64.format.order a 14114281232179134464)=_ from Z1hy h]at f
   unfold Zh8 Z5p; rw[if_neg e,if_pos (show a=Z1o+9223372036854775808 from of_decide_eq_true f)]
  ·rw[show fcmp .eql (f64.format.order a 14114281232179134464)=_ from Z1hy h]at f
   unfold Zh8 Z5p; rw[if_neg e,if_neg (show ¬ a=Z1o+9223372036854775808 from of_decide_eq_false f)]
end Go.Lift

namespace Go.Lift
open Go.Proofs
def Z12w:Cx:=⟨Z1t Z23,Z21 [(152,Z83)],SqG⟩
theorem Zpo:CxOk Tryz.prog Z12w:=⟨Zn Zy,Zu ⟨Zb6,trivial⟩⟩
def Zht:Con:=.det [.int .i64] [.snap (.flt .f64)] (fun _=>True) (fun x=>ofIR x.1)
theorem Zye:SqH Zht 167:=
 dP Zpo Z3 Zd nHn Tryz.func167 (fun x p=>Zjr  x.1 p) fun x _ _=>Z12v  x.1
def Z12x:Cx:=addC 167 Zht Z12w
theorem Zpp:CxOk Tryz.prog Z12x:=Zm Zpo Zye
def Z5x:Con:=.det [.int .i64,.int .i64] [.snap (.flt .f64)] (fun x=>II x.1 x.2.1) (fun x=>Z4k x.1 x.2.1)
theorem Z7m:SqH Z5x 89:=
 dP Zpp Z3 Zd nHn Tryz.func89 (fun x p=>Zlr  x.1 x.2.1 p) fun x h _=>Z15u  x.1 x.2.1 h
def Zej:Con:=.det [.flt .f64] [.snap (.flt .f64)] (fun x=>WNum x.1) (fun x=>Zdv x.1)
theorem Zti:Zej.holds Tryz.prog SqG 270:=by
 refine Z1nm (fn:=Tryz.f270) Tryz.func270 (by decide) rfl rfl (by kernel_rfl)
def Z12y:Cx:=addC 270 Zej Z12x
theorem Zpq:CxOk Tryz.prog Z12y:=Zm Zpp Zti
def Zls:Con:=.det [.flt .f64] [.snap (.flt .f64)] (fun x=>WNum x.1) (fun x=>Zdv x.1)
theorem Z15v:SqH Zls 236:=
 dP Zpq Z3 Zd nHn Tryz.func236 (fun x p=>Zpm  x.1 p) fun x h _=>Z1ae  x.1 h
def Z12z:Cx:=addC 236 Zls Z12y
theorem Zpr:CxOk Tryz.prog Z12z:=Zm Zpq Z15v
def Zew:Con:=.det [.flt .f64] [.snap (.int .u64)] (fun x=>Zno x.1) (fun x=>Znn x.1)
theorem Zps:SqH Zew 202:=
 dP Zpr Z3 Zd nHn Tryz.func202 (fun x p=>Zth  x.1 p) fun x h _=>Z1f2  x.1 h
def Z1kv:Cx:=addC 202 Zew Z12z
theorem Z1ag:CxOk Tryz.prog Z1kv:=Zm Zpr Zps
def Zlt:Con:=.det [.flt .f64] [.snap (.int .i64),.snap .bool] (fun x=>W64 x.1) (fun x=>Zh8 x.1)
theorem Z15w:SqH Zlt 176:=
 dP Z1ag Z3 Zd nHn Tryz.func176 (fun x p=>Zpn  x.1 p) fun x h _=>Z1af  x.1 h
end Go.Lift

namespace Go.Lift
open Go.Proofs
def Z130:Cx:=⟨Z1t Z23,Z21 [(99,Z43),(211,Ztg),(48,Z4y),(104,Z8o),(175,Zeu),(174,Zpi),(173,Zcn),(176,Zlt)],SqG⟩
theorem Zpt:CxOk Tryz.prog Z130:=⟨Zn Zy,Zu ⟨Z50,Z1f1,Z6j,Zcg,Zph,Z1ac,Zlq,Z15w,trivial⟩⟩
def Zco:Con:=.det [.int .i64,.int .i64] [.snap (.flt .f64)] (fun x=>Zh9 x.1 x.2.1) (fun x=>Z3z x.1 x.2.1)
theorem Zlu:SqH Zco 180:=
 dP Zpt Z3 Zd nHn Tryz.func180 (fun x p=>Zox  x.1 x.2.1 p) fun x h _=>Z19v  x.1 x.2.1 h
def Z131:Cx:=addC 180 Zco Z130
theorem Zpu:CxOk Tryz.prog Z131:=Zm Zpt Zlu
def Zcp:Con:=.det [.int .i64,.flt .f64,.flt .f64] [.snap kVec] (fun x=>Z10j x.1 x.2.1 x.2.2.1) (fun x=>Zdw x.1 x.2.1 x.2.2.1)
theorem Zlv:SqH Zcp 179:=
 dP Zpu Z3 Zd ({loops:=fun _=>none,joins:=Z10 [(13,{ls:=[],os:=[(1,236,.flt .f64)]})],unroll:=fun _=>some 4}) Tryz.func179 (fun x p=>Zoy 166 236 x.1 x.2.1 x.2.2.1 p) fun x h _=>Z19w 166 236 x.1 x.2.1 x.2.2.1 h
def Z132:Cx:=addC 179 Zcp Z131
theorem Zpv:CxOk Tryz.prog Z132:=Zm Zpu Zlv
def Zjs:Con:=.det [.int .i64,.int .i64,.int .i64,.int .i64] [.snap kVec,.snap .bool] (fun x=>IIII x.1 x.2.1 x.2.2.1 x.2.2.2.1) (fun x=>Z1h x.1 x.2.1 x.2.2.1 x.2.2.2.1)
theorem Z133:SqH Zjs 178:=
 dP Zpv Z3 Zd nHn Tryz.func178 (fun x p=>Zlh  x.1 x.2.1 x.2.2.1 x.2.2.2.1 p) fun x h _=>Z15n  x.1 x.2.1 x.2.2.1 x.2.2.2.1 h
def Z134:Cx:=addC 178 Zjs Z132
theorem Zpw:CxOk Tryz.prog Z134:=Zm Zpv Z133
def Z9j:Con:=.det [.int .i64,.int .i64] [.snap (.arr 4 kVec),.snap .bool] (fun x=>II x.1 x.2.1) (fun x=>Zs x.1 x.2.1)
theorem Zhu:SqH Z9j 112:=
 dP Zpw Z3 Zd ({loops:=fun _=>none,joins:=fun _=>none,unroll:=fun _=>some 5}) Tryz.func112 (fun x p=>Zji  x.1 x.2.1 p) fun x h _=>Z12k  x.1 x.2.1 h
def Z1kw:Cx:=addC 112 Z9j Z134
theorem Z1ah:CxOk Tryz.prog Z1kw:=Zm Zpw Zhu
def Zpx:Con:=.det [.int .i64,.int .i64] [.snap (.int .i64)] (fun x=>II x.1 x.2.1) (fun x=>Z10l x.1 x.2.1)
theorem Z1ai:SqH Zpx 103:=
 dP Z1ah Z3 Zd nHn Tryz.func103 (fun x p=>Zt2  x.1 x.2.1 p) fun x h _=>Z1et  x.1 x.2.1 h
end Go.Lift

namespace Go.Lift
def Zlw:=fun(n c:Int)(post:(Nat × Nat × Nat) × Bool × Unit→Prop)=>∃(h:II n c),Br (!(Z4 n c).2.2.2.1) (post ((0,0,0),false,())) (∃(h:
 Zh9 (i64.wrap (i64.wrap (i64.wrap ((2:Int)*(Z4 n c).2.1)+(1:Int)) - n)) n),∃(h:Zh9 (i64.wrap (i64.wrap
 (i64.wrap ((2:Int)*(Z4 n c).2.2.1)+(1:Int)) - n)) n),∃(h:Z10j (Z4 n c).1 (Z3z (i64.wrap (i64.wrap (i64.wrap ((2:Int) *
 (Z4 n c).2.1)+(1:Int)) - n)) n).1 (Z3z (i64.wrap (i64.wrap (i64.wrap ((2:Int)*(Z4 n c).2.2.1)+(1:Int)) - n)) n).1),post (((Zdw
 (Z4 n c).1 (Z3z (i64.wrap (i64.wrap (i64.wrap ((2:Int)*(Z4 n c).2.1)+(1:Int)) - n)) n).1 (Z3z (i64.wrap (i64.wrap
 (i64.wrap ((2:Int)*(Z4 n c).2.2.1)+(1:Int)) - n)) n).1).1.1,(Zdw (Z4 n c).1 (Z3z (i64.wrap (i64.wrap (i64.wrap ((2:Int)
 * (Z4 n c).2.1)+(1:Int)) - n)) n).1 (Z3z (i64.wrap (i64.wrap (i64.wrap ((2:Int)*(Z4 n c).2.2.1)+(1:Int)) - n)) n).1).1.2.1,
 (Zdw (Z4 n c).1 (Z3z (i64.wrap (i64.wrap (i64.wrap ((2:Int)*(Z4 n c).2.1)+(1:Int)) - n)) n).1 (Z3z (i64.wrap
 (i64.wrap (i64.wrap ((2:Int)*(Z4 n c).2.2.1)+(1:Int)) - n)) n).1).1.2.2),true,()))
theorem Z15x(n:Int)(c:Int)(h:II n c):Zlw  n c (fun r=>r=Z8h n c):=by
 refine⟨h,?_⟩
 by_cases ok:Ze n c=true
 ·rw[Z1dg ok]
  obtain⟨n1,n2,f0,f5,i0,i1,j0,j1⟩:=Ze4 ok
  dsimp only
  refine Br.intro (fun e=>absurd e (by decide)) fun _=>?_
  have w1:i64.wrap (i64.wrap (i64.wrap (2*(c % n))+1) - n)=2*(c % n)+1 - n:=by
   rw[wi (x:=2*(c % n)) ⟨by omega,by omega⟩,wi (x:=2*(c % n)+1) ⟨by omega,by omega⟩,wi ⟨by omega,by omega⟩]
  have w2:i64.wrap (i64.wrap (i64.wrap (2*(c / n % n))+1) - n)=2*(c / n % n)+1 - n:=by
   rw[wi (x:=2*(c / n % n)) ⟨by omega,by omega⟩,wi (x:=2*(c / n % n)+1) ⟨by omega,by omega⟩,wi ⟨by omega,by omega⟩]
  rw[w1,w2]
  refine⟨⟨⟨by omega,by omega⟩,n1,h.1⟩,⟨⟨by omega,by omega⟩,n1,h.1⟩,⟨f0,f5,Z8c _ _,Z8c _ _⟩,?_⟩
  unfold Z8h; rw[if_pos ok]; rfl
 ·rw[Z1dh ok]
  refine Br.intro (fun _=>?_) fun e=>absurd e (by decide)
  unfold Z8h; rw[if_neg ok]
def Zlx:=fun(n c o:Int)(post:Nat × Unit→Prop)=>∃(h:II n c),∃(h:(List.replicate (4:Nat) ((K.flt f64).pair ((K.flt f64).pair
 (K.flt f64))).dflt).length=(4:Nat)∧(Zs n c).1.length=(4:Nat)),Br (!(Zs n c).2.1) (post ((0:Nat),())) (∀ a,a=decide (o<(0:Int))→Br a
 (post ((0:Nat),())) (∀ a,a=decide (o > (3:Int))→Br a (post ((0:Nat),())) (∃(h:(0:Int)≤o∧o<(↑(4:Nat):Int)),∃(h:(List.replicate (2:Nat) (0:
 Int)).length=(2:Nat)∧List.length ([[(1:Int),(2:Int)],[(3:Int),(2:Int)],[(0:Int),(3:Int)],[(0:Int),(1:Int)]].getD o.toNat (K.arr (2:Nat) (K.int
 i64)).dflt)=(2:Nat)),∃(h:(0:Int)≤(0:Int)∧(0:Int)<(↑(2:Nat):Int)∧(2:Nat)≤List.length ([[(1:Int),(2:Int)],[(3:Int),(2:Int)],[(0:
 Int),(3:Int)],[(0:Int),(1:Int)]].getD o.toNat (K.arr (2:Nat) (K.int i64)).dflt)),∃(h:(0:Int)≤List.getD ([[(1:Int),(2:Int)],[(3:Int),(2:Int)],
 [(0:Int),(3:Int)],[(0:Int),(1:Int)]].getD o.toNat (K.arr (2:Nat) (K.int i64)).dflt) (Int.toNat (0:Int)) (0:Int)∧List.getD ([[(1:Int),(2:Int)],[(3
 : Int),(2:Int)],[(0:Int),(3:Int)],[(0:Int),(1:Int)]].getD o.toNat (K.arr (2:Nat) (K.int i64)).dflt) (Int.toNat (0:Int)) (0:Int)<(↑(4:Nat):Int)∧
 (4:Nat)≤(Zs n c).1.length),∃(h:(0:Int)≤(1:Int)∧(1:Int)<(↑(2:Nat):Int)∧(2:Nat)≤List.length ([[(1:Int),(2:Int)],[(3:Int),(2:Int)],[(0
 : Int),(3:Int)],[(0:Int),(1:Int)]].getD o.toNat (K.arr (2:Nat) (K.int i64)).dflt)),∃(h:(0:Int)≤List.getD ([[(1:Int),(2:Int)],[(3:Int),(2:
 Int)],[(0:Int),(3:Int)],[(0:Int),(1:Int)]].getD o.toNat (K.arr (2:Nat) (K.int i64)).dflt) (Int.toNat (1:Int)) (0:Int)∧List.getD ([[(1:Int),(2:
 Int)],[(3:Int),(2:Int)],[(0:Int),(3:Int)],[(0:Int),(1:Int)]].getD o.toNat (K.arr (2:Nat) (K.int i64)).dflt) (Int.toNat (1:Int)) (0:Int)<(↑(4:
 Nat):Int)∧(4:Nat)≤(Zs n c).1.length),∃(h:WV2 ((Zs n c).1.getD (Int.toNat (List.getD ([[(1:Int),(2:Int)],[(3:Int),(2:Int)],[(0:Int),(3:
 Int)],[(0:Int),(1:Int)]].getD o.toNat (K.arr (2:Nat) (K.int i64)).dflt) (Int.toNat (0:Int)) (0:Int))) ((K.flt f64).pair ((K.flt
 f64).pair (K.flt f64))).dflt) ((Zs n c).1.getD (Int.toNat (List.getD ([[(1:Int),(2:Int)],[(3:Int),(2:Int)],[(0:Int),(3:Int)],[(0
 : Int),(1:Int)]].getD o.toNat (K.arr (2:Nat) (K.int i64)).dflt) (Int.toNat (1:Int)) (0:Int))) ((K.flt f64).pair ((K.flt f64).pair (K.flt
 f64))).dflt)),post ((gapR ((Zs n c).1.getD (Int.toNat (List.getD ([[(1:Int),(2:Int)],[(3:Int),(2:Int)],[(0:Int),(3:Int)],[(0:Int),(1:
 Int)]].getD o.toNat (K.arr (2:Nat) (K.int i64)).dflt) (Int.toNat (0:Int)) (0:Int))) ((K.flt f64).pair ((K.flt f64).pair (K.flt
 f64))).dflt) ((Zs n c).1.getD (Int.toNat (List.getD ([[(1:Int),(2:Int)],[(3:Int),(2:Int)],[(0:Int),(3:Int)],[(0:Int),(1:Int)]].getD
 o.toNat (K.arr (2:Nat) (K.int i64)).dflt) (Int.toNat (1:Int)) (0:Int))) ((K.flt f64).pair ((K.flt f64).pair (K.flt
 f64))).dflt)).1,()))))
theorem Z15y(n:Int)(c:Int)(o:Int)(h:III n c o):Zlx  n c o (fun r=>r=Zhc n c o):=by
 have cl:=Zwi n c
 refine⟨⟨h.1,h.2.1⟩,⟨rfl,cl⟩,?_⟩
 have no:Zh n c o=false→((0:Nat),())=Zhc n c o:=fun q=>congrArg r1 (by unfold Z3g; rw[if_neg (by rw[q]; decide)])
 rw[Znq]
 refine Br.intro (fun e=>no ?_) fun e=>?_
 ·unfold Zh; rw[show Ze n c=false by simpa using e]; rfl
 have ok:Ze n c=true:=by simpa using e
 rintro _ rfl
 refine Br.intro (fun e=>no ?_) fun e=>?_
 ·have e:=of_decide_eq_true e
  unfold Zh; rw[decide_eq_false (p:=0≤o) (by omega)]; simp
 have o0:=of_decide_eq_false e
 rintro _ rfl
 refine Br.intro (fun e=>no ?_) fun e=>?_
 ·have e:=of_decide_eq_true e
  unfold Zh; rw[decide_eq_false (p:=o<4) (by omega)]; simp
 have o4:=of_decide_eq_false e
 have o0:0≤o:=by omega
 have o4:o<4:=by omega
 have okb:Zh n c o=true:=by unfold Zh; rw[ok,decide_eq_true o0,decide_eq_true o4]; rfl
 have hc:∀ i:Int,0≤i→i≤3→(Zs n c).1.getD i.toNat ((K.flt f64).pair ((K.flt f64).pair (K.flt f64))).dflt=Zfv n c i:=fun i a b=>Z1na ok a b _
 have c0:=hc 0 (by decide) (by decide)
 have c1:=hc 1 (by decide) (by decide)
 have c2:=hc 2 (by decide) (by decide)
 have c3:=hc 3 (by decide) (by decide)
 have fin:∀ A B:Nat × Nat × Nat,A=Zfv n c (endA o)→B=Zfv n c (endB o)→(gapQ A B,())=Zhc n c o:=by
  intro A B hA hB
  rw[hA,hB]; exact congrArg r1 (by unfold Z3g; rw[if_pos okb])
 have wA:∀ i,WV (Zfv n c i):=Z1s4 n c
 generalize hQ:(Zs n c).fst=Q at *
 rcases Z2b o0 o4 with rfl | rfl | rfl | rfl
 ·exact⟨⟨by decide,by decide⟩,⟨rfl,rfl⟩,⟨by decide,by decide,by decide⟩,⟨by decide,by decide,Nat.le_of_eq cl.symm⟩,⟨by decide,by decide,by decide⟩,⟨by decide,by decide,Nat.le_of_eq cl.symm⟩,⟨c1 ▸ wA 1,c2 ▸ wA 2⟩,fin _ _ c1 c2⟩
 ·exact⟨⟨by decide,by decide⟩,⟨rfl,rfl⟩,⟨by decide,by decide,by decide⟩,⟨by decide,by decide,Nat.le_of_eq cl.symm⟩,⟨by decide,by decide,by decide⟩,⟨by decide,by decide,Nat.le_of_eq cl.symm⟩,⟨c3 ▸ wA 3,c2 ▸ wA 2⟩,fin _ _ c3 c2⟩
 ·exact⟨⟨by decide,by decide⟩,⟨rfl,rfl⟩,⟨by decide,by decide,by decide⟩,⟨by decide,by decide,Nat.le_of_eq cl.symm⟩,⟨by decide,by decide,by decide⟩,⟨by decide,by decide,Nat.le_of_eq cl.symm⟩,⟨c0 ▸ wA 0,c3 ▸ wA 3⟩,fin _ _ c0 c3⟩
 ·exact⟨⟨by decide,by decide⟩,⟨rfl,rfl⟩,⟨by decide,by decide,by decide⟩,⟨by decide,by decide,Nat.le_of_eq cl.symm⟩,⟨by decide,by decide,by decide⟩,⟨by decide,by decide,Nat.le_of_eq cl.symm⟩,⟨c0 ▸ wA 0,c1 ▸ wA 1⟩,fin _ _ c0 c1⟩
def Zx5:=fun(n c o:Int)(post:Nat × Unit→Prop)=>∃(h:III n c o),∀ a,a=Z5g n c o→∃(h:II n c),∀ a_1,a_1=Z8h n c→∃(h:II n a.1),∀ a_2,
 a_2=Z8h n a.1→Br (!a_1.2.1) (post (0,())) (Br (!a_2.2.1) (post (0,())) (∃(h:WV2 a_1.1 a_2.1),post ((gapR a_1.1 a_2.1).1,())))
theorem Z1gu(n:Int)(c:Int)(o:Int)(h:III n c o):Zx5  n c o (fun r=>r=Z1jx n c o):=by
 have br:=Z10u n c o
 refine⟨h,?_⟩
 rintro⟨b,q,⟨⟩⟩ hb
 have eb:b=(Z1 n c o).1:=congrArg Prod.fst hb
 rw[← eb]at br
 refine⟨⟨h.1,h.2.1⟩,?_⟩
 rintro⟨⟨A1,A2,A3⟩,p,⟨⟩⟩ hA
 refine⟨⟨h.1,by omega,by omega⟩,?_⟩
 rintro⟨⟨B1,B2,B3⟩,r,⟨⟩⟩ hB
 have hA:((A1,A2,A3),p,())=Z8h n c:=hA
 have hB:((B1,B2,B3),r,())=Z8h n b:=hB
 have key:∀ z,Z8h n z=if Ze n z then(Zl4 n z,true,())else((0,0,0),false,()):=fun z=>rfl
 have bt:∀ {z:Bool},z=true→¬ (!z)=true:=fun {z} e=>by rw[e]; decide
 have bf:∀ {z:Bool},z=false→¬ (!z)=false:=fun {z} e=>by rw[e]; decide
 by_cases o1:Ze n c=true
 ·rw[key,if_pos o1]at hA
  obtain⟨eA,e1⟩:=Prod.mk.inj hA
  have ep:p=true:=congrArg Prod.fst e1
  refine Br.intro (fun e=>absurd e (bt ep)) fun _=>?_
  by_cases o2:Ze n b=true
  ·rw[key,if_pos o2]at hB
   obtain⟨eB,e2⟩:=Prod.mk.inj hB
   have er:r=true:=congrArg Prod.fst e2
   refine Br.intro (fun e=>absurd e (bt er)) fun _=>?_
   have hw:WV2 (A1,A2,A3) (B1,B2,B3):=⟨by rw[eA]; exact Z17u _ _,by rw[eB]; exact Z17u _ _⟩
   have hg:gapQ (A1,A2,A3) (B1,B2,B3)=gapG n c o:=by
    rw[eA,eB]; unfold gapG; rw[← eb,o1,o2,if_pos (by decide)]
   exact⟨hw,congrArg r1 hg⟩
  ·rw[key,if_neg o2]at hB
   obtain⟨eB,e2⟩:=Prod.mk.inj hB
   have er:r=false:=congrArg Prod.fst e2
   refine Br.intro (fun _=>congrArg r1 ?_) fun e=>absurd e (bf er)
   unfold gapG; rw[← eb,o1,show Ze n b=false by simpa using o2]; rfl
 ·rw[key,if_neg o1]at hA
  obtain⟨eA,e1⟩:=Prod.mk.inj hA
  have ep:p=false:=congrArg Prod.fst e1
  refine Br.intro (fun _=>congrArg r1 ?_) fun e=>absurd e (bf ep)
  unfold gapG; rw[show Ze n c=false by simpa using o1]; rfl
end Go.Lift

namespace Go.Lift
open Go.Proofs
def Zx6:Cx:=⟨Z1t Z23,Z21 [(104,Z8o),(180,Zco),(179,Zcp),(112,Z9j),(113,Zx4),(51,Zb4)],SqG⟩
theorem Zly:CxOk Tryz.prog Zx6:=⟨Zn Zy,Zu ⟨Zcg,Zlu,Zlv,Zhu,Z1gt,Zjh,trivial⟩⟩
def Zjt:Con:=Con.nam [.int .i64,.int .i64] [.snap kVec,.snap .bool] (fun x=>II x.1 x.2.1) (fun x=>Z8h x.1 x.2.1)
theorem Z135:SqH Zjt 114:=
 nP Zly Z3 Zd nHn Tryz.func114 (fun x p=>Zlw  x.1 x.2.1 p) fun x h _=>Z15x  x.1 x.2.1 h
def Z1gv:Cx:=addC 114 Zjt Zx6
theorem Zlz:CxOk Tryz.prog Z1gv:=Zm Zly Z135
def Zju:Con:=Con.nam [.int .i64,.int .i64,.int .i64] [.snap (.flt .f64)] (fun x=>III x.1 x.2.1 x.2.2.1) (fun x=>Zhc x.1 x.2.1 x.2.2.1)
theorem Z136:SqH Zju 52:=
 nP Zlz Z3 Zd nHn Tryz.func52 (fun x p=>Zlx  x.1 x.2.1 x.2.2.1 p) fun x h _=>Z15y  x.1 x.2.1 x.2.2.1 h
def Ztj:Con:=Con.nam [.int .i64,.int .i64,.int .i64] [.snap (.flt .f64)] (fun x=>III x.1 x.2.1 x.2.2.1) (fun x=>Z1jx x.1 x.2.1 x.2.2.1)
theorem Z1f3:SqH Ztj 53:=
 nP Zlz Z3 Zd nHn Tryz.func53 (fun x p=>Zx5  x.1 x.2.1 x.2.2.1 p) fun x h _=>Z1gu  x.1 x.2.1 x.2.2.1 h
end Go.Lift

namespace Go.Lift
open Go.Proofs
def Z1kx:Cx:=⟨Z1t Z23,Z21 [(48,Z4y),(51,Zb4),(103,Zpx),(52,Zju),(53,Ztj)],SqG⟩
theorem Zpy:CxOk Tryz.prog Z1kx:=⟨Zn Zy,Zu ⟨Z6j,Zjh,Z1ai,Z136,Z1f3,trivial⟩⟩
def Zhv:Con:=.det [.int .i64] [.snap (.ptr Z28),.snap (.int .i64)] (fun x=>I64 x.1) (fun x=>newR x.1)
theorem Ztk:SqH Zhv 13:=
 dPI Zpy Z3 Zd ({loops:=Z10 [(9,{ls:=[(.slot 36,.data (.int .i64)),(.cell 1 1,.row 96 Z3u),(.cell 1 4,.row 2 (.int .i64))],os:=[(0,88,.ent (.pair (.int .i64) (.int .i64)) (.int .i64))]}),(15,{ls:=[(.slot 49,.data (.int .i64)),(.cell 1 3,.row 98 (.arr 2 (.int .i64))),(.cell 1 5,.row 22 (.flt .f64)),(.cell 1 6,.row 22 (.flt .f64))],os:=[]})],joins:=fun _=>none,inl:=inlL [49,50],unroll:=fun k=>if k=6 then some 3 else none}) (Z3n Zpy Z3 Z19l 6) Tryz.func13 (fun x p=>Zwr 92 93 2 96 49 50 x.1 p) fun x h _=>Z1gn 92 93 2 96 49 50 x.1 h
end Go.Lift

namespace Go.Lift
def Zb9:=fun(post:Int × Unit→Prop)=>post (0,())
theorem Zob  : Zb9   (fun r=>r=Z1u none):=by
 exact rfl
def Zba:=fun(g:YG)(post:Int × Unit→Prop)=>∃(h:some g≠none),post ((↑g.2.2.2.2.1.length:Int),())
theorem Zoc(g:YG):Zba  g (fun r=>r=Z1u (some g)):=by
 exact⟨by simp,rfl⟩
def Zbb:=fun(post:Int × Unit→Prop)=>post (0,())
theorem Zod  : Zbb   (fun r=>r=Z1b none):=by
 exact rfl
def Zbc:=fun(g:YG)(post:Int × Unit→Prop)=>∃(h:some g≠none),post ((↑g.2.1.length:Int),())
theorem Zoe(g:YG):Zbc  g (fun r=>r=Z1b (some g)):=by
 exact⟨by simp,rfl⟩
def Zbt:=fun(c:Int)(post:Int × Unit→Prop)=>post (0,())
theorem Zqt(c:Int):Zbt  c (fun r=>r=Z18 none c):=by
 exact rfl
def Zbu:=fun(g:YG)(c:Int)(post:Int × Unit→Prop)=>∀ a,a=decide (c<(0:Int))→Br a (post (0,())) (∃(h:some g≠none),∀ a,a=
 decide (c≥(↑g.2.2.2.2.1.length:Int))→Br a (post (0,())) (∃(h:some g≠none),∃(h:(0:Int)≤c∧c<(↑g.2.2.2.2.1.length:Int)),post
 (g.2.2.2.2.1.getD c.toNat (0:Int),())))
theorem Zqu(g:YG)(c:Int):Zbu  g c (fun r=>r=Z18 (some g) c):=by
 rintro _ rfl
 refine Br.intro (fun e=>congrArg r1 ?_) fun e=>?_
 ·have e:=of_decide_eq_true e
  show(0:Int)=if 0≤c∧c<(g.2.2.2.2.1.length:Nat)then g.2.2.2.2.1.getD c.toNat 0 else 0
  rw[if_neg (by omega)]
 have e:=of_decide_eq_false e
 refine⟨by simp,?_⟩
 rintro _ rfl
 refine Br.intro (fun f=>congrArg r1 ?_) fun f=>?_
 ·have f:=of_decide_eq_true f
  show(0:Int)=if 0≤c∧c<(g.2.2.2.2.1.length:Nat)then g.2.2.2.2.1.getD c.toNat 0 else 0
  rw[if_neg (by omega)]
 have f:=of_decide_eq_false f
 refine⟨by simp,⟨by omega,by omega⟩,congrArg r1 ?_⟩
 show g.2.2.2.2.1.getD c.toNat 0=if 0≤c∧c<(g.2.2.2.2.1.length:Nat)then g.2.2.2.2.1.getD c.toNat 0 else 0
 rw[if_pos ⟨by omega,by omega⟩]
end Go.Lift

namespace Go.Lift
open Go.Proofs
def Z1ky:Cx:=⟨Z1t Z23,Z21 [],SqG⟩
theorem Zex:CxOk Tryz.prog Z1ky:=⟨Zn Zy,fun f c h=>by cases h⟩
def Z29:Con:=.det [.ptr Z28] [.snap (.int .i64)] (fun _=>True) (fun x=>Z1u x.1)
theorem Z2i:SqH Z29 32:=
 dPs Zex Z3 Zd nHn Tryz.func32 (fun y p=>Zb9   p) (fun z y p=>Zba  z  p) (fun y _ _=>Zob  ) fun z y _ _=>Zoc  z
def Z2j:Con:=.det [.ptr Z28] [.snap (.int .i64)] (fun _=>True) (fun x=>Z1b x.1)
theorem Z2u:SqH Z2j 31:=
 dPs Zex Z3 Zd nHn Tryz.func31 (fun y p=>Zbb   p) (fun z y p=>Zbc  z  p) (fun y _ _=>Zod  ) fun z y _ _=>Zoe  z
def Z4b:Con:=.det [.ptr Z28,.int .i64] [.snap (.int .i64)] (fun _=>True) (fun x=>Z18 x.1 x.2.1)
theorem Z5y:SqH Z4b 90:=
 dPs Zex Z3 Zd nHn Tryz.func90 (fun y p=>Zbt  y.1 p) (fun z y p=>Zbu  z y.1 p) (fun y _ _=>Zqt  y.1) fun z y _ _=>Zqu  z y.1
end Go.Lift

namespace Go.Lift
def Zm0:=fun(post:YP × Unit→Prop)=>post ((1,4602678819172646912,4607182418800017408,0,0,false,[]),())
theorem Z15z  : Zm0   (fun r=>r=Zsk):=by
 exact rfl
def Zm1:=fun(a b:List Int)(post:Bool × Unit→Prop)=>∀ a_1,a_1=((↑a.length:Int) != (↑b.length:Int))→Br a_1 (post (false,())) (HS []∧∃(I:Int
 × Unit→Unit→Prop),∃(μ:Int × Unit→Unit→Nat),I (0,()) ()∧∀(x:Int × Unit)(y:Unit),I x y→∀ a_2,a_2=decide (x.1<(↑a.length:Int))→Br a_2 (∃(h:(0:
 Int)≤x.1∧x.1<(↑a.length:Int)),∃(h:(0:Int)≤x.1∧x.1<(↑b.length:Int)),∀ a_3,a_3=(a.getD x.1.toNat (0:Int) != b.getD x.1.toNat (0:Int))→Br a_3 (post
 (false,())) (HS []∧I (i64.wrap (x.1+1),()) ()∧μ (i64.wrap (x.1+1),()) ()<μ x y)) (post (true,())))
theorem Z160(a:List Int)(b:List Int)(w:KS.wf [.slice (.int .i64),.slice (.int .i64)] (a,b,())):Zm1  a b (fun r=>r=Z10x a b):=by
 have ha:a.length≤maxN:=w.1.1
 have hm:maxN≤9223372036854775807:=by decide
 rintro _ rfl
 refine Br.intro (fun e=>congrArg r1 ?_) fun e=>?_
 ·have e:¬ a.length=b.length:=fun q=>by rw[q]at e; simp at e
  exact(beq_eq_false_iff_ne.2 fun q=>e (congrArg List.length q)).symm
 have e:a.length=b.length:=by
  have:((a.length:Int)==(b.length:Int))=true:=by
   have e:(!((a.length:Int)==(b.length:Int)))=false:=e
   simpa using e
  have:=beq_iff_eq.1 this
  omega
 refine⟨rfl,fun x _=>∃ k:Nat,x.1=k∧k≤a.length∧a.take k=b.take k,fun x _=>a.length - x.1.toNat,⟨0,rfl,by omega,rfl⟩,?_⟩
 rintro⟨_,⟨⟩⟩ _ ⟨k,rfl,hk,hq⟩
 dsimp only
 rintro _ rfl
 refine Br.intro (fun e1=>?_) fun e1=>?_
 ·have e1:k<a.length:=by have:=of_decide_eq_true e1; omega
  rw[Int.toNat_natCast,Z12 e1 (by omega)]
  have ta:=Ze0 e1 0
  have tb:=Ze0 (l:=b) (i:=k) (by omega) 0
  refine⟨⟨by omega,by omega⟩,⟨by omega,by omega⟩,?_⟩
  rintro _ rfl
  refine Br.intro (fun e2=>congrArg r1 ?_) fun e2=>?_
  ·have e2:¬ a.getD k 0=b.getD k 0:=bne_iff_ne.1 e2
   refine(beq_eq_false_iff_ne.2 fun q=>e2 ?_).symm
   rw[q]
  ·have e2:a.getD k 0=b.getD k 0:=by
    have e2:(!(a.getD k 0==b.getD k 0))=false:=e2
    simpa using e2
   exact⟨rfl,⟨k+1,rfl,by omega,by rw[ta,tb,hq,e2]⟩,by omega⟩
 ·have e1:k=a.length:=by have:=of_decide_eq_false e1; omega
  subst e1
  refine congrArg r1 (beq_iff_eq.2 ?_).symm
  rw[List.take_length]at hq
  rw[hq,e,List.take_length]
def Zpz:=fun(a b:YS)(post:Bool × Unit→Prop)=>∃(h:True),∀ a_1,a_1=allR a.1 b.1→∀ a_2,a_2=a_1.1→Br a_2 (∃(h:True),∀ a_3,a_3=Z10x a.2.1
 b.2.1→∀ a_4,a_4=a_3.1→Br a_4 (∃(h:True),∀ a_5,a_5=Z10x a.2.2.1 b.2.2.1→∀ a_6,a_6=a_5.1→Br a_6 (∃(h:True),∀ a_7,a_7=allR a.2.2.2.1 b.2.2.2.1→∀ a_8,
 a_8=a_7.1→Br a_8 (∀ a_9,a_9=(a.2.2.2.2.1==b.2.2.2.2.1)→Br a_9 (∀ a_10,a_10=(a.2.2.2.2.2==b.2.2.2.2.2)→post (a_10,())) (post (false,()))) (post
 (false,()))) (post (false,()))) (post (false,()))) (post (false,()))
theorem Z1aj(a:YS)(b:YS):Zpz  a b (fun r=>r=Zv1 a b):=by
 obtain⟨a1,a4,a2,a3,a5,a6⟩:=a
 obtain⟨b1,b4,b2,b3,b5,b6⟩:=b
 have key:∀ v:Bool,Z1c0 (a1,a4,a2,a3,a5,a6) (b1,b4,b2,b3,b5,b6)=v→(v,())=Zv1 (a1,a4,a2,a3,a5,a6) (b1,b4,b2,b3,b5,b6):=fun v h=>by unfold Zv1; rw[h]
 have bad:∀ p:Prop,((a1,a4,a2,a3,a5,a6)=(b1,b4,b2,b3,b5,b6)→p)→¬ p→(false,())=Zv1 (a1,a4,a2,a3,a5,a6) (b1,b4,b2,b3,b5,b6):=fun p h hp=>key false (by unfold Z1c0; exact beq_eq_false_iff_ne.2 fun e=>hp (h e))
 refine⟨trivial,?_⟩
 rintro _ rfl _ rfl
 refine Br.intro (fun e1=>?_) fun e1=>bad (a1=b1) (fun e=>(Prod.mk.inj e).1) (beq_eq_false_iff_ne.1 e1)
 have e1:a1=b1:=beq_iff_eq.1 e1
 refine⟨trivial,?_⟩
 rintro _ rfl _ rfl
 refine Br.intro (fun e4=>?_) fun e4=>bad (a4=b4) (fun e=>(Prod.mk.inj (Prod.mk.inj e).2).1) (beq_eq_false_iff_ne.1 e4)
 have e4:a4=b4:=beq_iff_eq.1 e4
 refine⟨trivial,?_⟩
 rintro _ rfl _ rfl
 refine Br.intro (fun e2=>?_) fun e2=>bad (a2=b2) (fun e=>(Prod.mk.inj (Prod.mk.inj (Prod.mk.inj e).2).2).1) (beq_eq_false_iff_ne.1 e2)
 have e2:a2=b2:=beq_iff_eq.1 e2
 refine⟨trivial,?_⟩
 rintro _ rfl _ rfl
 refine Br.intro (fun e3=>?_) fun e3=>bad (a3=b3) (fun e=>(Prod.mk.inj (Prod.mk.inj (Prod.mk.inj (Prod.mk.inj e).2).2).2).1) (beq_eq_false_iff_ne.1 e3)
 have e3:a3=b3:=beq_iff_eq.1 e3
 rintro _ rfl
 refine Br.intro (fun e5=>?_) fun e5=>bad (a5=b5) (fun e=>(Prod.mk.inj (Prod.mk.inj (Prod.mk.inj (Prod.mk.inj (Prod.mk.inj e).2).2).2).2).1) (beq_eq_false_iff_ne.1 e5)
 have e5:a5=b5:=beq_iff_eq.1 e5
 rintro _ rfl
 have e1':a1=b1:=e1
 have e4':a4=b4:=e4
 have e2':a2=b2:=e2
 have e3':a3=b3:=e3
 have e5':a5=b5:=e5
 clear e1 e2 e3 e4 e5
 subst e1' e2' e3' e4' e5'
 by_cases e6:a6=b6
 ·subst e6
  have t:(a6==a6)=true:=beq_iff_eq.2 rfl
  show((a6==a6),())=_
  rw[t]; exact key true (by unfold Z1c0; exact beq_iff_eq.2 rfl)
 ·have t:(a6==b6)=false:=beq_eq_false_iff_ne.2 e6
  show((a6==b6),())=_
  rw[t]; exact bad (a6=b6) (fun e=>(Prod.mk.inj (Prod.mk.inj (Prod.mk.inj (Prod.mk.inj (Prod.mk.inj e).2).2).2).2).2) e6
def Zq0:=fun(p:YP)(s:YS)(post:Option YG × Bool × Unit→Prop)=>∃(h:Zl9 p),∀ a,a=Z11e p→∀ a_1,a_1=(a.1 != (0:Int))→Br a_1 (post
 (none,false,())) (∃(h:Z10m p.1 s),∀ a,a=((Zl3 p.1 s).2.1 != (0:Int))→Br a (post (none,false,())) (∃(h:I64 p.1),∀ a,a=((newR
 p.1).2.1==(0:Int))→post ((newR p.1).1,a,())))
theorem Z1ak(p:YP)(s:YS)(h:Zsj p s):Zq0  p s (fun r=>r=Z6h p s):=by
 obtain⟨hP,hS⟩:=h
 refine⟨hP,?_⟩
 rintro _ rfl _ rfl
 refine Br.intro (fun q=>?_) fun q=>?_
 ·have q:(Z1g p != 0)=true:=q
  have q:¬ Z1g p=0:=by simpa using q
  show(none,false,())=Z6h p s
  unfold Z6h; rw[if_neg q]
 have q:(Z1g p != 0)=false:=q
 have q:Z1g p=0:=by simpa using q
 refine⟨⟨hP.1,hS⟩,?_⟩
 rintro _ rfl
 refine Br.intro (fun r=>?_) fun r=>?_
 ·have r:((Z1i p.1 s).2 != 0)=true:=r
  have r:¬ (Z1i p.1 s).2=0:=by simpa using r
  show(none,false,())=Z6h p s
  unfold Z6h; rw[if_pos q,if_neg r]
 have r:((Z1i p.1 s).2 != 0)=false:=r
 have r:(Z1i p.1 s).2=0:=by simpa using r
 refine⟨hP.1,?_⟩
 rintro _ rfl
 unfold Z6h; rw[if_pos q,if_pos r]
 have g:=(Z1ef r).good
 rcases Z18d p.1 with⟨h0,_⟩ | ⟨_,_,e,_⟩
 ·exact absurd h0 (by unfold Z2; rw[if_pos g]; unfold Z22 at g; simp at g; have:1≤p.1*p.1:=Int.le_trans (by omega) (Int.mul_le_mul g.1 g.1 (by omega) (by omega)); rw[Int.mul_assoc]; omega)
 ·rw[e]; rfl
end Go.Lift

namespace Go.Lift
def Z137:=fun(a b:List Nat)(post:Bool × Unit→Prop)=>∀ a_1,a_1=((↑a.length:Int) != (↑b.length:Int))→Br a_1 (post (false,())) (HS []∧∃(I:Int ×
 Unit→Unit→Prop),∃(μ:Int × Unit→Unit→Nat),I (0,()) ()∧∀(x:Int × Unit)(y:Unit),I x y→∀ a_2,a_2=decide (x.1<(↑a.length:Int))→Br a_2 (∃(h:(0:
 Int)≤x.1∧x.1<(↑a.length:Int)),∃(h:(0:Int)≤x.1∧x.1<(↑b.length:Int)),∃(h:True),∀ a_3,a_3=(Z1bp (a.getD x.1.toNat (0:Nat)) (b.getD x.1.toNat (0:
 Nat))).1→Br (!a_3) (post (false,())) (HS []∧I (i64.wrap (x.1+1),()) ()∧μ (i64.wrap (x.1+1),()) ()<μ x y)) (post (true,())))
theorem Z1kz(a:List Nat)(b:List Nat)(w:KS.wf [.slice (.flt .f64),.slice (.flt .f64)] (a,b,())):Z137  a b (fun r=>r=allR a b):=by
 have ha:a.length≤maxN:=w.1.1
 have hm:maxN≤9223372036854775807:=by decide
 rintro _ rfl
 refine Br.intro (fun e=>congrArg r1 ?_) fun e=>?_
 ·have e:¬ a.length=b.length:=fun q=>by rw[q]at e; simp at e
  exact(beq_eq_false_iff_ne.2 fun q=>e (congrArg List.length q)).symm
 have e:a.length=b.length:=by
  have:((a.length:Int)==(b.length:Int))=true:=by
   have e:(!((a.length:Int)==(b.length:Int)))=false:=e
   simpa using e
  have:=beq_iff_eq.1 this
  omega
 refine⟨rfl,fun x _=>∃ k:Nat,x.1=k∧k≤a.length∧a.take k=b.take k,fun x _=>a.length - x.1.toNat,⟨0,rfl,by omega,rfl⟩,?_⟩
 rintro⟨_,⟨⟩⟩ _ ⟨k,rfl,hk,hq⟩
 dsimp only
 rintro _ rfl
 refine Br.intro (fun e1=>?_) fun e1=>?_
 ·have e1:k<a.length:=by have:=of_decide_eq_true e1; omega
  rw[Int.toNat_natCast,Z12 e1 (by omega)]
  have ta:=Ze0 e1 0
  have tb:=Ze0 (l:=b) (i:=k) (by omega) 0
  refine⟨⟨by omega,by omega⟩,⟨by omega,by omega⟩,trivial,?_⟩
  rintro _ rfl
  refine Br.intro (fun e2=>congrArg r1 ?_) fun e2=>?_
  ·have e2:¬ a.getD k 0=b.getD k 0:=fun q=>by
    have e2:(!(decide (a.getD k 0=b.getD k 0)))=true:=e2
    rw[q]at e2; simp at e2
   refine(beq_eq_false_iff_ne.2 fun q=>e2 ?_).symm
   rw[q]
  ·have e2:a.getD k 0=b.getD k 0:=by
    have e2:(!(decide (a.getD k 0=b.getD k 0)))=false:=e2
    simpa using e2
   exact⟨rfl,⟨k+1,rfl,by omega,by rw[ta,tb,hq,e2]⟩,by omega⟩
 ·have e1:k=a.length:=by have:=of_decide_eq_false e1; omega
  subst e1
  refine congrArg r1 (beq_iff_eq.2 ?_).symm
  rw[List.take_length]at hq
  rw[hq,e,List.take_length]
end Go.Lift

namespace Go.Lift
open Go.Proofs
def Z1gw:Cx:=⟨Z1t Z23,Z21 [(44,Zhr)],SqG⟩
theorem Z161:CxOk Tryz.prog Z1gw:=⟨Zn Zy,Zu ⟨Zt4,trivial⟩⟩
def Zx7:Con:=Con.nam [.slice (.flt .f64),.slice (.flt .f64)] [.snap .bool] (fun _=>True) (fun x=>allR x.1 x.2.1)
theorem Z1gx:SqH Zx7 23:=
 nP Z161 Z3 Zd ({loops:=Z10 [(4,{ls:=[(.slot 5,.data (.int .i64))],os:=[]})],joins:=fun _=>none,named:=true}) Tryz.func23 (fun x p=>Z137  x.1 x.2.1 p) fun x _ w=>Z1kz  x.1 x.2.1 w
end Go.Lift

namespace Go.Lift
def Zq1:=fun(n:Int)(r0:Int × Int × Int × Int)(post:Bool × Unit→Prop)=>∀ a,a=decide (r0.1≥(0:Int))→Br a (∀ a,a=decide (r0.1<n)→Br a (∀ a,a=
 decide (r0.2.1≥(-4503599627370496:Int))→Br a (∀ a,a=decide (r0.2.1≤(4503599627370496:Int))→Br a (∀ a,a=decide (r0.2.2.1≥(0:Int))→Br a (∀ a,a=decide
 (r0.2.2.2≥r0.2.2.1)→post (a,())) (post (false,()))) (post (false,()))) (post (false,()))) (post (false,()))) (post (false,()))
theorem Z1al(n:Int)(r0:Int × Int × Int × Int):Zq1  n r0 (fun r=>r=Zcc n r0):=by
 have key:Zcc n r0=r1 (decide (0≤r0.1)&&decide (r0.1<n)&&decide (-4503599627370496≤r0.2.1)&&decide (r0.2.1≤4503599627370496)&&decide (0≤r0.2.2.1)&&decide (r0.2.2.1≤r0.2.2.2)):=rfl
 rw[key]
 rintro _ rfl
 refine Br.intro (fun e1=>?_) fun e1=>?_
 rotate_left
 ·rw[show decide (0≤r0.1)=false from e1]; rfl
 rintro _ rfl
 refine Br.intro (fun e2=>?_) fun e2=>?_
 rotate_left
 ·rw[e2,Bool.and_false]; rfl
 rintro _ rfl
 refine Br.intro (fun e3=>?_) fun e3=>?_
 rotate_left
 ·rw[show decide (-4503599627370496≤r0.2.1)=false from e3,Bool.and_false]; rfl
 rintro _ rfl
 refine Br.intro (fun e4=>?_) fun e4=>?_
 rotate_left
 ·rw[e4,Bool.and_false]; rfl
 rintro _ rfl
 refine Br.intro (fun e5=>?_) fun e5=>?_
 rotate_left
 ·rw[show decide (0≤r0.2.2.1)=false from e5,Bool.and_false]; rfl
 rintro _ rfl
 rw[show decide (0≤r0.1)=true from e1,e2,show decide (-4503599627370496≤r0.2.1)=true from e3,e4,show decide (0≤r0.2.2.1)=true from e5]; rfl
def Zm2(ty25:Nat)(p:YP)(ty3:Nat):List HObj:=[HObj.box Md.rw ty25 [SV.val (Go.Value.int i64 p.1),SV.val (Go.Value.float f64 p.2.1),SV.val (Go.Value.float f64 p.2.2.1),SV.val (Go.Value.float f64 p.2.2.2.1),SV.val (Go.Value.int i64 p.2.2.2.2.1),SV.val (Go.Value.bool p.2.2.2.2.2.1),SV.data ((K.int i64).pair ((K.int i64).pair ((K.int i64).pair (K.int i64)))).slice p.2.2.2.2.2.2],HObj.box Md.rw ty3 [SV.val (Go.Value.int i64 (Z3y p.1).1)]]
def Zq2:=fun(ty25 ty3:Nat)(p:YP)(post:Int × Unit→Prop)=>∃(h:I64 p.1),∀ a,a=((Z3y p.1).1==(0:Int))→Br a (post ((10:Int),())) (∀ a,a=
 fcmp Go.BinOp.gtr (f64.format.order p.2.1 (0:Nat))→Br (!a) (post ((11:Int),())) (∀ a,a=fcmp Go.BinOp.gtr (f64.format.order p.2.1
 (4652218415073722368:Nat))→Br a (post ((11:Int),())) (∃(h:W3 p.2.2.1 (0:Nat) (4652218415073722368:Nat)),∀ a,a=(Zha p.2.2.1 (0:Nat) (4652218415073722368:
 Nat)).1→Br (!a) (post ((11:Int),())) (∃(h:W3 p.2.2.2.1 (0:Nat) (4652218415073722368:Nat)),∀ a,a=(Zha p.2.2.2.1 (0:Nat) (4652218415073722368:Nat)).1→Br
 (!a) (post ((11:Int),())) (∃(h:True),∀ a,a=Zhh p.2.2.2.2.1→∀ a_1,a_1=a.1→Br (!a_1) (post ((11:Int),())) (∀ a,a=decide ((↑p.2.2.2.2.2.2.length:Int) >
 (1024:Int))→Br a (post ((18:Int),())) (HS (Zm2 ty25 p ty3)∧∃(I:Int × Unit→Unit→Prop),∃(μ:Int × Unit→Unit→Nat),I ((0:Int),()) ()∧∀(x:Int
 × Unit) (y:Unit),I x y→∀ a,a=decide (x.1<(↑p.2.2.2.2.2.2.length:Int))→Br a (∃(h:(0:Int)≤x.1∧x.1<(↑p.2.2.2.2.2.2.length:Int)),∃(h:True),∀ a,a=
 Zcc (Z3y p.1).1 ((p.2.2.2.2.2.2.getD x.1.toNat Zj.dflt).1,(p.2.2.2.2.2.2.getD x.1.toNat Zj.dflt).2.1,(p.2.2.2.2.2.2.getD x.1.toNat Zj.dflt).2.2.1,
 (p.2.2.2.2.2.2.getD x.1.toNat Zj.dflt).2.2.2)→∀ a_2,a_2=a.1→Br (!a_2) (∀ a,a=decide (x.1≥(0:Int))→Br a (post ((18:Int),())) (post ((0:Int),()))) (HS
 (Zm2 ty25 p ty3)∧I (i64.wrap (x.1+(1:Int)),()) ()∧μ (i64.wrap (x.1+(1:Int)),()) ()<μ x y)) (∀ a,a=decide ((-1:Int)≥(0:Int))→
 Br a (post ((18:Int),())) (post ((0:Int),()))))))))))
theorem Z1am(ty0 ty1:Nat)(p:YP)(h:Zl9 p)(w:KS.wf [Z7f] (p,())):Zq2 ty0 ty1 p (fun r=>r=Z11e p):=by
 obtain⟨hn,⟨hd,hg,hr⟩,hl⟩:=h
 have W0:W64 0:=by unfold W64; decide
 have WM:W64 4652218415073722368:=by unfold W64; decide
 have hll:p.2.2.2.2.2.2.length≤maxN:=w.1.2.2.2.2.2.2.1
 have hm:maxN≤9223372036854775806:=by decide
 refine⟨hn,?_⟩
 rintro _ rfl
 refine Br.intro (fun e0=>?_) fun e0=>?_
 ·have e0:Z2 p.1=0:=beq_iff_eq.1 e0
  show(10,())=r1 (Z1g p)
  unfold Z1g; rw[if_pos e0]; rfl
 have c0:¬ Z2 p.1=0:=fun z=>by
  have e0:(Z2 p.1==0)=false:=e0
  rw[z]at e0; cases e0
 rintro _ rfl
 refine Br.intro (fun e1=>?_) fun e1=>?_
 ·have e1:(!gtS p.2.1 0)=true:=e1
  show(11,())=r1 (Z1g p)
  unfold Z1g; rw[if_neg c0,if_pos (by simp[e1])]; rfl
 have e1:(!gtS p.2.1 0)=false:=e1
 rintro _ rfl
 refine Br.intro (fun e2=>?_) fun e2=>?_
 ·have e2:gtS p.2.1 Z3l=true:=e2
  show(11,())=r1 (Z1g p)
  unfold Z1g; rw[if_neg c0,if_pos (by simp[e2])]; rfl
 have e2:gtS p.2.1 Z3l=false:=e2
 refine⟨⟨hg,W0,WM⟩,?_⟩
 rintro _ rfl
 refine Br.intro (fun e3=>?_) fun e3=>?_
 ·have e3:(!Z25 p.2.2.1 0 Z3l)=true:=e3
  show(11,())=r1 (Z1g p)
  unfold Z1g; rw[if_neg c0,if_pos (by simp[e3])]; rfl
 have e3:(!Z25 p.2.2.1 0 Z3l)=false:=e3
 refine⟨⟨hr,W0,WM⟩,?_⟩
 rintro _ rfl
 refine Br.intro (fun e4=>?_) fun e4=>?_
 ·have e4:(!Z25 p.2.2.2.1 0 Z3l)=true:=e4
  show(11,())=r1 (Z1g p)
  unfold Z1g; rw[if_neg c0,if_pos (by simp[e4])]; rfl
 have e4:(!Z25 p.2.2.2.1 0 Z3l)=false:=e4
 refine⟨trivial,?_⟩
 rintro _ rfl
 rintro _ rfl
 refine Br.intro (fun e5=>?_) fun e5=>?_
 ·have e5:(!Z49 p.2.2.2.2.1)=true:=e5
  show(11,())=r1 (Z1g p)
  unfold Z1g; rw[if_neg c0,if_pos (by simp[e5])]; rfl
 have e5:(!Z49 p.2.2.2.2.1)=false:=e5
 have no11:(!gtS p.2.1 0||gtS p.2.1 Z3l||!Z25 p.2.2.1 0 Z3l||!Z25 p.2.2.2.1 0 Z3l||!Z49 p.2.2.2.2.1)=false:=by simp[e1,e2,e3,e4,e5]
 have hP:Z11e p=r1 (if decide (1024<(p.2.2.2.2.2.2.length:Int))||p.2.2.2.2.2.2.any (fun r=>!Z2d (Z2 p.1) r)then 18 else 0):=by
  show r1 (Z1g p)=_
  unfold Z1g; rw[if_neg c0,if_neg (by rw[no11]; decide)]
 rw[hP]
 rintro _ rfl
 refine Br.intro (fun e6=>?_) fun e6=>?_
 ·have e6:decide (1024<(p.2.2.2.2.2.2.length:Int))=true:=e6
  rw[e6]; rfl
 have e6:decide (1024<(p.2.2.2.2.2.2.length:Int))=false:=e6
 rw[e6]
 have hC:(Z3y p.1).fst=Z2 p.1:=rfl
 refine⟨rfl,fun x _=>∃ k:Nat,x.1=k∧k≤p.2.2.2.2.2.2.length∧∀ j,j<k→Z2d (Z2 p.1) (p.2.2.2.2.2.2.getD j Zj.dflt)=true,fun x _=>p.2.2.2.2.2.2.length - x.1.toNat,⟨0,rfl,by omega,fun j hj=>by omega⟩,?_⟩
 rintro⟨_,⟨⟩⟩ ⟨⟩ ⟨k,rfl,hk,hj⟩
 dsimp only
 rintro _ rfl
 refine Br.intro (fun e7=>?_) fun e7=>?_
 rotate_left
 ·have hke:k=p.2.2.2.2.2.2.length:=by have:=of_decide_eq_false e7; omega
  rintro _ rfl
  refine Br.intro (fun z=>absurd z (by decide)) fun _=>?_
  rw[Z1ec (p:=fun r=>Z2d (Z2 p.1) r) (l:=p.2.2.2.2.2.2) (d:=Zj.dflt) (fun j h=>hj j (Nat.lt_of_lt_of_eq h hke.symm))]; rfl
 have hk2:k<p.2.2.2.2.2.2.length:=by have:=of_decide_eq_true e7; omega
 rw[Int.toNat_natCast]
 refine⟨⟨by omega,by omega⟩,trivial,?_⟩
 rintro _ rfl
 rintro _ rfl
 refine Br.intro (fun e8=>?_) fun e8=>?_
 ·have e8:(!Z2d (Z2 p.1) (p.2.2.2.2.2.2.getD k Zj.dflt))=true:=e8
  have e8:Z2d (Z2 p.1) (p.2.2.2.2.2.2.getD k Zj.dflt)=false:=by simpa using e8
  rintro _ rfl
  refine Br.intro (fun _=>?_) fun z=>absurd (of_decide_eq_false z) (by omega)
  rw[Z1ij (p:=fun r=>Z2d (Z2 p.1) r) (l:=p.2.2.2.2.2.2) (d:=Zj.dflt) hk2 e8]; rfl
 ·have e8:(!Z2d (Z2 p.1) (p.2.2.2.2.2.2.getD k Zj.dflt))=false:=e8
  have e8:Z2d (Z2 p.1) (p.2.2.2.2.2.2.getD k Zj.dflt)=true:=by simpa using e8
  rw[Z12 hk2 (by omega)]
  refine⟨rfl,⟨k+1,rfl,by omega,fun j h=>?_⟩,by omega⟩
  by_cases ej:j=k
  ·subst ej; exact e8
  ·exact hj j (by omega)
end Go.Lift

namespace Go.Lift
def Zhw:=fun(a b c:Nat)(post:Bool × Unit→Prop)=>∀ a_1,a_1=fcmp Go.BinOp.geq (f64.format.order a b)→Br a_1 (∀ a_2,a_2=fcmp Go.BinOp.leq
 (f64.format.order a c)→Br a_2 (∃(h:True),∀ a_3,a_3=((Z8d a).1 != (9223372036854775808:Int))→post (a_3,())) (post (false,()))) (post (false,
 ()))
theorem Zyf(a:Nat)(b:Nat)(c:Nat)(h:W3 a b c):Zhw  a b c (fun r=>r=Zha a b c):=by
 have nz:∀ x:Nat,((x:Int) != (9223372036854775808:Int))=decide (x≠9223372036854775808):=by
  intro x
  show(!((x:Int)==((9223372036854775808:Nat):Int)))=_
  rw[Z1hx]
  by_cases q:x=9223372036854775808
  ·rw[decide_eq_true q,decide_eq_false (by simpa using q)]; rfl
  ·rw[decide_eq_false q,decide_eq_true q]; rfl
 rintro _ rfl
 refine Br.intro (fun e=>?_) fun e=>?_
 ·rintro _ rfl
  refine Br.intro (fun f=>?_) fun f=>?_
  ·refine⟨trivial,?_⟩
   rintro _ rfl
   refine congrArg r1 ?_
   show((a:Int) != (9223372036854775808:Int))=Z25 a b c
   unfold Z25
   rw[nz,show fcmp .geq (Ieee.double.order a b)=true from e,show fcmp .leq (Ieee.double.order a c)=true from f]; rfl
  ·exact congrArg r1 (by unfold Z25; rw[show fcmp .leq (Ieee.double.order a c)=false from f,Bool.and_false]; rfl)
 ·exact congrArg r1 (by unfold Z25; rw[show fcmp .geq (Ieee.double.order a b)=false from e]; rfl)
def Zhx(ty22:Nat)(b:Nat):List HObj:=[HObj.box Md.rw ty22 [SV.val (Go.Value.float f64 b)]]
def Zjv:=fun(ty22:Nat)(a:List Nat)(b:Nat)(post:Int × Unit→Prop)=>HS (Zhx ty22 b)∧∃(I:Int × Unit→Unit→Prop),∃(μ:Int × Unit→
 Unit→Nat),I (0,()) ()∧∀(x:Int × Unit)(y:Unit),I x y→∀ a_1,a_1=decide (x.1<(↑a.length:Int))→Br a_1 (∃(h:(0:Int)≤x.1∧x.1<(↑a.length:Int)),∃(h
 : W3 (a.getD x.1.toNat (0:Nat)) (Go.Op.negFloat f64 b) b),∀ a_2,a_2=(Zha (a.getD x.1.toNat (0:Nat)) (Go.Op.negFloat f64 b) b).1→Br (!a_2)
 (post (x.1,())) (HS (Zhx ty22 b)∧I (i64.wrap (x.1+1),()) ()∧μ (i64.wrap (x.1+1),()) ()<μ x y)) (post ((-1:Int),()))
theorem Z138(ty0:Nat)(a:List Nat)(b:Nat)(h:WLF a b)(w:KS.wf [.slice (.flt .f64),.flt .f64] (a,b,())):Zjv ty0 a b (fun r=>r=Zgh a b):=by
 have hl:a.length≤maxN:=w.1.1
 unfold maxN at hl
 refine⟨rfl,fun x _=>∃ i:Nat,x.1=i∧i≤a.length∧Z2y a b=Zdx (fun x=>!Z25 x (negF b) b) i (a.drop i),fun x _=>a.length - x.1.toNat,⟨0,rfl,by omega,rfl⟩,?_⟩
 rintro⟨_,⟨⟩⟩ _ ⟨i,rfl,hil,hi⟩
 dsimp only
 rintro _ rfl
 refine Br.intro (fun e=>?_) fun e=>?_
 ·have e:i<a.length:=by have:=of_decide_eq_true e; omega
  refine⟨⟨by omega,by omega⟩,?_⟩
  rw[Int.toNat_natCast]
  rw[Zit e 0,Zkn]at hi
  refine⟨⟨h.1 _ (Zw e 0),Zh4 h.2,h.2⟩,?_⟩
  rintro _ rfl
  refine Br.intro (fun f=>?_) fun f=>?_
  ·refine congrArg r1 ?_
   rw[hi]
   rw[if_pos (show(!Z25 (a.getD i 0) (negF b) b)=true from f)]
  ·rw[if_neg (by rw[show(!Z25 (a.getD i 0) (negF b) b)=false from f]; decide)]at hi
   rw[Z12 e (by omega)]
   exact⟨rfl,⟨i+1,rfl,by omega,hi⟩,by omega⟩
 ·have e:¬ i<a.length:=by have:=of_decide_eq_false e; omega
  refine congrArg r1 ?_
  rw[hi,List.drop_eq_nil_of_le (by omega)]; rfl
def Zjw:=fun(ty2:Nat)(a:List Int)(b:Int)(post:Int × Unit→Prop)=>HS [HObj.box Md.rw ty2 [SV.junk]]∧∃(I:Int × Int × Unit→Unit→Prop),∃(μ:Int
 × Int × Unit→Unit→Nat),I (0,b,()) ()∧∀(x:Int × Int × Unit)(y:Unit),I x y→∀ a_1,a_1=decide (x.1<(↑a.length:Int))→Br a_1 (∃(h:(0:Int)≤x.1∧x.1 <
 (↑a.length:Int)),∀ a_2,a_2=decide (a.getD x.1.toNat (0:Int)<(0:Int))→Br a_2 (post (x.1,())) (∀ a_3,a_3=decide (a.getD x.1.toNat (0:Int) > i64.wrap
 ((4503599627370496:Int) - x.2.1))→Br a_3 (post (x.1,())) (HS [HObj.box Md.rw ty2 [SV.junk]]∧I (i64.wrap (x.1+1),i64.wrap (x.2.1+a.getD x.1.toNat (0:
 Int)),()) ()∧μ (i64.wrap (x.1+1),i64.wrap (x.2.1+a.getD x.1.toNat (0:Int)),()) ()<μ x y))) (post ((-1:Int),()))
theorem Z139(ty0:Nat)(a:List Int)(b:Int)(h:Zuw a b)(w:KS.wf [.slice (.int .i64),.int .i64] (a,b,())):Zjw ty0 a b (fun r=>r=Zgi a b):=by
 have hl:a.length≤maxN:=w.1.1
 unfold maxN at hl
 obtain⟨ha,hb0,hb1⟩:=h
 refine⟨rfl,fun x _=>∃ i:Nat,x.1=i∧i≤a.length∧0≤x.2.1∧x.2.1≤4503599627370496∧Z2t 0 b a=Z2t i x.2.1 (a.drop i),fun x _=>a.length - x.1.toNat,⟨0,rfl,by omega,hb0,hb1,rfl⟩,?_⟩
 rintro⟨_,s,⟨⟩⟩ _ ⟨i,rfl,hil,h0,h1,hi⟩
 dsimp only at h0 h1 hi ⊢
 have ws:i64.wrap (4503599627370496 - s)=4503599627370496 - s:=wi ⟨by omega,by omega⟩
 rintro _ rfl
 refine Br.intro (fun e=>?_) fun e=>?_
 ·have e:i<a.length:=by have:=of_decide_eq_true e; omega
  refine⟨⟨by omega,by omega⟩,?_⟩
  rw[Int.toNat_natCast,ws]
  rw[Zit e 0,Zse]at hi
  have hr:=ha _ (Zw e 0)
  rintro _ rfl
  refine Br.intro (fun f=>?_) fun f=>?_
  ·refine congrArg r1 ?_
   rw[hi]
   rw[if_pos (.inl (of_decide_eq_true f))]
  have f:=of_decide_eq_false f
  rintro _ rfl
  refine Br.intro (fun g=>?_) fun g=>?_
  ·refine congrArg r1 ?_
   rw[hi]
   rw[if_pos (.inr (of_decide_eq_true g))]
  ·have g:=of_decide_eq_false g
   rw[if_neg (by omega)]at hi
   rw[Z12 e (by omega),wi (x:=s+a.getD i 0) ⟨by omega,by omega⟩]
   exact⟨rfl,⟨i+1,rfl,by omega,by omega,by omega,hi⟩,by omega⟩
 ·have e:¬ i<a.length:=by have:=of_decide_eq_false e; omega
  refine congrArg r1 ?_
  rw[hi,List.drop_eq_nil_of_le (by omega)]; rfl
def Zm3:=fun(n:Int)(s:YS)(post:Int × Int × Unit→Prop)=>∃(h:I64 n),Br ((Z3y n).1==(0:Int)) (post (0,10,())) (∃(h:(2:Int)≠(0:Int)),∃
 (h:(0:Int)≤(0:Int)∧(0:Int)<(↑(4:Nat):Int)),Br ([(↑s.1.length:Int),(↑s.2.1.length:Int),(↑s.2.2.1.length:Int),i64.wrap ((↑s.2.2.2.1.length:
 Int).tdiv (2:Int))].getD (Int.toNat (0:Int)) (0:Int) != (Z3y n).1) (post (0,12,())) (∃(h:(0:Int)≤i64.wrap ((0:Int)+(1:Int))∧i64.wrap ((0
 : Int)+(1:Int))<(↑(4:Nat):Int)),Br ([(↑s.1.length:Int),(↑s.2.1.length:Int),(↑s.2.2.1.length:Int),i64.wrap ((↑s.2.2.2.1.length:Int).tdiv (2:
 Int))].getD (i64.wrap ((0:Int)+(1:Int))).toNat (0:Int) != (Z3y n).1) (post (i64.wrap ((0:Int)+(1:Int)),12,())) (∃(h:(0:Int)≤
 i64.wrap (i64.wrap ((0:Int)+(1:Int))+(1:Int))∧i64.wrap (i64.wrap ((0:Int)+(1:Int))+(1:Int))<(↑(4:Nat):Int)),Br
 ([(↑s.1.length:Int),(↑s.2.1.length:Int),(↑s.2.2.1.length:Int),i64.wrap ((↑s.2.2.2.1.length:Int).tdiv (2:Int))].getD (i64.wrap (i64.wrap ((0:
 Int)+(1:Int))+(1:Int))).toNat (0:Int) != (Z3y n).1) (post (i64.wrap (i64.wrap ((0:Int)+(1:Int))+(1:Int)),12,())) (∃(h:(0:Int)≤
 i64.wrap (i64.wrap (i64.wrap ((0:Int)+(1:Int))+(1:Int))+(1:Int))∧i64.wrap (i64.wrap (i64.wrap ((0:Int)+(1:
 Int))+(1:Int))+(1:Int))<(↑(4:Nat):Int)),Br ([(↑s.1.length:Int),(↑s.2.1.length:Int),(↑s.2.2.1.length:Int),i64.wrap ((↑s.2.2.2.1.length:Int).tdiv
 (2:Int))].getD (i64.wrap (i64.wrap (i64.wrap ((0:Int)+(1:Int))+(1:Int))+(1:Int))).toNat (0:Int) != (Z3y n).1) (post (i64.wrap
 (i64.wrap (i64.wrap ((0:Int)+(1:Int))+(1:Int))+(1:Int)),12,())) (Br ((↑s.2.2.2.1.length:Int) != i64.wrap ((2:Int)*(Z3y n).1))
 (post (i64.wrap (i64.wrap (i64.wrap ((0:Int)+(1:Int))+(1:Int))+(1:Int)),12,())) (∃(h:WLF s.1 (4697254411347427328:Nat)),Br (decide
 ((Zgh s.1 (4697254411347427328:Nat)).1≥(0:Int))) (post ((Zgh s.1 (4697254411347427328:Nat)).1,13,())) (Br (decide (s.2.2.2.2.1<(0:Int))) (post (0,17,()))
 (Br (decide (s.2.2.2.2.1 > (4503599627370496:Int))) (post (0,17,())) (∃(h:Zuw s.2.1 s.2.2.2.2.1),Br (decide ((Zgi s.2.1 s.2.2.2.2.1).1≥(0:Int))) (post
 ((Zgi s.2.1 s.2.2.2.2.1).1,14,())) (∃(h:Zuw s.2.2.1 (0:Int)),Br (decide ((Zgi s.2.2.1 (0:Int)).1≥(0:Int))) (post ((Zgi s.2.2.1 (0:Int)).1,15,()))
 (∃(h:WLF s.2.2.2.1 (4652218415073722368:Nat)),Br (decide ((Zgh s.2.2.2.1 (4652218415073722368:Nat)).1≥(0:Int))) (post ((Zgh s.2.2.2.1 (4652218415073722368:
 Nat)).1,16,())) (Br (decide (s.2.2.2.2.2<(0:Int))) (post (0,1,())) (Br (decide (s.2.2.2.2.2 > (4611686018427387904:Int))) (post (0,1,())) (post (0,0,
 ())))))))))))))))
theorem Z162(n:Int)(s:YS)(h:Z10m n s)(w:KS.wf [.int .i64,kSea] (n,s,())):Zm3  n s (fun r=>r=Zl3 n s):=by
 obtain⟨hn,hb,hw,ht,hs,h4,h5⟩:=h
 have l1:s.1.length≤maxN:=w.2.1.1.1
 have l2:s.2.2.2.1.length≤maxN:=w.2.1.2.2.2.1.1
 unfold maxN at l1 l2
 obtain⟨c0,c1⟩:=Z37 n
 have wc:i64.wrap (2*Z2 n)=2*Z2 n:=wi ⟨by omega,by omega⟩
 have td:(s.2.2.2.1.length:Int).tdiv 2=(s.2.2.2.1.length:Int) / 2:=Int.tdiv_eq_ediv_of_nonneg (by omega)
 have wd:i64.wrap ((s.2.2.2.1.length:Int) / 2)=(s.2.2.2.1.length:Int) / 2:=wi ⟨by omega,by omega⟩
 refine⟨hn,Br.intro (fun e=>?_) fun e=>?_⟩
 ·have e:Z2 n=0:=eq_of_beq e
  show _=((Z1i n s).1,(Z1i n s).2,())
  unfold Z1i; rw[if_pos e]
 have e0:¬ Z2 n=0:=by intro q; have e:(Z2 n==0)=false:=e; rw[q]at e; cases e
 refine⟨by decide,⟨by decide,by decide⟩,Br.intro (fun e=>?_) fun e=>?_⟩
 ·have e:(s.1.length:Int)≠Z2 n:=Z8f.1 e
  show _=((Z1i n s).1,(Z1i n s).2,())
  unfold Z1i; rw[if_neg e0,if_pos e]
 have e1:(s.1.length:Int)=Z2 n:=Z8f.2 e
 refine⟨⟨by decide,by decide⟩,Br.intro (fun e=>?_) fun e=>?_⟩
 ·have e:(s.2.1.length:Int)≠Z2 n:=Z8f.1 e
  show _=((Z1i n s).1,(Z1i n s).2,())
  unfold Z1i; rw[if_neg e0,if_neg (by omega),if_pos e]; rfl
 have e2:(s.2.1.length:Int)=Z2 n:=Z8f.2 e
 refine⟨⟨by decide,by decide⟩,Br.intro (fun e=>?_) fun e=>?_⟩
 ·have e:(s.2.2.1.length:Int)≠Z2 n:=Z8f.1 e
  show _=((Z1i n s).1,(Z1i n s).2,())
  unfold Z1i; rw[if_neg e0,if_neg (by omega),if_neg (by omega),if_pos e]; rfl
 have e3:(s.2.2.1.length:Int)=Z2 n:=Z8f.2 e
 have no3:(s.2.2.2.1.length:Int)≠2*Z2 n→((3:Int),(12:Int),())=Zl3 n s:=by
  intro e
  show _=((Z1i n s).1,(Z1i n s).2,())
  unfold Z1i; rw[if_neg e0,if_neg (by omega),if_neg (by omega),if_neg (by omega),if_pos e]
 refine⟨⟨by decide,by decide⟩,Br.intro (fun e=>?_) fun e=>?_⟩
 ·have e:i64.wrap ((s.2.2.2.1.length:Int).tdiv 2)≠Z2 n:=Z8f.1 e
  rw[td,wd]at e
  exact no3 (by omega)
 refine Br.intro (fun e=>?_) fun e=>?_
 ·have e:(s.2.2.2.1.length:Int)≠i64.wrap (2*Z2 n):=Z8f.1 e
  rw[wc]at e
  exact no3 e
 have e4:(s.2.2.2.1.length:Int)=i64.wrap (2*Z2 n):=Z8f.2 e
 rw[wc]at e4
 have base:Z1i n s=if 0≤Z2y s.1 4697254411347427328 then(Z2y s.1 4697254411347427328,13)
  else if s.2.2.2.2.1<0∨s.2.2.2.2.1 > 4503599627370496 then(0,17)
  else if 0≤Z2t 0 s.2.2.2.2.1 s.2.1 then(Z2t 0 s.2.2.2.2.1 s.2.1,14)
  else if 0≤Z2t 0 0 s.2.2.1 then(Z2t 0 0 s.2.2.1,15)
  else if 0≤Z2y s.2.2.2.1 4652218415073722368 then(Z2y s.2.2.2.1 4652218415073722368,16)
  else if s.2.2.2.2.2<0∨s.2.2.2.2.2 > 4611686018427387904 then(0,1)
  else(0,0):=by
  show(if Z2 n=0 then _ else _)=_
  rw[if_neg e0,if_neg (by omega),if_neg (by omega),if_neg (by omega),if_neg (by omega)]
 have fin:∀ p q,Z1i n s=(p,q)→(p,q,())=Zl3 n s:=by intro p q e; show _=((Z1i n s).1,(Z1i n s).2,()); rw[e]
 refine⟨⟨hb,by unfold W64; decide⟩,Br.intro (fun e=>fin _ _ ?_) fun e=>?_⟩
 ·have e:0≤Z2y s.1 4697254411347427328:=of_decide_eq_true e
  rw[base,if_pos e]; rfl
 have f1:¬ 0≤Z2y s.1 4697254411347427328:=of_decide_eq_false e
 rw[if_neg f1]at base
 refine Br.intro (fun e=>fin _ _ ?_) fun e=>?_
 ·rw[base,if_pos (.inl (of_decide_eq_true e))]
 have f2:=of_decide_eq_false e
 refine Br.intro (fun e=>fin _ _ ?_) fun e=>?_
 ·rw[base,if_pos (.inr (of_decide_eq_true e))]
 have f3:=of_decide_eq_false e
 rw[if_neg (by omega)]at base
 refine⟨⟨hw,by omega,by omega⟩,Br.intro (fun e=>fin _ _ ?_) fun e=>?_⟩
 ·have e:0≤Z2t 0 s.2.2.2.2.1 s.2.1:=of_decide_eq_true e
  rw[base,if_pos e]; rfl
 have f4:¬ 0≤Z2t 0 s.2.2.2.2.1 s.2.1:=of_decide_eq_false e
 rw[if_neg f4]at base
 refine⟨⟨ht,by omega,by omega⟩,Br.intro (fun e=>fin _ _ ?_) fun e=>?_⟩
 ·have e:0≤Z2t 0 0 s.2.2.1:=of_decide_eq_true e
  rw[base,if_pos e]; rfl
 have f5:¬ 0≤Z2t 0 0 s.2.2.1:=of_decide_eq_false e
 rw[if_neg f5]at base
 refine⟨⟨hs,by unfold W64; decide⟩,Br.intro (fun e=>fin _ _ ?_) fun e=>?_⟩
 ·have e:0≤Z2y s.2.2.2.1 4652218415073722368:=of_decide_eq_true e
  rw[base,if_pos e]; rfl
 have f6:¬ 0≤Z2y s.2.2.2.1 4652218415073722368:=of_decide_eq_false e
 rw[if_neg f6]at base
 refine Br.intro (fun e=>fin _ _ ?_) fun e=>?_
 ·rw[base,if_pos (.inl (of_decide_eq_true e))]
 have f7:=of_decide_eq_false e
 refine Br.intro (fun e=>fin _ _ ?_) fun e=>fin _ _ ?_
 ·rw[base,if_pos (.inr (of_decide_eq_true e))]
 have f8:=of_decide_eq_false e
 rw[base,if_neg (by omega)]
end Go.Lift
