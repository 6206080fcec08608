/- tarnlaw21.StepGives: at every input it returns true and leaves the arguments as they were; cube.frames and geom.frames read as the program's text lays them. -/
import Derived.Test.YtkfafhbmdccmgaaGreatDoorTie
import Derived.Test.YtkfafhbmdccmgaaGreatDoorCards
import Derived.Test.YtkfafhbmdccmgaaGreatDoorPtF
set_option linter.unusedVariables false
set_option linter.unusedSimpArgs false
set_option linter.unusedSectionVars false
open Go.IntKind (i64 u64 u32 u8)
open Go.FloatKind (f64 f32)
namespace Go.Lift
def Z141:=fun(ty3:Nat)(m:Md)(tb:Nat)(cs:List SV)(xs:List Int)(a b n:Int)(fv:EV)(k:EV→List HObj→Prop)=>HIs [HObj.box m tb cs,HObj.row Md.rw ty3
 (K.int i64) xs] [HObj.box m tb cs,HObj.row Md.rw ty3 (K.int i64) xs]∧∃(I:Int × Unit→List Int × Unit→Prop),∃(μ:Int × Unit→List Int × Unit→Nat),I
 ((0:Int),()) (xs,())∧∀(x:Int × Unit)(y:List Int × Unit),I x y→∀(a_1:Bool),a_1=decide (x.fst<n)→Br a_1 (∃(h:(0:Int)≤i64.wrap (b+x.fst)∧
 i64.wrap (b+x.fst)<(↑xs.length:Int)),∃(h:(0:Int)≤i64.wrap (a+x.fst)∧i64.wrap (a+x.fst)<(↑xs.length:Int)),∃(h:(0:Int)≤
 i64.wrap (a+x.fst)∧i64.wrap (a+x.fst)<(↑xs.length:Int)),∃(h:(0:Int)≤i64.wrap (b+x.fst)∧i64.wrap (b+x.fst)<(↑xs.length:
 Int)),HIs [HObj.box m tb cs,HObj.row Md.rw ty3 (K.int i64) ((y.fst.set ((0:Nat)+(i64.wrap (a+x.fst)).toNat) (y.fst.getD ((0:Nat)+(i64.wrap (b+
 x.fst)).toNat) (0:Int))).set ((0:Nat)+(i64.wrap (b+x.fst)).toNat) (y.fst.getD ((0:Nat)+(i64.wrap (a+x.fst)).toNat) (0:Int)))] [HObj.box m tb cs,
 HObj.row Md.rw ty3 (K.int i64) ((y.fst.set ((0:Nat)+(i64.wrap (a+x.fst)).toNat) (y.fst.getD ((0:Nat)+(i64.wrap (b+x.fst)).toNat) (0:
 Int))).set ((0:Nat)+(i64.wrap (b+x.fst)).toNat) (y.fst.getD ((0:Nat)+(i64.wrap (a+x.fst)).toNat) (0:Int)))]∧I (i64.wrap (x.fst+(1:
 Int)),()) ((y.fst.set ((0:Nat)+(i64.wrap (a+x.fst)).toNat) (y.fst.getD ((0:Nat)+(i64.wrap (b+x.fst)).toNat) (0:Int))).set ((0:Nat)+
 (i64.wrap (b+x.fst)).toNat) (y.fst.getD ((0:Nat)+(i64.wrap (a+x.fst)).toNat) (0:Int)),())∧μ (i64.wrap (x.fst+(1:Int)),()) ((y.fst.set ((0
 : Nat)+(i64.wrap (a+x.fst)).toNat) (y.fst.getD ((0:Nat)+(i64.wrap (b+x.fst)).toNat) (0:Int))).set ((0:Nat)+(i64.wrap (b+x.fst)).toNat)
 (y.fst.getD ((0:Nat)+(i64.wrap (a+x.fst)).toNat) (0:Int)),())<μ x y) (k (EV.tup []) [HObj.box m tb cs,HObj.row Md.rw ty3 (K.int i64) y.fst])
theorem Z1l6(ty0:Nat)(m:Md)(tb:Nat)(cs:List SV)(xs:List Int)(a b n:Int)(fv:EV)(k:EV→List HObj→Prop)(h:List.length xs≤maxN∧0≤a∧0≤n∧a+n≤b∧b+n≤(List.length xs:Int))(hk:∀ ys:List Int,ys=Z3k xs (swI a.toNat b.toNat n.toNat)∧ys.Perm xs→k (.tup []) [.box m tb cs,.row .rw ty0 (.int .i64) ys]):Z141 ty0 m tb cs xs a b n fv k:=by
 obtain⟨hl,ha,hn,hab,hb⟩:=h
 have mx:maxN=281474976710656:=rfl
 obtain⟨A,rfl⟩:∃ q:Nat,a=(q:Int):=⟨a.toNat,by omega⟩
 obtain⟨B,rfl⟩:∃ q:Nat,b=(q:Int):=⟨b.toNat,by omega⟩
 obtain⟨N,rfl⟩:∃ q:Nat,n=(q:Int):=⟨n.toNat,by omega⟩
 simp only[Int.toNat_natCast]at hk
 refine⟨rfl,fun x y=>∃ j:Nat,x.1=j∧j≤N∧y.1=Z3k xs (swI A B j)∧y.1.Perm xs,fun x _=>N - x.1.toNat,⟨0,rfl,by omega,(Z1dv fun p _=>Z1qa A B p).symm,.refl _⟩,?_⟩
 rintro⟨_,⟨⟩⟩ ⟨y,⟨⟩⟩ ⟨j,rfl,hj,hy,hp⟩
 dsimp only at hy hp ⊢
 have ly:y.length=xs.length:=by rw[hy,Z2c]
 rintro _ rfl
 refine Br.intro (fun d=>?_) fun d=>?_
 ·have d:j<N:=by have d:(j:Int)<N:=of_decide_eq_true d; omega
  rw[Zq (x:=(B:Int)+j) (by omega) (by omega),Zq (x:=(A:Int)+j) (by omega) (by omega),Zq (x:=(j:Int)+1) (by omega) (by omega),show((B:Int)+j).toNat=B+j by omega,show((A:Int)+j).toNat=A+j by omega,Nat.zero_add,Nat.zero_add]
  refine⟨⟨by omega,by omega⟩,⟨by omega,by omega⟩,⟨by omega,by omega⟩,⟨by omega,by omega⟩,rfl,⟨j+1,by omega,by omega,?_,?_⟩,by omega⟩
  ·show swp y (A+j) (B+j)=_
   rw[hy]; exact Z1nl (by omega) (by omega)
  ·exact(Z1du (by omega) (by omega)).trans hp
 have d:j=N:=by have d:¬ (j:Int)<N:=of_decide_eq_false d; omega
 subst d
 exact hk _ ⟨hy,hp⟩
def Zua:=fun(ty3:Nat)(md:Md)(tb:Nat)(cs:List SV)(xs:List Int)(a m b:Int)(fv:EV)(k:EV→List HObj→Prop)=>HIs [HObj.box md tb cs,HObj.row Md.rw
 ty3 (K.int i64) xs] [HObj.box md tb cs,HObj.row Md.rw ty3 (K.int i64) xs]∧∃(I:Int × Int × Unit→List Int × Unit→Prop),∃(μ:Int × Int × Unit→List Int
 × Unit→Nat),I (i64.wrap (m - a),i64.wrap (b - m),()) (xs,())∧∀(x:Int × Int × Unit)(y:List Int × Unit),I x y→∀(a:Bool),a=(x.fst != x.snd.fst)
 → Br a (∀(a:Bool),a=decide (x.fst > x.snd.fst)→Br a (∃(x_4:(ty3=ty3)∧xs.length=y.fst.length∧y.fst.length≤maxN∧(0:Int)≤i64.wrap (m - x.fst)∧(0
 : Int)≤x.snd.fst∧i64.wrap (m - x.fst)+x.snd.fst≤m∧m+x.snd.fst≤(↑y.fst.length:Int)),∀(ys:List Int),ys=Z3k y.fst (swI (i64.wrap (m -
 x.fst)).toNat m.toNat x.snd.fst.toNat)∧ys.Perm y.fst→HIs [HObj.box md tb cs,HObj.row Md.rw ty3 (K.int i64) ys] [HObj.box md tb cs,HObj.row Md.rw ty3 (K.int
 i64) ys]∧I (i64.wrap (x.fst - x.snd.fst),x.snd.fst,()) (ys,())∧μ (i64.wrap (x.fst - x.snd.fst),x.snd.fst,()) (ys,())<μ x y) (∃(x_4:(ty3=
 ty3)∧xs.length=y.fst.length∧y.fst.length≤maxN∧(0:Int)≤i64.wrap (m - x.fst)∧(0:Int)≤x.fst∧i64.wrap (m - x.fst)+x.fst≤i64.wrap
 (i64.wrap (m+x.snd.fst) - x.fst)∧i64.wrap (i64.wrap (m+x.snd.fst) - x.fst)+x.fst≤(↑y.fst.length:Int)),∀(ys:List Int),ys=Z3k y.fst (swI
 (i64.wrap (m - x.fst)).toNat (i64.wrap (i64.wrap (m+x.snd.fst) - x.fst)).toNat x.fst.toNat)∧ys.Perm y.fst→HIs [HObj.box md tb cs,HObj.row Md.rw ty3
 (K.int i64) ys] [HObj.box md tb cs,HObj.row Md.rw ty3 (K.int i64) ys]∧I (x.fst,i64.wrap (x.snd.fst - x.fst),()) (ys,())∧μ (x.fst,i64.wrap
 (x.snd.fst - x.fst),()) (ys,())<μ x y)) (∃(x_3:(ty3=ty3)∧xs.length=y.fst.length∧y.fst.length≤maxN∧(0:Int)≤i64.wrap (m - x.fst)∧(0:Int)≤x.fst∧
 i64.wrap (m - x.fst)+x.fst≤m∧m+x.fst≤(↑y.fst.length:Int)),∀(ys:List Int),ys=Z3k y.fst (swI (i64.wrap (m - x.fst)).toNat m.toNat x.fst.toNat)∧
 ys.Perm y.fst→k (EV.tup []) [HObj.box md tb cs,HObj.row Md.rw ty3 (K.int i64) ys])
theorem Z1oy(ty0:Nat)(md:Md)(tb:Nat)(cs:List SV)(xs:List Int)(a m b:Int)(fv:EV)(k:EV→List HObj→Prop)(h:List.length xs≤maxN∧0≤a∧a<m∧m<b∧b≤(List.length xs:Int))(hk:∀ ys:List Int,ys=Z3k xs (rotI a.toNat m.toNat b.toNat)∧ys.Perm xs→k (.tup []) [.box md tb cs,.row .rw ty0 (.int .i64) ys]):Zua ty0 md tb cs xs a m b fv k:=by
 unfold Zua
 obtain⟨hl,ha,ham,hmb,hb⟩:=h
 have mx:maxN=281474976710656:=rfl
 obtain⟨A,rfl⟩:∃ q:Nat,a=(q:Int):=⟨a.toNat,by omega⟩
 obtain⟨M,rfl⟩:∃ q:Nat,m=(q:Int):=⟨m.toNat,by omega⟩
 obtain⟨B,rfl⟩:∃ q:Nat,b=(q:Int):=⟨b.toNat,by omega⟩
 simp only[Int.toNat_natCast]at hk
 have wsub:∀ u v:Nat,v≤u→u≤xs.length→i64.wrap ((u:Int) - v)=((u - v:Nat):Int):=fun u v h1 h2=>by rw[Zq (by omega) (by omega)]; omega
 rw[wsub M A (by omega) (by omega),wsub B M (by omega) (by omega)]
 refine⟨rfl,fun x y=>∃ i j:Nat,x.1=i∧x.2.1=j∧0<i∧0<j∧i≤M∧M+j≤xs.length∧y.1.length=xs.length∧Z3k y.1 (rotI (M - i) M (M+j))=Z3k xs (rotI A M B)∧y.1.Perm xs,fun x _=>(x.1+x.2.1).toNat,⟨M - A,B - M,rfl,rfl,by omega,by omega,by omega,by omega,rfl,by rw[show M - (M - A)=A by omega,show M+(B - M)=B by omega],.refl _⟩,?_⟩
 rintro⟨_,_,⟨⟩⟩ ⟨y,⟨⟩⟩ ⟨i,j,rfl,rfl,hi,hj,hiM,hMj,ly,hy,hp⟩
 dsimp only at ly hy hp ⊢
 rintro _ rfl
 refine Br.intro (fun d=>?_) fun d=>?_
 ·have d:i≠j:=fun e=>by subst e; simp at d
  rintro _ rfl
  refine Br.intro (fun e=>?_) fun e=>?_
  ·have e:j<i:=by have e:(j:Int)<i:=of_decide_eq_true e; omega
   rw[wsub M i (by omega) (by omega),Int.toNat_natCast,Int.toNat_natCast,Int.toNat_natCast,Zq (x:=(i:Int) - j) (by omega) (by omega)]
   refine⟨⟨rfl,ly.symm,by omega,by omega,by omega,by omega,by omega⟩,?_⟩
   rintro ys ⟨rfl,hps⟩
   refine⟨rfl,⟨i - j,j,by omega,rfl,by omega,hj,by omega,hMj,by rw[Z2c]; exact ly,?_,hps.trans hp⟩,by omega⟩
   rw[Zwm (υ:=rotI (M - i) M (M+j)) (fun p hp=>Z14y (by omega) (by omega) (by omega) hp) fun p _=>Z1qb hj e hiM p]
   exact hy
  ·have e:i<j:=by have e:¬ (j:Int)<i:=of_decide_eq_false e; omega
   have w2:i64.wrap (i64.wrap ((M:Int)+j) - i)=((M+j - i:Nat):Int):=by rw[Zq (x:=(M:Int)+j) (by omega) (by omega),Zq (by omega) (by omega)]; omega
   rw[w2,wsub M i (by omega) (by omega),Int.toNat_natCast,Int.toNat_natCast,Int.toNat_natCast,Zq (x:=(j:Int) - i) (by omega) (by omega)]
   refine⟨⟨rfl,ly.symm,by omega,by omega,by omega,by omega,by omega⟩,?_⟩
   rintro ys ⟨rfl,hps⟩
   refine⟨rfl,⟨i,j - i,rfl,by omega,hi,by omega,by omega,by omega,by rw[Z2c]; exact ly,?_,hps.trans hp⟩,by omega⟩
   rw[Zwm (υ:=rotI (M - i) M (M+j)) (fun p hp=>Z14y (by omega) (by omega) (by omega) hp) fun p _=>Z1qc hi e hiM p]
   exact hy
 have d:i=j:=by
  have d:(i:Int)=j:=by simpa using d
  omega
 subst d
 rw[wsub M i (by omega) (by omega),Int.toNat_natCast,Int.toNat_natCast,Int.toNat_natCast]
 refine⟨⟨rfl,ly.symm,by omega,by omega,by omega,by omega,by omega⟩,?_⟩
 rintro ys ⟨hys,hps⟩
 refine hk _ ⟨?_,hps.trans hp⟩
 rw[← hy,hys]
 congr 1
 funext p
 exact Z1qd hi hiM p
def Zub:=fun(ty3:Nat)(m:Md)(tb:Nat)(bed:List Nat)(xs:List Int)(a b:Int)(k:EV→List HObj→Prop)=>HIs [HObj.box m tb [SV.data (K.flt
 f64).slice bed],HObj.row Md.rw ty3 (K.int i64) xs] [HObj.box m tb [SV.data (K.flt f64).slice bed],HObj.row Md.rw ty3 (K.int i64) xs]∧
 ∃(I:Int × Unit→List Int × Unit→Prop),∃(μ:Int × Unit→List Int × Unit→Nat),I (i64.wrap (a+(1:Int)),()) (xs,())∧∀(x:Int × Unit)(y:List Int ×
 Unit),I x y→∀(a_1:Bool),a_1=decide (x.fst<b)→Br a_1 (HIs [HObj.box m tb [SV.data (K.flt f64).slice bed],HObj.row Md.rw ty3 (K.int i64) y.fst]
 [HObj.box m tb [SV.data (K.flt f64).slice bed],HObj.row Md.rw ty3 (K.int i64) y.fst]∧∃(I_1:Int × Unit→List Int × Unit→Prop),∃(μ_1:Int × Unit→
 List Int × Unit→Nat),I_1 (x.fst,()) (y.fst,())∧∀(x_3:Int × Unit)(y_1:List Int × Unit),I_1 x_3 y_1→∀(a_2:Bool),a_2=decide (x_3.fst > a)→Br a_2 (∃(h:(0:
 Int)≤x_3.fst∧x_3.fst<(↑xs.length:Int)),∃(h:(0:Int)≤i64.wrap (x_3.fst - (1:Int))∧i64.wrap (x_3.fst - (1:Int))<(↑xs.length:Int)),∃(h:
 WCmp (y_1.fst.getD ((0:Nat)+x_3.fst.toNat) (0:Int)) (y_1.fst.getD ((0:Nat)+(i64.wrap (x_3.fst - (1:Int))).toNat) (0:Int)) (some bed)),∀(a:Int ×
 Unit),a=Zax (y_1.fst.getD ((0:Nat)+x_3.fst.toNat) (0:Int)) (y_1.fst.getD ((0:Nat)+(i64.wrap (x_3.fst - (1:Int))).toNat) (0:Int)) (some bed)→∀
 (a_3:Bool),a_3=decide (a.fst<(0:Int))→Br a_3 (∃(h:(0:Int)≤i64.wrap (x_3.fst - (1:Int))∧i64.wrap (x_3.fst - (1:Int))<(↑xs.length:Int)),
 ∃(h:(0:Int)≤x_3.fst∧x_3.fst<(↑xs.length:Int)),∃(h:(0:Int)≤x_3.fst∧x_3.fst<(↑xs.length:Int)),∃(h:(0:Int)≤i64.wrap (x_3.fst - (1:Int))∧
 i64.wrap (x_3.fst - (1:Int))<(↑xs.length:Int)),HIs [HObj.box m tb [SV.data (K.flt f64).slice bed],HObj.row Md.rw ty3 (K.int i64) ((y_1.fst.set
 ((0:Nat)+x_3.fst.toNat) (y_1.fst.getD ((0:Nat)+(i64.wrap (x_3.fst - (1:Int))).toNat) (0:Int))).set ((0:Nat)+(i64.wrap (x_3.fst - (1:Int))).toNat)
 (y_1.fst.getD ((0:Nat)+x_3.fst.toNat) (0:Int)))] [HObj.box m tb [SV.data (K.flt f64).slice bed],HObj.row Md.rw ty3 (K.int i64) ((y_1.fst.set ((0:Nat)
 + x_3.fst.toNat) (y_1.fst.getD ((0:Nat)+(i64.wrap (x_3.fst - (1:Int))).toNat) (0:Int))).set ((0:Nat)+(i64.wrap (x_3.fst - (1:Int))).toNat)
 (y_1.fst.getD ((0:Nat)+x_3.fst.toNat) (0:Int)))]∧I_1 (i64.wrap (x_3.fst - (1:Int)),()) ((y_1.fst.set ((0:Nat)+x_3.fst.toNat) (y_1.fst.getD ((0:Nat)+
 (i64.wrap (x_3.fst - (1:Int))).toNat) (0:Int))).set ((0:Nat)+(i64.wrap (x_3.fst - (1:Int))).toNat) (y_1.fst.getD ((0:Nat)+x_3.fst.toNat) (0:Int)),
 ())∧μ_1 (i64.wrap (x_3.fst - (1:Int)),()) ((y_1.fst.set ((0:Nat)+x_3.fst.toNat) (y_1.fst.getD ((0:Nat)+(i64.wrap (x_3.fst - (1:Int))).toNat) (0:
 Int))).set ((0:Nat)+(i64.wrap (x_3.fst - (1:Int))).toNat) (y_1.fst.getD ((0:Nat)+x_3.fst.toNat) (0:Int)),())<μ_1 x_3 y_1) (HIs [HObj.box m tb [SV.data
 (K.flt f64).slice bed],HObj.row Md.rw ty3 (K.int i64) y_1.fst] [HObj.box m tb [SV.data (K.flt f64).slice bed],HObj.row Md.rw ty3 (K.int
 i64) y_1.fst]∧I (i64.wrap (x.fst+(1:Int)),()) (y_1.fst,())∧μ (i64.wrap (x.fst+(1:Int)),()) (y_1.fst,())<μ x y)) (HIs [HObj.box m tb
 [SV.data (K.flt f64).slice bed],HObj.row Md.rw ty3 (K.int i64) y_1.fst] [HObj.box m tb [SV.data (K.flt f64).slice bed],HObj.row Md.rw ty3
 (K.int i64) y_1.fst]∧I (i64.wrap (x.fst+(1:Int)),()) (y_1.fst,())∧μ (i64.wrap (x.fst+(1:Int)),()) (y_1.fst,())<μ x y)) (k (EV.tup [])
 [HObj.box m tb [SV.data (K.flt f64).slice bed],HObj.row Md.rw ty3 (K.int i64) y.fst])
theorem Z1oz(ty0:Nat)(m:Md)(tb:Nat)(bed:List Nat)(xs:List Int)(a b:Int)(k:EV→List HObj→Prop)(h:Z47 bed xs∧0≤a∧a≤b∧b≤(List.length xs:Int))(hk:∀ ys:List Int,Rr (keyB bed) a.toNat b.toNat xs ys∧Sgm (keyB bed) ys a.toNat b.toNat→k (.tup []) [.box m tb [.data (.slice (.flt .f64)) bed],.row .rw ty0 (.int .i64) ys]):Zub ty0 m tb bed xs a b k:=by
 unfold Zub
 obtain⟨bo,ha,hab,hb⟩:=h
 have mx:maxN=281474976710656:=rfl
 have hmx:=bo.2.2
 obtain⟨A,rfl⟩:∃ q:Nat,a=(q:Int):=⟨a.toNat,by omega⟩
 obtain⟨B,rfl⟩:∃ q:Nat,b=(q:Int):=⟨b.toNat,by omega⟩
 simp only[Int.toNat_natCast]at hk
 rw[Zq (x:=(A:Int)+1) (by omega) (by omega)]
 refine⟨rfl,fun x y=>∃ i:Nat,x.1=i∧A<i∧Rr (keyB bed) A B xs y.1∧Sgm (keyB bed) y.1 A i,fun x _=>B - x.1.toNat,⟨A+1,by omega,by omega,.refl _ _ _,.one (by omega)⟩,?_⟩
 rintro⟨_,⟨⟩⟩ ⟨y,⟨⟩⟩ ⟨i,rfl,hi,hr,hs⟩
 dsimp only at hr hs ⊢
 rintro _ rfl
 refine Br.intro (fun d=>?_) fun d=>?_
 rotate_left
 ·have d:B≤i:=by have d:¬ (i:Int)<B:=of_decide_eq_false d; omega
  exact hk _ ⟨hr,hs.sub (Nat.le_refl _) d⟩
 have d:i<B:=by have d:(i:Int)<B:=of_decide_eq_true d; omega
 rw[Zq (x:=(i:Int)+1) (by omega) (by omega)]
 refine⟨rfl,fun x y=>∃ j:Nat,x.1=j∧A≤j∧j≤i∧Rr (keyB bed) A B xs y.1∧InsI (keyB bed) y.1 A i j,fun x _=>x.1.toNat,⟨i,rfl,by omega,by omega,hr,.start hs⟩,?_⟩
 rintro⟨_,⟨⟩⟩ ⟨z,⟨⟩⟩ ⟨j,rfl,hj1,hj2,hz,hI⟩
 dsimp only at hz hI ⊢
 have lz:=hz.len
 have bz:=bo.perm hz.perm
 rintro _ rfl
 refine Br.intro (fun e=>?_) fun e=>?_
 rotate_left
 ·have e:j=A:=by have e:¬ (A:Int)<j:=of_decide_eq_false e; omega
  exact⟨rfl,⟨i+1,by omega,by omega,hz,hI.done hj2 (.inl e)⟩,by omega⟩
 have e:A<j:=by have e:(A:Int)<j:=of_decide_eq_true e; omega
 obtain⟨j',rfl⟩:∃ j',j=j'+1:=⟨j - 1,by omega⟩
 have w1:i64.wrap (((j'+1:Nat):Int) - 1)=(j':Int):=by rw[Zq (by omega) (by omega)]; omega
 rw[w1,Int.toNat_natCast,Int.toNat_natCast,Nat.zero_add,Nat.zero_add]
 refine⟨⟨by omega,by omega⟩,⟨by omega,by omega⟩,bz.cmp (by omega) (by omega),?_⟩
 rintro _ rfl
 rintro _ rfl
 refine Br.intro (fun c=>?_) fun c=>?_
 ·have c:keyB bed (at0 z (j'+1))<keyB bed (at0 z j'):=(Z80 _ _ _).1 (of_decide_eq_true c)
  exact⟨⟨by omega,by omega⟩,⟨by omega,by omega⟩,⟨by omega,by omega⟩,⟨by omega,by omega⟩,rfl,⟨j',rfl,by omega,by omega,hz.trans (Z1dw (i:=j') (by omega) (by omega) (by omega) c),hI.step hj2 (by omega) (by omega) c⟩,by omega⟩
 ·have c:¬ keyB bed (at0 z (j'+1))<keyB bed (at0 z j'):=fun q=>of_decide_eq_false c ((Z80 _ _ _).2 q)
  exact⟨rfl,⟨i+1,by omega,by omega,hz,hI.done hj2 (.inr ⟨e,by show keyB bed (at0 z (j'+1 - 1))≤_; rw[show j'+1 - 1=j' by omega]; omega⟩)⟩,by omega⟩
def Zuc:=fun(ty3 fn72:Nat)(md:Md)(tb N:Nat)(bed:List Nat)(xs:List Int)(a m b:Int)(k:EV→List HObj→Prop)=>∀(a_1:Bool),a_1=(i64.wrap (m
 - a)==(1:Int))→Br a_1 (HIs [HObj.box md tb [SV.data (K.flt f64).slice bed],HObj.row Md.rw ty3 (K.int i64) xs] [HObj.box md tb [SV.data (K.flt
 f64).slice bed],HObj.row Md.rw ty3 (K.int i64) xs]∧∃(I:Int × Int × Unit→Unit→Prop),∃(μ:Int × Int × Unit→Unit→Nat),I (m,b,()) ()∧∀(x:
 Int × Int × Unit) (y:Unit),I x y→∀(a_2:Bool),a_2=decide (x.fst<x.snd.fst)→Br a_2 (∃(h:(0:Int)≤(1:Int)),∃(h:(0:Int)≤i64.wrap
 ((u64.wrap (i64.wrap (x.fst+x.snd.fst))).fdiv ((2:Int) ^ Min.min (Int.toNat (1:Int)) u64.bits))∧i64.wrap ((u64.wrap
 (i64.wrap (x.fst+x.snd.fst))).fdiv ((2:Int) ^ Min.min (Int.toNat (1:Int)) u64.bits))<(↑xs.length:Int)),∃(h:(0:Int)≤a∧a<(↑xs.length:Int)),∃
 (h:WCmp (xs.getD ((0:Nat)+(i64.wrap ((u64.wrap (i64.wrap (x.fst+x.snd.fst))).fdiv ((2:Int) ^ Min.min (Int.toNat (1:Int))
 u64.bits))).toNat) (0:Int)) (xs.getD ((0:Nat)+a.toNat) (0:Int)) (some bed)),∀(a_3:Int × Unit),a_3=Zax (xs.getD ((0:Nat)+(i64.wrap
 ((u64.wrap (i64.wrap (x.fst+x.snd.fst))).fdiv ((2:Int) ^ Min.min (Int.toNat (1:Int)) u64.bits))).toNat) (0:Int)) (xs.getD ((0:Nat)+a.toNat) (0
 : Int)) (some bed)→∀(a:Bool),a=decide (a_3.fst<(0:Int))→Br a (HIs [HObj.box md tb [SV.data (K.flt f64).slice bed],HObj.row Md.rw ty3 (K.int
 i64) xs] [HObj.box md tb [SV.data (K.flt f64).slice bed],HObj.row Md.rw ty3 (K.int i64) xs]∧I (i64.wrap (i64.wrap
 ((u64.wrap (i64.wrap (x.fst+x.snd.fst))).fdiv ((2:Int) ^ Min.min (Int.toNat (1:Int)) u64.bits))+(1:Int)),x.snd.fst,()) ()∧μ (i64.wrap
 (i64.wrap ((u64.wrap (i64.wrap (x.fst+x.snd.fst))).fdiv ((2:Int) ^ Min.min (Int.toNat (1:Int)) u64.bits))+(1:Int)),x.snd.fst,()) ()<μ
 x y) (HIs [HObj.box md tb [SV.data (K.flt f64).slice bed],HObj.row Md.rw ty3 (K.int i64) xs] [HObj.box md tb [SV.data (K.flt f64).slice bed],
 HObj.row Md.rw ty3 (K.int i64) xs]∧I (x.fst,i64.wrap ((u64.wrap (i64.wrap (x.fst+x.snd.fst))).fdiv ((2:Int) ^ Min.min (Int.toNat (1:Int))
 u64.bits)),()) ()∧μ (x.fst,i64.wrap ((u64.wrap (i64.wrap (x.fst+x.snd.fst))).fdiv ((2:Int) ^ Min.min (Int.toNat (1:Int))
 u64.bits)),()) ()<μ x y)) (HIs [HObj.box md tb [SV.data (K.flt f64).slice bed],HObj.row Md.rw ty3 (K.int i64) xs] [HObj.box md tb [SV.data (K.flt
 f64).slice bed],HObj.row Md.rw ty3 (K.int i64) xs]∧∃(I:Int × Unit→List Int × Unit→Prop),∃(μ:Int × Unit→List Int × Unit→Nat),I (a,()) (xs,
 ())∧∀(x_3:Int × Unit)(y:List Int × Unit),I x_3 y→∀(a:Bool),a=decide (x_3.fst<i64.wrap (x.fst - (1:Int)))→Br a (∃(h:(0:Int)≤i64.wrap
 (x_3.fst+(1:Int))∧i64.wrap (x_3.fst+(1:Int))<(↑xs.length:Int)),∃(h:(0:Int)≤x_3.fst∧x_3.fst<(↑xs.length:Int)),∃(h:(0:Int)≤x_3.fst∧
 x_3.fst<(↑xs.length:Int)),∃(h:(0:Int)≤i64.wrap (x_3.fst+(1:Int))∧i64.wrap (x_3.fst+(1:Int))<(↑xs.length:Int)),HIs [HObj.box md tb
 [SV.data (K.flt f64).slice bed],HObj.row Md.rw ty3 (K.int i64) ((y.fst.set ((0:Nat)+x_3.fst.toNat) (y.fst.getD ((0:Nat)+(i64.wrap (x_3.fst+
 (1:Int))).toNat) (0:Int))).set ((0:Nat)+(i64.wrap (x_3.fst+(1:Int))).toNat) (y.fst.getD ((0:Nat)+x_3.fst.toNat) (0:Int)))] [HObj.box md tb [SV.data
 (K.flt f64).slice bed],HObj.row Md.rw ty3 (K.int i64) ((y.fst.set ((0:Nat)+x_3.fst.toNat) (y.fst.getD ((0:Nat)+(i64.wrap (x_3.fst+(1:
 Int))).toNat) (0:Int))).set ((0:Nat)+(i64.wrap (x_3.fst+(1:Int))).toNat) (y.fst.getD ((0:Nat)+x_3.fst.toNat) (0:Int)))]∧I (i64.wrap (x_3.fst+(1
 : Int)),()) ((y.fst.set ((0:Nat)+x_3.fst.toNat) (y.fst.getD ((0:Nat)+(i64.wrap (x_3.fst+(1:Int))).toNat) (0:Int))).set ((0:Nat)+(i64.wrap
 (x_3.fst+(1:Int))).toNat) (y.fst.getD ((0:Nat)+x_3.fst.toNat) (0:Int)),())∧μ (i64.wrap (x_3.fst+(1:Int)),()) ((y.fst.set ((0:Nat)+x_3.fst.toNat)
 (y.fst.getD ((0:Nat)+(i64.wrap (x_3.fst+(1:Int))).toNat) (0:Int))).set ((0:Nat)+(i64.wrap (x_3.fst+(1:Int))).toNat) (y.fst.getD ((0:Nat)+
 x_3.fst.toNat) (0:Int)),())<μ x_3 y) (k (EV.tup []) [HObj.box md tb [SV.data (K.flt f64).slice bed],HObj.row Md.rw ty3 (K.int i64) y.fst]))) (∀(a_2:
 Bool),a_2=(i64.wrap (b - m)==(1:Int))→Br a_2 (HIs [HObj.box md tb [SV.data (K.flt f64).slice bed],HObj.row Md.rw ty3 (K.int i64) xs]
 [HObj.box md tb [SV.data (K.flt f64).slice bed],HObj.row Md.rw ty3 (K.int i64) xs]∧∃(I:Int × Int × Unit→Unit→Prop),∃(μ:Int × Int × Unit→Unit→
 Nat),I (a,m,()) ()∧∀(x:Int × Int × Unit)(y:Unit),I x y→∀(a:Bool),a=decide (x.fst<x.snd.fst)→Br a (∃(h:(0:Int)≤(1:Int)),∃(h:(0:Int)≤m∧m <
 (↑xs.length:Int)),∃(h:(0:Int)≤i64.wrap ((u64.wrap (i64.wrap (x.fst+x.snd.fst))).fdiv ((2:Int) ^ Min.min (Int.toNat (1:Int))
 u64.bits))∧i64.wrap ((u64.wrap (i64.wrap (x.fst+x.snd.fst))).fdiv ((2:Int) ^ Min.min (Int.toNat (1:Int)) u64.bits))<(↑xs.length:
 Int)),∃(h:WCmp (xs.getD ((0:Nat)+m.toNat) (0:Int)) (xs.getD ((0:Nat)+(i64.wrap ((u64.wrap (i64.wrap (x.fst+x.snd.fst))).fdiv ((2:Int) ^
 Min.min (Int.toNat (1:Int)) u64.bits))).toNat) (0:Int)) (some bed)),∀(a:Int × Unit),a=Zax (xs.getD ((0:Nat)+m.toNat) (0:Int)) (xs.getD ((0:Nat)
 + (i64.wrap ((u64.wrap (i64.wrap (x.fst+x.snd.fst))).fdiv ((2:Int) ^ Min.min (Int.toNat (1:Int)) u64.bits))).toNat) (0:Int)) (some
 bed)→∀(a_3:Bool),a_3=decide (a.fst<(0:Int))→Br (!a_3) (HIs [HObj.box md tb [SV.data (K.flt f64).slice bed],HObj.row Md.rw ty3 (K.int i64) xs]
 [HObj.box md tb [SV.data (K.flt f64).slice bed],HObj.row Md.rw ty3 (K.int i64) xs]∧I (i64.wrap (i64.wrap ((u64.wrap
 (i64.wrap (x.fst+x.snd.fst))).fdiv ((2:Int) ^ Min.min (Int.toNat (1:Int)) u64.bits))+(1:Int)),x.snd.fst,()) ()∧μ (i64.wrap (i64.wrap
 ((u64.wrap (i64.wrap (x.fst+x.snd.fst))).fdiv ((2:Int) ^ Min.min (Int.toNat (1:Int)) u64.bits))+(1:Int)),x.snd.fst,()) ()<μ x y) (HIs
 [HObj.box md tb [SV.data (K.flt f64).slice bed],HObj.row Md.rw ty3 (K.int i64) xs] [HObj.box md tb [SV.data (K.flt f64).slice bed],HObj.row
 Md.rw ty3 (K.int i64) xs]∧I (x.fst,i64.wrap ((u64.wrap (i64.wrap (x.fst+x.snd.fst))).fdiv ((2:Int) ^ Min.min (Int.toNat (1:Int))
 u64.bits)),()) ()∧μ (x.fst,i64.wrap ((u64.wrap (i64.wrap (x.fst+x.snd.fst))).fdiv ((2:Int) ^ Min.min (Int.toNat (1:Int))
 u64.bits)),()) ()<μ x y)) (HIs [HObj.box md tb [SV.data (K.flt f64).slice bed],HObj.row Md.rw ty3 (K.int i64) xs] [HObj.box md tb [SV.data (K.flt
 f64).slice bed],HObj.row Md.rw ty3 (K.int i64) xs]∧∃(I:Int × Unit→List Int × Unit→Prop),∃(μ:Int × Unit→List Int × Unit→Nat),I (m,()) (xs,
 ())∧∀(x_3:Int × Unit)(y:List Int × Unit),I x_3 y→∀(a:Bool),a=decide (x_3.fst > x.fst)→Br a (∃(h:(0:Int)≤i64.wrap (x_3.fst - (1:Int))∧
 i64.wrap (x_3.fst - (1:Int))<(↑xs.length:Int)),∃(h:(0:Int)≤x_3.fst∧x_3.fst<(↑xs.length:Int)),∃(h:(0:Int)≤x_3.fst∧x_3.fst<(↑xs.length:
 Int)),∃(h:(0:Int)≤i64.wrap (x_3.fst - (1:Int))∧i64.wrap (x_3.fst - (1:Int))<(↑xs.length:Int)),HIs [HObj.box md tb [SV.data (K.flt
 f64).slice bed],HObj.row Md.rw ty3 (K.int i64) ((y.fst.set ((0:Nat)+x_3.fst.toNat) (y.fst.getD ((0:Nat)+(i64.wrap (x_3.fst - (1:
 Int))).toNat) (0:Int))).set ((0:Nat)+(i64.wrap (x_3.fst - (1:Int))).toNat) (y.fst.getD ((0:Nat)+x_3.fst.toNat) (0:Int)))] [HObj.box md tb [SV.data (K.flt
 f64).slice bed],HObj.row Md.rw ty3 (K.int i64) ((y.fst.set ((0:Nat)+x_3.fst.toNat) (y.fst.getD ((0:Nat)+(i64.wrap (x_3.fst - (1:
 Int))).toNat) (0:Int))).set ((0:Nat)+(i64.wrap (x_3.fst - (1:Int))).toNat) (y.fst.getD ((0:Nat)+x_3.fst.toNat) (0:Int)))]∧I (i64.wrap (x_3.fst - (1
 : Int)),()) ((y.fst.set ((0:Nat)+x_3.fst.toNat) (y.fst.getD ((0:Nat)+(i64.wrap (x_3.fst - (1:Int))).toNat) (0:Int))).set ((0:Nat)+(i64.wrap
 (x_3.fst - (1:Int))).toNat) (y.fst.getD ((0:Nat)+x_3.fst.toNat) (0:Int)),())∧μ (i64.wrap (x_3.fst - (1:Int)),()) ((y.fst.set ((0:Nat)+x_3.fst.toNat)
 (y.fst.getD ((0:Nat)+(i64.wrap (x_3.fst - (1:Int))).toNat) (0:Int))).set ((0:Nat)+(i64.wrap (x_3.fst - (1:Int))).toNat) (y.fst.getD ((0:Nat)+
 x_3.fst.toNat) (0:Int)),())<μ x_3 y) (k (EV.tup []) [HObj.box md tb [SV.data (K.flt f64).slice bed],HObj.row Md.rw ty3 (K.int i64) y.fst]))) (∃(h:(0
 : Int)≤(1:Int)),∃(post:Int × Int × Unit→Unit→Prop),(∀(a_3:Bool),a_3=decide (m > i64.wrap ((u64.wrap (i64.wrap (a+b))).fdiv ((2:Int)
 ^ Min.min (Int.toNat (1:Int)) u64.bits)))→Br a_3 (HIs [HObj.box md tb [SV.data (K.flt f64).slice bed],HObj.row Md.rw ty3 (K.int i64) xs]
 [HObj.box md tb [SV.data (K.flt f64).slice bed],HObj.row Md.rw ty3 (K.int i64) xs]∧post (i64.wrap (i64.wrap (i64.wrap
 ((u64.wrap (i64.wrap (a+b))).fdiv ((2:Int) ^ Min.min (Int.toNat (1:Int)) u64.bits))+m) - b),i64.wrap ((u64.wrap (i64.wrap
 (a+b))).fdiv ((2:Int) ^ Min.min (Int.toNat (1:Int)) u64.bits)),()) ()) (HIs [HObj.box md tb [SV.data (K.flt f64).slice bed],HObj.row Md.rw ty3 (K.int
 i64) xs] [HObj.box md tb [SV.data (K.flt f64).slice bed],HObj.row Md.rw ty3 (K.int i64) xs]∧post (a,m,()) ()))∧∀(x:Int × Int × Unit)(y:
 Unit),post x y→HIs [HObj.box md tb [SV.data (K.flt f64).slice bed],HObj.row Md.rw ty3 (K.int i64) xs] [HObj.box md tb [SV.data (K.flt
 f64).slice bed],HObj.row Md.rw ty3 (K.int i64) xs]∧∃(I:Int × Int × Unit→Unit→Prop),∃(μ:Int × Int × Unit→Unit→Nat),I (x.fst,x.snd.fst,())
 ()∧∀(x:Int × Int × Unit)(y:Unit),I x y→∀(a_3:Bool),a_3=decide (x.fst<x.snd.fst)→Br a_3 (∃(h:(0:Int)≤(1:Int)),∃(h:(0:Int)≤i64.wrap
 (i64.wrap (i64.wrap (i64.wrap ((u64.wrap (i64.wrap (a+b))).fdiv ((2:Int) ^ Min.min (Int.toNat (1:Int)) u64.bits))+m) - (1:
 Int)) - i64.wrap ((u64.wrap (i64.wrap (x.fst+x.snd.fst))).fdiv ((2:Int) ^ Min.min (Int.toNat (1:Int)) u64.bits)))∧i64.wrap
 (i64.wrap (i64.wrap (i64.wrap ((u64.wrap (i64.wrap (a+b))).fdiv ((2:Int) ^ Min.min (Int.toNat (1:Int)) u64.bits))+m) - (1:
 Int)) - i64.wrap ((u64.wrap (i64.wrap (x.fst+x.snd.fst))).fdiv ((2:Int) ^ Min.min (Int.toNat (1:Int)) u64.bits)))<(↑xs.length:Int)),∃(h
 : (0:Int)≤i64.wrap ((u64.wrap (i64.wrap (x.fst+x.snd.fst))).fdiv ((2:Int) ^ Min.min (Int.toNat (1:Int)) u64.bits))∧i64.wrap
 ((u64.wrap (i64.wrap (x.fst+x.snd.fst))).fdiv ((2:Int) ^ Min.min (Int.toNat (1:Int)) u64.bits))<(↑xs.length:Int)),∃(h:WCmp (xs.getD ((0:
 Nat)+(i64.wrap (i64.wrap (i64.wrap (i64.wrap ((u64.wrap (i64.wrap (a+b))).fdiv ((2:Int) ^ Min.min (Int.toNat (1:Int))
 u64.bits))+m) - (1:Int)) - i64.wrap ((u64.wrap (i64.wrap (x.fst+x.snd.fst))).fdiv ((2:Int) ^ Min.min (Int.toNat (1:Int))
 u64.bits)))).toNat) (0:Int)) (xs.getD ((0:Nat)+(i64.wrap ((u64.wrap (i64.wrap (x.fst+x.snd.fst))).fdiv ((2:Int) ^ Min.min (Int.toNat (1:
 Int)) u64.bits))).toNat) (0:Int)) (some bed)),∀(a_4:Int × Unit),a_4=Zax (xs.getD ((0:Nat)+(i64.wrap (i64.wrap (i64.wrap
 (i64.wrap ((u64.wrap (i64.wrap (a+b))).fdiv ((2:Int) ^ Min.min (Int.toNat (1:Int)) u64.bits))+m) - (1:Int)) - i64.wrap
 ((u64.wrap (i64.wrap (x.fst+x.snd.fst))).fdiv ((2:Int) ^ Min.min (Int.toNat (1:Int)) u64.bits)))).toNat) (0:Int)) (xs.getD ((0:Nat)+
 (i64.wrap ((u64.wrap (i64.wrap (x.fst+x.snd.fst))).fdiv ((2:Int) ^ Min.min (Int.toNat (1:Int)) u64.bits))).toNat) (0:Int)) (some
 bed)→∀(a:Bool),a=decide (a_4.fst<(0:Int))→Br (!a) (HIs [HObj.box md tb [SV.data (K.flt f64).slice bed],HObj.row Md.rw ty3 (K.int i64) xs]
 [HObj.box md tb [SV.data (K.flt f64).slice bed],HObj.row Md.rw ty3 (K.int i64) xs]∧I (i64.wrap (i64.wrap ((u64.wrap
 (i64.wrap (x.fst+x.snd.fst))).fdiv ((2:Int) ^ Min.min (Int.toNat (1:Int)) u64.bits))+(1:Int)),x.snd.fst,()) ()∧μ (i64.wrap (i64.wrap
 ((u64.wrap (i64.wrap (x.fst+x.snd.fst))).fdiv ((2:Int) ^ Min.min (Int.toNat (1:Int)) u64.bits))+(1:Int)),x.snd.fst,()) ()<μ x y) (HIs
 [HObj.box md tb [SV.data (K.flt f64).slice bed],HObj.row Md.rw ty3 (K.int i64) xs] [HObj.box md tb [SV.data (K.flt f64).slice bed],HObj.row
 Md.rw ty3 (K.int i64) xs]∧I (x.fst,i64.wrap ((u64.wrap (i64.wrap (x.fst+x.snd.fst))).fdiv ((2:Int) ^ Min.min (Int.toNat (1:Int))
 u64.bits)),()) ()∧μ (x.fst,i64.wrap ((u64.wrap (i64.wrap (x.fst+x.snd.fst))).fdiv ((2:Int) ^ Min.min (Int.toNat (1:Int))
 u64.bits)),()) ()<μ x y)) (∃(post:Unit→List Int × Unit→Prop),(∀(a_4:Bool),a_4=decide (x.fst<m)→Br a_4 (∀(a_5:Bool),a_5=decide (m <
 i64.wrap (i64.wrap (i64.wrap ((u64.wrap (i64.wrap (a+b))).fdiv ((2:Int) ^ Min.min (Int.toNat (1:Int)) u64.bits))+m) -
 x.fst))→Br a_5 (∃(x_6:(ty3=ty3)∧xs.length=xs.length∧xs.length≤maxN∧(0:Int)≤x.fst∧x.fst<m∧m<i64.wrap (i64.wrap (i64.wrap
 ((u64.wrap (i64.wrap (a+b))).fdiv ((2:Int) ^ Min.min (Int.toNat (1:Int)) u64.bits))+m) - x.fst)∧i64.wrap (i64.wrap
 (i64.wrap ((u64.wrap (i64.wrap (a+b))).fdiv ((2:Int) ^ Min.min (Int.toNat (1:Int)) u64.bits))+m) - x.fst)≤(↑xs.length:Int)),∀(ys:
 List Int),ys=Z3k xs (rotI x.fst.toNat m.toNat (i64.wrap (i64.wrap (i64.wrap ((u64.wrap (i64.wrap (a+b))).fdiv ((2:Int) ^ Min.min
 (Int.toNat (1:Int)) u64.bits))+m) - x.fst)).toNat)∧ys.Perm xs→HIs [HObj.box md tb [SV.data (K.flt f64).slice bed],HObj.row Md.rw ty3 (K.int
 i64) ys] [HObj.box md tb [SV.data (K.flt f64).slice bed],HObj.row Md.rw ty3 (K.int i64) ys]∧post () (ys,())) (HIs [HObj.box md tb [SV.data (K.flt
 f64).slice bed],HObj.row Md.rw ty3 (K.int i64) xs] [HObj.box md tb [SV.data (K.flt f64).slice bed],HObj.row Md.rw ty3 (K.int i64) xs]∧
 post () (xs,()))) (HIs [HObj.box md tb [SV.data (K.flt f64).slice bed],HObj.row Md.rw ty3 (K.int i64) xs] [HObj.box md tb [SV.data (K.flt
 f64).slice bed],HObj.row Md.rw ty3 (K.int i64) xs]∧post () (xs,())))∧∀(x_4:Unit)(y:List Int × Unit),post x_4 y→∃(post:Unit→List Int × Unit
 → Prop),(∀(a_4:Bool),a_4=decide (a<x.fst)→Br a_4 (∀(a_5:Bool),a_5=decide (x.fst<i64.wrap ((u64.wrap (i64.wrap (a+b))).fdiv ((2:Int)
 ^ Min.min (Int.toNat (1:Int)) u64.bits)))→Br a_5 (∃(x:(ty3=ty3)∧(fn72=fn72)∧xs.length=y.fst.length∧Z47 bed y.fst∧(0:Int)≤a∧a<x.fst∧x.fst <
 i64.wrap ((u64.wrap (i64.wrap (a+b))).fdiv ((2:Int) ^ Min.min (Int.toNat (1:Int)) u64.bits))∧i64.wrap ((u64.wrap
 (i64.wrap (a+b))).fdiv ((2:Int) ^ Min.min (Int.toNat (1:Int)) u64.bits))≤(↑y.fst.length:Int)∧(i64.wrap ((u64.wrap (i64.wrap (a
 + b))).fdiv ((2:Int) ^ Min.min (Int.toNat (1:Int)) u64.bits)) - a).toNat<N∧Sgm (keyB bed) y.fst a.toNat x.fst.toNat∧Sgm (keyB bed) y.fst x.fst.toNat
 (i64.wrap ((u64.wrap (i64.wrap (a+b))).fdiv ((2:Int) ^ Min.min (Int.toNat (1:Int)) u64.bits))).toNat),∀(ys:List Int),Rr (keyB bed)
 a.toNat (i64.wrap ((u64.wrap (i64.wrap (a+b))).fdiv ((2:Int) ^ Min.min (Int.toNat (1:Int)) u64.bits))).toNat y.fst ys∧Sgm (keyB bed) ys
 a.toNat (i64.wrap ((u64.wrap (i64.wrap (a+b))).fdiv ((2:Int) ^ Min.min (Int.toNat (1:Int)) u64.bits))).toNat→HIs [HObj.box md tb [SV.data
 (K.flt f64).slice bed],HObj.row Md.rw ty3 (K.int i64) ys] [HObj.box md tb [SV.data (K.flt f64).slice bed],HObj.row Md.rw ty3 (K.int
 i64) ys]∧post () (ys,())) (HIs [HObj.box md tb [SV.data (K.flt f64).slice bed],HObj.row Md.rw ty3 (K.int i64) y.fst] [HObj.box md tb [SV.data
 (K.flt f64).slice bed],HObj.row Md.rw ty3 (K.int i64) y.fst]∧post () (y.fst,()))) (HIs [HObj.box md tb [SV.data (K.flt f64).slice bed],
 HObj.row Md.rw ty3 (K.int i64) y.fst] [HObj.box md tb [SV.data (K.flt f64).slice bed],HObj.row Md.rw ty3 (K.int i64) y.fst]∧post () (y.fst,())))∧
 ∀(x_6:Unit)(y:List Int × Unit),post x_6 y→∀(a_4:Bool),a_4=decide (i64.wrap ((u64.wrap (i64.wrap (a+b))).fdiv ((2:Int) ^ Min.min
 (Int.toNat (1:Int)) u64.bits))<i64.wrap (i64.wrap (i64.wrap ((u64.wrap (i64.wrap (a+b))).fdiv ((2:Int) ^ Min.min (Int.toNat
 (1:Int)) u64.bits))+m) - x.fst))→Br a_4 (∀(a_5:Bool),a_5=decide (i64.wrap (i64.wrap (i64.wrap ((u64.wrap (i64.wrap (a+
 b))).fdiv ((2:Int) ^ Min.min (Int.toNat (1:Int)) u64.bits))+m) - x.fst)<b)→Br a_5 (∃(x:(ty3=ty3)∧(fn72=fn72)∧xs.length=y.fst.length∧Z47 bed
 y.fst∧(0:Int)≤i64.wrap ((u64.wrap (i64.wrap (a+b))).fdiv ((2:Int) ^ Min.min (Int.toNat (1:Int)) u64.bits))∧i64.wrap
 ((u64.wrap (i64.wrap (a+b))).fdiv ((2:Int) ^ Min.min (Int.toNat (1:Int)) u64.bits))<i64.wrap (i64.wrap (i64.wrap
 ((u64.wrap (i64.wrap (a+b))).fdiv ((2:Int) ^ Min.min (Int.toNat (1:Int)) u64.bits))+m) - x.fst)∧i64.wrap (i64.wrap
 (i64.wrap ((u64.wrap (i64.wrap (a+b))).fdiv ((2:Int) ^ Min.min (Int.toNat (1:Int)) u64.bits))+m) - x.fst)<b∧b≤(↑y.fst.length:Int)∧
 (b - i64.wrap ((u64.wrap (i64.wrap (a+b))).fdiv ((2:Int) ^ Min.min (Int.toNat (1:Int)) u64.bits))).toNat<N∧Sgm (keyB bed) y.fst
 (i64.wrap ((u64.wrap (i64.wrap (a+b))).fdiv ((2:Int) ^ Min.min (Int.toNat (1:Int)) u64.bits))).toNat (i64.wrap (i64.wrap
 (i64.wrap ((u64.wrap (i64.wrap (a+b))).fdiv ((2:Int) ^ Min.min (Int.toNat (1:Int)) u64.bits))+m) - x.fst)).toNat∧Sgm (keyB bed) y.fst
 (i64.wrap (i64.wrap (i64.wrap ((u64.wrap (i64.wrap (a+b))).fdiv ((2:Int) ^ Min.min (Int.toNat (1:Int)) u64.bits))+m) -
 x.fst)).toNat b.toNat),∀(ys:List Int),Rr (keyB bed) (i64.wrap ((u64.wrap (i64.wrap (a+b))).fdiv ((2:Int) ^ Min.min (Int.toNat (1:Int))
 u64.bits))).toNat b.toNat y.fst ys∧Sgm (keyB bed) ys (i64.wrap ((u64.wrap (i64.wrap (a+b))).fdiv ((2:Int) ^ Min.min (Int.toNat (1:Int))
 u64.bits))).toNat b.toNat→k (EV.tup []) [HObj.box md tb [SV.data (K.flt f64).slice bed],HObj.row Md.rw ty3 (K.int i64) ys]) (k (EV.tup [])
 [HObj.box md tb [SV.data (K.flt f64).slice bed],HObj.row Md.rw ty3 (K.int i64) y.fst])) (k (EV.tup []) [HObj.box md tb [SV.data (K.flt
 f64).slice bed],HObj.row Md.rw ty3 (K.int i64) y.fst]))))
theorem Z1p0(ty0 ty1:Nat)(md:Md)(tb N:Nat)(bed:List Nat)(xs:List Int)(a m b:Int)(k:EV→List HObj→Prop)(h:Z47 bed xs∧0≤a∧a<m∧m<b∧b≤(List.length xs:Int)∧(b - a).toNat<N+1∧Sgm (keyB bed) xs a.toNat m.toNat∧Sgm (keyB bed) xs m.toNat b.toNat)(hk:∀ ys:List Int,Rr (keyB bed) a.toNat b.toNat xs ys∧Sgm (keyB bed) ys a.toNat b.toNat→k (.tup []) [.box md tb [.data (.slice (.flt .f64)) bed],.row .rw ty0 (.int .i64) ys]):Zuc ty0 ty1 md tb N bed xs a m b k:=by
 unfold Zuc
 obtain⟨bo,ha,ham,hmb,hb,hN,hs1,hs2⟩:=h
 have mx:maxN=281474976710656:=rfl
 have hmx:=bo.2.2
 obtain⟨A,rfl⟩:∃ q:Nat,a=(q:Int):=⟨a.toNat,by omega⟩
 obtain⟨M,rfl⟩:∃ q:Nat,m=(q:Int):=⟨m.toNat,by omega⟩
 obtain⟨B,rfl⟩:∃ q:Nat,b=(q:Int):=⟨b.toNat,by omega⟩
 simp only[Int.toNat_natCast]at hk hs1 hs2
 have ham:A<M:=by omega
 have hmb:M<B:=by omega
 have hb:B≤xs.length:=by omega
 have wsub:∀ u v:Nat,v≤u→u≤2*xs.length→i64.wrap ((u:Int) - v)=((u - v:Nat):Int):=fun u v h1 h2=>by rw[Zq (by omega) (by omega)]; omega
 have whalf:∀ u v:Nat,u≤xs.length→v≤xs.length→i64.wrap ((u64.wrap (i64.wrap ((u:Int)+v))).fdiv (2 ^ Min.min (Int.toNat 1) u64.bits))=(((u+v) / 2:Nat):Int):=fun u v h1 h2=>by
  rw[Z1nn (by omega) (by omega)]; omega
 have wadd:∀ u:Nat,u≤xs.length→i64.wrap ((u:Int)+1)=((u+1:Nat):Int):=fun u h1=>by rw[Zq (by omega) (by omega)]; omega
 rw[wsub M A (by omega) (by omega),wsub B M (by omega) (by omega),whalf A B (by omega) (by omega)]
 have wdec:∀ u:Nat,1≤u→u≤2*xs.length→i64.wrap ((u:Int) - 1)=((u - 1:Nat):Int):=fun u h1 h2=>by rw[Zq (by omega) (by omega)]; omega
 have dle:∀ u v:Nat,decide ((u:Int)<v)=true→u<v:=fun u v d=>by have d:(u:Int)<v:=of_decide_eq_true d; omega
 have dge:∀ u v:Nat,decide ((u:Int)<v)=false→v≤u:=fun u v d=>by have d:¬ (u:Int)<v:=of_decide_eq_false d; omega
 rintro _ rfl
 refine Br.intro (fun e=>?_) fun e=>?_
 ·have e:M=A+1:=by
   have e:((M - A:Nat):Int)=1:=by simpa using e
   omega
  refine⟨rfl,fun x _=>∃ i j:Nat,x.1=i∧x.2.1=j∧M≤i∧i≤j∧j≤B∧(∀ p,M≤p→p<i→keyB bed (at0 xs p)<keyB bed (at0 xs A))∧(∀ p,j≤p→p<B→keyB bed (at0 xs A)≤keyB bed (at0 xs p)),fun x _=>(x.2.1 - x.1).toNat,⟨M,B,rfl,rfl,by omega,by omega,by omega,fun p h1 h2=>by omega,fun p h1 h2=>by omega⟩,?_⟩
  rintro⟨_,_,⟨⟩⟩ _ ⟨i,j,rfl,rfl,h1,h2,h3,hlo,hhi⟩
  dsimp only
  rintro _ rfl
  refine Br.intro (fun d=>?_) fun d=>?_
  ·have d:=dle _ _ d
   obtain⟨c,hc⟩:∃ c,(i+j) / 2=c:=⟨_,rfl⟩
   rw[whalf i j (by omega) (by omega),hc,Int.toNat_natCast,Int.toNat_natCast,Nat.zero_add,Nat.zero_add,wadd c (by omega)]
   refine⟨by decide,⟨by omega,by omega⟩,⟨by omega,by omega⟩,bo.cmp (by omega) (by omega),?_⟩
   rintro _ rfl
   rintro _ rfl
   refine Br.intro (fun q=>?_) fun q=>?_
   ·have q:keyB bed (at0 xs c)<keyB bed (at0 xs A):=(Z80 _ _ _).1 (of_decide_eq_true q)
    refine⟨rfl,⟨c+1,j,rfl,rfl,by omega,by omega,h3,fun p h1 h2=>?_,hhi⟩,by omega⟩
    have:=Zee hs2 (i:=p) (j:=c) h1 (by omega) (by omega)
    omega
   ·have q:¬ keyB bed (at0 xs c)<keyB bed (at0 xs A):=fun w=>of_decide_eq_false q ((Z80 _ _ _).2 w)
    refine⟨rfl,⟨i,c,rfl,rfl,h1,by omega,by omega,hlo,fun p h1 h2=>?_⟩,by omega⟩
    have:=Zee hs2 (i:=c) (j:=p) (by omega) (by omega) (by omega)
    omega
  have d:=dge _ _ d
  have ij:i=j:=by omega
  subst ij
  refine⟨rfl,fun x y=>∃ k:Nat,x.1=k∧A≤k∧k≤i - 1∧Rr (keyB bed) A B xs y.1∧ShU xs y.1 A k,fun x _=>i - 1 - x.1.toNat,⟨A,rfl,by omega,by omega,.refl _ _ _,.start _ _⟩,?_⟩
  rintro⟨_,⟨⟩⟩ ⟨y,⟨⟩⟩ ⟨k,rfl,k1,k2,hr,hu⟩
  dsimp only at hr hu ⊢
  have ly:=hr.len
  rw[wdec i (by omega) (by omega)]
  rintro _ rfl
  refine Br.intro (fun d=>?_) fun d=>?_
  ·have d:=dle _ _ d
   rw[wadd k (by omega),Int.toNat_natCast,Int.toNat_natCast,Nat.zero_add,Nat.zero_add]
   have q:keyB bed (at0 y (k+1))<keyB bed (at0 y k):=by
    rw[hu (k+1),hu k,if_neg (by omega),if_neg (by omega),if_neg (by omega),if_pos rfl]
    exact hlo _ (by omega) (by omega)
   have hst:(y.set k (at0 y (k+1))).set (k+1) (at0 y k)=swp y (k+1) k:=Z1qi (by omega)
   refine⟨⟨by omega,by omega⟩,⟨by omega,by omega⟩,⟨by omega,by omega⟩,⟨by omega,by omega⟩,rfl,⟨k+1,rfl,by omega,by omega,?_,?_⟩,by omega⟩
   ·show Rr (keyB bed) A B xs ((y.set k (at0 y (k+1))).set (k+1) (at0 y k))
    rw[hst]; exact hr.trans (Z1dw (by omega) (by omega) (by omega) q)
   ·show ShU xs ((y.set k (at0 y (k+1))).set (k+1) (at0 y k)) A (k+1)
    rw[hst]; exact hu.step ly (by omega) (by omega)
  have d:=dge _ _ d
  have ek:k=i - 1:=by omega
  subst ek
  exact hk _ ⟨hr,hu.done (by omega) h3 (by rw[← e]; exact hs2) (fun p h1 h2=>hlo p (by omega) h2) hhi⟩
 rintro _ rfl
 refine Br.intro (fun e2=>?_) fun e2=>?_
 ·have e2:B=M+1:=by
   have e2:((B - M:Nat):Int)=1:=by simpa using e2
   omega
  refine⟨rfl,fun x _=>∃ i j:Nat,x.1=i∧x.2.1=j∧A≤i∧i≤j∧j≤M∧(∀ p,A≤p→p<i→keyB bed (at0 xs p)≤keyB bed (at0 xs M))∧(∀ p,j≤p→p<M→keyB bed (at0 xs M)<keyB bed (at0 xs p)),fun x _=>(x.2.1 - x.1).toNat,⟨A,M,rfl,rfl,by omega,by omega,by omega,fun p h1 h2=>by omega,fun p h1 h2=>by omega⟩,?_⟩
  rintro⟨_,_,⟨⟩⟩ _ ⟨i,j,rfl,rfl,h1,h2,h3,hlo,hhi⟩
  dsimp only
  rintro _ rfl
  refine Br.intro (fun d=>?_) fun d=>?_
  ·have d:=dle _ _ d
   obtain⟨c,hc⟩:∃ c,(i+j) / 2=c:=⟨_,rfl⟩
   rw[whalf i j (by omega) (by omega),hc,Int.toNat_natCast,Int.toNat_natCast,Nat.zero_add,Nat.zero_add,wadd c (by omega)]
   refine⟨by decide,⟨by omega,by omega⟩,⟨by omega,by omega⟩,bo.cmp (by omega) (by omega),?_⟩
   rintro _ rfl
   rintro _ rfl
   refine Br.intro (fun q=>?_) fun q=>?_
   ·have q:¬ keyB bed (at0 xs M)<keyB bed (at0 xs c):=fun w=>by
     have:decide ((Zax (at0 xs M) (at0 xs c) (some bed)).fst<0)=true:=decide_eq_true ((Z80 _ _ _).2 w)
     unfold at0 at this
     rw[this]at q; exact absurd q (by decide)
    refine⟨rfl,⟨c+1,j,rfl,rfl,by omega,by omega,h3,fun p h1 h2=>?_,hhi⟩,by omega⟩
    have:=Zee hs1 (i:=p) (j:=c) h1 (by omega) (by omega)
    omega
   ·have q:keyB bed (at0 xs M)<keyB bed (at0 xs c):=(Z80 _ _ _).1 (by
     have q:decide ((Zax (at0 xs M) (at0 xs c) (some bed)).fst<0)=true:=by simpa using q
     exact of_decide_eq_true q)
    refine⟨rfl,⟨i,c,rfl,rfl,h1,by omega,by omega,hlo,fun p h1 h2=>?_⟩,by omega⟩
    have:=Zee hs1 (i:=c) (j:=p) (by omega) (by omega) (by omega)
    omega
  have d:=dge _ _ d
  have ij:i=j:=by omega
  subst ij
  refine⟨rfl,fun x y=>∃ k:Nat,x.1=k∧i≤k∧k≤M∧Rr (keyB bed) A B xs y.1∧ShD xs y.1 M k,fun x _=>x.1.toNat,⟨M,rfl,by omega,by omega,.refl _ _ _,.start _ _⟩,?_⟩
  rintro⟨_,⟨⟩⟩ ⟨y,⟨⟩⟩ ⟨k,rfl,k1,k2,hr,hu⟩
  dsimp only at hr hu ⊢
  have ly:=hr.len
  rintro _ rfl
  refine Br.intro (fun d=>?_) fun d=>?_
  ·have d:=dle _ _ d
   obtain⟨k',rfl⟩:∃ k',k=k'+1:=⟨k - 1,by omega⟩
   rw[wdec (k'+1) (by omega) (by omega),show k'+1 - 1=k' by omega,Int.toNat_natCast,Int.toNat_natCast,Nat.zero_add,Nat.zero_add]
   have q:keyB bed (at0 y (k'+1))<keyB bed (at0 y k'):=by
    rw[hu (k'+1),hu k',if_neg (by omega),if_pos rfl,if_neg (by omega),if_neg (by omega)]
    exact hhi _ (by omega) (by omega)
   exact⟨⟨by omega,by omega⟩,⟨by omega,by omega⟩,⟨by omega,by omega⟩,⟨by omega,by omega⟩,rfl,⟨k',rfl,by omega,by omega,hr.trans (Z1dw (by omega) (by omega) (by omega) q),hu.step ly (by omega) (by omega)⟩,by omega⟩
  have d:=dge _ _ d
  have ek:k=i:=by omega
  subst ek
  rw[e2]at hk
  rw[e2]at hr
  exact hk _ ⟨hr,hu.done h1 h3 hs1 hlo hhi⟩
 obtain⟨mid,hm⟩:∃ mid,mid=(A+B) / 2:=⟨_,rfl⟩
 rw[← hm]
 refine⟨by decide,fun x _=>∃ s0 r0:Nat,x.1=s0∧x.2.1=r0∧((M > mid∧s0+B=mid+M∧r0=mid)∨(M≤mid∧s0=A∧r0=M)),?_,?_⟩
 ·have wn:i64.wrap (i64.wrap ((mid:Int)+M) - B)=((mid+M - B:Nat):Int)∨M≤mid:=by
   by_cases q:M≤mid
   ·exact .inr q
   ·exact .inl (by rw[Zq (x:=(mid:Int)+M) (by omega) (by omega),Zq (by omega) (by omega)]; omega)
  rintro _ rfl
  refine Br.intro (fun d=>?_) fun d=>?_
  ·have d:=dle _ _ d
   rcases wn with wn | wn
   ·rw[wn]; exact⟨rfl,_,_,rfl,rfl,.inl ⟨d,by omega,rfl⟩⟩
   ·omega
  ·have d:=dge _ _ d
   exact⟨rfl,_,_,rfl,rfl,.inr ⟨d,rfl,rfl⟩⟩
 rintro⟨_,_,⟨⟩⟩ _ ⟨s0,r0,rfl,rfl,h0⟩
 dsimp only
 have h00:A≤s0∧s0≤r0∧r0≤M∧∀ q,s0≤q→q<r0→M≤mid+M - 1 - q∧mid+M - 1 - q<B∧q≤mid+M - 1:=by
  rcases h0 with h0 | h0
  ·exact⟨by omega,by omega,by omega,fun q q1 q2=>by omega⟩
  ·exact⟨by omega,by omega,by omega,fun q q1 q2=>by omega⟩
 obtain⟨h01,h02,h03,h04⟩:=h00
 refine⟨rfl,fun x _=>∃ s r:Nat,x.1=s∧x.2.1=r∧s0≤s∧s≤r∧r≤r0∧(∀ q,s0≤q→q<s→keyB bed (at0 xs q)≤keyB bed (at0 xs (mid+M - 1 - q)))∧(∀ q,r≤q→q<r0→keyB bed (at0 xs (mid+M - 1 - q))<keyB bed (at0 xs q)),fun x _=>(x.2.1 - x.1).toNat,⟨s0,r0,rfl,rfl,by omega,by omega,by omega,fun q q1 q2=>by omega,fun q q1 q2=>by omega⟩,?_⟩
 rintro⟨_,_,⟨⟩⟩ _ ⟨s,r,rfl,rfl,h1,h2,h3,hlo,hhi⟩
 dsimp only
 rintro _ rfl
 refine Br.intro (fun d=>?_) fun d=>?_
 ·have d:=dle _ _ d
  obtain⟨c,hc⟩:∃ c,(s+r) / 2=c:=⟨_,rfl⟩
  obtain⟨c1,c2,c3⟩:=h04 c (by omega) (by omega)
  have w3:i64.wrap (i64.wrap (i64.wrap ((mid:Int)+M) - 1) - c)=((mid+M - 1 - c:Nat):Int):=by
   rw[Zq (x:=(mid:Int)+M) (by omega) (by omega),Zq (x:=(mid:Int)+M - 1) (by omega) (by omega),Zq (by omega) (by omega)]; omega
  rw[whalf s r (by omega) (by omega),hc,w3,Int.toNat_natCast,Int.toNat_natCast,Nat.zero_add,Nat.zero_add,wadd c (by omega)]
  refine⟨by decide,⟨by omega,by omega⟩,⟨by omega,by omega⟩,bo.cmp (by omega) (by omega),?_⟩
  rintro _ rfl
  rintro _ rfl
  refine Br.intro (fun q=>?_) fun q=>?_
  ·have q:¬ keyB bed (at0 xs (mid+M - 1 - c))<keyB bed (at0 xs c):=fun w=>by
    have:decide ((Zax (at0 xs (mid+M - 1 - c)) (at0 xs c) (some bed)).fst<0)=true:=decide_eq_true ((Z80 _ _ _).2 w)
    unfold at0 at this
    rw[this]at q; exact absurd q (by decide)
   refine⟨rfl,⟨c+1,r,rfl,rfl,by omega,by omega,h3,fun p p1 p2=>?_,hhi⟩,by omega⟩
   have:=Zee hs1 (i:=p) (j:=c) (by omega) (by omega) (by omega)
   have:=Zee hs2 (i:=mid+M - 1 - c) (j:=mid+M - 1 - p) (by omega) (by omega) (h04 p p1 (by omega)).2.1
   omega
  ·have q:keyB bed (at0 xs (mid+M - 1 - c))<keyB bed (at0 xs c):=(Z80 _ _ _).1 (by
    have q:decide ((Zax (at0 xs (mid+M - 1 - c)) (at0 xs c) (some bed)).fst<0)=true:=by simpa using q
    exact of_decide_eq_true q)
   refine⟨rfl,⟨s,c,rfl,rfl,h1,by omega,by omega,hlo,fun p p1 p2=>?_⟩,by omega⟩
   have:=Zee hs1 (i:=c) (j:=p) (by omega) (by omega) (by omega)
   have:=Zee hs2 (i:=mid+M - 1 - p) (j:=mid+M - 1 - c) (h04 p (by omega) p2).1 (by omega) (by omega)
   omega
 have d:=dge _ _ d
 have sr:s=r:=by omega
 subst sr
 have cd:=cutd hm ham hmb h0 hs1 hs2 h1 h3 hlo hhi
 obtain⟨l1,l2,l3,l4⟩:=cd.le
 have we:i64.wrap (i64.wrap ((mid:Int)+M) - s)=((mid+M - s:Nat):Int):=by rw[Zq (x:=(mid:Int)+M) (by omega) (by omega),Zq (by omega) (by omega)]; omega
 rw[we]
 have smid:A≤s∧s≤mid∧mid<B∧A<mid∧mid≤mid+M - s:=by omega
 refine⟨fun _ y=>Trnd (keyB bed) xs y.1 A M B s (mid+M - s) mid,?_,?_⟩
 ·have same:s=M∨M=mid+M - s→Trnd (keyB bed) xs xs A M B s (mid+M - s) mid:=fun q=>trnd cd hm ham hmb hb hs1 hs2 (.refl _) (Z1no l2 l3 q).symm
  rintro _ rfl
  refine Br.intro (fun d=>?_) fun d=>⟨rfl,same (.inl (by have:=dge _ _ d; omega))⟩
  have d:=dle _ _ d
  rintro _ rfl
  refine Br.intro (fun d2=>?_) fun d2=>⟨rfl,same (.inr (by have:=dge _ _ d2; omega))⟩
  have d2:=dle _ _ d2
  refine⟨⟨rfl,rfl,hmx,by omega,by omega,by omega,by omega⟩,?_⟩
  simp only[Int.toNat_natCast]
  rintro ys ⟨q1,q2⟩
  exact⟨rfl,trnd cd hm ham hmb hb hs1 hs2 q2 q1⟩
 rintro _ ⟨y,⟨⟩⟩ ⟨hr,g1,g2,g3,g4,cr⟩
 dsimp only at hr g1 g2 g3 g4 cr ⊢
 have ly:=hr.len
 simp only[Int.toNat_natCast]
 have gA:s=A→Sgm (keyB bed) y A mid:=fun e=>by rw[← e]; exact g2
 have gM:s=mid→Sgm (keyB bed) y A mid:=fun e=>by rw[← e]; exact g1
 refine⟨fun _ y=>Rr (keyB bed) A B xs y.1∧Sgm (keyB bed) y.1 A mid∧Sgm (keyB bed) y.1 mid (mid+M - s)∧Sgm (keyB bed) y.1 (mid+M - s) B∧Crs (keyB bed) y.1 A mid B,?_,?_⟩
 ·rintro _ rfl
  refine Br.intro (fun d=>?_) fun d=>⟨rfl,hr,gA (by have:=dge _ _ d; omega),g3,g4,cr⟩
  have d:=dle _ _ d
  rintro _ rfl
  refine Br.intro (fun d2=>?_) fun d2=>⟨rfl,hr,gM (by have:=dge _ _ d2; omega),g3,g4,cr⟩
  have d2:=dle _ _ d2
  refine⟨⟨by trivial,by trivial,ly.symm,bo.perm hr.perm,by omega,by omega,by omega,by omega,by omega,g1,g2⟩,?_⟩
  rintro ys ⟨q1,q2⟩
  exact⟨rfl,hr.trans (q1.wide (Nat.le_refl _) (by omega)),q2,q1.sgm g3 (.inr (Nat.le_refl _)),q1.sgm g4 (.inr (by omega)),cr.left q1⟩
 clear gA gM hr g1 g2 g3 g4 cr ly
 rintro _ ⟨y,⟨⟩⟩ ⟨hr,g1,g3,g4,cr⟩
 dsimp only at hr g1 g3 g4 cr ⊢
 have ly:=hr.len
 rintro _ rfl
 refine Br.intro (fun d=>?_) fun d=>hk _ ⟨hr,by
  have:=dge _ _ d
  have e:mid+M - s=mid:=by omega
  rw[e]at g4
  exact cr.join g1 g4⟩
 have d:=dle _ _ d
 rintro _ rfl
 refine Br.intro (fun d2=>?_) fun d2=>hk _ ⟨hr,by
  have:=dge _ _ d2
  have e:mid+M - s=B:=by omega
  rw[e]at g3
  exact cr.join g1 g3⟩
 have d2:=dle _ _ d2
 refine⟨⟨by trivial,by trivial,ly.symm,bo.perm hr.perm,by omega,by omega,by omega,by omega,by omega,g3,g4⟩,?_⟩
 rintro ys ⟨q1,q2⟩
 exact hk _ ⟨hr.trans (q1.wide (by omega) (Nat.le_refl _)),(cr.right q1).join (q1.sgm g1 (.inl (Nat.le_refl _))) q2⟩
def Zud:=fun(ty3 fn72:Nat)(m:Md)(tb N:Nat)(bed:List Nat)(xs:List Int)(n:Int)(k:EV→List HObj→Prop)=>HIs [HObj.box m tb [SV.data (K.flt
 f64).slice bed],HObj.row Md.rw ty3 (K.int i64) xs] [HObj.box m tb [SV.data (K.flt f64).slice bed],HObj.row Md.rw ty3 (K.int i64) xs]∧
 ∃(I:Int × Int × Unit→List Int × Unit→Prop),∃(μ:Int × Int × Unit→List Int × Unit→Nat),I ((0:Int),(20:Int),()) (xs,())∧∀(x:Int × Int × Unit)(y:List
 Int × Unit),I x y→∀(a:Bool),a=decide (x.snd.fst≤n)→Br a (∃(x_3:(ty3=ty3)∧(fn72=fn72)∧xs.length=y.fst.length∧Z47 bed y.fst∧(0:Int)≤x.fst∧x.fst
 ≤ x.snd.fst∧x.snd.fst≤(↑y.fst.length:Int)),∀(ys:List Int),Rr (keyB bed) x.fst.toNat x.snd.fst.toNat y.fst ys∧Sgm (keyB bed) ys x.fst.toNat x.snd.fst.toNat→HIs
 [HObj.box m tb [SV.data (K.flt f64).slice bed],HObj.row Md.rw ty3 (K.int i64) ys] [HObj.box m tb [SV.data (K.flt f64).slice bed],HObj.row Md.rw
 ty3 (K.int i64) ys]∧I (x.snd.fst,i64.wrap (x.snd.fst+(20:Int)),()) (ys,())∧μ (x.snd.fst,i64.wrap (x.snd.fst+(20:Int)),()) (ys,())<μ x
 y) (∃(x_3:(ty3=ty3)∧(fn72=fn72)∧xs.length=y.fst.length∧Z47 bed y.fst∧(0:Int)≤x.fst∧x.fst≤n∧n≤(↑y.fst.length:Int)),∀(ys:List Int),Rr (keyB
 bed) x.fst.toNat n.toNat y.fst ys∧Sgm (keyB bed) ys x.fst.toNat n.toNat→HIs [HObj.box m tb [SV.data (K.flt f64).slice bed],HObj.row Md.rw ty3 (K.int i64)
 ys] [HObj.box m tb [SV.data (K.flt f64).slice bed],HObj.row Md.rw ty3 (K.int i64) ys]∧∃(I:Int × Unit→List Int × Unit→Prop),∃(μ:Int × Unit→List
 Int × Unit→Nat),I ((20:Int),()) (ys,())∧∀(x:Int × Unit)(y:List Int × Unit),I x y→∀(a:Bool),a=decide (x.fst<n)→Br a (HIs [HObj.box m tb [SV.data (K.flt
 f64).slice bed],HObj.row Md.rw ty3 (K.int i64) y.fst] [HObj.box m tb [SV.data (K.flt f64).slice bed],HObj.row Md.rw ty3 (K.int i64)
 y.fst]∧∃(I_1:Int × Int × Unit→List Int × Unit→Prop),∃(μ_1:Int × Int × Unit→List Int × Unit→Nat),I_1 ((0:Int),i64.wrap ((2:Int)*x.fst),()) (y.fst,
 ())∧∀(x_6:Int × Int × Unit)(y_1:List Int × Unit),I_1 x_6 y_1→∀(a:Bool),a=decide (x_6.snd.fst≤n)→Br a (∃(x_9:(ty3=ty3)∧(fn72=fn72)∧xs.length=
 y_1.fst.length∧Z47 bed y_1.fst∧(0:Int)≤x_6.fst∧x_6.fst<i64.wrap (x_6.fst+x.fst)∧i64.wrap (x_6.fst+x.fst)<x_6.snd.fst∧x_6.snd.fst≤
 (↑y_1.fst.length:Int)∧(x_6.snd.fst - x_6.fst).toNat<N∧Sgm (keyB bed) y_1.fst x_6.fst.toNat (i64.wrap (x_6.fst+x.fst)).toNat∧Sgm (keyB bed) y_1.fst
 (i64.wrap (x_6.fst+x.fst)).toNat x_6.snd.fst.toNat),∀(ys:List Int),Rr (keyB bed) x_6.fst.toNat x_6.snd.fst.toNat y_1.fst ys∧Sgm (keyB bed) ys x_6.fst.toNat
 x_6.snd.fst.toNat→HIs [HObj.box m tb [SV.data (K.flt f64).slice bed],HObj.row Md.rw ty3 (K.int i64) ys] [HObj.box m tb [SV.data (K.flt
 f64).slice bed],HObj.row Md.rw ty3 (K.int i64) ys]∧I_1 (x_6.snd.fst,i64.wrap (x_6.snd.fst+i64.wrap ((2:Int)*x.fst)),()) (ys,())∧
 μ_1 (x_6.snd.fst,i64.wrap (x_6.snd.fst+i64.wrap ((2:Int)*x.fst)),()) (ys,())<μ_1 x_6 y_1) (∃(post:Int × Unit→List Int × Unit→Prop),(∀(a:
 Bool),a=decide (i64.wrap (x_6.fst+x.fst)<n)→Br a (∃(x_10:(ty3=ty3)∧(fn72=fn72)∧xs.length=y_1.fst.length∧Z47 bed y_1.fst∧(0:Int)≤x_6.fst∧
 x_6.fst<i64.wrap (x_6.fst+x.fst)∧i64.wrap (x_6.fst+x.fst)<n∧n≤(↑y_1.fst.length:Int)∧(n - x_6.fst).toNat<N∧Sgm (keyB bed) y_1.fst
 x_6.fst.toNat (i64.wrap (x_6.fst+x.fst)).toNat∧Sgm (keyB bed) y_1.fst (i64.wrap (x_6.fst+x.fst)).toNat n.toNat),∀(ys:List Int),Rr (keyB bed)
 x_6.fst.toNat n.toNat y_1.fst ys∧Sgm (keyB bed) ys x_6.fst.toNat n.toNat→HIs [HObj.box m tb [SV.data (K.flt f64).slice bed],HObj.row Md.rw ty3 (K.int
 i64) ys] [HObj.box m tb [SV.data (K.flt f64).slice bed],HObj.row Md.rw ty3 (K.int i64) ys]∧post (x.fst,()) (ys,())) (HIs [HObj.box m tb [SV.data
 (K.flt f64).slice bed],HObj.row Md.rw ty3 (K.int i64) y_1.fst] [HObj.box m tb [SV.data (K.flt f64).slice bed],HObj.row Md.rw ty3 (K.int
 i64) y_1.fst]∧post (x.fst,()) (y_1.fst,())))∧∀(x_9:Int × Unit)(y_2:List Int × Unit),post x_9 y_2→HIs [HObj.box m tb [SV.data (K.flt f64).slice
 bed],HObj.row Md.rw ty3 (K.int i64) y_2.fst] [HObj.box m tb [SV.data (K.flt f64).slice bed],HObj.row Md.rw ty3 (K.int i64) y_2.fst]∧I
 (i64.wrap (x_9.fst*(2:Int)),()) (y_2.fst,())∧μ (i64.wrap (x_9.fst*(2:Int)),()) (y_2.fst,())<μ x y)) (k (EV.tup []) [HObj.box m tb [SV.data (K.flt
 f64).slice bed],HObj.row Md.rw ty3 (K.int i64) y.fst]))
theorem Z1p1(ty0 ty1:Nat)(m:Md)(tb N:Nat)(bed:List Nat)(xs:List Int)(n:Int)(k:EV→List HObj→Prop)(h:Z47 bed xs∧n=(List.length xs:Int)∧List.length xs<N)(hk:∀ ys:List Int,Rr (keyB bed) 0 n.toNat xs ys∧Sgm (keyB bed) ys 0 n.toNat→k (.tup []) [.box m tb [.data (.slice (.flt .f64)) bed],.row .rw ty0 (.int .i64) ys]):Zud ty0 ty1 m tb N bed xs n k:=by
 unfold Zud
 obtain⟨bo,hn,hN⟩:=h
 have mx:maxN=281474976710656:=rfl
 have hmx:=bo.2.2
 obtain⟨n0,hn0⟩:∃ n0,xs.length=n0:=⟨_,rfl⟩
 rw[hn0]at hn hN hmx
 subst hn
 simp only[Int.toNat_natCast]at hk
 have dle:∀ u v:Nat,decide ((u:Int)<v)=true→u<v:=fun u v d=>by have d:(u:Int)<v:=of_decide_eq_true d; omega
 have dge:∀ u v:Nat,decide ((u:Int)<v)=false→v≤u:=fun u v d=>by have d:¬ (u:Int)<v:=of_decide_eq_false d; omega
 have ele:∀ u v:Nat,decide ((u:Int)≤v)=true→u≤v:=fun u v d=>by have d:(u:Int)≤v:=of_decide_eq_true d; omega
 have ege:∀ u v:Nat,decide ((u:Int)≤v)=false→v<u:=fun u v d=>by have d:¬ (u:Int)≤v:=of_decide_eq_false d; omega
 have wadd:∀ u v:Nat,u≤4*n0+40→v≤4*n0+40→i64.wrap ((u:Int)+v)=((u+v:Nat):Int):=fun u v h1 h2=>by rw[Zq (by omega) (by omega)]; omega
 refine⟨rfl,fun x y=>∃ q:Nat,x.1=(q*20:Nat)∧x.2.1=(q*20+20:Nat)∧q*20≤n0∧Rr (keyB bed) 0 n0 xs y.1∧∀ q',q'<q→Sgm (keyB bed) y.1 (q'*20) (q'*20+20),fun x _=>n0+20 - x.1.toNat,⟨0,rfl,rfl,by omega,.refl _ _ _,fun q' h=>by omega⟩,?_⟩
 rintro⟨_,_,⟨⟩⟩ ⟨y,⟨⟩⟩ ⟨q,rfl,rfl,hq,hr,hs⟩
 dsimp only at hr hs ⊢
 have ly:=hr.len
 rintro _ rfl
 refine Br.intro (fun d=>?_) fun d=>?_
 ·have d:=ele _ _ d
  rw[show i64.wrap (((q*20+20:Nat):Int)+20)=((q*20+20+20:Nat):Int)from wadd (q*20+20) 20 (by omega) (by omega)]
  refine⟨⟨by trivial,by trivial,ly.symm,bo.perm hr.perm,by omega,by omega,by omega⟩,?_⟩
  simp only[Int.toNat_natCast]
  rintro ys ⟨r1,r2⟩
  refine⟨rfl,⟨q+1,by omega,by omega,by omega,hr.trans (r1.wide (by omega) d),fun q' h=>?_⟩,by omega⟩
  by_cases e:q'=q
  ·subst e; exact r2
  ·exact r1.sgm (hs q' (by omega)) (.inl (by omega))
 have d:=ege _ _ d
 refine⟨⟨by trivial,by trivial,ly.symm,bo.perm hr.perm,by omega,by omega,by omega⟩,?_⟩
 simp only[Int.toNat_natCast]
 rintro ys ⟨r1,r2⟩
 have hr1:=hr.trans (r1.wide (Nat.zero_le _) (Nat.le_refl _))
 have hb0:∀ q',Sgm (keyB bed) ys (q'*20) (min (q'*20+20) n0):=fun q'=>by
  by_cases e:q'=q
  ·subst e; exact r2.sub (Nat.le_refl _) (by omega)
  ·by_cases e2:q'<q
   ·exact(r1.sgm (hs q' e2) (.inl (by omega))).sub (Nat.le_refl _) (by omega)
   ·exact .one (by omega)
 clear hr hs r1 r2 ly d hq
 refine⟨rfl,fun x y=>∃ s:Nat,x.1=s∧0<s∧s≤2*n0+20∧Rr (keyB bed) 0 n0 xs y.1∧∀ q',Sgm (keyB bed) y.1 (q'*s) (min (q'*s+s) n0),fun x _=>n0 - x.1.toNat,⟨20,rfl,by decide,by omega,hr1,hb0⟩,?_⟩
 rintro⟨_,⟨⟩⟩ ⟨y,⟨⟩⟩ ⟨s,rfl,hs0,hsn,hr,hb⟩
 dsimp only at hr hb ⊢
 clear hr1 hb0
 have ly:=hr.len
 rintro _ rfl
 refine Br.intro (fun d=>?_) fun d=>?_
 rotate_left
 ·have d:=dge _ _ d
  have:=hb 0
  rw[Nat.zero_mul,Nat.zero_add,Nat.min_eq_right d]at this
  exact hk _ ⟨hr,this⟩
 have d:=dle _ _ d
 have w2:i64.wrap (2*(s:Int))=((2*s:Nat):Int):=by rw[Zq (by omega) (by omega)]; omega
 rw[w2]
 refine⟨rfl,fun x y=>∃ q:Nat,x.1=(q*(2*s):Nat)∧x.2.1=(q*(2*s)+2*s:Nat)∧q*(2*s)≤n0∧Rr (keyB bed) 0 n0 xs y.1∧(∀ q',q'<q→Sgm (keyB bed) y.1 (q'*(2*s)) (q'*(2*s)+2*s))∧∀ q',2*q≤q'→Sgm (keyB bed) y.1 (q'*s) (min (q'*s+s) n0),fun x _=>n0+2*s - x.1.toNat,⟨0,by simp,by simp,by omega,hr,fun q' h=>by omega,fun q' _=>hb q'⟩,?_⟩
 rintro⟨_,_,⟨⟩⟩ ⟨z,⟨⟩⟩ ⟨q,rfl,rfl,hq,hz,hd,ht⟩
 dsimp only at hz hd ht ⊢
 have lz:=hz.len
 have ht0:=ht (2*q) (Nat.le_refl _)
 have ht1:=ht (2*q+1) (by omega)
 have e0:2*q*s=q*(2*s):=by rw[Nat.mul_comm 2 q,Nat.mul_assoc]
 have e1:(2*q+1)*s=q*(2*s)+s:=by rw[Nat.add_mul,e0,Nat.one_mul]
 have ep:∀ q',q'*(2*s)=2*q'*s:=fun q'=>by rw[Nat.mul_comm 2 q',Nat.mul_assoc]
 have en:(q+1)*(2*s)=q*(2*s)+2*s:=by rw[Nat.add_mul,Nat.one_mul]
 have lt:∀ q',q'<q→q'*(2*s)+2*s≤q*(2*s):=fun q' h=>by
  have:=Nat.mul_le_mul_right (2*s) (show q'+1≤q from h)
  rw[Nat.add_mul,Nat.one_mul]at this; exact this
 have gt:∀ q',2*(q+1)≤q'→q*(2*s)+2*s≤q'*s:=fun q' h=>by
  have:=Nat.mul_le_mul_right s h
  rw[← ep,en]at this; exact this
 rw[e0]at ht0
 rw[e1]at ht1
 obtain⟨A,hA⟩:∃ A,q*(2*s)=A:=⟨_,rfl⟩
 rw[hA]at ht0 ht1 hq en lt gt ⊢
 rw[wadd A s (by omega) (by omega)]
 rintro _ rfl
 refine Br.intro (fun d2=>?_) fun d2=>?_
 ·have d2:=ele _ _ d2
  rw[wadd (A+2*s) (2*s) (by omega) (by omega)]
  simp only[Int.toNat_natCast]
  rw[Nat.min_eq_left (by omega)]at ht0 ht1
  have f1:A+s+s=A+2*s:=by omega
  rw[f1]at ht1
  refine⟨⟨by trivial,by trivial,lz.symm,bo.perm hz.perm,by omega,by omega,by omega,by omega,by omega,ht0,ht1⟩,?_⟩
  rintro ys ⟨r1,r2⟩
  refine⟨rfl,⟨q+1,by rw[en],by rw[en],by omega,hz.trans (r1.wide (Nat.zero_le _) d2),fun q' h=>?_,fun q' h=>?_⟩,by omega⟩
  ·by_cases e:q'=q
   ·subst e; rw[hA]; exact r2
   ·have:=lt q' (by omega)
    exact r1.sgm (hd q' (by omega)) (.inl (by omega))
  ·have:=gt q' h
   exact r1.sgm (ht q' (by omega)) (.inr (by omega))
 have d2:=ege _ _ d2
 have fin:∀ ys,Rr (keyB bed) A n0 z ys→Sgm (keyB bed) ys A n0→Rr (keyB bed) 0 n0 xs ys∧∀ q',Sgm (keyB bed) ys (q'*(2*s)) (min (q'*(2*s)+2*s) n0):=fun ys r1 r2=>⟨hz.trans (r1.wide (Nat.zero_le _) (Nat.le_refl _)),fun q'=>by
  by_cases e:q'=q
  ·subst e; rw[hA]; exact r2.sub (Nat.le_refl _) (by omega)
  ·by_cases e2:q'<q
   ·have:=lt q' e2
    exact(r1.sgm (hd q' e2) (.inl (by omega))).sub (Nat.le_refl _) (by omega)
   ·have:=lt
    have h3:=Nat.mul_le_mul_right (2*s) (show q+1≤q' by omega)
    rw[en]at h3
    exact .one (by omega)⟩
 refine⟨fun x y=>x.1=(s:Int)∧Rr (keyB bed) 0 n0 xs y.1∧∀ q',Sgm (keyB bed) y.1 (q'*(2*s)) (min (q'*(2*s)+2*s) n0),?_,?_⟩
 ·rintro _ rfl
  refine Br.intro (fun d3=>?_) fun d3=>?_
  ·have d3:=dle _ _ d3
   simp only[Int.toNat_natCast]
   rw[Nat.min_eq_left (by omega)]at ht0
   rw[Nat.min_eq_right (by omega)]at ht1
   refine⟨⟨by trivial,by trivial,lz.symm,bo.perm hz.perm,by omega,by omega,by omega,by omega,by omega,ht0,ht1⟩,?_⟩
   rintro ys ⟨r1,r2⟩
   exact⟨rfl,by trivial,fin ys r1 r2⟩
  ·have d3:=dge _ _ d3
   rw[Nat.min_eq_right (by omega)]at ht0
   exact⟨rfl,by trivial,fin z (.refl _ _ _) ht0⟩
 rintro⟨_,⟨⟩⟩ ⟨w,⟨⟩⟩ ⟨rfl,h1,h2⟩
 dsimp only at h1 h2 ⊢
 have w3:i64.wrap ((s:Int)*2)=((2*s:Nat):Int):=by rw[Zq (by omega) (by omega)]; omega
 rw[w3]
 exact⟨rfl,⟨2*s,rfl,by omega,by omega,h1,h2⟩,by omega⟩
def Z142:=fun(ty3 fn72:Nat)(m:Md)(tb N:Nat)(bed:List Nat)(xs:List Int)(k:EV→List HObj→Prop)=>∃(x:(ty3=ty3)∧(fn72=fn72)∧xs.length=
 xs.length∧Z47 bed xs∧(↑xs.length:Int)=(↑xs.length:Int)),∀(ys:List Int),Rr (keyB bed) (0:Nat) xs.length xs ys∧Sgm (keyB bed) ys (0:Nat) xs.length→k (EV.tup
 []) [HObj.box m tb [SV.data (K.flt f64).slice bed],HObj.row Md.rw ty3 (K.int i64) ys]
theorem Z1l7(ty0 ty1:Nat)(m:Md)(tb N:Nat)(bed:List Nat)(xs:List Int)(k:EV→List HObj→Prop)(h:Z47 bed xs)(hk:∀ ys:List Int,Rr (keyB bed) 0 xs.length xs ys∧Sgm (keyB bed) ys 0 xs.length→k (.tup []) [.box m tb [.data (.slice (.flt .f64)) bed],.row .rw ty0 (.int .i64) ys]):Z142 ty0 ty1 m tb N bed xs k:=by
 refine⟨⟨rfl,rfl,rfl,h,rfl⟩,?_⟩
 rintro ys ⟨h1,h2⟩
 exact hk ys ⟨by simpa using h1,by simpa using h2⟩
end Go.Lift

namespace Go.Lift
open Go.Proofs
def Z3c:Cx:=⟨Z1t Z23,Z21 [(165,Zep)],SqG⟩
theorem Z88:CxOk Tryz.prog Z3c:=⟨Zn Zy,Zu ⟨Zu7,trivial⟩⟩
def Zue:Hn:={loops:=Z10 [(1,{ls:=[(.slot 10,.data (.int .i64))],os:=[(1,3,.int .i64)]})],joins:=fun _=>none,named:=true}
theorem Z1fl:FnAt Tryz.prog 287 Tryz.f287.ntmps Tryz.f287.results.toList (Tryz.f287.body.getD .skip):=⟨Tryz.f287,Tryz.func287,rfl,rfl,by simp,by decide⟩
theorem Z1fm(m:Md)(tb:Nat)(cs:List SV)(xs:List Int)(a b n:Int)(fv:EV)(k:EV→List HObj→Prop):Zea Z3c Zue (Z51) Tryz.f287.ntmps Tryz.f287.results.toList (Tryz.f287.body.getD .skip) [.x (.one (.osl 1 0 (List.length xs))),.x (.one (.val (.int .i64 a))),.x (.one (.val (.int .i64 b))),.x (.one (.val (.int .i64 n))),fv] [.box m tb cs,.row .rw 3 (.int .i64) xs] k=Z141 3 m tb cs xs a b n fv k:=by kernel_rfl
theorem Z1fn:EvOk Tryz.prog Z3c 287 (Z7x 3):=(Z9z Z88 Z3 Z9q Z1fl Zue).of fun args hp k q=>by
 unfold Z7x at q
 split at q
 ·rename_i len a b n fv m tb cs t xs
  obtain⟨⟨rfl,rfl,h⟩,hk⟩:=q
  have e:=Z1fm m tb cs xs a b n fv k
  have f:=Z1l6 3 m tb cs xs a b n fv k h hk
  first | (rw[e]; exact f) | exact Eq.mpr e f
 ·exact q.elim
theorem Z1it:Z32 Tryz.prog Z3c (Z2k 287 (Z7x 3) (Z51)):=Z9i Z1fn Z9q
def Zxi:Hn:={loops:=Z10 [(2,{ls:=[(.slot 10,.data (.int .i64)),(.slot 11,.data (.int .i64))],os:=[(1,3,.int .i64)]})],joins:=fun _=>none,named:=true,inl:=inlL [287]}
theorem Z1h6:FnAt Tryz.prog 273 Tryz.f273.ntmps Tryz.f273.results.toList (Tryz.f273.body.getD .skip):=⟨Tryz.f273,Tryz.func273,rfl,rfl,by simp,by decide⟩
theorem Z1h7(md:Md)(tb:Nat)(cs:List SV)(xs:List Int)(a m b:Int)(fv:EV)(k:EV→List HObj→Prop):Zea Z3c Zxi (Z2k 287 (Z7x 3) (Z51)) Tryz.f273.ntmps Tryz.f273.results.toList (Tryz.f273.body.getD .skip) [.x (.one (.osl 1 0 (List.length xs))),.x (.one (.val (.int .i64 a))),.x (.one (.val (.int .i64 m))),.x (.one (.val (.int .i64 b))),fv] [.box md tb cs,.row .rw 3 (.int .i64) xs] k=Zua 3 md tb cs xs a m b fv k:=by kernel_rfl
theorem Z1h8:EvOk Tryz.prog Z3c 273 (Zfy 3):=(Z9z Z88 Z3 Z1it Z1h6 Zxi).of fun args hp k q=>by
 unfold Zfy at q
 split at q
 ·rename_i len a m b fv md tb cs t xs
  obtain⟨⟨rfl,rfl,h⟩,hk⟩:=q
  have e:=Z1h7 md tb cs xs a m b fv k
  have f:=Z1oy 3 md tb cs xs a m b fv k h hk
  first | (rw[e]; exact f) | exact Eq.mpr e f
 ·exact q.elim
theorem Z1t4:Z32 Tryz.prog Z3c (Z2k 273 (Zfy 3) (Z2k 287 (Z7x 3) (Z51))):=Z9i Z1h8 Z1it
def Zxj:Hn:={loops:=Z10 [(1,{ls:=[(.slot 8,.data (.int .i64))],os:=[(1,3,.int .i64)]}),(4,{ls:=[(.slot 9,.data (.int .i64))],os:=[(1,3,.int .i64)]})],joins:=fun _=>none,named:=true,inl:=fun _=>false}
theorem Z1h9:FnAt Tryz.prog 243 Tryz.f243.ntmps Tryz.f243.results.toList (Tryz.f243.body.getD .skip):=⟨Tryz.f243,Tryz.func243,rfl,rfl,by simp,by decide⟩
theorem Z1ha(m:Md)(tb:Nat)(bed:List Nat)(xs:List Int)(a b:Int)(k:EV→List HObj→Prop):Zea Z3c Zxj (Z51) Tryz.f243.ntmps Tryz.f243.results.toList (Tryz.f243.body.getD .skip) [.x (.one (.osl 1 0 (List.length xs))),.x (.one (.val (.int .i64 a))),.x (.one (.val (.int .i64 b))),.x (.one (.clo 165 [] [.ref 0 0]))] [.box m tb [.data (.slice (.flt .f64)) bed],.row .rw 3 (.int .i64) xs] k=Zub 3 m tb bed xs a b k:=by kernel_rfl
theorem Z1hb:EvOk Tryz.prog Z3c 243 (Ziy 3 165):=(Z9z Z88 Z3 Z9q Z1h9 Zxj).of fun args hp k q=>by
 unfold Ziy at q
 split at q
 ·rename_i len a b f m tb bed t xs
  obtain⟨⟨rfl,rfl,rfl,h⟩,hk⟩:=q
  have e:=Z1ha m tb bed xs a b k
  have f:=Z1oz 3 m tb bed xs a b k h hk
  first | (rw[e]; exact f) | exact Eq.mpr e f
 ·exact q.elim
theorem Z1iu:Z32 Tryz.prog Z3c (Z2k 243 (Ziy 3 165) (Z2k 273 (Zfy 3) (Z2k 287 (Z7x 3) (Z51)))):=Z9i Z1hb Z1t4
def Zxk:Hn:={loops:=Z10 [(3,{ls:=[(.slot 10,.data (.int .i64)),(.slot 11,.data (.int .i64))],os:=[]}),(9,{ls:=[(.slot 13,.data (.int .i64))],os:=[(1,3,.int .i64)]}),(15,{ls:=[(.slot 14,.data (.int .i64)),(.slot 15,.data (.int .i64))],os:=[]}),(21,{ls:=[(.slot 17,.data (.int .i64))],os:=[(1,3,.int .i64)]}),(33,{ls:=[(.slot 20,.data (.int .i64)),(.slot 21,.data (.int .i64))],os:=[]})],joins:=Z10 [(32,{ls:=[(.slot 20,.data (.int .i64)),(.slot 21,.data (.int .i64))],os:=[]}),(41,{ls:=[],os:=[(1,3,.int .i64)]}),(43,{ls:=[],os:=[(1,3,.int .i64)]})],named:=true,inl:=inlL [273,244]}
theorem Z1hc:FnAt Tryz.prog 244 Tryz.f244.ntmps Tryz.f244.results.toList (Tryz.f244.body.getD .skip):=⟨Tryz.f244,Tryz.func244,rfl,rfl,by simp,by decide⟩
theorem Z1hd(md:Md)(tb N:Nat)(bed:List Nat)(xs:List Int)(a m b:Int)(k:EV→List HObj→Prop):Zea Z3c Zxk (Z2k 244 (Ziz 3 165 N) (Z2k 243 (Ziy 3 165) (Z2k 273 (Zfy 3) (Z2k 287 (Z7x 3) (Z51))))) Tryz.f244.ntmps Tryz.f244.results.toList (Tryz.f244.body.getD .skip) [.x (.one (.osl 1 0 (List.length xs))),.x (.one (.val (.int .i64 a))),.x (.one (.val (.int .i64 m))),.x (.one (.val (.int .i64 b))),.x (.one (.clo 165 [] [.ref 0 0]))] [.box md tb [.data (.slice (.flt .f64)) bed],.row .rw 3 (.int .i64) xs] k=Zuc 3 165 md tb N bed xs a m b k:=by kernel_rfl
theorem Zxl:∀ N,EvOk Tryz.prog Z3c 244 (Ziz 3 165 N)
 | 0=>fun c hi hg args vs k hall q=>by
  unfold Ziz at q
  split at q
  ·obtain⟨⟨_,_,_,_,_,_,_,_,hN,_⟩,_⟩:=q
   exact absurd hN (Nat.not_lt_zero _)
  ·exact q.elim
 | N+1=>(Z9z Z88 Z3 (Z9i (Zxl N) Z1iu) Z1hc Zxk).of fun args hp k q=>by
  unfold Ziz at q
  split at q
  ·rename_i len a m b f md tb bed t xs
   obtain⟨⟨rfl,rfl,rfl,h⟩,hk⟩:=q
   have e:=Z1hd md tb N bed xs a m b k
   have f:=Z1p0 3 165 md tb N bed xs a m b k h hk
   first | (rw[e]; exact f) | exact Eq.mpr e f
  ·exact q.elim
theorem Z1iv(N:Nat):Z32 Tryz.prog Z3c (Z2k 244 (Ziz 3 165 N) (Z2k 243 (Ziy 3 165) (Z2k 273 (Zfy 3) (Z2k 287 (Z7x 3) (Z51))))):=Z9i (Zxl N) Z1iu
def Zxm:Hn:={loops:=Z10 [(2,{ls:=[(.slot 7,.data (.int .i64)),(.slot 8,.data (.int .i64))],os:=[(1,3,.int .i64)]}),(7,{ls:=[(.slot 6,.data (.int .i64))],os:=[(1,3,.int .i64)]}),(9,{ls:=[(.slot 7,.data (.int .i64)),(.slot 8,.data (.int .i64))],os:=[(1,3,.int .i64)]})],joins:=Z10 [(16,{ls:=[(.slot 6,.data (.int .i64))],os:=[(1,3,.int .i64)]})],named:=true,inl:=inlL [243,244]}
theorem Z1he:FnAt Tryz.prog 205 Tryz.f205.ntmps Tryz.f205.results.toList (Tryz.f205.body.getD .skip):=⟨Tryz.f205,Tryz.func205,rfl,rfl,by simp,by decide⟩
theorem Z1hf(m:Md)(tb N:Nat)(bed:List Nat)(xs:List Int)(n:Int)(k:EV→List HObj→Prop):Zea Z3c Zxm (Z2k 244 (Ziz 3 165 N) (Z2k 243 (Ziy 3 165) (Z2k 273 (Zfy 3) (Z2k 287 (Z7x 3) (Z51))))) Tryz.f205.ntmps Tryz.f205.results.toList (Tryz.f205.body.getD .skip) [.x (.one (.osl 1 0 (List.length xs))),.x (.one (.val (.int .i64 n))),.x (.one (.clo 165 [] [.ref 0 0]))] [.box m tb [.data (.slice (.flt .f64)) bed],.row .rw 3 (.int .i64) xs] k=Zud 3 165 m tb N bed xs n k:=by kernel_rfl
theorem Z1hg:EvOk Tryz.prog Z3c 205 (Z1c1 3 165):=.ofN (fun N=>Z9z Z88 Z3 (Z1iv N) Z1he Zxm) fun args hp k q=>by
 unfold Z1c1 at q
 split at q
 ·rename_i len n f m tb bed t xs
  obtain⟨⟨rfl,rfl,rfl,h1,h2⟩,hk⟩:=q
  refine⟨List.length xs+1,?_⟩
  have e:=Z1hf m tb (List.length xs+1) bed xs n k
  have f:=Z1p1 3 165 m tb (List.length xs+1) bed xs n k ⟨h1,h2,Nat.lt_succ_self _⟩ hk
  first | (rw[e]; exact f) | exact Eq.mpr e f
 ·exact q.elim
theorem Z1t5(N:Nat):Z32 Tryz.prog Z3c (Z2k 205 (Z1c1 3 165) (Z2k 244 (Ziz 3 165 N) (Z2k 243 (Ziy 3 165) (Z2k 273 (Zfy 3) (Z2k 287 (Z7x 3) (Z51)))))):=Z9i Z1hg (Z1iv N)
def Zuf:Hn:={loops:=fun _=>none,joins:=fun _=>none,named:=true,inl:=inlL [205]}
theorem Z1fo:FnAt Tryz.prog 164 Tryz.f164.ntmps Tryz.f164.results.toList (Tryz.f164.body.getD .skip):=⟨Tryz.f164,Tryz.func164,rfl,rfl,by simp,by decide⟩
theorem Z1fp(m:Md)(tb N:Nat)(bed:List Nat)(xs:List Int)(k:EV→List HObj→Prop):Zea Z3c Zuf (Z2k 205 (Z1c1 3 165) (Z2k 244 (Ziz 3 165 N) (Z2k 243 (Ziy 3 165) (Z2k 273 (Zfy 3) (Z2k 287 (Z7x 3) (Z51)))))) Tryz.f164.ntmps Tryz.f164.results.toList (Tryz.f164.body.getD .skip) [.x (.one (.osl 1 0 (List.length xs))),.x (.one (.clo 165 [] [.ref 0 0]))] [.box m tb [.data (.slice (.flt .f64)) bed],.row .rw 3 (.int .i64) xs] k=Z142 3 165 m tb N bed xs k:=by kernel_rfl
theorem Z1fq:EvOk Tryz.prog Z3c 164 (Z112 3 165):=(Z9z Z88 Z3 (Z1t5 0) Z1fo Zuf).of fun args hp k q=>by
 unfold Z112 at q
 split at q
 ·rename_i len f m tb bed t xs
  obtain⟨⟨rfl,rfl,rfl,h⟩,hk⟩:=q
  have e:=Z1fp m tb 0 bed xs k
  have f:=Z1l7 3 165 m tb 0 bed xs k h hk
  first | (rw[e]; exact f) | exact Eq.mpr e f
 ·exact q.elim
theorem Z1t6:Z32 Tryz.prog Z3c (Z2k 164 (Z112 3 165) Z51):=Z9i Z1fq Z9q
end Go.Lift

namespace Go.Lift
open Go.Proofs
def Zkf:Con:=Con.nam [.slice (.flt .f64)] [.own 3 (.int .i64)] (fun x=>WOrd x.1) (fun x=>Z1c2 x.1)
def Zid:Hn:={loops:=Z10 [(3,{ls:=[(.slot 10,.data (.int .i64))],os:=[(1,3,.int .i64)]})],joins:=fun _=>none,named:=true,inl:=inlL [164]}
abbrev Z143:Cx:=Z3c
theorem Zug:CxOk Tryz.prog Z143:=Z88
theorem Zyy:FnAt Tryz.prog 87 Tryz.f87.ntmps Tryz.f87.results.toList (Tryz.f87.body.getD .skip):=⟨Tryz.f87,Tryz.func87,rfl,rfl,by simp,by decide⟩
theorem Zyz(bed:List Nat)(post:(List Int) × Unit→Prop):Z4e Z3c Zid (Z2k 164 (Z112 3 165) Z51) Tryz.f87.ntmps Tryz.f87.results.toList (Tryz.f87.body.getD .skip) [.slice (.flt .f64)] [.own 3 (.int .i64)] (bed,()) post=Zcy 26 3 bed post:=by kernel_rfl
theorem Z144:Zkf.holds Tryz.prog SqG 87:=
 Z5k (Z1bn Zug Z3 Zid Z1t6 Zyy (F:=fun x post=>Zcy 26 3 x.1 post) (fun x post=>Zyz x.1 post) fun x h _=>Z16s 26 3 x.1 h)
end Go.Lift

namespace Go.Lift
open Go.Proofs
def Z1p2:Cx:=⟨Z1t Z23,Z21 [(32,Z29),(31,Z2j),(86,Zn2),(83,Z44),(87,Zkf),(88,Zn3),(90,Z4b),(89,Z5x),(91,Zcv)],SqG⟩
theorem Z1fr:CxOk Tryz.prog Z1p2:=⟨Zn Zy,Zu ⟨Z2i,Z2u,Z16m,Z6l,Z144,Z16n,Z5y,Z7m,Zmw,trivial⟩⟩
def Zqk:Con:=Con.nam [.ptr Z28,kSea] [.own 2 (.int .i64),.own 2 (.int .i64),.snap (.int .i64)] (fun x=>WRun x.1 x.2.1) (fun x=>Z6x x.1 x.2.1)
theorem Z1bf:SqH Zqk 30:=
 nPs Z1fr Z3 Zd ({loops:=Z10 [(8,{ls:=[(.slot 68,.data (.int .i64))],os:=[(1,2,.int .i64),(2,2,.int .i64)]})],joins:=fun _=>none,named:=true}) Tryz.func30 (fun y p=>Zn5  y.1 p) (fun z y p=>Zn6 29 2 3 z y.1 p) (fun y h _=>Z16q  y.1 h) fun z y h w=>Z16r 29 2 3 z y.1 h w
end Go.Lift

namespace Go.Lift
open Go.Proofs
def Z145:Cx:=⟨Z1t Z23,Z21 [(20,Zct),(21,Zbd),(24,Zi5),(25,Zu0),(26,Zqf),(27,Zi8),(47,Z58),(28,Zqj),(29,Zqi),(30,Zqk)],SqG⟩
theorem Zql:CxOk Tryz.prog Z145:=⟨Zn Zy,Zu ⟨Zmc,Zjx,Zyk,Z1f8,Z1b8,Zyv,Z9l,Z1be,Z1bd,Z1bf,trivial⟩⟩
def Zer:Con:=Con.nam [.ptr Z28] [.snap (.int .i64)] (fun _=>True) (fun x=>Z10v x.1)
theorem Zuh:SqH Zer 101:=
 nPs Zql Z3 Zd nHn Tryz.func101 (fun y p=>Zbv   p) (fun z y p=>Zbw  z  p) (fun y _ _=>Zqv  ) fun z y _ _=>Zqw  z
def Z146:Cx:=addC 101 Zer Z145
theorem Zqm:CxOk Tryz.prog Z146:=Zm Zql Zuh
def Zui:Con:=Con.nam [.ptr Z28,Z7f,kSea] [.snap (.int .i64)] (fun x=>Z5u x.1 x.2.1 x.2.2.1) (fun x=>canR x.1 x.2.1 x.2.2.1)
theorem Z1fs:SqH Zui 45:=
 nPs Zqm Z3 Zd ({loops:=Z10 [],joins:=fun _=>none,named:=true}) Tryz.func45 (fun y p=>Zq5  y.1 y.2.1 p) (fun z y p=>Zq6  z y.1 y.2.1 p) (fun y h _=>Z1ao  y.1 y.2.1 h) fun z y h _=>Z1ap  z y.1 y.2.1 h
def Z147:Cx:=addC 45 Zui Z146
theorem Zqn:CxOk Tryz.prog Z147:=Zm Zqm Z1fs
def Zqo:Con:=Con.nam [.ptr Z28,Z7f,kSea] [.own 22 (.flt .f64),.str (.pair (.own 2 (.int .i64)) (.own 2 (.int .i64))),.snap (.int .i64)] (fun x=>Z11l x.1 x.2.1 x.2.2.1) (fun x=>Z11k x.1 x.2.1 x.2.2.1)
theorem Z1bg:SqH Zqo 46:=
 nP Zqn Z3 Zd ({loops:=Z10 [],joins:=fun _=>none,named:=true}) Tryz.func46 (fun x p=>Ztq  x.1 x.2.1 x.2.2.1 p) fun x h _=>Z1f4  x.1 x.2.1 x.2.2.1 h
def Z1l8:Cx:=addC 46 Zqo Z147
theorem Zqp:CxOk Tryz.prog Z1l8:=Zm Zqn Z1bg
def Zie:Con:=Con.nam [.ptr Z28,Z7f,kSea] [.str (.pair (.own 22 (.flt .f64)) (.pair (.own 2 (.int .i64)) (.pair (.own 2 (.int .i64)) (.pair (.own 22 (.flt .f64)) (.pair (.int .i64) (.int .i64)))))),.snap (.int .i64)] (fun x=>Z5u x.1 x.2.1 x.2.2.1) (fun x=>Z8n x.1 x.2.1 x.2.2.1)
theorem Zuj:SqH Zie 11:=
 nP Zqp Z3 Zd ({loops:=Z10 [],joins:=fun _=>none,named:=true}) Tryz.func11 (fun x p=>Zxd  x.1 x.2.1 x.2.2.1 p) fun x h w=>Z1h1  x.1 x.2.1 x.2.2.1 h w
def Zf3:Con:=Con.nam [.ptr Z28,Z7f,kSea] [.str (.pair (.own 2 (.int .i64)) (.own 2 (.int .i64))),.snap (.int .i64)] (fun x=>Z5u x.1 x.2.1 x.2.2.1) (fun x=>Z79 x.1 x.2.1 x.2.2.1)
theorem Zqq:SqH Zf3 12:=
 nP Zqp Z3 Zd ({loops:=Z10 [],joins:=fun _=>none,named:=true}) Tryz.func12 (fun x p=>Ztr  x.1 x.2.1 x.2.2.1 p) fun x h _=>Z1f5  x.1 x.2.1 x.2.2.1 h
end Go.Lift

namespace Go.Lift
open Go.Proofs
def Z1l9:Cx:=⟨Z1t Z23,Z21 [(13,Zhv),(90,Z4b),(43,Zk0),(11,Zie),(12,Zf3),(16,Zmd),(18,Zbk),(44,Zhr)],SqG⟩
theorem Zqr:CxOk Tryz.prog Z1l9:=⟨Zn Zy,Zu ⟨Ztk,Z5y,Z13b,Zuj,Zqq,Z167,Zk1,Zt4,trivial⟩⟩
def Zkg:Con:=Con.nam [] [.snap .bool] (fun _=>True) (fun x=>yesR)
theorem Z148:SqH Zkg 10:=
 nPI Zqr Z3 Zd ({loops:=fun _=>none,joins:=fun _=>none,named:=true,inl:=inlL [42]}) (Z3n Zqr Z3 Z11t 6) Tryz.func10 (fun x p=>Zcf 29 22 2  p) fun x _ _=>Z159 29 22 2
end Go.Lift

namespace Go.Lift
open Go.Proofs
def Z1la:Cx:=⟨Z1t Z23,Z21 [(10,Zkg),(19,Zme),(12,Zf3),(11,Zie),(31,Z2j),(32,Z29),(33,Z3q)],SqG⟩
theorem Z1bh:CxOk Tryz.prog Z1la:=⟨Zn Zy,Zu ⟨Z148,Z168,Zqq,Zuj,Z2u,Z2i,Z4o,trivial⟩⟩
def Zr8:Con:=.det [Z7f,kSea] [.snap .bool] (fun x=>Zsj x.1 x.2.1) (fun x=>Z1ra x.1 x.2.1)
theorem Zr9:SqH Zr8 6:=
 dP Z1bh Z3 Zd ({loops:=Z10 [(11,{ls:=[(.slot 11,.data (.int .i64))],os:=[]}),(16,{ls:=[(.slot 12,.data (.int .i64)),(.slot 13,.data (.int .i64)),(.slot 14,.data (.int .i64))],os:=[]}),(29,{ls:=[(.slot 19,.data (.int .i64))],os:=[]})],joins:=Z10 [(24,{ls:=[(.slot 12,.data (.int .i64)),(.slot 13,.data (.int .i64))],os:=[]})],named:=true}) Tryz.func6 (fun x p=>Zeg 25 29 2 35 22 x.1 x.2.1 p) fun x h _=>Zsv 25 29 2 35 22 x.1 x.2.1 h
end Go.Lift

namespace Go.Proofs.YtkfafhbmdccmgaaGreatDoor
open Go.Lift
theorem stepGives_law:Z1hu Rows.stepGivesSpec 2:=⟨rfl,fun H ds h=>by
 match ds,h with
 | [d1,d2],_=>rfl⟩
set_option maxRecDepth 100000 in
theorem stepGives_lifted(os:Os)(started:os.Started)(H:Type)(enc:TypeId × Value→H):
  ReturnsInHanded {} Tryz.checked os 6 .any (fun w args=>(Rows.stepGivesSpec.pre enc Tryz.prog Tryz.f6 [] false w args∧laidMetH Tryz.prog Z11u w)∧sizedMet enc Tryz.prog Tryz.f6 (OpenSpec.ofChange Rows.stepGivesSpec) false w args) (Rows.stepGivesSpec.post enc Tryz.prog Tryz.f6 false true false false):=
 Z1qg (C:=Tryz.checked) (X:=fun w _=>laidMetH Tryz.prog Z11u w) (fun _ _ _ hh h=>h.of_heap hh) (fun w _ h=>Z1kf w h) own started (by kernel_rfl) Tryz.func6 rfl (by decide)
  (ChangeSpec.witness_shaped (enc:=enc) (C:=Tryz.checked) (os:=os) (X:=fun w _=>laidMetH Tryz.prog Z11u w) false (World.doorLaid Tryz.prog 400 os) #[.agg #[.int .i64 0,.float .f64 0,.float .f64 0,.float .f64 0,.int .i64 0,.bool false,.slice none 0 0],.agg #[.slice none 0 0,.slice none 0 0,.slice none 0 0,.slice none 0 0,.int .i64 0,.int .i64 0]] 12 rfl (World.shaped_of_RefB (by kernel_rfl) (by kernel_rfl)) (by kernel_rfl) (by kernel_rfl) (by kernel_rfl) (Z1qh os _))
  Z1se (Z10c _ [Z7f,kSea] (by kernel_rfl)) (by decide +kernel) rfl (by kernel_rfl) stepGives_law Zr9 (fun x h w=>⟨⟨rngI h.1.1,⟨rngF h.1.2.1,rngF h.1.2.2.1,rngF h.1.2.2.2.1⟩,rngI h.1.2.2.2.2.1⟩,Z1u3 h.2.1⟩)
theorem stepGives_f1:(Rows.stepGivesRow.inPlace==Tryz.prog.inPlace 6)=true:=by kernel_rfl
theorem stepGives_f2:(Rows.stepGivesRow.unfollowed==Tryz.prog.unfollowed 6)=true:=by kernel_rfl
theorem stepGives_f3:(Rows.stepGivesRow.recurses==Tryz.prog.recurses 6)=true:=by kernel_rfl
theorem stepGives_f4:(Rows.stepGivesRow.named==Tryz.prog.varsNamed 6)=true:=by kernel_rfl
set_option maxRecDepth 100000 in
theorem stepGives_facts:joinedFacts Tryz.prog 6 Tryz.f6 Rows.stepGivesSpec Rows.stepGivesRow=true:=by
 unfold joinedFacts
 rw[stepGives_f1,stepGives_f2,stepGives_f3,stepGives_f4]
 kernel_rfl
theorem stepGives_holds:Rows.StepGivesSaid:=
 OpenClaim.holds_of_wide 6 Tryz.f6 rfl rfl rfl rfl rfl rfl rfl ⟨rfl,rfl,rfl,rfl,rfl⟩ rfl rfl rfl rfl rfl (by kernel_rfl) Tryz.func6 stepGives_facts
  (of_decide_eq_true (by kernel_rfl)) (by unfold Func.isWrapper; first | (rw[if_pos (by decide +kernel)]; kernel_rfl) | (rw[if_neg (by decide +kernel)]; exact⟨rfl,rfl⟩))
  (fun os started H enc _=>stepGives_lifted os started H enc)
theorem stepGives_card:Rows.StepGivesCardSaid:=
 Claim7.holds_tied_plain_at .later [] [.wider,.data] true (true, "683cf731385246db7796d8ad6f4eb180d9d408f70e5152c3a317b09496f26928") false
  stepGives_holds (fun _ h=>by cases h) (by kernel_rfl) (fun _ h=>by cases h) stepGives_row_tie rfl ⟨rfl,rfl⟩ (by kernel_rfl) rfl
  (fun f fn hf hfn=>by
   obtain rfl:f=6:=Option.some.inj ((show Tryz.prog.funcNamed "tarn/tarnlaw21.StepGives" = some 6 by kernel_rfl).symm.trans hf) |>.symm
   obtain rfl:fn=Tryz.f6:=(Option.some.inj (Tryz.func6.symm.trans hfn)).symm
   exact⟨by kernel_rfl,fun j t ht=>by
    rw[Tryz.params6]at ht
    have hm:t ∈ [25,29]:=by simpa using Array.mem_of_getElem? ht
    have hall:([25,29].all fun u=>!Tryz.prog.wantsStandIn u)=true:=by kernel_rfl
    exact(show Tryz.prog.wantsStandIn t=false by simpa using List.all_eq_true.1 hall t hm)⟩)
  (by kernel_rfl)
end Go.Proofs.YtkfafhbmdccmgaaGreatDoor
