/- tarnlaw19.RiverKeeps: at every input it returns true and leaves the arguments as they were; cube.frames and geom.frames read as the program's text lays them. -/
import Derived.Test.YtplhligfkbgllaaGreatDoorTie
import Derived.Test.YtplhligfkbgllaaGreatDoorCards
import Derived.Test.YtplhligfkbgllaaGreatDoorPtE
set_option linter.unusedVariables false
set_option linter.unusedSimpArgs false
set_option linter.unusedSectionVars false
open Go.IntKind (i64 u64 u32 u8)
open Go.FloatKind (f64 f32)
namespace Go.Lift
def Zve:=fun (ty3:Nat) (m:Md) (tb:Nat) (cs:List SV) (xs:List Int) (a b n:Int) (fv:EV) (k:EV→List HObj→Prop)=>HIs [HObj.box m tb cs,HObj.row Md.rw ty3
 (K.int i64) xs] [HObj.box m tb cs,HObj.row Md.rw ty3 (K.int i64) xs]∧∃ (I:Int × Unit→List Int × Unit→Prop),∃ (μ:Int × Unit→List Int × Unit→Nat),I
 ((0:Int),()) (xs,())∧∀ (x:Int × Unit) (y:List Int × Unit),I x y→∀ (a_1:Bool),a_1=decide (x.fst<n)→Br a_1 (∃ (h:(0:Int)≤i64.wrap (b+x.fst) ∧
 i64.wrap (b+x.fst)<(↑xs.length:Int)),∃ (h:(0:Int)≤i64.wrap (a+x.fst)∧i64.wrap (a+x.fst)<(↑xs.length:Int)),∃ (h:(0:Int) ≤
 i64.wrap (a+x.fst)∧i64.wrap (a+x.fst)<(↑xs.length:Int)),∃ (h:(0:Int)≤i64.wrap (b+x.fst)∧i64.wrap (b+x.fst)<(↑xs.length :
 Int)),HIs [HObj.box m tb cs,HObj.row Md.rw ty3 (K.int i64) ((y.fst.set ((0:Nat)+(i64.wrap (a+x.fst)).toNat) (y.fst.getD ((0:Nat)+(i64.wrap (b +
 x.fst)).toNat) (0:Int))).set ((0:Nat)+(i64.wrap (b+x.fst)).toNat) (y.fst.getD ((0:Nat)+(i64.wrap (a+x.fst)).toNat) (0:Int)))] [HObj.box m tb cs,
 HObj.row Md.rw ty3 (K.int i64) ((y.fst.set ((0:Nat)+(i64.wrap (a+x.fst)).toNat) (y.fst.getD ((0:Nat)+(i64.wrap (b+x.fst)).toNat) (0 :
 Int))).set ((0:Nat)+(i64.wrap (b+x.fst)).toNat) (y.fst.getD ((0:Nat)+(i64.wrap (a+x.fst)).toNat) (0:Int)))]∧I (i64.wrap (x.fst+(1 :
 Int)),()) ((y.fst.set ((0:Nat)+(i64.wrap (a+x.fst)).toNat) (y.fst.getD ((0:Nat)+(i64.wrap (b+x.fst)).toNat) (0:Int))).set ((0:Nat) +
 (i64.wrap (b+x.fst)).toNat) (y.fst.getD ((0:Nat)+(i64.wrap (a+x.fst)).toNat) (0:Int)),())∧μ (i64.wrap (x.fst+(1:Int)),()) ((y.fst.set ((0
 : Nat)+(i64.wrap (a+x.fst)).toNat) (y.fst.getD ((0:Nat)+(i64.wrap (b+x.fst)).toNat) (0:Int))).set ((0:Nat)+(i64.wrap (b+x.fst)).toNat)
 (y.fst.getD ((0:Nat)+(i64.wrap (a+x.fst)).toNat) (0:Int)),())<μ x y) (k (EV.tup []) [HObj.box m tb cs,HObj.row Md.rw ty3 (K.int i64) y.fst])
theorem Z17p (ty0:Nat) (m:Md) (tb:Nat) (cs:List SV) (xs:List Int) (a b n:Int) (fv:EV) (k:EV→List HObj→Prop) (h:List.length xs≤maxN∧0≤a∧0≤n∧a+n≤b∧b+n≤(List.length xs:Int)) (hk:∀ ys:List Int,ys=Z2l xs (swI a.toNat b.toNat n.toNat)∧ys.Perm xs→k (.tup []) [.box m tb cs,.row .rw ty0 (.int .i64) ys]):Zve ty0 m tb cs xs a b n fv k:=by
 obtain ⟨hl,ha,hn,hab,hb⟩:=h
 have mx:maxN=281474976710656:=rfl
 obtain ⟨A,rfl⟩:∃ q:Nat,a=(q:Int):=⟨a.toNat,by omega⟩
 obtain ⟨B,rfl⟩:∃ q:Nat,b=(q:Int):=⟨b.toNat,by omega⟩
 obtain ⟨N,rfl⟩:∃ q:Nat,n=(q:Int):=⟨n.toNat,by omega⟩
 simp only [Int.toNat_natCast] at hk
 refine ⟨rfl,fun x y=>∃ j:Nat,x.1=j∧j≤N∧y.1=Z2l xs (swI A B j)∧y.1.Perm xs,fun x _=>N - x.1.toNat,⟨0,rfl,by omega,(Z12u fun p _=>Z1bo A B p).symm,.refl _⟩,?_⟩
 rintro ⟨_,⟨⟩⟩ ⟨y,⟨⟩⟩ ⟨j,rfl,hj,hy,hp⟩
 dsimp only at hy hp ⊢
 have ly:y.length=xs.length:=by rw [hy,Z1r]
 rintro _ rfl
 refine Br.intro (fun d=>?_) fun d=>?_
 ·have d:j<N:=by have d:(j:Int)<N:=of_decide_eq_true d; omega
  rw [Z16 (x:=(B:Int)+j) (by omega) (by omega),Z16 (x:=(A:Int)+j) (by omega) (by omega),Z16 (x:=(j:Int)+1) (by omega) (by omega),show ((B:Int)+j).toNat=B+j by omega,show ((A:Int)+j).toNat=A+j by omega,Nat.zero_add,Nat.zero_add]
  refine ⟨⟨by omega,by omega⟩,⟨by omega,by omega⟩,⟨by omega,by omega⟩,⟨by omega,by omega⟩,rfl,⟨j+1,by omega,by omega,?_,?_⟩,by omega⟩
  ·show swp y (A+j) (B+j)=_
   rw [hy]; exact Z1a0 (by omega) (by omega)
  ·exact (Z12t (by omega) (by omega)).trans hp
 have d:j=N:=by have d:¬ (j:Int)<N:=of_decide_eq_false d; omega
 subst d
 exact hk _ ⟨hy,hp⟩
def Zni:=fun (ty3:Nat) (md:Md) (tb:Nat) (cs:List SV) (xs:List Int) (a m b:Int) (fv:EV) (k:EV→List HObj→Prop)=>HIs [HObj.box md tb cs,HObj.row Md.rw
 ty3 (K.int i64) xs] [HObj.box md tb cs,HObj.row Md.rw ty3 (K.int i64) xs]∧∃ (I:Int × Int × Unit→List Int × Unit→Prop),∃ (μ:Int × Int × Unit→List Int
 × Unit→Nat),I (i64.wrap (m - a),i64.wrap (b - m),()) (xs,())∧∀ (x:Int × Int × Unit) (y:List Int × Unit),I x y→∀ (a:Bool),a=(x.fst != x.snd.fst)
 → Br a (∀ (a:Bool),a=decide (x.fst > x.snd.fst)→Br a (∃ (x_4:(ty3=ty3)∧xs.length=y.fst.length∧y.fst.length≤maxN∧(0:Int)≤i64.wrap (m - x.fst)∧(0
 : Int)≤x.snd.fst∧i64.wrap (m - x.fst)+x.snd.fst≤m∧m+x.snd.fst≤(↑y.fst.length:Int)),∀ (ys:List Int),ys=Z2l y.fst (swI (i64.wrap (m -
 x.fst)).toNat m.toNat x.snd.fst.toNat)∧ys.Perm y.fst→HIs [HObj.box md tb cs,HObj.row Md.rw ty3 (K.int i64) ys] [HObj.box md tb cs,HObj.row Md.rw ty3 (K.int
 i64) ys]∧I (i64.wrap (x.fst - x.snd.fst),x.snd.fst,()) (ys,())∧μ (i64.wrap (x.fst - x.snd.fst),x.snd.fst,()) (ys,())<μ x y) (∃ (x_4:(ty3 =
 ty3)∧xs.length=y.fst.length∧y.fst.length≤maxN∧(0:Int)≤i64.wrap (m - x.fst)∧(0:Int)≤x.fst∧i64.wrap (m - x.fst)+x.fst≤i64.wrap
 (i64.wrap (m+x.snd.fst) - x.fst)∧i64.wrap (i64.wrap (m+x.snd.fst) - x.fst)+x.fst≤(↑y.fst.length:Int)),∀ (ys:List Int),ys=Z2l y.fst (swI
 (i64.wrap (m - x.fst)).toNat (i64.wrap (i64.wrap (m+x.snd.fst) - x.fst)).toNat x.fst.toNat)∧ys.Perm y.fst→HIs [HObj.box md tb cs,HObj.row Md.rw ty3
 (K.int i64) ys] [HObj.box md tb cs,HObj.row Md.rw ty3 (K.int i64) ys]∧I (x.fst,i64.wrap (x.snd.fst - x.fst),()) (ys,())∧μ (x.fst,i64.wrap
 (x.snd.fst - x.fst),()) (ys,())<μ x y)) (∃ (x_3:(ty3=ty3)∧xs.length=y.fst.length∧y.fst.length≤maxN∧(0:Int)≤i64.wrap (m - x.fst)∧(0:Int)≤x.fst ∧
 i64.wrap (m - x.fst)+x.fst≤m∧m+x.fst≤(↑y.fst.length:Int)),∀ (ys:List Int),ys=Z2l y.fst (swI (i64.wrap (m - x.fst)).toNat m.toNat x.fst.toNat) ∧
 ys.Perm y.fst→k (EV.tup []) [HObj.box md tb cs,HObj.row Md.rw ty3 (K.int i64) ys])
theorem Z1ah (ty0:Nat) (md:Md) (tb:Nat) (cs:List SV) (xs:List Int) (a m b:Int) (fv:EV) (k:EV→List HObj→Prop) (h:List.length xs≤maxN∧0≤a∧a<m∧m<b∧b≤(List.length xs:Int)) (hk:∀ ys:List Int,ys=Z2l xs (rotI a.toNat m.toNat b.toNat)∧ys.Perm xs→k (.tup []) [.box md tb cs,.row .rw ty0 (.int .i64) ys]):Zni ty0 md tb cs xs a m b fv k:=by
 unfold Zni
 obtain ⟨hl,ha,ham,hmb,hb⟩:=h
 have mx:maxN=281474976710656:=rfl
 obtain ⟨A,rfl⟩:∃ q:Nat,a=(q:Int):=⟨a.toNat,by omega⟩
 obtain ⟨M,rfl⟩:∃ q:Nat,m=(q:Int):=⟨m.toNat,by omega⟩
 obtain ⟨B,rfl⟩:∃ q:Nat,b=(q:Int):=⟨b.toNat,by omega⟩
 simp only [Int.toNat_natCast] at hk
 have wsub:∀ u v:Nat,v≤u→u≤xs.length→i64.wrap ((u:Int) - v)=((u - v:Nat):Int):=fun u v h1 h2=>by rw [Z16 (by omega) (by omega)]; omega
 rw [wsub M A (by omega) (by omega),wsub B M (by omega) (by omega)]
 refine ⟨rfl,fun x y=>∃ i j:Nat,x.1=i∧x.2.1=j∧0<i∧0<j∧i≤M∧M+j≤xs.length∧y.1.length=xs.length∧Z2l y.1 (rotI (M - i) M (M+j))=Z2l xs (rotI A M B)∧y.1.Perm xs,fun x _=>(x.1+x.2.1).toNat,⟨M - A,B - M,rfl,rfl,by omega,by omega,by omega,by omega,rfl,by rw [show M - (M - A)=A by omega,show M+(B - M)=B by omega],.refl _⟩,?_⟩
 rintro ⟨_,_,⟨⟩⟩ ⟨y,⟨⟩⟩ ⟨i,j,rfl,rfl,hi,hj,hiM,hMj,ly,hy,hp⟩
 dsimp only at ly hy hp ⊢
 rintro _ rfl
 refine Br.intro (fun d=>?_) fun d=>?_
 ·have d:i≠j:=fun e=>by subst e; simp at d
  rintro _ rfl
  refine Br.intro (fun e=>?_) fun e=>?_
  ·have e:j<i:=by have e:(j:Int)<i:=of_decide_eq_true e; omega
   rw [wsub M i (by omega) (by omega),Int.toNat_natCast,Int.toNat_natCast,Int.toNat_natCast,Z16 (x:=(i:Int) - j) (by omega) (by omega)]
   refine ⟨⟨rfl,ly.symm,by omega,by omega,by omega,by omega,by omega⟩,?_⟩
   rintro ys ⟨rfl,hps⟩
   refine ⟨rfl,⟨i - j,j,by omega,rfl,by omega,hj,by omega,hMj,by rw [Z1r]; exact ly,?_,hps.trans hp⟩,by omega⟩
   rw [Zpw (υ:=rotI (M - i) M (M+j)) (fun p hp=>Zwe (by omega) (by omega) (by omega) hp) fun p _=>Z1bp hj e hiM p]
   exact hy
  ·have e:i<j:=by have e:¬ (j:Int)<i:=of_decide_eq_false e; omega
   have w2:i64.wrap (i64.wrap ((M:Int)+j) - i)=((M+j - i:Nat):Int):=by rw [Z16 (x:=(M:Int)+j) (by omega) (by omega),Z16 (by omega) (by omega)]; omega
   rw [w2,wsub M i (by omega) (by omega),Int.toNat_natCast,Int.toNat_natCast,Int.toNat_natCast,Z16 (x:=(j:Int) - i) (by omega) (by omega)]
   refine ⟨⟨rfl,ly.symm,by omega,by omega,by omega,by omega,by omega⟩,?_⟩
   rintro ys ⟨rfl,hps⟩
   refine ⟨rfl,⟨i,j - i,rfl,by omega,hi,by omega,by omega,by omega,by rw [Z1r]; exact ly,?_,hps.trans hp⟩,by omega⟩
   rw [Zpw (υ:=rotI (M - i) M (M+j)) (fun p hp=>Zwe (by omega) (by omega) (by omega) hp) fun p _=>Z1bq hi e hiM p]
   exact hy
 have d:i=j:=by
  have d:(i:Int)=j:=by simpa using d
  omega
 subst d
 rw [wsub M i (by omega) (by omega),Int.toNat_natCast,Int.toNat_natCast,Int.toNat_natCast]
 refine ⟨⟨rfl,ly.symm,by omega,by omega,by omega,by omega,by omega⟩,?_⟩
 rintro ys ⟨hys,hps⟩
 refine hk _ ⟨?_,hps.trans hp⟩
 rw [← hy,hys]
 congr 1
 funext p
 exact Z1br hi hiM p
def Znj:=fun (ty3:Nat) (m:Md) (tb:Nat) (bed:List Nat) (xs:List Int) (a b:Int) (k:EV→List HObj→Prop)=>HIs [HObj.box m tb [SV.data (K.flt
 f64).slice bed],HObj.row Md.rw ty3 (K.int i64) xs] [HObj.box m tb [SV.data (K.flt f64).slice bed],HObj.row Md.rw ty3 (K.int i64) xs] ∧
 ∃ (I:Int × Unit→List Int × Unit→Prop),∃ (μ:Int × Unit→List Int × Unit→Nat),I (i64.wrap (a+(1:Int)),()) (xs,())∧∀ (x:Int × Unit) (y:List Int ×
 Unit),I x y→∀ (a_1:Bool),a_1=decide (x.fst<b)→Br a_1 (HIs [HObj.box m tb [SV.data (K.flt f64).slice bed],HObj.row Md.rw ty3 (K.int i64) y.fst]
 [HObj.box m tb [SV.data (K.flt f64).slice bed],HObj.row Md.rw ty3 (K.int i64) y.fst]∧∃ (I_1:Int × Unit→List Int × Unit→Prop),∃ (μ_1:Int × Unit →
 List Int × Unit→Nat),I_1 (x.fst,()) (y.fst,())∧∀ (x_3:Int × Unit) (y_1:List Int × Unit),I_1 x_3 y_1→∀ (a_2:Bool),a_2=decide (x_3.fst > a)→Br a_2 (∃ (h:(0 :
 Int)≤x_3.fst∧x_3.fst<(↑xs.length:Int)),∃ (h:(0:Int)≤i64.wrap (x_3.fst - (1:Int))∧i64.wrap (x_3.fst - (1:Int))<(↑xs.length:Int)),∃ (h :
 WCmp (y_1.fst.getD ((0:Nat)+x_3.fst.toNat) (0:Int)) (y_1.fst.getD ((0:Nat)+(i64.wrap (x_3.fst - (1:Int))).toNat) (0:Int)) (some bed)),∀ (a:Int ×
 Unit),a=Z8e (y_1.fst.getD ((0:Nat)+x_3.fst.toNat) (0:Int)) (y_1.fst.getD ((0:Nat)+(i64.wrap (x_3.fst - (1:Int))).toNat) (0:Int)) (some bed)→∀
 (a_3:Bool),a_3=decide (a.fst<(0:Int))→Br a_3 (∃ (h:(0:Int)≤i64.wrap (x_3.fst - (1:Int))∧i64.wrap (x_3.fst - (1:Int))<(↑xs.length:Int)),
 ∃ (h:(0:Int)≤x_3.fst∧x_3.fst<(↑xs.length:Int)),∃ (h:(0:Int)≤x_3.fst∧x_3.fst<(↑xs.length:Int)),∃ (h:(0:Int)≤i64.wrap (x_3.fst - (1:Int)) ∧
 i64.wrap (x_3.fst - (1:Int))<(↑xs.length:Int)),HIs [HObj.box m tb [SV.data (K.flt f64).slice bed],HObj.row Md.rw ty3 (K.int i64) ((y_1.fst.set
 ((0:Nat)+x_3.fst.toNat) (y_1.fst.getD ((0:Nat)+(i64.wrap (x_3.fst - (1:Int))).toNat) (0:Int))).set ((0:Nat)+(i64.wrap (x_3.fst - (1:Int))).toNat)
 (y_1.fst.getD ((0:Nat)+x_3.fst.toNat) (0:Int)))] [HObj.box m tb [SV.data (K.flt f64).slice bed],HObj.row Md.rw ty3 (K.int i64) ((y_1.fst.set ((0:Nat)
 + x_3.fst.toNat) (y_1.fst.getD ((0:Nat)+(i64.wrap (x_3.fst - (1:Int))).toNat) (0:Int))).set ((0:Nat)+(i64.wrap (x_3.fst - (1:Int))).toNat)
 (y_1.fst.getD ((0:Nat)+x_3.fst.toNat) (0:Int)))]∧I_1 (i64.wrap (x_3.fst - (1:Int)),()) ((y_1.fst.set ((0:Nat)+x_3.fst.toNat) (y_1.fst.getD ((0:Nat) +
 (i64.wrap (x_3.fst - (1:Int))).toNat) (0:Int))).set ((0:Nat)+(i64.wrap (x_3.fst - (1:Int))).toNat) (y_1.fst.getD ((0:Nat)+x_3.fst.toNat) (0:Int)),
 ())∧μ_1 (i64.wrap (x_3.fst - (1:Int)),()) ((y_1.fst.set ((0:Nat)+x_3.fst.toNat) (y_1.fst.getD ((0:Nat)+(i64.wrap (x_3.fst - (1:Int))).toNat) (0 :
 Int))).set ((0:Nat)+(i64.wrap (x_3.fst - (1:Int))).toNat) (y_1.fst.getD ((0:Nat)+x_3.fst.toNat) (0:Int)),())<μ_1 x_3 y_1) (HIs [HObj.box m tb [SV.data
 (K.flt f64).slice bed],HObj.row Md.rw ty3 (K.int i64) y_1.fst] [HObj.box m tb [SV.data (K.flt f64).slice bed],HObj.row Md.rw ty3 (K.int
 i64) y_1.fst]∧I (i64.wrap (x.fst+(1:Int)),()) (y_1.fst,())∧μ (i64.wrap (x.fst+(1:Int)),()) (y_1.fst,())<μ x y)) (HIs [HObj.box m tb
 [SV.data (K.flt f64).slice bed],HObj.row Md.rw ty3 (K.int i64) y_1.fst] [HObj.box m tb [SV.data (K.flt f64).slice bed],HObj.row Md.rw ty3
 (K.int i64) y_1.fst]∧I (i64.wrap (x.fst+(1:Int)),()) (y_1.fst,())∧μ (i64.wrap (x.fst+(1:Int)),()) (y_1.fst,())<μ x y)) (k (EV.tup [])
 [HObj.box m tb [SV.data (K.flt f64).slice bed],HObj.row Md.rw ty3 (K.int i64) y.fst])
theorem Z1ai (ty0:Nat) (m:Md) (tb:Nat) (bed:List Nat) (xs:List Int) (a b:Int) (k:EV→List HObj→Prop) (h:Z2w bed xs∧0≤a∧a≤b∧b≤(List.length xs:Int)) (hk:∀ ys:List Int,Rr (keyB bed) a.toNat b.toNat xs ys∧Sgm (keyB bed) ys a.toNat b.toNat→k (.tup []) [.box m tb [.data (.slice (.flt .f64)) bed],.row .rw ty0 (.int .i64) ys]):Znj ty0 m tb bed xs a b k:=by
 unfold Znj
 obtain ⟨bo,ha,hab,hb⟩:=h
 have mx:maxN=281474976710656:=rfl
 have hmx:=bo.2.2
 obtain ⟨A,rfl⟩:∃ q:Nat,a=(q:Int):=⟨a.toNat,by omega⟩
 obtain ⟨B,rfl⟩:∃ q:Nat,b=(q:Int):=⟨b.toNat,by omega⟩
 simp only [Int.toNat_natCast] at hk
 rw [Z16 (x:=(A:Int)+1) (by omega) (by omega)]
 refine ⟨rfl,fun x y=>∃ i:Nat,x.1=i∧A<i∧Rr (keyB bed) A B xs y.1∧Sgm (keyB bed) y.1 A i,fun x _=>B - x.1.toNat,⟨A+1,by omega,by omega,.refl _ _ _,.one (by omega)⟩,?_⟩
 rintro ⟨_,⟨⟩⟩ ⟨y,⟨⟩⟩ ⟨i,rfl,hi,hr,hs⟩
 dsimp only at hr hs ⊢
 rintro _ rfl
 refine Br.intro (fun d=>?_) fun d=>?_
 rotate_left
 ·have d:B≤i:=by have d:¬ (i:Int)<B:=of_decide_eq_false d; omega
  exact hk _ ⟨hr,hs.sub (Nat.le_refl _) d⟩
 have d:i<B:=by have d:(i:Int)<B:=of_decide_eq_true d; omega
 rw [Z16 (x:=(i:Int)+1) (by omega) (by omega)]
 refine ⟨rfl,fun x y=>∃ j:Nat,x.1=j∧A≤j∧j≤i∧Rr (keyB bed) A B xs y.1∧InsI (keyB bed) y.1 A i j,fun x _=>x.1.toNat,⟨i,rfl,by omega,by omega,hr,.start hs⟩,?_⟩
 rintro ⟨_,⟨⟩⟩ ⟨z,⟨⟩⟩ ⟨j,rfl,hj1,hj2,hz,hI⟩
 dsimp only at hz hI ⊢
 have lz:=hz.len
 have bz:=bo.perm hz.perm
 rintro _ rfl
 refine Br.intro (fun e=>?_) fun e=>?_
 rotate_left
 ·have e:j=A:=by have e:¬ (A:Int)<j:=of_decide_eq_false e; omega
  exact ⟨rfl,⟨i+1,by omega,by omega,hz,hI.done hj2 (.inl e)⟩,by omega⟩
 have e:A<j:=by have e:(A:Int)<j:=of_decide_eq_true e; omega
 obtain ⟨j',rfl⟩:∃ j',j=j'+1:=⟨j - 1,by omega⟩
 have w1:i64.wrap (((j'+1:Nat):Int) - 1)=(j':Int):=by rw [Z16 (by omega) (by omega)]; omega
 rw [w1,Int.toNat_natCast,Int.toNat_natCast,Nat.zero_add,Nat.zero_add]
 refine ⟨⟨by omega,by omega⟩,⟨by omega,by omega⟩,bz.cmp (by omega) (by omega),?_⟩
 rintro _ rfl
 rintro _ rfl
 refine Br.intro (fun c=>?_) fun c=>?_
 ·have c:keyB bed (at0 z (j'+1))<keyB bed (at0 z j'):=(Z61 _ _ _).1 (of_decide_eq_true c)
  exact ⟨⟨by omega,by omega⟩,⟨by omega,by omega⟩,⟨by omega,by omega⟩,⟨by omega,by omega⟩,rfl,⟨j',rfl,by omega,by omega,hz.trans (Z12v (i:=j') (by omega) (by omega) (by omega) c),hI.step hj2 (by omega) (by omega) c⟩,by omega⟩
 ·have c:¬ keyB bed (at0 z (j'+1))<keyB bed (at0 z j'):=fun q=>of_decide_eq_false c ((Z61 _ _ _).2 q)
  exact ⟨rfl,⟨i+1,by omega,by omega,hz,hI.done hj2 (.inr ⟨e,by show keyB bed (at0 z (j'+1 - 1))≤_; rw [show j'+1 - 1=j' by omega]; omega⟩)⟩,by omega⟩
def Znk:=fun (ty3 fn72:Nat) (md:Md) (tb N:Nat) (bed:List Nat) (xs:List Int) (a m b:Int) (k:EV→List HObj→Prop)=>∀ (a_1:Bool),a_1=(i64.wrap (m
 - a)==(1:Int))→Br a_1 (HIs [HObj.box md tb [SV.data (K.flt f64).slice bed],HObj.row Md.rw ty3 (K.int i64) xs] [HObj.box md tb [SV.data (K.flt
 f64).slice bed],HObj.row Md.rw ty3 (K.int i64) xs]∧∃ (I:Int × Int × Unit→Unit→Prop),∃ (μ:Int × Int × Unit→Unit→Nat),I (m,b,()) ()∧∀ (x :
 Int × Int × Unit) (y:Unit),I x y→∀ (a_2:Bool),a_2=decide (x.fst<x.snd.fst)→Br a_2 (∃ (h:(0:Int)≤(1:Int)),∃ (h:(0:Int)≤i64.wrap
 ((u64.wrap (i64.wrap (x.fst+x.snd.fst))).fdiv ((2:Int) ^ Min.min (Int.toNat (1:Int)) u64.bits))∧i64.wrap ((u64.wrap
 (i64.wrap (x.fst+x.snd.fst))).fdiv ((2:Int) ^ Min.min (Int.toNat (1:Int)) u64.bits))<(↑xs.length:Int)),∃ (h:(0:Int)≤a∧a<(↑xs.length:Int)),∃
 (h:WCmp (xs.getD ((0:Nat)+(i64.wrap ((u64.wrap (i64.wrap (x.fst+x.snd.fst))).fdiv ((2:Int) ^ Min.min (Int.toNat (1:Int))
 u64.bits))).toNat) (0:Int)) (xs.getD ((0:Nat)+a.toNat) (0:Int)) (some bed)),∀ (a_3:Int × Unit),a_3=Z8e (xs.getD ((0:Nat)+(i64.wrap
 ((u64.wrap (i64.wrap (x.fst+x.snd.fst))).fdiv ((2:Int) ^ Min.min (Int.toNat (1:Int)) u64.bits))).toNat) (0:Int)) (xs.getD ((0:Nat)+a.toNat) (0
 : Int)) (some bed)→∀ (a:Bool),a=decide (a_3.fst<(0:Int))→Br a (HIs [HObj.box md tb [SV.data (K.flt f64).slice bed],HObj.row Md.rw ty3 (K.int
 i64) xs] [HObj.box md tb [SV.data (K.flt f64).slice bed],HObj.row Md.rw ty3 (K.int i64) xs]∧I (i64.wrap (i64.wrap
 ((u64.wrap (i64.wrap (x.fst+x.snd.fst))).fdiv ((2:Int) ^ Min.min (Int.toNat (1:Int)) u64.bits))+(1:Int)),x.snd.fst,()) ()∧μ (i64.wrap
 (i64.wrap ((u64.wrap (i64.wrap (x.fst+x.snd.fst))).fdiv ((2:Int) ^ Min.min (Int.toNat (1:Int)) u64.bits))+(1:Int)),x.snd.fst,()) ()<μ
 x y) (HIs [HObj.box md tb [SV.data (K.flt f64).slice bed],HObj.row Md.rw ty3 (K.int i64) xs] [HObj.box md tb [SV.data (K.flt f64).slice bed],
 HObj.row Md.rw ty3 (K.int i64) xs]∧I (x.fst,i64.wrap ((u64.wrap (i64.wrap (x.fst+x.snd.fst))).fdiv ((2:Int) ^ Min.min (Int.toNat (1:Int))
 u64.bits)),()) ()∧μ (x.fst,i64.wrap ((u64.wrap (i64.wrap (x.fst+x.snd.fst))).fdiv ((2:Int) ^ Min.min (Int.toNat (1:Int))
 u64.bits)),()) ()<μ x y)) (HIs [HObj.box md tb [SV.data (K.flt f64).slice bed],HObj.row Md.rw ty3 (K.int i64) xs] [HObj.box md tb [SV.data (K.flt
 f64).slice bed],HObj.row Md.rw ty3 (K.int i64) xs]∧∃ (I:Int × Unit→List Int × Unit→Prop),∃ (μ:Int × Unit→List Int × Unit→Nat),I (a,()) (xs,
 ())∧∀ (x_3:Int × Unit) (y:List Int × Unit),I x_3 y→∀ (a:Bool),a=decide (x_3.fst<i64.wrap (x.fst - (1:Int)))→Br a (∃ (h:(0:Int)≤i64.wrap
 (x_3.fst+(1:Int))∧i64.wrap (x_3.fst+(1:Int))<(↑xs.length:Int)),∃ (h:(0:Int)≤x_3.fst∧x_3.fst<(↑xs.length:Int)),∃ (h:(0:Int)≤x_3.fst ∧
 x_3.fst<(↑xs.length:Int)),∃ (h:(0:Int)≤i64.wrap (x_3.fst+(1:Int))∧i64.wrap (x_3.fst+(1:Int))<(↑xs.length:Int)),HIs [HObj.box md tb
 [SV.data (K.flt f64).slice bed],HObj.row Md.rw ty3 (K.int i64) ((y.fst.set ((0:Nat)+x_3.fst.toNat) (y.fst.getD ((0:Nat)+(i64.wrap (x_3.fst +
 (1:Int))).toNat) (0:Int))).set ((0:Nat)+(i64.wrap (x_3.fst+(1:Int))).toNat) (y.fst.getD ((0:Nat)+x_3.fst.toNat) (0:Int)))] [HObj.box md tb [SV.data
 (K.flt f64).slice bed],HObj.row Md.rw ty3 (K.int i64) ((y.fst.set ((0:Nat)+x_3.fst.toNat) (y.fst.getD ((0:Nat)+(i64.wrap (x_3.fst+(1 :
 Int))).toNat) (0:Int))).set ((0:Nat)+(i64.wrap (x_3.fst+(1:Int))).toNat) (y.fst.getD ((0:Nat)+x_3.fst.toNat) (0:Int)))]∧I (i64.wrap (x_3.fst+(1
 : Int)),()) ((y.fst.set ((0:Nat)+x_3.fst.toNat) (y.fst.getD ((0:Nat)+(i64.wrap (x_3.fst+(1:Int))).toNat) (0:Int))).set ((0:Nat)+(i64.wrap
 (x_3.fst+(1:Int))).toNat) (y.fst.getD ((0:Nat)+x_3.fst.toNat) (0:Int)),())∧μ (i64.wrap (x_3.fst+(1:Int)),()) ((y.fst.set ((0:Nat)+x_3.fst.toNat)
 (y.fst.getD ((0:Nat)+(i64.wrap (x_3.fst+(1:Int))).toNat) (0:Int))).set ((0:Nat)+(i64.wrap (x_3.fst+(1:Int))).toNat) (y.fst.getD ((0:Nat) +
 x_3.fst.toNat) (0:Int)),())<μ x_3 y) (k (EV.tup []) [HObj.box md tb [SV.data (K.flt f64).slice bed],HObj.row Md.rw ty3 (K.int i64) y.fst]))) (∀ (a_2 :
 Bool),a_2=(i64.wrap (b - m)==(1:Int))→Br a_2 (HIs [HObj.box md tb [SV.data (K.flt f64).slice bed],HObj.row Md.rw ty3 (K.int i64) xs]
 [HObj.box md tb [SV.data (K.flt f64).slice bed],HObj.row Md.rw ty3 (K.int i64) xs]∧∃ (I:Int × Int × Unit→Unit→Prop),∃ (μ:Int × Int × Unit→Unit →
 Nat),I (a,m,()) ()∧∀ (x:Int × Int × Unit) (y:Unit),I x y→∀ (a:Bool),a=decide (x.fst<x.snd.fst)→Br a (∃ (h:(0:Int)≤(1:Int)),∃ (h:(0:Int)≤m∧m <
 (↑xs.length:Int)),∃ (h:(0:Int)≤i64.wrap ((u64.wrap (i64.wrap (x.fst+x.snd.fst))).fdiv ((2:Int) ^ Min.min (Int.toNat (1:Int))
 u64.bits))∧i64.wrap ((u64.wrap (i64.wrap (x.fst+x.snd.fst))).fdiv ((2:Int) ^ Min.min (Int.toNat (1:Int)) u64.bits))<(↑xs.length :
 Int)),∃ (h:WCmp (xs.getD ((0:Nat)+m.toNat) (0:Int)) (xs.getD ((0:Nat)+(i64.wrap ((u64.wrap (i64.wrap (x.fst+x.snd.fst))).fdiv ((2:Int) ^
 Min.min (Int.toNat (1:Int)) u64.bits))).toNat) (0:Int)) (some bed)),∀ (a:Int × Unit),a=Z8e (xs.getD ((0:Nat)+m.toNat) (0:Int)) (xs.getD ((0:Nat)
 + (i64.wrap ((u64.wrap (i64.wrap (x.fst+x.snd.fst))).fdiv ((2:Int) ^ Min.min (Int.toNat (1:Int)) u64.bits))).toNat) (0:Int)) (some
 bed)→∀ (a_3:Bool),a_3=decide (a.fst<(0:Int))→Br (!a_3) (HIs [HObj.box md tb [SV.data (K.flt f64).slice bed],HObj.row Md.rw ty3 (K.int i64) xs]
 [HObj.box md tb [SV.data (K.flt f64).slice bed],HObj.row Md.rw ty3 (K.int i64) xs]∧I (i64.wrap (i64.wrap ((u64.wrap
 (i64.wrap (x.fst+x.snd.fst))).fdiv ((2:Int) ^ Min.min (Int.toNat (1:Int)) u64.bits))+(1:Int)),x.snd.fst,()) ()∧μ (i64.wrap (i64.wrap
 ((u64.wrap (i64.wrap (x.fst+x.snd.fst))).fdiv ((2:Int) ^ Min.min (Int.toNat (1:Int)) u64.bits))+(1:Int)),x.snd.fst,()) ()<μ x y) (HIs
 [HObj.box md tb [SV.data (K.flt f64).slice bed],HObj.row Md.rw ty3 (K.int i64) xs] [HObj.box md tb [SV.data (K.flt f64).slice bed],HObj.row
 Md.rw ty3 (K.int i64) xs]∧I (x.fst,i64.wrap ((u64.wrap (i64.wrap (x.fst+x.snd.fst))).fdiv ((2:Int) ^ Min.min (Int.toNat (1:Int))
 u64.bits)),()) ()∧μ (x.fst,i64.wrap ((u64.wrap (i64.wrap (x.fst+x.snd.fst))).fdiv ((2:Int) ^ Min.min (Int.toNat (1:Int))
 u64.bits)),()) ()<μ x y)) (HIs [HObj.box md tb [SV.data (K.flt f64).slice bed],HObj.row Md.rw ty3 (K.int i64) xs] [HObj.box md tb [SV.data (K.flt
 f64).slice bed],HObj.row Md.rw ty3 (K.int i64) xs]∧∃ (I:Int × Unit→List Int × Unit→Prop),∃ (μ:Int × Unit→List Int × Unit→Nat),I (m,()) (xs,
 ())∧∀ (x_3:Int × Unit) (y:List Int × Unit),I x_3 y→∀ (a:Bool),a=decide (x_3.fst > x.fst)→Br a (∃ (h:(0:Int)≤i64.wrap (x_3.fst - (1:Int)) ∧
 i64.wrap (x_3.fst - (1:Int))<(↑xs.length:Int)),∃ (h:(0:Int)≤x_3.fst∧x_3.fst<(↑xs.length:Int)),∃ (h:(0:Int)≤x_3.fst∧x_3.fst<(↑xs.length :
 Int)),∃ (h:(0:Int)≤i64.wrap (x_3.fst - (1:Int))∧i64.wrap (x_3.fst - (1:Int))<(↑xs.length:Int)),HIs [HObj.box md tb [SV.data (K.flt
 f64).slice bed],HObj.row Md.rw ty3 (K.int i64) ((y.fst.set ((0:Nat)+x_3.fst.toNat) (y.fst.getD ((0:Nat)+(i64.wrap (x_3.fst - (1 :
 Int))).toNat) (0:Int))).set ((0:Nat)+(i64.wrap (x_3.fst - (1:Int))).toNat) (y.fst.getD ((0:Nat)+x_3.fst.toNat) (0:Int)))] [HObj.box md tb [SV.data (K.flt
 f64).slice bed],HObj.row Md.rw ty3 (K.int i64) ((y.fst.set ((0:Nat)+x_3.fst.toNat) (y.fst.getD ((0:Nat)+(i64.wrap (x_3.fst - (1 :
 Int))).toNat) (0:Int))).set ((0:Nat)+(i64.wrap (x_3.fst - (1:Int))).toNat) (y.fst.getD ((0:Nat)+x_3.fst.toNat) (0:Int)))]∧I (i64.wrap (x_3.fst - (1
 : Int)),()) ((y.fst.set ((0:Nat)+x_3.fst.toNat) (y.fst.getD ((0:Nat)+(i64.wrap (x_3.fst - (1:Int))).toNat) (0:Int))).set ((0:Nat)+(i64.wrap
 (x_3.fst - (1:Int))).toNat) (y.fst.getD ((0:Nat)+x_3.fst.toNat) (0:Int)),())∧μ (i64.wrap (x_3.fst - (1:Int)),()) ((y.fst.set ((0:Nat)+x_3.fst.toNat)
 (y.fst.getD ((0:Nat)+(i64.wrap (x_3.fst - (1:Int))).toNat) (0:Int))).set ((0:Nat)+(i64.wrap (x_3.fst - (1:Int))).toNat) (y.fst.getD ((0:Nat) +
 x_3.fst.toNat) (0:Int)),())<μ x_3 y) (k (EV.tup []) [HObj.box md tb [SV.data (K.flt f64).slice bed],HObj.row Md.rw ty3 (K.int i64) y.fst]))) (∃ (h:(0
 : Int)≤(1:Int)),∃ (post:Int × Int × Unit→Unit→Prop),(∀ (a_3:Bool),a_3=decide (m > i64.wrap ((u64.wrap (i64.wrap (a+b))).fdiv ((2:Int)
 ^ Min.min (Int.toNat (1:Int)) u64.bits)))→Br a_3 (HIs [HObj.box md tb [SV.data (K.flt f64).slice bed],HObj.row Md.rw ty3 (K.int i64) xs]
 [HObj.box md tb [SV.data (K.flt f64).slice bed],HObj.row Md.rw ty3 (K.int i64) xs]∧post (i64.wrap (i64.wrap (i64.wrap
 ((u64.wrap (i64.wrap (a+b))).fdiv ((2:Int) ^ Min.min (Int.toNat (1:Int)) u64.bits))+m) - b),i64.wrap ((u64.wrap (i64.wrap
 (a+b))).fdiv ((2:Int) ^ Min.min (Int.toNat (1:Int)) u64.bits)),()) ()) (HIs [HObj.box md tb [SV.data (K.flt f64).slice bed],HObj.row Md.rw ty3 (K.int
 i64) xs] [HObj.box md tb [SV.data (K.flt f64).slice bed],HObj.row Md.rw ty3 (K.int i64) xs]∧post (a,m,()) ()))∧∀ (x:Int × Int × Unit) (y :
 Unit),post x y→HIs [HObj.box md tb [SV.data (K.flt f64).slice bed],HObj.row Md.rw ty3 (K.int i64) xs] [HObj.box md tb [SV.data (K.flt
 f64).slice bed],HObj.row Md.rw ty3 (K.int i64) xs]∧∃ (I:Int × Int × Unit→Unit→Prop),∃ (μ:Int × Int × Unit→Unit→Nat),I (x.fst,x.snd.fst,())
 ()∧∀ (x:Int × Int × Unit) (y:Unit),I x y→∀ (a_3:Bool),a_3=decide (x.fst<x.snd.fst)→Br a_3 (∃ (h:(0:Int)≤(1:Int)),∃ (h:(0:Int)≤i64.wrap
 (i64.wrap (i64.wrap (i64.wrap ((u64.wrap (i64.wrap (a+b))).fdiv ((2:Int) ^ Min.min (Int.toNat (1:Int)) u64.bits))+m) - (1 :
 Int)) - i64.wrap ((u64.wrap (i64.wrap (x.fst+x.snd.fst))).fdiv ((2:Int) ^ Min.min (Int.toNat (1:Int)) u64.bits)))∧i64.wrap
 (i64.wrap (i64.wrap (i64.wrap ((u64.wrap (i64.wrap (a+b))).fdiv ((2:Int) ^ Min.min (Int.toNat (1:Int)) u64.bits))+m) - (1 :
 Int)) - i64.wrap ((u64.wrap (i64.wrap (x.fst+x.snd.fst))).fdiv ((2:Int) ^ Min.min (Int.toNat (1:Int)) u64.bits)))<(↑xs.length:Int)),∃ (h
 : (0:Int)≤i64.wrap ((u64.wrap (i64.wrap (x.fst+x.snd.fst))).fdiv ((2:Int) ^ Min.min (Int.toNat (1:Int)) u64.bits))∧i64.wrap
 ((u64.wrap (i64.wrap (x.fst+x.snd.fst))).fdiv ((2:Int) ^ Min.min (Int.toNat (1:Int)) u64.bits))<(↑xs.length:Int)),∃ (h:WCmp (xs.getD ((0 :
 Nat)+(i64.wrap (i64.wrap (i64.wrap (i64.wrap ((u64.wrap (i64.wrap (a+b))).fdiv ((2:Int) ^ Min.min (Int.toNat (1:Int))
 u64.bits))+m) - (1:Int)) - i64.wrap ((u64.wrap (i64.wrap (x.fst+x.snd.fst))).fdiv ((2:Int) ^ Min.min (Int.toNat (1:Int))
 u64.bits)))).toNat) (0:Int)) (xs.getD ((0:Nat)+(i64.wrap ((u64.wrap (i64.wrap (x.fst+x.snd.fst))).fdiv ((2:Int) ^ Min.min (Int.toNat (1 :
 Int)) u64.bits))).toNat) (0:Int)) (some bed)),∀ (a_4:Int × Unit),a_4=Z8e (xs.getD ((0:Nat)+(i64.wrap (i64.wrap (i64.wrap
 (i64.wrap ((u64.wrap (i64.wrap (a+b))).fdiv ((2:Int) ^ Min.min (Int.toNat (1:Int)) u64.bits))+m) - (1:Int)) - i64.wrap
 ((u64.wrap (i64.wrap (x.fst+x.snd.fst))).fdiv ((2:Int) ^ Min.min (Int.toNat (1:Int)) u64.bits)))).toNat) (0:Int)) (xs.getD ((0:Nat) +
 (i64.wrap ((u64.wrap (i64.wrap (x.fst+x.snd.fst))).fdiv ((2:Int) ^ Min.min (Int.toNat (1:Int)) u64.bits))).toNat) (0:Int)) (some
 bed)→∀ (a:Bool),a=decide (a_4.fst<(0:Int))→Br (!a) (HIs [HObj.box md tb [SV.data (K.flt f64).slice bed],HObj.row Md.rw ty3 (K.int i64) xs]
 [HObj.box md tb [SV.data (K.flt f64).slice bed],HObj.row Md.rw ty3 (K.int i64) xs]∧I (i64.wrap (i64.wrap ((u64.wrap
 (i64.wrap (x.fst+x.snd.fst))).fdiv ((2:Int) ^ Min.min (Int.toNat (1:Int)) u64.bits))+(1:Int)),x.snd.fst,()) ()∧μ (i64.wrap (i64.wrap
 ((u64.wrap (i64.wrap (x.fst+x.snd.fst))).fdiv ((2:Int) ^ Min.min (Int.toNat (1:Int)) u64.bits))+(1:Int)),x.snd.fst,()) ()<μ x y) (HIs
 [HObj.box md tb [SV.data (K.flt f64).slice bed],HObj.row Md.rw ty3 (K.int i64) xs] [HObj.box md tb [SV.data (K.flt f64).slice bed],HObj.row
 Md.rw ty3 (K.int i64) xs]∧I (x.fst,i64.wrap ((u64.wrap (i64.wrap (x.fst+x.snd.fst))).fdiv ((2:Int) ^ Min.min (Int.toNat (1:Int))
 u64.bits)),()) ()∧μ (x.fst,i64.wrap ((u64.wrap (i64.wrap (x.fst+x.snd.fst))).fdiv ((2:Int) ^ Min.min (Int.toNat (1:Int))
 u64.bits)),()) ()<μ x y)) (∃ (post:Unit→List Int × Unit→Prop),(∀ (a_4:Bool),a_4=decide (x.fst<m)→Br a_4 (∀ (a_5:Bool),a_5=decide (m <
 i64.wrap (i64.wrap (i64.wrap ((u64.wrap (i64.wrap (a+b))).fdiv ((2:Int) ^ Min.min (Int.toNat (1:Int)) u64.bits))+m) -
 x.fst))→Br a_5 (∃ (x_6:(ty3=ty3)∧xs.length=xs.length∧xs.length≤maxN∧(0:Int)≤x.fst∧x.fst<m∧m<i64.wrap (i64.wrap (i64.wrap
 ((u64.wrap (i64.wrap (a+b))).fdiv ((2:Int) ^ Min.min (Int.toNat (1:Int)) u64.bits))+m) - x.fst)∧i64.wrap (i64.wrap
 (i64.wrap ((u64.wrap (i64.wrap (a+b))).fdiv ((2:Int) ^ Min.min (Int.toNat (1:Int)) u64.bits))+m) - x.fst)≤(↑xs.length:Int)),∀ (ys :
 List Int),ys=Z2l xs (rotI x.fst.toNat m.toNat (i64.wrap (i64.wrap (i64.wrap ((u64.wrap (i64.wrap (a+b))).fdiv ((2:Int) ^ Min.min
 (Int.toNat (1:Int)) u64.bits))+m) - x.fst)).toNat)∧ys.Perm xs→HIs [HObj.box md tb [SV.data (K.flt f64).slice bed],HObj.row Md.rw ty3 (K.int
 i64) ys] [HObj.box md tb [SV.data (K.flt f64).slice bed],HObj.row Md.rw ty3 (K.int i64) ys]∧post () (ys,())) (HIs [HObj.box md tb [SV.data (K.flt
 f64).slice bed],HObj.row Md.rw ty3 (K.int i64) xs] [HObj.box md tb [SV.data (K.flt f64).slice bed],HObj.row Md.rw ty3 (K.int i64) xs] ∧
 post () (xs,()))) (HIs [HObj.box md tb [SV.data (K.flt f64).slice bed],HObj.row Md.rw ty3 (K.int i64) xs] [HObj.box md tb [SV.data (K.flt
 f64).slice bed],HObj.row Md.rw ty3 (K.int i64) xs]∧post () (xs,())))∧∀ (x_4:Unit) (y:List Int × Unit),post x_4 y→∃ (post:Unit→List Int × Unit
 → Prop),(∀ (a_4:Bool),a_4=decide (a<x.fst)→Br a_4 (∀ (a_5:Bool),a_5=decide (x.fst<i64.wrap ((u64.wrap (i64.wrap (a+b))).fdiv ((2:Int)
 ^ Min.min (Int.toNat (1:Int)) u64.bits)))→Br a_5 (∃ (x:(ty3=ty3)∧(fn72=fn72)∧xs.length=y.fst.length∧Z2w bed y.fst∧(0:Int)≤a∧a<x.fst∧x.fst <
 i64.wrap ((u64.wrap (i64.wrap (a+b))).fdiv ((2:Int) ^ Min.min (Int.toNat (1:Int)) u64.bits))∧i64.wrap ((u64.wrap
 (i64.wrap (a+b))).fdiv ((2:Int) ^ Min.min (Int.toNat (1:Int)) u64.bits))≤(↑y.fst.length:Int)∧(i64.wrap ((u64.wrap (i64.wrap (a
 + b))).fdiv ((2:Int) ^ Min.min (Int.toNat (1:Int)) u64.bits)) - a).toNat<N∧Sgm (keyB bed) y.fst a.toNat x.fst.toNat∧Sgm (keyB bed) y.fst x.fst.toNat
 (i64.wrap ((u64.wrap (i64.wrap (a+b))).fdiv ((2:Int) ^ Min.min (Int.toNat (1:Int)) u64.bits))).toNat),∀ (ys:List Int),Rr (keyB bed)
 a.toNat (i64.wrap ((u64.wrap (i64.wrap (a+b))).fdiv ((2:Int) ^ Min.min (Int.toNat (1:Int)) u64.bits))).toNat y.fst ys∧Sgm (keyB bed) ys
 a.toNat (i64.wrap ((u64.wrap (i64.wrap (a+b))).fdiv ((2:Int) ^ Min.min (Int.toNat (1:Int)) u64.bits))).toNat→HIs [HObj.box md tb [SV.data
 (K.flt f64).slice bed],HObj.row Md.rw ty3 (K.int i64) ys] [HObj.box md tb [SV.data (K.flt f64).slice bed],HObj.row Md.rw ty3 (K.int
 i64) ys]∧post () (ys,())) (HIs [HObj.box md tb [SV.data (K.flt f64).slice bed],HObj.row Md.rw ty3 (K.int i64) y.fst] [HObj.box md tb [SV.data
 (K.flt f64).slice bed],HObj.row Md.rw ty3 (K.int i64) y.fst]∧post () (y.fst,()))) (HIs [HObj.box md tb [SV.data (K.flt f64).slice bed],
 HObj.row Md.rw ty3 (K.int i64) y.fst] [HObj.box md tb [SV.data (K.flt f64).slice bed],HObj.row Md.rw ty3 (K.int i64) y.fst]∧post () (y.fst,()))) ∧
 ∀ (x_6:Unit) (y:List Int × Unit),post x_6 y→∀ (a_4:Bool),a_4=decide (i64.wrap ((u64.wrap (i64.wrap (a+b))).fdiv ((2:Int) ^ Min.min
 (Int.toNat (1:Int)) u64.bits))<i64.wrap (i64.wrap (i64.wrap ((u64.wrap (i64.wrap (a+b))).fdiv ((2:Int) ^ Min.min (Int.toNat
 (1:Int)) u64.bits))+m) - x.fst))→Br a_4 (∀ (a_5:Bool),a_5=decide (i64.wrap (i64.wrap (i64.wrap ((u64.wrap (i64.wrap (a +
 b))).fdiv ((2:Int) ^ Min.min (Int.toNat (1:Int)) u64.bits))+m) - x.fst)<b)→Br a_5 (∃ (x:(ty3=ty3)∧(fn72=fn72)∧xs.length=y.fst.length∧Z2w bed
 y.fst∧(0:Int)≤i64.wrap ((u64.wrap (i64.wrap (a+b))).fdiv ((2:Int) ^ Min.min (Int.toNat (1:Int)) u64.bits))∧i64.wrap
 ((u64.wrap (i64.wrap (a+b))).fdiv ((2:Int) ^ Min.min (Int.toNat (1:Int)) u64.bits))<i64.wrap (i64.wrap (i64.wrap
 ((u64.wrap (i64.wrap (a+b))).fdiv ((2:Int) ^ Min.min (Int.toNat (1:Int)) u64.bits))+m) - x.fst)∧i64.wrap (i64.wrap
 (i64.wrap ((u64.wrap (i64.wrap (a+b))).fdiv ((2:Int) ^ Min.min (Int.toNat (1:Int)) u64.bits))+m) - x.fst)<b∧b≤(↑y.fst.length:Int) ∧
 (b - i64.wrap ((u64.wrap (i64.wrap (a+b))).fdiv ((2:Int) ^ Min.min (Int.toNat (1:Int)) u64.bits))).toNat<N∧Sgm (keyB bed) y.fst
 (i64.wrap ((u64.wrap (i64.wrap (a+b))).fdiv ((2:Int) ^ Min.min (Int.toNat (1:Int)) u64.bits))).toNat (i64.wrap (i64.wrap
 (i64.wrap ((u64.wrap (i64.wrap (a+b))).fdiv ((2:Int) ^ Min.min (Int.toNat (1:Int)) u64.bits))+m) - x.fst)).toNat∧Sgm (keyB bed) y.fst
 (i64.wrap (i64.wrap (i64.wrap ((u64.wrap (i64.wrap (a+b))).fdiv ((2:Int) ^ Min.min (Int.toNat (1:Int)) u64.bits))+m) -
 x.fst)).toNat b.toNat),∀ (ys:List Int),Rr (keyB bed) (i64.wrap ((u64.wrap (i64.wrap (a+b))).fdiv ((2:Int) ^ Min.min (Int.toNat (1:Int))
 u64.bits))).toNat b.toNat y.fst ys∧Sgm (keyB bed) ys (i64.wrap ((u64.wrap (i64.wrap (a+b))).fdiv ((2:Int) ^ Min.min (Int.toNat (1:Int))
 u64.bits))).toNat b.toNat→k (EV.tup []) [HObj.box md tb [SV.data (K.flt f64).slice bed],HObj.row Md.rw ty3 (K.int i64) ys]) (k (EV.tup [])
 [HObj.box md tb [SV.data (K.flt f64).slice bed],HObj.row Md.rw ty3 (K.int i64) y.fst])) (k (EV.tup []) [HObj.box md tb [SV.data (K.flt
 f64).slice bed],HObj.row Md.rw ty3 (K.int i64) y.fst]))))
theorem Z1aj (ty0 ty1:Nat) (md:Md) (tb N:Nat) (bed:List Nat) (xs:List Int) (a m b:Int) (k:EV→List HObj→Prop) (h:Z2w bed xs∧0≤a∧a<m∧m<b∧b≤(List.length xs:Int)∧(b - a).toNat<N+1∧Sgm (keyB bed) xs a.toNat m.toNat∧Sgm (keyB bed) xs m.toNat b.toNat) (hk:∀ ys:List Int,Rr (keyB bed) a.toNat b.toNat xs ys∧Sgm (keyB bed) ys a.toNat b.toNat→k (.tup []) [.box md tb [.data (.slice (.flt .f64)) bed],.row .rw ty0 (.int .i64) ys]):Znk ty0 ty1 md tb N bed xs a m b k:=by
 unfold Znk
 obtain ⟨bo,ha,ham,hmb,hb,hN,hs1,hs2⟩:=h
 have mx:maxN=281474976710656:=rfl
 have hmx:=bo.2.2
 obtain ⟨A,rfl⟩:∃ q:Nat,a=(q:Int):=⟨a.toNat,by omega⟩
 obtain ⟨M,rfl⟩:∃ q:Nat,m=(q:Int):=⟨m.toNat,by omega⟩
 obtain ⟨B,rfl⟩:∃ q:Nat,b=(q:Int):=⟨b.toNat,by omega⟩
 simp only [Int.toNat_natCast] at hk hs1 hs2
 have ham:A<M:=by omega
 have hmb:M<B:=by omega
 have hb:B≤xs.length:=by omega
 have wsub:∀ u v:Nat,v≤u→u≤2*xs.length→i64.wrap ((u:Int) - v)=((u - v:Nat):Int):=fun u v h1 h2=>by rw [Z16 (by omega) (by omega)]; omega
 have whalf:∀ u v:Nat,u≤xs.length→v≤xs.length→i64.wrap ((u64.wrap (i64.wrap ((u:Int)+v))).fdiv (2 ^ Min.min (Int.toNat 1) u64.bits))=(((u+v) / 2:Nat):Int):=fun u v h1 h2=>by
  rw [Z1a2 (by omega) (by omega)]; omega
 have wadd:∀ u:Nat,u≤xs.length→i64.wrap ((u:Int)+1)=((u+1:Nat):Int):=fun u h1=>by rw [Z16 (by omega) (by omega)]; omega
 rw [wsub M A (by omega) (by omega),wsub B M (by omega) (by omega),whalf A B (by omega) (by omega)]
 have wdec:∀ u:Nat,1≤u→u≤2*xs.length→i64.wrap ((u:Int) - 1)=((u - 1:Nat):Int):=fun u h1 h2=>by rw [Z16 (by omega) (by omega)]; omega
 have dle:∀ u v:Nat,decide ((u:Int)<v)=true→u<v:=fun u v d=>by have d:(u:Int)<v:=of_decide_eq_true d; omega
 have dge:∀ u v:Nat,decide ((u:Int)<v)=false→v≤u:=fun u v d=>by have d:¬ (u:Int)<v:=of_decide_eq_false d; omega
 rintro _ rfl
 refine Br.intro (fun e=>?_) fun e=>?_
 ·have e:M=A+1:=by
   have e:((M - A:Nat):Int)=1:=by simpa using e
   omega
  refine ⟨rfl,fun x _=>∃ i j:Nat,x.1=i∧x.2.1=j∧M≤i∧i≤j∧j≤B∧(∀ p,M≤p→p<i→keyB bed (at0 xs p)<keyB bed (at0 xs A))∧(∀ p,j≤p→p<B→keyB bed (at0 xs A)≤keyB bed (at0 xs p)),fun x _=>(x.2.1 - x.1).toNat,⟨M,B,rfl,rfl,by omega,by omega,by omega,fun p h1 h2=>by omega,fun p h1 h2=>by omega⟩,?_⟩
  rintro ⟨_,_,⟨⟩⟩ _ ⟨i,j,rfl,rfl,h1,h2,h3,hlo,hhi⟩
  dsimp only
  rintro _ rfl
  refine Br.intro (fun d=>?_) fun d=>?_
  ·have d:=dle _ _ d
   obtain ⟨c,hc⟩:∃ c,(i+j) / 2=c:=⟨_,rfl⟩
   rw [whalf i j (by omega) (by omega),hc,Int.toNat_natCast,Int.toNat_natCast,Nat.zero_add,Nat.zero_add,wadd c (by omega)]
   refine ⟨by decide,⟨by omega,by omega⟩,⟨by omega,by omega⟩,bo.cmp (by omega) (by omega),?_⟩
   rintro _ rfl
   rintro _ rfl
   refine Br.intro (fun q=>?_) fun q=>?_
   ·have q:keyB bed (at0 xs c)<keyB bed (at0 xs A):=(Z61 _ _ _).1 (of_decide_eq_true q)
    refine ⟨rfl,⟨c+1,j,rfl,rfl,by omega,by omega,h3,fun p h1 h2=>?_,hhi⟩,by omega⟩
    have:=Zaz hs2 (i:=p) (j:=c) h1 (by omega) (by omega)
    omega
   ·have q:¬ keyB bed (at0 xs c)<keyB bed (at0 xs A):=fun w=>of_decide_eq_false q ((Z61 _ _ _).2 w)
    refine ⟨rfl,⟨i,c,rfl,rfl,h1,by omega,by omega,hlo,fun p h1 h2=>?_⟩,by omega⟩
    have:=Zaz hs2 (i:=c) (j:=p) (by omega) (by omega) (by omega)
    omega
  have d:=dge _ _ d
  have ij:i=j:=by omega
  subst ij
  refine ⟨rfl,fun x y=>∃ k:Nat,x.1=k∧A≤k∧k≤i - 1∧Rr (keyB bed) A B xs y.1∧ShU xs y.1 A k,fun x _=>i - 1 - x.1.toNat,⟨A,rfl,by omega,by omega,.refl _ _ _,.start _ _⟩,?_⟩
  rintro ⟨_,⟨⟩⟩ ⟨y,⟨⟩⟩ ⟨k,rfl,k1,k2,hr,hu⟩
  dsimp only at hr hu ⊢
  have ly:=hr.len
  rw [wdec i (by omega) (by omega)]
  rintro _ rfl
  refine Br.intro (fun d=>?_) fun d=>?_
  ·have d:=dle _ _ d
   rw [wadd k (by omega),Int.toNat_natCast,Int.toNat_natCast,Nat.zero_add,Nat.zero_add]
   have q:keyB bed (at0 y (k+1))<keyB bed (at0 y k):=by
    rw [hu (k+1),hu k,if_neg (by omega),if_neg (by omega),if_neg (by omega),if_pos rfl]
    exact hlo _ (by omega) (by omega)
   have hst:(y.set k (at0 y (k+1))).set (k+1) (at0 y k)=swp y (k+1) k:=Z1bw (by omega)
   refine ⟨⟨by omega,by omega⟩,⟨by omega,by omega⟩,⟨by omega,by omega⟩,⟨by omega,by omega⟩,rfl,⟨k+1,rfl,by omega,by omega,?_,?_⟩,by omega⟩
   ·show Rr (keyB bed) A B xs ((y.set k (at0 y (k+1))).set (k+1) (at0 y k))
    rw [hst]; exact hr.trans (Z12v (by omega) (by omega) (by omega) q)
   ·show ShU xs ((y.set k (at0 y (k+1))).set (k+1) (at0 y k)) A (k+1)
    rw [hst]; exact hu.step ly (by omega) (by omega)
  have d:=dge _ _ d
  have ek:k=i - 1:=by omega
  subst ek
  exact hk _ ⟨hr,hu.done (by omega) h3 (by rw [← e]; exact hs2) (fun p h1 h2=>hlo p (by omega) h2) hhi⟩
 rintro _ rfl
 refine Br.intro (fun e2=>?_) fun e2=>?_
 ·have e2:B=M+1:=by
   have e2:((B - M:Nat):Int)=1:=by simpa using e2
   omega
  refine ⟨rfl,fun x _=>∃ i j:Nat,x.1=i∧x.2.1=j∧A≤i∧i≤j∧j≤M∧(∀ p,A≤p→p<i→keyB bed (at0 xs p)≤keyB bed (at0 xs M))∧(∀ p,j≤p→p<M→keyB bed (at0 xs M)<keyB bed (at0 xs p)),fun x _=>(x.2.1 - x.1).toNat,⟨A,M,rfl,rfl,by omega,by omega,by omega,fun p h1 h2=>by omega,fun p h1 h2=>by omega⟩,?_⟩
  rintro ⟨_,_,⟨⟩⟩ _ ⟨i,j,rfl,rfl,h1,h2,h3,hlo,hhi⟩
  dsimp only
  rintro _ rfl
  refine Br.intro (fun d=>?_) fun d=>?_
  ·have d:=dle _ _ d
   obtain ⟨c,hc⟩:∃ c,(i+j) / 2=c:=⟨_,rfl⟩
   rw [whalf i j (by omega) (by omega),hc,Int.toNat_natCast,Int.toNat_natCast,Nat.zero_add,Nat.zero_add,wadd c (by omega)]
   refine ⟨by decide,⟨by omega,by omega⟩,⟨by omega,by omega⟩,bo.cmp (by omega) (by omega),?_⟩
   rintro _ rfl
   rintro _ rfl
   refine Br.intro (fun q=>?_) fun q=>?_
   ·have q:¬ keyB bed (at0 xs M)<keyB bed (at0 xs c):=fun w=>by
     have:decide ((Z8e (at0 xs M) (at0 xs c) (some bed)).fst<0)=true:=decide_eq_true ((Z61 _ _ _).2 w)
     unfold at0 at this
     rw [this] at q; exact absurd q (by decide)
    refine ⟨rfl,⟨c+1,j,rfl,rfl,by omega,by omega,h3,fun p h1 h2=>?_,hhi⟩,by omega⟩
    have:=Zaz hs1 (i:=p) (j:=c) h1 (by omega) (by omega)
    omega
   ·have q:keyB bed (at0 xs M)<keyB bed (at0 xs c):=(Z61 _ _ _).1 (by
     have q:decide ((Z8e (at0 xs M) (at0 xs c) (some bed)).fst<0)=true:=by simpa using q
     exact of_decide_eq_true q)
    refine ⟨rfl,⟨i,c,rfl,rfl,h1,by omega,by omega,hlo,fun p h1 h2=>?_⟩,by omega⟩
    have:=Zaz hs1 (i:=c) (j:=p) (by omega) (by omega) (by omega)
    omega
  have d:=dge _ _ d
  have ij:i=j:=by omega
  subst ij
  refine ⟨rfl,fun x y=>∃ k:Nat,x.1=k∧i≤k∧k≤M∧Rr (keyB bed) A B xs y.1∧ShD xs y.1 M k,fun x _=>x.1.toNat,⟨M,rfl,by omega,by omega,.refl _ _ _,.start _ _⟩,?_⟩
  rintro ⟨_,⟨⟩⟩ ⟨y,⟨⟩⟩ ⟨k,rfl,k1,k2,hr,hu⟩
  dsimp only at hr hu ⊢
  have ly:=hr.len
  rintro _ rfl
  refine Br.intro (fun d=>?_) fun d=>?_
  ·have d:=dle _ _ d
   obtain ⟨k',rfl⟩:∃ k',k=k'+1:=⟨k - 1,by omega⟩
   rw [wdec (k'+1) (by omega) (by omega),show k'+1 - 1=k' by omega,Int.toNat_natCast,Int.toNat_natCast,Nat.zero_add,Nat.zero_add]
   have q:keyB bed (at0 y (k'+1))<keyB bed (at0 y k'):=by
    rw [hu (k'+1),hu k',if_neg (by omega),if_pos rfl,if_neg (by omega),if_neg (by omega)]
    exact hhi _ (by omega) (by omega)
   exact ⟨⟨by omega,by omega⟩,⟨by omega,by omega⟩,⟨by omega,by omega⟩,⟨by omega,by omega⟩,rfl,⟨k',rfl,by omega,by omega,hr.trans (Z12v (by omega) (by omega) (by omega) q),hu.step ly (by omega) (by omega)⟩,by omega⟩
  have d:=dge _ _ d
  have ek:k=i:=by omega
  subst ek
  rw [e2] at hk
  rw [e2] at hr
  exact hk _ ⟨hr,hu.done h1 h3 hs1 hlo hhi⟩
 obtain ⟨mid,hm⟩:∃ mid,mid=(A+B) / 2:=⟨_,rfl⟩
 rw [← hm]
 refine ⟨by decide,fun x _=>∃ s0 r0:Nat,x.1=s0∧x.2.1=r0∧((M > mid∧s0+B=mid+M∧r0=mid)∨(M≤mid∧s0=A∧r0=M)),?_,?_⟩
 ·have wn:i64.wrap (i64.wrap ((mid:Int)+M) - B)=((mid+M - B:Nat):Int)∨M≤mid:=by
   by_cases q:M≤mid
   ·exact .inr q
   ·exact .inl (by rw [Z16 (x:=(mid:Int)+M) (by omega) (by omega),Z16 (by omega) (by omega)]; omega)
  rintro _ rfl
  refine Br.intro (fun d=>?_) fun d=>?_
  ·have d:=dle _ _ d
   rcases wn with wn | wn
   ·rw [wn]; exact ⟨rfl,_,_,rfl,rfl,.inl ⟨d,by omega,rfl⟩⟩
   ·omega
  ·have d:=dge _ _ d
   exact ⟨rfl,_,_,rfl,rfl,.inr ⟨d,rfl,rfl⟩⟩
 rintro ⟨_,_,⟨⟩⟩ _ ⟨s0,r0,rfl,rfl,h0⟩
 dsimp only
 have h00:A≤s0∧s0≤r0∧r0≤M∧∀ q,s0≤q→q<r0→M≤mid+M - 1 - q∧mid+M - 1 - q<B∧q≤mid+M - 1:=by
  rcases h0 with h0 | h0
  ·exact ⟨by omega,by omega,by omega,fun q q1 q2=>by omega⟩
  ·exact ⟨by omega,by omega,by omega,fun q q1 q2=>by omega⟩
 obtain ⟨h01,h02,h03,h04⟩:=h00
 refine ⟨rfl,fun x _=>∃ s r:Nat,x.1=s∧x.2.1=r∧s0≤s∧s≤r∧r≤r0∧(∀ q,s0≤q→q<s→keyB bed (at0 xs q)≤keyB bed (at0 xs (mid+M - 1 - q)))∧(∀ q,r≤q→q<r0→keyB bed (at0 xs (mid+M - 1 - q))<keyB bed (at0 xs q)),fun x _=>(x.2.1 - x.1).toNat,⟨s0,r0,rfl,rfl,by omega,by omega,by omega,fun q q1 q2=>by omega,fun q q1 q2=>by omega⟩,?_⟩
 rintro ⟨_,_,⟨⟩⟩ _ ⟨s,r,rfl,rfl,h1,h2,h3,hlo,hhi⟩
 dsimp only
 rintro _ rfl
 refine Br.intro (fun d=>?_) fun d=>?_
 ·have d:=dle _ _ d
  obtain ⟨c,hc⟩:∃ c,(s+r) / 2=c:=⟨_,rfl⟩
  obtain ⟨c1,c2,c3⟩:=h04 c (by omega) (by omega)
  have w3:i64.wrap (i64.wrap (i64.wrap ((mid:Int)+M) - 1) - c)=((mid+M - 1 - c:Nat):Int):=by
   rw [Z16 (x:=(mid:Int)+M) (by omega) (by omega),Z16 (x:=(mid:Int)+M - 1) (by omega) (by omega),Z16 (by omega) (by omega)]; omega
  rw [whalf s r (by omega) (by omega),hc,w3,Int.toNat_natCast,Int.toNat_natCast,Nat.zero_add,Nat.zero_add,wadd c (by omega)]
  refine ⟨by decide,⟨by omega,by omega⟩,⟨by omega,by omega⟩,bo.cmp (by omega) (by omega),?_⟩
  rintro _ rfl
  rintro _ rfl
  refine Br.intro (fun q=>?_) fun q=>?_
  ·have q:¬ keyB bed (at0 xs (mid+M - 1 - c))<keyB bed (at0 xs c):=fun w=>by
    have:decide ((Z8e (at0 xs (mid+M - 1 - c)) (at0 xs c) (some bed)).fst<0)=true:=decide_eq_true ((Z61 _ _ _).2 w)
    unfold at0 at this
    rw [this] at q; exact absurd q (by decide)
   refine ⟨rfl,⟨c+1,r,rfl,rfl,by omega,by omega,h3,fun p p1 p2=>?_,hhi⟩,by omega⟩
   have:=Zaz hs1 (i:=p) (j:=c) (by omega) (by omega) (by omega)
   have:=Zaz hs2 (i:=mid+M - 1 - c) (j:=mid+M - 1 - p) (by omega) (by omega) (h04 p p1 (by omega)).2.1
   omega
  ·have q:keyB bed (at0 xs (mid+M - 1 - c))<keyB bed (at0 xs c):=(Z61 _ _ _).1 (by
    have q:decide ((Z8e (at0 xs (mid+M - 1 - c)) (at0 xs c) (some bed)).fst<0)=true:=by simpa using q
    exact of_decide_eq_true q)
   refine ⟨rfl,⟨s,c,rfl,rfl,h1,by omega,by omega,hlo,fun p p1 p2=>?_⟩,by omega⟩
   have:=Zaz hs1 (i:=c) (j:=p) (by omega) (by omega) (by omega)
   have:=Zaz hs2 (i:=mid+M - 1 - p) (j:=mid+M - 1 - c) (h04 p (by omega) p2).1 (by omega) (by omega)
   omega
 have d:=dge _ _ d
 have sr:s=r:=by omega
 subst sr
 have cd:=cutd hm ham hmb h0 hs1 hs2 h1 h3 hlo hhi
 obtain ⟨l1,l2,l3,l4⟩:=cd.le
 have we:i64.wrap (i64.wrap ((mid:Int)+M) - s)=((mid+M - s:Nat):Int):=by rw [Z16 (x:=(mid:Int)+M) (by omega) (by omega),Z16 (by omega) (by omega)]; omega
 rw [we]
 have smid:A≤s∧s≤mid∧mid<B∧A<mid∧mid≤mid+M - s:=by omega
 refine ⟨fun _ y=>Trnd (keyB bed) xs y.1 A M B s (mid+M - s) mid,?_,?_⟩
 ·have same:s=M∨M=mid+M - s→Trnd (keyB bed) xs xs A M B s (mid+M - s) mid:=fun q=>trnd cd hm ham hmb hb hs1 hs2 (.refl _) (Z1a3 l2 l3 q).symm
  rintro _ rfl
  refine Br.intro (fun d=>?_) fun d=>⟨rfl,same (.inl (by have:=dge _ _ d; omega))⟩
  have d:=dle _ _ d
  rintro _ rfl
  refine Br.intro (fun d2=>?_) fun d2=>⟨rfl,same (.inr (by have:=dge _ _ d2; omega))⟩
  have d2:=dle _ _ d2
  refine ⟨⟨rfl,rfl,hmx,by omega,by omega,by omega,by omega⟩,?_⟩
  simp only [Int.toNat_natCast]
  rintro ys ⟨q1,q2⟩
  exact ⟨rfl,trnd cd hm ham hmb hb hs1 hs2 q2 q1⟩
 rintro _ ⟨y,⟨⟩⟩ ⟨hr,g1,g2,g3,g4,cr⟩
 dsimp only at hr g1 g2 g3 g4 cr ⊢
 have ly:=hr.len
 simp only [Int.toNat_natCast]
 have gA:s=A→Sgm (keyB bed) y A mid:=fun e=>by rw [← e]; exact g2
 have gM:s=mid→Sgm (keyB bed) y A mid:=fun e=>by rw [← e]; exact g1
 refine ⟨fun _ y=>Rr (keyB bed) A B xs y.1∧Sgm (keyB bed) y.1 A mid∧Sgm (keyB bed) y.1 mid (mid+M - s)∧Sgm (keyB bed) y.1 (mid+M - s) B∧Crs (keyB bed) y.1 A mid B,?_,?_⟩
 ·rintro _ rfl
  refine Br.intro (fun d=>?_) fun d=>⟨rfl,hr,gA (by have:=dge _ _ d; omega),g3,g4,cr⟩
  have d:=dle _ _ d
  rintro _ rfl
  refine Br.intro (fun d2=>?_) fun d2=>⟨rfl,hr,gM (by have:=dge _ _ d2; omega),g3,g4,cr⟩
  have d2:=dle _ _ d2
  refine ⟨⟨by trivial,by trivial,ly.symm,bo.perm hr.perm,by omega,by omega,by omega,by omega,by omega,g1,g2⟩,?_⟩
  rintro ys ⟨q1,q2⟩
  exact ⟨rfl,hr.trans (q1.wide (Nat.le_refl _) (by omega)),q2,q1.sgm g3 (.inr (Nat.le_refl _)),q1.sgm g4 (.inr (by omega)),cr.left q1⟩
 clear gA gM hr g1 g2 g3 g4 cr ly
 rintro _ ⟨y,⟨⟩⟩ ⟨hr,g1,g3,g4,cr⟩
 dsimp only at hr g1 g3 g4 cr ⊢
 have ly:=hr.len
 rintro _ rfl
 refine Br.intro (fun d=>?_) fun d=>hk _ ⟨hr,by
  have:=dge _ _ d
  have e:mid+M - s=mid:=by omega
  rw [e] at g4
  exact cr.join g1 g4⟩
 have d:=dle _ _ d
 rintro _ rfl
 refine Br.intro (fun d2=>?_) fun d2=>hk _ ⟨hr,by
  have:=dge _ _ d2
  have e:mid+M - s=B:=by omega
  rw [e] at g3
  exact cr.join g1 g3⟩
 have d2:=dle _ _ d2
 refine ⟨⟨by trivial,by trivial,ly.symm,bo.perm hr.perm,by omega,by omega,by omega,by omega,by omega,g3,g4⟩,?_⟩
 rintro ys ⟨q1,q2⟩
 exact hk _ ⟨hr.trans (q1.wide (by omega) (Nat.le_refl _)),(cr.right q1).join (q1.sgm g1 (.inl (Nat.le_refl _))) q2⟩
def Znl:=fun (ty3 fn72:Nat) (m:Md) (tb N:Nat) (bed:List Nat) (xs:List Int) (n:Int) (k:EV→List HObj→Prop)=>HIs [HObj.box m tb [SV.data (K.flt
 f64).slice bed],HObj.row Md.rw ty3 (K.int i64) xs] [HObj.box m tb [SV.data (K.flt f64).slice bed],HObj.row Md.rw ty3 (K.int i64) xs] ∧
 ∃ (I:Int × Int × Unit→List Int × Unit→Prop),∃ (μ:Int × Int × Unit→List Int × Unit→Nat),I ((0:Int),(20:Int),()) (xs,())∧∀ (x:Int × Int × Unit) (y:List
 Int × Unit),I x y→∀ (a:Bool),a=decide (x.snd.fst≤n)→Br a (∃ (x_3:(ty3=ty3)∧(fn72=fn72)∧xs.length=y.fst.length∧Z2w bed y.fst∧(0:Int)≤x.fst∧x.fst
 ≤ x.snd.fst∧x.snd.fst≤(↑y.fst.length:Int)),∀ (ys:List Int),Rr (keyB bed) x.fst.toNat x.snd.fst.toNat y.fst ys∧Sgm (keyB bed) ys x.fst.toNat x.snd.fst.toNat→HIs
 [HObj.box m tb [SV.data (K.flt f64).slice bed],HObj.row Md.rw ty3 (K.int i64) ys] [HObj.box m tb [SV.data (K.flt f64).slice bed],HObj.row Md.rw
 ty3 (K.int i64) ys]∧I (x.snd.fst,i64.wrap (x.snd.fst+(20:Int)),()) (ys,())∧μ (x.snd.fst,i64.wrap (x.snd.fst+(20:Int)),()) (ys,())<μ x
 y) (∃ (x_3:(ty3=ty3)∧(fn72=fn72)∧xs.length=y.fst.length∧Z2w bed y.fst∧(0:Int)≤x.fst∧x.fst≤n∧n≤(↑y.fst.length:Int)),∀ (ys:List Int),Rr (keyB
 bed) x.fst.toNat n.toNat y.fst ys∧Sgm (keyB bed) ys x.fst.toNat n.toNat→HIs [HObj.box m tb [SV.data (K.flt f64).slice bed],HObj.row Md.rw ty3 (K.int i64)
 ys] [HObj.box m tb [SV.data (K.flt f64).slice bed],HObj.row Md.rw ty3 (K.int i64) ys]∧∃ (I:Int × Unit→List Int × Unit→Prop),∃ (μ:Int × Unit→List
 Int × Unit→Nat),I ((20:Int),()) (ys,())∧∀ (x:Int × Unit) (y:List Int × Unit),I x y→∀ (a:Bool),a=decide (x.fst<n)→Br a (HIs [HObj.box m tb [SV.data (K.flt
 f64).slice bed],HObj.row Md.rw ty3 (K.int i64) y.fst] [HObj.box m tb [SV.data (K.flt f64).slice bed],HObj.row Md.rw ty3 (K.int i64)
 y.fst]∧∃ (I_1:Int × Int × Unit→List Int × Unit→Prop),∃ (μ_1:Int × Int × Unit→List Int × Unit→Nat),I_1 ((0:Int),i64.wrap ((2:Int)*x.fst),()) (y.fst,
 ())∧∀ (x_6:Int × Int × Unit) (y_1:List Int × Unit),I_1 x_6 y_1→∀ (a:Bool),a=decide (x_6.snd.fst≤n)→Br a (∃ (x_9:(ty3=ty3)∧(fn72=fn72)∧xs.length =
 y_1.fst.length∧Z2w bed y_1.fst∧(0:Int)≤x_6.fst∧x_6.fst<i64.wrap (x_6.fst+x.fst)∧i64.wrap (x_6.fst+x.fst)<x_6.snd.fst∧x_6.snd.fst ≤
 (↑y_1.fst.length:Int)∧(x_6.snd.fst - x_6.fst).toNat<N∧Sgm (keyB bed) y_1.fst x_6.fst.toNat (i64.wrap (x_6.fst+x.fst)).toNat∧Sgm (keyB bed) y_1.fst
 (i64.wrap (x_6.fst+x.fst)).toNat x_6.snd.fst.toNat),∀ (ys:List Int),Rr (keyB bed) x_6.fst.toNat x_6.snd.fst.toNat y_1.fst ys∧Sgm (keyB bed) ys x_6.fst.toNat
 x_6.snd.fst.toNat→HIs [HObj.box m tb [SV.data (K.flt f64).slice bed],HObj.row Md.rw ty3 (K.int i64) ys] [HObj.box m tb [SV.data (K.flt
 f64).slice bed],HObj.row Md.rw ty3 (K.int i64) ys]∧I_1 (x_6.snd.fst,i64.wrap (x_6.snd.fst+i64.wrap ((2:Int)*x.fst)),()) (ys,()) ∧
 μ_1 (x_6.snd.fst,i64.wrap (x_6.snd.fst+i64.wrap ((2:Int)*x.fst)),()) (ys,())<μ_1 x_6 y_1) (∃ (post:Int × Unit→List Int × Unit→Prop),(∀ (a :
 Bool),a=decide (i64.wrap (x_6.fst+x.fst)<n)→Br a (∃ (x_10:(ty3=ty3)∧(fn72=fn72)∧xs.length=y_1.fst.length∧Z2w bed y_1.fst∧(0:Int)≤x_6.fst ∧
 x_6.fst<i64.wrap (x_6.fst+x.fst)∧i64.wrap (x_6.fst+x.fst)<n∧n≤(↑y_1.fst.length:Int)∧(n - x_6.fst).toNat<N∧Sgm (keyB bed) y_1.fst
 x_6.fst.toNat (i64.wrap (x_6.fst+x.fst)).toNat∧Sgm (keyB bed) y_1.fst (i64.wrap (x_6.fst+x.fst)).toNat n.toNat),∀ (ys:List Int),Rr (keyB bed)
 x_6.fst.toNat n.toNat y_1.fst ys∧Sgm (keyB bed) ys x_6.fst.toNat n.toNat→HIs [HObj.box m tb [SV.data (K.flt f64).slice bed],HObj.row Md.rw ty3 (K.int
 i64) ys] [HObj.box m tb [SV.data (K.flt f64).slice bed],HObj.row Md.rw ty3 (K.int i64) ys]∧post (x.fst,()) (ys,())) (HIs [HObj.box m tb [SV.data
 (K.flt f64).slice bed],HObj.row Md.rw ty3 (K.int i64) y_1.fst] [HObj.box m tb [SV.data (K.flt f64).slice bed],HObj.row Md.rw ty3 (K.int
 i64) y_1.fst]∧post (x.fst,()) (y_1.fst,())))∧∀ (x_9:Int × Unit) (y_2:List Int × Unit),post x_9 y_2→HIs [HObj.box m tb [SV.data (K.flt f64).slice
 bed],HObj.row Md.rw ty3 (K.int i64) y_2.fst] [HObj.box m tb [SV.data (K.flt f64).slice bed],HObj.row Md.rw ty3 (K.int i64) y_2.fst]∧I
 (i64.wrap (x_9.fst*(2:Int)),()) (y_2.fst,())∧μ (i64.wrap (x_9.fst*(2:Int)),()) (y_2.fst,())<μ x y)) (k (EV.tup []) [HObj.box m tb [SV.data (K.flt
 f64).slice bed],HObj.row Md.rw ty3 (K.int i64) y.fst]))
theorem Z1ak (ty0 ty1:Nat) (m:Md) (tb N:Nat) (bed:List Nat) (xs:List Int) (n:Int) (k:EV→List HObj→Prop) (h:Z2w bed xs∧n=(List.length xs:Int)∧List.length xs<N) (hk:∀ ys:List Int,Rr (keyB bed) 0 n.toNat xs ys∧Sgm (keyB bed) ys 0 n.toNat→k (.tup []) [.box m tb [.data (.slice (.flt .f64)) bed],.row .rw ty0 (.int .i64) ys]):Znl ty0 ty1 m tb N bed xs n k:=by
 unfold Znl
 obtain ⟨bo,hn,hN⟩:=h
 have mx:maxN=281474976710656:=rfl
 have hmx:=bo.2.2
 obtain ⟨n0,hn0⟩:∃ n0,xs.length=n0:=⟨_,rfl⟩
 rw [hn0] at hn hN hmx
 subst hn
 simp only [Int.toNat_natCast] at hk
 have dle:∀ u v:Nat,decide ((u:Int)<v)=true→u<v:=fun u v d=>by have d:(u:Int)<v:=of_decide_eq_true d; omega
 have dge:∀ u v:Nat,decide ((u:Int)<v)=false→v≤u:=fun u v d=>by have d:¬ (u:Int)<v:=of_decide_eq_false d; omega
 have ele:∀ u v:Nat,decide ((u:Int)≤v)=true→u≤v:=fun u v d=>by have d:(u:Int)≤v:=of_decide_eq_true d; omega
 have ege:∀ u v:Nat,decide ((u:Int)≤v)=false→v<u:=fun u v d=>by have d:¬ (u:Int)≤v:=of_decide_eq_false d; omega
 have wadd:∀ u v:Nat,u≤4*n0+40→v≤4*n0+40→i64.wrap ((u:Int)+v)=((u+v:Nat):Int):=fun u v h1 h2=>by rw [Z16 (by omega) (by omega)]; omega
 refine ⟨rfl,fun x y=>∃ q:Nat,x.1=(q*20:Nat)∧x.2.1=(q*20+20:Nat)∧q*20≤n0∧Rr (keyB bed) 0 n0 xs y.1∧∀ q',q'<q→Sgm (keyB bed) y.1 (q'*20) (q'*20+20),fun x _=>n0+20 - x.1.toNat,⟨0,rfl,rfl,by omega,.refl _ _ _,fun q' h=>by omega⟩,?_⟩
 rintro ⟨_,_,⟨⟩⟩ ⟨y,⟨⟩⟩ ⟨q,rfl,rfl,hq,hr,hs⟩
 dsimp only at hr hs ⊢
 have ly:=hr.len
 rintro _ rfl
 refine Br.intro (fun d=>?_) fun d=>?_
 ·have d:=ele _ _ d
  rw [show i64.wrap (((q*20+20:Nat):Int)+20)=((q*20+20+20:Nat):Int) from wadd (q*20+20) 20 (by omega) (by omega)]
  refine ⟨⟨by trivial,by trivial,ly.symm,bo.perm hr.perm,by omega,by omega,by omega⟩,?_⟩
  simp only [Int.toNat_natCast]
  rintro ys ⟨r1,r2⟩
  refine ⟨rfl,⟨q+1,by omega,by omega,by omega,hr.trans (r1.wide (by omega) d),fun q' h=>?_⟩,by omega⟩
  by_cases e:q'=q
  ·subst e; exact r2
  ·exact r1.sgm (hs q' (by omega)) (.inl (by omega))
 have d:=ege _ _ d
 refine ⟨⟨by trivial,by trivial,ly.symm,bo.perm hr.perm,by omega,by omega,by omega⟩,?_⟩
 simp only [Int.toNat_natCast]
 rintro ys ⟨r1,r2⟩
 have hr1:=hr.trans (r1.wide (Nat.zero_le _) (Nat.le_refl _))
 have hb0:∀ q',Sgm (keyB bed) ys (q'*20) (min (q'*20+20) n0):=fun q'=>by
  by_cases e:q'=q
  ·subst e; exact r2.sub (Nat.le_refl _) (by omega)
  ·by_cases e2:q'<q
   ·exact (r1.sgm (hs q' e2) (.inl (by omega))).sub (Nat.le_refl _) (by omega)
   ·exact .one (by omega)
 clear hr hs r1 r2 ly d hq
 refine ⟨rfl,fun x y=>∃ s:Nat,x.1=s∧0<s∧s≤2*n0+20∧Rr (keyB bed) 0 n0 xs y.1∧∀ q',Sgm (keyB bed) y.1 (q'*s) (min (q'*s+s) n0),fun x _=>n0 - x.1.toNat,⟨20,rfl,by decide,by omega,hr1,hb0⟩,?_⟩
 rintro ⟨_,⟨⟩⟩ ⟨y,⟨⟩⟩ ⟨s,rfl,hs0,hsn,hr,hb⟩
 dsimp only at hr hb ⊢
 clear hr1 hb0
 have ly:=hr.len
 rintro _ rfl
 refine Br.intro (fun d=>?_) fun d=>?_
 rotate_left
 ·have d:=dge _ _ d
  have:=hb 0
  rw [Nat.zero_mul,Nat.zero_add,Nat.min_eq_right d] at this
  exact hk _ ⟨hr,this⟩
 have d:=dle _ _ d
 have w2:i64.wrap (2*(s:Int))=((2*s:Nat):Int):=by rw [Z16 (by omega) (by omega)]; omega
 rw [w2]
 refine ⟨rfl,fun x y=>∃ q:Nat,x.1=(q*(2*s):Nat)∧x.2.1=(q*(2*s)+2*s:Nat)∧q*(2*s)≤n0∧Rr (keyB bed) 0 n0 xs y.1∧(∀ q',q'<q→Sgm (keyB bed) y.1 (q'*(2*s)) (q'*(2*s)+2*s))∧∀ q',2*q≤q'→Sgm (keyB bed) y.1 (q'*s) (min (q'*s+s) n0),fun x _=>n0+2*s - x.1.toNat,⟨0,by simp,by simp,by omega,hr,fun q' h=>by omega,fun q' _=>hb q'⟩,?_⟩
 rintro ⟨_,_,⟨⟩⟩ ⟨z,⟨⟩⟩ ⟨q,rfl,rfl,hq,hz,hd,ht⟩
 dsimp only at hz hd ht ⊢
 have lz:=hz.len
 have ht0:=ht (2*q) (Nat.le_refl _)
 have ht1:=ht (2*q+1) (by omega)
 have e0:2*q*s=q*(2*s):=by rw [Nat.mul_comm 2 q,Nat.mul_assoc]
 have e1:(2*q+1)*s=q*(2*s)+s:=by rw [Nat.add_mul,e0,Nat.one_mul]
 have ep:∀ q',q'*(2*s)=2*q'*s:=fun q'=>by rw [Nat.mul_comm 2 q',Nat.mul_assoc]
 have en:(q+1)*(2*s)=q*(2*s)+2*s:=by rw [Nat.add_mul,Nat.one_mul]
 have lt:∀ q',q'<q→q'*(2*s)+2*s≤q*(2*s):=fun q' h=>by
  have:=Nat.mul_le_mul_right (2*s) (show q'+1≤q from h)
  rw [Nat.add_mul,Nat.one_mul] at this; exact this
 have gt:∀ q',2*(q+1)≤q'→q*(2*s)+2*s≤q'*s:=fun q' h=>by
  have:=Nat.mul_le_mul_right s h
  rw [← ep,en] at this; exact this
 rw [e0] at ht0
 rw [e1] at ht1
 obtain ⟨A,hA⟩:∃ A,q*(2*s)=A:=⟨_,rfl⟩
 rw [hA] at ht0 ht1 hq en lt gt ⊢
 rw [wadd A s (by omega) (by omega)]
 rintro _ rfl
 refine Br.intro (fun d2=>?_) fun d2=>?_
 ·have d2:=ele _ _ d2
  rw [wadd (A+2*s) (2*s) (by omega) (by omega)]
  simp only [Int.toNat_natCast]
  rw [Nat.min_eq_left (by omega)] at ht0 ht1
  have f1:A+s+s=A+2*s:=by omega
  rw [f1] at ht1
  refine ⟨⟨by trivial,by trivial,lz.symm,bo.perm hz.perm,by omega,by omega,by omega,by omega,by omega,ht0,ht1⟩,?_⟩
  rintro ys ⟨r1,r2⟩
  refine ⟨rfl,⟨q+1,by rw [en],by rw [en],by omega,hz.trans (r1.wide (Nat.zero_le _) d2),fun q' h=>?_,fun q' h=>?_⟩,by omega⟩
  ·by_cases e:q'=q
   ·subst e; rw [hA]; exact r2
   ·have:=lt q' (by omega)
    exact r1.sgm (hd q' (by omega)) (.inl (by omega))
  ·have:=gt q' h
   exact r1.sgm (ht q' (by omega)) (.inr (by omega))
 have d2:=ege _ _ d2
 have fin:∀ ys,Rr (keyB bed) A n0 z ys→Sgm (keyB bed) ys A n0→Rr (keyB bed) 0 n0 xs ys∧∀ q',Sgm (keyB bed) ys (q'*(2*s)) (min (q'*(2*s)+2*s) n0):=fun ys r1 r2=>⟨hz.trans (r1.wide (Nat.zero_le _) (Nat.le_refl _)),fun q'=>by
  by_cases e:q'=q
  ·subst e; rw [hA]; exact r2.sub (Nat.le_refl _) (by omega)
  ·by_cases e2:q'<q
   ·have:=lt q' e2
    exact (r1.sgm (hd q' e2) (.inl (by omega))).sub (Nat.le_refl _) (by omega)
   ·have:=lt
    have h3:=Nat.mul_le_mul_right (2*s) (show q+1≤q' by omega)
    rw [en] at h3
    exact .one (by omega)⟩
 refine ⟨fun x y=>x.1=(s:Int)∧Rr (keyB bed) 0 n0 xs y.1∧∀ q',Sgm (keyB bed) y.1 (q'*(2*s)) (min (q'*(2*s)+2*s) n0),?_,?_⟩
 ·rintro _ rfl
  refine Br.intro (fun d3=>?_) fun d3=>?_
  ·have d3:=dle _ _ d3
   simp only [Int.toNat_natCast]
   rw [Nat.min_eq_left (by omega)] at ht0
   rw [Nat.min_eq_right (by omega)] at ht1
   refine ⟨⟨by trivial,by trivial,lz.symm,bo.perm hz.perm,by omega,by omega,by omega,by omega,by omega,ht0,ht1⟩,?_⟩
   rintro ys ⟨r1,r2⟩
   exact ⟨rfl,by trivial,fin ys r1 r2⟩
  ·have d3:=dge _ _ d3
   rw [Nat.min_eq_right (by omega)] at ht0
   exact ⟨rfl,by trivial,fin z (.refl _ _ _) ht0⟩
 rintro ⟨_,⟨⟩⟩ ⟨w,⟨⟩⟩ ⟨rfl,h1,h2⟩
 dsimp only at h1 h2 ⊢
 have w3:i64.wrap ((s:Int)*2)=((2*s:Nat):Int):=by rw [Z16 (by omega) (by omega)]; omega
 rw [w3]
 exact ⟨rfl,⟨2*s,rfl,by omega,by omega,h1,h2⟩,by omega⟩
def Zvf:=fun (ty3 fn72:Nat) (m:Md) (tb N:Nat) (bed:List Nat) (xs:List Int) (k:EV→List HObj→Prop)=>∃ (x:(ty3=ty3)∧(fn72=fn72)∧xs.length =
 xs.length∧Z2w bed xs∧(↑xs.length:Int)=(↑xs.length:Int)),∀ (ys:List Int),Rr (keyB bed) (0:Nat) xs.length xs ys∧Sgm (keyB bed) ys (0:Nat) xs.length→k (EV.tup
 []) [HObj.box m tb [SV.data (K.flt f64).slice bed],HObj.row Md.rw ty3 (K.int i64) ys]
theorem Z17q (ty0 ty1:Nat) (m:Md) (tb N:Nat) (bed:List Nat) (xs:List Int) (k:EV→List HObj→Prop) (h:Z2w bed xs) (hk:∀ ys:List Int,Rr (keyB bed) 0 xs.length xs ys∧Sgm (keyB bed) ys 0 xs.length→k (.tup []) [.box m tb [.data (.slice (.flt .f64)) bed],.row .rw ty0 (.int .i64) ys]):Zvf ty0 ty1 m tb N bed xs k:=by
 refine ⟨⟨rfl,rfl,rfl,h,rfl⟩,?_⟩
 rintro ys ⟨h1,h2⟩
 exact hk ys ⟨by simpa using h1,by simpa using h2⟩
end Go.Lift

namespace Go.Lift
open Go.Proofs
def Z2f:Cx:=⟨Zx Z10,Zz [(72,Zb8)],RbG⟩
theorem Z67:CxOk Tryz.prog Z2f:=⟨Z8 Zb,Zd ⟨Znf,trivial⟩⟩
def Znm:Hn:={ loops:=Z2n [(1,{ ls:=[(.slot 10,.data (.int .i64))],os:=[(1,3,.int .i64)] })],joins:=fun _=>none,named:=true }
theorem Z13h:FnAt Tryz.prog 179 Tryz.f179.ntmps Tryz.f179.results.toList (Tryz.f179.body.getD .skip):=⟨Tryz.f179,Tryz.func179,rfl,rfl,by simp,by decide⟩
theorem Z13i (m:Md) (tb:Nat) (cs:List SV) (xs:List Int) (a b n:Int) (fv:EV) (k:EV→List HObj→Prop):Zay Z2f Znm (Z3f) Tryz.f179.ntmps Tryz.f179.results.toList (Tryz.f179.body.getD .skip) [.x (.one (.osl 1 0 (List.length xs))),.x (.one (.val (.int .i64 a))),.x (.one (.val (.int .i64 b))),.x (.one (.val (.int .i64 n))),fv] [.box m tb cs,.row .rw 3 (.int .i64) xs] k=Zve 3 m tb cs xs a b n fv k:=by kernel_rfl
theorem Z13j:EvOk Tryz.prog Z2f 179 (Z60 3):=(Z7u Z67 Zc Z7p Z13h Znm).of fun args hp k q=>by
 unfold Z60 at q
 split at q
 ·rename_i len a b n fv m tb cs t xs
  obtain ⟨⟨rfl,rfl,h⟩,hk⟩:=q
  have e:=Z13i m tb cs xs a b n fv k
  have f:=Z17p 3 m tb cs xs a b n fv k h hk
  first | (rw [e]; exact f) | exact Eq.mpr e f
 ·exact q.elim
theorem Z15x:Z2j Tryz.prog Z2f (Z1t 179 (Z60 3) (Z3f)):=Z7e Z13j Z7p
def Zq1:Hn:={ loops:=Z2n [(2,{ ls:=[(.slot 10,.data (.int .i64)),(.slot 11,.data (.int .i64))],os:=[(1,3,.int .i64)] })],joins:=fun _=>none,named:=true,inl:=inlL [179] }
theorem Z14p:FnAt Tryz.prog 165 Tryz.f165.ntmps Tryz.f165.results.toList (Tryz.f165.body.getD .skip):=⟨Tryz.f165,Tryz.func165,rfl,rfl,by simp,by decide⟩
theorem Z14q (md:Md) (tb:Nat) (cs:List SV) (xs:List Int) (a m b:Int) (fv:EV) (k:EV→List HObj→Prop):Zay Z2f Zq1 (Z1t 179 (Z60 3) (Z3f)) Tryz.f165.ntmps Tryz.f165.results.toList (Tryz.f165.body.getD .skip) [.x (.one (.osl 1 0 (List.length xs))),.x (.one (.val (.int .i64 a))),.x (.one (.val (.int .i64 m))),.x (.one (.val (.int .i64 b))),fv] [.box md tb cs,.row .rw 3 (.int .i64) xs] k=Zni 3 md tb cs xs a m b fv k:=by kernel_rfl
theorem Z14r:EvOk Tryz.prog Z2f 165 (Zcu 3):=(Z7u Z67 Zc Z15x Z14p Zq1).of fun args hp k q=>by
 unfold Zcu at q
 split at q
 ·rename_i len a m b fv md tb cs t xs
  obtain ⟨⟨rfl,rfl,h⟩,hk⟩:=q
  have e:=Z14q md tb cs xs a m b fv k
  have f:=Z1ah 3 md tb cs xs a m b fv k h hk
  first | (rw [e]; exact f) | exact Eq.mpr e f
 ·exact q.elim
theorem Z1df:Z2j Tryz.prog Z2f (Z1t 165 (Zcu 3) (Z1t 179 (Z60 3) (Z3f))):=Z7e Z14r Z15x
def Zq2:Hn:={ loops:=Z2n [(1,{ ls:=[(.slot 8,.data (.int .i64))],os:=[(1,3,.int .i64)] }),(4,{ ls:=[(.slot 9,.data (.int .i64))],os:=[(1,3,.int .i64)] })],joins:=fun _=>none,named:=true,inl:=fun _=>false }
theorem Z14s:FnAt Tryz.prog 138 Tryz.f138.ntmps Tryz.f138.results.toList (Tryz.f138.body.getD .skip):=⟨Tryz.f138,Tryz.func138,rfl,rfl,by simp,by decide⟩
theorem Z14t (m:Md) (tb:Nat) (bed:List Nat) (xs:List Int) (a b:Int) (k:EV→List HObj→Prop):Zay Z2f Zq2 (Z3f) Tryz.f138.ntmps Tryz.f138.results.toList (Tryz.f138.body.getD .skip) [.x (.one (.osl 1 0 (List.length xs))),.x (.one (.val (.int .i64 a))),.x (.one (.val (.int .i64 b))),.x (.one (.clo 72 [] [.ref 0 0]))] [.box m tb [.data (.slice (.flt .f64)) bed],.row .rw 3 (.int .i64) xs] k=Znj 3 m tb bed xs a b k:=by kernel_rfl
theorem Z14u:EvOk Tryz.prog Z2f 138 (Zfc 3 72):=(Z7u Z67 Zc Z7p Z14s Zq2).of fun args hp k q=>by
 unfold Zfc at q
 split at q
 ·rename_i len a b f m tb bed t xs
  obtain ⟨⟨rfl,rfl,rfl,h⟩,hk⟩:=q
  have e:=Z14t m tb bed xs a b k
  have f:=Z1ai 3 m tb bed xs a b k h hk
  first | (rw [e]; exact f) | exact Eq.mpr e f
 ·exact q.elim
theorem Z15y:Z2j Tryz.prog Z2f (Z1t 138 (Zfc 3 72) (Z1t 165 (Zcu 3) (Z1t 179 (Z60 3) (Z3f)))):=Z7e Z14u Z1df
def Zq3:Hn:={ loops:=Z2n [(3,{ ls:=[(.slot 10,.data (.int .i64)),(.slot 11,.data (.int .i64))],os:=[] }),(9,{ ls:=[(.slot 13,.data (.int .i64))],os:=[(1,3,.int .i64)] }),(15,{ ls:=[(.slot 14,.data (.int .i64)),(.slot 15,.data (.int .i64))],os:=[] }),(21,{ ls:=[(.slot 17,.data (.int .i64))],os:=[(1,3,.int .i64)] }),(33,{ ls:=[(.slot 20,.data (.int .i64)),(.slot 21,.data (.int .i64))],os:=[] })],joins:=Z2n [(32,{ ls:=[(.slot 20,.data (.int .i64)),(.slot 21,.data (.int .i64))],os:=[] }),(41,{ ls:=[],os:=[(1,3,.int .i64)] }),(43,{ ls:=[],os:=[(1,3,.int .i64)] })],named:=true,inl:=inlL [165,139] }
theorem Z14v:FnAt Tryz.prog 139 Tryz.f139.ntmps Tryz.f139.results.toList (Tryz.f139.body.getD .skip):=⟨Tryz.f139,Tryz.func139,rfl,rfl,by simp,by decide⟩
theorem Z14w (md:Md) (tb N:Nat) (bed:List Nat) (xs:List Int) (a m b:Int) (k:EV→List HObj→Prop):Zay Z2f Zq3 (Z1t 139 (Zfd 3 72 N) (Z1t 138 (Zfc 3 72) (Z1t 165 (Zcu 3) (Z1t 179 (Z60 3) (Z3f))))) Tryz.f139.ntmps Tryz.f139.results.toList (Tryz.f139.body.getD .skip) [.x (.one (.osl 1 0 (List.length xs))),.x (.one (.val (.int .i64 a))),.x (.one (.val (.int .i64 m))),.x (.one (.val (.int .i64 b))),.x (.one (.clo 72 [] [.ref 0 0]))] [.box md tb [.data (.slice (.flt .f64)) bed],.row .rw 3 (.int .i64) xs] k=Znk 3 72 md tb N bed xs a m b k:=by kernel_rfl
theorem Zq4:∀ N,EvOk Tryz.prog Z2f 139 (Zfd 3 72 N)
 | 0=>fun c hi hg args vs k hall q=>by
  unfold Zfd at q
  split at q
  ·obtain ⟨⟨_,_,_,_,_,_,_,_,hN,_⟩,_⟩:=q
   exact absurd hN (Nat.not_lt_zero _)
  ·exact q.elim
 | N+1=>(Z7u Z67 Zc (Z7e (Zq4 N) Z15y) Z14v Zq3).of fun args hp k q=>by
  unfold Zfd at q
  split at q
  ·rename_i len a m b f md tb bed t xs
   obtain ⟨⟨rfl,rfl,rfl,h⟩,hk⟩:=q
   have e:=Z14w md tb N bed xs a m b k
   have f:=Z1aj 3 72 md tb N bed xs a m b k h hk
   first | (rw [e]; exact f) | exact Eq.mpr e f
  ·exact q.elim
theorem Z15z (N:Nat):Z2j Tryz.prog Z2f (Z1t 139 (Zfd 3 72 N) (Z1t 138 (Zfc 3 72) (Z1t 165 (Zcu 3) (Z1t 179 (Z60 3) (Z3f))))):=Z7e (Zq4 N) Z15y
def Zq5:Hn:={ loops:=Z2n [(2,{ ls:=[(.slot 7,.data (.int .i64)),(.slot 8,.data (.int .i64))],os:=[(1,3,.int .i64)] }),(7,{ ls:=[(.slot 6,.data (.int .i64))],os:=[(1,3,.int .i64)] }),(9,{ ls:=[(.slot 7,.data (.int .i64)),(.slot 8,.data (.int .i64))],os:=[(1,3,.int .i64)] })],joins:=Z2n [(16,{ ls:=[(.slot 6,.data (.int .i64))],os:=[(1,3,.int .i64)] })],named:=true,inl:=inlL [138,139] }
theorem Z14x:FnAt Tryz.prog 111 Tryz.f111.ntmps Tryz.f111.results.toList (Tryz.f111.body.getD .skip):=⟨Tryz.f111,Tryz.func111,rfl,rfl,by simp,by decide⟩
theorem Z14y (m:Md) (tb N:Nat) (bed:List Nat) (xs:List Int) (n:Int) (k:EV→List HObj→Prop):Zay Z2f Zq5 (Z1t 139 (Zfd 3 72 N) (Z1t 138 (Zfc 3 72) (Z1t 165 (Zcu 3) (Z1t 179 (Z60 3) (Z3f))))) Tryz.f111.ntmps Tryz.f111.results.toList (Tryz.f111.body.getD .skip) [.x (.one (.osl 1 0 (List.length xs))),.x (.one (.val (.int .i64 n))),.x (.one (.clo 72 [] [.ref 0 0]))] [.box m tb [.data (.slice (.flt .f64)) bed],.row .rw 3 (.int .i64) xs] k=Znl 3 72 m tb N bed xs n k:=by kernel_rfl
theorem Z14z:EvOk Tryz.prog Z2f 111 (Z119 3 72):=.ofN (fun N=>Z7u Z67 Zc (Z15z N) Z14x Zq5) fun args hp k q=>by
 unfold Z119 at q
 split at q
 ·rename_i len n f m tb bed t xs
  obtain ⟨⟨rfl,rfl,rfl,h1,h2⟩,hk⟩:=q
  refine ⟨List.length xs+1,?_⟩
  have e:=Z14y m tb (List.length xs+1) bed xs n k
  have f:=Z1ak 3 72 m tb (List.length xs+1) bed xs n k ⟨h1,h2,Nat.lt_succ_self _⟩ hk
  first | (rw [e]; exact f) | exact Eq.mpr e f
 ·exact q.elim
theorem Z1dg (N:Nat):Z2j Tryz.prog Z2f (Z1t 111 (Z119 3 72) (Z1t 139 (Zfd 3 72 N) (Z1t 138 (Zfc 3 72) (Z1t 165 (Zcu 3) (Z1t 179 (Z60 3) (Z3f)))))):=Z7e Z14z (Z15z N)
def Znn:Hn:={ loops:=fun _=>none,joins:=fun _=>none,named:=true,inl:=inlL [111] }
theorem Z13k:FnAt Tryz.prog 71 Tryz.f71.ntmps Tryz.f71.results.toList (Tryz.f71.body.getD .skip):=⟨Tryz.f71,Tryz.func71,rfl,rfl,by simp,by decide⟩
theorem Z13l (m:Md) (tb N:Nat) (bed:List Nat) (xs:List Int) (k:EV→List HObj→Prop):Zay Z2f Znn (Z1t 111 (Z119 3 72) (Z1t 139 (Zfd 3 72 N) (Z1t 138 (Zfc 3 72) (Z1t 165 (Zcu 3) (Z1t 179 (Z60 3) (Z3f)))))) Tryz.f71.ntmps Tryz.f71.results.toList (Tryz.f71.body.getD .skip) [.x (.one (.osl 1 0 (List.length xs))),.x (.one (.clo 72 [] [.ref 0 0]))] [.box m tb [.data (.slice (.flt .f64)) bed],.row .rw 3 (.int .i64) xs] k=Zvf 3 72 m tb N bed xs k:=by kernel_rfl
theorem Z13m:EvOk Tryz.prog Z2f 71 (Ztp 3 72):=(Z7u Z67 Zc (Z1dg 0) Z13k Znn).of fun args hp k q=>by
 unfold Ztp at q
 split at q
 ·rename_i len f m tb bed t xs
  obtain ⟨⟨rfl,rfl,rfl,h⟩,hk⟩:=q
  have e:=Z13l m tb 0 bed xs k
  have f:=Z17q 3 72 m tb 0 bed xs k h hk
  first | (rw [e]; exact f) | exact Eq.mpr e f
 ·exact q.elim
theorem Z1dh:Z2j Tryz.prog Z2f (Z1t 71 (Ztp 3 72) Z3f):=Z7e Z13m Z7p
end Go.Lift

namespace Go.Lift
open Go.Proofs
def Z5o:Con:=Con.nam [.slice (.flt .f64)] [.own 3 (.int .i64)] (fun x=>WOrd x.1) (fun x=>Za6 x.1)
def Zek:Hn:={ loops:=Z2n [(3,{ ls:=[(.slot 10,.data (.int .i64))],os:=[(1,3,.int .i64)] })],joins:=fun _=>none,named:=true,inl:=inlL [71] }
abbrev Zvg:Cx:=Z2f
theorem Zno:CxOk Tryz.prog Zvg:=Z67
theorem Zrk:FnAt Tryz.prog 29 Tryz.f29.ntmps Tryz.f29.results.toList (Tryz.f29.body.getD .skip):=⟨Tryz.f29,Tryz.func29,rfl,rfl,by simp,by decide⟩
theorem Zrl (bed:List Nat) (post:(List Int) × Unit→Prop):Z56 Z2f Zek (Z1t 71 (Ztp 3 72) Z3f) Tryz.f29.ntmps Tryz.f29.results.toList (Tryz.f29.body.getD .skip) [.slice (.flt .f64)] [.own 3 (.int .i64)] (bed,()) post=Z9w 37 3 bed post:=by kernel_rfl
theorem Z8t:Z5o.holds Tryz.prog RbG 29 :=
 Z19 (Zt2 Zno Zc Zek Z1dh Zrk (F:=fun x post=>Z9w 37 3 x.1 post) (fun x post=>Zrl x.1 post) fun x h _=>Zxv 37 3 x.1 h)
end Go.Lift

namespace Go.Lift
def Z9x:=F18
theorem Zxw (a:Int) (b:Int) (h:WU2 a b):Z9x  a b (fun r=>r=Z1c7 a b):=by
 exact Z175 h.1.1 h.1.2 h.2.1 h.2.2 rfl
def Z9y:=F19
theorem Zxx (a:Int) (b:Int) (c:Int) (h:WDiv a b c):Z9y  a b c (fun r=>r=Z1c8 a b c):=by
 obtain ⟨ha,hb,hc,hac⟩:=h
 have hc0:(0:Int)<c:=Int.lt_of_le_of_lt ha.1 hac
 obtain ⟨s0,s1,s2,s3⟩:=Z1cy hc0 hc.2
 exact Z178 (a:=a) (b:=b) (c:=c) rfl hc s0 s1 s2 s3 ha.1 hac hb.1 hb.2 rfl
def Zc0:=F12
theorem Z10s (a:Int) (b:Int) (c:Int) (h:III a b c):Zc0  a b c (fun r=>r=prtR a b c):=by
 exact Z19r h.1 h.2.1 h.2.2 rfl
end Go.Lift

namespace Go.Lift
open Go.Proofs
def Zg0:Con:=.det [.int .u64,.int .u64] [.snap (.int .u64),.snap (.int .u64)] (fun x=>WU2 x.1 x.2.1) (fun x=>Z1c7 x.1 x.2.1)
def Zg1:Cx:=⟨Zx Z10,Zz [],RbG⟩
theorem Znp:CxOk Tryz.prog Zg1:=⟨Z8 Zb,fun f c h=>by cases h⟩
theorem Zrm:FnAt Tryz.prog 91 Tryz.f91.ntmps Tryz.f91.results.toList (Tryz.f91.body.getD .skip):=⟨Tryz.f91,Tryz.func91,rfl,rfl,by simp,by decide⟩
theorem Zrn (a:Int) (b:Int) (post:Int × Int × Unit→Prop):Zi Zg1 nHn Tryz.f91.ntmps Tryz.f91.results.toList (Tryz.f91.body.getD .skip) [.int .u64,.int .u64] [.snap (.int .u64),.snap (.int .u64)] (a,b,()) post=Z9x  a b post:=by kernel_rfl
theorem Zvh:Zg0.holds Tryz.prog RbG 91 :=
 detP Znp Zc nHn Zrm (F:=fun x post=>Z9x  x.1 x.2.1 post) (fun x post=>Zrn x.1 x.2.1 post) fun x h _=>Zxw  x.1 x.2.1 h
def Z68:Con:=.det [.int .u64] [.snap (.int .i64)] (fun x=>U64 x.1) (fun x=>lzR x.1)
def Z160:Cx:=⟨Zx Z10,fun _=>none,RbG⟩
theorem Z17r:CxOk Tryz.prog Z160:=⟨Z8 Zb,fun f c h=>by cases h⟩
def Zz8:Con:=.det [.int .u64] [.snap (.int .i64)] (fun x=>U64 x.1) (fun x=>(Z2c x.1,()))
theorem Z17s:FnAt Tryz.prog 147 Tryz.f147.ntmps Tryz.f147.results.toList (Tryz.f147.body.getD .skip):=⟨Tryz.f147,Tryz.func147,rfl,rfl,by simp,by decide⟩
theorem Z17t (a:Int) (post:Int × Unit→Prop):Zi Z160 Z118 Tryz.f147.ntmps Tryz.f147.results.toList (Tryz.f147.body.getD .skip) [.int .u64] [.snap (.int .i64)] (a,()) post=F22 a post:=by kernel_rfl
theorem Z1al:Zz8.holds Tryz.prog RbG 147:=detP Z17r Zc Z118 Z17s (F:=fun x post=>F22 x.1 post) (fun x post=>Z17t x.1 post) fun x h _=>Z177 h.1 h.2 rfl
def Z69:Cx:=⟨Zx Z10,Zz [(147,Zz8)],RbG⟩
theorem Zba:CxOk Tryz.prog Z69:=⟨Z8 Zb,Zd ⟨Z1al,trivial⟩⟩
theorem Zcy:FnAt Tryz.prog 121 Tryz.f121.ntmps Tryz.f121.results.toList (Tryz.f121.body.getD .skip):=⟨Tryz.f121,Tryz.func121,rfl,rfl,by simp,by decide⟩
theorem Zcz (a:Int) (post:Int × Unit→Prop):Zi Z69 Z118 Tryz.f121.ntmps Tryz.f121.results.toList (Tryz.f121.body.getD .skip) [.int .u64] [.snap (.int .i64)] (a,()) post=F21 a post:=by kernel_rfl
theorem Zel:Z68.holds Tryz.prog RbG 121:=detP Zba Zc Z118 Zcy (F:=fun x post=>F21 x.1 post) (fun x post=>Zcz x.1 post) fun x h _=>Z1d9 h
def Zg2:Con:=.det [.int .u64,.int .u64,.int .u64] [.snap (.int .u64),.snap (.int .u64)] (fun x=>WDiv x.1 x.2.1 x.2.2.1) (fun x=>Z1c8 x.1 x.2.1 x.2.2.1)
def Zem:Hn:=hn19
def Zg3:Cx:=⟨Zx Z10,Zz [(121,Z68)],RbG⟩
theorem Znq:CxOk Tryz.prog Zg3:=⟨Z8 Zb,Zd ⟨Zel,trivial⟩⟩
theorem Zro:FnAt Tryz.prog 92 Tryz.f92.ntmps Tryz.f92.results.toList (Tryz.f92.body.getD .skip):=⟨Tryz.f92,Tryz.func92,rfl,rfl,by simp,by decide⟩
theorem Zrp (a:Int) (b:Int) (c:Int) (post:Int × Int × Unit→Prop):Zi Zg3 Zem Tryz.f92.ntmps Tryz.f92.results.toList (Tryz.f92.body.getD .skip) [.int .u64,.int .u64,.int .u64] [.snap (.int .u64),.snap (.int .u64)] (a,b,c,()) post=Z9y  a b c post:=by kernel_rfl
theorem Zvi:Zg2.holds Tryz.prog RbG 92 :=
 detP Znq Zc Zem Zro (F:=fun x post=>Z9y  x.1 x.2.1 x.2.2.1 post) (fun x post=>Zrp x.1 x.2.1 x.2.2.1 post) fun x h _=>Zxx  x.1 x.2.1 x.2.2.1 h
def Zij:Con:=.det [.int .i64,.int .i64,.int .i64] [.snap (.int .i64)] (fun x=>III x.1 x.2.1 x.2.2.1) (fun x=>prtR x.1 x.2.1 x.2.2.1)
def Zg4:Hn:={ loops:=fun _=>none,joins:=fun _=>none }
def Zik:Cx:=⟨Zx Z10,Zz [(91,Zg0),(92,Zg2)],RbG⟩
theorem Zpg:CxOk Tryz.prog Zik:=⟨Z8 Zb,Zd ⟨Zvh,Zvi,trivial⟩⟩
theorem Zvj:FnAt Tryz.prog 44 Tryz.f44.ntmps Tryz.f44.results.toList (Tryz.f44.body.getD .skip):=⟨Tryz.f44,Tryz.func44,rfl,rfl,by simp,by decide⟩
theorem Zvk (a:Int) (b:Int) (c:Int) (post:Int × Unit→Prop):Zi Zik Zg4 Tryz.f44.ntmps Tryz.f44.results.toList (Tryz.f44.body.getD .skip) [.int .i64,.int .i64,.int .i64] [.snap (.int .i64)] (a,b,c,()) post=Zc0  a b c post:=by kernel_rfl
theorem Zxy:Zij.holds Tryz.prog RbG 44 :=
 detP Zpg Zc Zg4 Zvj (F:=fun x post=>Zc0  x.1 x.2.1 x.2.2.1 post) (fun x post=>Zvk x.1 x.2.1 x.2.2.1 post) fun x h _=>Z10s  x.1 x.2.1 x.2.2.1 h
end Go.Lift

namespace Go.Lift
open Go.Proofs
def Zc1:Con:=Con.nam [.ptr Z1a,kSea] [.own 2 (.int .i64),.own 2 (.int .i64),.snap (.int .i64)] (fun x=>WRun x.1 x.2.1) (fun x=>Z3j x.1 x.2.1)
def Z9z:Hn:={ loops:=Z2n [(8,{ ls:=[(.slot 68,.data (.int .i64))],os:=[(1,2,.int .i64),(2,2,.int .i64)] })],joins:=fun _=>none,named:=true }
def Zc2:Cx:=⟨Zx Z10,Zz [(31,Z3k),(55,Z5e),(56,Zif),(57,Z4g),(29,Z5o),(32,Z6n),(38,Z63),(37,Zfo),(44,Zij)],RbG⟩
theorem Zrq:CxOk Tryz.prog Zc2:=⟨Z8 Zb,Zd ⟨Z5d,Z8x,Zxs,Z9t,Z8t,Z9v,Zb5,Zuu,Zxy,trivial⟩⟩
theorem Zxz:FnAt Tryz.prog 23 Tryz.f23.ntmps Tryz.f23.results.toList (Tryz.f23.body.getD .skip):=⟨Tryz.f23,Tryz.func23,rfl,rfl,by simp,by decide⟩
theorem Zrr (s:(List Nat) × (List Int) × (List Int) × (List Nat) × Int × Int) (post:(List Int) × (List Int) × Int × Unit→Prop):Zi Zc2 Z9z Tryz.f23.ntmps Tryz.f23.results.toList (Tryz.f23.body.getD .skip) [.ptr Z1a,kSea] [.own 2 (.int .i64),.own 2 (.int .i64),.snap (.int .i64)] (none,s,()) post=Z9r  s post:=by kernel_rfl
theorem Zrs (g:Int × (List (Int × Int × Int × Int)) × (List ((Int × Int) × Int)) × (List (List Int)) × (List Int) × (List Nat) × List Nat) (s:(List Nat) × (List Int) × (List Int) × (List Nat) × Int × Int) (post:(List Int) × (List Int) × Int × Unit→Prop):Zi Zc2 Z9z Tryz.f23.ntmps Tryz.f23.results.toList (Tryz.f23.body.getD .skip) [.ptr Z1a,kSea] [.own 2 (.int .i64),.own 2 (.int .i64),.snap (.int .i64)] ((some g),s,()) post=Z9s 39 2 3 g s post:=by kernel_rfl
def Z10t (x:KS [.ptr Z1a,kSea]) (post:RS [.own 2 (.int .i64),.own 2 (.int .i64),.snap (.int .i64)]→Prop):Prop:=match x with
 | (none,y)=>Z9r  y.1 post
 | (some g,y)=>Z9s 39 2 3 g y.1 post
theorem Zkr:Zc1.holds Tryz.prog RbG 23 :=
 Z19 (detP Zrq Zc Z9z Zxz (F:=Z10t) (fun x post=>match x with
  | (none,y)=>Zrr y.1 post
  | (some g,y)=>Zrs g y.1 post) fun x h w=>match x,h,w with
  | (none,y),h,w=>Zxq  y.1 h w
  | (some g,y),h,w=>Zxr 39 2 3 g y.1 h w)
end Go.Lift

namespace Go.Lift
open Go.Proofs
def Zg5:Con:=Con.nam [] [.snap .bool] (fun _=>True) (fun x=>yesR)
def Zen:Hn:={ loops:=Z2n [(8,{ ls:=[(.slot 4,.data (.int .i64))],os:=[(2,59,.flt .f64),(3,2,.int .i64)] })],joins:=fun _=>none,named:=true,inl:=inlL [54] }
def Z8u:Cx:=⟨Zx Z10,Zz [(24,Zeh),(31,Z3k),(55,Z5e),(38,Z63),(23,Zc1),(32,Z6n),(29,Z5o),(28,Z6w)],RbG⟩
theorem Zbb:CxOk Tryz.prog Z8u:=⟨Z8 Zb,Zd ⟨Zn8,Z5d,Z8x,Zb5,Zkr,Z9v,Z8t,Zce,trivial⟩⟩
theorem Zrt:FnAt Tryz.prog 22 Tryz.f22.ntmps Tryz.f22.results.toList (Tryz.f22.body.getD .skip):=⟨Tryz.f22,Tryz.func22,rfl,rfl,by simp,by decide⟩
theorem Zru  (post:Bool × Unit→Prop):Z56 Z8u Zen (Z95 Z8u Zdt 6) Tryz.f22.ntmps Tryz.f22.results.toList (Tryz.f22.body.getD .skip) [] [.snap .bool] (()) post=Z6h 39 59 2  post:=by kernel_rfl
theorem Zvl:Zg5.holds Tryz.prog RbG 22 :=
 Z19 (Zt2 Zbb Zc Zen (Z89 Zbb Zc Ztq 6) Zrt (F:=fun x post=>Z6h 39 59 2  post) (fun x post=>Zru  post) fun x _ _=>Zwm 39 59 2 )
end Go.Lift

namespace Go.Lift
def Zjx:=fun (a b:List Nat) (post:Bool × Unit→Prop)=>∀ (a_1:Bool),a_1=((↑a.length:Int) != (↑b.length:Int))→Br a_1 (post (false,())) (HIs [] []∧∃
 (I:Int × Unit→Unit→Prop),∃ (μ:Int × Unit→Unit→Nat),I ((0:Int),()) ()∧∀ (x:Int × Unit) (y:Unit),I x y→∀ (a_2:Bool),a_2=decide (x.fst<(↑a.length :
 Int))→Br a_2 (∃ (h:(0:Int)≤x.fst∧x.fst<(↑a.length:Int)),∃ (h:(0:Int)≤x.fst∧x.fst<(↑b.length:Int)),∃ (h:True),∀ (a_3:Bool),a_3=(Z16w (a.getD
 x.fst.toNat (0:Nat)) (b.getD x.fst.toNat (0:Nat))).fst→Br (!a_3) (post (false,())) (HIs [] []∧I (i64.wrap (x.fst+(1:Int)),()) ()∧μ (i64.wrap
 (x.fst+(1:Int)),()) ()<μ x y)) (post (true,())))
theorem Z17u (a:List Nat) (b:List Nat) (w:KS.wf [.slice (.flt .f64),.slice (.flt .f64)] (a,b,())):Zjx  a b (fun r=>r=allR a b):=by
 have ha:a.length≤maxN:=w.1.1
 have hm:maxN≤9223372036854775807:=by decide
 rintro _ rfl
 refine Br.intro (fun e=>congrArg r1 ?_) fun e=>?_
 ·have e:¬ a.length=b.length:=fun q=>by rw [q] at e; simp at e
  exact (beq_eq_false_iff_ne.2 fun q=>e (congrArg List.length q)).symm
 have e:a.length=b.length:=by
  have:((a.length:Int)==(b.length:Int))=true:=by
   have e:(!((a.length:Int)==(b.length:Int)))=false:=e
   simpa using e
  have:=beq_iff_eq.1 this
  omega
 refine ⟨rfl,fun x _=>∃ k:Nat,x.1=k∧k≤a.length∧a.take k=b.take k,fun x _=>a.length - x.1.toNat,⟨0,rfl,by omega,rfl⟩,?_⟩
 rintro ⟨_,⟨⟩⟩ _ ⟨k,rfl,hk,hq⟩
 dsimp only
 rintro _ rfl
 refine Br.intro (fun e1=>?_) fun e1=>?_
 ·have e1:k<a.length:=by have:=of_decide_eq_true e1; omega
  rw [Int.toNat_natCast,Z24 e1 (by omega)]
  have ta:=Z5x e1 0
  have tb:=Z5x (l:=b) (i:=k) (by omega) 0
  refine ⟨⟨by omega,by omega⟩,⟨by omega,by omega⟩,trivial,?_⟩
  rintro _ rfl
  refine Br.intro (fun e2=>congrArg r1 ?_) fun e2=>?_
  ·have e2:¬ a.getD k 0=b.getD k 0:=fun q=>by
    have e2:(!(decide (a.getD k 0=b.getD k 0)))=true:=e2
    rw [q] at e2; simp at e2
   refine (beq_eq_false_iff_ne.2 fun q=>e2 ?_).symm
   rw [q]
  ·have e2:a.getD k 0=b.getD k 0:=by
    have e2:(!(decide (a.getD k 0=b.getD k 0)))=false:=e2
    simpa using e2
   exact ⟨rfl,⟨k+1,rfl,by omega,by rw [ta,tb,hq,e2]⟩,by omega⟩
 ·have e1:k=a.length:=by have:=of_decide_eq_false e1; omega
  subst e1
  refine congrArg r1 (beq_iff_eq.2 ?_).symm
  rw [List.take_length] at hq
  rw [hq,e,List.take_length]
end Go.Lift

namespace Go.Lift
open Go.Proofs
def Zq6:Con:=Con.nam [.slice (.flt .f64),.slice (.flt .f64)] [.snap .bool] (fun _=>True) (fun x=>allR x.1 x.2.1)
def Znr:Hn:={ loops:=Z2n [(4,{ ls:=[(.slot 5,.data (.int .i64))],os:=[] })],joins:=fun _=>none,named:=true }
def Zq7:Cx:=⟨Zx Z10,Zz [(90,Zmr)],RbG⟩
theorem Zy0:CxOk Tryz.prog Zq7:=⟨Z8 Zb,Zd ⟨Z134,trivial⟩⟩
theorem Z13n:FnAt Tryz.prog 42 Tryz.f42.ntmps Tryz.f42.results.toList (Tryz.f42.body.getD .skip):=⟨Tryz.f42,Tryz.func42,rfl,rfl,by simp,by decide⟩
theorem Z13o (a:List Nat) (b:List Nat) (post:Bool × Unit→Prop):Zi Zq7 Znr Tryz.f42.ntmps Tryz.f42.results.toList (Tryz.f42.body.getD .skip) [.slice (.flt .f64),.slice (.flt .f64)] [.snap .bool] (a,b,()) post=Zjx  a b post:=by kernel_rfl
theorem Z150:Zq6.holds Tryz.prog RbG 42 :=
 Z19 (detP Zy0 Zc Znr Z13n (F:=fun x post=>Zjx  x.1 x.2.1 post) (fun x post=>Z13o x.1 x.2.1 post) fun x _ w=>Z17u  x.1 x.2.1 w)
end Go.Lift

namespace Go.Lift
open Go.Proofs
def Zil:Con:=Con.nam [kSea] [.snap .bool] (fun _=>True) (fun x=>Z11d x.1)
def Zg6:Hn:={ loops:=Z2n [],joins:=fun _=>none,named:=true }
def Zim:Cx:=⟨Zx Z10,Zz [],RbG⟩
theorem Zph:CxOk Tryz.prog Zim:=⟨Z8 Zb,fun f c h=>by cases h⟩
theorem Zvm:FnAt Tryz.prog 39 Tryz.f39.ntmps Tryz.f39.results.toList (Tryz.f39.body.getD .skip):=⟨Tryz.f39,Tryz.func39,rfl,rfl,by simp,by decide⟩
theorem Zvn (s:(List Nat) × (List Int) × (List Int) × (List Nat) × Int × Int) (post:Bool × Unit→Prop):Zi Zim Zg6 Tryz.f39.ntmps Tryz.f39.results.toList (Tryz.f39.body.getD .skip) [kSea] [.snap .bool] (s,()) post=Zbe  s post:=by kernel_rfl
theorem Zy1:Zil.holds Tryz.prog RbG 39 :=
 Z19 (detP Zph Zc Zg6 Zvm (F:=fun x post=>Zbe  x.1 post) (fun x post=>Zvn x.1 post) fun x _ _=>Zzr  x.1)
def Zjy:Con:=.det [.int .i64,kSea] [.snap .bool] (fun x=>Z19e x.1 x.2.1) (fun x=>yesS x.1 x.2.1)
def Z7z:Hn:={ loops:=Z2n [(18,{ ls:=[(.slot 19,.data (.int .i64))],os:=[(21,2,.int .i64)] }),(22,{ ls:=[(.slot 20,.data (.int .i64))],os:=[(22,2,.int .i64)] }),(26,{ ls:=[(.slot 21,.data (.int .i64))],os:=[(25,3,.int .i64)] }),(30,{ ls:=[(.slot 22,.data (.int .i64))],os:=[] }),(35,{ ls:=[(.slot 23,.data (.int .i64)),(.slot 8,.row 2 (.int .i64)),(.slot 9,.row 2 (.int .i64)),(.slot 14,.row 3 (.int .i64))],os:=[] })],joins:=fun _=>none,named:=true,inl:=inlL [40,41] }
def Z4z:Cx:=⟨Zx Z10,Zz [(22,Zg5),(24,Zeh),(39,Zil),(23,Zc1),(29,Z5o),(32,Z6n),(27,Zih),(28,Z6w),(42,Zq6)],RbG⟩
theorem Z6o:CxOk Tryz.prog Z4z:=⟨Z8 Zb,Zd ⟨Zvl,Zn8,Zy1,Zkr,Z8t,Z9v,Zxu,Zce,Z150,trivial⟩⟩
theorem Zin:FnAt Tryz.prog 11 Tryz.f11.ntmps Tryz.f11.results.toList (Tryz.f11.body.getD .skip):=⟨Tryz.f11,Tryz.func11,rfl,rfl,by simp,by decide⟩
theorem Zio (n:Int) (s:(List Nat) × (List Int) × (List Int) × (List Nat) × Int × Int) (post:Bool × Unit→Prop):Z56 Z4z Z7z (Z95 Z4z Zgf 6) Tryz.f11.ntmps Tryz.f11.results.toList (Tryz.f11.body.getD .skip) [.int .i64,kSea] [.snap .bool] (n,s,()) post=Z58 39 59 2 3 n s post:=by kernel_rfl
theorem Zjz:Zjy.holds Tryz.prog RbG 11 :=
 Zt2 Z6o Zc Z7z (Z89 Z6o Zc Zwg 6) Zin (F:=fun x post=>Z58 39 59 2 3 x.1 x.2.1 post) (fun x post=>Zio x.1 x.2.1 post) fun x h w=>Zks 39 59 2 3 x.1 x.2.1 h w
end Go.Lift

namespace Go.Proofs.YtplhligfkbgllaaGreatDoor
open Go.Lift
theorem riverKeeps_law:Z15e Rows.riverKeepsSpec 2:=⟨rfl,fun H ds h=>by
 match ds,h with
 | [d1,d2],_=>rfl⟩
set_option maxRecDepth 100000 in
theorem riverKeeps_lifted (os:Os) (started:os.Started) (H:Type) (enc:TypeId × Value→H) :
  ReturnsInHanded {} Tryz.checked os 11 .any (fun w args=>(Rows.riverKeepsSpec.pre enc Tryz.prog Tryz.f11 [] false w args∧laidMetH Tryz.prog Ztr w)∧sizedMet enc Tryz.prog Tryz.f11 (OpenSpec.ofChange Rows.riverKeepsSpec) false w args) (Rows.riverKeepsSpec.post enc Tryz.prog Tryz.f11 false true false false) :=
 Z1bu (C:=Tryz.checked) (X:=fun w _=>laidMetH Tryz.prog Ztr w) (fun _ _ _ hh h=>h.of_heap hh) (fun w _ h=>Z17i w h) own started (by kernel_rfl) Tryz.func11 rfl (by decide)
  (ChangeSpec.witness_shaped (enc:=enc) (C:=Tryz.checked) (os:=os) (X:=fun w _=>laidMetH Tryz.prog Ztr w) false (World.doorLaid Tryz.prog 400 os) #[.int .i64 0,.agg #[.slice none 0 0,.slice none 0 0,.slice none 0 0,.slice none 0 0,.int .i64 0,.int .i64 0]] 12 rfl (World.shaped_of_RefB (by kernel_rfl) (by kernel_rfl)) (by kernel_rfl) (by kernel_rfl) (by kernel_rfl) (Z1bv os _))
  Z1da (Zt4 _ [.int .i64,kSea] (by kernel_rfl)) (by decide +kernel) rfl (by kernel_rfl) riverKeeps_law Zjz (fun x h w=>⟨rngI h.1,Z1ed h.2.1⟩)
theorem riverKeeps_holds:Rows.RiverKeepsSaid :=
 OpenClaim.holds_of_wide 11 Tryz.f11 rfl rfl rfl rfl rfl rfl rfl ⟨rfl,rfl,rfl,rfl,rfl⟩ rfl rfl rfl rfl rfl (by kernel_rfl) Tryz.func11 (by kernel_rfl)
  (of_decide_eq_true (by kernel_rfl)) (by unfold Func.isWrapper; first | (rw [if_pos (by decide +kernel)]; kernel_rfl) | (rw [if_neg (by decide +kernel)]; exact ⟨rfl,rfl⟩))
  (fun os started H enc _=>riverKeeps_lifted os started H enc)
theorem riverKeeps_card:Rows.RiverKeepsCardSaid :=
 Claim7.holds_tied_plain_at .later [] [.wider,.data] true (true, "78fee6c63abe0f1848884245aa960bf780b6b198ac179e9f617ebec8ad318169") false
  riverKeeps_holds (fun _ h=>by cases h) (by kernel_rfl) (fun _ h=>by cases h) riverKeeps_row_tie rfl ⟨rfl,rfl⟩ (by kernel_rfl) rfl
  (fun f fn hf hfn=>by
   obtain rfl:f=11:=Option.some.inj ((show Tryz.prog.funcNamed "tarn/tarnlaw19.RiverKeeps" = some 11 by kernel_rfl).symm.trans hf) |>.symm
   obtain rfl:fn=Tryz.f11:=(Option.some.inj (Tryz.func11.symm.trans hfn)).symm
   exact ⟨by kernel_rfl,fun j t ht=>by
    rw [Tryz.params11] at ht
    have hm:t ∈ [3,39]:=by simpa using Array.mem_of_getElem? ht
    have hall:([3,39].all fun u=>!Tryz.prog.wantsStandIn u)=true:=by kernel_rfl
    exact (show Tryz.prog.wantsStandIn t=false by simpa using List.all_eq_true.1 hall t hm)⟩)
  (by kernel_rfl)
end Go.Proofs.YtplhligfkbgllaaGreatDoor
