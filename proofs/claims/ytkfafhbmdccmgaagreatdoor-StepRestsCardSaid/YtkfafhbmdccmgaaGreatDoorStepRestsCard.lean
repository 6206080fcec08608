/- tarnlaw21.StepRests: at every input it returns true and leaves the arguments as they were; cube.frames and geom.frames read as the program's text lays them. -/
import Derived.Test.YtkfafhbmdccmgaaGreatDoorTie
import Derived.Test.YtkfafhbmdccmgaaGreatDoorCards
import Derived.Test.YtkfafhbmdccmgaaGreatDoorPtF
set_option linter.unusedVariables false
set_option linter.unusedSimpArgs false
set_option linter.unusedSectionVars false
open Go.IntKind (i64 u64 u32 u8)
open Go.FloatKind (f64 f32)
namespace Go.Lift
def Z15y:=λ(ty3:Nat)(m:Md)(tb:Nat)(cs:List SV)(xs:List Int)(a b n:Int)(fv:EV)(k:EV->List HObj->Prop)=>HIs [HObj.box m tb cs,HObj.row Md.rw ty3
 (K.int i64) xs] [HObj.box m tb cs,HObj.row Md.rw ty3 (K.int i64) xs]/\∃(I:Int × Unit->List Int × Unit->Prop),∃(μ:Int × Unit->List Int × Unit->Nat),I
 (0,()) (xs,())/\∀(x:Int × Unit)(y:List Int × Unit),I x y->∀(a_1:Bool),a_1=decide (x.fst<n)->Br a_1 (∃(h:0<=i64.wrap (b+x.fst)/\
 i64.wrap (b+x.fst)<(↑xs.length:Int)),∃(h:0<=i64.wrap (a+x.fst)/\i64.wrap (a+x.fst)<(↑xs.length:Int)),∃(h:0<=
 i64.wrap (a+x.fst)/\i64.wrap (a+x.fst)<(↑xs.length:Int)),∃(h:0<=i64.wrap (b+x.fst)/\i64.wrap (b+x.fst)<(↑xs.length:
 Int)),HIs [HObj.box m tb cs,HObj.row Md.rw ty3 (K.int i64) ((y.fst.set (0+(i64.wrap (a+x.fst)).toNat) (y.fst.getD (0+(i64.wrap (b+
 x.fst)).toNat) 0)).set (0+(i64.wrap (b+x.fst)).toNat) (y.fst.getD (0+(i64.wrap (a+x.fst)).toNat) 0))] [HObj.box m tb cs,
 HObj.row Md.rw ty3 (K.int i64) ((y.fst.set (0+(i64.wrap (a+x.fst)).toNat) (y.fst.getD (0+(i64.wrap (b+x.fst)).toNat) (0:
 Int))).set (0+(i64.wrap (b+x.fst)).toNat) (y.fst.getD (0+(i64.wrap (a+x.fst)).toNat) 0))]/\I (i64.wrap (x.fst+(1:
 Int)),()) ((y.fst.set (0+(i64.wrap (a+x.fst)).toNat) (y.fst.getD (0+(i64.wrap (b+x.fst)).toNat) 0)).set (0+
 (i64.wrap (b+x.fst)).toNat) (y.fst.getD (0+(i64.wrap (a+x.fst)).toNat) 0),())/\μ (i64.wrap (x.fst+1),()) ((y.fst.set ((0
 : Nat)+(i64.wrap (a+x.fst)).toNat) (y.fst.getD (0+(i64.wrap (b+x.fst)).toNat) 0)).set (0+(i64.wrap (b+x.fst)).toNat)
 (y.fst.getD (0+(i64.wrap (a+x.fst)).toNat) 0),())<μ x y) (k (EV.tup []) [HObj.box m tb cs,HObj.row Md.rw ty3 (K.int i64) y.fst])
theorem Z1nm(ty0:Nat)(m:Md)(tb:Nat)(cs:List SV)(xs:List Int)(a b n:Int)(fv:EV)(k:EV->List HObj->Prop)(h:List.length xs<=maxN/\0<=a/\0<=n/\a+n<=b/\b+n<=(List.length xs:Int))(hk:∀ ys:List Int,ys=Z3y xs (swI a.toNat b.toNat n.toNat)/\ys.Perm xs->k (.tup []) [.box m tb cs,.row .rw ty0 (.int .i64) ys]):Z15y ty0 m tb cs xs a b n fv k:=by
 obtain⟨hl,ha,hn,hab,hb⟩:=h;have mx:maxN=281474976710656:=rfl;obtain⟨A,rfl⟩:∃ q:Nat,a=(q:Int):=⟨a.toNat,by omega⟩;obtain⟨B,rfl⟩:∃ q:Nat,b=(q:Int):=⟨b.toNat,by omega⟩;obtain⟨N,rfl⟩:∃ q:Nat,n=(q:Int):=⟨n.toNat,by omega⟩;simp only[Int.toNat_natCast]at hk;refine⟨rfl,λx y=>∃ j:Nat,x.1=j/\j<=N/\y.1=Z3y xs (swI A B j)/\y.1.Perm xs,λx _=>N - x.1.toNat,⟨0,rfl,by omega,(Z1gb λp _=>Z1sr A B p).symm,.refl _⟩,?_⟩;rintro⟨_,⟨⟩⟩ ⟨y,⟨⟩⟩ ⟨j,rfl,hj,hy,hp⟩;dsimp only at hy hp ⊢;have ly:y.length=xs.length:=by rw[hy,Z2j]
 rintro _ rfl;refine Br.intro (λd=>?_) λd=>?_
 ·have d:j<N:=by have d:(j:Int)<N:=of_decide_eq_true d; omega
  rw[Zy (x:=(B:Int)+j) (by omega) (by omega),Zy (x:=(A:Int)+j) (by omega) (by omega),Zy (x:=(j:Int)+1) (by omega) (by omega),show((B:Int)+j).toNat=B+j by omega,show((A:Int)+j).toNat=A+j by omega,Nat.zero_add,Nat.zero_add];refine⟨⟨by omega,by omega⟩,⟨by omega,by omega⟩,⟨by omega,by omega⟩,⟨by omega,by omega⟩,rfl,⟨j+1,by omega,by omega,?_,?_⟩,by omega⟩
  ·show swp y (A+j) (B+j)=_;rw[hy]; exact Z1q2 (by omega) (by omega)
  ·exact(Z1ga (by omega) (by omega)).trans hp
 have d:j=N:=by have d:¬ (j:Int)<N:=of_decide_eq_false d; omega
 subst d;exact hk _ ⟨hy,hp⟩
def Zw2:=λ(ty3:Nat)(md:Md)(tb:Nat)(cs:List SV)(xs:List Int)(a m b:Int)(fv:EV)(k:EV->List HObj->Prop)=>HIs [HObj.box md tb cs,HObj.row Md.rw
 ty3 (K.int i64) xs] [HObj.box md tb cs,HObj.row Md.rw ty3 (K.int i64) xs]/\∃(I:Int × Int × Unit->List Int × Unit->Prop),∃(μ:Int × Int × Unit->List Int
 × Unit->Nat),I (i64.wrap (m - a),i64.wrap (b - m),()) (xs,())/\∀(x:Int × Int × Unit)(y:List Int × Unit),I x y->∀(a:Bool),a=(x.fst != x.snd.fst)
 -> Br a (∀(a:Bool),a=decide (x.fst > x.snd.fst)->Br a (∃(x_4:(ty3=ty3)/\xs.length=y.fst.length/\y.fst.length<=maxN/\0<=i64.wrap (m - x.fst)/\(0
 : Int)<=x.snd.fst/\i64.wrap (m - x.fst)+x.snd.fst<=m/\m+x.snd.fst<=(↑y.fst.length:Int)),∀(ys:List Int),ys=Z3y y.fst (swI (i64.wrap (m -
 x.fst)).toNat m.toNat x.snd.fst.toNat)/\ys.Perm y.fst->HIs [HObj.box md tb cs,HObj.row Md.rw ty3 (K.int i64) ys] [HObj.box md tb cs,HObj.row Md.rw ty3 (K.int
 i64) ys]/\I (i64.wrap (x.fst - x.snd.fst),x.snd.fst,()) (ys,())/\μ (i64.wrap (x.fst - x.snd.fst),x.snd.fst,()) (ys,())<μ x y) (∃(x_4:(ty3=
 ty3)/\xs.length=y.fst.length/\y.fst.length<=maxN/\0<=i64.wrap (m - x.fst)/\0<=x.fst/\i64.wrap (m - x.fst)+x.fst<=i64.wrap
 (i64.wrap (m+x.snd.fst) - x.fst)/\i64.wrap (i64.wrap (m+x.snd.fst) - x.fst)+x.fst<=(↑y.fst.length:Int)),∀(ys:List Int),ys=Z3y y.fst (swI
 (i64.wrap (m - x.fst)).toNat (i64.wrap (i64.wrap (m+x.snd.fst) - x.fst)).toNat x.fst.toNat)/\ys.Perm y.fst->HIs [HObj.box md tb cs,HObj.row Md.rw ty3
 (K.int i64) ys] [HObj.box md tb cs,HObj.row Md.rw ty3 (K.int i64) ys]/\I (x.fst,i64.wrap (x.snd.fst - x.fst),()) (ys,())/\μ (x.fst,i64.wrap
 (x.snd.fst - x.fst),()) (ys,())<μ x y)) (∃(x_3:(ty3=ty3)/\xs.length=y.fst.length/\y.fst.length<=maxN/\0<=i64.wrap (m - x.fst)/\0<=x.fst/\
 i64.wrap (m - x.fst)+x.fst<=m/\m+x.fst<=(↑y.fst.length:Int)),∀(ys:List Int),ys=Z3y y.fst (swI (i64.wrap (m - x.fst)).toNat m.toNat x.fst.toNat)/\
 ys.Perm y.fst->k (EV.tup []) [HObj.box md tb cs,HObj.row Md.rw ty3 (K.int i64) ys])
theorem Z1rb(ty0:Nat)(md:Md)(tb:Nat)(cs:List SV)(xs:List Int)(a m b:Int)(fv:EV)(k:EV->List HObj->Prop)(h:List.length xs<=maxN/\0<=a/\a<m/\m<b/\b<=(List.length xs:Int))(hk:∀ ys:List Int,ys=Z3y xs (rotI a.toNat m.toNat b.toNat)/\ys.Perm xs->k (.tup []) [.box md tb cs,.row .rw ty0 (.int .i64) ys]):Zw2 ty0 md tb cs xs a m b fv k:=by
 unfold Zw2;obtain⟨hl,ha,ham,hmb,hb⟩:=h;have mx:maxN=281474976710656:=rfl;obtain⟨A,rfl⟩:∃ q:Nat,a=(q:Int):=⟨a.toNat,by omega⟩;obtain⟨M,rfl⟩:∃ q:Nat,m=(q:Int):=⟨m.toNat,by omega⟩;obtain⟨B,rfl⟩:∃ q:Nat,b=(q:Int):=⟨b.toNat,by omega⟩;simp only[Int.toNat_natCast]at hk;have wsub:∀ u v:Nat,v<=u->u<=xs.length->i64.wrap ((u:Int) - v)=((u - v:Nat):Int):=λu v h1 h2=>by rw[Zy (by omega) (by omega)]; omega
 rw[wsub M A (by omega) (by omega),wsub B M (by omega) (by omega)];refine⟨rfl,λx y=>∃ i j:Nat,x.1=i/\x.2.1=j/\0<i/\0<j/\i<=M/\M+j<=xs.length/\y.1.length=xs.length/\Z3y y.1 (rotI (M - i) M (M+j))=Z3y xs (rotI A M B)/\y.1.Perm xs,λx _=>(x.1+x.2.1).toNat,⟨M - A,B - M,rfl,rfl,by omega,by omega,by omega,by omega,rfl,by rw[show M - (M - A)=A by omega,show M+(B - M)=B by omega],.refl _⟩,?_⟩;rintro⟨_,_,⟨⟩⟩ ⟨y,⟨⟩⟩ ⟨i,j,rfl,rfl,hi,hj,hiM,hMj,ly,hy,hp⟩;dsimp only at ly hy hp ⊢;rintro _ rfl;refine Br.intro (λd=>?_) λd=>?_
 ·have d:i≠j:=λe=>by subst e; simp at d
  rintro _ rfl;refine Br.intro (λe=>?_) λe=>?_
  ·have e:j<i:=by have e:(j:Int)<i:=of_decide_eq_true e; omega
   rw[wsub M i (by omega) (by omega),Int.toNat_natCast,Int.toNat_natCast,Int.toNat_natCast,Zy (x:=(i:Int) - j) (by omega) (by omega)];refine⟨⟨rfl,ly.symm,by omega,by omega,by omega,by omega,by omega⟩,?_⟩;rintro ys ⟨rfl,hps⟩;refine⟨rfl,⟨i - j,j,by omega,rfl,by omega,hj,by omega,hMj,by rw[Z2j]; exact ly,?_,hps.trans hp⟩,by omega⟩;rw[Zyg (υ:=rotI (M - i) M (M+j)) (λp hp=>Z174 (by omega) (by omega) (by omega) hp) λp _=>Z1ss hj e hiM p];exact hy
  ·have e:i<j:=by have e:¬ (j:Int)<i:=of_decide_eq_false e; omega
   have w2:i64.wrap (i64.wrap ((M:Int)+j) - i)=((M+j - i:Nat):Int):=by rw[Zy (x:=(M:Int)+j) (by omega) (by omega),Zy (by omega) (by omega)]; omega
   rw[w2,wsub M i (by omega) (by omega),Int.toNat_natCast,Int.toNat_natCast,Int.toNat_natCast,Zy (x:=(j:Int) - i) (by omega) (by omega)];refine⟨⟨rfl,ly.symm,by omega,by omega,by omega,by omega,by omega⟩,?_⟩;rintro ys ⟨rfl,hps⟩;refine⟨rfl,⟨i,j - i,rfl,by omega,hi,by omega,by omega,by omega,by rw[Z2j]; exact ly,?_,hps.trans hp⟩,by omega⟩;rw[Zyg (υ:=rotI (M - i) M (M+j)) (λp hp=>Z174 (by omega) (by omega) (by omega) hp) λp _=>Z1st hi e hiM p];exact hy
 have d:i=j:=by
  have d:(i:Int)=j:=by simpa using d
  omega
 subst d;rw[wsub M i (by omega) (by omega),Int.toNat_natCast,Int.toNat_natCast,Int.toNat_natCast];refine⟨⟨rfl,ly.symm,by omega,by omega,by omega,by omega,by omega⟩,?_⟩;rintro ys ⟨hys,hps⟩;refine hk _ ⟨?_,hps.trans hp⟩;rw[<- hy,hys];congr 1;funext p;exact Z1su hi hiM p
def Zw3:=λ(ty3:Nat)(m:Md)(tb:Nat)(bed:List Nat)(xs:List Int)(a b:Int)(k:EV->List HObj->Prop)=>HIs [HObj.box m tb [SV.data (K.flt
 f64).slice bed],HObj.row Md.rw ty3 (K.int i64) xs] [HObj.box m tb [SV.data (K.flt f64).slice bed],HObj.row Md.rw ty3 (K.int i64) xs]/\
 ∃(I:Int × Unit->List Int × Unit->Prop),∃(μ:Int × Unit->List Int × Unit->Nat),I (i64.wrap (a+1),()) (xs,())/\∀(x:Int × Unit)(y:List Int ×
 Unit),I x y->∀(a_1:Bool),a_1=decide (x.fst<b)->Br a_1 (HIs [HObj.box m tb [SV.data (K.flt f64).slice bed],HObj.row Md.rw ty3 (K.int i64) y.fst]
 [HObj.box m tb [SV.data (K.flt f64).slice bed],HObj.row Md.rw ty3 (K.int i64) y.fst]/\∃(I_1:Int × Unit->List Int × Unit->Prop),∃(μ_1:Int × Unit->
 List Int × Unit->Nat),I_1 (x.fst,()) (y.fst,())/\∀(x_3:Int × Unit)(y_1:List Int × Unit),I_1 x_3 y_1->∀(a_2:Bool),a_2=decide (x_3.fst > a)->Br a_2 (∃(h:(0:
 Int)<=x_3.fst/\x_3.fst<(↑xs.length:Int)),∃(h:0<=i64.wrap (x_3.fst - 1)/\i64.wrap (x_3.fst - 1)<(↑xs.length:Int)),∃(h:
 WCmp (y_1.fst.getD (0+x_3.fst.toNat) 0) (y_1.fst.getD (0+(i64.wrap (x_3.fst - 1)).toNat) 0) (some bed)),∀(a:Int ×
 Unit),a=Zbt (y_1.fst.getD (0+x_3.fst.toNat) 0) (y_1.fst.getD (0+(i64.wrap (x_3.fst - 1)).toNat) 0) (some bed)->∀
 (a_3:Bool),a_3=decide (a.fst<0)->Br a_3 (∃(h:0<=i64.wrap (x_3.fst - 1)/\i64.wrap (x_3.fst - 1)<(↑xs.length:Int)),
 ∃(h:0<=x_3.fst/\x_3.fst<(↑xs.length:Int)),∃(h:0<=x_3.fst/\x_3.fst<(↑xs.length:Int)),∃(h:0<=i64.wrap (x_3.fst - 1)/\
 i64.wrap (x_3.fst - 1)<(↑xs.length:Int)),HIs [HObj.box m tb [SV.data (K.flt f64).slice bed],HObj.row Md.rw ty3 (K.int i64) ((y_1.fst.set
 (0+x_3.fst.toNat) (y_1.fst.getD (0+(i64.wrap (x_3.fst - 1)).toNat) 0)).set (0+(i64.wrap (x_3.fst - 1)).toNat)
 (y_1.fst.getD (0+x_3.fst.toNat) 0))] [HObj.box m tb [SV.data (K.flt f64).slice bed],HObj.row Md.rw ty3 (K.int i64) ((y_1.fst.set (0
 + x_3.fst.toNat) (y_1.fst.getD (0+(i64.wrap (x_3.fst - 1)).toNat) 0)).set (0+(i64.wrap (x_3.fst - 1)).toNat)
 (y_1.fst.getD (0+x_3.fst.toNat) 0))]/\I_1 (i64.wrap (x_3.fst - 1),()) ((y_1.fst.set (0+x_3.fst.toNat) (y_1.fst.getD (0+
 (i64.wrap (x_3.fst - 1)).toNat) 0)).set (0+(i64.wrap (x_3.fst - 1)).toNat) (y_1.fst.getD (0+x_3.fst.toNat) 0),
 ())/\μ_1 (i64.wrap (x_3.fst - 1),()) ((y_1.fst.set (0+x_3.fst.toNat) (y_1.fst.getD (0+(i64.wrap (x_3.fst - 1)).toNat) (0:
 Int))).set (0+(i64.wrap (x_3.fst - 1)).toNat) (y_1.fst.getD (0+x_3.fst.toNat) 0),())<μ_1 x_3 y_1) (HIs [HObj.box m tb [SV.data
 (K.flt f64).slice bed],HObj.row Md.rw ty3 (K.int i64) y_1.fst] [HObj.box m tb [SV.data (K.flt f64).slice bed],HObj.row Md.rw ty3 (K.int
 i64) y_1.fst]/\I (i64.wrap (x.fst+1),()) (y_1.fst,())/\μ (i64.wrap (x.fst+1),()) (y_1.fst,())<μ x y)) (HIs [HObj.box m tb
 [SV.data (K.flt f64).slice bed],HObj.row Md.rw ty3 (K.int i64) y_1.fst] [HObj.box m tb [SV.data (K.flt f64).slice bed],HObj.row Md.rw ty3
 (K.int i64) y_1.fst]/\I (i64.wrap (x.fst+1),()) (y_1.fst,())/\μ (i64.wrap (x.fst+1),()) (y_1.fst,())<μ x y)) (k (EV.tup [])
 [HObj.box m tb [SV.data (K.flt f64).slice bed],HObj.row Md.rw ty3 (K.int i64) y.fst])
theorem Z1rc(ty0:Nat)(m:Md)(tb:Nat)(bed:List Nat)(xs:List Int)(a b:Int)(k:EV->List HObj->Prop)(h:Z4m bed xs/\0<=a/\a<=b/\b<=(List.length xs:Int))(hk:∀ ys:List Int,Rr (keyB bed) a.toNat b.toNat xs ys/\Sgm (keyB bed) ys a.toNat b.toNat->k (.tup []) [.box m tb [.data (.slice (.flt .f64)) bed],.row .rw ty0 (.int .i64) ys]):Zw3 ty0 m tb bed xs a b k:=by
 unfold Zw3;obtain⟨bo,ha,hab,hb⟩:=h;have mx:maxN=281474976710656:=rfl;have hmx:=bo.2.2;obtain⟨A,rfl⟩:∃ q:Nat,a=(q:Int):=⟨a.toNat,by omega⟩;obtain⟨B,rfl⟩:∃ q:Nat,b=(q:Int):=⟨b.toNat,by omega⟩;simp only[Int.toNat_natCast]at hk;rw[Zy (x:=(A:Int)+1) (by omega) (by omega)];refine⟨rfl,λx y=>∃ i:Nat,x.1=i/\A<i/\Rr (keyB bed) A B xs y.1/\Sgm (keyB bed) y.1 A i,λx _=>B - x.1.toNat,⟨A+1,by omega,by omega,.refl _ _ _,.one (by omega)⟩,?_⟩;rintro⟨_,⟨⟩⟩ ⟨y,⟨⟩⟩ ⟨i,rfl,hi,hr,hs⟩;dsimp only at hr hs ⊢;rintro _ rfl;refine Br.intro (λd=>?_) λd=>?_
 rotate_left
 ·have d:B<=i:=by have d:¬ (i:Int)<B:=of_decide_eq_false d; omega
  exact hk _ ⟨hr,hs.sub (Nat.le_refl _) d⟩
 have d:i<B:=by have d:(i:Int)<B:=of_decide_eq_true d; omega
 rw[Zy (x:=(i:Int)+1) (by omega) (by omega)];refine⟨rfl,λx y=>∃ j:Nat,x.1=j/\A<=j/\j<=i/\Rr (keyB bed) A B xs y.1/\InsI (keyB bed) y.1 A i j,λx _=>x.1.toNat,⟨i,rfl,by omega,by omega,hr,.start hs⟩,?_⟩;rintro⟨_,⟨⟩⟩ ⟨z,⟨⟩⟩ ⟨j,rfl,hj1,hj2,hz,hI⟩;dsimp only at hz hI ⊢;have lz:=hz.len;have bz:=bo.perm hz.perm;rintro _ rfl;refine Br.intro (λe=>?_) λe=>?_
 rotate_left
 ·have e:j=A:=by have e:¬ (A:Int)<j:=of_decide_eq_false e; omega
  exact⟨rfl,⟨i+1,by omega,by omega,hz,hI.done hj2 (.inl e)⟩,by omega⟩
 have e:A<j:=by have e:(A:Int)<j:=of_decide_eq_true e; omega
 obtain⟨j',rfl⟩:∃ j',j=j'+1:=⟨j - 1,by omega⟩;have w1:i64.wrap (((j'+1:Nat):Int) - 1)=(j':Int):=by rw[Zy (by omega) (by omega)]; omega
 rw[w1,Int.toNat_natCast,Int.toNat_natCast,Nat.zero_add,Nat.zero_add];refine⟨⟨by omega,by omega⟩,⟨by omega,by omega⟩,bz.cmp (by omega) (by omega),?_⟩;rintro _ rfl;rintro _ rfl;refine Br.intro (λc=>?_) λc=>?_
 ·have c:keyB bed (at0 z (j'+1))<keyB bed (at0 z j'):=(Z8t _ _ _).1 (of_decide_eq_true c);exact⟨⟨by omega,by omega⟩,⟨by omega,by omega⟩,⟨by omega,by omega⟩,⟨by omega,by omega⟩,rfl,⟨j',rfl,by omega,by omega,hz.trans (Z1gc (i:=j') (by omega) (by omega) (by omega) c),hI.step hj2 (by omega) (by omega) c⟩,by omega⟩
 ·have c:¬ keyB bed (at0 z (j'+1))<keyB bed (at0 z j'):=λq=>of_decide_eq_false c ((Z8t _ _ _).2 q);exact⟨rfl,⟨i+1,by omega,by omega,hz,hI.done hj2 (.inr ⟨e,by show keyB bed (at0 z (j'+1 - 1))<=_; rw[show j'+1 - 1=j' by omega]; omega⟩)⟩,by omega⟩
def Zw4:=λ(ty3 fn72:Nat)(md:Md)(tb N:Nat)(bed:List Nat)(xs:List Int)(a m b:Int)(k:EV->List HObj->Prop)=>∀(a_1:Bool),a_1=(i64.wrap (m
 - a)==1)->Br a_1 (HIs [HObj.box md tb [SV.data (K.flt f64).slice bed],HObj.row Md.rw ty3 (K.int i64) xs] [HObj.box md tb [SV.data (K.flt
 f64).slice bed],HObj.row Md.rw ty3 (K.int i64) xs]/\∃(I:Int × Int × Unit->Unit->Prop),∃(μ:Int × Int × Unit->Unit->Nat),I (m,b,()) ()/\∀(x:
 Int × Int × Unit) (y:Unit),I x y->∀(a_2:Bool),a_2=decide (x.fst<x.snd.fst)->Br a_2 (∃(h:(0:Int)<=1),∃(h:0<=i64.wrap
 ((u64.wrap (i64.wrap (x.fst+x.snd.fst))).fdiv (2 ^ Min.min (Int.toNat 1) u64.bits))/\i64.wrap ((u64.wrap
 (i64.wrap (x.fst+x.snd.fst))).fdiv (2 ^ Min.min (Int.toNat 1) u64.bits))<(↑xs.length:Int)),∃(h:0<=a/\a<(↑xs.length:Int)),∃
 (h:WCmp (xs.getD (0+(i64.wrap ((u64.wrap (i64.wrap (x.fst+x.snd.fst))).fdiv (2 ^ Min.min (Int.toNat 1)
 u64.bits))).toNat) 0) (xs.getD (0+a.toNat) 0) (some bed)),∀(a_3:Int × Unit),a_3=Zbt (xs.getD (0+(i64.wrap
 ((u64.wrap (i64.wrap (x.fst+x.snd.fst))).fdiv (2 ^ Min.min (Int.toNat 1) u64.bits))).toNat) 0) (xs.getD (0+a.toNat) (0
 : Int)) (some bed)->∀(a:Bool),a=decide (a_3.fst<0)->Br a (HIs [HObj.box md tb [SV.data (K.flt f64).slice bed],HObj.row Md.rw ty3 (K.int
 i64) xs] [HObj.box md tb [SV.data (K.flt f64).slice bed],HObj.row Md.rw ty3 (K.int i64) xs]/\I (i64.wrap (i64.wrap
 ((u64.wrap (i64.wrap (x.fst+x.snd.fst))).fdiv (2 ^ Min.min (Int.toNat 1) u64.bits))+1),x.snd.fst,()) ()/\μ (i64.wrap
 (i64.wrap ((u64.wrap (i64.wrap (x.fst+x.snd.fst))).fdiv (2 ^ Min.min (Int.toNat 1) u64.bits))+1),x.snd.fst,()) ()<μ
 x y) (HIs [HObj.box md tb [SV.data (K.flt f64).slice bed],HObj.row Md.rw ty3 (K.int i64) xs] [HObj.box md tb [SV.data (K.flt f64).slice bed],
 HObj.row Md.rw ty3 (K.int i64) xs]/\I (x.fst,i64.wrap ((u64.wrap (i64.wrap (x.fst+x.snd.fst))).fdiv (2 ^ Min.min (Int.toNat 1)
 u64.bits)),()) ()/\μ (x.fst,i64.wrap ((u64.wrap (i64.wrap (x.fst+x.snd.fst))).fdiv (2 ^ Min.min (Int.toNat 1)
 u64.bits)),()) ()<μ x y)) (HIs [HObj.box md tb [SV.data (K.flt f64).slice bed],HObj.row Md.rw ty3 (K.int i64) xs] [HObj.box md tb [SV.data (K.flt
 f64).slice bed],HObj.row Md.rw ty3 (K.int i64) xs]/\∃(I:Int × Unit->List Int × Unit->Prop),∃(μ:Int × Unit->List Int × Unit->Nat),I (a,()) (xs,
 ())/\∀(x_3:Int × Unit)(y:List Int × Unit),I x_3 y->∀(a:Bool),a=decide (x_3.fst<i64.wrap (x.fst - 1))->Br a (∃(h:0<=i64.wrap
 (x_3.fst+1)/\i64.wrap (x_3.fst+1)<(↑xs.length:Int)),∃(h:0<=x_3.fst/\x_3.fst<(↑xs.length:Int)),∃(h:0<=x_3.fst/\
 x_3.fst<(↑xs.length:Int)),∃(h:0<=i64.wrap (x_3.fst+1)/\i64.wrap (x_3.fst+1)<(↑xs.length:Int)),HIs [HObj.box md tb
 [SV.data (K.flt f64).slice bed],HObj.row Md.rw ty3 (K.int i64) ((y.fst.set (0+x_3.fst.toNat) (y.fst.getD (0+(i64.wrap (x_3.fst+
 1)).toNat) 0)).set (0+(i64.wrap (x_3.fst+1)).toNat) (y.fst.getD (0+x_3.fst.toNat) 0))] [HObj.box md tb [SV.data
 (K.flt f64).slice bed],HObj.row Md.rw ty3 (K.int i64) ((y.fst.set (0+x_3.fst.toNat) (y.fst.getD (0+(i64.wrap (x_3.fst+(1:
 Int))).toNat) 0)).set (0+(i64.wrap (x_3.fst+1)).toNat) (y.fst.getD (0+x_3.fst.toNat) 0))]/\I (i64.wrap (x_3.fst+(1
 : Int)),()) ((y.fst.set (0+x_3.fst.toNat) (y.fst.getD (0+(i64.wrap (x_3.fst+1)).toNat) 0)).set (0+(i64.wrap
 (x_3.fst+1)).toNat) (y.fst.getD (0+x_3.fst.toNat) 0),())/\μ (i64.wrap (x_3.fst+1),()) ((y.fst.set (0+x_3.fst.toNat)
 (y.fst.getD (0+(i64.wrap (x_3.fst+1)).toNat) 0)).set (0+(i64.wrap (x_3.fst+1)).toNat) (y.fst.getD (0+
 x_3.fst.toNat) 0),())<μ x_3 y) (k (EV.tup []) [HObj.box md tb [SV.data (K.flt f64).slice bed],HObj.row Md.rw ty3 (K.int i64) y.fst]))) (∀(a_2:
 Bool),a_2=(i64.wrap (b - m)==1)->Br a_2 (HIs [HObj.box md tb [SV.data (K.flt f64).slice bed],HObj.row Md.rw ty3 (K.int i64) xs]
 [HObj.box md tb [SV.data (K.flt f64).slice bed],HObj.row Md.rw ty3 (K.int i64) xs]/\∃(I:Int × Int × Unit->Unit->Prop),∃(μ:Int × Int × Unit->Unit->
 Nat),I (a,m,()) ()/\∀(x:Int × Int × Unit)(y:Unit),I x y->∀(a:Bool),a=decide (x.fst<x.snd.fst)->Br a (∃(h:(0:Int)<=1),∃(h:0<=m/\m <
 (↑xs.length:Int)),∃(h:0<=i64.wrap ((u64.wrap (i64.wrap (x.fst+x.snd.fst))).fdiv (2 ^ Min.min (Int.toNat 1)
 u64.bits))/\i64.wrap ((u64.wrap (i64.wrap (x.fst+x.snd.fst))).fdiv (2 ^ Min.min (Int.toNat 1) u64.bits))<(↑xs.length:
 Int)),∃(h:WCmp (xs.getD (0+m.toNat) 0) (xs.getD (0+(i64.wrap ((u64.wrap (i64.wrap (x.fst+x.snd.fst))).fdiv (2 ^
 Min.min (Int.toNat 1) u64.bits))).toNat) 0) (some bed)),∀(a:Int × Unit),a=Zbt (xs.getD (0+m.toNat) 0) (xs.getD (0
 + (i64.wrap ((u64.wrap (i64.wrap (x.fst+x.snd.fst))).fdiv (2 ^ Min.min (Int.toNat 1) u64.bits))).toNat) 0) (some
 bed)->∀(a_3:Bool),a_3=decide (a.fst<0)->Br (!a_3) (HIs [HObj.box md tb [SV.data (K.flt f64).slice bed],HObj.row Md.rw ty3 (K.int i64) xs]
 [HObj.box md tb [SV.data (K.flt f64).slice bed],HObj.row Md.rw ty3 (K.int i64) xs]/\I (i64.wrap (i64.wrap ((u64.wrap
 (i64.wrap (x.fst+x.snd.fst))).fdiv (2 ^ Min.min (Int.toNat 1) u64.bits))+1),x.snd.fst,()) ()/\μ (i64.wrap (i64.wrap
 ((u64.wrap (i64.wrap (x.fst+x.snd.fst))).fdiv (2 ^ Min.min (Int.toNat 1) u64.bits))+1),x.snd.fst,()) ()<μ x y) (HIs
 [HObj.box md tb [SV.data (K.flt f64).slice bed],HObj.row Md.rw ty3 (K.int i64) xs] [HObj.box md tb [SV.data (K.flt f64).slice bed],HObj.row
 Md.rw ty3 (K.int i64) xs]/\I (x.fst,i64.wrap ((u64.wrap (i64.wrap (x.fst+x.snd.fst))).fdiv (2 ^ Min.min (Int.toNat 1)
 u64.bits)),()) ()/\μ (x.fst,i64.wrap ((u64.wrap (i64.wrap (x.fst+x.snd.fst))).fdiv (2 ^ Min.min (Int.toNat 1)
 u64.bits)),()) ()<μ x y)) (HIs [HObj.box md tb [SV.data (K.flt f64).slice bed],HObj.row Md.rw ty3 (K.int i64) xs] [HObj.box md tb [SV.data (K.flt
 f64).slice bed],HObj.row Md.rw ty3 (K.int i64) xs]/\∃(I:Int × Unit->List Int × Unit->Prop),∃(μ:Int × Unit->List Int × Unit->Nat),I (m,()) (xs,
 ())/\∀(x_3:Int × Unit)(y:List Int × Unit),I x_3 y->∀(a:Bool),a=decide (x_3.fst > x.fst)->Br a (∃(h:0<=i64.wrap (x_3.fst - 1)/\
 i64.wrap (x_3.fst - 1)<(↑xs.length:Int)),∃(h:0<=x_3.fst/\x_3.fst<(↑xs.length:Int)),∃(h:0<=x_3.fst/\x_3.fst<(↑xs.length:
 Int)),∃(h:0<=i64.wrap (x_3.fst - 1)/\i64.wrap (x_3.fst - 1)<(↑xs.length:Int)),HIs [HObj.box md tb [SV.data (K.flt
 f64).slice bed],HObj.row Md.rw ty3 (K.int i64) ((y.fst.set (0+x_3.fst.toNat) (y.fst.getD (0+(i64.wrap (x_3.fst - (1:
 Int))).toNat) 0)).set (0+(i64.wrap (x_3.fst - 1)).toNat) (y.fst.getD (0+x_3.fst.toNat) 0))] [HObj.box md tb [SV.data (K.flt
 f64).slice bed],HObj.row Md.rw ty3 (K.int i64) ((y.fst.set (0+x_3.fst.toNat) (y.fst.getD (0+(i64.wrap (x_3.fst - (1:
 Int))).toNat) 0)).set (0+(i64.wrap (x_3.fst - 1)).toNat) (y.fst.getD (0+x_3.fst.toNat) 0))]/\I (i64.wrap (x_3.fst - (1
 : Int)),()) ((y.fst.set (0+x_3.fst.toNat) (y.fst.getD (0+(i64.wrap (x_3.fst - 1)).toNat) 0)).set (0+(i64.wrap
 (x_3.fst - 1)).toNat) (y.fst.getD (0+x_3.fst.toNat) 0),())/\μ (i64.wrap (x_3.fst - 1),()) ((y.fst.set (0+x_3.fst.toNat)
 (y.fst.getD (0+(i64.wrap (x_3.fst - 1)).toNat) 0)).set (0+(i64.wrap (x_3.fst - 1)).toNat) (y.fst.getD (0+
 x_3.fst.toNat) 0),())<μ x_3 y) (k (EV.tup []) [HObj.box md tb [SV.data (K.flt f64).slice bed],HObj.row Md.rw ty3 (K.int i64) y.fst]))) (∃(h:(0
 : Int)<=1),∃(post:Int × Int × Unit->Unit->Prop),(∀(a_3:Bool),a_3=decide (m > i64.wrap ((u64.wrap (i64.wrap (a+b))).fdiv (2
 ^ Min.min (Int.toNat 1) u64.bits)))->Br a_3 (HIs [HObj.box md tb [SV.data (K.flt f64).slice bed],HObj.row Md.rw ty3 (K.int i64) xs]
 [HObj.box md tb [SV.data (K.flt f64).slice bed],HObj.row Md.rw ty3 (K.int i64) xs]/\post (i64.wrap (i64.wrap (i64.wrap
 ((u64.wrap (i64.wrap (a+b))).fdiv (2 ^ Min.min (Int.toNat 1) u64.bits))+m) - b),i64.wrap ((u64.wrap (i64.wrap
 (a+b))).fdiv (2 ^ Min.min (Int.toNat 1) u64.bits)),()) ()) (HIs [HObj.box md tb [SV.data (K.flt f64).slice bed],HObj.row Md.rw ty3 (K.int
 i64) xs] [HObj.box md tb [SV.data (K.flt f64).slice bed],HObj.row Md.rw ty3 (K.int i64) xs]/\post (a,m,()) ()))/\∀(x:Int × Int × Unit)(y:
 Unit),post x y->HIs [HObj.box md tb [SV.data (K.flt f64).slice bed],HObj.row Md.rw ty3 (K.int i64) xs] [HObj.box md tb [SV.data (K.flt
 f64).slice bed],HObj.row Md.rw ty3 (K.int i64) xs]/\∃(I:Int × Int × Unit->Unit->Prop),∃(μ:Int × Int × Unit->Unit->Nat),I (x.fst,x.snd.fst,())
 ()/\∀(x:Int × Int × Unit)(y:Unit),I x y->∀(a_3:Bool),a_3=decide (x.fst<x.snd.fst)->Br a_3 (∃(h:(0:Int)<=1),∃(h:0<=i64.wrap
 (i64.wrap (i64.wrap (i64.wrap ((u64.wrap (i64.wrap (a+b))).fdiv (2 ^ Min.min (Int.toNat 1) u64.bits))+m) - (1:
 Int)) - i64.wrap ((u64.wrap (i64.wrap (x.fst+x.snd.fst))).fdiv (2 ^ Min.min (Int.toNat 1) u64.bits)))/\i64.wrap
 (i64.wrap (i64.wrap (i64.wrap ((u64.wrap (i64.wrap (a+b))).fdiv (2 ^ Min.min (Int.toNat 1) u64.bits))+m) - (1:
 Int)) - i64.wrap ((u64.wrap (i64.wrap (x.fst+x.snd.fst))).fdiv (2 ^ Min.min (Int.toNat 1) u64.bits)))<(↑xs.length:Int)),∃(h
 : 0<=i64.wrap ((u64.wrap (i64.wrap (x.fst+x.snd.fst))).fdiv (2 ^ Min.min (Int.toNat 1) u64.bits))/\i64.wrap
 ((u64.wrap (i64.wrap (x.fst+x.snd.fst))).fdiv (2 ^ Min.min (Int.toNat 1) u64.bits))<(↑xs.length:Int)),∃(h:WCmp (xs.getD ((0:
 Nat)+(i64.wrap (i64.wrap (i64.wrap (i64.wrap ((u64.wrap (i64.wrap (a+b))).fdiv (2 ^ Min.min (Int.toNat 1)
 u64.bits))+m) - 1) - i64.wrap ((u64.wrap (i64.wrap (x.fst+x.snd.fst))).fdiv (2 ^ Min.min (Int.toNat 1)
 u64.bits)))).toNat) 0) (xs.getD (0+(i64.wrap ((u64.wrap (i64.wrap (x.fst+x.snd.fst))).fdiv (2 ^ Min.min (Int.toNat (1:
 Int)) u64.bits))).toNat) 0) (some bed)),∀(a_4:Int × Unit),a_4=Zbt (xs.getD (0+(i64.wrap (i64.wrap (i64.wrap
 (i64.wrap ((u64.wrap (i64.wrap (a+b))).fdiv (2 ^ Min.min (Int.toNat 1) u64.bits))+m) - 1) - i64.wrap
 ((u64.wrap (i64.wrap (x.fst+x.snd.fst))).fdiv (2 ^ Min.min (Int.toNat 1) u64.bits)))).toNat) 0) (xs.getD (0+
 (i64.wrap ((u64.wrap (i64.wrap (x.fst+x.snd.fst))).fdiv (2 ^ Min.min (Int.toNat 1) u64.bits))).toNat) 0) (some
 bed)->∀(a:Bool),a=decide (a_4.fst<0)->Br (!a) (HIs [HObj.box md tb [SV.data (K.flt f64).slice bed],HObj.row Md.rw ty3 (K.int i64) xs]
 [HObj.box md tb [SV.data (K.flt f64).slice bed],HObj.row Md.rw ty3 (K.int i64) xs]/\I (i64.wrap (i64.wrap ((u64.wrap
 (i64.wrap (x.fst+x.snd.fst))).fdiv (2 ^ Min.min (Int.toNat 1) u64.bits))+1),x.snd.fst,()) ()/\μ (i64.wrap (i64.wrap
 ((u64.wrap (i64.wrap (x.fst+x.snd.fst))).fdiv (2 ^ Min.min (Int.toNat 1) u64.bits))+1),x.snd.fst,()) ()<μ x y) (HIs
 [HObj.box md tb [SV.data (K.flt f64).slice bed],HObj.row Md.rw ty3 (K.int i64) xs] [HObj.box md tb [SV.data (K.flt f64).slice bed],HObj.row
 Md.rw ty3 (K.int i64) xs]/\I (x.fst,i64.wrap ((u64.wrap (i64.wrap (x.fst+x.snd.fst))).fdiv (2 ^ Min.min (Int.toNat 1)
 u64.bits)),()) ()/\μ (x.fst,i64.wrap ((u64.wrap (i64.wrap (x.fst+x.snd.fst))).fdiv (2 ^ Min.min (Int.toNat 1)
 u64.bits)),()) ()<μ x y)) (∃(post:Unit->List Int × Unit->Prop),(∀(a_4:Bool),a_4=decide (x.fst<m)->Br a_4 (∀(a_5:Bool),a_5=decide (m <
 i64.wrap (i64.wrap (i64.wrap ((u64.wrap (i64.wrap (a+b))).fdiv (2 ^ Min.min (Int.toNat 1) u64.bits))+m) -
 x.fst))->Br a_5 (∃(x_6:(ty3=ty3)/\xs.length=xs.length/\xs.length<=maxN/\0<=x.fst/\x.fst<m/\m<i64.wrap (i64.wrap (i64.wrap
 ((u64.wrap (i64.wrap (a+b))).fdiv (2 ^ Min.min (Int.toNat 1) u64.bits))+m) - x.fst)/\i64.wrap (i64.wrap
 (i64.wrap ((u64.wrap (i64.wrap (a+b))).fdiv (2 ^ Min.min (Int.toNat 1) u64.bits))+m) - x.fst)<=(↑xs.length:Int)),∀(ys:
 List Int),ys=Z3y xs (rotI x.fst.toNat m.toNat (i64.wrap (i64.wrap (i64.wrap ((u64.wrap (i64.wrap (a+b))).fdiv (2 ^ Min.min
 (Int.toNat 1) u64.bits))+m) - x.fst)).toNat)/\ys.Perm xs->HIs [HObj.box md tb [SV.data (K.flt f64).slice bed],HObj.row Md.rw ty3 (K.int
 i64) ys] [HObj.box md tb [SV.data (K.flt f64).slice bed],HObj.row Md.rw ty3 (K.int i64) ys]/\post () (ys,())) (HIs [HObj.box md tb [SV.data (K.flt
 f64).slice bed],HObj.row Md.rw ty3 (K.int i64) xs] [HObj.box md tb [SV.data (K.flt f64).slice bed],HObj.row Md.rw ty3 (K.int i64) xs]/\
 post () (xs,()))) (HIs [HObj.box md tb [SV.data (K.flt f64).slice bed],HObj.row Md.rw ty3 (K.int i64) xs] [HObj.box md tb [SV.data (K.flt
 f64).slice bed],HObj.row Md.rw ty3 (K.int i64) xs]/\post () (xs,())))/\∀(x_4:Unit)(y:List Int × Unit),post x_4 y->∃(post:Unit->List Int × Unit
 -> Prop),(∀(a_4:Bool),a_4=decide (a<x.fst)->Br a_4 (∀(a_5:Bool),a_5=decide (x.fst<i64.wrap ((u64.wrap (i64.wrap (a+b))).fdiv (2
 ^ Min.min (Int.toNat 1) u64.bits)))->Br a_5 (∃(x:(ty3=ty3)/\(fn72=fn72)/\xs.length=y.fst.length/\Z4m bed y.fst/\0<=a/\a<x.fst/\x.fst <
 i64.wrap ((u64.wrap (i64.wrap (a+b))).fdiv (2 ^ Min.min (Int.toNat 1) u64.bits))/\i64.wrap ((u64.wrap
 (i64.wrap (a+b))).fdiv (2 ^ Min.min (Int.toNat 1) u64.bits))<=(↑y.fst.length:Int)/\(i64.wrap ((u64.wrap (i64.wrap (a
 + b))).fdiv (2 ^ Min.min (Int.toNat 1) u64.bits)) - a).toNat<N/\Sgm (keyB bed) y.fst a.toNat x.fst.toNat/\Sgm (keyB bed) y.fst x.fst.toNat
 (i64.wrap ((u64.wrap (i64.wrap (a+b))).fdiv (2 ^ Min.min (Int.toNat 1) u64.bits))).toNat),∀(ys:List Int),Rr (keyB bed)
 a.toNat (i64.wrap ((u64.wrap (i64.wrap (a+b))).fdiv (2 ^ Min.min (Int.toNat 1) u64.bits))).toNat y.fst ys/\Sgm (keyB bed) ys
 a.toNat (i64.wrap ((u64.wrap (i64.wrap (a+b))).fdiv (2 ^ Min.min (Int.toNat 1) u64.bits))).toNat->HIs [HObj.box md tb [SV.data
 (K.flt f64).slice bed],HObj.row Md.rw ty3 (K.int i64) ys] [HObj.box md tb [SV.data (K.flt f64).slice bed],HObj.row Md.rw ty3 (K.int
 i64) ys]/\post () (ys,())) (HIs [HObj.box md tb [SV.data (K.flt f64).slice bed],HObj.row Md.rw ty3 (K.int i64) y.fst] [HObj.box md tb [SV.data
 (K.flt f64).slice bed],HObj.row Md.rw ty3 (K.int i64) y.fst]/\post () (y.fst,()))) (HIs [HObj.box md tb [SV.data (K.flt f64).slice bed],
 HObj.row Md.rw ty3 (K.int i64) y.fst] [HObj.box md tb [SV.data (K.flt f64).slice bed],HObj.row Md.rw ty3 (K.int i64) y.fst]/\post () (y.fst,())))/\
 ∀(x_6:Unit)(y:List Int × Unit),post x_6 y->∀(a_4:Bool),a_4=decide (i64.wrap ((u64.wrap (i64.wrap (a+b))).fdiv (2 ^ Min.min
 (Int.toNat 1) u64.bits))<i64.wrap (i64.wrap (i64.wrap ((u64.wrap (i64.wrap (a+b))).fdiv (2 ^ Min.min (Int.toNat
 1) u64.bits))+m) - x.fst))->Br a_4 (∀(a_5:Bool),a_5=decide (i64.wrap (i64.wrap (i64.wrap ((u64.wrap (i64.wrap (a+
 b))).fdiv (2 ^ Min.min (Int.toNat 1) u64.bits))+m) - x.fst)<b)->Br a_5 (∃(x:(ty3=ty3)/\(fn72=fn72)/\xs.length=y.fst.length/\Z4m bed
 y.fst/\0<=i64.wrap ((u64.wrap (i64.wrap (a+b))).fdiv (2 ^ Min.min (Int.toNat 1) u64.bits))/\i64.wrap
 ((u64.wrap (i64.wrap (a+b))).fdiv (2 ^ Min.min (Int.toNat 1) u64.bits))<i64.wrap (i64.wrap (i64.wrap
 ((u64.wrap (i64.wrap (a+b))).fdiv (2 ^ Min.min (Int.toNat 1) u64.bits))+m) - x.fst)/\i64.wrap (i64.wrap
 (i64.wrap ((u64.wrap (i64.wrap (a+b))).fdiv (2 ^ Min.min (Int.toNat 1) u64.bits))+m) - x.fst)<b/\b<=(↑y.fst.length:Int)/\
 (b - i64.wrap ((u64.wrap (i64.wrap (a+b))).fdiv (2 ^ Min.min (Int.toNat 1) u64.bits))).toNat<N/\Sgm (keyB bed) y.fst
 (i64.wrap ((u64.wrap (i64.wrap (a+b))).fdiv (2 ^ Min.min (Int.toNat 1) u64.bits))).toNat (i64.wrap (i64.wrap
 (i64.wrap ((u64.wrap (i64.wrap (a+b))).fdiv (2 ^ Min.min (Int.toNat 1) u64.bits))+m) - x.fst)).toNat/\Sgm (keyB bed) y.fst
 (i64.wrap (i64.wrap (i64.wrap ((u64.wrap (i64.wrap (a+b))).fdiv (2 ^ Min.min (Int.toNat 1) u64.bits))+m) -
 x.fst)).toNat b.toNat),∀(ys:List Int),Rr (keyB bed) (i64.wrap ((u64.wrap (i64.wrap (a+b))).fdiv (2 ^ Min.min (Int.toNat 1)
 u64.bits))).toNat b.toNat y.fst ys/\Sgm (keyB bed) ys (i64.wrap ((u64.wrap (i64.wrap (a+b))).fdiv (2 ^ Min.min (Int.toNat 1)
 u64.bits))).toNat b.toNat->k (EV.tup []) [HObj.box md tb [SV.data (K.flt f64).slice bed],HObj.row Md.rw ty3 (K.int i64) ys]) (k (EV.tup [])
 [HObj.box md tb [SV.data (K.flt f64).slice bed],HObj.row Md.rw ty3 (K.int i64) y.fst])) (k (EV.tup []) [HObj.box md tb [SV.data (K.flt
 f64).slice bed],HObj.row Md.rw ty3 (K.int i64) y.fst]))))
theorem Z1rd(ty0 ty1:Nat)(md:Md)(tb N:Nat)(bed:List Nat)(xs:List Int)(a m b:Int)(k:EV->List HObj->Prop)(h:Z4m bed xs/\0<=a/\a<m/\m<b/\b<=(List.length xs:Int)/\(b - a).toNat<N+1/\Sgm (keyB bed) xs a.toNat m.toNat/\Sgm (keyB bed) xs m.toNat b.toNat)(hk:∀ ys:List Int,Rr (keyB bed) a.toNat b.toNat xs ys/\Sgm (keyB bed) ys a.toNat b.toNat->k (.tup []) [.box md tb [.data (.slice (.flt .f64)) bed],.row .rw ty0 (.int .i64) ys]):Zw4 ty0 ty1 md tb N bed xs a m b k:=by
 unfold Zw4;obtain⟨bo,ha,ham,hmb,hb,hN,hs1,hs2⟩:=h;have mx:maxN=281474976710656:=rfl;have hmx:=bo.2.2;obtain⟨A,rfl⟩:∃ q:Nat,a=(q:Int):=⟨a.toNat,by omega⟩;obtain⟨M,rfl⟩:∃ q:Nat,m=(q:Int):=⟨m.toNat,by omega⟩;obtain⟨B,rfl⟩:∃ q:Nat,b=(q:Int):=⟨b.toNat,by omega⟩;simp only[Int.toNat_natCast]at hk hs1 hs2;have ham:A<M:=by omega
 have hmb:M<B:=by omega
 have hb:B<=xs.length:=by omega
 have wsub:∀ u v:Nat,v<=u->u<=2*xs.length->i64.wrap ((u:Int) - v)=((u - v:Nat):Int):=λu v h1 h2=>by rw[Zy (by omega) (by omega)]; omega
 have whalf:∀ u v:Nat,u<=xs.length->v<=xs.length->i64.wrap ((u64.wrap (i64.wrap ((u:Int)+v))).fdiv (2 ^ Min.min (Int.toNat 1) u64.bits))=(((u+v) / 2:Nat):Int):=λu v h1 h2=>by
  rw[Z1q4 (by omega) (by omega)]; omega
 have wadd:∀ u:Nat,u<=xs.length->i64.wrap ((u:Int)+1)=((u+1:Nat):Int):=λu h1=>by rw[Zy (by omega) (by omega)]; omega
 rw[wsub M A (by omega) (by omega),wsub B M (by omega) (by omega),whalf A B (by omega) (by omega)];have wdec:∀ u:Nat,1<=u->u<=2*xs.length->i64.wrap ((u:Int) - 1)=((u - 1:Nat):Int):=λu h1 h2=>by rw[Zy (by omega) (by omega)]; omega
 have dle:∀ u v:Nat,decide ((u:Int)<v)=true->u<v:=λu v d=>by have d:(u:Int)<v:=of_decide_eq_true d; omega
 have dge:∀ u v:Nat,decide ((u:Int)<v)=false->v<=u:=λu v d=>by have d:¬ (u:Int)<v:=of_decide_eq_false d; omega
 rintro _ rfl;refine Br.intro (λe=>?_) λe=>?_
 ·have e:M=A+1:=by
   have e:((M - A:Nat):Int)=1:=by simpa using e
   omega
  refine⟨rfl,λx _=>∃ i j:Nat,x.1=i/\x.2.1=j/\M<=i/\i<=j/\j<=B/\(∀ p,M<=p->p<i->keyB bed (at0 xs p)<keyB bed (at0 xs A))/\(∀ p,j<=p->p<B->keyB bed (at0 xs A)<=keyB bed (at0 xs p)),λx _=>(x.2.1 - x.1).toNat,⟨M,B,rfl,rfl,by omega,by omega,by omega,λp h1 h2=>by omega,λp h1 h2=>by omega⟩,?_⟩;rintro⟨_,_,⟨⟩⟩ _ ⟨i,j,rfl,rfl,h1,h2,h3,hlo,hhi⟩;dsimp only;rintro _ rfl;refine Br.intro (λd=>?_) λd=>?_
  ·have d:=dle _ _ d;obtain⟨c,hc⟩:∃ c,(i+j) / 2=c:=⟨_,rfl⟩;rw[whalf i j (by omega) (by omega),hc,Int.toNat_natCast,Int.toNat_natCast,Nat.zero_add,Nat.zero_add,wadd c (by omega)];refine⟨by decide,⟨by omega,by omega⟩,⟨by omega,by omega⟩,bo.cmp (by omega) (by omega),?_⟩;rintro _ rfl;rintro _ rfl;refine Br.intro (λq=>?_) λq=>?_
   ·have q:keyB bed (at0 xs c)<keyB bed (at0 xs A):=(Z8t _ _ _).1 (of_decide_eq_true q);refine⟨rfl,⟨c+1,j,rfl,rfl,by omega,by omega,h3,λp h1 h2=>?_,hhi⟩,by omega⟩;have:=Zfn hs2 (i:=p) (j:=c) h1 (by omega) (by omega);omega
   ·have q:¬ keyB bed (at0 xs c)<keyB bed (at0 xs A):=λw=>of_decide_eq_false q ((Z8t _ _ _).2 w);refine⟨rfl,⟨i,c,rfl,rfl,h1,by omega,by omega,hlo,λp h1 h2=>?_⟩,by omega⟩;have:=Zfn hs2 (i:=c) (j:=p) (by omega) (by omega) (by omega);omega
  have d:=dge _ _ d;have ij:i=j:=by omega
  subst ij;refine⟨rfl,λx y=>∃ k:Nat,x.1=k/\A<=k/\k<=i - 1/\Rr (keyB bed) A B xs y.1/\ShU xs y.1 A k,λx _=>i - 1 - x.1.toNat,⟨A,rfl,by omega,by omega,.refl _ _ _,.start _ _⟩,?_⟩;rintro⟨_,⟨⟩⟩ ⟨y,⟨⟩⟩ ⟨k,rfl,k1,k2,hr,hu⟩;dsimp only at hr hu ⊢;have ly:=hr.len;rw[wdec i (by omega) (by omega)];rintro _ rfl;refine Br.intro (λd=>?_) λd=>?_
  ·have d:=dle _ _ d;rw[wadd k (by omega),Int.toNat_natCast,Int.toNat_natCast,Nat.zero_add,Nat.zero_add]
   have q:keyB bed (at0 y (k+1))<keyB bed (at0 y k):=by
    rw[hu (k+1),hu k,if_neg (by omega),if_neg (by omega),if_neg (by omega),if_pos rfl];exact hlo _ (by omega) (by omega)
   have hst:(y.set k (at0 y (k+1))).set (k+1) (at0 y k)=swp y (k+1) k:=Z1sz (by omega);refine⟨⟨by omega,by omega⟩,⟨by omega,by omega⟩,⟨by omega,by omega⟩,⟨by omega,by omega⟩,rfl,⟨k+1,rfl,by omega,by omega,?_,?_⟩,by omega⟩
   ·show Rr (keyB bed) A B xs ((y.set k (at0 y (k+1))).set (k+1) (at0 y k));rw[hst]; exact hr.trans (Z1gc (by omega) (by omega) (by omega) q)
   ·show ShU xs ((y.set k (at0 y (k+1))).set (k+1) (at0 y k)) A (k+1);rw[hst]; exact hu.step ly (by omega) (by omega)
  have d:=dge _ _ d;have ek:k=i - 1:=by omega
  subst ek;exact hk _ ⟨hr,hu.done (by omega) h3 (by rw[<- e]; exact hs2) (λp h1 h2=>hlo p (by omega) h2) hhi⟩
 rintro _ rfl;refine Br.intro (λe2=>?_) λe2=>?_
 ·have e2:B=M+1:=by
   have e2:((B - M:Nat):Int)=1:=by simpa using e2
   omega
  refine⟨rfl,λx _=>∃ i j:Nat,x.1=i/\x.2.1=j/\A<=i/\i<=j/\j<=M/\(∀ p,A<=p->p<i->keyB bed (at0 xs p)<=keyB bed (at0 xs M))/\(∀ p,j<=p->p<M->keyB bed (at0 xs M)<keyB bed (at0 xs p)),λx _=>(x.2.1 - x.1).toNat,⟨A,M,rfl,rfl,by omega,by omega,by omega,λp h1 h2=>by omega,λp h1 h2=>by omega⟩,?_⟩;rintro⟨_,_,⟨⟩⟩ _ ⟨i,j,rfl,rfl,h1,h2,h3,hlo,hhi⟩;dsimp only;rintro _ rfl;refine Br.intro (λd=>?_) λd=>?_
  ·have d:=dle _ _ d;obtain⟨c,hc⟩:∃ c,(i+j) / 2=c:=⟨_,rfl⟩;rw[whalf i j (by omega) (by omega),hc,Int.toNat_natCast,Int.toNat_natCast,Nat.zero_add,Nat.zero_add,wadd c (by omega)];refine⟨by decide,⟨by omega,by omega⟩,⟨by omega,by omega⟩,bo.cmp (by omega) (by omega),?_⟩;rintro _ rfl;rintro _ rfl;refine Br.intro (λq=>?_) λq=>?_
   ·have q:¬ keyB bed (at0 xs M)<keyB bed (at0 xs c):=λw=>by
     have:decide ((Zbt (at0 xs M) (at0 xs c) (some bed)).fst<0)=true:=decide_eq_true ((Z8t _ _ _).2 w);unfold at0 at this;rw[this]at q; exact absurd q (by decide)
    refine⟨rfl,⟨c+1,j,rfl,rfl,by omega,by omega,h3,λp h1 h2=>?_,hhi⟩,by omega⟩;have:=Zfn hs1 (i:=p) (j:=c) h1 (by omega) (by omega);omega
   ·have q:keyB bed (at0 xs M)<keyB bed (at0 xs c):=(Z8t _ _ _).1 (by
     have q:decide ((Zbt (at0 xs M) (at0 xs c) (some bed)).fst<0)=true:=by simpa using q
     exact of_decide_eq_true q)
    refine⟨rfl,⟨i,c,rfl,rfl,h1,by omega,by omega,hlo,λp h1 h2=>?_⟩,by omega⟩;have:=Zfn hs1 (i:=c) (j:=p) (by omega) (by omega) (by omega);omega
  have d:=dge _ _ d;have ij:i=j:=by omega
  subst ij;refine⟨rfl,λx y=>∃ k:Nat,x.1=k/\i<=k/\k<=M/\Rr (keyB bed) A B xs y.1/\ShD xs y.1 M k,λx _=>x.1.toNat,⟨M,rfl,by omega,by omega,.refl _ _ _,.start _ _⟩,?_⟩;rintro⟨_,⟨⟩⟩ ⟨y,⟨⟩⟩ ⟨k,rfl,k1,k2,hr,hu⟩;dsimp only at hr hu ⊢;have ly:=hr.len;rintro _ rfl;refine Br.intro (λd=>?_) λd=>?_
  ·have d:=dle _ _ d;obtain⟨k',rfl⟩:∃ k',k=k'+1:=⟨k - 1,by omega⟩;rw[wdec (k'+1) (by omega) (by omega),show k'+1 - 1=k' by omega,Int.toNat_natCast,Int.toNat_natCast,Nat.zero_add,Nat.zero_add]
   have q:keyB bed (at0 y (k'+1))<keyB bed (at0 y k'):=by
    rw[hu (k'+1),hu k',if_neg (by omega),if_pos rfl,if_neg (by omega),if_neg (by omega)];exact hhi _ (by omega) (by omega)
   exact⟨⟨by omega,by omega⟩,⟨by omega,by omega⟩,⟨by omega,by omega⟩,⟨by omega,by omega⟩,rfl,⟨k',rfl,by omega,by omega,hr.trans (Z1gc (by omega) (by omega) (by omega) q),hu.step ly (by omega) (by omega)⟩,by omega⟩
  have d:=dge _ _ d;have ek:k=i:=by omega
  subst ek;rw[e2]at hk;rw[e2]at hr;exact hk _ ⟨hr,hu.done h1 h3 hs1 hlo hhi⟩
 obtain⟨mid,hm⟩:∃ mid,mid=(A+B) / 2:=⟨_,rfl⟩;rw[<- hm];refine⟨by decide,λx _=>∃ s0 r0:Nat,x.1=s0/\x.2.1=r0/\((M > mid/\s0+B=mid+M/\r0=mid)∨(M<=mid/\s0=A/\r0=M)),?_,?_⟩
 ·have wn:i64.wrap (i64.wrap ((mid:Int)+M) - B)=((mid+M - B:Nat):Int)∨M<=mid:=by
   by_cases q:M<=mid
   ·exact .inr q
   ·exact .inl (by rw[Zy (x:=(mid:Int)+M) (by omega) (by omega),Zy (by omega) (by omega)]; omega)
  rintro _ rfl;refine Br.intro (λd=>?_) λd=>?_
  ·have d:=dle _ _ d;rcases wn with wn | wn
   ·rw[wn]; exact⟨rfl,_,_,rfl,rfl,.inl ⟨d,by omega,rfl⟩⟩
   ·omega
  ·have d:=dge _ _ d;exact⟨rfl,_,_,rfl,rfl,.inr ⟨d,rfl,rfl⟩⟩
 rintro⟨_,_,⟨⟩⟩ _ ⟨s0,r0,rfl,rfl,h0⟩;dsimp only
 have h00:A<=s0/\s0<=r0/\r0<=M/\∀ q,s0<=q->q<r0->M<=mid+M - 1 - q/\mid+M - 1 - q<B/\q<=mid+M - 1:=by
  rcases h0 with h0 | h0
  ·exact⟨by omega,by omega,by omega,λq q1 q2=>by omega⟩
  ·exact⟨by omega,by omega,by omega,λq q1 q2=>by omega⟩
 obtain⟨h01,h02,h03,h04⟩:=h00;refine⟨rfl,λx _=>∃ s r:Nat,x.1=s/\x.2.1=r/\s0<=s/\s<=r/\r<=r0/\(∀ q,s0<=q->q<s->keyB bed (at0 xs q)<=keyB bed (at0 xs (mid+M - 1 - q)))/\(∀ q,r<=q->q<r0->keyB bed (at0 xs (mid+M - 1 - q))<keyB bed (at0 xs q)),λx _=>(x.2.1 - x.1).toNat,⟨s0,r0,rfl,rfl,by omega,by omega,by omega,λq q1 q2=>by omega,λq q1 q2=>by omega⟩,?_⟩;rintro⟨_,_,⟨⟩⟩ _ ⟨s,r,rfl,rfl,h1,h2,h3,hlo,hhi⟩;dsimp only;rintro _ rfl;refine Br.intro (λd=>?_) λd=>?_
 ·have d:=dle _ _ d;obtain⟨c,hc⟩:∃ c,(s+r) / 2=c:=⟨_,rfl⟩;obtain⟨c1,c2,c3⟩:=h04 c (by omega) (by omega)
  have w3:i64.wrap (i64.wrap (i64.wrap ((mid:Int)+M) - 1) - c)=((mid+M - 1 - c:Nat):Int):=by
   rw[Zy (x:=(mid:Int)+M) (by omega) (by omega),Zy (x:=(mid:Int)+M - 1) (by omega) (by omega),Zy (by omega) (by omega)]; omega
  rw[whalf s r (by omega) (by omega),hc,w3,Int.toNat_natCast,Int.toNat_natCast,Nat.zero_add,Nat.zero_add,wadd c (by omega)];refine⟨by decide,⟨by omega,by omega⟩,⟨by omega,by omega⟩,bo.cmp (by omega) (by omega),?_⟩;rintro _ rfl;rintro _ rfl;refine Br.intro (λq=>?_) λq=>?_
  ·have q:¬ keyB bed (at0 xs (mid+M - 1 - c))<keyB bed (at0 xs c):=λw=>by
    have:decide ((Zbt (at0 xs (mid+M - 1 - c)) (at0 xs c) (some bed)).fst<0)=true:=decide_eq_true ((Z8t _ _ _).2 w);unfold at0 at this;rw[this]at q; exact absurd q (by decide)
   refine⟨rfl,⟨c+1,r,rfl,rfl,by omega,by omega,h3,λp p1 p2=>?_,hhi⟩,by omega⟩;have:=Zfn hs1 (i:=p) (j:=c) (by omega) (by omega) (by omega);have:=Zfn hs2 (i:=mid+M - 1 - c) (j:=mid+M - 1 - p) (by omega) (by omega) (h04 p p1 (by omega)).2.1;omega
  ·have q:keyB bed (at0 xs (mid+M - 1 - c))<keyB bed (at0 xs c):=(Z8t _ _ _).1 (by
    have q:decide ((Zbt (at0 xs (mid+M - 1 - c)) (at0 xs c) (some bed)).fst<0)=true:=by simpa using q
    exact of_decide_eq_true q)
   refine⟨rfl,⟨s,c,rfl,rfl,h1,by omega,by omega,hlo,λp p1 p2=>?_⟩,by omega⟩;have:=Zfn hs1 (i:=c) (j:=p) (by omega) (by omega) (by omega);have:=Zfn hs2 (i:=mid+M - 1 - p) (j:=mid+M - 1 - c) (h04 p (by omega) p2).1 (by omega) (by omega);omega
 have d:=dge _ _ d;have sr:s=r:=by omega
 subst sr;have cd:=cutd hm ham hmb h0 hs1 hs2 h1 h3 hlo hhi;obtain⟨l1,l2,l3,l4⟩:=cd.le;have we:i64.wrap (i64.wrap ((mid:Int)+M) - s)=((mid+M - s:Nat):Int):=by rw[Zy (x:=(mid:Int)+M) (by omega) (by omega),Zy (by omega) (by omega)]; omega
 rw[we];have smid:A<=s/\s<=mid/\mid<B/\A<mid/\mid<=mid+M - s:=by omega
 refine⟨λ_ y=>Trnd (keyB bed) xs y.1 A M B s (mid+M - s) mid,?_,?_⟩
 ·have same:s=M∨M=mid+M - s->Trnd (keyB bed) xs xs A M B s (mid+M - s) mid:=λq=>trnd cd hm ham hmb hb hs1 hs2 (.refl _) (Z1q5 l2 l3 q).symm;rintro _ rfl;refine Br.intro (λd=>?_) λd=>⟨rfl,same (.inl (by have:=dge _ _ d; omega))⟩;have d:=dle _ _ d;rintro _ rfl;refine Br.intro (λd2=>?_) λd2=>⟨rfl,same (.inr (by have:=dge _ _ d2; omega))⟩;have d2:=dle _ _ d2;refine⟨⟨rfl,rfl,hmx,by omega,by omega,by omega,by omega⟩,?_⟩;simp only[Int.toNat_natCast];rintro ys ⟨q1,q2⟩;exact⟨rfl,trnd cd hm ham hmb hb hs1 hs2 q2 q1⟩
 rintro _ ⟨y,⟨⟩⟩ ⟨hr,g1,g2,g3,g4,cr⟩;dsimp only at hr g1 g2 g3 g4 cr ⊢;have ly:=hr.len;simp only[Int.toNat_natCast];have gA:s=A->Sgm (keyB bed) y A mid:=λe=>by rw[<- e]; exact g2
 have gM:s=mid->Sgm (keyB bed) y A mid:=λe=>by rw[<- e]; exact g1
 refine⟨λ_ y=>Rr (keyB bed) A B xs y.1/\Sgm (keyB bed) y.1 A mid/\Sgm (keyB bed) y.1 mid (mid+M - s)/\Sgm (keyB bed) y.1 (mid+M - s) B/\Crs (keyB bed) y.1 A mid B,?_,?_⟩
 ·rintro _ rfl;refine Br.intro (λd=>?_) λd=>⟨rfl,hr,gA (by have:=dge _ _ d; omega),g3,g4,cr⟩;have d:=dle _ _ d;rintro _ rfl;refine Br.intro (λd2=>?_) λd2=>⟨rfl,hr,gM (by have:=dge _ _ d2; omega),g3,g4,cr⟩;have d2:=dle _ _ d2;refine⟨⟨by trivial,by trivial,ly.symm,bo.perm hr.perm,by omega,by omega,by omega,by omega,by omega,g1,g2⟩,?_⟩;rintro ys ⟨q1,q2⟩;exact⟨rfl,hr.trans (q1.wide (Nat.le_refl _) (by omega)),q2,q1.sgm g3 (.inr (Nat.le_refl _)),q1.sgm g4 (.inr (by omega)),cr.left q1⟩
 clear gA gM hr g1 g2 g3 g4 cr ly;rintro _ ⟨y,⟨⟩⟩ ⟨hr,g1,g3,g4,cr⟩;dsimp only at hr g1 g3 g4 cr ⊢;have ly:=hr.len;rintro _ rfl
 refine Br.intro (λd=>?_) λd=>hk _ ⟨hr,by
  have:=dge _ _ d;have e:mid+M - s=mid:=by omega
  rw[e]at g4;exact cr.join g1 g4⟩
 have d:=dle _ _ d;rintro _ rfl
 refine Br.intro (λd2=>?_) λd2=>hk _ ⟨hr,by
  have:=dge _ _ d2;have e:mid+M - s=B:=by omega
  rw[e]at g3;exact cr.join g1 g3⟩
 have d2:=dle _ _ d2;refine⟨⟨by trivial,by trivial,ly.symm,bo.perm hr.perm,by omega,by omega,by omega,by omega,by omega,g3,g4⟩,?_⟩;rintro ys ⟨q1,q2⟩;exact hk _ ⟨hr.trans (q1.wide (by omega) (Nat.le_refl _)),(cr.right q1).join (q1.sgm g1 (.inl (Nat.le_refl _))) q2⟩
def Zw5:=λ(ty3 fn72:Nat)(m:Md)(tb N:Nat)(bed:List Nat)(xs:List Int)(n:Int)(k:EV->List HObj->Prop)=>HIs [HObj.box m tb [SV.data (K.flt
 f64).slice bed],HObj.row Md.rw ty3 (K.int i64) xs] [HObj.box m tb [SV.data (K.flt f64).slice bed],HObj.row Md.rw ty3 (K.int i64) xs]/\
 ∃(I:Int × Int × Unit->List Int × Unit->Prop),∃(μ:Int × Int × Unit->List Int × Unit->Nat),I (0,20,()) (xs,())/\∀(x:Int × Int × Unit)(y:List
 Int × Unit),I x y->∀(a:Bool),a=decide (x.snd.fst<=n)->Br a (∃(x_3:(ty3=ty3)/\(fn72=fn72)/\xs.length=y.fst.length/\Z4m bed y.fst/\0<=x.fst/\x.fst
 <= x.snd.fst/\x.snd.fst<=(↑y.fst.length:Int)),∀(ys:List Int),Rr (keyB bed) x.fst.toNat x.snd.fst.toNat y.fst ys/\Sgm (keyB bed) ys x.fst.toNat x.snd.fst.toNat->HIs
 [HObj.box m tb [SV.data (K.flt f64).slice bed],HObj.row Md.rw ty3 (K.int i64) ys] [HObj.box m tb [SV.data (K.flt f64).slice bed],HObj.row Md.rw
 ty3 (K.int i64) ys]/\I (x.snd.fst,i64.wrap (x.snd.fst+20),()) (ys,())/\μ (x.snd.fst,i64.wrap (x.snd.fst+20),()) (ys,())<μ x
 y) (∃(x_3:(ty3=ty3)/\(fn72=fn72)/\xs.length=y.fst.length/\Z4m bed y.fst/\0<=x.fst/\x.fst<=n/\n<=(↑y.fst.length:Int)),∀(ys:List Int),Rr (keyB
 bed) x.fst.toNat n.toNat y.fst ys/\Sgm (keyB bed) ys x.fst.toNat n.toNat->HIs [HObj.box m tb [SV.data (K.flt f64).slice bed],HObj.row Md.rw ty3 (K.int i64)
 ys] [HObj.box m tb [SV.data (K.flt f64).slice bed],HObj.row Md.rw ty3 (K.int i64) ys]/\∃(I:Int × Unit->List Int × Unit->Prop),∃(μ:Int × Unit->List
 Int × Unit->Nat),I (20,()) (ys,())/\∀(x:Int × Unit)(y:List Int × Unit),I x y->∀(a:Bool),a=decide (x.fst<n)->Br a (HIs [HObj.box m tb [SV.data (K.flt
 f64).slice bed],HObj.row Md.rw ty3 (K.int i64) y.fst] [HObj.box m tb [SV.data (K.flt f64).slice bed],HObj.row Md.rw ty3 (K.int i64)
 y.fst]/\∃(I_1:Int × Int × Unit->List Int × Unit->Prop),∃(μ_1:Int × Int × Unit->List Int × Unit->Nat),I_1 (0,i64.wrap (2*x.fst),()) (y.fst,
 ())/\∀(x_6:Int × Int × Unit)(y_1:List Int × Unit),I_1 x_6 y_1->∀(a:Bool),a=decide (x_6.snd.fst<=n)->Br a (∃(x_9:(ty3=ty3)/\(fn72=fn72)/\xs.length=
 y_1.fst.length/\Z4m bed y_1.fst/\0<=x_6.fst/\x_6.fst<i64.wrap (x_6.fst+x.fst)/\i64.wrap (x_6.fst+x.fst)<x_6.snd.fst/\x_6.snd.fst<=
 (↑y_1.fst.length:Int)/\(x_6.snd.fst - x_6.fst).toNat<N/\Sgm (keyB bed) y_1.fst x_6.fst.toNat (i64.wrap (x_6.fst+x.fst)).toNat/\Sgm (keyB bed) y_1.fst
 (i64.wrap (x_6.fst+x.fst)).toNat x_6.snd.fst.toNat),∀(ys:List Int),Rr (keyB bed) x_6.fst.toNat x_6.snd.fst.toNat y_1.fst ys/\Sgm (keyB bed) ys x_6.fst.toNat
 x_6.snd.fst.toNat->HIs [HObj.box m tb [SV.data (K.flt f64).slice bed],HObj.row Md.rw ty3 (K.int i64) ys] [HObj.box m tb [SV.data (K.flt
 f64).slice bed],HObj.row Md.rw ty3 (K.int i64) ys]/\I_1 (x_6.snd.fst,i64.wrap (x_6.snd.fst+i64.wrap (2*x.fst)),()) (ys,())/\
 μ_1 (x_6.snd.fst,i64.wrap (x_6.snd.fst+i64.wrap (2*x.fst)),()) (ys,())<μ_1 x_6 y_1) (∃(post:Int × Unit->List Int × Unit->Prop),(∀(a:
 Bool),a=decide (i64.wrap (x_6.fst+x.fst)<n)->Br a (∃(x_10:(ty3=ty3)/\(fn72=fn72)/\xs.length=y_1.fst.length/\Z4m bed y_1.fst/\0<=x_6.fst/\
 x_6.fst<i64.wrap (x_6.fst+x.fst)/\i64.wrap (x_6.fst+x.fst)<n/\n<=(↑y_1.fst.length:Int)/\(n - x_6.fst).toNat<N/\Sgm (keyB bed) y_1.fst
 x_6.fst.toNat (i64.wrap (x_6.fst+x.fst)).toNat/\Sgm (keyB bed) y_1.fst (i64.wrap (x_6.fst+x.fst)).toNat n.toNat),∀(ys:List Int),Rr (keyB bed)
 x_6.fst.toNat n.toNat y_1.fst ys/\Sgm (keyB bed) ys x_6.fst.toNat n.toNat->HIs [HObj.box m tb [SV.data (K.flt f64).slice bed],HObj.row Md.rw ty3 (K.int
 i64) ys] [HObj.box m tb [SV.data (K.flt f64).slice bed],HObj.row Md.rw ty3 (K.int i64) ys]/\post (x.fst,()) (ys,())) (HIs [HObj.box m tb [SV.data
 (K.flt f64).slice bed],HObj.row Md.rw ty3 (K.int i64) y_1.fst] [HObj.box m tb [SV.data (K.flt f64).slice bed],HObj.row Md.rw ty3 (K.int
 i64) y_1.fst]/\post (x.fst,()) (y_1.fst,())))/\∀(x_9:Int × Unit)(y_2:List Int × Unit),post x_9 y_2->HIs [HObj.box m tb [SV.data (K.flt f64).slice
 bed],HObj.row Md.rw ty3 (K.int i64) y_2.fst] [HObj.box m tb [SV.data (K.flt f64).slice bed],HObj.row Md.rw ty3 (K.int i64) y_2.fst]/\I
 (i64.wrap (x_9.fst*2),()) (y_2.fst,())/\μ (i64.wrap (x_9.fst*2),()) (y_2.fst,())<μ x y)) (k (EV.tup []) [HObj.box m tb [SV.data (K.flt
 f64).slice bed],HObj.row Md.rw ty3 (K.int i64) y.fst]))
theorem Z1re(ty0 ty1:Nat)(m:Md)(tb N:Nat)(bed:List Nat)(xs:List Int)(n:Int)(k:EV->List HObj->Prop)(h:Z4m bed xs/\n=(List.length xs:Int)/\List.length xs<N)(hk:∀ ys:List Int,Rr (keyB bed) 0 n.toNat xs ys/\Sgm (keyB bed) ys 0 n.toNat->k (.tup []) [.box m tb [.data (.slice (.flt .f64)) bed],.row .rw ty0 (.int .i64) ys]):Zw5 ty0 ty1 m tb N bed xs n k:=by
 unfold Zw5;obtain⟨bo,hn,hN⟩:=h;have mx:maxN=281474976710656:=rfl;have hmx:=bo.2.2;obtain⟨n0,hn0⟩:∃ n0,xs.length=n0:=⟨_,rfl⟩;rw[hn0]at hn hN hmx;subst hn;simp only[Int.toNat_natCast]at hk;have dle:∀ u v:Nat,decide ((u:Int)<v)=true->u<v:=λu v d=>by have d:(u:Int)<v:=of_decide_eq_true d; omega
 have dge:∀ u v:Nat,decide ((u:Int)<v)=false->v<=u:=λu v d=>by have d:¬ (u:Int)<v:=of_decide_eq_false d; omega
 have ele:∀ u v:Nat,decide ((u:Int)<=v)=true->u<=v:=λu v d=>by have d:(u:Int)<=v:=of_decide_eq_true d; omega
 have ege:∀ u v:Nat,decide ((u:Int)<=v)=false->v<u:=λu v d=>by have d:¬ (u:Int)<=v:=of_decide_eq_false d; omega
 have wadd:∀ u v:Nat,u<=4*n0+40->v<=4*n0+40->i64.wrap ((u:Int)+v)=((u+v:Nat):Int):=λu v h1 h2=>by rw[Zy (by omega) (by omega)]; omega
 refine⟨rfl,λx y=>∃ q:Nat,x.1=(q*20:Nat)/\x.2.1=(q*20+20:Nat)/\q*20<=n0/\Rr (keyB bed) 0 n0 xs y.1/\∀ q',q'<q->Sgm (keyB bed) y.1 (q'*20) (q'*20+20),λx _=>n0+20 - x.1.toNat,⟨0,rfl,rfl,by omega,.refl _ _ _,λq' h=>by omega⟩,?_⟩;rintro⟨_,_,⟨⟩⟩ ⟨y,⟨⟩⟩ ⟨q,rfl,rfl,hq,hr,hs⟩;dsimp only at hr hs ⊢;have ly:=hr.len;rintro _ rfl;refine Br.intro (λd=>?_) λd=>?_
 ·have d:=ele _ _ d;rw[show i64.wrap (((q*20+20:Nat):Int)+20)=((q*20+20+20:Nat):Int)from wadd (q*20+20) 20 (by omega) (by omega)];refine⟨⟨by trivial,by trivial,ly.symm,bo.perm hr.perm,by omega,by omega,by omega⟩,?_⟩;simp only[Int.toNat_natCast];rintro ys ⟨r1,r2⟩;refine⟨rfl,⟨q+1,by omega,by omega,by omega,hr.trans (r1.wide (by omega) d),λq' h=>?_⟩,by omega⟩;by_cases e:q'=q
  ·subst e; exact r2
  ·exact r1.sgm (hs q' (by omega)) (.inl (by omega))
 have d:=ege _ _ d;refine⟨⟨by trivial,by trivial,ly.symm,bo.perm hr.perm,by omega,by omega,by omega⟩,?_⟩;simp only[Int.toNat_natCast];rintro ys ⟨r1,r2⟩;have hr1:=hr.trans (r1.wide (Nat.zero_le _) (Nat.le_refl _))
 have hb0:∀ q',Sgm (keyB bed) ys (q'*20) (min (q'*20+20) n0):=λq'=>by
  by_cases e:q'=q
  ·subst e; exact r2.sub (Nat.le_refl _) (by omega)
  ·by_cases e2:q'<q
   ·exact(r1.sgm (hs q' e2) (.inl (by omega))).sub (Nat.le_refl _) (by omega)
   ·exact .one (by omega)
 clear hr hs r1 r2 ly d hq;refine⟨rfl,λx y=>∃ s:Nat,x.1=s/\0<s/\s<=2*n0+20/\Rr (keyB bed) 0 n0 xs y.1/\∀ q',Sgm (keyB bed) y.1 (q'*s) (min (q'*s+s) n0),λx _=>n0 - x.1.toNat,⟨20,rfl,by decide,by omega,hr1,hb0⟩,?_⟩;rintro⟨_,⟨⟩⟩ ⟨y,⟨⟩⟩ ⟨s,rfl,hs0,hsn,hr,hb⟩;dsimp only at hr hb ⊢;clear hr1 hb0;have ly:=hr.len;rintro _ rfl;refine Br.intro (λd=>?_) λd=>?_
 rotate_left
 ·have d:=dge _ _ d;have:=hb 0;rw[Nat.zero_mul,Nat.zero_add,Nat.min_eq_right d]at this;exact hk _ ⟨hr,this⟩
 have d:=dle _ _ d;have w2:i64.wrap (2*(s:Int))=((2*s:Nat):Int):=by rw[Zy (by omega) (by omega)]; omega
 rw[w2];refine⟨rfl,λx y=>∃ q:Nat,x.1=(q*(2*s):Nat)/\x.2.1=(q*(2*s)+2*s:Nat)/\q*(2*s)<=n0/\Rr (keyB bed) 0 n0 xs y.1/\(∀ q',q'<q->Sgm (keyB bed) y.1 (q'*(2*s)) (q'*(2*s)+2*s))/\∀ q',2*q<=q'->Sgm (keyB bed) y.1 (q'*s) (min (q'*s+s) n0),λx _=>n0+2*s - x.1.toNat,⟨0,by simp,by simp,by omega,hr,λq' h=>by omega,λq' _=>hb q'⟩,?_⟩;rintro⟨_,_,⟨⟩⟩ ⟨z,⟨⟩⟩ ⟨q,rfl,rfl,hq,hz,hd,ht⟩;dsimp only at hz hd ht ⊢;have lz:=hz.len;have ht0:=ht (2*q) (Nat.le_refl _);have ht1:=ht (2*q+1) (by omega);have e0:2*q*s=q*(2*s):=by rw[Nat.mul_comm 2 q,Nat.mul_assoc]
 have e1:(2*q+1)*s=q*(2*s)+s:=by rw[Nat.add_mul,e0,Nat.one_mul]
 have ep:∀ q',q'*(2*s)=2*q'*s:=λq'=>by rw[Nat.mul_comm 2 q',Nat.mul_assoc]
 have en:(q+1)*(2*s)=q*(2*s)+2*s:=by rw[Nat.add_mul,Nat.one_mul]
 have lt:∀ q',q'<q->q'*(2*s)+2*s<=q*(2*s):=λq' h=>by
  have:=Nat.mul_le_mul_right (2*s) (show q'+1<=q from h);rw[Nat.add_mul,Nat.one_mul]at this; exact this
 have gt:∀ q',2*(q+1)<=q'->q*(2*s)+2*s<=q'*s:=λq' h=>by
  have:=Nat.mul_le_mul_right s h;rw[<- ep,en]at this; exact this
 rw[e0]at ht0;rw[e1]at ht1;obtain⟨A,hA⟩:∃ A,q*(2*s)=A:=⟨_,rfl⟩;rw[hA]at ht0 ht1 hq en lt gt ⊢;rw[wadd A s (by omega) (by omega)];rintro _ rfl;refine Br.intro (λd2=>?_) λd2=>?_
 ·have d2:=ele _ _ d2;rw[wadd (A+2*s) (2*s) (by omega) (by omega)];simp only[Int.toNat_natCast];rw[Nat.min_eq_left (by omega)]at ht0 ht1;have f1:A+s+s=A+2*s:=by omega
  rw[f1]at ht1;refine⟨⟨by trivial,by trivial,lz.symm,bo.perm hz.perm,by omega,by omega,by omega,by omega,by omega,ht0,ht1⟩,?_⟩;rintro ys ⟨r1,r2⟩;refine⟨rfl,⟨q+1,by rw[en],by rw[en],by omega,hz.trans (r1.wide (Nat.zero_le _) d2),λq' h=>?_,λq' h=>?_⟩,by omega⟩
  ·by_cases e:q'=q
   ·subst e; rw[hA]; exact r2
   ·have:=lt q' (by omega);exact r1.sgm (hd q' (by omega)) (.inl (by omega))
  ·have:=gt q' h;exact r1.sgm (ht q' (by omega)) (.inr (by omega))
 have d2:=ege _ _ d2
 have fin:∀ ys,Rr (keyB bed) A n0 z ys->Sgm (keyB bed) ys A n0->Rr (keyB bed) 0 n0 xs ys/\∀ q',Sgm (keyB bed) ys (q'*(2*s)) (min (q'*(2*s)+2*s) n0):=λys r1 r2=>⟨hz.trans (r1.wide (Nat.zero_le _) (Nat.le_refl _)),λq'=>by
  by_cases e:q'=q
  ·subst e; rw[hA]; exact r2.sub (Nat.le_refl _) (by omega)
  ·by_cases e2:q'<q
   ·have:=lt q' e2;exact(r1.sgm (hd q' e2) (.inl (by omega))).sub (Nat.le_refl _) (by omega)
   ·have:=lt;have h3:=Nat.mul_le_mul_right (2*s) (show q+1<=q' by omega);rw[en]at h3;exact .one (by omega)⟩
 refine⟨λx y=>x.1=(s:Int)/\Rr (keyB bed) 0 n0 xs y.1/\∀ q',Sgm (keyB bed) y.1 (q'*(2*s)) (min (q'*(2*s)+2*s) n0),?_,?_⟩
 ·rintro _ rfl;refine Br.intro (λd3=>?_) λd3=>?_
  ·have d3:=dle _ _ d3;simp only[Int.toNat_natCast];rw[Nat.min_eq_left (by omega)]at ht0;rw[Nat.min_eq_right (by omega)]at ht1;refine⟨⟨by trivial,by trivial,lz.symm,bo.perm hz.perm,by omega,by omega,by omega,by omega,by omega,ht0,ht1⟩,?_⟩;rintro ys ⟨r1,r2⟩;exact⟨rfl,by trivial,fin ys r1 r2⟩
  ·have d3:=dge _ _ d3;rw[Nat.min_eq_right (by omega)]at ht0;exact⟨rfl,by trivial,fin z (.refl _ _ _) ht0⟩
 rintro⟨_,⟨⟩⟩ ⟨w,⟨⟩⟩ ⟨rfl,h1,h2⟩;dsimp only at h1 h2 ⊢;have w3:i64.wrap ((s:Int)*2)=((2*s:Nat):Int):=by rw[Zy (by omega) (by omega)]; omega
 rw[w3];exact⟨rfl,⟨2*s,rfl,by omega,by omega,h1,h2⟩,by omega⟩
def Z15z:=λ(ty3 fn72:Nat)(m:Md)(tb N:Nat)(bed:List Nat)(xs:List Int)(k:EV->List HObj->Prop)=>∃(x:(ty3=ty3)/\(fn72=fn72)/\xs.length=
 xs.length/\Z4m bed xs/\(↑xs.length:Int)=(↑xs.length:Int)),∀(ys:List Int),Rr (keyB bed) 0 xs.length xs ys/\Sgm (keyB bed) ys 0 xs.length->k (EV.tup
 []) [HObj.box m tb [SV.data (K.flt f64).slice bed],HObj.row Md.rw ty3 (K.int i64) ys]
theorem Z1nn(ty0 ty1:Nat)(m:Md)(tb N:Nat)(bed:List Nat)(xs:List Int)(k:EV->List HObj->Prop)(h:Z4m bed xs)(hk:∀ ys:List Int,Rr (keyB bed) 0 xs.length xs ys/\Sgm (keyB bed) ys 0 xs.length->k (.tup []) [.box m tb [.data (.slice (.flt .f64)) bed],.row .rw ty0 (.int .i64) ys]):Z15z ty0 ty1 m tb N bed xs k:=by
 refine⟨⟨rfl,rfl,rfl,h,rfl⟩,?_⟩;rintro ys ⟨h1,h2⟩;exact hk ys ⟨by simpa using h1,by simpa using h2⟩
section
open Go.Proofs
def Z3l:Cx:=⟨Z1v Z26,Z23 [(165,Zfx)],SqG⟩
theorem Z92:CxOk Tryz.prog Z3l:=⟨Zn Z12,Zr ⟨Zvo,trivial⟩⟩
def Zw6:Hn:={loops:=Z11 [(1,{ls:=[(.slot 10,.data (.int .i64))],os:=[(1,3,.int .i64)]})],joins:=λ_=>none,named:=true}
theorem Z1i2:FnAt Tryz.prog 287 Tryz.f287.ntmps Tryz.f287.results.toList (Tryz.f287.body.getD .skip):=⟨Tryz.f287,Tryz.func287,rfl,rfl,by simp,by decide⟩
theorem Z1i3(m:Md)(tb:Nat)(cs:List SV)(xs:List Int)(a b n:Int)(fv:EV)(k:EV->List HObj->Prop):Zfh Z3l Zw6 (Z5k) Tryz.f287.ntmps Tryz.f287.results.toList (Tryz.f287.body.getD .skip) [.x (.one (.osl 1 0 (List.length xs))),.x (.one (.val (.int .i64 a))),.x (.one (.val (.int .i64 b))),.x (.one (.val (.int .i64 n))),fv] [.box m tb cs,.row .rw 3 (.int .i64) xs] k=Z15y 3 m tb cs xs a b n fv k:=by kernel_rfl
theorem Z1i4:EvOk Tryz.prog Z3l 287 (Z8r 3):=(Zau Z92 Z5 Zam Z1i2 Zw6).of λargs hp k q=>by
 unfold Z8r at q;split at q
 ·rename_i len a b n fv m tb cs t xs;obtain⟨⟨rfl,rfl,h⟩,hk⟩:=q;have e:=Z1i3 m tb cs xs a b n fv k;have f:=Z1nm 3 m tb cs xs a b n fv k h hk
  first | (rw[e]; exact f) | exact Eq.mpr e f
 ·exact q.elim
theorem Z1l6:Z3c Tryz.prog Z3l (Z2r 287 (Z8r 3) (Z5k)):=Zac Z1i4 Zam
def Zzd:Hn:={loops:=Z11 [(2,{ls:=[(.slot 10,.data (.int .i64)),(.slot 11,.data (.int .i64))],os:=[(1,3,.int .i64)]})],joins:=λ_=>none,named:=true,inl:=inlL [287]}
theorem Z1jk:FnAt Tryz.prog 273 Tryz.f273.ntmps Tryz.f273.results.toList (Tryz.f273.body.getD .skip):=⟨Tryz.f273,Tryz.func273,rfl,rfl,by simp,by decide⟩
theorem Z1jl(md:Md)(tb:Nat)(cs:List SV)(xs:List Int)(a m b:Int)(fv:EV)(k:EV->List HObj->Prop):Zfh Z3l Zzd (Z2r 287 (Z8r 3) (Z5k)) Tryz.f273.ntmps Tryz.f273.results.toList (Tryz.f273.body.getD .skip) [.x (.one (.osl 1 0 (List.length xs))),.x (.one (.val (.int .i64 a))),.x (.one (.val (.int .i64 m))),.x (.one (.val (.int .i64 b))),fv] [.box md tb cs,.row .rw 3 (.int .i64) xs] k=Zw2 3 md tb cs xs a m b fv k:=by kernel_rfl
theorem Z1jm:EvOk Tryz.prog Z3l 273 (Zh8 3):=(Zau Z92 Z5 Z1l6 Z1jk Zzd).of λargs hp k q=>by
 unfold Zh8 at q;split at q
 ·rename_i len a m b fv md tb cs t xs;obtain⟨⟨rfl,rfl,h⟩,hk⟩:=q;have e:=Z1jl md tb cs xs a m b fv k;have f:=Z1rb 3 md tb cs xs a m b fv k h hk
  first | (rw[e]; exact f) | exact Eq.mpr e f
 ·exact q.elim
theorem Z1vt:Z3c Tryz.prog Z3l (Z2r 273 (Zh8 3) (Z2r 287 (Z8r 3) (Z5k))):=Zac Z1jm Z1l6
def Zze:Hn:={loops:=Z11 [(1,{ls:=[(.slot 8,.data (.int .i64))],os:=[(1,3,.int .i64)]}),(4,{ls:=[(.slot 9,.data (.int .i64))],os:=[(1,3,.int .i64)]})],joins:=λ_=>none,named:=true,inl:=λ_=>false}
theorem Z1jn:FnAt Tryz.prog 243 Tryz.f243.ntmps Tryz.f243.results.toList (Tryz.f243.body.getD .skip):=⟨Tryz.f243,Tryz.func243,rfl,rfl,by simp,by decide⟩
theorem Z1jo(m:Md)(tb:Nat)(bed:List Nat)(xs:List Int)(a b:Int)(k:EV->List HObj->Prop):Zfh Z3l Zze (Z5k) Tryz.f243.ntmps Tryz.f243.results.toList (Tryz.f243.body.getD .skip) [.x (.one (.osl 1 0 (List.length xs))),.x (.one (.val (.int .i64 a))),.x (.one (.val (.int .i64 b))),.x (.one (.clo 165 [] [.ref 0 0]))] [.box m tb [.data (.slice (.flt .f64)) bed],.row .rw 3 (.int .i64) xs] k=Zw3 3 m tb bed xs a b k:=by kernel_rfl
theorem Z1jp:EvOk Tryz.prog Z3l 243 (Zk3 3 165):=(Zau Z92 Z5 Zam Z1jn Zze).of λargs hp k q=>by
 unfold Zk3 at q;split at q
 ·rename_i len a b f m tb bed t xs;obtain⟨⟨rfl,rfl,rfl,h⟩,hk⟩:=q;have e:=Z1jo m tb bed xs a b k;have f:=Z1rc 3 m tb bed xs a b k h hk
  first | (rw[e]; exact f) | exact Eq.mpr e f
 ·exact q.elim
theorem Z1l7:Z3c Tryz.prog Z3l (Z2r 243 (Zk3 3 165) (Z2r 273 (Zh8 3) (Z2r 287 (Z8r 3) (Z5k)))):=Zac Z1jp Z1vt
def Zzf:Hn:={loops:=Z11 [(3,{ls:=[(.slot 10,.data (.int .i64)),(.slot 11,.data (.int .i64))],os:=[]}),(9,{ls:=[(.slot 13,.data (.int .i64))],os:=[(1,3,.int .i64)]}),(15,{ls:=[(.slot 14,.data (.int .i64)),(.slot 15,.data (.int .i64))],os:=[]}),(21,{ls:=[(.slot 17,.data (.int .i64))],os:=[(1,3,.int .i64)]}),(33,{ls:=[(.slot 20,.data (.int .i64)),(.slot 21,.data (.int .i64))],os:=[]})],joins:=Z11 [(32,{ls:=[(.slot 20,.data (.int .i64)),(.slot 21,.data (.int .i64))],os:=[]}),(41,{ls:=[],os:=[(1,3,.int .i64)]}),(43,{ls:=[],os:=[(1,3,.int .i64)]})],named:=true,inl:=inlL [273,244]}
theorem Z1jq:FnAt Tryz.prog 244 Tryz.f244.ntmps Tryz.f244.results.toList (Tryz.f244.body.getD .skip):=⟨Tryz.f244,Tryz.func244,rfl,rfl,by simp,by decide⟩
theorem Z1jr(md:Md)(tb N:Nat)(bed:List Nat)(xs:List Int)(a m b:Int)(k:EV->List HObj->Prop):Zfh Z3l Zzf (Z2r 244 (Zk4 3 165 N) (Z2r 243 (Zk3 3 165) (Z2r 273 (Zh8 3) (Z2r 287 (Z8r 3) (Z5k))))) Tryz.f244.ntmps Tryz.f244.results.toList (Tryz.f244.body.getD .skip) [.x (.one (.osl 1 0 (List.length xs))),.x (.one (.val (.int .i64 a))),.x (.one (.val (.int .i64 m))),.x (.one (.val (.int .i64 b))),.x (.one (.clo 165 [] [.ref 0 0]))] [.box md tb [.data (.slice (.flt .f64)) bed],.row .rw 3 (.int .i64) xs] k=Zw4 3 165 md tb N bed xs a m b k:=by kernel_rfl
theorem Zzg:∀ N,EvOk Tryz.prog Z3l 244 (Zk4 3 165 N)
 | 0=>λc hi hg args vs k hall q=>by
  unfold Zk4 at q;split at q
  ·obtain⟨⟨_,_,_,_,_,_,_,_,hN,_⟩,_⟩:=q;exact absurd hN (Nat.not_lt_zero _)
  ·exact q.elim
 | N+1=>(Zau Z92 Z5 (Zac (Zzg N) Z1l7) Z1jq Zzf).of λargs hp k q=>by
  unfold Zk4 at q;split at q
  ·rename_i len a m b f md tb bed t xs;obtain⟨⟨rfl,rfl,rfl,h⟩,hk⟩:=q;have e:=Z1jr md tb N bed xs a m b k;have f:=Z1rd 3 165 md tb N bed xs a m b k h hk
   first | (rw[e]; exact f) | exact Eq.mpr e f
  ·exact q.elim
theorem Z1l8(N:Nat):Z3c Tryz.prog Z3l (Z2r 244 (Zk4 3 165 N) (Z2r 243 (Zk3 3 165) (Z2r 273 (Zh8 3) (Z2r 287 (Z8r 3) (Z5k))))):=Zac (Zzg N) Z1l7
def Zzh:Hn:={loops:=Z11 [(2,{ls:=[(.slot 7,.data (.int .i64)),(.slot 8,.data (.int .i64))],os:=[(1,3,.int .i64)]}),(7,{ls:=[(.slot 6,.data (.int .i64))],os:=[(1,3,.int .i64)]}),(9,{ls:=[(.slot 7,.data (.int .i64)),(.slot 8,.data (.int .i64))],os:=[(1,3,.int .i64)]})],joins:=Z11 [(16,{ls:=[(.slot 6,.data (.int .i64))],os:=[(1,3,.int .i64)]})],named:=true,inl:=inlL [243,244]}
theorem Z1js:FnAt Tryz.prog 205 Tryz.f205.ntmps Tryz.f205.results.toList (Tryz.f205.body.getD .skip):=⟨Tryz.f205,Tryz.func205,rfl,rfl,by simp,by decide⟩
theorem Z1jt(m:Md)(tb N:Nat)(bed:List Nat)(xs:List Int)(n:Int)(k:EV->List HObj->Prop):Zfh Z3l Zzh (Z2r 244 (Zk4 3 165 N) (Z2r 243 (Zk3 3 165) (Z2r 273 (Zh8 3) (Z2r 287 (Z8r 3) (Z5k))))) Tryz.f205.ntmps Tryz.f205.results.toList (Tryz.f205.body.getD .skip) [.x (.one (.osl 1 0 (List.length xs))),.x (.one (.val (.int .i64 n))),.x (.one (.clo 165 [] [.ref 0 0]))] [.box m tb [.data (.slice (.flt .f64)) bed],.row .rw 3 (.int .i64) xs] k=Zw5 3 165 m tb N bed xs n k:=by kernel_rfl
theorem Z1ju:EvOk Tryz.prog Z3l 205 (Z1ee 3 165):=.ofN (λN=>Zau Z92 Z5 (Z1l8 N) Z1js Zzh) λargs hp k q=>by
 unfold Z1ee at q;split at q
 ·rename_i len n f m tb bed t xs;obtain⟨⟨rfl,rfl,rfl,h1,h2⟩,hk⟩:=q;refine⟨List.length xs+1,?_⟩;have e:=Z1jt m tb (List.length xs+1) bed xs n k;have f:=Z1re 3 165 m tb (List.length xs+1) bed xs n k ⟨h1,h2,Nat.lt_succ_self _⟩ hk
  first | (rw[e]; exact f) | exact Eq.mpr e f
 ·exact q.elim
theorem Z1vu(N:Nat):Z3c Tryz.prog Z3l (Z2r 205 (Z1ee 3 165) (Z2r 244 (Zk4 3 165 N) (Z2r 243 (Zk3 3 165) (Z2r 273 (Zh8 3) (Z2r 287 (Z8r 3) (Z5k)))))):=Zac Z1ju (Z1l8 N)
def Zw7:Hn:={loops:=λ_=>none,joins:=λ_=>none,named:=true,inl:=inlL [205]}
theorem Z1i5:FnAt Tryz.prog 164 Tryz.f164.ntmps Tryz.f164.results.toList (Tryz.f164.body.getD .skip):=⟨Tryz.f164,Tryz.func164,rfl,rfl,by simp,by decide⟩
theorem Z1i6(m:Md)(tb N:Nat)(bed:List Nat)(xs:List Int)(k:EV->List HObj->Prop):Zfh Z3l Zw7 (Z2r 205 (Z1ee 3 165) (Z2r 244 (Zk4 3 165 N) (Z2r 243 (Zk3 3 165) (Z2r 273 (Zh8 3) (Z2r 287 (Z8r 3) (Z5k)))))) Tryz.f164.ntmps Tryz.f164.results.toList (Tryz.f164.body.getD .skip) [.x (.one (.osl 1 0 (List.length xs))),.x (.one (.clo 165 [] [.ref 0 0]))] [.box m tb [.data (.slice (.flt .f64)) bed],.row .rw 3 (.int .i64) xs] k=Z15z 3 165 m tb N bed xs k:=by kernel_rfl
theorem Z1i7:EvOk Tryz.prog Z3l 164 (Z12y 3 165):=(Zau Z92 Z5 (Z1vu 0) Z1i5 Zw7).of λargs hp k q=>by
 unfold Z12y at q;split at q
 ·rename_i len f m tb bed t xs;obtain⟨⟨rfl,rfl,rfl,h⟩,hk⟩:=q;have e:=Z1i6 m tb 0 bed xs k;have f:=Z1nn 3 165 m tb 0 bed xs k h hk
  first | (rw[e]; exact f) | exact Eq.mpr e f
 ·exact q.elim
theorem Z1vv:Z3c Tryz.prog Z3l (Z2r 164 (Z12y 3 165) Z5k):=Zac Z1i7 Zam
end
section
open Go.Proofs
def Zlj:Con:=Con.nam [.slice (.flt .f64)] [.own 3 (.int .i64)] (λx=>WOrd x.1) (λx=>Z1ef x.1)
def Zji:Hn:={loops:=Z11 [(3,{ls:=[(.slot 10,.data (.int .i64))],os:=[(1,3,.int .i64)]})],joins:=λ_=>none,named:=true,inl:=inlL [164]}
abbrev Z160:Cx:=Z3l
theorem Zw8:CxOk Tryz.prog Z160:=Z92
theorem Z10u:FnAt Tryz.prog 87 Tryz.f87.ntmps Tryz.f87.results.toList (Tryz.f87.body.getD .skip):=⟨Tryz.f87,Tryz.func87,rfl,rfl,by simp,by decide⟩
theorem Z10v(bed:List Nat)(post:(List Int) × Unit->Prop):Z4s Z3l Zji (Z2r 164 (Z12y 3 165) Z5k) Tryz.f87.ntmps Tryz.f87.results.toList (Tryz.f87.body.getD .skip) [.slice (.flt .f64)] [.own 3 (.int .i64)] (bed,()) post=Ze4 26 3 bed post:=by kernel_rfl
theorem Z161:Zlj.holds Tryz.prog SqG 87:=
 Z62 (Z1e2 Zw8 Z5 Zji Z1vv Z10u (F:=λx post=>Ze4 26 3 x.1 post) (λx post=>Z10v x.1 post) λx h _=>Z18y 26 3 x.1 h)
end
section
open Go.Proofs
def Z1rf:Cx:=⟨Z1v Z26,Z23 [(32,Z21),(31,Z2d),(86,Zo1),(83,Z4j),(87,Zlj),(88,Zo2),(90,Z3a),(89,Z6f),(91,Ze1)],SqG⟩
theorem Z1i8:CxOk Tryz.prog Z1rf:=⟨Zn Z12,Zr ⟨Z2c,Z2q,Z18g,Z77,Z161,Z18h,Z3t,Z88,Zod,trivial⟩⟩
def Zs6:Con:=Con.nam [.ptr Z25,kSea] [.own 2 (.int .i64),.own 2 (.int .i64),.snap (.int .i64)] (λx=>WRun x.1 x.2.1) (λx=>Z7j x.1 x.2.1)
theorem Z1ds:SqH Zs6 30:=
 nPs Z1i8 Z5 Zc ({loops:=Z11 [(8,{ls:=[(.slot 68,.data (.int .i64))],os:=[(1,2,.int .i64),(2,2,.int .i64)]})],joins:=λ_=>none,named:=true}) Tryz.func30 (λy p=>Zoh  y.1 p) (λz y p=>Zoi 29 2 3 z y.1 p) (λy h _=>Z18w  y.1 h) λz y h w=>Z18x 29 2 3 z y.1 h w
end
section
open Go.Proofs
def Z162:Cx:=⟨Z1v Z26,Z23 [(20,Ze0),(21,Zcn),(24,Zjd),(25,Zvw),(26,Zs4),(27,Zjg),(47,Z3n),(28,Zs5),(29,Zru),(30,Zs6)],SqG⟩
theorem Zs7:CxOk Tryz.prog Z162:=⟨Zn Z12,Zr ⟨Zo5,Zl6,Z10i,Z1hr,Z1dq,Z10t,Z5q,Z1dr,Z1d9,Z1ds,trivial⟩⟩
def Zg1:Con:=Con.nam [.ptr Z25] [.snap (.int .i64)] (λ_=>True) (λx=>Z12s x.1)
theorem Zw9:SqH Zg1 101:=
 nPs Zs7 Z5 Zc nHn Tryz.func101 (λy p=>Zd1   p) (λz y p=>Zd2  z  p) (λy _ _=>Zst  ) λz y _ _=>Zsu  z
def Z163:Cx:=addC 101 Zg1 Z162
theorem Zs8:CxOk Tryz.prog Z163:=Zk Zs7 Zw9
def Zwa:Con:=Con.nam [.ptr Z25,Z6o,kSea] [.snap (.int .i64)] (λx=>Z6c x.1 x.2.1 x.2.2.1) (λx=>canR x.1 x.2.1 x.2.2.1)
theorem Z1i9:SqH Zwa 45:=
 nPs Zs8 Z5 Zc ({loops:=Z11 [],joins:=λ_=>none,named:=true}) Tryz.func45 (λy p=>Zrx  y.1 y.2.1 p) (λz y p=>Zry  z y.1 y.2.1 p) (λy h _=>Z1da  y.1 y.2.1 h) λz y h _=>Z1db  z y.1 y.2.1 h
def Z164:Cx:=addC 45 Zwa Z163
theorem Zs9:CxOk Tryz.prog Z164:=Zk Zs8 Z1i9
def Zsa:Con:=Con.nam [.ptr Z25,Z6o,kSea] [.own 22 (.flt .f64),.str (.pair (.own 2 (.int .i64)) (.own 2 (.int .i64))),.snap (.int .i64)] (λx=>Za0 x.1 x.2.1 x.2.2.1) (λx=>Z13h x.1 x.2.1 x.2.2.1)
theorem Z1dt:SqH Zsa 46:=
 nP Zs9 Z5 Zc ({loops:=Z11 [],joins:=λ_=>none,named:=true}) Tryz.func46 (λx p=>Zvr  x.1 x.2.1 x.2.2.1 p) λx h _=>Z1ho  x.1 x.2.1 x.2.2.1 h
def Z1no:Cx:=addC 46 Zsa Z164
theorem Zsb:CxOk Tryz.prog Z1no:=Zk Zs9 Z1dt
def Zjj:Con:=Con.nam [.ptr Z25,Z6o,kSea] [.str (.pair (.own 22 (.flt .f64)) (.pair (.own 2 (.int .i64)) (.pair (.own 2 (.int .i64)) (.pair (.own 22 (.flt .f64)) (.pair (.int .i64) (.int .i64)))))),.snap (.int .i64)] (λx=>Z6c x.1 x.2.1 x.2.2.1) (λx=>Z9e x.1 x.2.1 x.2.2.1)
theorem Zwb:SqH Zjj 11:=
 nP Zsb Z5 Zc ({loops:=Z11 [],joins:=λ_=>none,named:=true}) Tryz.func11 (λx p=>Zz9  x.1 x.2.1 x.2.2.1 p) λx h w=>Z1jg  x.1 x.2.1 x.2.2.1 h w
def Zgc:Con:=Con.nam [.ptr Z25,Z6o,kSea] [.str (.pair (.own 2 (.int .i64)) (.own 2 (.int .i64))),.snap (.int .i64)] (λx=>Z6c x.1 x.2.1 x.2.2.1) (λx=>Z7y x.1 x.2.1 x.2.2.1)
theorem Zsc:SqH Zgc 12:=
 nP Zsb Z5 Zc ({loops:=Z11 [],joins:=λ_=>none,named:=true}) Tryz.func12 (λx p=>Zvs  x.1 x.2.1 x.2.2.1 p) λx h _=>Z1hp  x.1 x.2.1 x.2.2.1 h
end
def Zoj:=λ(post:YP × Unit->Prop)=>post ((1,4602678819172646912,4607182418800017408,0,0,false,[]),())
theorem Z18z  : Zoj   (λr=>r=Zub):=by
 exact rfl
def Zok:=λ(a b:List Int)(post:Bool × Unit->Prop)=>∀ a_1,a_1=((↑a.length:Int) != (↑b.length:Int))->Br a_1 (post (false,())) (HS []/\∃(I:Int
 × Unit->Unit->Prop),∃(μ:Int × Unit->Unit->Nat),I (0,()) ()/\∀(x:Int × Unit)(y:Unit),I x y->∀ a_2,a_2=decide (x.1<(↑a.length:Int))->Br a_2 (∃(h:(0:
 Int)<=x.1/\x.1<(↑a.length:Int)),∃(h:0<=x.1/\x.1<(↑b.length:Int)),∀ a_3,a_3=(a.getD x.1.toNat 0 != b.getD x.1.toNat 0)->Br a_3 (post
 (false,())) (HS []/\I (i64.wrap (x.1+1),()) ()/\μ (i64.wrap (x.1+1),()) ()<μ x y)) (post (true,())))
theorem Z190(a:List Int)(b:List Int)(w:KS.wf [.slice (.int .i64),.slice (.int .i64)] (a,b,())):Zok  a b (λr=>r=Zpc a b):=by
 have ha:a.length<=maxN:=w.1.1;have hm:maxN<=9223372036854775807:=by decide
 rintro _ rfl;refine Br.intro (λe=>congrArg r1 ?_) λe=>?_
 ·have e:¬ a.length=b.length:=λq=>by rw[q]at e; simp at e
  exact(beq_eq_false_iff_ne.2 λq=>e (congrArg List.length q)).symm
 have e:a.length=b.length:=by
  have:((a.length:Int)==(b.length:Int))=true:=by
   have e:(!((a.length:Int)==(b.length:Int)))=false:=e;simpa using e
  have:=beq_iff_eq.1 this;omega
 refine⟨rfl,λx _=>∃ k:Nat,x.1=k/\k<=a.length/\a.take k=b.take k,λx _=>a.length - x.1.toNat,⟨0,rfl,by omega,rfl⟩,?_⟩;rintro⟨_,⟨⟩⟩ _ ⟨k,rfl,hk,hq⟩;dsimp only;rintro _ rfl;refine Br.intro (λe1=>?_) λe1=>?_
 ·have e1:k<a.length:=by have:=of_decide_eq_true e1; omega
  rw[Int.toNat_natCast,Z19 e1 (by omega)];have ta:=Zf8 e1 0;have tb:=Zf8 (l:=b) (i:=k) (by omega) 0;refine⟨⟨by omega,by omega⟩,⟨by omega,by omega⟩,?_⟩;rintro _ rfl;refine Br.intro (λe2=>congrArg r1 ?_) λe2=>?_
  ·have e2:¬ a.getD k 0=b.getD k 0:=bne_iff_ne.1 e2;refine(beq_eq_false_iff_ne.2 λq=>e2 ?_).symm;rw[q]
  ·have e2:a.getD k 0=b.getD k 0:=by
    have e2:(!(a.getD k 0==b.getD k 0))=false:=e2;simpa using e2
   exact⟨rfl,⟨k+1,rfl,by omega,by rw[ta,tb,hq,e2]⟩,by omega⟩
 ·have e1:k=a.length:=by have:=of_decide_eq_false e1; omega
  subst e1;refine congrArg r1 (beq_iff_eq.2 ?_).symm;rw[List.take_length]at hq;rw[hq,e,List.take_length]
def Zsd:=λ(a b:YS)(post:Bool × Unit->Prop)=>∃(h:True),∀ a_1,a_1=allR a.1 b.1->∀ a_2,a_2=a_1.1->Br a_2 (∃(h:True),∀ a_3,a_3=Zpc a.2.1
 b.2.1->∀ a_4,a_4=a_3.1->Br a_4 (∃(h:True),∀ a_5,a_5=Zpc a.2.2.1 b.2.2.1->∀ a_6,a_6=a_5.1->Br a_6 (∃(h:True),∀ a_7,a_7=allR a.2.2.2.1 b.2.2.2.1->∀ a_8,
 a_8=a_7.1->Br a_8 (∀ a_9,a_9=(a.2.2.2.2.1==b.2.2.2.2.1)->Br a_9 (∀ a_10,a_10=(a.2.2.2.2.2==b.2.2.2.2.2)->post (a_10,())) (post (false,()))) (post
 (false,()))) (post (false,()))) (post (false,()))) (post (false,()))
theorem Z1du(a:YS)(b:YS):Zsd  a b (λr=>r=Zpd a b):=by
 obtain⟨a1,a4,a2,a3,a5,a6⟩:=a;obtain⟨b1,b4,b2,b3,b5,b6⟩:=b;have key:∀ v:Bool,Z1ed (a1,a4,a2,a3,a5,a6) (b1,b4,b2,b3,b5,b6)=v->(v,())=Zpd (a1,a4,a2,a3,a5,a6) (b1,b4,b2,b3,b5,b6):=λv h=>by unfold Zpd; rw[h]
 have bad:∀ p:Prop,((a1,a4,a2,a3,a5,a6)=(b1,b4,b2,b3,b5,b6)->p)->¬ p->(false,())=Zpd (a1,a4,a2,a3,a5,a6) (b1,b4,b2,b3,b5,b6):=λp h hp=>key false (by unfold Z1ed; exact beq_eq_false_iff_ne.2 λe=>hp (h e));refine⟨trivial,?_⟩;rintro _ rfl _ rfl;refine Br.intro (λe1=>?_) λe1=>bad (a1=b1) (λe=>(Prod.mk.inj e).1) (beq_eq_false_iff_ne.1 e1);have e1:a1=b1:=beq_iff_eq.1 e1;refine⟨trivial,?_⟩;rintro _ rfl _ rfl;refine Br.intro (λe4=>?_) λe4=>bad (a4=b4) (λe=>(Prod.mk.inj (Prod.mk.inj e).2).1) (beq_eq_false_iff_ne.1 e4);have e4:a4=b4:=beq_iff_eq.1 e4;refine⟨trivial,?_⟩;rintro _ rfl _ rfl;refine Br.intro (λe2=>?_) λe2=>bad (a2=b2) (λe=>(Prod.mk.inj (Prod.mk.inj (Prod.mk.inj e).2).2).1) (beq_eq_false_iff_ne.1 e2);have e2:a2=b2:=beq_iff_eq.1 e2;refine⟨trivial,?_⟩;rintro _ rfl _ rfl;refine Br.intro (λe3=>?_) λe3=>bad (a3=b3) (λe=>(Prod.mk.inj (Prod.mk.inj (Prod.mk.inj (Prod.mk.inj e).2).2).2).1) (beq_eq_false_iff_ne.1 e3);have e3:a3=b3:=beq_iff_eq.1 e3;rintro _ rfl;refine Br.intro (λe5=>?_) λe5=>bad (a5=b5) (λe=>(Prod.mk.inj (Prod.mk.inj (Prod.mk.inj (Prod.mk.inj (Prod.mk.inj e).2).2).2).2).1) (beq_eq_false_iff_ne.1 e5);have e5:a5=b5:=beq_iff_eq.1 e5;rintro _ rfl;have e1':a1=b1:=e1;have e4':a4=b4:=e4;have e2':a2=b2:=e2;have e3':a3=b3:=e3;have e5':a5=b5:=e5;clear e1 e2 e3 e4 e5;subst e1' e2' e3' e4' e5';by_cases e6:a6=b6
 ·subst e6;have t:(a6==a6)=true:=beq_iff_eq.2 rfl;show((a6==a6),())=_;rw[t]; exact key true (by unfold Z1ed; exact beq_iff_eq.2 rfl)
 ·have t:(a6==b6)=false:=beq_eq_false_iff_ne.2 e6;show((a6==b6),())=_;rw[t]; exact bad (a6=b6) (λe=>(Prod.mk.inj (Prod.mk.inj (Prod.mk.inj (Prod.mk.inj (Prod.mk.inj e).2).2).2).2).2) e6
def Zse:=λ(p:YP)(s:YS)(post:Option YG × Bool × Unit->Prop)=>∃(h:Zfm p),∀ a,a=Z13a p->∀ a_1,a_1=(a.1 != 0)->Br a_1 (post
 (none,false,())) (∃(h:Z12j p.1 s),∀ a,a=((Zme p.1 s).2.1 != 0)->Br a (post (none,false,())) (∃(h:I64 p.1),∀ a,a=((newR
 p.1).2.1==0)->post ((newR p.1).1,a,())))
theorem Z1dv(p:YP)(s:YS)(h:Z1gi p s):Zse  p s (λr=>r=Z71 p s):=by
 obtain⟨hP,hS⟩:=h;refine⟨hP,?_⟩;rintro _ rfl _ rfl;refine Br.intro (λq=>?_) λq=>?_
 ·have q:(Z1g p != 0)=true:=q;have q:¬ Z1g p=0:=by simpa using q
  show(none,false,())=Z71 p s;unfold Z71; rw[if_neg q]
 have q:(Z1g p != 0)=false:=q;have q:Z1g p=0:=by simpa using q
 refine⟨⟨hP.1,hS⟩,?_⟩;rintro _ rfl;refine Br.intro (λr=>?_) λr=>?_
 ·have r:((Z1l p.1 s).2 != 0)=true:=r;have r:¬ (Z1l p.1 s).2=0:=by simpa using r
  show(none,false,())=Z71 p s;unfold Z71; rw[if_pos q,if_neg r]
 have r:((Z1l p.1 s).2 != 0)=false:=r;have r:(Z1l p.1 s).2=0:=by simpa using r
 refine⟨hP.1,?_⟩;rintro _ rfl;unfold Z71; rw[if_pos q,if_pos r];have g:=(Z1gs r).good;rcases Zuk p.1 with⟨h0,_⟩ | ⟨_,_,e,_⟩
 ·exact absurd h0 (by unfold Z2; rw[if_pos g]; unfold Z24 at g; simp at g; have:1<=p.1*p.1:=Int.le_trans (by omega) (Int.mul_le_mul g.1 g.1 (by omega) (by omega)); rw[Int.mul_assoc]; omega)
 ·rw[e]; rfl
def Z165:=λ(a b:List Nat)(post:Bool × Unit->Prop)=>∀ a_1,a_1=((↑a.length:Int) != (↑b.length:Int))->Br a_1 (post (false,())) (HS []/\∃(I:Int ×
 Unit->Unit->Prop),∃(μ:Int × Unit->Unit->Nat),I (0,()) ()/\∀(x:Int × Unit)(y:Unit),I x y->∀ a_2,a_2=decide (x.1<(↑a.length:Int))->Br a_2 (∃(h:(0:
 Int)<=x.1/\x.1<(↑a.length:Int)),∃(h:0<=x.1/\x.1<(↑b.length:Int)),∃(h:True),∀ a_3,a_3=(Zh2 (a.getD x.1.toNat 0) (b.getD x.1.toNat (0:
 Nat))).1->Br (!a_3) (post (false,())) (HS []/\I (i64.wrap (x.1+1),()) ()/\μ (i64.wrap (x.1+1),()) ()<μ x y)) (post (true,())))
theorem Z1np(a:List Nat)(b:List Nat)(w:KS.wf [.slice (.flt .f64),.slice (.flt .f64)] (a,b,())):Z165  a b (λr=>r=allR a b):=by
 have ha:a.length<=maxN:=w.1.1;have hm:maxN<=9223372036854775807:=by decide
 rintro _ rfl;refine Br.intro (λe=>congrArg r1 ?_) λe=>?_
 ·have e:¬ a.length=b.length:=λq=>by rw[q]at e; simp at e
  exact(beq_eq_false_iff_ne.2 λq=>e (congrArg List.length q)).symm
 have e:a.length=b.length:=by
  have:((a.length:Int)==(b.length:Int))=true:=by
   have e:(!((a.length:Int)==(b.length:Int)))=false:=e;simpa using e
  have:=beq_iff_eq.1 this;omega
 refine⟨rfl,λx _=>∃ k:Nat,x.1=k/\k<=a.length/\a.take k=b.take k,λx _=>a.length - x.1.toNat,⟨0,rfl,by omega,rfl⟩,?_⟩;rintro⟨_,⟨⟩⟩ _ ⟨k,rfl,hk,hq⟩;dsimp only;rintro _ rfl;refine Br.intro (λe1=>?_) λe1=>?_
 ·have e1:k<a.length:=by have:=of_decide_eq_true e1; omega
  rw[Int.toNat_natCast,Z19 e1 (by omega)];have ta:=Zf8 e1 0;have tb:=Zf8 (l:=b) (i:=k) (by omega) 0;refine⟨⟨by omega,by omega⟩,⟨by omega,by omega⟩,trivial,?_⟩;rintro _ rfl;refine Br.intro (λe2=>congrArg r1 ?_) λe2=>?_
  ·have e2:¬ a.getD k 0=b.getD k 0:=λq=>by
    have e2:(!(decide (a.getD k 0=b.getD k 0)))=true:=e2;rw[q]at e2; simp at e2
   refine(beq_eq_false_iff_ne.2 λq=>e2 ?_).symm;rw[q]
  ·have e2:a.getD k 0=b.getD k 0:=by
    have e2:(!(decide (a.getD k 0=b.getD k 0)))=false:=e2;simpa using e2
   exact⟨rfl,⟨k+1,rfl,by omega,by rw[ta,tb,hq,e2]⟩,by omega⟩
 ·have e1:k=a.length:=by have:=of_decide_eq_false e1; omega
  subst e1;refine congrArg r1 (beq_iff_eq.2 ?_).symm;rw[List.take_length]at hq;rw[hq,e,List.take_length]
section
open Go.Proofs
def Z1jv:Cx:=⟨Z1v Z26,Z23 [(44,Zcc)],SqG⟩
theorem Z191:CxOk Tryz.prog Z1jv:=⟨Zn Z12,Zr ⟨Ziv,trivial⟩⟩
def Zzi:Con:=Con.nam [.slice (.flt .f64),.slice (.flt .f64)] [.snap .bool] (λ_=>True) (λx=>allR x.1 x.2.1)
theorem Z1jw:SqH Zzi 23:=
 nP Z191 Z5 Zc ({loops:=Z11 [(4,{ls:=[(.slot 5,.data (.int .i64))],os:=[]})],joins:=λ_=>none,named:=true}) Tryz.func23 (λx p=>Z165  x.1 x.2.1 p) λx _ w=>Z1np  x.1 x.2.1 w
end
section
open Go.Proofs
def Z166:Cx:=⟨Z1v Z26,Z23 [(23,Zzi),(20,Ze0),(21,Zcn),(13,Zcm)],SqG⟩
theorem Zgd:CxOk Tryz.prog Z166:=⟨Zn Z12,Zr ⟨Z1jw,Zo5,Zl6,Zj5,trivial⟩⟩
def Zlk:Con:=Con.nam [] [.snap Z6o] (λ_=>True) (λx=>Zub)
theorem Z167:SqH Zlk 43:=
 nP Zgd Z5 Zc ({loops:=Z11 [],joins:=λ_=>none,named:=true}) Tryz.func43 (λx p=>Zoj   p) λx _ _=>Z18z
def Z8c:Con:=Con.nam [.slice (.int .i64),.slice (.int .i64)] [.snap .bool] (λ_=>True) (λx=>Zpc x.1 x.2.1)
theorem Zct:SqH Z8c 18:=
 nP Zgd Z5 Zc ({loops:=Z11 [(4,{ls:=[(.slot 5,.data (.int .i64))],os:=[]})],joins:=λ_=>none,named:=true}) Tryz.func18 (λx p=>Zok  x.1 x.2.1 p) λx _ w=>Z190  x.1 x.2.1 w
def Z1nq:Cx:=addC 18 Z8c Z166
theorem Zsf:CxOk Tryz.prog Z1nq:=Zk Zgd Zct
def Ze5:Con:=Con.nam [kSea,kSea] [.snap .bool] (λ_=>True) (λx=>Zpd x.1 x.2.1)
theorem Zol:SqH Ze5 16:=
 nP Zsf Z5 Zc nHn Tryz.func16 (λx p=>Zsd  x.1 x.2.1 p) λx _ _=>Z1du  x.1 x.2.1
def Zom:Con:=Con.nam [Z6o,kSea] [.snap (.ptr Z25),.snap .bool] (λx=>Z1gi x.1 x.2.1) (λx=>Z71 x.1 x.2.1)
theorem Z192:SqH Zom 19:=
 nP Zsf Z5 Zc ({loops:=Z11 [],joins:=λ_=>none,named:=true}) Tryz.func19 (λx p=>Zse  x.1 x.2.1 p) λx h _=>Z1dv  x.1 x.2.1 h
end
def Zq4:SeaT:=([0,0,0,0,0,0],[1431655765,1431655765,1431655765,1431655765,1431655765,1431655765],[0,0,0,0,0,0],[0,0,0,0,0,0,0,0,0,0,0,0],0,0)
def Z1ty:SeaT:=([0,0,0,0,0,0],[1431655765,1431655765,1431655765,1431655765,1431655765,1431655765],[0,0,0,0,0,0],[0,0,0,0,0,0,0,0,0,0,0,0],0,1)
def Zxe:SeaT:=([0,0,0,0,0,0],[2863311530,1431655765,1431655765,1431655765,1431655765,1431655765],[0,0,0,0,0,0],[0,0,0,0,0,0,0,0,0,0,0,0],0,0)
def Z1tz:SeaT:=([0,0,0,0,0,0],[1109898474,1870009029,1431655765,1870009029,1870009029,1870009029],[0,0,0,0,0,0],[4600040671590431692,4600040671590431692,4600040671590431692,4600040671590431692,0,0,0,0,0,0,0,0],0,1)
theorem Z1rg:Z9e (some (netG 1)) Zc1 Zq4=(Z1ty,0,()):=by kernel_rfl
theorem Z1rh:Z7y (some (netG 1)) Zc1 Zq4=(([0,0,0,0,0,0,0,0,0,0,0,0],[0,0,0,0,0,0,0,0,0,0,0,0]),0,()):=by kernel_rfl
theorem Z1ri:Z9e (some (netG 1)) Zc1 Zxe=(Z1tz,0,()):=by kernel_rfl
theorem Z1vw:(List.range 6).map (λk:Nat=>Zv 1 k)=List.replicate 6 1431655765:=by kernel_rfl
theorem Z1x0 {k:Nat}(h:k<6):(Z14 (some (netG 1)) (k:Int)).1=1431655765:=by
 have e:(Z14 (some (netG 1)) (k:Int)).1=Zv 1 k:=Z6e (n:=1) (by omega) (by have:Z2 1=6:=rfl; omega);rw[e];have q:=congrArg (λl=>l[k]?) Z1vw;have q:((List.range 6).map (λk:Nat=>Zv 1 k))[k]?=(List.replicate 6 (1431655765:Int))[k]?:=q;rw[List.getElem?_map,List.getElem?_range h,List.getElem?_replicate,if_pos h]at q;exact Option.some.inj q
theorem Z1rj:NetP (some (netG 1)):=.inr ⟨1,rfl,rfl⟩
theorem Z1rk:Z6c (some (netG 1)) Zc1 Zq4:=
 ⟨Z1rj,⟨⟨by decide,by decide⟩,⟨by unfold W64; decide,by unfold W64; decide,by unfold W64; decide⟩,by decide,by decide⟩,λx hx=>by simp[Zq4]at hx; subst hx; unfold W64; decide,λx hx=>by simp[Zq4]at hx; subst hx; exact⟨by decide,by decide⟩,λx hx=>by simp[Zq4]at hx; subst hx; exact⟨by decide,by decide⟩,λx hx=>by simp[Zq4]at hx; subst hx; unfold W64; decide,⟨by decide,by decide⟩,by decide,by decide⟩
theorem Z1wq:Z6c (some (netG 1)) Zc1 Zxe:=
 ⟨Z1rj,⟨⟨by decide,by decide⟩,⟨by unfold W64; decide,by unfold W64; decide,by unfold W64; decide⟩,by decide,by decide⟩,λx hx=>by simp[Zxe]at hx; subst hx; unfold W64; decide,λx hx=>by simp[Zxe]at hx; rcases hx with rfl | rfl <;> exact⟨by decide,by decide⟩,λx hx=>by simp[Zxe]at hx; subst hx; exact⟨by decide,by decide⟩,λx hx=>by simp[Zxe]at hx; subst hx; unfold W64; decide,⟨by decide,by decide⟩,by decide,by decide⟩
def Z8d(ty29:Nat):HObj:=HObj.box Md.rw ty29 [SV.val (Go.Value.slice none (0:Nat) (0:Nat)),SV.val (Go.Value.slice none (0:Nat) (0:Nat)),
 SV.val (Go.Value.slice none (0:Nat) (0:Nat)),SV.val (Go.Value.slice none (0:Nat) (0:Nat)),SV.val (Go.Value.int i64 (0:Int)),SV.val (Go.Value.int
 i64 (0:Int))]
def Z8e(ty22:Nat):HObj:=HObj.row Md.rw ty22 (K.flt f64) (List.replicate (Int.toNat (6:Int)) (0:Nat))
def Z4u(ty2:Nat):HObj:=HObj.row Md.rw ty2 (K.int i64) (List.replicate (Int.toNat (6:Int)) (0:Int))
def Z8f(ty22:Nat):HObj:=HObj.row Md.rw ty22 (K.flt f64) (List.replicate (Int.toNat (12:Int)) (0:Nat))
def Z8g(ty29:Nat):HObj:=HObj.box Md.rw ty29 [SV.osl (2:Nat) (0:Nat) (6:Nat),SV.osl (3:Nat) (0:Nat) (6:Nat),SV.osl (4:Nat) (0:Nat) (6:Nat),
 SV.osl (5:Nat) (0:Nat) (12:Nat),SV.val (Go.Value.int i64 (0:Int)),SV.val (Go.Value.int i64 (0:Int))]
def Zll(ty2:Nat)(y:List Int × Unit)(x:Int × Unit):HObj:=HObj.row Md.rw ty2 (K.int i64) (y.fst.set ((0:Nat)+x.fst.toNat) (Z14 (newR (1:
 Int)).fst x.fst).fst)
def Ze6:=λ(ty29 ty22 ty2:Nat)(post:Bool × Unit->Prop)=>∃(h:I64 (1:Int)),∀(a:Bool),a=((newR (1:Int)).snd.fst != (0:Int))->Br a (post
 (false,())) (∃(h:(0:Int)<=(6:Int)/\(6:Int)<=(6:Int)/\(6:Int)*(↑(8:Nat):Int)<=(281474976710656:Int)),∃(h:(0:Int)<=(6:Int)/\(6:Int)<=(6
 : Int)/\(6:Int)*(↑(8:Nat):Int)<=(281474976710656:Int)),∃(h:(0:Int)<=(6:Int)/\(6:Int)<=(6:Int)/\(6:Int)*(↑(8:Nat):Int)<=(281474976710656:
 Int)),∃(h:(0:Int)<=(12:Int)/\(12:Int)<=(12:Int)/\(12:Int)*(↑(8:Nat):Int)<=(281474976710656:Int)),HIs [HObj.pend,Z8d ty29,Z8e
 ty22,Z4u ty2,Z4u ty2,Z8f ty22,Z8g ty29] [HObj.pend,Z8d ty29,Z8e ty22,Z4u ty2,
 Z4u ty2,Z8f ty22,Z8g ty29]/\∃(I:Int × Unit->List Int × Unit->Prop),∃(μ:Int × Unit->List Int × Unit->Nat),I ((0:Int),())
 (List.replicate (Int.toNat (6:Int)) (0:Int),())/\∀(x:Int × Unit)(y:List Int × Unit),I x y->∀(a:Bool),a=decide (x.fst<(6:Int))->Br a (∃(h:True),∃(h:
 (0:Int)<=x.fst/\x.fst<(↑(Int.toNat (6:Int)):Int)),HIs [HObj.pend,Z8d ty29,Z8e ty22,Zll ty2 y x,Z4u ty2,
 Z8f ty22,Z8g ty29] [HObj.pend,Z8d ty29,Z8e ty22,Zll ty2 y x,Z4u ty2,Z8f ty22,
 Z8g ty29]/\I (i64.wrap (x.fst+(1:Int)),()) (y.fst.set ((0:Nat)+x.fst.toNat) (Z14 (newR (1:Int)).fst x.fst).fst,())/\μ (i64.wrap (x.fst
 + (1:Int)),()) (y.fst.set ((0:Nat)+x.fst.toNat) (Z14 (newR (1:Int)).fst x.fst).fst,())<μ x y) (∃(h:(0:Int)<=(0:Int)/\(0:Int)<(↑(Int.toNat (6:Int)):
 Int)),∀(a:Bool),a=(y.fst.getD ((0:Nat)+Int.toNat (0:Int)) (0:Int) != (1431655765:Int))->Br a (post (false,())) (∃(h:True),∀(a:(Int × Nat × Nat × Nat
 × Int × Bool × List (Int × Int × Int × Int)) × Unit),a=Zub->∃(h:Z6c (newR (1:Int)).fst a.fst ([(0:Nat),(0:Nat),(0:Nat),(0:Nat),(0:Nat),(0:Nat)],
 List.take (Int.toNat (6:Int)) (List.drop (0:Nat) y.fst),[(0:Int),(0:Int),(0:Int),(0:Int),(0:Int),(0:Int)],[(0:Nat),(0:Nat),(0:Nat),(0:Nat),(0:
 Nat),(0:Nat),(0:Nat),(0:Nat),(0:Nat),(0:Nat),(0:Nat),(0:Nat)],(0:Int),(0:Int))),∀(a_1:(List Nat × List Int × List Int × List Nat × Int × Int) × Int
 × Unit),a_1=Z9e (newR (1:Int)).fst a.fst ([(0:Nat),(0:Nat),(0:Nat),(0:Nat),(0:Nat),(0:Nat)],List.take (Int.toNat (6:Int)) (List.drop (0:Nat) y.fst),
 [(0:Int),(0:Int),(0:Int),(0:Int),(0:Int),(0:Int)],[(0:Nat),(0:Nat),(0:Nat),(0:Nat),(0:Nat),(0:Nat),(0:Nat),(0:Nat),(0:Nat),(0:Nat),
 (0:Nat),(0:Nat)],(0:Int),(0:Int))->∃(h:True),∀(a:(Int × Nat × Nat × Nat × Int × Bool × List (Int × Int × Int × Int)) × Unit),a=Zub->∃(h:Z6c (newR (1
 : Int)).fst a.fst ([(0:Nat),(0:Nat),(0:Nat),(0:Nat),(0:Nat),(0:Nat)],List.take (Int.toNat (6:Int)) (List.drop (0:Nat) y.fst),[(0:Int),(0:Int),(0:
 Int),(0:Int),(0:Int),(0:Int)],[(0:Nat),(0:Nat),(0:Nat),(0:Nat),(0:Nat),(0:Nat),(0:Nat),(0:Nat),(0:Nat),(0:Nat),(0:Nat),(0:Nat)],(0:
 Int),(0:Int))),∀(a_2:(List Int × List Int) × Int × Unit),a_2=Z7y (newR (1:Int)).fst a.fst ([(0:Nat),(0:Nat),(0:Nat),(0:Nat),(0:Nat),(0:Nat)],
 List.take (Int.toNat (6:Int)) (List.drop (0:Nat) y.fst),[(0:Int),(0:Int),(0:Int),(0:Int),(0:Int),(0:Int)],[(0:Nat),(0:Nat),(0:Nat),(0:Nat),(0:
 Nat),(0:Nat),(0:Nat),(0:Nat),(0:Nat),(0:Nat),(0:Nat),(0:Nat)],(0:Int),(0:Int))->∀(a:Bool),a=(a_1.snd.fst != (0:Int))->Br a (post (false,
 ())) (∀(a:Bool),a=(a_2.snd.fst != (0:Int))->Br a (post (false,())) (∃(h:True),∀(a:Bool × Unit),a=Zpd (List.take a_1.fst.fst.length (List.drop (0:Nat)
 a_1.fst.fst),List.take a_1.fst.snd.fst.length (List.drop (0:Nat) a_1.fst.snd.fst),List.take a_1.fst.snd.snd.fst.length (List.drop (0:Nat) a_1.fst.snd.snd.fst),List.take
 a_1.fst.snd.snd.snd.fst.length (List.drop (0:Nat) a_1.fst.snd.snd.snd.fst),a_1.fst.snd.snd.snd.snd.fst,a_1.fst.snd.snd.snd.snd.snd) ([(0:Nat),(0:Nat),(0:Nat),(0:
 Nat),(0:Nat),(0:Nat)],List.take (Int.toNat (6:Int)) (List.drop (0:Nat) y.fst),[(0:Int),(0:Int),(0:Int),(0:Int),(0:Int),(0:Int)],[(0:Nat),(0:
 Nat),(0:Nat),(0:Nat),(0:Nat),(0:Nat),(0:Nat),(0:Nat),(0:Nat),(0:Nat),(0:Nat),(0:Nat)],(0:Int),(1:Int))->∀(a_3:Bool),a_3=a.fst->Br
 (!a_3) (post (false,())) (∃(h:(0:Int)<=(12:Int)/\(12:Int)<=(12:Int)/\(12:Int)*(↑(8:Nat):Int)<=(281474976710656:Int)),∃(h:True),∀(a:Bool ×
 Unit),a=Zpc (List.take a_2.fst.fst.length (List.drop (0:Nat) a_2.fst.fst)) [(0:Int),(0:Int),(0:Int),(0:Int),(0:Int),(0:Int),(0:Int),(0:Int),(0:
 Int),(0:Int),(0:Int),(0:Int)]->∀(a_4:Bool),a_4=a.fst->Br (!a_4) (post (false,())) (∃(h:(0:Int)<=(0:Int)/\(0:Int)<(↑(Int.toNat (6:Int)):
 Int)),∃(h:(0:Int)<=(0:Int)/\(0:Int)<(↑(Int.toNat (6:Int)):Int)),∃(h:True),∀(a:(Int × Nat × Nat × Nat × Int × Bool × List (Int × Int × Int × Int)) ×
 Unit),a=Zub->∃(h:Z6c (newR (1:Int)).fst a.fst ([(0:Nat),(0:Nat),(0:Nat),(0:Nat),(0:Nat),(0:Nat)],List.take (Int.toNat (6:Int)) (List.drop (0:
 Nat) (y.fst.set ((0:Nat)+Int.toNat (0:Int)) (i64.wrap ((2:Int)*y.fst.getD ((0:Nat)+Int.toNat (0:Int)) (0:Int))))),[(0:Int),(0:Int),(0:Int),(0:
 Int),(0:Int),(0:Int)],[(0:Nat),(0:Nat),(0:Nat),(0:Nat),(0:Nat),(0:Nat),(0:Nat),(0:Nat),(0:Nat),(0:Nat),(0:Nat),(0:Nat)],(0:Int),(0:
 Int))),∀(a_5:(List Nat × List Int × List Int × List Nat × Int × Int) × Int × Unit),a_5=Z9e (newR (1:Int)).fst a.fst ([(0:Nat),(0:Nat),(0:Nat),(0:Nat),(0:
 Nat),(0:Nat)],List.take (Int.toNat (6:Int)) (List.drop (0:Nat) (y.fst.set ((0:Nat)+Int.toNat (0:Int)) (i64.wrap ((2:Int)*y.fst.getD ((0:Nat)+
 Int.toNat (0:Int)) (0:Int))))),[(0:Int),(0:Int),(0:Int),(0:Int),(0:Int),(0:Int)],[(0:Nat),(0:Nat),(0:Nat),(0:Nat),(0:Nat),(0:Nat),(0:
 Nat),(0:Nat),(0:Nat),(0:Nat),(0:Nat),(0:Nat)],(0:Int),(0:Int))->∀(a:Bool),a=(a_5.snd.fst==(0:Int))->Br a (∀(a:Bool),a=
 ((↑a_5.fst.snd.fst.length:Int)==(6:Int))->Br a (∃(h:(0:Int)<=(1:Int)/\(1:Int)<(↑a_5.fst.snd.fst.length:Int)),∃(h:(0:Int)<=(3:Int)/\(3:Int) <
 (↑a_5.fst.snd.fst.length:Int)),∀(a:Bool),a=(a_5.fst.snd.fst.getD ((0:Nat)+Int.toNat (1:Int)) (0:Int)==a_5.fst.snd.fst.getD ((0:Nat)+Int.toNat (3:Int)) (0
 : Int))->Br a (∃(h:(0:Int)<=(1:Int)/\(1:Int)<(↑a_5.fst.snd.fst.length:Int)),∃(h:(0:Int)<=(1:Int)/\(1:Int)<(↑(Int.toNat (6:Int)):Int)),∀(a:
 Bool),a=decide (a_5.fst.snd.fst.getD ((0:Nat)+Int.toNat (1:Int)) (0:Int) > (y.fst.set ((0:Nat)+Int.toNat (0:Int)) (i64.wrap ((2:Int)*y.fst.getD ((0:
 Nat)+Int.toNat (0:Int)) (0:Int)))).getD ((0:Nat)+Int.toNat (1:Int)) (0:Int))->Br a (∃(h:(0:Int)<=(2:Int)/\(2:Int)<(↑a_5.fst.snd.fst.length:Int)),∃
 (h:(0:Int)<=(2:Int)/\(2:Int)<(↑(Int.toNat (6:Int)):Int)),∀(a:Bool),a=(a_5.fst.snd.fst.getD ((0:Nat)+Int.toNat (2:Int)) (0:Int)==(y.fst.set ((0:
 Nat)+Int.toNat (0:Int)) (i64.wrap ((2:Int)*y.fst.getD ((0:Nat)+Int.toNat (0:Int)) (0:Int)))).getD ((0:Nat)+Int.toNat (2:Int)) (0:Int))->Br a (∃(h
 : (0:Int)<=(0:Int)/\(0:Int)<(↑a_5.fst.snd.snd.snd.fst.length:Int)),∀(a:Bool),a=fcmp Go.BinOp.gtr (f64.format.order (a_5.fst.snd.snd.snd.fst.getD
 ((0:Nat)+Int.toNat (0:Int)) (0:Nat)) (0:Nat))->Br a (∃(h:(0:Int)<=(0:Int)/\(0:Int)<(↑a_5.fst.snd.snd.snd.fst.length:Int)),∃(h:(0:Int)<=(3:Int)/\
 (3:Int)<(↑a_5.fst.snd.snd.snd.fst.length:Int)),∃(h:True),∀(a:Bool),a=(Zh2 (a_5.fst.snd.snd.snd.fst.getD ((0:Nat)+Int.toNat (0:Int)) (0:Nat))
 (a_5.fst.snd.snd.snd.fst.getD ((0:Nat)+Int.toNat (3:Int)) (0:Nat))).fst->post (a,())) (post (false,()))) (post (false,()))) (post (false,()))) (post
 (false,()))) (post (false,()))) (post (false,())))))))))
theorem Z193(ty0 ty1 ty2:Nat)  : Ze6 ty0 ty1 ty2  (λr=>r=yesR):=by
 delta Ze6;dsimp only;rw[new1];dsimp only;refine⟨⟨by decide,by decide⟩,?_⟩;rintro _ rfl;refine Br.intro (λe=>absurd e (by first | decide | simp)) λ_=>?_;refine⟨by decide,by decide,by decide,by decide,?_⟩;refine⟨rfl,λx y=>∃ k:Nat,x.1=k/\k<=6/\y.1=List.replicate k 1431655765++List.replicate (6 - k) 0,λx _=>6 - x.1.toNat,⟨0,rfl,by omega,rfl⟩,?_⟩;rintro⟨_,⟨⟩⟩ ⟨_,⟨⟩⟩ ⟨k,rfl,hk,rfl⟩;dsimp only;rintro _ rfl;have lk:(List.replicate k (1431655765:Int)).length=k:=List.length_replicate;refine Br.intro (λe3=>?_) λe3=>?_
 ·have e3:k<6:=by have:=of_decide_eq_true e3; omega
  refine⟨trivial,⟨by omega,by show(k:Int)<6; omega⟩,rfl,?_⟩;rw[Int.toNat_natCast,Z19 e3 (by omega),Zpm lk e3,Z1x0 e3];exact⟨⟨k+1,rfl,by omega,by rw[List.replicate_succ']⟩,by omega⟩
 have e3:k=6:=by have:=of_decide_eq_false e3; omega
 subst e3;clear lk hk;have y6:List.replicate 6 (1431655765:Int)++List.replicate (6 - 6) 0=[1431655765,1431655765,1431655765,1431655765,1431655765,1431655765]:=rfl;rw[y6];have t1:List.take (Int.toNat 6) (List.drop 0 [(1431655765:Int),1431655765,1431655765,1431655765,1431655765,1431655765])=[1431655765,1431655765,1431655765,1431655765,1431655765,1431655765]:=rfl;have t2:List.take (Int.toNat 6) (List.drop 0 ([(1431655765:Int),1431655765,1431655765,1431655765,1431655765,1431655765].set (0+Int.toNat 0) (i64.wrap (2*[(1431655765:Int),1431655765,1431655765,1431655765,1431655765,1431655765].getD (0+Int.toNat 0) 0))))=[2863311530,1431655765,1431655765,1431655765,1431655765,1431655765]:=by decide
 rw[t1,t2];refine⟨by decide,?_⟩;rintro _ rfl;refine Br.intro (λe=>absurd e (by first | decide | simp)) λ_=>?_;refine⟨trivial,λa ha=>?_⟩;have ha:a=(Zc1,()):=ha;subst ha;refine⟨Z1rk,λa ha=>?_⟩;have ha:a=(Z1ty,0,()):=ha.trans Z1rg;subst ha;refine⟨trivial,λa ha=>?_⟩;have ha:a=(Zc1,()):=ha;subst ha;refine⟨Z1rk,λa ha=>?_⟩;have ha:a=(([0,0,0,0,0,0,0,0,0,0,0,0],[0,0,0,0,0,0,0,0,0,0,0,0]),0,()):=ha.trans Z1rh;subst ha;rintro _ rfl;refine Br.intro (λe=>absurd e (by first | decide | simp)) λ_=>?_;rintro _ rfl;refine Br.intro (λe=>absurd e (by first | decide | simp)) λ_=>?_;refine⟨trivial,λa ha=>?_⟩;have ha:a=(true,()):=ha;subst ha;rintro _ rfl;refine Br.intro (λe=>absurd e (by first | decide | simp)) λ_=>?_;refine⟨by decide,trivial,λa ha=>?_⟩;have ha:a=(true,()):=ha;subst ha;rintro _ rfl;refine Br.intro (λe=>absurd e (by first | decide | simp)) λ_=>?_;refine⟨by decide,by decide,trivial,λa ha=>?_⟩;have ha:a=(Zc1,()):=ha;subst ha;refine⟨Z1wq,λa ha=>?_⟩;have ha:a=(Z1tz,0,()):=ha.trans Z1ri;subst ha;rintro _ rfl;refine Br.intro (λ_=>?_) λe=>absurd e (by decide);rintro _ rfl;refine Br.intro (λ_=>?_) λe=>absurd e (by decide);refine⟨by decide,by decide,?_⟩;rintro _ rfl;refine Br.intro (λ_=>?_) λe=>absurd e (by decide);refine⟨by decide,by decide,?_⟩;rintro _ rfl;refine Br.intro (λ_=>?_) λe=>absurd e (by decide);refine⟨by decide,by decide,?_⟩;rintro _ rfl;refine Br.intro (λ_=>?_) λe=>absurd e (by decide);refine⟨by decide,?_⟩;rintro _ rfl;refine Br.intro (λ_=>?_) λe=>absurd e (by decide);refine⟨by decide,by decide,trivial,?_⟩;rintro _ rfl;rfl
section
open Go.Proofs
def Z1nr:Cx:=⟨Z1v Z26,Z23 [(13,Zcm),(90,Z3a),(43,Zlk),(11,Zjj),(12,Zgc),(16,Ze5),(18,Z8c),(44,Zcc)],SqG⟩
theorem Zsg:CxOk Tryz.prog Z1nr:=⟨Zn Z12,Zr ⟨Zj5,Z3t,Z167,Zwb,Zsc,Zol,Zct,Ziv,trivial⟩⟩
def Zlm:Con:=Con.nam [] [.snap .bool] (λ_=>True) (λx=>yesR)
theorem Z168:SqH Zlm 10:=
 nPI Zsg Z5 Zc ({loops:=λ_=>none,joins:=λ_=>none,named:=true,inl:=inlL [42]}) (Z40 Zsg Z5 Z13p 6) Tryz.func10 (λx p=>Ze6 29 22 2  p) λx _ _=>Z193 29 22 2
end
section
open Go.Proofs
def Z169:Cx:=⟨Z1v Z26,Z23 [(31,Z2d),(77,Z3u),(90,Z3a),(92,Z89),(93,Zuq),(94,Zo7),(44,Zcc),(11,Zjj),(12,Zgc),(16,Ze5),(18,Z8c),(10,Zlm),(19,Zom),(32,Z21),(40,Zo8)],SqG⟩
theorem Zsh:CxOk Tryz.prog Z169:=⟨Zn Z12,Zr ⟨Z2q,Z4q,Z3t,Zcg,Z1h2,Z18j,Ziv,Zwb,Zsc,Zol,Zct,Z168,Z192,Z2c,Z18k,trivial⟩⟩
def Zln:Con:=Con.nam [.ptr Z25,kSea] [.snap .bool] (λx=>Zmk x.1 x.2.1) (λx=>Zfo x.1 x.2.1)
theorem Z16a:SqH Zln 38:=
 nP Zsh Z5 Zc ({loops:=Z11 [(2,{ls:=[(.slot 5,.data (.int .i64))],os:=[]})],joins:=λ_=>none,named:=true}) Tryz.func38 (λx p=>Zdj 29 x.1 x.2.1 p) λx h _=>Z17j 29 x.1 x.2.1 h
def Z16b:Cx:=addC 38 Zln Z169
theorem Zsi:CxOk Tryz.prog Z16b:=Zk Zsh Z16a
def Zlo:Con:=Con.nam [.ptr Z25,Z6o,kSea] [.snap .bool] (λx=>Za0 x.1 x.2.1 x.2.2.1) (λx=>Zfq x.1 x.2.1 x.2.2.1)
theorem Z16c:SqH Zlo 39:=
 nP Zsi Z5 Zc ({loops:=Z11 [],joins:=λ_=>none,named:=true}) Tryz.func39 (λx p=>Zmn  x.1 x.2.1 x.2.2.1 p) λx h _=>Z17k  x.1 x.2.1 x.2.2.1 h
def Z1ns:Cx:=addC 39 Zlo Z16b
theorem Z1dw:CxOk Tryz.prog Z1ns:=Zk Zsi Z16c
def Zt1:Con:=.det [Z6o,kSea,.int .i64] [.snap .bool] (λx=>Z1kn x.1 x.2.1 x.2.2.1) (λx=>Z1tv x.1 x.2.1 x.2.2.1)
theorem Zt2:SqH Zt1 8:=
 dP Z1dw Z5 Zc ({loops:=Z11 [(12,{ls:=[(.slot 10,.data (.int .i64))],os:=[(2,22,.flt .f64)]})],joins:=λ_=>none,named:=true}) Tryz.func8 (λx p=>Z8v 25 29 22 x.1 x.2.1 x.2.2.1 p) λx h w=>Zuo 25 29 22 x.1 x.2.1 x.2.2.1 h w
end
end Go.Lift
namespace Go.Proofs.YtkfafhbmdccmgaaGreatDoor
open Go.Lift
theorem stepRests_law:Z1k9 Rows.stepRestsSpec 3:=⟨rfl,λH ds h=>by
 match ds,h with
 | [d1,d2,d3],_=>rfl⟩
set_option maxRecDepth 100000 in
theorem stepRests_lifted(os:Os)(started:os.Started)(H:Type)(enc:TypeId × Value->H):
  ReturnsInHanded {} Tryz.checked os 8 .any (λw args=>(Rows.stepRestsSpec.pre enc Tryz.prog Tryz.f8 [] false w args/\laidMetH Tryz.prog Z13q w)/\sizedMet enc Tryz.prog Tryz.f8 (OpenSpec.ofChange Rows.stepRestsSpec) false w args) (Rows.stepRestsSpec.post enc Tryz.prog Tryz.f8 false true false false):=
 Z1sx (C:=Tryz.checked) (X:=λw _=>laidMetH Tryz.prog Z13q w) (λ_ _ _ hh h=>h.of_heap hh) (λw _ h=>Z1mp w h) own started (by kernel_rfl) Tryz.func8 rfl (by decide)
  (ChangeSpec.witness_shaped (enc:=enc) (C:=Tryz.checked) (os:=os) (X:=λw _=>laidMetH Tryz.prog Z13q w) false (World.doorLaid Tryz.prog 400 os) #[.agg #[.int .i64 0,.float .f64 0,.float .f64 0,.float .f64 0,.int .i64 0,.bool false,.slice none 0 0],.agg #[.slice none 0 0,.slice none 0 0,.slice none 0 0,.slice none 0 0,.int .i64 0,.int .i64 0],.int .i64 0] 12 rfl (World.shaped_of_RefB (by kernel_rfl) (by kernel_rfl)) (by kernel_rfl) (by kernel_rfl) (by kernel_rfl) (Z1sy os _))
  Z1v1 (Z127 _ [Z6o,kSea,.int .i64] (by kernel_rfl)) (by decide +kernel) rfl (by kernel_rfl) stepRests_law Zt2 (λx h w=>⟨⟨rngI h.1.1,⟨rngF h.1.2.1,rngF h.1.2.2.1,rngF h.1.2.2.2.1⟩,rngI h.1.2.2.2.2.1⟩,Z1wy h.2.1,rngI h.2.2.1⟩)
theorem stepRests_f1:(Rows.stepRestsRow.inPlace==Tryz.prog.inPlace 8)=true:=by kernel_rfl
theorem stepRests_f2:(Rows.stepRestsRow.unfollowed==Tryz.prog.unfollowed 8)=true:=by kernel_rfl
theorem stepRests_f3:(Rows.stepRestsRow.recurses==Tryz.prog.recurses 8)=true:=by kernel_rfl
theorem stepRests_f4:(Rows.stepRestsRow.named==Tryz.prog.varsNamed 8)=true:=by kernel_rfl
set_option maxRecDepth 100000 in
theorem stepRests_facts:joinedFacts Tryz.prog 8 Tryz.f8 Rows.stepRestsSpec Rows.stepRestsRow=true:=by
 unfold joinedFacts;rw[stepRests_f1,stepRests_f2,stepRests_f3,stepRests_f4]
 kernel_rfl
theorem stepRests_holds:Rows.StepRestsSaid:=
 OpenClaim.holds_of_wide 8 Tryz.f8 rfl rfl rfl rfl rfl rfl rfl ⟨rfl,rfl,rfl,rfl,rfl⟩ rfl rfl rfl rfl rfl (by kernel_rfl) Tryz.func8 stepRests_facts
  (of_decide_eq_true (by kernel_rfl)) (by unfold Func.isWrapper; first | (rw[if_pos (by decide +kernel)]; kernel_rfl) | (rw[if_neg (by decide +kernel)]; exact⟨rfl,rfl⟩))
  (λos started H enc _=>stepRests_lifted os started H enc)
theorem stepRests_card:Rows.StepRestsCardSaid:=
 Claim7.holds_tied_plain_at .later [] [.wider,.data] true (true, "683cf731385246db7796d8ad6f4eb180d9d408f70e5152c3a317b09496f26928") false
  stepRests_holds (λ_ h=>by cases h) (by kernel_rfl) (λ_ h=>by cases h) stepRests_row_tie rfl ⟨rfl,rfl⟩ (by kernel_rfl) rfl
  (λf fn hf hfn=>by
   obtain rfl:f=8:=Option.some.inj ((show Tryz.prog.funcNamed "tarn/tarnlaw21.StepRests" = some 8 by kernel_rfl).symm.trans hf) |>.symm
   obtain rfl:fn=Tryz.f8:=(Option.some.inj (Tryz.func8.symm.trans hfn)).symm
   exact⟨by kernel_rfl,λj t ht=>by
    rw[Tryz.params8]at ht;have hm:t ∈ [25,29,3]:=by simpa using Array.mem_of_getElem? ht
    have hall:([25,29,3].all λu=>!Tryz.prog.wantsStandIn u)=true:=by kernel_rfl
    exact(show Tryz.prog.wantsStandIn t=false by simpa using List.all_eq_true.1 hall t hm)⟩)
  (by kernel_rfl)
end Go.Proofs.YtkfafhbmdccmgaaGreatDoor
