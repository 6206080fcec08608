/- A part of the proof of RiverRunsCard: an own lifter of code into plain terms, and plain laws. -/
import Derived.Test.YtplhligfkbgllaaGreatDoorPtE
set_option linter.unusedVariables false
set_option linter.unusedSimpArgs false
set_option linter.unusedSectionVars false
open Go.IntKind (i64 u64 u32 u8)
open Go.FloatKind (f64 f32)
namespace Go.Lift
def Zg0:=fun (l:List Int) (post:Bool × Unit→Prop)=>HIs [] []∧∃ (I:Int × Int × Unit→Unit→Prop),∃ (μ:Int × Int × Unit→Unit→Nat),I ((0:Int),(0 :
 Int),()) ()∧∀ (x:Int × Int × Unit) (y:Unit),I x y→∀ (a:Bool),a=decide (x.fst<(↑l.length:Int))→Br a (∃ (h:(0:Int)≤x.fst∧x.fst<(↑l.length:Int)),∀
 (a:Bool),a=decide (l.getD x.fst.toNat (0:Int)<(0:Int))→Br a (post (false,())) (∀ (a:Bool),a=decide (l.getD x.fst.toNat (0:Int) > i64.wrap
 ((4503599627370496:Int) - x.snd.fst))→Br a (post (false,())) (HIs [] []∧I (i64.wrap (x.fst+(1:Int)),i64.wrap (x.snd.fst+l.getD x.fst.toNat (0 :
 Int)),()) ()∧μ (i64.wrap (x.fst+(1:Int)),i64.wrap (x.snd.fst+l.getD x.fst.toNat (0:Int)),()) ()<μ x y))) (post (true,()))
theorem Z1fv (l:List Int) (w:KS.wf [.slice (.int .i64)] (l,())):Zg0  l (fun r=>r=Zkv l):=by
 have hl:l.length≤281474976710656:=w.1.1
 refine ⟨rfl,fun x _=>∃ k:Nat,x.1=k∧k≤l.length∧0≤x.2.1∧x.2.1≤4503599627370496∧Z1l x.2.1 (l.drop k)=Z1l 0 l,fun x _=>l.length - x.1.toNat,⟨0,rfl,by omega,by decide,by decide,rfl⟩,?_⟩
 rintro ⟨_,s,⟨⟩⟩ _ ⟨k,rfl,hk,s0,s1,hs⟩
 dsimp only at s0 s1 hs ⊢
 rintro _ rfl
 refine Br.intro (fun d=>?_) fun d=>?_
 rotate_left
 ·have d:k=l.length:=by have d:¬ (k:Int)<l.length:=of_decide_eq_false d; omega
  rw [d,List.drop_length] at hs
  exact congrArg r1 hs
 have d:k<l.length:=by have d:(k:Int)<l.length:=of_decide_eq_true d; omega
 rw [Z9v d,Zr9] at hs
 rw [Int.toNat_natCast,Zs (x:=4503599627370496 - s) (by omega) (by omega),Z21 d (by omega)]
 refine ⟨⟨by omega,by omega⟩,?_⟩
 rintro _ rfl
 refine Br.intro (fun e=>?_) fun e=>?_
 ·have e:at0 l k<0:=of_decide_eq_true e
  rw [if_pos (.inl e)] at hs
  exact congrArg r1 hs
 have e:¬ at0 l k<0:=of_decide_eq_false e
 rintro _ rfl
 refine Br.intro (fun f=>?_) fun f=>?_
 ·have f:at0 l k > 4503599627370496 - s:=of_decide_eq_true f
  rw [if_pos (.inr f)] at hs
  exact congrArg r1 hs
 have f:¬ at0 l k > 4503599627370496 - s:=of_decide_eq_false f
 rw [if_neg (by omega)] at hs
 have ws:i64.wrap (s+l.getD k 0)=s+at0 l k:=Zs (by show _≤s+at0 l k; omega) (by show s+at0 l k<_; omega)
 rw [ws]
 exact ⟨rfl,⟨k+1,rfl,by omega,by omega,by omega,hs⟩,by omega⟩
def Z9a:=fun (l:List Int) (post:Bool × Unit→Prop)=>HIs [] []∧∃ (I:Int × Int × Unit→Unit→Prop),∃ (μ:Int × Int × Unit→Unit→Nat),I ((0:Int),(0
 : Int),()) ()∧∀ (x:Int × Int × Unit) (y:Unit),I x y→∀ (a:Bool),a=decide (x.snd.fst<(↑l.length:Int))→Br a (∃ (h:(0:Int)≤x.snd.fst∧x.snd.fst <
 (↑l.length:Int)),∀ (a:Bool),a=decide (l.getD x.snd.fst.toNat (0:Int)<(0:Int))→Br a (post (false,())) (∃ (h:(0:Int)≤x.snd.fst∧x.snd.fst<(↑l.length :
 Int)),∀ (a:Bool),a=decide (l.getD x.snd.fst.toNat (0:Int) > i64.wrap ((4503599627370496:Int) - x.fst))→Br a (post (false,())) (∃ (h:(0:Int) ≤
 x.snd.fst∧x.snd.fst<(↑l.length:Int)),HIs [] []∧I (i64.wrap (x.fst+l.getD x.snd.fst.toNat (0:Int)),i64.wrap (x.snd.fst+(1:Int)),()) ()∧μ
 (i64.wrap (x.fst+l.getD x.snd.fst.toNat (0:Int)),i64.wrap (x.snd.fst+(1:Int)),()) ()<μ x y))) (post (true,()))
theorem Z12x (l:List Int) (w:KS.wf [.slice (.int .i64)] (l,())):Z9a  l (fun r=>r=Zkv l):=by
 have hl:l.length≤281474976710656:=w.1.1
 refine ⟨rfl,fun x _=>∃ k:Nat,x.2.1=k∧k≤l.length∧0≤x.1∧x.1≤4503599627370496∧Z1l x.1 (l.drop k)=Z1l 0 l,fun x _=>l.length - x.2.1.toNat,⟨0,rfl,by omega,by decide,by decide,rfl⟩,?_⟩
 rintro ⟨s,_,⟨⟩⟩ _ ⟨k,rfl,hk,s0,s1,hs⟩
 dsimp only at s0 s1 hs ⊢
 rintro _ rfl
 refine Br.intro (fun d=>?_) fun d=>?_
 rotate_left
 ·have d:k=l.length:=by have d:¬ (k:Int)<l.length:=of_decide_eq_false d; omega
  rw [d,List.drop_length] at hs
  exact congrArg r1 hs
 have d:k<l.length:=by have d:(k:Int)<l.length:=of_decide_eq_true d; omega
 rw [Z9v d,Zr9] at hs
 rw [Int.toNat_natCast,Zs (x:=4503599627370496 - s) (by omega) (by omega),Z21 d (by omega)]
 refine ⟨⟨by omega,by omega⟩,?_⟩
 rintro _ rfl
 refine Br.intro (fun e=>?_) fun e=>?_
 ·have e:at0 l k<0:=of_decide_eq_true e
  rw [if_pos (.inl e)] at hs
  exact congrArg r1 hs
 have e:¬ at0 l k<0:=of_decide_eq_false e
 refine ⟨⟨by omega,by omega⟩,?_⟩
 rintro _ rfl
 refine Br.intro (fun f=>?_) fun f=>?_
 ·have f:at0 l k > 4503599627370496 - s:=of_decide_eq_true f
  rw [if_pos (.inr f)] at hs
  exact congrArg r1 hs
 have f:¬ at0 l k > 4503599627370496 - s:=of_decide_eq_false f
 rw [if_neg (by omega)] at hs
 have ws:i64.wrap (s+l.getD k 0)=s+at0 l k:=Zs (by show _≤s+at0 l k; omega) (by show s+at0 l k<_; omega)
 rw [ws]
 exact ⟨⟨by omega,by omega⟩,rfl,⟨k+1,rfl,by omega,by omega,by omega,hs⟩,by omega⟩
def Z3d:=fun (l:List Int) (post:List Int × Unit→Prop)=>∀ (a:Bool),(a=true→l.length=(0:Nat))→∀ (a_1:Bool),(a_1=if false
 = true then !a else a)→Br a_1 (post ([],())) (∃ (h:(0:Nat)=(0:Nat)∧((0:Nat)+l.length)*(8:Nat)≤(140737488355328:Nat)),((0:Nat)=(0:Nat)∧(0 :
 Nat)+l.length=([]++l).length)∧post ([]++l,()))
theorem Zf0 (l:List Int) (h:Zkw l):Z3d  l (fun r=>r=Z8q l):=by
 intro a ha a1 h1
 have h1:a1=a:=h1
 subst h1
 refine Br.intro (fun e=>?_) fun e=>?_
 ·have:=List.eq_nil_of_length_eq_zero (ha e)
  subst this; rfl
 ·have hl:l.length≤65536:=h
  exact ⟨⟨by trivial,by omega⟩,⟨by trivial,by rw [List.nil_append]; omega⟩,by rw [List.nil_append]; rfl⟩
def Zb2:=fun (ty2:Nat) (l:List Int) (post:List Int × Unit→Prop)=>∃ (h:(0:Int)≤(↑l.length:Int)∧(↑l.length:Int)≤(↑l.length:Int)∧(↑l.length :
 Int)*(↑(8:Nat):Int)≤(281474976710656:Int)),HIs [HObj.row Md.rw ty2 (K.int i64) (List.replicate l.length (0:Int))] [HObj.row Md.rw ty2 (K.int i64)
 (List.replicate l.length (0:Int))]∧∃ (I:Int × Unit→List Int × Unit→Prop),∃ (μ:Int × Unit→List Int × Unit→Nat),I ((0:Int),()) (List.replicate l.length (0 :
 Int),())∧∀ (x:Int × Unit) (y:List Int × Unit),I x y→∀ (a:Bool),a=decide (x.fst<(↑l.length:Int))→Br a (∃ (h:(0:Int)≤x.fst∧x.fst<(↑l.length:Int)),∃
 (h:(0:Int)≤x.fst∧x.fst<(↑l.length:Int)),HIs [HObj.row Md.rw ty2 (K.int i64) (y.fst.set ((0:Nat)+x.fst.toNat) (l.getD x.fst.toNat (0:Int)))] [HObj.row
 Md.rw ty2 (K.int i64) (y.fst.set ((0:Nat)+x.fst.toNat) (l.getD x.fst.toNat (0:Int)))]∧I (i64.wrap (x.fst+(1:Int)),()) (y.fst.set ((0:Nat) +
 x.fst.toNat) (l.getD x.fst.toNat (0:Int)),())∧μ (i64.wrap (x.fst+(1:Int)),()) (y.fst.set ((0:Nat)+x.fst.toNat) (l.getD x.fst.toNat (0:Int)),())<μ x y)
 (((0:Nat)=(0:Nat)∧l.length=y.fst.length)∧post (y.fst,()))
theorem Z189 (ty0:Nat) (l:List Int) (h:Zkw l):Zb2 ty0 l (fun r=>r=Z8q l):=by
 have hl:l.length≤65536:=h
 refine ⟨⟨by omega,by omega,by omega⟩,rfl,fun x y=>∃ k:Nat,x.1=k∧k≤l.length∧y.1.length=l.length∧∀ j,j<k→at0 y.1 j=at0 l j,fun x _=>l.length - x.1.toNat,⟨0,rfl,by omega,List.length_replicate,fun j h=>by omega⟩,?_⟩
 rintro ⟨_,⟨⟩⟩ ⟨y,⟨⟩⟩ ⟨k,rfl,hk,ly,hy⟩
 dsimp only at ly hy ⊢
 rintro _ rfl
 refine Br.intro (fun d=>?_) fun d=>?_
 ·have d:k<l.length:=by have d:(k:Int)<l.length:=of_decide_eq_true d; omega
  rw [Int.toNat_natCast,Nat.zero_add,Z21 d (by omega)]
  refine ⟨⟨by omega,by omega⟩,⟨by omega,by omega⟩,rfl,⟨k+1,rfl,by omega,by rw [List.length_set]; exact ly,fun j hj=>?_⟩,by omega⟩
  rw [Z9t (by omega)]
  split
  ·rename_i e; rw [e]
  ·exact hy j (by omega)
 have d:k=l.length:=by have d:¬ (k:Int)<l.length:=of_decide_eq_false d; omega
 have e:y=l:=Zo7 ly fun j hj=>hy j (by omega)
 rw [e]
 exact ⟨⟨by trivial,by trivial⟩,rfl⟩
def Zg1:=fun (g:Option (Int × List (Int × Int × Int × Int) × List Int)) (s:List Nat × List Int × List Int × List Nat × Int × Int) (post:Bool × Unit→Prop)=>∃ (h
 : Zak g),∀ (a:Bool),a=((↑s.fst.length:Int)==(Z34 g).fst)→Br a (∀ (a:Bool),a=((↑s.snd.fst.length:Int)==(Z34 g).fst)→Br a (∀ (a:Bool),a =
 ((↑s.snd.snd.fst.length:Int)==(Z34 g).fst)→Br a (∃ (h:True),∀ (a:Bool),a=((↑s.snd.snd.snd.fst.length:Int)==(Zhr g).fst)→post (a,())) (post
 (false,()))) (post (false,()))) (post (false,()))
theorem Z1fw (g:Option (Int × (List (Int × Int × Int × Int)) × List Int)) (s:(List Nat) × (List Int) × (List Int) × (List Nat) × Int × Int) (h:Z1ad g s):Zg1  g s (fun r=>r=Zht g s):=by
 refine ⟨h,?_⟩
 have hR:Zht g s=r1 (Z42 (Z34 g).1 (Zhr g).1 s):=rfl
 rw [hR]
 unfold Z42
 rintro _ rfl
 refine Br.intro (fun e=>?_) fun e=>?_
 rotate_left
 ·have e:¬ (s.1.length:Int)=(Z34 g).1:=by simpa using e
  rw [decide_eq_false e]; rfl
 have e:(s.1.length:Int)=(Z34 g).1:=by simpa using e
 rw [decide_eq_true e]
 rintro _ rfl
 refine Br.intro (fun e=>?_) fun e=>?_
 rotate_left
 ·have e:¬ (s.2.1.length:Int)=(Z34 g).1:=by simpa using e
  rw [decide_eq_false e]; rfl
 have e:(s.2.1.length:Int)=(Z34 g).1:=by simpa using e
 rw [decide_eq_true e]
 rintro _ rfl
 refine Br.intro (fun e=>?_) fun e=>?_
 rotate_left
 ·have e:¬ (s.2.2.1.length:Int)=(Z34 g).1:=by simpa using e
  rw [decide_eq_false e]; rfl
 have e:(s.2.2.1.length:Int)=(Z34 g).1:=by simpa using e
 rw [decide_eq_true e]
 refine ⟨trivial,?_⟩
 rintro _ rfl
 refine congrArg r1 ?_
 rw [Bool.eq_iff_iff]; simp
def Z7k:=fun (g:Option (Int × List (Int × Int × Int × Int) × List Int)) (c:Int) (post:Int × Unit→Prop)=>∃ (h:True),∃ (h:II (Z66 g).fst c),post
 ((Zko (Z66 g).fst c).fst,())
theorem Zwl (g:Option (Int × (List (Int × Int × Int × Int)) × List Int)) (c:Int) (h:Z1ij g c):Z7k  g c (fun r=>r=Z16c g c):=by
 obtain ⟨hg,h0,h1⟩:=h
 have cr:=Z4f (Z8z g)
 refine ⟨trivial,⟨?_,by omega,by omega⟩,rfl⟩
 rcases hg with rfl | ⟨n,gn,rfl⟩
 ·exact ⟨by decide,by decide⟩
 ·have:=Z1n.1 gn
  exact ⟨by show _≤n; omega,by show n<_; omega⟩
def Zb3:=fun (bed:List Nat) (c:Int) (post:Int × Unit→Prop)=>post ((-1:Int),())
theorem Z18a (bed:List Nat) (c:Int) (h:Zhu none bed c) (w:KS.wf [.ptr Z14,.slice (.flt .f64),.int .i64] (none,bed,c,())):Zb3  bed c (fun r=>r=Z47 none bed c):=by
 exact rfl
def Zb4:=fun (g:Int × List (Int × Int × Int × Int) × List ((Int × Int) × Int) × List (List Int) × List Int × List Nat × List Nat) (bed:List Nat) (c:Int) (post :
 Int × Unit→Prop)=>∃ (h:True),∀ (a:Bool),a=((↑bed.length:Int) != (Zi (some g)).fst)→Br a (post ((-1:Int),())) (∀ (a:Bool),a=decide (c<(0 :
 Int))→Br a (post ((-1:Int),())) (∀ (a:Bool),a=decide (c≥(↑bed.length:Int))→Br a (post ((-1:Int),())) (HIs [] []∧∃ (I:Int × Int × Unit→Unit→Prop),∃ (μ :
 Int × Int × Unit→Unit→Nat),I ((0:Int),(-1:Int),()) ()∧∀ (x:Int × Int × Unit) (y:Unit),I x y→∀ (a:Bool),a=decide (x.fst<(4:Int))→Br a (∃ (h:WNet
 (some g) c x.fst),∀ (a:Int × Int × Unit),a=Z93 (some g) c x.fst→∃ (h:Zhg (some g) a.fst),∀ (a_1:Bool),a_1=decide (x.snd.fst≥(0 :
 Int))→Br a_1 (∃ (h:(0:Int)≤i64.wrap (i64.wrap ((Z20 (some g) a.fst).fst.fst+(Z20 (some g) a.fst).fst.snd.snd.fst) - c) ∧
 i64.wrap (i64.wrap ((Z20 (some g) a.fst).fst.fst+(Z20 (some g) a.fst).fst.snd.snd.fst) - c)<(↑bed.length:Int)),∃ (h:(0:Int) ≤
 x.snd.fst∧x.snd.fst<(↑bed.length:Int)),∃ (h:W2 (bed.getD (i64.wrap (i64.wrap ((Z20 (some g) a.fst).fst.fst+(Z20 (some g)
 a.fst).fst.snd.snd.fst) - c)).toNat (0:Nat)) (bed.getD x.snd.fst.toNat (0:Nat))),∀ (a_2:Int × Unit),a_2=Z83 (bed.getD (i64.wrap (i64.wrap ((Z20
 (some g) a.fst).fst.fst+(Z20 (some g) a.fst).fst.snd.snd.fst) - c)).toNat (0:Nat)) (bed.getD x.snd.fst.toNat (0:Nat))→∀ (a_3:Bool),a_3=decide
 (a_2.fst > (0:Int))→Br a_3 (HIs [] []∧I (i64.wrap (x.fst+(1:Int)),x.snd.fst,()) ()∧μ (i64.wrap (x.fst+(1:Int)),x.snd.fst,()) ()<μ x y) (∀
 (a_4:Bool),a_4=(a_2.fst==(0:Int))→Br a_4 (∀ (a_5:Bool),a_5=decide (i64.wrap (i64.wrap ((Z20 (some g) a.fst).fst.fst+(Z20
 (some g) a.fst).fst.snd.snd.fst) - c) > x.snd.fst)→Br a_5 (HIs [] []∧I (i64.wrap (x.fst+(1:Int)),x.snd.fst,()) ()∧μ (i64.wrap (x.fst+(1 :
 Int)),x.snd.fst,()) ()<μ x y) (HIs [] []∧I (i64.wrap (x.fst+(1:Int)),i64.wrap (i64.wrap ((Z20 (some g) a.fst).fst.fst+(Z20
 (some g) a.fst).fst.snd.snd.fst) - c),()) ()∧μ (i64.wrap (x.fst+(1:Int)),i64.wrap (i64.wrap ((Z20 (some g) a.fst).fst.fst +
 (Z20 (some g) a.fst).fst.snd.snd.fst) - c),()) ()<μ x y)) (HIs [] []∧I (i64.wrap (x.fst+(1:Int)),i64.wrap (i64.wrap ((Z20
 (some g) a.fst).fst.fst+(Z20 (some g) a.fst).fst.snd.snd.fst) - c),()) ()∧μ (i64.wrap (x.fst+(1:Int)),i64.wrap (i64.wrap
 ((Z20 (some g) a.fst).fst.fst+(Z20 (some g) a.fst).fst.snd.snd.fst) - c),()) ()<μ x y))) (HIs [] []∧I (i64.wrap (x.fst+(1:Int)),
 i64.wrap (i64.wrap ((Z20 (some g) a.fst).fst.fst+(Z20 (some g) a.fst).fst.snd.snd.fst) - c),()) ()∧μ (i64.wrap (x.fst+(1 :
 Int)),i64.wrap (i64.wrap ((Z20 (some g) a.fst).fst.fst+(Z20 (some g) a.fst).fst.snd.snd.fst) - c),()) ()<μ x y)) (∃ (h:(0:Int) ≤
 x.snd.fst∧x.snd.fst<(↑bed.length:Int)),∃ (h:(0:Int)≤c∧c<(↑bed.length:Int)),∃ (h:W2 (bed.getD x.snd.fst.toNat (0:Nat)) (bed.getD c.toNat (0:Nat))),∀ (a :
 Int × Unit),a=Z83 (bed.getD x.snd.fst.toNat (0:Nat)) (bed.getD c.toNat (0:Nat))→∀ (a_1:Bool),a_1=decide (a.fst≥(0:Int))→Br a_1 (post ((-1:Int),()))
 (post (x.snd.fst,()))))))
theorem Z18b (g:Int × (List (Int × Int × Int × Int)) × (List ((Int × Int) × Int)) × (List (List Int)) × (List Int) × (List Nat) × List Nat) (bed:List Nat) (c:Int) (h:Zhu (some g) bed c) (w:KS.wf [.ptr Z14,.slice (.flt .f64),.int .i64] ((some g),bed,c,())):Zb4  g bed c (fun r=>r=Z47 (some g) bed c):=by
 obtain ⟨hg,hw⟩:=h
 obtain ⟨n,gn,rfl⟩:=Z1e3 hg
 have hC:(Zi (some (netG n))).1=Zb n:=Z5n n
 have hR:Z47 (some (netG n)) bed c=r1 (Z1z true (Zb n) n bed c):=by unfold Z47; rw [Z5n]; rfl
 have cr:=Z4f n
 refine ⟨trivial,?_⟩
 rw [hC,hR]
 rintro _ rfl
 refine Br.intro (fun e=>congrArg r1 (Z9x (.inl (bne_iff_ne.1 e))).symm) fun e=>?_
 have e1:(bed.length:Int)=Zb n:=by simpa using e
 rintro _ rfl
 refine Br.intro (fun e=>congrArg r1 (Z9x (.inr (.inl (of_decide_eq_true e)))).symm) fun e=>?_
 have e2:=of_decide_eq_false e
 rintro _ rfl
 refine Br.intro (fun e=>congrArg r1 (Z9x (.inr (.inr (of_decide_eq_true e)))).symm) fun e=>?_
 have e3:=of_decide_eq_false e
 rw [Zra e1 (by omega) (by omega)]
 have hp:Zl n c=true:=by
  obtain ⟨k,rfl⟩:∃ k:Nat,c=k:=⟨c.toNat,by omega⟩
  exact Zer (by omega)
 refine ⟨rfl,fun x _=>∃ k:Nat,x.1=k∧k≤4∧x.2.1=Z10 n bed c k,fun x _=>4 - x.1.toNat,⟨0,rfl,by omega,rfl⟩,?_⟩
 rintro ⟨_,_,⟨⟩⟩ _ ⟨k,rfl,hk,rfl⟩
 dsimp only
 have wg:∀ i:Int,0≤i→i<(bed.length:Int)→W64 (bed.getD i.toNat 0):=fun i h1 h2=>hw _ (Z39 (by omega) 0)
 rintro _ rfl
 refine Br.intro (fun d=>?_) fun d=>?_
 rotate_left
 ·have d:k=4:=by have d:¬ (k:Int)<4:=of_decide_eq_false d; omega
  subst d
  obtain ⟨b1,b2⟩:=Z1ni (bed:=bed) hp
  refine ⟨⟨by omega,by omega⟩,⟨by omega,by omega⟩,⟨wg _ (by omega) (by omega),wg _ (by omega) (by omega)⟩,?_⟩
  rintro _ rfl
  rintro _ rfl
  refine Br.intro (fun q=>?_) fun q=>?_
  ·have q:¬ Z12 bed (Z10 n bed c 4)<Z12 bed c:=fun w=>absurd (of_decide_eq_true q) (by
    have:(Z83 (bed.getD (Z10 n bed c 4).toNat 0) (bed.getD c.toNat 0)).fst<0:=Z1ag.2 w
    omega)
   show ((-1:Int),())=(Z4t n bed c,())
   unfold Z4t
   rw [if_neg q]
  ·have q:Z12 bed (Z10 n bed c 4)<Z12 bed c:=Z1ag.1 (by
    have:¬ (Z83 (bed.getD (Z10 n bed c 4).toNat 0) (bed.getD c.toNat 0)).fst≥0:=of_decide_eq_false q
    show (Z83 (bed.getD (Z10 n bed c 4).toNat 0) (bed.getD c.toNat 0)).fst<0
    omega)
   show (Z10 n bed c 4,())=(Z4t n bed c,())
   unfold Z4t
   rw [if_pos q]
 have d:k<4:=by have d:(k:Int)<4:=of_decide_eq_true d; omega
 obtain ⟨f1,f2,f3,f4⟩:=Zdz (bed:=bed) hp k hk
 obtain ⟨t1,t2⟩:=Z7e hp d
 have hs:Z10 n bed c (k+1)=Zkx bed (Z10 n bed c k) (Z7 n c k).1:=rfl
 have wk:i64.wrap ((k:Int)+1)=((k+1:Nat):Int):=Z21 d (by omega)
 have ok:Zr n c (k:Int)=true:=Z15.2 ⟨hp,by omega,by omega⟩
 obtain ⟨q,hq,ha,ht⟩:=Z1tz ok
 have hE:=(Z1a9 n (Zb n).toNat (by omega)).2
 have hE:(netE n).1.length≤4*(Zb n).toNat:=hE
 have et:i64.wrap (i64.wrap ((Z8y (some (netG n)) q).1+(Z8y (some (netG n)) q).2.2.1) - c)=(Z7 n c k).1:=by
  rw [ht,Zs (x:=c+(Z7 n c k).1) (by omega) (by omega),Zs (by omega) (by omega)]; omega
 refine ⟨⟨hg,⟨by omega,by omega⟩,by omega,by omega⟩,?_⟩
 rintro _ rfl
 have hA:(Z93 (some (netG n)) c k).fst=q:=ha
 have hEd:(Z20 (some (netG n)) q).fst=Z8y (some (netG n)) q:=rfl
 rw [hA,hEd,et,wk]
 refine ⟨⟨hg,by omega,by omega⟩,?_⟩
 have nskip:Z10 n bed c (k+1)=Z10 n bed c k→HIs [] []∧(∃ j:Nat,((k+1:Nat):Int)=j∧j≤4∧Z10 n bed c k=Z10 n bed c j)∧4 - (((k+1:Nat):Int)).toNat<4 - ((k:Nat):Int).toNat:=fun h=>⟨rfl,⟨k+1,rfl,by omega,h.symm⟩,by omega⟩
 have ntake:Z10 n bed c (k+1)=(Z7 n c k).1→HIs [] []∧(∃ j:Nat,((k+1:Nat):Int)=j∧j≤4∧(Z7 n c k).1=Z10 n bed c j)∧4 - (((k+1:Nat):Int)).toNat<4 - ((k:Nat):Int).toNat:=fun h=>⟨rfl,⟨k+1,rfl,by omega,h.symm⟩,by omega⟩
 rintro _ rfl
 refine Br.intro (fun f=>?_) fun f=>ntake (by rw [hs]; exact Z5q (.inl (by have:=of_decide_eq_false f; omega)))
 have f:=of_decide_eq_true f
 refine ⟨⟨t1,by omega⟩,⟨by omega,by omega⟩,⟨wg _ t1 (by omega),wg _ (by omega) (by omega)⟩,?_⟩
 rintro _ rfl
 have hcm:(Z83 (bed.getD (Z7 n c k).1.toNat 0) (bed.getD (Z10 n bed c k).toNat 0)).fst=cmpI (Z12 bed (Z7 n c k).1) (Z12 bed (Z10 n bed c k)):=rfl
 rw [hcm]
 rintro _ rfl
 refine Br.intro (fun g1=>nskip (by rw [hs]; exact Zao (by omega) (.inl (Z1lq.1 (of_decide_eq_true g1))))) fun g1=>?_
 have g1:¬ Z12 bed (Z7 n c k).1 > Z12 bed (Z10 n bed c k):=fun w=>of_decide_eq_false g1 (Z1lq.2 w)
 rintro _ rfl
 refine Br.intro (fun g2=>?_) fun g2=>ntake (by
  rw [hs]
  have g2:¬ cmpI (Z12 bed (Z7 n c k).1) (Z12 bed (Z10 n bed c k))=0:=by simpa using g2
  rw [Z1lr] at g2
  exact Z5q (.inr (.inl (by omega))))
 have g2:Z12 bed (Z7 n c k).1=Z12 bed (Z10 n bed c k):=Z1lr.1 (by simpa using g2)
 rintro _ rfl
 exact Br.intro (fun g3=>nskip (by rw [hs]; exact Zao (by omega) (.inr ⟨g2,by have:=of_decide_eq_true g3; omega⟩))) fun g3=>ntake (by rw [hs]; exact Z5q (.inr (.inr ⟨g2,by have:=of_decide_eq_false g3; omega⟩)))
def Zb5:=fun (bed:List Nat) (c:Int) (post:Int × Unit→Prop)=>post ((-1:Int),())
theorem Z18c (bed:List Nat) (c:Int) (h:Zr7 none bed c) (w:KS.wf [.ptr Z1g,.slice (.flt .f64),.int .i64] (none,bed,c,())):Zb5  bed c (fun r=>r=Zcc none bed c):=by
 exact rfl
def Zb6:=fun (g:Int × List (Int × Int × Int × Int) × List Int) (bed:List Nat) (c:Int) (post:Int × Unit→Prop)=>∃ (h:Zak (some g)),∀ (a:Bool),
 a=((↑bed.length:Int) != (Z34 (some g)).fst)→Br a (post ((-1:Int),())) (∀ (a:Bool),a=decide (c<(0:Int))→Br a (post ((-1:Int),())) (∀ (a:Bool),a
 = decide (c≥(↑bed.length:Int))→Br a (post ((-1:Int),())) (HIs [] []∧∃ (I:Int × Int × Unit→Unit→Prop),∃ (μ:Int × Int × Unit→Unit→Nat),I ((0:Int),(-1 :
 Int),()) ()∧∀ (x:Int × Int × Unit) (y:Unit),I x y→∀ (a:Bool),a=decide (x.fst<(4:Int))→Br a (∃ (h:True),∃ (h:III (Z66 (some g)).fst c x.fst),∀
 (a:Int × Int × Unit),a=Z1x (Z66 (some g)).fst c x.fst→∀ (a_1:Bool),a_1=decide (x.snd.fst<(0:Int))→Br a_1 (HIs [] []∧I (i64.wrap (x.fst +
 (1:Int)),a.fst,()) ()∧μ (i64.wrap (x.fst+(1:Int)),a.fst,()) ()<μ x y) (∃ (h:(0:Int)≤a.fst∧a.fst<(↑bed.length:Int)),∃ (h:(0:Int)≤x.snd.fst
 ∧ x.snd.fst<(↑bed.length:Int)),∃ (h:W2 (bed.getD a.fst.toNat (0:Nat)) (bed.getD x.snd.fst.toNat (0:Nat))),∀ (a_2:Bool × Unit),a_2=Zii (bed.getD a.fst.toNat (0
 : Nat)) (bed.getD x.snd.fst.toNat (0:Nat))→∀ (a_3:Bool),a_3=a_2.fst→Br a_3 (HIs [] []∧I (i64.wrap (x.fst+(1:Int)),a.fst,()) ()∧μ (i64.wrap
 (x.fst+(1:Int)),a.fst,()) ()<μ x y) (∃ (h:(0:Int)≤x.snd.fst∧x.snd.fst<(↑bed.length:Int)),∃ (h:(0:Int)≤a.fst∧a.fst<(↑bed.length:Int)),∃ (h:W2
 (bed.getD x.snd.fst.toNat (0:Nat)) (bed.getD a.fst.toNat (0:Nat))),∀ (a_4:Bool × Unit),a_4=Zii (bed.getD x.snd.fst.toNat (0:Nat)) (bed.getD a.fst.toNat (0:Nat)) →
 ∀ (a_5:Bool),a_5=a_4.fst→Br (!a_5) (∀ (a_6:Bool),a_6=decide (a.fst<x.snd.fst)→Br a_6 (HIs [] []∧I (i64.wrap (x.fst+(1:Int)),a.fst,()) ()∧μ
 (i64.wrap (x.fst+(1:Int)),a.fst,()) ()<μ x y) (HIs [] []∧I (i64.wrap (x.fst+(1:Int)),x.snd.fst,()) ()∧μ (i64.wrap (x.fst+(1:Int)),
 x.snd.fst,()) ()<μ x y)) (HIs [] []∧I (i64.wrap (x.fst+(1:Int)),x.snd.fst,()) ()∧μ (i64.wrap (x.fst+(1:Int)),x.snd.fst,()) ()<μ x y)))) (∀ (a
 : Bool),a=decide (x.snd.fst≥(0:Int))→Br a (∃ (h:(0:Int)≤x.snd.fst∧x.snd.fst<(↑bed.length:Int)),∃ (h:(0:Int)≤c∧c<(↑bed.length:Int)),∃ (h:W2
 (bed.getD x.snd.fst.toNat (0:Nat)) (bed.getD c.toNat (0:Nat))),∀ (a:Bool × Unit),a=Zii (bed.getD x.snd.fst.toNat (0:Nat)) (bed.getD c.toNat (0:Nat))→∀ (a_1 :
 Bool),a_1=a.fst→Br a_1 (post (x.snd.fst,())) (post ((-1:Int),()))) (post ((-1:Int),()))))))
theorem Z18d (g:Int × (List (Int × Int × Int × Int)) × List Int) (bed:List Nat) (c:Int) (h:Zr7 (some g) bed c) (w:KS.wf [.ptr Z1g,.slice (.flt .f64),.int .i64] ((some g),bed,c,())):Zb6  g bed c (fun r=>r=Zcc (some g) bed c):=by
 obtain ⟨hg,hw⟩:=h
 obtain ⟨n,gn,rfl⟩:=Z16a hg
 have hC:(Z34 (some (Z2n n))).1=Zb n:=rfl
 have hR:Zcc (some (Z2n n)) bed c=r1 (Z1z true (Zb n) n bed c):=rfl
 have cr:=Z4f n
 refine ⟨hg,?_⟩
 have hS:(Z66 (some (Z2n n))).1=n:=rfl
 rw [hC,hR,hS]
 rintro _ rfl
 refine Br.intro (fun e=>congrArg r1 (Z9x (.inl (bne_iff_ne.1 e))).symm) fun e=>?_
 have e1:(bed.length:Int)=Zb n:=by simpa using e
 rintro _ rfl
 refine Br.intro (fun e=>congrArg r1 (Z9x (.inr (.inl (of_decide_eq_true e)))).symm) fun e=>?_
 have e2:=of_decide_eq_false e
 rintro _ rfl
 refine Br.intro (fun e=>congrArg r1 (Z9x (.inr (.inr (of_decide_eq_true e)))).symm) fun e=>?_
 have e3:=of_decide_eq_false e
 rw [Zra e1 (by omega) (by omega)]
 have hp:Zl n c=true:=by
  obtain ⟨k,rfl⟩:∃ k:Nat,c=k:=⟨c.toNat,by omega⟩
  exact Zer (by omega)
 refine ⟨rfl,fun x _=>∃ k:Nat,x.1=k∧k≤4∧x.2.1=Z10 n bed c k,fun x _=>4 - x.1.toNat,⟨0,rfl,by omega,rfl⟩,?_⟩
 rintro ⟨_,_,⟨⟩⟩ _ ⟨k,rfl,hk,rfl⟩
 dsimp only
 have wg:∀ i:Int,0≤i→i<(bed.length:Int)→W64 (bed.getD i.toNat 0):=fun i h1 h2=>hw _ (Z39 (by omega) 0)
 rintro _ rfl
 refine Br.intro (fun d=>?_) fun d=>?_
 rotate_left
 ·have d:k=4:=by have d:¬ (k:Int)<4:=of_decide_eq_false d; omega
  subst d
  obtain ⟨b1,b2⟩:=Z1ni (bed:=bed) hp
  rintro _ rfl
  refine Br.intro (fun _=>?_) fun q=>by
   have:=of_decide_eq_false q
   omega
  refine ⟨⟨by omega,by omega⟩,⟨by omega,by omega⟩,⟨wg _ (by omega) (by omega),wg _ (by omega) (by omega)⟩,?_⟩
  rintro _ rfl
  rintro _ rfl
  refine Br.intro (fun q=>?_) fun q=>?_
  ·have q:=(Z9w bed _ _).1 q
   show (Z10 n bed c 4,())=(Z4t n bed c,())
   unfold Z4t
   rw [if_pos q]
  ·have q:¬ Z12 bed (Z10 n bed c 4)<Z12 bed c:=fun w=>by
    have q:Z41 (bed.getD (Z10 n bed c 4).toNat 0) (bed.getD c.toNat 0)=false:=q
    rw [(Z9w bed _ _).2 w] at q; cases q
   show ((-1:Int),())=(Z4t n bed c,())
   unfold Z4t
   rw [if_neg q]
 have d:k<4:=by have d:(k:Int)<4:=of_decide_eq_true d; omega
 obtain ⟨f1,f2,f3,f4⟩:=Zdz (bed:=bed) hp k hk
 obtain ⟨t1,t2⟩:=Z7e hp d
 have hs:Z10 n bed c (k+1)=Zkx bed (Z10 n bed c k) (Z7 n c k).1:=rfl
 have wk:i64.wrap ((k:Int)+1)=((k+1:Nat):Int):=Z21 d (by omega)
 have gr:=Z1n.1 gn
 refine ⟨trivial,⟨⟨by omega,by omega⟩,⟨by omega,by omega⟩,by omega,by omega⟩,?_⟩
 rintro _ rfl
 have hB:(Z1x n c k).fst=(Z7 n c k).1:=rfl
 rw [hB,wk]
 have nskip:Z10 n bed c (k+1)=Z10 n bed c k→HIs [] []∧(∃ j:Nat,((k+1:Nat):Int)=j∧j≤4∧Z10 n bed c k=Z10 n bed c j)∧4 - (((k+1:Nat):Int)).toNat<4 - ((k:Nat):Int).toNat:=fun h=>⟨rfl,⟨k+1,rfl,by omega,h.symm⟩,by omega⟩
 have ntake:Z10 n bed c (k+1)=(Z7 n c k).1→HIs [] []∧(∃ j:Nat,((k+1:Nat):Int)=j∧j≤4∧(Z7 n c k).1=Z10 n bed c j)∧4 - (((k+1:Nat):Int)).toNat<4 - ((k:Nat):Int).toNat:=fun h=>⟨rfl,⟨k+1,rfl,by omega,h.symm⟩,by omega⟩
 rintro _ rfl
 refine Br.intro (fun f=>ntake (by rw [hs]; exact Z5q (.inl (of_decide_eq_true f)))) fun f=>?_
 have f:=of_decide_eq_false f
 refine ⟨⟨t1,by omega⟩,⟨by omega,by omega⟩,⟨wg _ t1 (by omega),wg _ (by omega) (by omega)⟩,?_⟩
 rintro _ rfl
 rintro _ rfl
 refine Br.intro (fun g1=>ntake (by rw [hs]; exact Z5q (.inr (.inl ((Z9w bed _ _).1 g1))))) fun g1=>?_
 have g1:¬ Z12 bed (Z7 n c k).1<Z12 bed (Z10 n bed c k):=fun w=>by
  have g1:Z41 (bed.getD (Z7 n c k).1.toNat 0) (bed.getD (Z10 n bed c k).toNat 0)=false:=g1
  rw [(Z9w bed _ _).2 w] at g1; cases g1
 refine ⟨⟨by omega,by omega⟩,⟨t1,by omega⟩,⟨wg _ (by omega) (by omega),wg _ t1 (by omega)⟩,?_⟩
 rintro _ rfl
 rintro _ rfl
 refine Br.intro (fun g2=>?_) fun g2=>nskip (by
  rw [hs]
  have g2:Z41 (bed.getD (Z10 n bed c k).toNat 0) (bed.getD (Z7 n c k).1.toNat 0)=true:=by
   have g2:(!Z41 (bed.getD (Z10 n bed c k).toNat 0) (bed.getD (Z7 n c k).1.toNat 0))=false:=g2
   simpa using g2
  exact Zao (by omega) (.inl ((Z9w bed _ _).1 g2)))
 have g2:¬ Z12 bed (Z10 n bed c k)<Z12 bed (Z7 n c k).1:=fun w=>by
  have g2:(!Z41 (bed.getD (Z10 n bed c k).toNat 0) (bed.getD (Z7 n c k).1.toNat 0))=true:=g2
  rw [(Z9w bed _ _).2 w] at g2; cases g2
 rintro _ rfl
 exact Br.intro (fun g3=>ntake (by rw [hs]; exact Z5q (.inr (.inr ⟨by omega,by have:=of_decide_eq_true g3; omega⟩)))) fun g3=>nskip (by rw [hs]; exact Zao (by omega) (.inr ⟨by omega,by have:=of_decide_eq_false g3; omega⟩))
def Zg2:=fun (a b:List Int) (post:Bool × Unit→Prop)=>∀ (a_1:Bool),a_1=((↑a.length:Int) != (↑b.length:Int))→Br a_1 (post (false,())) (HIs [] [] ∧
 ∃ (I:Int × Unit→Unit→Prop),∃ (μ:Int × Unit→Unit→Nat),I ((0:Int),()) ()∧∀ (x:Int × Unit) (y:Unit),I x y→∀ (a_2:Bool),a_2=decide (x.fst<(↑a.length :
 Int))→Br a_2 (∃ (h:(0:Int)≤x.fst∧x.fst<(↑a.length:Int)),∃ (h:(0:Int)≤x.fst∧x.fst<(↑b.length:Int)),∀ (a_3:Bool),a_3=(a.getD x.fst.toNat (0:Int)
 != b.getD x.fst.toNat (0:Int))→Br a_3 (post (false,())) (HIs [] []∧I (i64.wrap (x.fst+(1:Int)),()) ()∧μ (i64.wrap (x.fst+(1:Int)),()) () <
 μ x y)) (post (true,())))
theorem Z1fx (a:List Int) (b:List Int) (w:KS.wf [.slice (.int .i64),.slice (.int .i64)] (a,b,())):Zg2  a b (fun r=>r=Zks a b):=by
 have ha:a.length≤maxN:=w.1.1
 have hm:maxN≤9223372036854775807:=by decide
 rintro _ rfl
 refine Br.intro (fun e=>congrArg r1 ?_) fun e=>?_
 ·have e:¬ a.length=b.length:=fun q=>by rw [q] at e; simp at e
  exact (beq_eq_false_iff_ne.2 fun q=>e (congrArg List.length q)).symm
 have e:a.length=b.length:=by
  have:((a.length:Int)==(b.length:Int))=true:=by
   have e:(!((a.length:Int)==(b.length:Int)))=false:=e
   simpa using e
  have:=beq_iff_eq.1 this
  omega
 refine ⟨rfl,fun x _=>∃ k:Nat,x.1=k∧k≤a.length∧a.take k=b.take k,fun x _=>a.length - x.1.toNat,⟨0,rfl,by omega,rfl⟩,?_⟩
 rintro ⟨_,⟨⟩⟩ _ ⟨k,rfl,hk,hq⟩
 dsimp only
 rintro _ rfl
 refine Br.intro (fun e1=>?_) fun e1=>?_
 ·have e1:k<a.length:=by have:=of_decide_eq_true e1; omega
  rw [Int.toNat_natCast,Z21 e1 (by omega)]
  have ta:=Zeo e1 0
  have tb:=Zeo (l:=b) (i:=k) (by omega) 0
  refine ⟨⟨by omega,by omega⟩,⟨by omega,by omega⟩,?_⟩
  rintro _ rfl
  refine Br.intro (fun e2=>congrArg r1 ?_) fun e2=>?_
  ·have e2:¬ a.getD k 0=b.getD k 0:=bne_iff_ne.1 e2
   refine (beq_eq_false_iff_ne.2 fun q=>e2 ?_).symm
   rw [q]
  ·have e2:a.getD k 0=b.getD k 0:=by
    have e2:(!(a.getD k 0==b.getD k 0))=false:=e2
    simpa using e2
   exact ⟨rfl,⟨k+1,rfl,by omega,by rw [ta,tb,hq,e2]⟩,by omega⟩
 ·have e1:k=a.length:=by have:=of_decide_eq_false e1; omega
  subst e1
  refine congrArg r1 (beq_iff_eq.2 ?_).symm
  rw [List.take_length] at hq
  rw [hq,e,List.take_length]
def Z9b:=fun (a b:List Int) (post:Bool × Unit→Prop)=>∀ (a_1:Bool),a_1=((↑a.length:Int) != (↑b.length:Int))→Br a_1 (post (false,())) (HIs []
 []∧∃ (I:Int × Unit→Unit→Prop),∃ (μ:Int × Unit→Unit→Nat),I ((0:Int),()) ()∧∀ (x:Int × Unit) (y:Unit),I x y→∀ (a_2:Bool),a_2=decide (x.fst <
 (↑a.length:Int))→Br a_2 (∃ (h:(0:Int)≤x.fst∧x.fst<(↑a.length:Int)),∃ (h:(0:Int)≤x.fst∧x.fst<(↑b.length:Int)),∀ (a_3:Bool),a_3=(a.getD
 x.fst.toNat (0:Int) != b.getD x.fst.toNat (0:Int))→Br a_3 (post (false,())) (HIs [] []∧I (i64.wrap (x.fst+(1:Int)),()) ()∧μ (i64.wrap (x.fst +
 (1:Int)),()) ()<μ x y)) (post (true,())))
theorem Z12y (a:List Int) (b:List Int) (w:KS.wf [.slice (.int .i64),.slice (.int .i64)] (a,b,())):Z9b  a b (fun r=>r=Zks a b):=by
 have ha:a.length≤maxN:=w.1.1
 have hm:maxN≤9223372036854775807:=by decide
 rintro _ rfl
 refine Br.intro (fun e=>congrArg r1 ?_) fun e=>?_
 ·have e:¬ a.length=b.length:=fun q=>by rw [q] at e; simp at e
  exact (beq_eq_false_iff_ne.2 fun q=>e (congrArg List.length q)).symm
 have e:a.length=b.length:=by
  have:((a.length:Int)==(b.length:Int))=true:=by
   have e:(!((a.length:Int)==(b.length:Int)))=false:=e
   simpa using e
  have:=beq_iff_eq.1 this
  omega
 refine ⟨rfl,fun x _=>∃ k:Nat,x.1=k∧k≤a.length∧a.take k=b.take k,fun x _=>a.length - x.1.toNat,⟨0,rfl,by omega,rfl⟩,?_⟩
 rintro ⟨_,⟨⟩⟩ _ ⟨k,rfl,hk,hq⟩
 dsimp only
 rintro _ rfl
 refine Br.intro (fun e1=>?_) fun e1=>?_
 ·have e1:k<a.length:=by have:=of_decide_eq_true e1; omega
  rw [Int.toNat_natCast,Z21 e1 (by omega)]
  have ta:=Zeo e1 0
  have tb:=Zeo (l:=b) (i:=k) (by omega) 0
  refine ⟨⟨by omega,by omega⟩,⟨by omega,by omega⟩,?_⟩
  rintro _ rfl
  refine Br.intro (fun e2=>congrArg r1 ?_) fun e2=>?_
  ·have e2:¬ a.getD k 0=b.getD k 0:=bne_iff_ne.1 e2
   refine (beq_eq_false_iff_ne.2 fun q=>e2 ?_).symm
   rw [q]
  ·have e2:a.getD k 0=b.getD k 0:=by
    have e2:(!(a.getD k 0==b.getD k 0))=false:=e2
    simpa using e2
   exact ⟨rfl,⟨k+1,rfl,by omega,by rw [ta,tb,hq,e2]⟩,by omega⟩
 ·have e1:k=a.length:=by have:=of_decide_eq_false e1; omega
  subst e1
  refine congrArg r1 (beq_iff_eq.2 ?_).symm
  rw [List.take_length] at hq
  rw [hq,e,List.take_length]
end Go.Lift

namespace Go.Lift
def Zb7:=fun (ty3 ty95:Nat) (n:Int) (post:Option (Int × List (Int × Int × Int × Int) × List Int) × Int × Unit→Prop)=>∃ (h:I64 n),∀ (a:Bool),a=((Z19
 n).fst==(0:Int))→Br a (post (none,(10:Int),())) (∃ (h:(0:Int)≤i64.wrap ((4:Int)*(Z19 n).fst)∧i64.wrap ((4:Int)*(Z19 n).fst)
 ≤ i64.wrap ((4:Int)*(Z19 n).fst)∧i64.wrap ((4:Int)*(Z19 n).fst)*(↑(8:Nat):Int)≤(281474976710656:Int)),HIs [HObj.row Md.rw ty3 (K.int
 i64) (List.replicate (i64.wrap ((4:Int)*(Z19 n).fst)).toNat (0:Int)),HObj.box Md.rw ty95 [SV.val (Go.Value.int i64 n),SV.junk,SV.osl (0:Nat)
 (0:Nat) (i64.wrap ((4:Int)*(Z19 n).fst)).toNat]] [HObj.row Md.rw ty3 (K.int i64) (List.replicate (i64.wrap ((4:Int)*(Z19 n).fst)).toNat (0
 : Int)),HObj.box Md.rw ty95 [SV.val (Go.Value.int i64 n),SV.junk,SV.osl (0:Nat) (0:Nat) (i64.wrap ((4:Int)*(Z19 n).fst)).toNat]]∧∃ (I:Int × List
 (Int × Int × Int × Int) × Unit→List Int × Unit→Prop),∃ (μ:Int × List (Int × Int × Int × Int) × Unit→List Int × Unit→Nat),I ((0:Int),[],()) (List.replicate
 (i64.wrap ((4:Int)*(Z19 n).fst)).toNat (0:Int),())∧∀ (x:Int × List (Int × Int × Int × Int) × Unit) (y:List Int × Unit),I x y→∀ (a:Bool),a=decide
 (x.fst<(Z19 n).fst)→Br a (((0:Nat)=(0:Nat)∧x.snd.fst.length=x.snd.fst.length)∧HIs [HObj.row Md.rw ty3 (K.int i64) y.fst,HObj.box Md.rw ty95 [SV.val
 (Go.Value.int i64 n),SV.junk,SV.osl (0:Nat) (0:Nat) (i64.wrap ((4:Int)*(Z19 n).fst)).toNat],HObj.dead] [HObj.row Md.rw ty3 (K.int i64) y.fst,
 HObj.box Md.rw ty95 [SV.val (Go.Value.int i64 n),SV.junk,SV.osl (0:Nat) (0:Nat) (i64.wrap ((4:Int)*(Z19 n).fst)).toNat],HObj.dead]∧∃ (I_1:Int ×
 List (Int × Int × Int × Int) × Unit→List Int × Unit→Prop),∃ (μ_1:Int × List (Int × Int × Int × Int) × Unit→List Int × Unit→Nat),I_1 ((0:Int),x.snd.fst,()) (y.fst,
 ())∧∀ (x_3:Int × List (Int × Int × Int × Int) × Unit) (y_1:List Int × Unit),I_1 x_3 y_1→∀ (a:Bool),a=decide (x_3.fst<(4:Int))→Br a (∃ (h:III n x.fst
 x_3.fst),∀ (a:Int × Int × Unit),a=Z1x n x.fst x_3.fst→∀ (a_1:Bool),a_1=decide (a.fst > x.fst)→Br a_1 (∃ (h:(0:Int)≤i64.wrap (i64.wrap ((4
 : Int)*x.fst)+x_3.fst)∧i64.wrap (i64.wrap ((4:Int)*x.fst)+x_3.fst)<(↑(i64.wrap ((4:Int)*(Z19 n).fst)).toNat:Int)),∃ (h:(0:Int)
 ≤ i64.wrap (i64.wrap ((4:Int)*a.fst)+a.snd.fst)∧i64.wrap (i64.wrap ((4:Int)*a.fst)+a.snd.fst)<(↑(i64.wrap ((4:Int) *
 (Z19 n).fst)).toNat:Int)),∃ (h:x_3.snd.fst.length=x_3.snd.fst.length∧(x_3.snd.fst.length+(1:Nat))*(32:Nat)≤(140737488355328:Nat)),((0:Nat)=(0:Nat) ∧
 x_3.snd.fst.length+(1:Nat)=(x_3.snd.fst++[(x.fst,x_3.fst,a.fst,a.snd.fst)]).length)∧HIs [HObj.row Md.rw ty3 (K.int i64) ((y_1.fst.set ((0:Nat) +
 (i64.wrap (i64.wrap ((4:Int)*x.fst)+x_3.fst)).toNat) (↑x_3.snd.fst.length:Int)).set ((0:Nat)+(i64.wrap (i64.wrap ((4:Int)*a.fst) +
 a.snd.fst)).toNat) (↑x_3.snd.fst.length:Int)),HObj.box Md.rw ty95 [SV.val (Go.Value.int i64 n),SV.junk,SV.osl (0:Nat) (0:Nat) (i64.wrap ((4:Int) *
 (Z19 n).fst)).toNat],HObj.dead] [HObj.row Md.rw ty3 (K.int i64) ((y_1.fst.set ((0:Nat)+(i64.wrap (i64.wrap ((4:Int)*x.fst)+x_3.fst)).toNat)
 (↑x_3.snd.fst.length:Int)).set ((0:Nat)+(i64.wrap (i64.wrap ((4:Int)*a.fst)+a.snd.fst)).toNat) (↑x_3.snd.fst.length:Int)),HObj.box Md.rw ty95
 [SV.val (Go.Value.int i64 n),SV.junk,SV.osl (0:Nat) (0:Nat) (i64.wrap ((4:Int)*(Z19 n).fst)).toNat],HObj.dead]∧I_1 (i64.wrap (x_3.fst+(1
 : Int)),x_3.snd.fst++[(x.fst,x_3.fst,a.fst,a.snd.fst)],()) ((y_1.fst.set ((0:Nat)+(i64.wrap (i64.wrap ((4:Int)*x.fst)+x_3.fst)).toNat)
 (↑x_3.snd.fst.length:Int)).set ((0:Nat)+(i64.wrap (i64.wrap ((4:Int)*a.fst)+a.snd.fst)).toNat) (↑x_3.snd.fst.length:Int),())∧μ_1 (i64.wrap
 (x_3.fst+(1:Int)),x_3.snd.fst++[(x.fst,x_3.fst,a.fst,a.snd.fst)],()) ((y_1.fst.set ((0:Nat)+(i64.wrap (i64.wrap ((4:Int)*x.fst) +
 x_3.fst)).toNat) (↑x_3.snd.fst.length:Int)).set ((0:Nat)+(i64.wrap (i64.wrap ((4:Int)*a.fst)+a.snd.fst)).toNat) (↑x_3.snd.fst.length:Int),())<μ_1
 x_3 y_1) (((0:Nat)=(0:Nat)∧x_3.snd.fst.length=x_3.snd.fst.length)∧HIs [HObj.row Md.rw ty3 (K.int i64) y_1.fst,HObj.box Md.rw ty95 [SV.val (Go.Value.int
 i64 n),SV.junk,SV.osl (0:Nat) (0:Nat) (i64.wrap ((4:Int)*(Z19 n).fst)).toNat],HObj.dead] [HObj.row Md.rw ty3 (K.int i64) y_1.fst,HObj.box
 Md.rw ty95 [SV.val (Go.Value.int i64 n),SV.junk,SV.osl (0:Nat) (0:Nat) (i64.wrap ((4:Int)*(Z19 n).fst)).toNat],HObj.dead]∧I_1 (i64.wrap
 (x_3.fst+(1:Int)),x_3.snd.fst,()) (y_1.fst,())∧μ_1 (i64.wrap (x_3.fst+(1:Int)),x_3.snd.fst,()) (y_1.fst,())<μ_1 x_3 y_1)) (((0:Nat)=(0:Nat) ∧
 x_3.snd.fst.length=x_3.snd.fst.length)∧HIs [HObj.row Md.rw ty3 (K.int i64) y_1.fst,HObj.box Md.rw ty95 [SV.val (Go.Value.int i64 n),SV.junk,SV.osl (0:Nat)
 (0:Nat) (i64.wrap ((4:Int)*(Z19 n).fst)).toNat]] [HObj.row Md.rw ty3 (K.int i64) y_1.fst,HObj.box Md.rw ty95 [SV.val (Go.Value.int i64 n),
 SV.junk,SV.osl (0:Nat) (0:Nat) (i64.wrap ((4:Int)*(Z19 n).fst)).toNat]]∧I (i64.wrap (x.fst+(1:Int)),x_3.snd.fst,()) (y_1.fst,())∧μ
 (i64.wrap (x.fst+(1:Int)),x_3.snd.fst,()) (y_1.fst,())<μ x y)) (post (some (n,List.take x.snd.fst.length (List.drop (0:Nat) x.snd.fst),List.take
 (i64.wrap ((4:Int)*(Z19 n).fst)).toNat (List.drop (0:Nat) y.fst)),(0:Int),())))
theorem Z1j7 (ty0 ty1:Nat) (n:Int) (h:I64 n):Zb7 ty0 ty1 n (fun r=>r=Zaj n):=by
 have cr:=Z4f n
 obtain ⟨N,hN⟩:∃ N,(Zb n).toNat=N:=⟨_,rfl⟩
 have hc:Zb n=(N:Int):=by omega
 have hc':(Z19 n).fst=(N:Int):=hc
 have i6:∀ {z:Int},0≤z→z≤6144→I64 z:=fun {z} a b=>⟨by omega,by omega⟩
 have w4:i64.wrap ((4:Int)*(N:Int))=4*(N:Int):=wi ⟨by omega,by omega⟩
 unfold Zb7
 rw [hc',w4]
 refine ⟨h,?_⟩
 rintro _ rfl
 refine Br.intro (fun e=>?_) fun e=>?_
 ·have e:(N:Int)=0:=beq_iff_eq.1 e
  show _=Zaj n
  unfold Zaj; rw [if_pos (by omega)]
 have e:¬ (N:Int)=0:=fun q=>by rw [q] at e; cases e
 have hnew:Zaj n=(some (Z2n n),0,()):=by unfold Zaj; rw [if_neg (by omega)]
 refine ⟨⟨by omega,by omega,by omega⟩,rfl,fun x y=>∃ k:Nat,x.1=k∧k≤N∧x.2.1=(Z37 n k).1∧y.1=(Z37 n k).2,fun x _=>N - x.1.toNat,⟨0,rfl,by omega,rfl,by show _=List.replicate (4*Zb n).toNat 0; rw [hc]⟩,?_⟩
 rintro ⟨_,_,⟨⟩⟩ ⟨_,⟨⟩⟩ ⟨k,rfl,hk,rfl,rfl⟩
 dsimp only
 rintro _ rfl
 refine Br.intro (fun e1=>?_) fun e1=>?_
 ·have e1:k<N:=by have e1:(k:Int)<N:=of_decide_eq_true e1; omega
  have hp:Zl n (k:Int)=true:=Zer (by omega)
  obtain ⟨lk,lk2⟩:=Zvf n k
  refine ⟨⟨rfl,rfl⟩,rfl,fun x y=>∃ j:Nat,x.1=j∧j≤4∧x.2.1=(Z3f n k (Z37 n k) j).1∧y.1=(Z3f n k (Z37 n k) j).2,fun x _=>4 - x.1.toNat,⟨0,rfl,by omega,rfl,rfl⟩,?_⟩
  rintro ⟨_,_,⟨⟩⟩ ⟨_,⟨⟩⟩ ⟨j,rfl,hj,rfl,rfl⟩
  dsimp only
  obtain ⟨lj,lj2⟩:=Zve n k (Z37 n k) j
  rintro _ rfl
  refine Br.intro (fun e2=>?_) fun e2=>?_
  ·have e2:j<4:=by have e2:(j:Int)<4:=of_decide_eq_true e2; omega
   have ok:Zr n k j=true:=Z15.2 ⟨hp,by omega,by omega⟩
   obtain ⟨b1,b2,b3,b4,b5⟩:=Z4m ok
   obtain ⟨d0,d1⟩:=Z2d b1
   refine ⟨⟨h,i6 (by omega) (by omega),i6 (by omega) (by omega)⟩,?_⟩
   rintro _ rfl
   rw [Z21 e2 (by omega)]
   have hst:Z3f n k (Z37 n k) (j+1)=Zai n k j (Z3f n k (Z37 n k) j):=rfl
   rintro _ rfl
   refine Br.intro (fun g=>?_) fun g=>?_
   ·have g:(Z7 n k j).1 > k:=of_decide_eq_true g
    have w1:i64.wrap (i64.wrap (4*(k:Int))+j)=4*(k:Int)+j:=by rw [wi (x:=4*(k:Int)) ⟨by omega,by omega⟩,wi ⟨by omega,by omega⟩]
    have w2:i64.wrap (i64.wrap (4*(Z1x n k j).1)+(Z1x n k j).2.1)=4*(Z7 n k j).1+(Z7 n k j).2:=by
     show i64.wrap (i64.wrap (4*(Z7 n k j).1)+(Z7 n k j).2)=_
     rw [wi (x:=4*(Z7 n k j).1) ⟨by omega,by omega⟩,wi ⟨by omega,by omega⟩]
    rw [w1,w2]
    have hE:Zai n k j (Z3f n k (Z37 n k) j)=((Z3f n k (Z37 n k) j).1++[((k:Int),(j:Int),(Z7 n k j).1,(Z7 n k j).2)],((Z3f n k (Z37 n k) j).2.set (4*(k:Int)+j).toNat (Z3f n k (Z37 n k) j).1.length).set (4*(Z7 n k j).1+(Z7 n k j).2).toNat (Z3f n k (Z37 n k) j).1.length):=if_pos g
    refine ⟨⟨by omega,by omega⟩,⟨by omega,by omega⟩,⟨rfl,by omega⟩,⟨rfl,by rw [List.length_append]; rfl⟩,rfl,⟨j+1,rfl,by omega,?_,?_⟩,by omega⟩
    ·rw [hst,hE]; rfl
    ·rw [hst,hE,Nat.zero_add,Nat.zero_add]
   ·have g:¬ (Z7 n k j).1 > k:=of_decide_eq_false g
    have hE:Zai n k j (Z3f n k (Z37 n k) j)=Z3f n k (Z37 n k) j:=if_neg g
    exact ⟨⟨rfl,rfl⟩,rfl,⟨j+1,rfl,by omega,by rw [hst,hE],by rw [hst,hE]⟩,by omega⟩
  ·have e2:j=4:=by have e2:¬ (j:Int)<4:=of_decide_eq_false e2; omega
   subst e2
   rw [Z21 e1 (by omega)]
   exact ⟨⟨rfl,rfl⟩,rfl,⟨k+1,rfl,by omega,rfl,rfl⟩,by omega⟩
 have e1:k=N:=by have e1:¬ (k:Int)<N:=of_decide_eq_false e1; omega
 subst e1
 obtain ⟨_,l2⟩:=Zvf n k
 rw [hnew]
 unfold Z2n Z8x
 rw [hN,List.drop_zero,List.drop_zero,List.take_length,List.take_of_length_le (by rw [l2,hc]; exact Nat.le_refl _)]
def Z5v:=fun (post:Int × Unit→Prop)=>post ((0:Int),())
theorem Zrp  (w:KS.wf [.ptr Z1g] (none,())):Z5v   (fun r=>r=Z66 none):=by
 exact rfl
def Z5w:=fun (g:Int × List (Int × Int × Int × Int) × List Int) (post:Int × Unit→Prop)=>∃ (h:some g≠none),post (g.fst,())
theorem Zrq (g:Int × (List (Int × Int × Int × Int)) × List Int) (w:KS.wf [.ptr Z1g] ((some g),())):Z5w  g (fun r=>r=Z66 (some g)):=by
 exact ⟨by simp,rfl⟩
def Z52:=fun (post:Int × Unit→Prop)=>∃ (h:True),∃ (h:I64 (Z66 none).fst),post ((Z19 (Z66 none).fst).fst,())
theorem Zpf  (h:Zak none) (w:KS.wf [.ptr Z1g] (none,())):Z52   (fun r=>r=Z34 none):=by
 exact ⟨trivial,⟨by decide,by decide⟩,rfl⟩
def Z53:=fun (g:Int × List (Int × Int × Int × Int) × List Int) (post:Int × Unit→Prop)=>∃ (h:True),∃ (h:I64 (Z66 (some g)).fst),post
 ((Z19 (Z66 (some g)).fst).fst,())
theorem Zpg (g:Int × (List (Int × Int × Int × Int)) × List Int) (h:Zak (some g)) (w:KS.wf [.ptr Z1g] ((some g),())):Z53  g (fun r=>r=Z34 (some g)):=by
 rcases h with hg | ⟨n,gn,hg⟩
 ·cases hg
 ·obtain rfl:=Option.some.inj hg
  obtain ⟨n1,n2⟩:=Z1n.1 gn
  exact ⟨trivial,⟨by show _≤n; omega,by show n<_; omega⟩,rfl⟩
def Z54:=fun (post:Int × Unit→Prop)=>post ((0:Int),())
theorem Zph  (w:KS.wf [.ptr Z1g] (none,())):Z54   (fun r=>r=Zhr none):=by
 exact rfl
def Z55:=fun (g:Int × List (Int × Int × Int × Int) × List Int) (post:Int × Unit→Prop)=>∃ (h:some g≠none),post ((↑g.snd.fst.length :
 Int),())
theorem Zpi (g:Int × (List (Int × Int × Int × Int)) × List Int) (w:KS.wf [.ptr Z1g] ((some g),())):Z55  g (fun r=>r=Zhr (some g)):=by
 exact ⟨by simp,rfl⟩
end Go.Lift

namespace Go.Lift
def Zd4:=fun (a:Int) (post:Int × Unit→Prop)=>∀ (a_1:Bool),a_1=decide (a<(1:Int))→Br a_1 (post ((0:Int),())) (∀ (a_2:Bool),a_2=decide (a > (32
 : Int))→Br a_2 (post ((0:Int),())) (post (i64.wrap (i64.wrap ((6:Int)*a)*a),())))
theorem Z1c6 (a:Int) (h:I64 a):Zd4  a (fun r=>r=Z19 a):=by
 rintro _ rfl
 refine Br.intro (fun e=>?_) fun e=>?_
 ·have e:=of_decide_eq_true e
  exact congrArg r1 (Z77 (Zdv.2 (.inl e))).symm
 have e:=of_decide_eq_false e
 rintro _ rfl
 refine Br.intro (fun f=>?_) fun f=>?_
 ·have f:=of_decide_eq_true f
  exact congrArg r1 (Z77 (Zdv.2 (.inr f))).symm
 ·have f:=of_decide_eq_false f
  exact congrArg r1 (Z15w (Z1n.2 ⟨by omega,by omega⟩))
def Zd5:=fun (n c:Int) (post:Int × Int × Int × Bool × Unit→Prop)=>∀ (a:Bool),a=decide (c<(0:Int))→Br a (post ((0:Int),(0:Int),(0:Int),
 false,())) (∃ (h:I64 n),∀ (a:Bool),a=decide (c≥(Z19 n).fst)→Br a (post ((0:Int),(0:Int),(0:Int),false,())) (∃ (h:i64.wrap (n*n) ≠
 (0:Int)),∃ (h:n≠(0:Int)),∃ (h:n≠(0:Int)),∃ (h:n≠(0:Int)),post (i64.wrap (c.tdiv (i64.wrap (n*n))),c.tmod n,(i64.wrap (c.tdiv
 n)).tmod n,true,())))
theorem Z1c7 (n:Int) (c:Int) (h:II n c):Zd5  n c (fun r=>r=Z0 n c):=by
 have bad:Zl n c=false→((0:Int),(0:Int),(0:Int),false,())=Z0 n c:=by
  intro e; unfold Z0; rw [if_neg (by rw [e]; decide)]
 rintro _ rfl
 refine Br.intro (fun e=>?_) fun e=>?_
 ·have e:=of_decide_eq_true e
  exact bad (by unfold Zl; rw [decide_eq_false (by omega),Bool.false_and])
 ·have e:=of_decide_eq_false e
  refine ⟨h.1,?_⟩
  rintro _ rfl
  refine Br.intro (fun f=>?_) fun f=>?_
  ·have f:Zb n≤c:=of_decide_eq_true f
   exact bad (by unfold Zl; rw [decide_eq_false (p:=c<Zb n) (by omega),Bool.and_false])
  ·have f:¬ c≥Zb n:=of_decide_eq_false f
   have ok:Zl n c=true:=by unfold Zl; rw [decide_eq_true (by omega),decide_eq_true (by omega)]; rfl
   obtain ⟨h1,h2,h3,h4,h5,h6⟩:=Z3s ok
   obtain ⟨r1,r2,r3,r4,r5,r6⟩:=Zen ok
   have w1:i64.wrap (n*n)=n*n:=wi ⟨by omega,by omega⟩
   have d1:c.tdiv (n*n)=c / (n*n):=Int.tdiv_eq_ediv_of_nonneg h3
   have d2:c.tdiv n=c / n:=Int.tdiv_eq_ediv_of_nonneg h3
   have d3:0≤c / n∧c / n≤c:=⟨Int.ediv_nonneg h3 (by omega),Int.ediv_le_self _ h3⟩
   have w2:i64.wrap (c / n)=c / n:=wi ⟨by omega,by have:=h.2; unfold I64 at this; omega⟩
   have w3:i64.wrap (c / (n*n))=c / (n*n):=wi ⟨by omega,by omega⟩
   refine ⟨by rw [w1]; omega,by omega,by omega,by omega,?_⟩
   rw [w1,d1,w3,d2,w2,Int.tmod_eq_emod_of_nonneg h3,Int.tmod_eq_emod_of_nonneg d3.1]
   unfold Z0; rw [if_pos ok]
end Go.Lift

namespace Go.Lift
open Go.Proofs
def Z3g:Con:=.det [.int .i64] [.snap (.int .i64)] (fun x=>I64 x.1) (fun x=>Z19 x.1)
def Zlz:Cx:=⟨Zd Zf,Ze [],RbG⟩
theorem Zwm:CxOk Tryz.prog Zlz:=⟨Z3 Z6,fun f c h=>by cases h⟩
theorem Z12z:FnAt Tryz.prog 63 Tryz.f63.ntmps Tryz.f63.results.toList (Tryz.f63.body.getD .skip):=⟨Tryz.f63,Tryz.func63,rfl,rfl,by simp,by decide⟩
theorem Z130 (a:Int) (post:Int × Unit→Prop):Z9 Zlz nHn Tryz.f63.ntmps Tryz.f63.results.toList (Tryz.f63.body.getD .skip) [.int .i64] [.snap (.int .i64)] (a,()) post=Zd4  a post:=by kernel_rfl
theorem Z4j:Z3g.holds Tryz.prog RbG 63 :=
 detP Zwm Z8 nHn Z12z (F:=fun x post=>Zd4  x.1 post) (fun x post=>Z130 x.1 post) fun x h _=>Z1c6  x.1 h
def Z6x:Con:=.det [.int .i64,.int .i64] [.snap (.int .i64),.snap (.int .i64),.snap (.int .i64),.snap .bool] (fun x=>II x.1 x.2.1) (fun x=>Z0 x.1 x.2.1)
def Zm0:Cx:=⟨Zd Zf,Ze [(63,Z3g)],RbG⟩
theorem Zwn:CxOk Tryz.prog Zm0:=⟨Z3 Z6,Z5 ⟨Z4j,trivial⟩⟩
theorem Z131:FnAt Tryz.prog 130 Tryz.f130.ntmps Tryz.f130.results.toList (Tryz.f130.body.getD .skip):=⟨Tryz.f130,Tryz.func130,rfl,rfl,by simp,by decide⟩
theorem Z132 (n:Int) (c:Int) (post:Int × Int × Int × Bool × Unit→Prop):Z9 Zm0 nHn Tryz.f130.ntmps Tryz.f130.results.toList (Tryz.f130.body.getD .skip) [.int .i64,.int .i64] [.snap (.int .i64),.snap (.int .i64),.snap (.int .i64),.snap .bool] (n,c,()) post=Zd5  n c post:=by kernel_rfl
theorem Zb8:Z6x.holds Tryz.prog RbG 130 :=
 detP Zwn Z8 nHn Z131 (F:=fun x post=>Zd5  x.1 x.2.1 post) (fun x post=>Z132 x.1 x.2.1 post) fun x h _=>Z1c7  x.1 x.2.1 h
end Go.Lift

namespace Go.Lift
def Z92:=fun (a:Int × Int × Int) (k:Int) (b:Int × Int × Int) (post:(Int × Int × Int) × Unit→Prop)=>post ((i64.wrap (a.fst+i64.wrap (k *
 b.fst)),i64.wrap (a.snd.fst+i64.wrap (k*b.snd.fst)),i64.wrap (a.snd.snd+i64.wrap (k*b.snd.snd))),())
theorem Z1fy (a:Int × Int × Int) (k:Int) (b:Int × Int × Int) (h:Z2s a k b):Z92  a k b (fun r=>r=Z31 a k b):=by
 obtain ⟨⟨⟨a1,a2⟩,⟨a3,a4⟩,a5,a6⟩,k1,k2,⟨b1,b2⟩,⟨b3,b4⟩,b5,b6⟩:=h
 have e1:=Z2q k1 k2 b1 b2
 have e2:=Z2q k1 k2 b3 b4
 have e3:=Z2q k1 k2 b5 b6
 unfold Z92
 rw [wi (x:=k*b.1) ⟨by omega,by omega⟩,wi (x:=k*b.2.1) ⟨by omega,by omega⟩,wi (x:=k*b.2.2) ⟨by omega,by omega⟩,wi (x:=a.1+k*b.1) ⟨by omega,by omega⟩,wi (x:=a.2.1+k*b.2.1) ⟨by omega,by omega⟩,wi (x:=a.2.2+k*b.2.2) ⟨by omega,by omega⟩]
 rfl
def Zb9:=fun (a b:Int × Int × Int) (post:Int × Unit→Prop)=>post (i64.wrap (i64.wrap (i64.wrap (a.fst*b.fst)+i64.wrap
 (a.snd.fst*b.snd.fst))+i64.wrap (a.snd.snd*b.snd.snd)),())
theorem Z1j8 (a:Int × Int × Int) (b:Int × Int × Int) (h:Z168 a b):Zb9  a b (fun r=>r=Zr6 a b):=by
 obtain ⟨⟨⟨a1,a2⟩,⟨a3,a4⟩,a5,a6⟩,⟨b1,b2⟩,⟨b3,b4⟩,b5,b6⟩:=h
 have e1:=Z2q a1 a2 b1 b2
 have e2:=Z2q a3 a4 b3 b4
 have e3:=Z2q a5 a6 b5 b6
 unfold Zb9
 rw [wi (x:=a.1*b.1) ⟨by omega,by omega⟩,wi (x:=a.2.1*b.2.1) ⟨by omega,by omega⟩,wi (x:=a.2.2*b.2.2) ⟨by omega,by omega⟩,wi (x:=a.1*b.1+a.2.1*b.2.1) ⟨by omega,by omega⟩,wi (x:=a.1*b.1+a.2.1*b.2.1+a.2.2*b.2.2) ⟨by omega,by omega⟩]
 rfl
def Zd6:=fun (f:Int) (post:(Int × Int × Int) × (Int × Int × Int) × (Int × Int × Int) × Unit→Prop)=>∀ (a:Bool),a=(f==(0:Int))→Br a (post (((1:Int),
 (0:Int),(0:Int)),((0:Int),(1:Int),(0:Int)),((0:Int),(0:Int),(1:Int)),())) (∀ (a:Bool),a=(f==(1:Int))→Br a (∃ (h:Z2s ((0:Int),(0:Int),
 (0:Int)) (-1:Int) ((1:Int),(0:Int),(0:Int))),∀ (a:(Int × Int × Int) × Unit),a=Z31 ((0:Int),(0:Int),(0:Int)) (-1:Int) ((1:Int),(0:Int),(0 :
 Int))→post (((0:Int),(1:Int),(0:Int)),(a.fst.fst,a.fst.snd.fst,a.fst.snd.snd),((0:Int),(0:Int),(1:Int)),())) (∀ (a:Bool),a=(f==(2:Int))→Br a (∃
 (h:Z2s ((0:Int),(0:Int),(0:Int)) (-1:Int) ((1:Int),(0:Int),(0:Int))),∀ (a:(Int × Int × Int) × Unit),a=Z31 ((0:Int),(0:Int),(0:Int)) (-1 :
 Int) ((1:Int),(0:Int),(0:Int))→∃ (h:Z2s ((0:Int),(0:Int),(0:Int)) (-1:Int) ((0:Int),(1:Int),(0:Int))),∀ (a_1:(Int × Int × Int) × Unit),a_1 =
 Z31 ((0:Int),(0:Int),(0:Int)) (-1:Int) ((0:Int),(1:Int),(0:Int))→post ((a.fst.fst,a.fst.snd.fst,a.fst.snd.snd),(a_1.fst.fst,a_1.fst.snd.fst,
 a_1.fst.snd.snd),((0:Int),(0:Int),(1:Int)),())) (∀ (a:Bool),a=(f==(3:Int))→Br a (∃ (h:Z2s ((0:Int),(0:Int),(0:Int)) (-1:Int) ((0:Int),(1 :
 Int),(0:Int))),∀ (a:(Int × Int × Int) × Unit),a=Z31 ((0:Int),(0:Int),(0:Int)) (-1:Int) ((0:Int),(1:Int),(0:Int))→post ((a.fst.fst,a.fst.snd.fst,
 a.fst.snd.snd),((1:Int),(0:Int),(0:Int)),((0:Int),(0:Int),(1:Int)),())) (∀ (a:Bool),a=(f==(4:Int))→Br a (∃ (h:Z2s ((0:Int),(0:Int),(0 :
 Int)) (-1:Int) ((1:Int),(0:Int),(0:Int))),∀ (a:(Int × Int × Int) × Unit),a=Z31 ((0:Int),(0:Int),(0:Int)) (-1:Int) ((1:Int),(0:Int),(0:Int)) →
 post (((0:Int),(0:Int),(1:Int)),((0:Int),(1:Int),(0:Int)),(a.fst.fst,a.fst.snd.fst,a.fst.snd.snd),())) (∃ (h:Z2s ((0:Int),(0:Int),(0:Int)) (-1 :
 Int) ((0:Int),(0:Int),(1:Int))),∀ (a:(Int × Int × Int) × Unit),a=Z31 ((0:Int),(0:Int),(0:Int)) (-1:Int) ((0:Int),(0:Int),(1:Int))→post
 ((a.fst.fst,a.fst.snd.fst,a.fst.snd.snd),((0:Int),(1:Int),(0:Int)),((1:Int),(0:Int),(0:Int)),()))))))
theorem Z1c8 (f:Int):Zd6  f (fun r=>r=Z4z f):=by
 have wp:∀ b:Pt,Bp 65536 b→Z2s ((0:Int),(0:Int),(0:Int)) (-1:Int) b:=fun b hb=>⟨Z7a.mono (by decide),by decide,by decide,hb⟩
 have w1:=wp ((1:Int),(0:Int),(0:Int)) (by unfold Bp; decide)
 have w2:=wp ((0:Int),(1:Int),(0:Int)) (by unfold Bp; decide)
 have w3:=wp ((0:Int),(0:Int),(1:Int)) (by unfold Bp; decide)
 rintro _ rfl
 refine Br.intro (fun e=>?_) fun e0=>?_
 ·rw [show f=0 from beq_iff_eq.1 e]; rfl
 rintro _ rfl
 refine Br.intro (fun e=>?_) fun e1=>?_
 ·rw [show f=1 from beq_iff_eq.1 e]
  refine ⟨w1,?_⟩
  rintro _ rfl
  rfl
 rintro _ rfl
 refine Br.intro (fun e=>?_) fun e2=>?_
 ·rw [show f=2 from beq_iff_eq.1 e]
  refine ⟨w1,?_⟩
  rintro _ rfl
  refine ⟨w2,?_⟩
  rintro _ rfl
  rfl
 rintro _ rfl
 refine Br.intro (fun e=>?_) fun e3=>?_
 ·rw [show f=3 from beq_iff_eq.1 e]
  refine ⟨w2,?_⟩
  rintro _ rfl
  rfl
 rintro _ rfl
 refine Br.intro (fun e=>?_) fun e4=>?_
 ·rw [show f=4 from beq_iff_eq.1 e]
  refine ⟨w1,?_⟩
  rintro _ rfl
  rfl
 refine ⟨w3,?_⟩
 rintro _ rfl
 have b:∀ k:Int,(f==k)=false→¬ f=k:=fun k e q=>by rw [q,beq_self_eq_true] at e; cases e
 have hf:Z2 f=((0,0,-1),(0,1,0),(1,0,0)):=by
  unfold Z2; rw [if_neg (b _ e0),if_neg (b _ e1),if_neg (b _ e2),if_neg (b _ e3),if_neg (b _ e4)]
 show _=((Z2 f).1,(Z2 f).2.1,(Z2 f).2.2,())
 rw [hf]; rfl
def Zg3:=fun (n f i j:Int) (post:Int × Unit→Prop)=>∃ (h:I64 n),∀ (a:Bool),a=((Z19 n).fst==(0:Int))→Br a (post ((-1:Int),())) (∀ (a:Bool),a
 = decide (f<(0:Int))→Br a (post ((-1:Int),())) (∀ (a:Bool),a=decide (f > (5:Int))→Br a (post ((-1:Int),())) (∀ (a:Bool),a=decide (i<(0:Int))→Br a
 (post ((-1:Int),())) (∀ (a:Bool),a=decide (i≥n)→Br a (post ((-1:Int),())) (∀ (a:Bool),a=decide (j<(0:Int))→Br a (post ((-1:Int),())) (∀ (a:Bool),a
 = decide (j≥n)→Br a (post ((-1:Int),())) (post (i64.wrap (i64.wrap (i64.wrap (i64.wrap (f*n)+j)*n)+i),()))))))))
theorem Z1fz (n:Int) (f:Int) (i:Int) (j:Int) (h:IIII n f i j):Zg3  n f i j (fun r=>r=Zae n f i j):=by
 obtain ⟨hn,hf,hi,hj⟩:=h
 have no:Z26 n f i j=false→((-1:Int),())=Zae n f i j:=fun q=>congrArg r1 (by unfold Zu; rw [if_neg (by rw [q]; decide)])
 refine ⟨hn,?_⟩
 rintro _ rfl
 refine Br.intro (fun e=>no ?_) fun e=>?_
 ·have e:Zb n=0:=beq_iff_eq.1 e
  cases g:Z1i n with
  | false=>unfold Z26; rw [g]; rfl
  | true =>
   rw [Zad g] at e
   obtain ⟨n1,n2⟩:=Z1n.1 g
   have:=Zkp n1 n2
   omega
 have g:Z1i n=true:=by
  cases g:Z1i n with
  | true=>rfl
  | false =>
   have:(Z19 n).fst=0:=Z77 g
   rw [this] at e; cases e
 rintro _ rfl
 refine Br.intro (fun q=>no ?_) fun q=>?_
 ·unfold Z26; rw [decide_eq_false (p:=0≤f) (by have:=of_decide_eq_true q; omega)]; simp
 have q1:=of_decide_eq_false q
 rintro _ rfl
 refine Br.intro (fun q=>no ?_) fun q=>?_
 ·unfold Z26; rw [decide_eq_false (p:=f<6) (by have:=of_decide_eq_true q; omega)]; simp
 have q2:=of_decide_eq_false q
 rintro _ rfl
 refine Br.intro (fun q=>no ?_) fun q=>?_
 ·unfold Z26; rw [decide_eq_false (p:=0≤i) (by have:=of_decide_eq_true q; omega)]; simp
 have q3:=of_decide_eq_false q
 rintro _ rfl
 refine Br.intro (fun q=>no ?_) fun q=>?_
 ·unfold Z26; rw [decide_eq_false (p:=i<n) (by have:=of_decide_eq_true q; omega)]; simp
 have q4:=of_decide_eq_false q
 rintro _ rfl
 refine Br.intro (fun q=>no ?_) fun q=>?_
 ·unfold Z26; rw [decide_eq_false (p:=0≤j) (by have:=of_decide_eq_true q; omega)]; simp
 have q5:=of_decide_eq_false q
 rintro _ rfl
 refine Br.intro (fun q=>no ?_) fun q=>?_
 ·unfold Z26; rw [decide_eq_false (p:=j<n) (by have:=of_decide_eq_true q; omega)]; simp
 have q6:=of_decide_eq_false q
 have hok:Z26 n f i j=true:=by
  unfold Z26
  rw [g,decide_eq_true (p:=0≤f) (by omega),decide_eq_true (p:=f<6) (by omega),decide_eq_true (p:=0≤i) (by omega),decide_eq_true (p:=i<n) (by omega),decide_eq_true (p:=0≤j) (by omega),decide_eq_true (p:=j<n) (by omega)]; rfl
 obtain ⟨r0,r1',n1,n2⟩:=Zca hok
 have hv:Zu n f i j=(f*n+j)*n+i:=by unfold Zu; rw [if_pos hok]
 rw [hv] at r0 r1'
 have sq:=Zkp n1 n2
 have b1:0≤f*n:=Int.mul_nonneg (by omega) (by omega)
 have b2:f*n≤5*n:=Int.mul_le_mul_of_nonneg_right (by omega) (by omega)
 have b3:0≤(f*n+j)*n:=Int.mul_nonneg (by omega) (by omega)
 rw [wi (x:=f*n) ⟨by omega,by omega⟩,wi (x:=f*n+j) ⟨by omega,by omega⟩,wi (x:=(f*n+j)*n) ⟨by omega,by omega⟩,wi (x:=(f*n+j)*n+i) ⟨by omega,by omega⟩]
 exact congrArg r1 hv.symm
def Z6y:=fun (n c:Int) (post:(Int × Int × Int) × Unit→Prop)=>∃ (h:II n c),∃ (h:True),∀ (a:(Int × Int × Int) × (Int × Int × Int) × (Int × Int × Int) ×
 Unit),a=Z4z (Z0 n c).fst→∃ (h:Z2s ((0:Int),(0:Int),(0:Int)) n (a.fst.fst,a.fst.snd.fst,a.fst.snd.snd)),∀ (a_1:(Int × Int × Int) × Unit),a_1 =
 Z31 ((0:Int),(0:Int),(0:Int)) n (a.fst.fst,a.fst.snd.fst,a.fst.snd.snd)→∃ (h:Z2s a_1.fst (i64.wrap (i64.wrap (i64.wrap ((2:Int) *
 (Z0 n c).snd.fst)+(1:Int)) - n)) (a.snd.fst.fst,a.snd.fst.snd.fst,a.snd.fst.snd.snd)),∀ (a_2:(Int × Int × Int) × Unit),a_2=Z31 a_1.fst (i64.wrap
 (i64.wrap (i64.wrap ((2:Int)*(Z0 n c).snd.fst)+(1:Int)) - n)) (a.snd.fst.fst,a.snd.fst.snd.fst,a.snd.fst.snd.snd)→∃ (h:Z2s a_2.fst
 (i64.wrap (i64.wrap (i64.wrap ((2:Int)*(Z0 n c).snd.snd.fst)+(1:Int)) - n)) (a.snd.snd.fst.fst,a.snd.snd.fst.snd.fst,
 a.snd.snd.fst.snd.snd)),∀ (a_3:(Int × Int × Int) × Unit),a_3=Z31 a_2.fst (i64.wrap (i64.wrap (i64.wrap ((2:Int)*(Z0 n c).snd.snd.fst) +
 (1:Int)) - n)) (a.snd.snd.fst.fst,a.snd.snd.fst.snd.fst,a.snd.snd.fst.snd.snd)→post ((a_3.fst.fst,a_3.fst.snd.fst,a_3.fst.snd.snd),())
theorem Z18e (n:Int) (c:Int) (h:Z1ie n c):Z6y  n c (fun r=>r=Z1gk n c):=by
 have hm:=Z3u h
 obtain ⟨g1,g2,g3,g4,g5,g6⟩:=Z3s h
 unfold Z6y
 rw [Zr3 h]
 obtain ⟨n1,n2,f0,f5,i0,i1,j0,j1⟩:=hm
 dsimp only
 have w1:i64.wrap (i64.wrap (i64.wrap (2*(c % n))+1) - n)=2*(c % n)+1 - n:=by
  rw [wi (x:=2*(c % n)) ⟨by omega,by omega⟩,wi (x:=2*(c % n)+1) ⟨by omega,by omega⟩,wi ⟨by omega,by omega⟩]
 have w2:i64.wrap (i64.wrap (i64.wrap (2*(c / n % n))+1) - n)=2*(c / n % n)+1 - n:=by
  rw [wi (x:=2*(c / n % n)) ⟨by omega,by omega⟩,wi (x:=2*(c / n % n)+1) ⟨by omega,by omega⟩,wi ⟨by omega,by omega⟩]
 rw [w1,w2]
 obtain ⟨b1,b2,b3⟩:=Zeq (c / (n*n))
 have p1:=Z3i Z7a b1 (k:=n) (q:=32) (by omega) (by omega)
 have p2:=Z3i p1 b2 (k:=2*(c % n)+1 - n) (q:=32) (by omega) (by omega)
 refine ⟨⟨⟨by omega,by omega⟩,by omega,by omega⟩,trivial,?_⟩
 rintro _ rfl
 refine ⟨⟨Z7a.mono (by decide),by omega,by omega,b1.mono (by decide)⟩,?_⟩
 rintro _ rfl
 refine ⟨⟨p1.mono (by decide),by omega,by omega,b2.mono (by decide)⟩,?_⟩
 rintro _ rfl
 refine ⟨⟨p2.mono (by decide),by omega,by omega,b3.mono (by decide)⟩,?_⟩
 rintro _ rfl
 rfl
def Zba:=fun (n c o:Int) (post:(Int × Int × Int) × Unit→Prop)=>∃ (h:II n c),∃ (h:True),∀ (a:(Int × Int × Int) × (Int × Int × Int) × (Int × Int × Int) ×
 Unit),a=Z4z (Z0 n c).fst→∀ (a_1:Bool),a_1=(o==(0:Int))→Br a_1 (post ((a.snd.fst.fst,a.snd.fst.snd.fst,a.snd.fst.snd.snd),())) (∀ (a_2:Bool),a_2=(o
 == (1:Int))→Br a_2 (post ((a.snd.snd.fst.fst,a.snd.snd.fst.snd.fst,a.snd.snd.fst.snd.snd),())) (∀ (a_3:Bool),a_3=(o==(2:Int))→Br a_3 (∃ (h:Z2s ((0:Int),
 (0:Int),(0:Int)) (-1:Int) (a.snd.fst.fst,a.snd.fst.snd.fst,a.snd.fst.snd.snd)),∀ (a_4:(Int × Int × Int) × Unit),a_4=Z31 ((0:Int),(0:Int),(0:Int)) (-1 :
 Int) (a.snd.fst.fst,a.snd.fst.snd.fst,a.snd.fst.snd.snd)→post ((a_4.fst.fst,a_4.fst.snd.fst,a_4.fst.snd.snd),())) (∃ (h:Z2s ((0:Int),(0:Int),(0:Int)) (-1 :
 Int) (a.snd.snd.fst.fst,a.snd.snd.fst.snd.fst,a.snd.snd.fst.snd.snd)),∀ (a_4:(Int × Int × Int) × Unit),a_4=Z31 ((0:Int),(0:Int),(0:Int)) (-1:Int)
 (a.snd.snd.fst.fst,a.snd.snd.fst.snd.fst,a.snd.snd.fst.snd.snd)→post ((a_4.fst.fst,a_4.fst.snd.fst,a_4.fst.snd.snd),()))))
theorem Z1j9 (n:Int) (c:Int) (o:Int) (h:Z1ab n c o):Zba  n c o (fun r=>r=Z1gl n c o):=by
 have hm:=Z3u h
 obtain ⟨g1,g2,g3,g4,g5,g6⟩:=Z3s h
 unfold Zba
 have h':Zl n c=true:=h
 rw [Zr3 h']
 dsimp only
 obtain ⟨b1,b2,b3⟩:=Zeq (c / (n*n))
 refine ⟨⟨⟨by omega,by omega⟩,by omega,by omega⟩,trivial,?_⟩
 rintro _ rfl
 have b:∀ k:Int,(o==k)=false→¬ o=k:=fun k e q=>by rw [q,beq_self_eq_true] at e; cases e
 rintro _ rfl
 refine Br.intro (fun e=>?_) fun e0=>?_
 ·rw [show o=0 from beq_iff_eq.1 e]; rfl
 rintro _ rfl
 refine Br.intro (fun e=>?_) fun e1=>?_
 ·rw [show o=1 from beq_iff_eq.1 e]; rfl
 rintro _ rfl
 refine Br.intro (fun e=>?_) fun e2=>?_
 ·refine ⟨⟨Z7a.mono (by decide),by decide,by decide,b2.mono (by decide)⟩,?_⟩
  rintro _ rfl
  rw [show o=2 from beq_iff_eq.1 e]; rfl
 refine ⟨⟨Z7a.mono (by decide),by decide,by decide,b3.mono (by decide)⟩,?_⟩
 rintro _ rfl
 show _=(dirP (c / (n*n)) o,())
 unfold dirP
 rw [if_neg (b _ e0),if_neg (b _ e1),if_neg (b _ e2)]; rfl
def Zbb:=fun (ty138:Nat) (n c o:Int) (post:Int × Int × Unit→Prop)=>∀ (a:Bool),a=decide (c<(0:Int))→Br a (post ((-1:Int),(0:Int),())) (∃ (h :
 I64 n),∀ (a:Bool),a=decide (c≥(Z19 n).fst)→Br a (post ((-1:Int),(0:Int),())) (∀ (a:Bool),a=decide (o<(0:Int))→Br a (post ((-1:Int),(0:Int),()))
 (∀ (a:Bool),a=decide (o > (3:Int))→Br a (post ((-1:Int),(0:Int),())) (∃ (h:Z1ie n c),∀ (a:(Int × Int × Int) × Unit),a=Z1gk n c→∃ (h:Z1ab n c o),∀
 (a_1:(Int × Int × Int) × Unit),a_1=Z1gl n c o→∃ (h:Z2s a.fst (1:Int) a_1.fst),∀ (a_2:(Int × Int × Int) × Unit),a_2=Z31 a.fst (1:Int) a_1.fst→HIs
 [HObj.box Md.rw ty138 [SV.val (Go.Value.int i64 a_2.fst.fst),SV.val (Go.Value.int i64 a_2.fst.snd.fst),SV.val (Go.Value.int i64 a_2.fst.snd.snd)]]
 [HObj.box Md.rw ty138 [SV.val (Go.Value.int i64 a_2.fst.fst),SV.val (Go.Value.int i64 a_2.fst.snd.fst),SV.val (Go.Value.int i64 a_2.fst.snd.snd)]]∧∃ (I
 : Int × Unit→Unit→Prop),∃ (μ:Int × Unit→Unit→Nat),I ((0:Int),()) ()∧∀ (x:Int × Unit) (y:Unit),I x y→∀ (a:Bool),a=decide (x.fst<(6:Int))→Br a (∃
 (h:True),∀ (a:(Int × Int × Int) × (Int × Int × Int) × (Int × Int × Int) × Unit),a=Z4z x.fst→∃ (h:Z168 (a_2.fst.fst,a_2.fst.snd.fst,a_2.fst.snd.snd) (a.fst.fst,
 a.fst.snd.fst,a.fst.snd.snd)),∀ (a_3:Int × Unit),a_3=Zr6 (a_2.fst.fst,a_2.fst.snd.fst,a_2.fst.snd.snd) (a.fst.fst,a.fst.snd.fst,a.fst.snd.snd)→∀ (a_4:Bool),a_4 =
 (a_3.fst != n)→Br a_4 (HIs [HObj.box Md.rw ty138 [SV.val (Go.Value.int i64 a_2.fst.fst),SV.val (Go.Value.int i64 a_2.fst.snd.fst),SV.val (Go.Value.int
 i64 a_2.fst.snd.snd)]] [HObj.box Md.rw ty138 [SV.val (Go.Value.int i64 a_2.fst.fst),SV.val (Go.Value.int i64 a_2.fst.snd.fst),SV.val (Go.Value.int
 i64 a_2.fst.snd.snd)]]∧I (i64.wrap (x.fst+(1:Int)),()) ()∧μ (i64.wrap (x.fst+(1:Int)),()) ()<μ x y) (HIs [HObj.box Md.rw ty138 [SV.val
 (Go.Value.int i64 a_2.fst.fst),SV.val (Go.Value.int i64 a_2.fst.snd.fst),SV.val (Go.Value.int i64 a_2.fst.snd.snd)],HObj.box Md.rw ty138 [SV.val
 (Go.Value.int i64 a.fst.fst),SV.val (Go.Value.int i64 a.fst.snd.fst),SV.val (Go.Value.int i64 a.fst.snd.snd)],HObj.box Md.rw ty138 [SV.val (Go.Value.int
 i64 a.snd.fst.fst),SV.val (Go.Value.int i64 a.snd.fst.snd.fst),SV.val (Go.Value.int i64 a.snd.fst.snd.snd)],HObj.box Md.rw ty138 [SV.val (Go.Value.int
 i64 a.snd.snd.fst.fst),SV.val (Go.Value.int i64 a.snd.snd.fst.snd.fst),SV.val (Go.Value.int i64 a.snd.snd.fst.snd.snd)]] [HObj.box Md.rw ty138 [SV.val
 (Go.Value.int i64 a_2.fst.fst),SV.val (Go.Value.int i64 a_2.fst.snd.fst),SV.val (Go.Value.int i64 a_2.fst.snd.snd)],HObj.box Md.rw ty138 [SV.val
 (Go.Value.int i64 a.fst.fst),SV.val (Go.Value.int i64 a.fst.snd.fst),SV.val (Go.Value.int i64 a.fst.snd.snd)],HObj.box Md.rw ty138 [SV.val (Go.Value.int
 i64 a.snd.fst.fst),SV.val (Go.Value.int i64 a.snd.fst.snd.fst),SV.val (Go.Value.int i64 a.snd.fst.snd.snd)],HObj.box Md.rw ty138 [SV.val (Go.Value.int
 i64 a.snd.snd.fst.fst),SV.val (Go.Value.int i64 a.snd.snd.fst.snd.fst),SV.val (Go.Value.int i64 a.snd.snd.fst.snd.snd)]]∧∃ (I_1:Int × Unit→Unit →
 Prop),∃ (μ_1:Int × Unit→Unit→Nat),I_1 ((0:Int),()) ()∧∀ (x_6:Int × Unit) (y_1:Unit),I_1 x_6 y_1→∀ (a_5:Bool),a_5=decide (x_6.fst<(4:Int))→Br a_5 (∃
 (h:Z2s (a_2.fst.fst,a_2.fst.snd.fst,a_2.fst.snd.snd) (-1:Int) (a.snd.fst.fst,a.snd.fst.snd.fst,a.snd.fst.snd.snd)),∀ (a_6:(Int × Int × Int) × Unit),a_6=Z31
 (a_2.fst.fst,a_2.fst.snd.fst,a_2.fst.snd.snd) (-1:Int) (a.snd.fst.fst,a.snd.fst.snd.fst,a.snd.fst.snd.snd)→∃ (post_1:Int × Int × Int × Unit→Unit→Prop),(∀ (a_7 :
 Bool),a_7=(x_6.fst==(1:Int))→Br a_7 (∃ (h:Z2s (a_2.fst.fst,a_2.fst.snd.fst,a_2.fst.snd.snd) (-1:Int) (a.snd.snd.fst.fst,a.snd.snd.fst.snd.fst,
 a.snd.snd.fst.snd.snd)),∀ (a_8:(Int × Int × Int) × Unit),a_8=Z31 (a_2.fst.fst,a_2.fst.snd.fst,a_2.fst.snd.snd) (-1:Int) (a.snd.snd.fst.fst,a.snd.snd.fst.snd.fst,
 a.snd.snd.fst.snd.snd)→HIs [HObj.box Md.rw ty138 [SV.val (Go.Value.int i64 a_2.fst.fst),SV.val (Go.Value.int i64 a_2.fst.snd.fst),SV.val (Go.Value.int
 i64 a_2.fst.snd.snd)],HObj.box Md.rw ty138 [SV.val (Go.Value.int i64 a.fst.fst),SV.val (Go.Value.int i64 a.fst.snd.fst),SV.val (Go.Value.int i64
 a.fst.snd.snd)],HObj.box Md.rw ty138 [SV.val (Go.Value.int i64 a.snd.fst.fst),SV.val (Go.Value.int i64 a.snd.fst.snd.fst),SV.val (Go.Value.int i64
 a.snd.fst.snd.snd)],HObj.box Md.rw ty138 [SV.val (Go.Value.int i64 a.snd.snd.fst.fst),SV.val (Go.Value.int i64 a.snd.snd.fst.snd.fst),SV.val (Go.Value.int
 i64 a.snd.snd.fst.snd.snd)],HObj.box Md.rw ty138 [SV.junk,SV.junk,SV.junk]] [HObj.box Md.rw ty138 [SV.val (Go.Value.int i64 a_2.fst.fst),SV.val (Go.Value.int
 i64 a_2.fst.snd.fst),SV.val (Go.Value.int i64 a_2.fst.snd.snd)],HObj.box Md.rw ty138 [SV.val (Go.Value.int i64 a.fst.fst),SV.val (Go.Value.int
 i64 a.fst.snd.fst),SV.val (Go.Value.int i64 a.fst.snd.snd)],HObj.box Md.rw ty138 [SV.val (Go.Value.int i64 a.snd.fst.fst),SV.val (Go.Value.int
 i64 a.snd.fst.snd.fst),SV.val (Go.Value.int i64 a.snd.fst.snd.snd)],HObj.box Md.rw ty138 [SV.val (Go.Value.int i64 a.snd.snd.fst.fst),SV.val
 (Go.Value.int i64 a.snd.snd.fst.snd.fst),SV.val (Go.Value.int i64 a.snd.snd.fst.snd.snd)],HObj.box Md.rw ty138 [SV.junk,SV.junk,SV.junk]]∧post_1
 (a_8.fst.fst,a_8.fst.snd.fst,a_8.fst.snd.snd,()) ()) (HIs [HObj.box Md.rw ty138 [SV.val (Go.Value.int i64 a_2.fst.fst),SV.val (Go.Value.int i64
 a_2.fst.snd.fst),SV.val (Go.Value.int i64 a_2.fst.snd.snd)],HObj.box Md.rw ty138 [SV.val (Go.Value.int i64 a.fst.fst),SV.val (Go.Value.int i64
 a.fst.snd.fst),SV.val (Go.Value.int i64 a.fst.snd.snd)],HObj.box Md.rw ty138 [SV.val (Go.Value.int i64 a.snd.fst.fst),SV.val (Go.Value.int i64
 a.snd.fst.snd.fst),SV.val (Go.Value.int i64 a.snd.fst.snd.snd)],HObj.box Md.rw ty138 [SV.val (Go.Value.int i64 a.snd.snd.fst.fst),SV.val (Go.Value.int
 i64 a.snd.snd.fst.snd.fst),SV.val (Go.Value.int i64 a.snd.snd.fst.snd.snd)],HObj.box Md.rw ty138 [SV.junk,SV.junk,SV.junk]] [HObj.box Md.rw ty138 [SV.val
 (Go.Value.int i64 a_2.fst.fst),SV.val (Go.Value.int i64 a_2.fst.snd.fst),SV.val (Go.Value.int i64 a_2.fst.snd.snd)],HObj.box Md.rw ty138 [SV.val
 (Go.Value.int i64 a.fst.fst),SV.val (Go.Value.int i64 a.fst.snd.fst),SV.val (Go.Value.int i64 a.fst.snd.snd)],HObj.box Md.rw ty138 [SV.val (Go.Value.int
 i64 a.snd.fst.fst),SV.val (Go.Value.int i64 a.snd.fst.snd.fst),SV.val (Go.Value.int i64 a.snd.fst.snd.snd)],HObj.box Md.rw ty138 [SV.val (Go.Value.int
 i64 a.snd.snd.fst.fst),SV.val (Go.Value.int i64 a.snd.snd.fst.snd.fst),SV.val (Go.Value.int i64 a.snd.snd.fst.snd.snd)],HObj.box Md.rw ty138 [SV.junk,
 SV.junk,SV.junk]]∧post_1 (a_6.fst.fst,a_6.fst.snd.fst,a_6.fst.snd.snd,()) ()))∧∀ (x_10:Int × Int × Int × Unit) (y:Unit),post_1 x_10 y→∃ (post_2:Int × Int × Int ×
 Unit→Unit→Prop),(∀ (a_7:Bool),a_7=(x_6.fst==(2:Int))→Br a_7 (∃ (h:Z2s (a_2.fst.fst,a_2.fst.snd.fst,a_2.fst.snd.snd) (1:Int) (a.snd.fst.fst,
 a.snd.fst.snd.fst,a.snd.fst.snd.snd)),∀ (a_8:(Int × Int × Int) × Unit),a_8=Z31 (a_2.fst.fst,a_2.fst.snd.fst,a_2.fst.snd.snd) (1:Int) (a.snd.fst.fst,
 a.snd.fst.snd.fst,a.snd.fst.snd.snd)→HIs [HObj.box Md.rw ty138 [SV.val (Go.Value.int i64 a_2.fst.fst),SV.val (Go.Value.int i64 a_2.fst.snd.fst),SV.val
 (Go.Value.int i64 a_2.fst.snd.snd)],HObj.box Md.rw ty138 [SV.val (Go.Value.int i64 a.fst.fst),SV.val (Go.Value.int i64 a.fst.snd.fst),SV.val
 (Go.Value.int i64 a.fst.snd.snd)],HObj.box Md.rw ty138 [SV.val (Go.Value.int i64 a.snd.fst.fst),SV.val (Go.Value.int i64 a.snd.fst.snd.fst),SV.val
 (Go.Value.int i64 a.snd.fst.snd.snd)],HObj.box Md.rw ty138 [SV.val (Go.Value.int i64 a.snd.snd.fst.fst),SV.val (Go.Value.int i64 a.snd.snd.fst.snd.fst),
 SV.val (Go.Value.int i64 a.snd.snd.fst.snd.snd)],HObj.box Md.rw ty138 [SV.junk,SV.junk,SV.junk]] [HObj.box Md.rw ty138 [SV.val (Go.Value.int i64 a_2.fst.fst),
 SV.val (Go.Value.int i64 a_2.fst.snd.fst),SV.val (Go.Value.int i64 a_2.fst.snd.snd)],HObj.box Md.rw ty138 [SV.val (Go.Value.int i64 a.fst.fst),SV.val
 (Go.Value.int i64 a.fst.snd.fst),SV.val (Go.Value.int i64 a.fst.snd.snd)],HObj.box Md.rw ty138 [SV.val (Go.Value.int i64 a.snd.fst.fst),SV.val
 (Go.Value.int i64 a.snd.fst.snd.fst),SV.val (Go.Value.int i64 a.snd.fst.snd.snd)],HObj.box Md.rw ty138 [SV.val (Go.Value.int i64 a.snd.snd.fst.fst),
 SV.val (Go.Value.int i64 a.snd.snd.fst.snd.fst),SV.val (Go.Value.int i64 a.snd.snd.fst.snd.snd)],HObj.box Md.rw ty138 [SV.junk,SV.junk,SV.junk]]∧post_2
 (a_8.fst.fst,a_8.fst.snd.fst,a_8.fst.snd.snd,()) ()) (HIs [HObj.box Md.rw ty138 [SV.val (Go.Value.int i64 a_2.fst.fst),SV.val (Go.Value.int i64
 a_2.fst.snd.fst),SV.val (Go.Value.int i64 a_2.fst.snd.snd)],HObj.box Md.rw ty138 [SV.val (Go.Value.int i64 a.fst.fst),SV.val (Go.Value.int i64
 a.fst.snd.fst),SV.val (Go.Value.int i64 a.fst.snd.snd)],HObj.box Md.rw ty138 [SV.val (Go.Value.int i64 a.snd.fst.fst),SV.val (Go.Value.int i64
 a.snd.fst.snd.fst),SV.val (Go.Value.int i64 a.snd.fst.snd.snd)],HObj.box Md.rw ty138 [SV.val (Go.Value.int i64 a.snd.snd.fst.fst),SV.val (Go.Value.int
 i64 a.snd.snd.fst.snd.fst),SV.val (Go.Value.int i64 a.snd.snd.fst.snd.snd)],HObj.box Md.rw ty138 [SV.junk,SV.junk,SV.junk]] [HObj.box Md.rw ty138 [SV.val
 (Go.Value.int i64 a_2.fst.fst),SV.val (Go.Value.int i64 a_2.fst.snd.fst),SV.val (Go.Value.int i64 a_2.fst.snd.snd)],HObj.box Md.rw ty138 [SV.val
 (Go.Value.int i64 a.fst.fst),SV.val (Go.Value.int i64 a.fst.snd.fst),SV.val (Go.Value.int i64 a.fst.snd.snd)],HObj.box Md.rw ty138 [SV.val (Go.Value.int
 i64 a.snd.fst.fst),SV.val (Go.Value.int i64 a.snd.fst.snd.fst),SV.val (Go.Value.int i64 a.snd.fst.snd.snd)],HObj.box Md.rw ty138 [SV.val (Go.Value.int
 i64 a.snd.snd.fst.fst),SV.val (Go.Value.int i64 a.snd.snd.fst.snd.fst),SV.val (Go.Value.int i64 a.snd.snd.fst.snd.snd)],HObj.box Md.rw ty138 [SV.junk,
 SV.junk,SV.junk]]∧post_2 (x_10.fst,x_10.snd.fst,x_10.snd.snd.fst,()) ()))∧∀ (x_12:Int × Int × Int × Unit) (y:Unit),post_2 x_12 y→∃ (post_3:Int × Int × Int × Unit
 → Unit→Prop),(∀ (a_7:Bool),a_7=(x_6.fst==(3:Int))→Br a_7 (∃ (h:Z2s (a_2.fst.fst,a_2.fst.snd.fst,a_2.fst.snd.snd) (1:Int) (a.snd.snd.fst.fst,
 a.snd.snd.fst.snd.fst,a.snd.snd.fst.snd.snd)),∀ (a_8:(Int × Int × Int) × Unit),a_8=Z31 (a_2.fst.fst,a_2.fst.snd.fst,a_2.fst.snd.snd) (1:Int) (a.snd.snd.fst.fst,
 a.snd.snd.fst.snd.fst,a.snd.snd.fst.snd.snd)→HIs [HObj.box Md.rw (138:Nat) [SV.val (Go.Value.int i64 a_2.fst.fst),SV.val (Go.Value.int i64 a_2.fst.snd.fst),
 SV.val (Go.Value.int i64 a_2.fst.snd.snd)],HObj.box Md.rw (138:Nat) [SV.val (Go.Value.int i64 a.fst.fst),SV.val (Go.Value.int i64 a.fst.snd.fst),
 SV.val (Go.Value.int i64 a.fst.snd.snd)],HObj.box Md.rw (138:Nat) [SV.val (Go.Value.int i64 a.snd.fst.fst),SV.val (Go.Value.int i64 a.snd.fst.snd.fst),
 SV.val (Go.Value.int i64 a.snd.fst.snd.snd)],HObj.box Md.rw (138:Nat) [SV.val (Go.Value.int i64 a.snd.snd.fst.fst),SV.val (Go.Value.int i64
 a.snd.snd.fst.snd.fst),SV.val (Go.Value.int i64 a.snd.snd.fst.snd.snd)],HObj.box Md.rw (138:Nat) [SV.junk,SV.junk,SV.junk]] [HObj.box Md.rw (138:Nat) [SV.val
 (Go.Value.int i64 a_2.fst.fst),SV.val (Go.Value.int i64 a_2.fst.snd.fst),SV.val (Go.Value.int i64 a_2.fst.snd.snd)],HObj.box Md.rw (138:Nat) [SV.val
 (Go.Value.int i64 a.fst.fst),SV.val (Go.Value.int i64 a.fst.snd.fst),SV.val (Go.Value.int i64 a.fst.snd.snd)],HObj.box Md.rw (138:Nat) [SV.val
 (Go.Value.int i64 a.snd.fst.fst),SV.val (Go.Value.int i64 a.snd.fst.snd.fst),SV.val (Go.Value.int i64 a.snd.fst.snd.snd)],HObj.box Md.rw (138:Nat)
 [SV.val (Go.Value.int i64 a.snd.snd.fst.fst),SV.val (Go.Value.int i64 a.snd.snd.fst.snd.fst),SV.val (Go.Value.int i64 a.snd.snd.fst.snd.snd)],HObj.box
 Md.rw (138:Nat) [SV.junk,SV.junk,SV.junk]]∧post_3 (a_8.fst.fst,a_8.fst.snd.fst,a_8.fst.snd.snd,()) ()) (HIs [HObj.box Md.rw ty138 [SV.val (Go.Value.int i64
 a_2.fst.fst),SV.val (Go.Value.int i64 a_2.fst.snd.fst),SV.val (Go.Value.int i64 a_2.fst.snd.snd)],HObj.box Md.rw ty138 [SV.val (Go.Value.int i64
 a.fst.fst),SV.val (Go.Value.int i64 a.fst.snd.fst),SV.val (Go.Value.int i64 a.fst.snd.snd)],HObj.box Md.rw ty138 [SV.val (Go.Value.int i64
 a.snd.fst.fst),SV.val (Go.Value.int i64 a.snd.fst.snd.fst),SV.val (Go.Value.int i64 a.snd.fst.snd.snd)],HObj.box Md.rw ty138 [SV.val (Go.Value.int i64
 a.snd.snd.fst.fst),SV.val (Go.Value.int i64 a.snd.snd.fst.snd.fst),SV.val (Go.Value.int i64 a.snd.snd.fst.snd.snd)],HObj.box Md.rw ty138 [SV.junk,SV.junk,
 SV.junk]] [HObj.box Md.rw ty138 [SV.val (Go.Value.int i64 a_2.fst.fst),SV.val (Go.Value.int i64 a_2.fst.snd.fst),SV.val (Go.Value.int i64
 a_2.fst.snd.snd)],HObj.box Md.rw ty138 [SV.val (Go.Value.int i64 a.fst.fst),SV.val (Go.Value.int i64 a.fst.snd.fst),SV.val (Go.Value.int i64
 a.fst.snd.snd)],HObj.box Md.rw ty138 [SV.val (Go.Value.int i64 a.snd.fst.fst),SV.val (Go.Value.int i64 a.snd.fst.snd.fst),SV.val (Go.Value.int i64
 a.snd.fst.snd.snd)],HObj.box Md.rw ty138 [SV.val (Go.Value.int i64 a.snd.snd.fst.fst),SV.val (Go.Value.int i64 a.snd.snd.fst.snd.fst),SV.val (Go.Value.int
 i64 a.snd.snd.fst.snd.snd)],HObj.box Md.rw ty138 [SV.junk,SV.junk,SV.junk]]∧post_3 (x_12.fst,x_12.snd.fst,x_12.snd.snd.fst,()) ()))∧∀ (x_14:Int × Int × Int ×
 Unit) (y:Unit),post_3 x_14 y→∃ (h:Z168 (x_14.fst,x_14.snd.fst,x_14.snd.snd.fst) (a.snd.fst.fst,a.snd.fst.snd.fst,a.snd.fst.snd.snd)),∀ (a_7:Int × Unit),a_7=Zr6
 (x_14.fst,x_14.snd.fst,x_14.snd.snd.fst) (a.snd.fst.fst,a.snd.fst.snd.fst,a.snd.fst.snd.snd)→∃ (h:Z168 (x_14.fst,x_14.snd.fst,x_14.snd.snd.fst) (a.snd.snd.fst.fst,
 a.snd.snd.fst.snd.fst,a.snd.snd.fst.snd.snd)),∀ (a_8:Int × Unit),a_8=Zr6 (x_14.fst,x_14.snd.fst,x_14.snd.snd.fst) (a.snd.snd.fst.fst,a.snd.snd.fst.snd.fst,
 a.snd.snd.fst.snd.snd)→∃ (h:(2:Int)≠(0:Int)),∀ (a_9:Bool),a_9=((i64.wrap (i64.wrap (a_7.fst+n) - (1:Int))).tmod (2:Int) != (0:Int))→Br
 a_9 (HIs [HObj.box Md.rw (138:Nat) [SV.val (Go.Value.int i64 a_2.fst.fst),SV.val (Go.Value.int i64 a_2.fst.snd.fst),SV.val (Go.Value.int i64
 a_2.fst.snd.snd)],HObj.box Md.rw (138:Nat) [SV.val (Go.Value.int i64 a.fst.fst),SV.val (Go.Value.int i64 a.fst.snd.fst),SV.val (Go.Value.int i64
 a.fst.snd.snd)],HObj.box Md.rw (138:Nat) [SV.val (Go.Value.int i64 a.snd.fst.fst),SV.val (Go.Value.int i64 a.snd.fst.snd.fst),SV.val (Go.Value.int i64
 a.snd.fst.snd.snd)],HObj.box Md.rw (138:Nat) [SV.val (Go.Value.int i64 a.snd.snd.fst.fst),SV.val (Go.Value.int i64 a.snd.snd.fst.snd.fst),SV.val (Go.Value.int
 i64 a.snd.snd.fst.snd.snd)]] [HObj.box Md.rw (138:Nat) [SV.val (Go.Value.int i64 a_2.fst.fst),SV.val (Go.Value.int i64 a_2.fst.snd.fst),SV.val
 (Go.Value.int i64 a_2.fst.snd.snd)],HObj.box Md.rw (138:Nat) [SV.val (Go.Value.int i64 a.fst.fst),SV.val (Go.Value.int i64 a.fst.snd.fst),SV.val
 (Go.Value.int i64 a.fst.snd.snd)],HObj.box Md.rw (138:Nat) [SV.val (Go.Value.int i64 a.snd.fst.fst),SV.val (Go.Value.int i64 a.snd.fst.snd.fst),SV.val
 (Go.Value.int i64 a.snd.fst.snd.snd)],HObj.box Md.rw (138:Nat) [SV.val (Go.Value.int i64 a.snd.snd.fst.fst),SV.val (Go.Value.int i64
 a.snd.snd.fst.snd.fst),SV.val (Go.Value.int i64 a.snd.snd.fst.snd.snd)]]∧I_1 (i64.wrap (x_6.fst+(1:Int)),()) ()∧μ_1 (i64.wrap (x_6.fst+(1 :
 Int)),()) ()<μ_1 x_6 y_1) (∃ (h:(2:Int)≠(0:Int)),∀ (a_10:Bool),a_10=((i64.wrap (i64.wrap (a_8.fst+n) - (1:Int))).tmod (2:Int) != (0:Int))
 → Br a_10 (HIs [HObj.box Md.rw (138:Nat) [SV.val (Go.Value.int i64 a_2.fst.fst),SV.val (Go.Value.int i64 a_2.fst.snd.fst),SV.val (Go.Value.int i64
 a_2.fst.snd.snd)],HObj.box Md.rw (138:Nat) [SV.val (Go.Value.int i64 a.fst.fst),SV.val (Go.Value.int i64 a.fst.snd.fst),SV.val (Go.Value.int i64
 a.fst.snd.snd)],HObj.box Md.rw (138:Nat) [SV.val (Go.Value.int i64 a.snd.fst.fst),SV.val (Go.Value.int i64 a.snd.fst.snd.fst),SV.val (Go.Value.int i64
 a.snd.fst.snd.snd)],HObj.box Md.rw (138:Nat) [SV.val (Go.Value.int i64 a.snd.snd.fst.fst),SV.val (Go.Value.int i64 a.snd.snd.fst.snd.fst),SV.val (Go.Value.int
 i64 a.snd.snd.fst.snd.snd)]] [HObj.box Md.rw (138:Nat) [SV.val (Go.Value.int i64 a_2.fst.fst),SV.val (Go.Value.int i64 a_2.fst.snd.fst),SV.val
 (Go.Value.int i64 a_2.fst.snd.snd)],HObj.box Md.rw (138:Nat) [SV.val (Go.Value.int i64 a.fst.fst),SV.val (Go.Value.int i64 a.fst.snd.fst),SV.val
 (Go.Value.int i64 a.fst.snd.snd)],HObj.box Md.rw (138:Nat) [SV.val (Go.Value.int i64 a.snd.fst.fst),SV.val (Go.Value.int i64 a.snd.fst.snd.fst),SV.val
 (Go.Value.int i64 a.snd.fst.snd.snd)],HObj.box Md.rw (138:Nat) [SV.val (Go.Value.int i64 a.snd.snd.fst.fst),SV.val (Go.Value.int i64
 a.snd.snd.fst.snd.fst),SV.val (Go.Value.int i64 a.snd.snd.fst.snd.snd)]]∧I_1 (i64.wrap (x_6.fst+(1:Int)),()) ()∧μ_1 (i64.wrap (x_6.fst+(1 :
 Int)),()) ()<μ_1 x_6 y_1) (∃ (h:(2:Int)≠(0:Int)),∃ (h:(2:Int)≠(0:Int)),∃ (h:IIII n x.fst (i64.wrap ((i64.wrap (i64.wrap (a_7.fst +
 n) - (1:Int))).tdiv (2:Int))) (i64.wrap ((i64.wrap (i64.wrap (a_8.fst+n) - (1:Int))).tdiv (2:Int)))),∀ (a_11:Int × Unit),a_11=Zae n x.fst
 (i64.wrap ((i64.wrap (i64.wrap (a_7.fst+n) - (1:Int))).tdiv (2:Int))) (i64.wrap ((i64.wrap (i64.wrap (a_8.fst+n) - (1 :
 Int))).tdiv (2:Int)))→∀ (a_12:Bool),a_12=decide (a_11.fst≥(0:Int))→Br a_12 (∀ (a_13:Bool),a_13=(a_11.fst != c)→Br a_13 (post (a_11.fst,x_6.fst,())) (HIs
 [HObj.box Md.rw (138:Nat) [SV.val (Go.Value.int i64 a_2.fst.fst),SV.val (Go.Value.int i64 a_2.fst.snd.fst),SV.val (Go.Value.int i64 a_2.fst.snd.snd)],
 HObj.box Md.rw (138:Nat) [SV.val (Go.Value.int i64 a.fst.fst),SV.val (Go.Value.int i64 a.fst.snd.fst),SV.val (Go.Value.int i64 a.fst.snd.snd)],
 HObj.box Md.rw (138:Nat) [SV.val (Go.Value.int i64 a.snd.fst.fst),SV.val (Go.Value.int i64 a.snd.fst.snd.fst),SV.val (Go.Value.int i64
 a.snd.fst.snd.snd)],HObj.box Md.rw (138:Nat) [SV.val (Go.Value.int i64 a.snd.snd.fst.fst),SV.val (Go.Value.int i64 a.snd.snd.fst.snd.fst),SV.val (Go.Value.int
 i64 a.snd.snd.fst.snd.snd)]] [HObj.box Md.rw (138:Nat) [SV.val (Go.Value.int i64 a_2.fst.fst),SV.val (Go.Value.int i64 a_2.fst.snd.fst),SV.val
 (Go.Value.int i64 a_2.fst.snd.snd)],HObj.box Md.rw (138:Nat) [SV.val (Go.Value.int i64 a.fst.fst),SV.val (Go.Value.int i64 a.fst.snd.fst),SV.val
 (Go.Value.int i64 a.fst.snd.snd)],HObj.box Md.rw (138:Nat) [SV.val (Go.Value.int i64 a.snd.fst.fst),SV.val (Go.Value.int i64 a.snd.fst.snd.fst),SV.val
 (Go.Value.int i64 a.snd.fst.snd.snd)],HObj.box Md.rw (138:Nat) [SV.val (Go.Value.int i64 a.snd.snd.fst.fst),SV.val (Go.Value.int i64
 a.snd.snd.fst.snd.fst),SV.val (Go.Value.int i64 a.snd.snd.fst.snd.snd)]]∧I_1 (i64.wrap (x_6.fst+(1:Int)),()) ()∧μ_1 (i64.wrap (x_6.fst+(1 :
 Int)),()) ()<μ_1 x_6 y_1)) (HIs [HObj.box Md.rw (138:Nat) [SV.val (Go.Value.int i64 a_2.fst.fst),SV.val (Go.Value.int i64 a_2.fst.snd.fst),SV.val
 (Go.Value.int i64 a_2.fst.snd.snd)],HObj.box Md.rw (138:Nat) [SV.val (Go.Value.int i64 a.fst.fst),SV.val (Go.Value.int i64 a.fst.snd.fst),SV.val
 (Go.Value.int i64 a.fst.snd.snd)],HObj.box Md.rw (138:Nat) [SV.val (Go.Value.int i64 a.snd.fst.fst),SV.val (Go.Value.int i64 a.snd.fst.snd.fst),SV.val
 (Go.Value.int i64 a.snd.fst.snd.snd)],HObj.box Md.rw (138:Nat) [SV.val (Go.Value.int i64 a.snd.snd.fst.fst),SV.val (Go.Value.int i64
 a.snd.snd.fst.snd.fst),SV.val (Go.Value.int i64 a.snd.snd.fst.snd.snd)]] [HObj.box Md.rw (138:Nat) [SV.val (Go.Value.int i64 a_2.fst.fst),SV.val (Go.Value.int
 i64 a_2.fst.snd.fst),SV.val (Go.Value.int i64 a_2.fst.snd.snd)],HObj.box Md.rw (138:Nat) [SV.val (Go.Value.int i64 a.fst.fst),SV.val (Go.Value.int
 i64 a.fst.snd.fst),SV.val (Go.Value.int i64 a.fst.snd.snd)],HObj.box Md.rw (138:Nat) [SV.val (Go.Value.int i64 a.snd.fst.fst),SV.val (Go.Value.int
 i64 a.snd.fst.snd.fst),SV.val (Go.Value.int i64 a.snd.fst.snd.snd)],HObj.box Md.rw (138:Nat) [SV.val (Go.Value.int i64 a.snd.snd.fst.fst),SV.val
 (Go.Value.int i64 a.snd.snd.fst.snd.fst),SV.val (Go.Value.int i64 a.snd.snd.fst.snd.snd)]]∧I_1 (i64.wrap (x_6.fst+(1:Int)),()) ()∧μ_1
 (i64.wrap (x_6.fst+(1:Int)),()) ()<μ_1 x_6 y_1)))) (HIs [HObj.box Md.rw ty138 [SV.val (Go.Value.int i64 a_2.fst.fst),SV.val (Go.Value.int i64
 a_2.fst.snd.fst),SV.val (Go.Value.int i64 a_2.fst.snd.snd)]] [HObj.box Md.rw ty138 [SV.val (Go.Value.int i64 a_2.fst.fst),SV.val (Go.Value.int i64
 a_2.fst.snd.fst),SV.val (Go.Value.int i64 a_2.fst.snd.snd)]]∧I (i64.wrap (x.fst+(1:Int)),()) ()∧μ (i64.wrap (x.fst+(1:Int)),()) ()<μ x
 y))) (post ((-1:Int),(0:Int),()))))))
theorem Z18f (ty0:Nat) (n:Int) (c:Int) (o:Int) (h:III n c o):Zbb ty0 n c o (fun r=>r=Z1x n c o):=by
 have no:Zr n c o=false→((-1:Int),(0:Int),())=Z1x n c o:=by
  intro q
  have:Z7 n c o=(-1,0):=by unfold Z7; rw [if_neg (by rw [q]; decide)]
  unfold Z1x; rw [this]
 have nb:∀ p:Prop,(Zr n c o=true→p)→¬ p→Zr n c o=false:=fun p hp hn=>by
  cases q:Zr n c o with
  | false=>rfl
  | true=>exact absurd (hp q) hn
 rintro _ rfl
 refine Br.intro (fun e=>no (nb (0≤c) (fun q=>(Z2d (Z15.1 q).1).1) (by have:=of_decide_eq_true e; omega))) fun e1=>?_
 refine ⟨h.1,?_⟩
 rintro _ rfl
 refine Br.intro (fun e=>no (nb (c<Zb n) (fun q=>(Z2d (Z15.1 q).1).2) (by have:c≥Zb n:=of_decide_eq_true e; omega))) fun e2=>?_
 rintro _ rfl
 refine Br.intro (fun e=>no (nb (0≤o) (fun q=>(Z15.1 q).2.1) (by have:=of_decide_eq_true e; omega))) fun e3=>?_
 rintro _ rfl
 refine Br.intro (fun e=>no (nb (o<4) (fun q=>(Z15.1 q).2.2) (by have:=of_decide_eq_true e; omega))) fun e4=>?_
 have e1:=of_decide_eq_false e1
 have e2:¬ c≥Zb n:=of_decide_eq_false e2
 have e3:=of_decide_eq_false e3
 have e4:=of_decide_eq_false e4
 have hp:Zl n c=true:=by unfold Zl; rw [decide_eq_true (p:=0≤c) (by omega),decide_eq_true (p:=c<Zb n) (by omega)]; rfl
 have ok:Zr n c o=true:=Z15.2 ⟨hp,by omega,by omega⟩
 have hm:=Z3u hp
 obtain ⟨n1,n2,f0,f5,i0,i1,j0,j1⟩:=hm
 refine ⟨hp,?_⟩
 rintro _ rfl
 refine ⟨hp,?_⟩
 rintro _ rfl
 have bm:=Z1tt (Z3u hp)
 have bd:=Z1tu (c / (n*n)) o
 refine ⟨⟨bm.mono (by decide),by decide,by decide,bd.mono (by decide)⟩,?_⟩
 have be:=Z3i bm bd (k:=1) (q:=1) (by decide) (by decide)
 have hQ:Z7 n c o=(Z82 n c (Z1b (midP n (c / (n*n)) (c % n) (c / n % n)) 1 (dirP (c / (n*n)) o)) 6 0).getD (-1,0):=by
  rw [← Z1ka]; unfold Zo4; rw [if_pos ok]
 have hE:Z31 (Z1gk n c).1 1 (Z1gl n c o).1=(Z1b (midP n (c / (n*n)) (c % n) (c / n % n)) 1 (dirP (c / (n*n)) o),()):=rfl
 rw [hE]
 generalize Z1b (midP n (c / (n*n)) (c % n) (c / n % n)) 1 (dirP (c / (n*n)) o)=e at *
 rintro _ rfl
 refine ⟨rfl,fun x _=>∃ k:Nat,x.1=k∧k≤6∧Z7 n c o=(Z82 n c e (6 - k) k).getD (-1,0),fun x _=>6 - x.1.toNat,⟨0,rfl,by omega,hQ⟩,?_⟩
 rintro ⟨_,⟨⟩⟩ _ ⟨k,rfl,hk,hi⟩
 dsimp only
 rintro _ rfl
 refine Br.intro (fun g=>?_) fun g=>?_
 rotate_left
 ·have g:k=6:=by have g:¬ (k:Int)<6:=of_decide_eq_false g; omega
  subst g
  have hi:Z7 n c o=(-1,0):=hi
  unfold Z1x; rw [hi]
 have g:k<6:=by have g:(k:Int)<6:=of_decide_eq_true g; omega
 obtain ⟨r,hr⟩:∃ r,6 - k=r+1:=⟨5 - k,by omega⟩
 have hr':6 - (k+1)=r:=by omega
 rw [hr] at hi
 have hst:Z82 n c e (r+1) k=(valF n c e k).or (Z82 n c e r (k+1)):=by
  show (match valF n c e k with | some v=>some v | none=>Z82 n c e r (k+1))=_
  cases valF n c e k <;> rfl
 rw [hst] at hi
 obtain ⟨b1,b2,b3⟩:=Zeq (k:Int)
 refine ⟨trivial,?_⟩
 rintro _ rfl
 refine ⟨⟨be.mono (by decide),b1.mono (by decide)⟩,?_⟩
 rintro _ rfl
 rw [Z21 g (by omega)]
 rintro _ rfl
 refine Br.intro (fun q=>?_) fun q=>?_
 ·have q:dotP e (Z2 k).1≠n:=bne_iff_ne.1 q
  rw [Z1aa q] at hi
  exact ⟨rfl,⟨k+1,rfl,by omega,by rw [hr']; exact hi⟩,by omega⟩
 have q:dotP e (Z2 k).1=n:=by
  have q:(dotP e (Z2 k).1 != n)=false:=q
  simpa using q
 have hv:valF n c e k=Zah n c k e 4 0:=by unfold valF; rw [if_pos q]
 rw [hv] at hi
 refine ⟨rfl,fun x _=>∃ s:Nat,x.1=s∧s≤4∧Z7 n c o=((Zah n c k e (4 - s) s).or (Z82 n c e r (k+1))).getD (-1,0),fun x _=>4 - x.1.toNat,⟨0,rfl,by omega,hi⟩,?_⟩
 clear hi hv
 rintro ⟨_,⟨⟩⟩ _ ⟨s,rfl,hs,hi⟩
 dsimp only
 rintro _ rfl
 refine Br.intro (fun g2=>?_) fun g2=>?_
 rotate_left
 ·have g2:s=4:=by have g2:¬ (s:Int)<4:=of_decide_eq_false g2; omega
  subst g2
  exact ⟨rfl,⟨k+1,rfl,by omega,by rw [hr']; exact hi⟩,by omega⟩
 have g2:s<4:=by have g2:(s:Int)<4:=of_decide_eq_true g2; omega
 obtain ⟨r2,hr2⟩:∃ r2,4 - s=r2+1:=⟨3 - s,by omega⟩
 have hr2':4 - (s+1)=r2:=by omega
 rw [hr2] at hi
 have hst2:Zah n c k e (r2+1) s=(tryS n c k e s).or (Zah n c k e r2 (s+1)):=by
  show (match tryS n c k e s with | some v=>some v | none=>Zah n c k e r2 (s+1))=_
  cases tryS n c k e s <;> rfl
 rw [hst2] at hi
 rw [Z21 g2 (by omega)]
 have wm:∀ (z:Int) (b:Pt),-1≤z→z≤1→Bp 1 b→Z2s e z b:=fun z b h1 h2 hb=>⟨be.mono (by decide),by omega,by omega,hb.mono (by decide)⟩
 refine ⟨wm _ _ (by decide) (by decide) b2,?_⟩
 rintro _ rfl
 refine ⟨fun x _=>(x.1,x.2.1,x.2.2.1)=if (s:Int)=1 then Z1b e (-1) (Z2 k).2.2 else Z1b e (-1) (Z2 k).2.1,?_,?_⟩
 ·rintro _ rfl
  refine Br.intro (fun y=>?_) fun y=>?_
  ·refine ⟨wm _ _ (by decide) (by decide) b3,?_⟩
   rintro _ rfl
   exact ⟨rfl,by rw [if_pos (beq_iff_eq.1 y)]; rfl⟩
  ·exact ⟨rfl,by rw [if_neg (fun z=>by rw [z] at y; cases y)]; rfl⟩
 rintro ⟨p1,p2,p3,⟨⟩⟩ _ hp1
 refine ⟨fun x _=>(x.1,x.2.1,x.2.2.1)=if (s:Int)=2 then Z1b e 1 (Z2 k).2.1 else (p1,p2,p3),?_,?_⟩
 ·rintro _ rfl
  refine Br.intro (fun y=>?_) fun y=>?_
  ·refine ⟨wm _ _ (by decide) (by decide) b2,?_⟩
   rintro _ rfl
   exact ⟨rfl,by rw [if_pos (beq_iff_eq.1 y)]; rfl⟩
  ·exact ⟨rfl,by rw [if_neg (fun z=>by rw [z] at y; cases y)]⟩
 rintro ⟨q1,q2,q3,⟨⟩⟩ _ hp2
 refine ⟨fun x _=>(x.1,x.2.1,x.2.2.1)=if (s:Int)=3 then Z1b e 1 (Z2 k).2.2 else (q1,q2,q3),?_,?_⟩
 ·rintro _ rfl
  refine Br.intro (fun y=>?_) fun y=>?_
  ·refine ⟨wm _ _ (by decide) (by decide) b3,?_⟩
   rintro _ rfl
   exact ⟨rfl,by rw [if_pos (beq_iff_eq.1 y)]; rfl⟩
  ·exact ⟨rfl,by rw [if_neg (fun z=>by rw [z] at y; cases y)]⟩
 rintro ⟨t1,t2,t3,⟨⟩⟩ _ hp3
 have hM:(t1,t2,t3)=mP e (Z2 k).2.1 (Z2 k).2.2 s:=by
  have hp1:(p1,p2,p3)=_:=hp1
  have hp2:(q1,q2,q3)=_:=hp2
  have hp3:(t1,t2,t3)=_:=hp3
  unfold mP
  rw [hp3,hp2,hp1]
 have bM:Bp 98 (mP e (Z2 k).2.1 (Z2 k).2.2 s):=by
  unfold mP
  split
  ·exact Z3i be b3 (q:=1) (by decide) (by decide)
  ·split
   ·exact Z3i be b2 (q:=1) (by decide) (by decide)
   ·split
    ·exact Z3i be b3 (q:=1) (by decide) (by decide)
    ·exact Z3i be b2 (q:=1) (by decide) (by decide)
 dsimp only
 rw [hM]
 have dr:=Z1ln bM b2
 have du:=Z1ln bM b3
 refine ⟨⟨bM.mono (by decide),b2.mono (by decide)⟩,?_⟩
 rintro _ rfl
 refine ⟨⟨bM.mono (by decide),b3.mono (by decide)⟩,?_⟩
 rintro _ rfl
 have w1:i64.wrap (i64.wrap ((Zr6 (mP e (Z2 k).2.1 (Z2 k).2.2 s) ((Z4z (k:Int)).2.1.1,(Z4z (k:Int)).2.1.2.1,(Z4z (k:Int)).2.1.2.2)).1+n) - 1)=dotP (mP e (Z2 k).2.1 (Z2 k).2.2 s) (Z2 k).2.1+n - 1:=by
  show i64.wrap (i64.wrap (dotP (mP e (Z2 k).2.1 (Z2 k).2.2 s) (Z2 k).2.1+n) - 1)=_
  rw [wi (x:=dotP (mP e (Z2 k).2.1 (Z2 k).2.2 s) (Z2 k).2.1+n) ⟨by omega,by omega⟩,wi ⟨by omega,by omega⟩]
 have w2:i64.wrap (i64.wrap ((Zr6 (mP e (Z2 k).2.1 (Z2 k).2.2 s) ((Z4z (k:Int)).2.2.1.1,(Z4z (k:Int)).2.2.1.2.1,(Z4z (k:Int)).2.2.1.2.2)).1+n) - 1)=dotP (mP e (Z2 k).2.1 (Z2 k).2.2 s) (Z2 k).2.2+n - 1:=by
  show i64.wrap (i64.wrap (dotP (mP e (Z2 k).2.1 (Z2 k).2.2 s) (Z2 k).2.2+n) - 1)=_
  rw [wi (x:=dotP (mP e (Z2 k).2.1 (Z2 k).2.2 s) (Z2 k).2.2+n) ⟨by omega,by omega⟩,wi ⟨by omega,by omega⟩]
 have hT:tryS n c k e s=hitC c s (tryC n k (dotP (mP e (Z2 k).2.1 (Z2 k).2.2 s) (Z2 k).2.1+n - 1) (dotP (mP e (Z2 k).2.1 (Z2 k).2.2 s) (Z2 k).2.2+n - 1)):=rfl
 rw [hT] at hi
 rw [w1,w2]
 generalize dotP (mP e (Z2 k).2.1 (Z2 k).2.2 s) (Z2 k).2.1=Dr at *
 generalize dotP (mP e (Z2 k).2.1 (Z2 k).2.2 s) (Z2 k).2.2=Du at *
 obtain ⟨I0,hI0⟩:∃ I0,Dr+n - 1=I0:=⟨_,rfl⟩
 obtain ⟨J0,hJ0⟩:∃ J0,Du+n - 1=J0:=⟨_,rfl⟩
 rw [hI0,hJ0] at hi ⊢
 refine ⟨by decide,?_⟩
 rintro _ rfl
 refine Br.intro (fun y=>?_) fun y=>?_
 ·have y:Int.tmod I0 2≠0:=bne_iff_ne.1 y
  rw [show tryC n k I0 J0=none from if_pos (Or.inl y),Z30] at hi
  exact ⟨rfl,⟨s+1,rfl,by omega,by rw [hr2']; exact hi⟩,by omega⟩
 have y:Int.tmod I0 2=0:=by simpa using y
 refine ⟨by decide,?_⟩
 rintro _ rfl
 refine Br.intro (fun y2=>?_) fun y2=>?_
 ·have y2:Int.tmod J0 2≠0:=bne_iff_ne.1 y2
  rw [show tryC n k I0 J0=none from if_pos (Or.inr y2),Z30] at hi
  exact ⟨rfl,⟨s+1,rfl,by omega,by rw [hr2']; exact hi⟩,by omega⟩
 have y2:Int.tmod J0 2=0:=by simpa using y2
 rw [show tryC n k I0 J0=some (Zu n k (Int.tdiv I0 2) (Int.tdiv J0 2)) from if_neg (by rintro (z | z); exact z y; exact z y2)] at hi
 have a1:(Int.tdiv I0 2).natAbs≤I0.natAbs:=by rw [Int.natAbs_tdiv]; exact Nat.div_le_self _ _
 have a2:(Int.tdiv J0 2).natAbs≤J0.natAbs:=by rw [Int.natAbs_tdiv]; exact Nat.div_le_self _ _
 rw [wi (x:=Int.tdiv I0 2) ⟨by omega,by omega⟩,wi (x:=Int.tdiv J0 2) ⟨by omega,by omega⟩]
 refine ⟨by decide,by decide,⟨h.1,⟨by omega,by omega⟩,⟨by omega,by omega⟩,by omega,by omega⟩,?_⟩
 rintro _ rfl
 obtain ⟨d,hd⟩:∃ d,Zu n k (Int.tdiv I0 2) (Int.tdiv J0 2)=d:=⟨_,rfl⟩
 have hc:Zae n k (Int.tdiv I0 2) (Int.tdiv J0 2)=(d,()):=by rw [← hd]; rfl
 rw [hc]
 rw [hd] at hi
 rintro _ rfl
 refine Br.intro (fun z=>?_) fun z=>?_
 ·have z:d≥0:=of_decide_eq_true z
  rintro _ rfl
  refine Br.intro (fun y3=>?_) fun y3=>?_
  ·have y3:d≠c:=bne_iff_ne.1 y3
   rw [show hitC c s (some d)=some (d,(s:Int)) from if_pos ⟨z,y3⟩] at hi
   have hi:Z7 n c o=(d,(s:Int)):=hi
   unfold Z1x; rw [hi]
  ·have y3:d=c:=by simpa using y3
   rw [show hitC c s (some d)=none from if_neg fun w=>w.2 y3] at hi
   exact ⟨rfl,⟨s+1,rfl,by omega,by rw [hr2']; exact hi⟩,by omega⟩
 ·have z:¬ d≥0:=of_decide_eq_false z
  rw [show hitC c s (some d)=none from if_neg fun w=>z w.1] at hi
  exact ⟨rfl,⟨s+1,rfl,by omega,by rw [hr2']; exact hi⟩,by omega⟩
end Go.Lift

namespace Go.Lift
open Go.Proofs
def Z56:Con:=Con.nam [Z2r,.int .i64,Z2r] [.snap Z2r] (fun x=>Z2s x.1 x.2.1 x.2.2.1) (fun x=>Z31 x.1 x.2.1 x.2.2.1)
def Zpj:Cx:=⟨Zd Zf,Ze [],RbG⟩
theorem Zzb:CxOk Tryz.prog Zpj:=⟨Z3 Z6,fun f c h=>by cases h⟩
theorem Z18g:FnAt Tryz.prog 102 Tryz.f102.ntmps Tryz.f102.results.toList (Tryz.f102.body.getD .skip):=⟨Tryz.f102,Tryz.func102,rfl,rfl,by simp,by decide⟩
theorem Z18h (a:Int × Int × Int) (k:Int) (b:Int × Int × Int) (post:(Int × Int × Int) × Unit→Prop):Z9 Zpj nHn Tryz.f102.ntmps Tryz.f102.results.toList (Tryz.f102.body.getD .skip) [Z2r,.int .i64,Z2r] [.snap Z2r] (a,k,b,()) post=Z92  a k b post:=by kernel_rfl
theorem Z8c:Z56.holds Tryz.prog RbG 102 :=
 Zo (detP Zzb Z8 nHn Z18g (F:=fun x post=>Z92  x.1 x.2.1 x.2.2.1 post) (fun x post=>Z18h x.1 x.2.1 x.2.2.1 post) fun x h _=>Z1fy  x.1 x.2.1 x.2.2.1 h)
def Zt0:Con:=Con.nam [Z2r,Z2r] [.snap (.int .i64)] (fun x=>Z168 x.1 x.2.1) (fun x=>Zr6 x.1 x.2.1)
def Zt1:Cx:=⟨Zd Zf,Ze [],RbG⟩
theorem Z133:CxOk Tryz.prog Zt1:=⟨Z3 Z6,fun f c h=>by cases h⟩
theorem Z1c9:FnAt Tryz.prog 106 Tryz.f106.ntmps Tryz.f106.results.toList (Tryz.f106.body.getD .skip):=⟨Tryz.f106,Tryz.func106,rfl,rfl,by simp,by decide⟩
theorem Z1ca (a:Int × Int × Int) (b:Int × Int × Int) (post:Int × Unit→Prop):Z9 Zt1 nHn Tryz.f106.ntmps Tryz.f106.results.toList (Tryz.f106.body.getD .skip) [Z2r,Z2r] [.snap (.int .i64)] (a,b,()) post=Zb9  a b post:=by kernel_rfl
theorem Z1g0:Zt0.holds Tryz.prog RbG 106 :=
 Zo (detP Z133 Z8 nHn Z1c9 (F:=fun x post=>Zb9  x.1 x.2.1 post) (fun x post=>Z1ca x.1 x.2.1 post) fun x h _=>Z1j8  x.1 x.2.1 h)
def Z6z:Con:=Con.nam [.int .i64] [.snap Z2r,.snap Z2r,.snap Z2r] (fun _=>True) (fun x=>Z4z x.1)
def Zm1:Cx:=⟨Zd Zf,Ze [(102,Z56)],RbG⟩
theorem Zwo:CxOk Tryz.prog Zm1:=⟨Z3 Z6,Z5 ⟨Z8c,trivial⟩⟩
theorem Z134:FnAt Tryz.prog 105 Tryz.f105.ntmps Tryz.f105.results.toList (Tryz.f105.body.getD .skip):=⟨Tryz.f105,Tryz.func105,rfl,rfl,by simp,by decide⟩
theorem Z135 (f:Int) (post:(Int × Int × Int) × (Int × Int × Int) × (Int × Int × Int) × Unit→Prop):Z9 Zm1 nHn Tryz.f105.ntmps Tryz.f105.results.toList (Tryz.f105.body.getD .skip) [.int .i64] [.snap Z2r,.snap Z2r,.snap Z2r] (f,()) post=Zd6  f post:=by kernel_rfl
theorem Zbc:Z6z.holds Tryz.prog RbG 105 :=
 Zo (detP Zwo Z8 nHn Z134 (F:=fun x post=>Zd6  x.1 post) (fun x post=>Z135 x.1 post) fun x _ _=>Z1c8  x.1)
def Zpk:Con:=Con.nam [.int .i64,.int .i64,.int .i64,.int .i64] [.snap (.int .i64)] (fun x=>IIII x.1 x.2.1 x.2.2.1 x.2.2.2.1) (fun x=>Zae x.1 x.2.1 x.2.2.1 x.2.2.2.1)
def Zm2:Hn:=nHn
def Zpl:Cx:=⟨Zd Zf,Ze [(63,Z3g)],RbG⟩
theorem Zzc:CxOk Tryz.prog Zpl:=⟨Z3 Z6,Z5 ⟨Z4j,trivial⟩⟩
theorem Z18i:FnAt Tryz.prog 107 Tryz.f107.ntmps Tryz.f107.results.toList (Tryz.f107.body.getD .skip):=⟨Tryz.f107,Tryz.func107,rfl,rfl,by simp,by decide⟩
theorem Z18j (n:Int) (f:Int) (i:Int) (j:Int) (post:Int × Unit→Prop):Z9 Zpl Zm2 Tryz.f107.ntmps Tryz.f107.results.toList (Tryz.f107.body.getD .skip) [.int .i64,.int .i64,.int .i64,.int .i64] [.snap (.int .i64)] (n,f,i,j,()) post=Zg3  n f i j post:=by kernel_rfl
theorem Z1cb:Zpk.holds Tryz.prog RbG 107 :=
 Zo (detP Zzc Z8 Zm2 Z18i (F:=fun x post=>Zg3  x.1 x.2.1 x.2.2.1 x.2.2.2.1 post) (fun x post=>Z18j x.1 x.2.1 x.2.2.1 x.2.2.2.1 post) fun x h _=>Z1fz  x.1 x.2.1 x.2.2.1 x.2.2.2.1 h)
def Zje:Con:=Con.nam [.int .i64,.int .i64] [.snap Z2r] (fun x=>Z1ie x.1 x.2.1) (fun x=>Z1gk x.1 x.2.1)
def Zjf:Cx:=⟨Zd Zf,Ze [(130,Z6x),(105,Z6z),(102,Z56)],RbG⟩
theorem Ztn:CxOk Tryz.prog Zjf:=⟨Z3 Z6,Z5 ⟨Zb8,Zbc,Z8c,trivial⟩⟩
theorem Zzd:FnAt Tryz.prog 103 Tryz.f103.ntmps Tryz.f103.results.toList (Tryz.f103.body.getD .skip):=⟨Tryz.f103,Tryz.func103,rfl,rfl,by simp,by decide⟩
theorem Zze (n:Int) (c:Int) (post:(Int × Int × Int) × Unit→Prop):Z9 Zjf nHn Tryz.f103.ntmps Tryz.f103.results.toList (Tryz.f103.body.getD .skip) [.int .i64,.int .i64] [.snap Z2r] (n,c,()) post=Z6y  n c post:=by kernel_rfl
theorem Z136:Zje.holds Tryz.prog RbG 103 :=
 Zo (detP Ztn Z8 nHn Zzd (F:=fun x post=>Z6y  x.1 x.2.1 post) (fun x post=>Zze x.1 x.2.1 post) fun x h _=>Z18e  x.1 x.2.1 h)
def Zt2:Con:=Con.nam [.int .i64,.int .i64,.int .i64] [.snap Z2r] (fun x=>Z1ab x.1 x.2.1 x.2.2.1) (fun x=>Z1gl x.1 x.2.1 x.2.2.1)
def Zt3:Cx:=⟨Zd Zf,Ze [(130,Z6x),(105,Z6z),(102,Z56)],RbG⟩
theorem Z137:CxOk Tryz.prog Zt3:=⟨Z3 Z6,Z5 ⟨Zb8,Zbc,Z8c,trivial⟩⟩
theorem Z1cc:FnAt Tryz.prog 104 Tryz.f104.ntmps Tryz.f104.results.toList (Tryz.f104.body.getD .skip):=⟨Tryz.f104,Tryz.func104,rfl,rfl,by simp,by decide⟩
theorem Z1cd (n:Int) (c:Int) (o:Int) (post:(Int × Int × Int) × Unit→Prop):Z9 Zt3 nHn Tryz.f104.ntmps Tryz.f104.results.toList (Tryz.f104.body.getD .skip) [.int .i64,.int .i64,.int .i64] [.snap Z2r] (n,c,o,()) post=Zba  n c o post:=by kernel_rfl
theorem Z1g1:Zt2.holds Tryz.prog RbG 104 :=
 Zo (detP Z137 Z8 nHn Z1cc (F:=fun x post=>Zba  x.1 x.2.1 x.2.2.1 post) (fun x post=>Z1cd x.1 x.2.1 x.2.2.1 post) fun x h _=>Z1j9  x.1 x.2.1 x.2.2.1 h)
def Z9c:Con:=Con.nam [.int .i64,.int .i64,.int .i64] [.snap (.int .i64),.snap (.int .i64)] (fun x=>III x.1 x.2.1 x.2.2.1) (fun x=>Z1x x.1 x.2.1 x.2.2.1)
def Zgn:Hn:={ loops:=Z22 [(5,{ ls:=[(.slot 9,.data (.int .i64))],os:=[] }),(10,{ ls:=[(.slot 13,.data (.int .i64))],os:=[] })],joins:=Z22 [(15,{ ls:=[(.cell 4 0,.data (.int .i64)),(.cell 4 1,.data (.int .i64)),(.cell 4 2,.data (.int .i64))],os:=[] }),(17,{ ls:=[(.cell 4 0,.data (.int .i64)),(.cell 4 1,.data (.int .i64)),(.cell 4 2,.data (.int .i64))],os:=[] }),(19,{ ls:=[(.cell 4 0,.data (.int .i64)),(.cell 4 1,.data (.int .i64)),(.cell 4 2,.data (.int .i64))],os:=[] })],named:=true }
def Zjg:Cx:=⟨Zd Zf,Ze [(63,Z3g),(103,Zje),(104,Zt2),(102,Z56),(105,Z6z),(106,Zt0),(107,Zpk)],RbG⟩
theorem Zto:CxOk Tryz.prog Zjg:=⟨Z3 Z6,Z5 ⟨Z4j,Z136,Z1g1,Z8c,Zbc,Z1g0,Z1cb,trivial⟩⟩
theorem Zzf:FnAt Tryz.prog 64 Tryz.f64.ntmps Tryz.f64.results.toList (Tryz.f64.body.getD .skip):=⟨Tryz.f64,Tryz.func64,rfl,rfl,by simp,by decide⟩
theorem Zzg (n:Int) (c:Int) (o:Int) (post:Int × Int × Unit→Prop):Z9 Zjg Zgn Tryz.f64.ntmps Tryz.f64.results.toList (Tryz.f64.body.getD .skip) [.int .i64,.int .i64,.int .i64] [.snap (.int .i64),.snap (.int .i64)] (n,c,o,()) post=Zbb 138 n c o post:=by kernel_rfl
theorem Zjh:Z9c.holds Tryz.prog RbG 64 :=
 Zo (detP Zto Z8 Zgn Zzf (F:=fun x post=>Zbb 138 x.1 x.2.1 x.2.2.1 post) (fun x post=>Zzg x.1 x.2.1 x.2.2.1 post) fun x h _=>Z18f 138 x.1 x.2.1 x.2.2.1 h)
end Go.Lift

namespace Go.Lift
open Go.Proofs
def Zt4:Con:=Con.nam [.int .i64] [.snap (.ptr Z1g),.snap (.int .i64)] (fun x=>I64 x.1) (fun x=>Zaj x.1)
def Zpm:Hn:={ loops:=Z22 [(6,{ ls:=[(.slot 6,.data (.int .i64)),(.cell 1 1,.row 91 Z28)],os:=[(0,3,.int .i64)] }),(9,{ ls:=[(.slot 7,.data (.int .i64)),(.cell 1 1,.row 91 Z28)],os:=[(0,3,.int .i64)] })],joins:=fun _=>none,named:=true }
def Zt5:Cx:=⟨Zd Zf,Ze [(63,Z3g),(64,Z9c)],RbG⟩
theorem Z138:CxOk Tryz.prog Zt5:=⟨Z3 Z6,Z5 ⟨Z4j,Zjh,trivial⟩⟩
theorem Z1ce:FnAt Tryz.prog 25 Tryz.f25.ntmps Tryz.f25.results.toList (Tryz.f25.body.getD .skip):=⟨Tryz.f25,Tryz.func25,rfl,rfl,by simp,by decide⟩
theorem Z1cf (n:Int) (post:(Option (Int × (List (Int × Int × Int × Int)) × List Int)) × Int × Unit→Prop):Z9 Zt5 Zpm Tryz.f25.ntmps Tryz.f25.results.toList (Tryz.f25.body.getD .skip) [.int .i64] [.snap (.ptr Z1g),.snap (.int .i64)] (n,()) post=Zb7 3 95 n post:=by kernel_rfl
theorem Z1g2:Zt4.holds Tryz.prog RbG 25 :=
 Zo (detP Z138 Z8 Zpm Z1ce (F:=fun x post=>Zb7 3 95 x.1 post) (fun x post=>Z1cf x.1 post) fun x h _=>Z1j7 3 95 x.1 h)
def Z44:Con:=.det [.ptr Z1g] [.snap (.int .i64)] (fun _=>True) (fun x=>Z66 x.1)
def Z6n:Cx:=⟨Zd Zf,Ze [],RbG⟩
theorem Znl:CxOk Tryz.prog Z6n:=⟨Z3 Z6,fun f c h=>by cases h⟩
theorem Zrr:FnAt Tryz.prog 77 Tryz.f77.ntmps Tryz.f77.results.toList (Tryz.f77.body.getD .skip):=⟨Tryz.f77,Tryz.func77,rfl,rfl,by simp,by decide⟩
theorem Znm  (post:Int × Unit→Prop):Z9 Z6n nHn Tryz.f77.ntmps Tryz.f77.results.toList (Tryz.f77.body.getD .skip) [.ptr Z1g] [.snap (.int .i64)] (none,()) post=Z5v   post:=by kernel_rfl
theorem Znn (g:Int × (List (Int × Int × Int × Int)) × List Int) (post:Int × Unit→Prop):Z9 Z6n nHn Tryz.f77.ntmps Tryz.f77.results.toList (Tryz.f77.body.getD .skip) [.ptr Z1g] [.snap (.int .i64)] ((some g),()) post=Z5w  g post:=by kernel_rfl
def Ztp (x:KS [.ptr Z1g]) (post:RS [.snap (.int .i64)]→Prop):Prop:=match x with
 | (none,y)=>Z5v   post
 | (some g,y)=>Z5w  g post
theorem Z6o:Z44.holds Tryz.prog RbG 77 :=
 detP Znl Z8 nHn Zrr (F:=Ztp) (fun x post=>match x with
  | (none,y)=>Znm  post
  | (some g,y)=>Znn g post) fun x h w=>match x,h,w with
  | (none,y),h,w=>Zrp   w
  | (some g,y),h,w=>Zrq  g w
def Z5x:Con:=.det [.ptr Z1g] [.snap (.int .i64)] (fun x=>Zak x.1) (fun x=>Z34 x.1)
def Z5y:Cx:=⟨Zd Zf,Ze [(77,Z44),(63,Z3g)],RbG⟩
theorem Zjz:CxOk Tryz.prog Z5y:=⟨Z3 Z6,Z5 ⟨Z6o,Z4j,trivial⟩⟩
theorem Zpn:FnAt Tryz.prog 76 Tryz.f76.ntmps Tryz.f76.results.toList (Tryz.f76.body.getD .skip):=⟨Tryz.f76,Tryz.func76,rfl,rfl,by simp,by decide⟩
theorem Zk0  (post:Int × Unit→Prop):Z9 Z5y nHn Tryz.f76.ntmps Tryz.f76.results.toList (Tryz.f76.body.getD .skip) [.ptr Z1g] [.snap (.int .i64)] (none,()) post=Z52   post:=by kernel_rfl
theorem Zk1 (g:Int × (List (Int × Int × Int × Int)) × List Int) (post:Int × Unit→Prop):Z9 Z5y nHn Tryz.f76.ntmps Tryz.f76.results.toList (Tryz.f76.body.getD .skip) [.ptr Z1g] [.snap (.int .i64)] ((some g),()) post=Z53  g post:=by kernel_rfl
def Zrs (x:KS [.ptr Z1g]) (post:RS [.snap (.int .i64)]→Prop):Prop:=match x with
 | (none,y)=>Z52   post
 | (some g,y)=>Z53  g post
theorem Zbd:Z5x.holds Tryz.prog RbG 76 :=
 detP Zjz Z8 nHn Zpn (F:=Zrs) (fun x post=>match x with
  | (none,y)=>Zk0  post
  | (some g,y)=>Zk1 g post) fun x h w=>match x,h,w with
  | (none,y),h,w=>Zpf   h w
  | (some g,y),h,w=>Zpg  g h w
def Zbe:Con:=.det [.ptr Z1g] [.snap (.int .i64)] (fun _=>True) (fun x=>Zhr x.1)
def Z5z:Cx:=⟨Zd Zf,Ze [],RbG⟩
theorem Zk2:CxOk Tryz.prog Z5z:=⟨Z3 Z6,fun f c h=>by cases h⟩
theorem Zpo:FnAt Tryz.prog 93 Tryz.f93.ntmps Tryz.f93.results.toList (Tryz.f93.body.getD .skip):=⟨Tryz.f93,Tryz.func93,rfl,rfl,by simp,by decide⟩
theorem Zk3  (post:Int × Unit→Prop):Z9 Z5z nHn Tryz.f93.ntmps Tryz.f93.results.toList (Tryz.f93.body.getD .skip) [.ptr Z1g] [.snap (.int .i64)] (none,()) post=Z54   post:=by kernel_rfl
theorem Zk4 (g:Int × (List (Int × Int × Int × Int)) × List Int) (post:Int × Unit→Prop):Z9 Z5z nHn Tryz.f93.ntmps Tryz.f93.results.toList (Tryz.f93.body.getD .skip) [.ptr Z1g] [.snap (.int .i64)] ((some g),()) post=Z55  g post:=by kernel_rfl
def Zrt (x:KS [.ptr Z1g]) (post:RS [.snap (.int .i64)]→Prop):Prop:=match x with
 | (none,y)=>Z54   post
 | (some g,y)=>Z55  g post
theorem Zru:Zbe.holds Tryz.prog RbG 93 :=
 detP Zk2 Z8 nHn Zpo (F:=Zrt) (fun x post=>match x with
  | (none,y)=>Zk3  post
  | (some g,y)=>Zk4 g post) fun x h w=>match x,h,w with
  | (none,y),h,w=>Zph   w
  | (some g,y),h,w=>Zpi  g w
end Go.Lift

namespace Go.Lift
def Zg4:=fun (n c:Int) (post:Int × Unit→Prop)=>∃ (h:II n c),Br (!(Z0 n c).snd.snd.snd.fst) (post ((0:Int),())) (∃ (h:IIII n (Z0 n c).fst
 (Z0 n c).snd.fst (Z0 n c).snd.snd.fst),∃ (h:IIII n (Z0 n c).fst (i64.wrap ((Z0 n c).snd.fst+(1:Int))) (Z0 n c).snd.snd.fst),∃ (h:IIII n
 (Z0 n c).fst (i64.wrap ((Z0 n c).snd.fst+(1:Int))) (i64.wrap ((Z0 n c).snd.snd.fst+(1:Int)))),∃ (h:IIII n (Z0 n c).fst (Z0 n
 c).snd.fst (i64.wrap ((Z0 n c).snd.snd.fst+(1:Int)))),∃ (h:WV2 ((Zj n (Z0 n c).fst (i64.wrap ((Z0 n c).snd.fst+(1:Int)))
 (i64.wrap ((Z0 n c).snd.snd.fst+(1:Int)))).fst.fst,(Zj n (Z0 n c).fst (i64.wrap ((Z0 n c).snd.fst+(1:Int))) (i64.wrap
 ((Z0 n c).snd.snd.fst+(1:Int)))).fst.snd.fst,(Zj n (Z0 n c).fst (i64.wrap ((Z0 n c).snd.fst+(1:Int))) (i64.wrap ((Z0 n
 c).snd.snd.fst+(1:Int)))).fst.snd.snd) ((Zj n (Z0 n c).fst (Z0 n c).snd.fst (Z0 n c).snd.snd.fst).fst.fst,(Zj n (Z0 n c).fst (Z0 n
 c).snd.fst (Z0 n c).snd.snd.fst).fst.snd.fst,(Zj n (Z0 n c).fst (Z0 n c).snd.fst (Z0 n c).snd.snd.fst).fst.snd.snd)),∃ (h:WV2 ((Zj n (Z0 n
 c).fst (Z0 n c).snd.fst (i64.wrap ((Z0 n c).snd.snd.fst+(1:Int)))).fst.fst,(Zj n (Z0 n c).fst (Z0 n c).snd.fst (i64.wrap ((Z0 n
 c).snd.snd.fst+(1:Int)))).fst.snd.fst,(Zj n (Z0 n c).fst (Z0 n c).snd.fst (i64.wrap ((Z0 n c).snd.snd.fst+(1:Int)))).fst.snd.snd) ((Zj n
 (Z0 n c).fst (i64.wrap ((Z0 n c).snd.fst+(1:Int))) (Z0 n c).snd.snd.fst).fst.fst,(Zj n (Z0 n c).fst (i64.wrap ((Z0 n c).snd.fst
 + (1:Int))) (Z0 n c).snd.snd.fst).fst.snd.fst,(Zj n (Z0 n c).fst (i64.wrap ((Z0 n c).snd.fst+(1:Int))) (Z0 n c).snd.snd.fst).fst.snd.snd)),
 ∃ (h:True),∃ (h:WV (Zab (Z3l ((Zj n (Z0 n c).fst (i64.wrap ((Z0 n c).snd.fst+(1:Int))) (i64.wrap ((Z0 n c).snd.snd.fst+(1 :
 Int)))).fst.fst,(Zj n (Z0 n c).fst (i64.wrap ((Z0 n c).snd.fst+(1:Int))) (i64.wrap ((Z0 n c).snd.snd.fst+(1:Int)))).fst.snd.fst,
 (Zj n (Z0 n c).fst (i64.wrap ((Z0 n c).snd.fst+(1:Int))) (i64.wrap ((Z0 n c).snd.snd.fst+(1:Int)))).fst.snd.snd) ((Zj n (Z0 n
 c).fst (Z0 n c).snd.fst (Z0 n c).snd.snd.fst).fst.fst,(Zj n (Z0 n c).fst (Z0 n c).snd.fst (Z0 n c).snd.snd.fst).fst.snd.fst,(Zj n (Z0 n
 c).fst (Z0 n c).snd.fst (Z0 n c).snd.snd.fst).fst.snd.snd)).fst (Z3l ((Zj n (Z0 n c).fst (Z0 n c).snd.fst (i64.wrap ((Z0 n c).snd.snd.fst
 + (1:Int)))).fst.fst,(Zj n (Z0 n c).fst (Z0 n c).snd.fst (i64.wrap ((Z0 n c).snd.snd.fst+(1:Int)))).fst.snd.fst,(Zj n (Z0 n c).fst
 (Z0 n c).snd.fst (i64.wrap ((Z0 n c).snd.snd.fst+(1:Int)))).fst.snd.snd) ((Zj n (Z0 n c).fst (i64.wrap ((Z0 n c).snd.fst+(1:Int)))
 (Z0 n c).snd.snd.fst).fst.fst,(Zj n (Z0 n c).fst (i64.wrap ((Z0 n c).snd.fst+(1:Int))) (Z0 n c).snd.snd.fst).fst.snd.fst,(Zj n (Z0
 n c).fst (i64.wrap ((Z0 n c).snd.fst+(1:Int))) (Z0 n c).snd.snd.fst).fst.snd.snd)).fst).fst),∀ (a:Nat),FRes f64 (f64.format.mul
 (Z23 (Zab (Z3l ((Zj n (Z0 n c).fst (i64.wrap ((Z0 n c).snd.fst+(1:Int))) (i64.wrap ((Z0 n c).snd.snd.fst+(1:Int)))).fst.fst,
 (Zj n (Z0 n c).fst (i64.wrap ((Z0 n c).snd.fst+(1:Int))) (i64.wrap ((Z0 n c).snd.snd.fst+(1:Int)))).fst.snd.fst,(Zj n (Z0 n
 c).fst (i64.wrap ((Z0 n c).snd.fst+(1:Int))) (i64.wrap ((Z0 n c).snd.snd.fst+(1:Int)))).fst.snd.snd) ((Zj n (Z0 n c).fst (Z0 n
 c).snd.fst (Z0 n c).snd.snd.fst).fst.fst,(Zj n (Z0 n c).fst (Z0 n c).snd.fst (Z0 n c).snd.snd.fst).fst.snd.fst,(Zj n (Z0 n c).fst (Z0 n
 c).snd.fst (Z0 n c).snd.snd.fst).fst.snd.snd)).fst (Z3l ((Zj n (Z0 n c).fst (Z0 n c).snd.fst (i64.wrap ((Z0 n c).snd.snd.fst+(1 :
 Int)))).fst.fst,(Zj n (Z0 n c).fst (Z0 n c).snd.fst (i64.wrap ((Z0 n c).snd.snd.fst+(1:Int)))).fst.snd.fst,(Zj n (Z0 n c).fst (Z0
 n c).snd.fst (i64.wrap ((Z0 n c).snd.snd.fst+(1:Int)))).fst.snd.snd) ((Zj n (Z0 n c).fst (i64.wrap ((Z0 n c).snd.fst+(1:Int))) (Z0
 n c).snd.snd.fst).fst.fst,(Zj n (Z0 n c).fst (i64.wrap ((Z0 n c).snd.fst+(1:Int))) (Z0 n c).snd.snd.fst).fst.snd.fst,(Zj n (Z0 n c).fst
 (i64.wrap ((Z0 n c).snd.fst+(1:Int))) (Z0 n c).snd.snd.fst).fst.snd.snd)).fst).fst).fst (4602678819172646912:Nat)) a→∀ (a_1:Nat),FRes f64
 (f64.format.mul a (4742290407621132288:Nat)) a_1→∃ (h:W64 a_1),∀ (a:Bool),a=decide ((Z2y a_1).fst<(1:Int))→Br a (post ((1:Int),())) (post
 ((Z2y a_1).fst,())))
theorem Z1g3 (n:Int) (c:Int) (h:II n c):Zg4  n c (fun r=>r=Zko n c):=by
 refine ⟨h,?_⟩
 by_cases ok:Zl n c=true
 ·have hp:Z0 n c=(c / (n*n),c % n,c / n % n,true,()):=by unfold Z0; rw [if_pos ok]
  rw [hp]
  dsimp only
  obtain ⟨f1,f2,f3,f4,f5,f6⟩:=Z3s ok
  obtain ⟨g1,g2,g3,g4,g5,g6⟩:=Zen ok
  have w1:i64.wrap (c % n+1)=c % n+1:=wi ⟨by omega,by omega⟩
  have w2:i64.wrap (c / n % n+1)=c / n % n+1:=wi ⟨by omega,by omega⟩
  rw [w1,w2]
  have hc:∀ i j:Int,0≤i→i≤n→0≤j→j≤n→Zj n (c / (n*n)) i j=(Z2k n (c / (n*n)) i j,true,()):=by
   intro i j a1 a2 a3 a4
   have:Z2a n (c / (n*n)) i j=true:=by
    unfold Z2a
    rw [Z1n.2 ⟨f1,f2⟩,decide_eq_true g1,decide_eq_true g2,decide_eq_true a1,decide_eq_true a2,decide_eq_true a3,decide_eq_true a4]; rfl
   unfold Zj; rw [if_pos this]
  rw [hc (c % n) (c / n % n) g3 (by omega) g5 (by omega),hc (c % n+1) (c / n % n) (by omega) (by omega) g5 (by omega),hc (c % n+1) (c / n % n+1) (by omega) (by omega) (by omega) (by omega),hc (c % n) (c / n % n+1) g3 (by omega) (by omega) (by omega)]
  dsimp only
  have hw:∀ i j:Int,WV (Z2k n (c / (n*n)) i j):=fun i j=>Z9q _ _ _ _
  have i6:∀ {z:Int},0≤z→z≤6144→I64 z:=fun {z} a b=>⟨by omega,by omega⟩
  have hsp:Zdu n c=Zy (Zv3 (Zaa (Z2k n (c / (n*n)) (c % n+1) (c / n % n+1)) (Z2k n (c / (n*n)) (c % n) (c / n % n))) (Zaa (Z2k n (c / (n*n)) (c % n) (c / n % n+1)) (Z2k n (c / (n*n)) (c % n+1) (c / n % n)))):=by
   unfold Zdu Z1w; rw [Int.add_zero,Int.add_zero]
  have w00:=hw (c % n) (c / n % n)
  have w10:=hw (c % n+1) (c / n % n)
  have w11:=hw (c % n+1) (c / n % n+1)
  have w01:=hw (c % n) (c / n % n+1)
  generalize Z2k n (c / (n*n)) (c % n) (c / n % n)=A at *
  generalize Z2k n (c / (n*n)) (c % n+1) (c / n % n)=B at *
  generalize Z2k n (c / (n*n)) (c % n+1) (c / n % n+1)=C at *
  generalize Z2k n (c / (n*n)) (c % n) (c / n % n+1)=D at *
  refine Br.intro (fun e=>absurd e (by decide)) fun _=>?_
  refine ⟨⟨h.1,i6 g1 (by omega),i6 g3 (by omega),i6 g5 (by omega)⟩,⟨h.1,i6 g1 (by omega),i6 (by omega) (by omega),i6 g5 (by omega)⟩,⟨h.1,i6 g1 (by omega),i6 (by omega) (by omega),i6 (by omega) (by omega)⟩,⟨h.1,i6 g1 (by omega),i6 g3 (by omega),i6 (by omega) (by omega)⟩,⟨w11,w00⟩,⟨w01,w10⟩,trivial,Z1hu _ _,?_⟩
  intro x hx y hy
  obtain ⟨x1,x2⟩:=fmul hx
  obtain ⟨y1,y2⟩:=fmul hy
  have hx1:Zh x=mulQ (Zdu n c) Z2x:=by rw [x1,hsp]; rfl
  have hy1:Zh y=mulQ (mulQ (Zdu n c) Z2x) Zqz:=by
   rw [y1]
   have u:Zh x=Zh (mulQ (Zdu n c) Z2x):=by rw [hx1,Zhy]
   exact Z14k u rfl
  have hval:Zx n c=imax (Z2h y).1 1:=by
   unfold Zx; rw [if_pos ok,Z10q y2,hy1]
  refine ⟨y2,?_⟩
  rintro _ rfl
  refine Br.intro (fun e=>?_) fun e=>?_
  ·have e:(Z2h y).1<1:=of_decide_eq_true e
   exact congrArg r1 (by rw [hval]; unfold imax; rw [if_pos (by omega)])
  ·have e:¬ (Z2h y).1<1:=of_decide_eq_false e
   show r1 (Z2h y).1=r1 (Zx n c)
   exact congrArg r1 (by rw [hval]; unfold imax; rw [if_neg (by omega)])
 ·have hp:Z0 n c=(0,0,0,false,()):=by unfold Z0; rw [if_neg ok]
  rw [hp]
  refine Br.intro (fun e=>?_) fun e=>absurd e (by decide)
  exact congrArg r1 (by unfold Zx; rw [if_neg ok])
end Go.Lift

namespace Go.Lift
def Zd7:=fun (a b:Int) (post:Nat × Unit→Prop)=>∃ (h:I64 a),∃ (h:I64 b),∀ (a_1:Nat),FRes f64 (f64.format.div (ofIR a).fst
 (ofIR b).fst) a_1→post (a_1,())
theorem Z1cg (a:Int) (b:Int) (h:Z76 a b):Zd7  a b (fun r=>r=Z1s a b):=by
 exact ⟨h.1,h.2.2,fun r hr=>congrArg r1 (Zy3 h.1 h.2.1 h.2.2 hr)⟩
def Z7l:=fun (f i:Int) (s t:Nat) (post:Nat × Unit→Prop)=>∃ (h:(0:Int)≤f∧f<(↑(6:Nat):Int)),∃ (h:(0:Int)≤f∧f<(↑(6:Nat):Int)),∃
 (h:(0:Int)≤f∧f<(↑(6:Nat):Int)),∀ (a:Bool),a=([(1:Int),(2:Int),(-1:Int),(-2:Int),(3:Int),(-3:Int)].getD ((0:Nat)+f.toNat) (0:Int)==i) →
 Br a (∃ (h:W64 (4607182418800017408:Nat)),post ((Zk (4607182418800017408:Nat)).fst,())) (∀ (a:Bool),a=([(1:Int),(2:Int),(-1:Int),(-2:Int),(3:Int),
 (-3:Int)].getD ((0:Nat)+f.toNat) (0:Int)==i64.wrap ((0:Int) - i))→Br a (∃ (h:W64 (Go.Op.negFloat f64 (4607182418800017408:Nat))),post
 ((Zk (Go.Op.negFloat f64 (4607182418800017408:Nat))).fst,())) (∀ (a:Bool),a=([(2:Int),(-1:Int),(-2:Int),(1:Int),(2:Int),(2:Int)].getD ((0
 : Nat)+f.toNat) (0:Int)==i)→Br a (∃ (h:W64 s),post ((Zk s).fst,())) (∀ (a:Bool),a=([(2:Int),(-1:Int),(-2:Int),(1:Int),(2:Int),(2:Int)].getD
 ((0:Nat)+f.toNat) (0:Int)==i64.wrap ((0:Int) - i))→Br a (∃ (h:W64 (Go.Op.negFloat f64 s)),post ((Zk (Go.Op.negFloat f64
 s)).fst,())) (∀ (a:Bool),a=([(3:Int),(3:Int),(3:Int),(3:Int),(-1:Int),(1:Int)].getD ((0:Nat)+f.toNat) (0:Int)==i)→Br a (∃ (h:W64 t),post
 ((Zk t).fst,())) (∀ (a:Bool),a=([(3:Int),(3:Int),(3:Int),(3:Int),(-1:Int),(1:Int)].getD ((0:Nat)+f.toNat) (0:Int)==i64.wrap ((0:Int) -
 i))→Br a (∃ (h:W64 (Go.Op.negFloat f64 t)),post ((Zk (Go.Op.negFloat f64 t)).fst,())) (∃ (h:W64 (0:Nat)),post ((Zk (0:Nat)).fst,
 ())))))))
theorem Zwp (f:Int) (i:Int) (s:Nat) (t:Nat) (h:Z15y f i s t):Z7l  f i s t (fun r=>r=Z4s f i s t):=by
 obtain ⟨f0,f5,i1,i3,hs,ht⟩:=h
 have h1:W64 4607182418800017408:=by unfold W64; decide
 have hf:f=0∨f=1∨f=2∨f=3∨f=4∨f=5:=by omega
 have hi:i=1∨i=2∨i=3:=by omega
 have fin:∀ x k,Zhb f s t k=Z16 x→k=(i - 1).toNat→((Zk x).fst,())=Z4s f i s t:=by
  intro x k e q
  refine congrArg r1 ?_
  rw [← q,e]
  exact (Zmw x).symm
 rcases hf with rfl | rfl | rfl | rfl | rfl | rfl <;> rcases hi with rfl | rfl | rfl <;> refine ⟨by decide,by decide,by decide,?_⟩ <;>
  first
   | exact Z5m rfl ⟨h1,fin _ _ rfl rfl⟩
   | exact Z1o rfl (Z5m rfl ⟨Z15r h1,fin _ _ rfl rfl⟩)
   | exact Z1o rfl (Z1o rfl (Z5m rfl ⟨hs,fin _ _ rfl rfl⟩))
   | exact Z1o rfl (Z1o rfl (Z1o rfl (Z5m rfl ⟨Z15r hs,fin _ _ rfl rfl⟩)))
   | exact Z1o rfl (Z1o rfl (Z1o rfl (Z1o rfl (Z5m rfl ⟨ht,fin _ _ rfl rfl⟩))))
   | exact Z1o rfl (Z1o rfl (Z1o rfl (Z1o rfl (Z1o rfl (Z5m rfl ⟨Z15r ht,fin _ _ rfl rfl⟩)))))
def Zd8:=fun (f:Int) (s t:Nat) (post:(Nat × Nat × Nat) × Unit→Prop)=>∃ (h:Z15y f (1:Int) s t),∃ (h:Z15y f (2:Int) s t),∃ (h:Z15y f (3:Int) s
 t),∃ (h:WV ((Z4s f (1:Int) s t).fst,(Z4s f (2:Int) s t).fst,(Z4s f (3:Int) s t).fst)),post (((Zac ((Z4s f (1:Int) s t).fst,(Z4s f (2:Int) s t).fst,
 (Z4s f (3:Int) s t).fst)).fst.fst,(Zac ((Z4s f (1:Int) s t).fst,(Z4s f (2:Int) s t).fst,(Z4s f (3:Int) s t).fst)).fst.snd.fst,(Zac ((Z4s f (1:Int) s
 t).fst,(Z4s f (2:Int) s t).fst,(Z4s f (3:Int) s t).fst)).fst.snd.snd),())
theorem Z1ch (f:Int) (s:Nat) (t:Nat) (h:Zie f s t):Zd8  f s t (fun r=>r=Z4y f s t):=by
 obtain ⟨f0,f5,hs,ht⟩:=h
 have c:∀ i:Int,(Z4s f i s t).1=Zhb f s t (i - 1).toNat:=fun i=>Z1k8 f s t _
 refine ⟨⟨f0,f5,by decide,by decide,hs,ht⟩,⟨f0,f5,by decide,by decide,hs,ht⟩,⟨f0,f5,by decide,by decide,hs,ht⟩,?_⟩
 rw [c,c,c]
 exact ⟨⟨Zhp f hs ht _,Zhp f hs ht _,Zhp f hs ht _⟩,rfl⟩
def Zbf:=fun (n f i j:Int) (post:(Nat × Nat × Nat) × Bool × Unit→Prop)=>∀ (a:Bool),a=decide (n<(1:Int))→Br a (post (((0:Nat),(0:Nat),(0 :
 Nat)),false,())) (∀ (a:Bool),a=decide (n > (32:Int))→Br a (post (((0:Nat),(0:Nat),(0:Nat)),false,())) (∀ (a:Bool),a=decide (f<(0:Int))→Br
 a (post (((0:Nat),(0:Nat),(0:Nat)),false,())) (∀ (a:Bool),a=decide (f > (5:Int))→Br a (post (((0:Nat),(0:Nat),(0:Nat)),false,())) (∀ (a :
 Bool),a=decide (i<(0:Int))→Br a (post (((0:Nat),(0:Nat),(0:Nat)),false,())) (∀ (a:Bool),a=decide (i > n)→Br a (post (((0:Nat),(0:Nat),(0 :
 Nat)),false,())) (∀ (a:Bool),a=decide (j<(0:Int))→Br a (post (((0:Nat),(0:Nat),(0:Nat)),false,())) (∀ (a:Bool),a=decide (j > n)→Br a (post
 (((0:Nat),(0:Nat),(0:Nat)),false,())) (∃ (h:Z76 (i64.wrap (i64.wrap ((2:Int)*i) - n)) n),∃ (h:Z76 (i64.wrap (i64.wrap
 ((2:Int)*j) - n)) n),∃ (h:Zie f (Z1s (i64.wrap (i64.wrap ((2:Int)*i) - n)) n).fst (Z1s (i64.wrap (i64.wrap ((2:Int)*j) -
 n)) n).fst),post (((Z4y f (Z1s (i64.wrap (i64.wrap ((2:Int)*i) - n)) n).fst (Z1s (i64.wrap (i64.wrap ((2:Int)*j) - n))
 n).fst).fst.fst,(Z4y f (Z1s (i64.wrap (i64.wrap ((2:Int)*i) - n)) n).fst (Z1s (i64.wrap (i64.wrap ((2:Int)*j) - n))
 n).fst).fst.snd.fst,(Z4y f (Z1s (i64.wrap (i64.wrap ((2:Int)*i) - n)) n).fst (Z1s (i64.wrap (i64.wrap ((2:Int)*j) - n))
 n).fst).fst.snd.snd),true,())))))))))
theorem Z18k (n:Int) (f:Int) (i:Int) (j:Int) (h:IIII n f i j):Zbf  n f i j (fun r=>r=Zj n f i j):=by
 obtain ⟨hn,hf,hi,hj⟩:=h
 have bad:Z2a n f i j=false→(((0:Nat),(0:Nat),(0:Nat)),false,())=Zj n f i j:=by
  intro e; unfold Zj; rw [if_neg (by rw [e]; decide)]
 rintro _ rfl
 refine Br.intro (fun e=>bad ?_) fun e0=>?_
 ·have e:=of_decide_eq_true e
  unfold Z2a; rw [Zdv.2 (.inl e)]; rfl
 have e0:=of_decide_eq_false e0
 rintro _ rfl
 refine Br.intro (fun e=>bad ?_) fun e00=>?_
 ·have e:=of_decide_eq_true e
  unfold Z2a; rw [Zdv.2 (.inr e)]; rfl
 have e00:=of_decide_eq_false e00
 have hg:Z1i n=true:=Z1n.2 ⟨by omega,by omega⟩
 obtain ⟨n1,n2⟩:=Z1n.1 hg
 have no:¬ (0≤f∧f≤5∧0≤i∧i≤n∧0≤j∧j≤n)→Z2a n f i j=false:=by
  intro q
  rw [Bool.eq_false_iff]
  intro w
  unfold Z2a at w
  simp only [Bool.and_eq_true,decide_eq_true_eq] at w
  omega
 rintro _ rfl
 refine Br.intro (fun e=>bad (no (by have e:=of_decide_eq_true e; omega))) fun e1=>?_
 have e1:=of_decide_eq_false e1
 rintro _ rfl
 refine Br.intro (fun e=>bad (no (by have e:=of_decide_eq_true e; omega))) fun e2=>?_
 have e2:=of_decide_eq_false e2
 rintro _ rfl
 refine Br.intro (fun e=>bad (no (by have e:=of_decide_eq_true e; omega))) fun e3=>?_
 have e3:=of_decide_eq_false e3
 rintro _ rfl
 refine Br.intro (fun e=>bad (no (by have e:=of_decide_eq_true e; omega))) fun e4=>?_
 have e4:=of_decide_eq_false e4
 rintro _ rfl
 refine Br.intro (fun e=>bad (no (by have e:=of_decide_eq_true e; omega))) fun e5=>?_
 have e5:=of_decide_eq_false e5
 rintro _ rfl
 refine Br.intro (fun e=>bad (no (by have e:=of_decide_eq_true e; omega))) fun e6=>?_
 have e6:=of_decide_eq_false e6
 obtain ⟨w1,w2⟩:=Zhc n1 n2 (i:=i) (by omega) (by omega)
 obtain ⟨w3,w4⟩:=Zhc n1 n2 (i:=j) (by omega) (by omega)
 rw [w1,w3]
 refine ⟨w2,w4,⟨by omega,by omega,Z7u _ _,Z7u _ _⟩,?_⟩
 have ok:Z2a n f i j=true:=by
  unfold Z2a
  rw [hg,decide_eq_true (by omega),decide_eq_true (by omega),decide_eq_true (by omega),decide_eq_true (by omega),decide_eq_true (by omega),decide_eq_true (by omega)]
  rfl
 unfold Zj; rw [if_pos ok]; rfl
end Go.Lift

namespace Go.Lift
def Zbg:=fun (a:Int) (post:Int × Unit→Prop)=>HIs [] []∧∃ (I:Int × Int × Unit→Unit→Prop),∃ (μ:Int × Int × Unit→Unit→Nat),I (a,(0:Int),()) ()
 ∧ ∀ (x:Int × Int × Unit) (y:Unit),I x y→∀ (a:Bool),a=decide (x.fst > (0:Int))→Br a (∃ (h:(2:Int)≠(0:Int)),HIs [] []∧I (u64.wrap (x.fst.tdiv (2 :
 Int)),i64.wrap (x.snd.fst+(1:Int)),()) ()∧μ (u64.wrap (x.fst.tdiv (2:Int)),i64.wrap (x.snd.fst+(1:Int)),()) ()<μ x y) (post (x.snd.fst,
 ()))
theorem Z18l (a:Int) (h:U64 a):Zbg  a (fun r=>r=lenR a):=by
 have hlen:∀ m:Int,0<m→lenI m=lenI (m / 2)+1:=by
  intro m hm
  obtain ⟨k,rfl⟩:∃ k:Nat,m=k:=⟨m.toNat,by omega⟩
  unfold lenI
  rw [if_neg (by omega),Int.toNat_natCast]
  by_cases q:k=1
  ·subst q; rfl
  ·rw [if_neg (by omega),Nat.log2_def,if_pos (by omega),show ((k:Int) / 2).toNat=k / 2 by omega]; omega
 have hl64:∀ m:Int,U64 m→0≤lenI m∧lenI m≤64:=by
  intro m hm
  unfold lenI
  split
  ·omega
  ·rename_i q
   unfold U64 at hm
   have:=(Nat.log2_lt (n:=m.toNat) (k:=64) (by omega)).2 (by omega)
   omega
 refine ⟨rfl,fun x _=>U64 x.1∧0≤x.2.1∧x.2.1+lenI x.1=lenI a,fun x _=>x.1.toNat,⟨h,Int.le_refl 0,by show 0+lenI a=lenI a; omega⟩,?_⟩
 rintro ⟨m,n,⟨⟩⟩ _ ⟨hm,hn,he⟩
 dsimp only at hm hn he ⊢
 have ha:=hl64 a h
 rintro _ rfl
 refine Br.intro (fun e=>?_) fun e=>?_
 ·have e:0<m:=of_decide_eq_true e
  have hx:=hlen m e
  unfold U64 at hm
  have h2:U64 (m / 2):=⟨by omega,by omega⟩
  have hy:=hl64 _ h2
  rw [Int.tdiv_eq_ediv_of_nonneg (by omega),wu _ h2,wi (x:=n+1) ⟨by omega,by omega⟩]
  exact ⟨by decide,rfl,⟨h2,by omega,by omega⟩,by omega⟩
 ·have e:¬ m > 0:=of_decide_eq_false e
  have z:m=0:=by unfold U64 at hm; omega
  subst z
  refine congrArg r1 ?_
  have:lenI 0=0:=rfl
  omega
def Zg5:=fun (a b:Int) (post:Int × Int × Unit→Prop)=>∀ (a_1:Bool),a_1=decide (b > (63:Int))→Br a_1 (∀ (a_2:Bool),a_2=(a==(0:Int))→Br a_2
 (post ((0:Int),(0:Int),())) (post ((0:Int),(1:Int),()))) (∃ (h:(0:Int)≤u64.wrap b),∃ (h:(0:Int)≤u64.wrap b),∃ (h:(0:Int) ≤
 u64.wrap (i64.wrap (b - (1:Int)))),∀ (a_2:Bool),a_2=(u64.wrap (a - u64.wrap (a.fdiv ((2:Int) ^ Min.min (u64.wrap b).toNat
 u64.bits)*(2:Int) ^ Min.min (u64.wrap b).toNat u64.bits))==(0:Int))→Br a_2 (post (a.fdiv ((2:Int) ^ Min.min (u64.wrap b).toNat
 u64.bits),(0:Int),())) (∀ (a_3:Bool),a_3=decide (u64.wrap (a - u64.wrap (a.fdiv ((2:Int) ^ Min.min (u64.wrap b).toNat u64.bits)
 * (2:Int) ^ Min.min (u64.wrap b).toNat u64.bits))<u64.wrap ((1:Int)*(2:Int) ^ Min.min (u64.wrap (i64.wrap (b - (1:Int)))).toNat
 u64.bits))→Br a_3 (post (a.fdiv ((2:Int) ^ Min.min (u64.wrap b).toNat u64.bits),(1:Int),())) (∀ (a_4:Bool),a_4=(u64.wrap (a -
 u64.wrap (a.fdiv ((2:Int) ^ Min.min (u64.wrap b).toNat u64.bits)*(2:Int) ^ Min.min (u64.wrap b).toNat u64.bits))==u64.wrap
 ((1:Int)*(2:Int) ^ Min.min (u64.wrap (i64.wrap (b - (1:Int)))).toNat u64.bits))→Br a_4 (post (a.fdiv ((2:Int) ^ Min.min (u64.wrap
 b).toNat u64.bits),(2:Int),())) (post (a.fdiv ((2:Int) ^ Min.min (u64.wrap b).toNat u64.bits),(3:Int),())))))
theorem Z1g4 (a:Int) (b:Int) (h:Zkq a b):Zg5  a b (fun r=>r=Z7z a b):=by
 obtain ⟨a0,a1,b0,b1,b2⟩:=h
 obtain ⟨x,rfl⟩:∃ x:Nat,a=x:=⟨a.toNat,by omega⟩
 obtain ⟨k,rfl⟩:∃ k:Nat,b=k:=⟨b.toNat,by omega⟩
 have hd:Z7z (x:Int) (k:Int)=(((x / 2 ^ k:Nat):Int),Z4r x k,()):=by
  unfold Z7z; rw [Int.toNat_natCast,Int.toNat_natCast]
 have hp:0<2 ^ k:=Nat.two_pow_pos k
 rw [hd]
 rintro _ rfl
 refine Br.intro (fun e=>?_) fun e=>?_
 ·have e:(63:Int)<k:=of_decide_eq_true e
  have hk:2 ^ 63≤2 ^ k:=Nat.pow_le_pow_right (by decide) (by omega)
  have hx:x<2 ^ 62:=by omega
  have h62:(2:Nat) ^ 63=2*2 ^ 62:=by decide
  have hm:x % 2 ^ k=x:=Nat.mod_eq_of_lt (by omega)
  have hq:x / 2 ^ k=0:=Nat.div_eq_of_lt (by omega)
  rintro _ rfl
  refine Br.intro (fun f=>?_) fun f=>?_
  ·have f:(x:Int)=0:=eq_of_beq f
   rw [hq]; unfold Z4r; rw [hm,if_pos (by omega)]; rfl
  ·have f:x≠0:=by intro q; rw [q] at f; cases f
   rw [hq]; unfold Z4r; rw [hm,if_neg f,if_pos (by omega)]; rfl
 ·have e:¬ (63:Int)<k:=of_decide_eq_false e
  obtain ⟨j,rfl⟩:∃ j,k=j+1:=⟨k - 1,by omega⟩
  have w1:u64.wrap ((j+1:Nat):Int)=((j+1:Nat):Int):=wu1 ⟨by omega,by omega⟩
  have w2:i64.wrap (((j+1:Nat):Int) - 1)=(j:Int):=by rw [wi ⟨by omega,by omega⟩]; omega
  have w3:u64.wrap (j:Int)=(j:Int):=wu1 ⟨by omega,by omega⟩
  have m1:Min.min (j+1) u64.bits=j+1:=Nat.min_eq_left (by show j+1≤64; omega)
  have m2:Min.min j u64.bits=j:=Nat.min_eq_left (by show j≤64; omega)
  have c1:(2:Int) ^ (j+1)=((2 ^ (j+1):Nat):Int):=(Int.natCast_pow 2 (j+1)).symm
  have c2:(2:Int) ^ j=((2 ^ j:Nat):Int):=(Int.natCast_pow 2 j).symm
  have hs:2 ^ (j+1)=2*2 ^ j:=by rw [Nat.pow_succ]; omega
  have hj:2 ^ j≤2 ^ 62:=Nat.pow_le_pow_right (by decide) (by omega)
  have h62:(2:Nat) ^ 62=4611686018427387904:=by decide
  have fd:Int.fdiv (x:Int) ((2 ^ (j+1):Nat):Int)=((x / 2 ^ (j+1):Nat):Int):=by
   rw [Int.fdiv_eq_ediv_of_nonneg _ (by omega)]; rfl
  rw [w1,w2,w3,Int.toNat_natCast,Int.toNat_natCast,m1,m2,c1,c2,fd]
  have hdm:=Nat.div_add_mod x (2 ^ (j+1))
  have hml:=Nat.mod_lt x hp
  have hmul:((x / 2 ^ (j+1):Nat):Int)*((2 ^ (j+1):Nat):Int)=((2 ^ (j+1)*(x / 2 ^ (j+1)):Nat):Int):=by rw [← Int.natCast_mul,Nat.mul_comm]
  rw [hmul]
  generalize hQ:2 ^ (j+1)*(x / 2 ^ (j+1))=Q at *
  generalize hR:x % 2 ^ (j+1)=R at *
  have w4:u64.wrap (Q:Int)=Q:=wu1 ⟨by omega,by omega⟩
  have w5:u64.wrap ((x:Int) - Q)=R:=by rw [wu1 ⟨by omega,by omega⟩]; omega
  have w6:u64.wrap (1*((2 ^ j:Nat):Int))=((2 ^ j:Nat):Int):=by rw [Int.one_mul]; exact wu1 ⟨by omega,by omega⟩
  rw [w4,w5,w6]
  refine ⟨by omega,by omega,by omega,?_⟩
  have rr:Z4r x (j+1)=if R=0 then 0 else if 2*R<2 ^ (j+1) then 1 else if 2*R=2 ^ (j+1) then 2 else 3:=by unfold Z4r; rw [hR]
  rw [rr,hs]
  rintro _ rfl
  refine Br.intro (fun f=>?_) fun f=>?_
  ·have f:(R:Int)=0:=eq_of_beq f
   rw [if_pos (by omega)]
  have f:R≠0:=by intro q; rw [q] at f; cases f
  rw [if_neg f]
  rintro _ rfl
  refine Br.intro (fun g=>?_) fun g=>?_
  ·have g:=of_decide_eq_true g
   rw [if_pos (by omega)]
  have g:=of_decide_eq_false g
  rw [if_neg (by omega)]
  rintro _ rfl
  refine Br.intro (fun g2=>?_) fun g2=>?_
  ·have g2:(R:Int)=((2 ^ j:Nat):Int):=eq_of_beq g2
   rw [if_pos (by omega)]
  ·have g2:R≠2 ^ j:=by intro q; rw [q] at g2; simp at g2
   rw [if_neg (by omega)]
def Zg6:=fun (a b:Int) (post:Int × Unit→Prop)=>∃ (h:Zkq a b),∀ (a_1:Bool),a_1=((Z7z a b).snd.fst==(3:Int))→Br a_1 (post (u64.wrap
 ((Z7z a b).fst+(1:Int)),())) (∀ (a_2:Bool),a_2=((Z7z a b).snd.fst==(2:Int))→Br a_2 (∃ (h:(2:Int)≠(0:Int)),∀ (a_3:Bool),a_3=((Z7z a b).fst.tmod
 (2:Int)==(1:Int))→Br a_3 (post (u64.wrap ((Z7z a b).fst+(1:Int)),())) (post ((Z7z a b).fst,()))) (post ((Z7z a b).fst,())))
theorem Z1g5 (a:Int) (b:Int) (h:Zkq a b):Zg6  a b (fun r=>r=cutR a b):=by
 obtain ⟨a0,a1,b0,b1,b2⟩:=id h
 obtain ⟨x,rfl⟩:∃ x:Nat,a=x:=⟨a.toNat,by omega⟩
 obtain ⟨k,rfl⟩:∃ k:Nat,b=k:=⟨b.toNat,by omega⟩
 have hd:Z7z (x:Int) (k:Int)=(((x / 2 ^ k:Nat):Int),Z4r x k,()):=by
  unfold Z7z; rw [Int.toNat_natCast,Int.toNat_natCast]
 have hc:cutR (x:Int) (k:Int)=(((cutE x k:Nat):Int),()):=by
  unfold cutR; rw [Int.toNat_natCast,Int.toNat_natCast]; rfl
 have hq:x / 2 ^ k≤x / 2:=Nat.div_le_div_left (by have:=Nat.pow_le_pow_right (n:=2) (by decide) (show 1≤k by omega); omega) (by decide)
 generalize hQ:x / 2 ^ k=Q at *
 have w1:u64.wrap ((Q:Int)+1)=((Q+1:Nat):Int):=by rw [wu1 ⟨by omega,by omega⟩]; omega
 have tm:(Q:Int).tmod 2=((Q % 2:Nat):Int):=by rw [Int.tmod_eq_emod_of_nonneg (by omega)]; omega
 refine ⟨h,?_⟩
 rw [hd,hc]
 dsimp only
 rw [w1,tm]
 have r3:Z4r x k=3→2 ^ k<2*(x % 2 ^ k):=by
  unfold Z4r; split
  ·intro q; cases q
  ·split
   ·intro q; cases q
   ·split
    ·intro q; cases q
    ·intro _; omega
 have r2:Z4r x k=2→2 ^ k=2*(x % 2 ^ k):=by
  unfold Z4r; split
  ·intro q; cases q
  ·split
   ·intro q; cases q
   ·split
    ·intro _; omega
    ·intro q; cases q
 have r01:Z4r x k≠3→Z4r x k≠2→2*(x % 2 ^ k)<2 ^ k:=by
  have:=Nat.two_pow_pos k
  unfold Z4r; split
  ·intro _ _; omega
  ·split
   ·intro _ _; omega
   ·split
    ·intro _ q; exact absurd rfl q
    ·intro q; exact absurd rfl q
 rintro _ rfl
 refine Br.intro (fun e=>?_) fun e=>?_
 ·have e:=r3 (eq_of_beq e)
  unfold cutE; rw [hQ,if_pos (.inl e)]
 have e:Z4r x k≠3:=by intro q; rw [q] at e; cases e
 rintro _ rfl
 refine Br.intro (fun f=>?_) fun f=>?_
 ·have f:=r2 (eq_of_beq f)
  refine ⟨by decide,?_⟩
  rintro _ rfl
  refine Br.intro (fun g=>?_) fun g=>?_
  ·have g:((Q % 2:Nat):Int)=1:=eq_of_beq g
   unfold cutE; rw [hQ,if_pos (.inr ⟨f,by omega⟩)]
  ·have g:Q % 2≠1:=by intro q; rw [q] at g; cases g
   unfold cutE; rw [hQ,if_neg (by omega)]; rfl
 ·have f:Z4r x k≠2:=by intro q; rw [q] at f; cases f
  have:=r01 e f
  unfold cutE; rw [hQ,if_neg (by omega)]; rfl
def Zd9:=fun (m e p l f:Int) (post:Int × Unit→Prop)=>∀ (a:Bool),a=(m==(0:Int))→Br a (post ((0:Int),())) (∃ (h:U64 m),∃ (post_1:Int × Unit →
 Unit→Prop),(∀ (a:Bool),a=decide (i64.wrap (i64.wrap ((lenR m).fst+e) - i64.wrap (p+(1:Int)))<l)→Br a (HIs [] []∧post_1 (l,()) ()) (HIs
 [] []∧post_1 (i64.wrap (i64.wrap ((lenR m).fst+e) - i64.wrap (p+(1:Int))),()) ()))∧∀ (x:Int × Unit) (y:Unit),post_1 x y→∃ (post_2:Int ×
 Unit→Unit→Prop),(∀ (a:Bool),a=decide (e > x.fst)→Br a (∃ (h:(0:Int)≤u64.wrap (i64.wrap (e - x.fst))),HIs [] []∧post_2 (u64.wrap (m *
 (2:Int) ^ Min.min (u64.wrap (i64.wrap (e - x.fst))).toNat u64.bits),()) ()) (HIs [] []∧post_2 (m,()) ()))∧∀ (x_2:Int × Unit) (y:Unit),post_2
 x_2 y→∃ (post_3:Int × Unit→Unit→Prop),(∀ (a:Bool),a=decide (e<x.fst)→Br a (∃ (h:Zkq m (i64.wrap (x.fst - e))),HIs [] []∧post_3 ((cutR m
 (i64.wrap (x.fst - e))).fst,()) ()) (HIs [] []∧post_3 (x_2.fst,()) ()))∧∀ (x_4:Int × Unit) (y:Unit),post_3 x_4 y→∀ (a:Bool),a=decide (i64.wrap
 (x.fst - l)≥(1048576:Int))→Br a (post (f,())) (∃ (h:(0:Int)≤u64.wrap p),∀ (a:Bool),a=decide (u64.wrap (u64.wrap (u64.wrap
 (i64.wrap (x.fst - l))*(2:Int) ^ Min.min (u64.wrap p).toNat u64.bits)+x_4.fst) > f)→Br a (post (f,())) (post (u64.wrap (u64.wrap
 (u64.wrap (i64.wrap (x.fst - l))*(2:Int) ^ Min.min (u64.wrap p).toNat u64.bits)+x_4.fst),()))))
theorem Z1ci (m:Int) (e:Int) (p:Int) (l:Int) (f:Int) (h:Zv8 m e p l f):Zd9  m e p l f (fun r=>r=Zv7 m e p l f):=by
 obtain ⟨m0,m1,e0,e1,p0,p1,l0,l1,f0,f1⟩:=h
 have wf64:U64 m:=⟨m0,by omega⟩
 rintro _ rfl
 refine Br.intro (fun q=>?_) fun q=>?_
 ·have q:m=0:=eq_of_beq q
  refine congrArg r1 ?_
  unfold Zo1; rw [if_pos q]
 have mz:m≠0:=by intro r; rw [r] at q; cases q
 obtain ⟨n1,n2,n3⟩:=Z1lg (m:=m) (by omega) (k:=64) (by omega)
 have n62:m<4611686018427387904→lenI m≤62:=fun h=>(Z1lg (m:=m) (by omega) (k:=62) (by omega)).2.1
 have val:Zo1 m e p l f=min ((max (lenI m+e - (p+1)) l - l)*2 ^ p.toNat+(cutE (m.toNat*2 ^ (e - max (lenI m+e - (p+1)) l).toNat) (max (lenI m+e - (p+1)) l - e).toNat:Nat)) f:=by
  unfold Zo1; rw [if_neg mz]
 have w1:i64.wrap (i64.wrap ((lenR m).1+e) - i64.wrap (p+1))=lenI m+e - (p+1):=by
  show i64.wrap (i64.wrap (lenI m+e) - i64.wrap (p+1))=_
  rw [wi (x:=lenI m+e) ⟨by omega,by omega⟩,wi (x:=p+1) ⟨by omega,by omega⟩,wi ⟨by omega,by omega⟩]
 rw [w1]
 obtain ⟨u,hu⟩:∃ u,max (lenI m+e - (p+1)) l=u:=⟨_,rfl⟩
 rw [hu] at val
 have u1:l≤u∧lenI m+e - (p+1)≤u∧(u=l∨u=lenI m+e - (p+1)):=by omega
 refine ⟨wf64,fun x _=>x.1=u,?_,?_⟩
 ·rintro _ rfl
  refine Br.intro (fun g=>⟨rfl,?_⟩) fun g=>⟨rfl,?_⟩
  ·have g:=of_decide_eq_true g; show l=u; omega
  ·have g:=of_decide_eq_false g; show lenI m+e - (p+1)=u; omega
 rintro ⟨v,⟨⟩⟩ _ hv
 have hv:v=u:=hv
 rw [hv]
 dsimp only
 have sh:∀ d:Nat,(d:Int)≤p+1 - lenI m→m.toNat*2 ^ d<9007199254740992:=by
  intro d hd
  have a1:m.toNat*2 ^ d<2 ^ (lenI m).toNat*2 ^ d:=Nat.mul_lt_mul_of_pos_right n3 (Nat.two_pow_pos d)
  rw [← Nat.pow_add] at a1
  have a2:2 ^ ((lenI m).toNat+d)≤2 ^ 53:=Nat.pow_le_pow_right (by decide) (by omega)
  have a3:(2:Nat) ^ 53=9007199254740992:=by decide
  omega
 refine ⟨fun x _=>x.1=((m.toNat*2 ^ (e - u).toNat:Nat):Int),?_,?_⟩
 ·rintro _ rfl
  refine Br.intro (fun g=>?_) fun g=>⟨rfl,?_⟩
  ·have g:e > u:=of_decide_eq_true g
   have w2:i64.wrap (e - u)=e - u:=wi ⟨by omega,by omega⟩
   have w3:u64.wrap (e - u)=e - u:=wu1 ⟨by omega,by omega⟩
   rw [w2,w3]
   refine ⟨by omega,rfl,?_⟩
   have mn:Min.min (e - u).toNat u64.bits=(e - u).toNat:=Nat.min_eq_left (by show _≤64; omega)
   have c2:(2:Int) ^ (e - u).toNat=((2 ^ (e - u).toNat:Nat):Int):=(Int.natCast_pow 2 _).symm
   have hb:=sh (e - u).toNat (by omega)
   show u64.wrap (m*2 ^ Min.min (e - u).toNat u64.bits)=_
   rw [mn,c2]
   have hm:m=(m.toNat:Int):=by omega
   rw [hm,← Int.natCast_mul,Int.toNat_natCast,wu1 ⟨by omega,by omega⟩]
  ·have g:¬ e > u:=of_decide_eq_false g
   show m=_
   rw [show (e - u).toNat=0 by omega,Nat.pow_zero,Nat.mul_one]; omega
 rintro ⟨_,⟨⟩⟩ _ rfl
 dsimp only
 obtain ⟨K,hK⟩:∃ K,cutE (m.toNat*2 ^ (e - u).toNat) (u - e).toNat=K:=⟨_,rfl⟩
 rw [hK] at val
 have hKm:K≤9223372036854775808∧(m<4611686018427387904→K<4611686018427387904):=by
  rw [← hK]
  by_cases g:e<u
  ·rw [show (e - u).toNat=0 by omega,Nat.pow_zero,Nat.mul_one]
   have:=Zv9 m.toNat (u - e).toNat
   omega
  ·rw [show (u - e).toNat=0 by omega,Z3c]
   have:=sh (e - u).toNat (by omega)
   omega
 refine ⟨fun x _=>x.1=(K:Int),?_,?_⟩
 ·rintro _ rfl
  refine Br.intro (fun g=>?_) fun g=>⟨rfl,?_⟩
  ·have g:e<u:=of_decide_eq_true g
   have w2:i64.wrap (u - e)=u - e:=wi ⟨by omega,by omega⟩
   rw [w2]
   refine ⟨⟨m0,by omega,by omega,by omega,by omega⟩,rfl,?_⟩
   show ((cutE m.toNat (u - e).toNat:Nat):Int)=_
   rw [← hK,show (e - u).toNat=0 by omega,Nat.pow_zero,Nat.mul_one]
  ·have g:¬ e<u:=of_decide_eq_false g
   show ((m.toNat*2 ^ (e - u).toNat:Nat):Int)=_
   rw [← hK,show (u - e).toNat=0 by omega,Z3c]
 rintro ⟨v2,⟨⟩⟩ _ hv2
 have hv2:v2=(K:Int):=hv2
 rw [hv2]
 dsimp only
 have w4:i64.wrap (u - l)=u - l:=wi ⟨by omega,by omega⟩
 rw [w4]
 rintro _ rfl
 refine Br.intro (fun g=>absurd (of_decide_eq_true g) (by omega)) fun _=>?_
 have w5:u64.wrap p=p:=wu1 ⟨by omega,by omega⟩
 have w6:u64.wrap (u - l)=u - l:=wu1 ⟨by omega,by omega⟩
 have mp:Min.min p.toNat u64.bits=p.toNat:=Nat.min_eq_left (by show _≤64; omega)
 have cp:(2:Int) ^ p.toNat=((2 ^ p.toNat:Nat):Int):=(Int.natCast_pow 2 _).symm
 have pb:2 ^ p.toNat≤4503599627370496:=by
  have a:2 ^ p.toNat≤2 ^ 52:=Nat.pow_le_pow_right (by decide) (by omega)
  exact Nat.le_trans a (by decide)
 rw [w5,w6,mp]
 rw [cp] at val ⊢
 generalize 2 ^ p.toNat=B at *
 have ub:(u - l)*(B:Int)≤(u - l)*4503599627370496:=Int.mul_le_mul_of_nonneg_left (by omega) (by omega)
 have u0:0≤(u - l)*(B:Int):=Int.mul_nonneg (by omega) (by omega)
 generalize hV:(u - l)*(B:Int)=V at *
 have w7:u64.wrap V=V:=wu1 ⟨by omega,by omega⟩
 have w8:u64.wrap (V+K)=V+K:=wu1 ⟨by omega,by omega⟩
 rw [w7,w8]
 refine ⟨by omega,?_⟩
 rintro _ rfl
 refine Br.intro (fun g=>?_) fun g=>?_
 ·have g:=of_decide_eq_true g
  exact congrArg r1 (by rw [val]; omega)
 ·have g:=of_decide_eq_false g
  exact congrArg r1 (by rw [val]; omega)
def Z9d:=fun (a:Int) (post:Nat × Unit→Prop)=>∀ (a_1:Bool),a_1=decide (a<(0:Int))→Br a_1 (∃ (h:Zv8 (u64.wrap ((0:Int) -
 u64.wrap a)) (0:Int) (52:Int) (-1074:Int) (9218868437227405312:Int)),∃ (h:True),post ((Z7x (u64.wrap ((9223372036854775808:Int)+(Zv7
 (u64.wrap ((0:Int) - u64.wrap a)) (0:Int) (52:Int) (-1074:Int) (9218868437227405312:Int)).fst))).fst,())) (∃ (h:Zv8 (u64.wrap a) (0:Int)
 (52:Int) (-1074:Int) (9218868437227405312:Int)),∃ (h:True),post ((Z7x (u64.wrap ((0:Int)+(Zv7 (u64.wrap a) (0:Int) (52:Int) (-1074:Int)
 (9218868437227405312:Int)).fst))).fst,()))
theorem Z139 (a:Int) (h:I64 a):Z9d  a (fun r=>r=ofIR a):=by
 have key:∀ x:Nat,x≤9223372036854775808→Zv8 (x:Int) 0 52 (-1074) 9218868437227405312∧(Zv7 (x:Int) 0 52 (-1074) 9218868437227405312).1=((rnd x 0:Nat):Int):=by
  intro x hx
  refine ⟨⟨by omega,by omega,by omega,by omega,by omega,by omega,by omega,by omega,by omega,by omega⟩,?_⟩
  show Zo1 (x:Int) 0 52 (-1074) 9218868437227405312=_
  unfold Zo1 rnd
  by_cases z:x=0
  ·rw [if_pos (by omega),if_pos z]; rfl
  rw [if_neg (by omega),if_neg z]
  have hl:lenI (x:Int)=(x.log2:Int)+1:=by unfold lenI; rw [if_neg (by omega),Int.toNat_natCast]
  have hL:Z11 x 0=max (lenI (x:Int)+0 - (52+1)) (-1074):=by unfold Z11; rw [hl]; congr 1; omega
  rw [← hL,Int.toNat_natCast]
  have b1:(2:Int) ^ (52:Int).toNat=((bin:Nat):Int):=by decide
  have l0:-1074≤Z11 x 0:=by unfold Z11; omega
  rw [b1,show Z11 x 0 - -1074=(((Z11 x 0+1074).toNat:Nat):Int) by omega,← Int.natCast_mul,← Int.natCast_add]
  unfold infR
  omega
 have ofneg:a<0→ofI a=9223372036854775808+rnd a.natAbs 0:=by
  intro q
  show Ieee.double.nearest (decide (a<0)) a.natAbs 0=_
  rw [Z2e,decide_eq_true q]
  unfold Ieee.Format.word
  rw [if_pos rfl,show Ieee.double.signWeight=9223372036854775808 by decide]
 have ofpos:¬ a<0→ofI a=rnd a.natAbs 0:=by
  intro q
  show Ieee.double.nearest (decide (a<0)) a.natAbs 0=_
  rw [Z2e,decide_eq_false q]
  unfold Ieee.Format.word
  rw [if_neg (by decide)]
 obtain ⟨h1,h2⟩:=h
 have hrl:=Z1gr a.natAbs 0
 unfold infR at hrl
 rintro _ rfl
 refine Br.intro (fun e=>?_) fun e=>?_
 ·have e:a<0:=of_decide_eq_true e
  have hw:u64.wrap (0 - u64.wrap a)=(a.natAbs:Int):=by rw [IntKind.wrap_u64,IntKind.wrap_u64]; omega
  obtain ⟨k1,k2⟩:=key a.natAbs (by omega)
  rw [hw]
  refine ⟨k1,trivial,congrArg r1 ?_⟩
  rw [k2,wu1 ⟨by omega,by omega⟩,ofneg e]
  show (9223372036854775808+((rnd a.natAbs 0:Nat):Int)).toNat=_
  omega
 ·have e:¬ a<0:=of_decide_eq_false e
  have hw:u64.wrap a=(a.natAbs:Int):=by rw [IntKind.wrap_u64]; omega
  obtain ⟨k1,k2⟩:=key a.natAbs (by omega)
  rw [hw]
  refine ⟨k1,trivial,congrArg r1 ?_⟩
  rw [k2,wu1 ⟨by omega,by omega⟩,ofpos e]
  show (0+((rnd a.natAbs 0:Nat):Int)).toNat=_
  omega
def Zda:=fun (a:Nat) (post:Bool × Int × Int × Int × Unit→Prop)=>∃ (h:True),∃ (h:(0:Int)≤(63:Int)),∀ (a_1:Bool),a_1=((Z1k a).fst.fdiv ((2 :
 Int) ^ Min.min (Int.toNat (63:Int)) u64.bits)==(1:Int))→∃ (h:(0:Int)≤(52:Int)),∃ (h:(2048:Int)≠(0:Int)),∃ (h:(4503599627370496:Int)≠(0 :
 Int)),∀ (a_2:Bool),a_2=(i64.wrap (((Z1k a).fst.fdiv ((2:Int) ^ Min.min (Int.toNat (52:Int)) u64.bits)).tmod (2048:Int))==(2047:Int))→Br a_2 (∀
 (a_3:Bool),a_3=((Z1k a).fst.tmod (4503599627370496:Int)==(0:Int))→Br a_3 (post (a_1,(0:Int),(0:Int),(1:Int),())) (∀ (a_4:Bool),a_4=(i64.wrap
 (((Z1k a).fst.fdiv ((2:Int) ^ Min.min (Int.toNat (52:Int)) u64.bits)).tmod (2048:Int))==(2047:Int))→Br a_4 (post (a_1,(0:Int),(0:Int),(2:Int),()))
 (∀ (a_5:Bool),a_5=(i64.wrap (((Z1k a).fst.fdiv ((2:Int) ^ Min.min (Int.toNat (52:Int)) u64.bits)).tmod (2048:Int))==(0:Int))→Br a_5 (post (a_1,
 (Z1k a).fst.tmod (4503599627370496:Int),(-1074:Int),(0:Int),())) (post (a_1,u64.wrap ((Z1k a).fst.tmod (4503599627370496:Int)+(4503599627370496:Int)),
 i64.wrap (i64.wrap (((Z1k a).fst.fdiv ((2:Int) ^ Min.min (Int.toNat (52:Int)) u64.bits)).tmod (2048:Int)) - (1075:Int)),(0:Int),()))))) (∀
 (a_3:Bool),a_3=(i64.wrap (((Z1k a).fst.fdiv ((2:Int) ^ Min.min (Int.toNat (52:Int)) u64.bits)).tmod (2048:Int))==(2047:Int))→Br a_3 (post (a_1,
 (0:Int),(0:Int),(2:Int),())) (∀ (a_4:Bool),a_4=(i64.wrap (((Z1k a).fst.fdiv ((2:Int) ^ Min.min (Int.toNat (52:Int)) u64.bits)).tmod (2048 :
 Int))==(0:Int))→Br a_4 (post (a_1,(Z1k a).fst.tmod (4503599627370496:Int),(-1074:Int),(0:Int),())) (post (a_1,u64.wrap ((Z1k a).fst.tmod
 (4503599627370496:Int)+(4503599627370496:Int)),i64.wrap (i64.wrap (((Z1k a).fst.fdiv ((2:Int) ^ Min.min (Int.toNat (52:Int)) u64.bits)).tmod
 (2048:Int)) - (1075:Int)),(0:Int),()))))
theorem Z1cj (a:Nat) (h:W64 a):Zda  a (fun r=>r=Zv a):=by
 have h:a<18446744073709551616:=h
 have e63:(2:Int) ^ Min.min (Int.toNat (63:Int)) u64.bits=((9223372036854775808:Nat):Int):=by decide
 have e52:(2:Int) ^ Min.min (Int.toNat (52:Int)) u64.bits=((4503599627370496:Nat):Int):=by decide
 have f63:Int.fdiv (a:Int) ((9223372036854775808:Nat):Int)=((a / 9223372036854775808:Nat):Int):=by
  rw [Int.fdiv_eq_ediv_of_nonneg _ (by omega)]; rfl
 have f52:Int.fdiv (a:Int) ((4503599627370496:Nat):Int)=((a / 4503599627370496:Nat):Int):=by
  rw [Int.fdiv_eq_ediv_of_nonneg _ (by omega)]; rfl
 have ht:((a / 4503599627370496:Nat):Int).tmod 2048=((a / 4503599627370496 % 2048:Nat):Int):=by
  rw [Int.tmod_eq_emod_of_nonneg (by omega)]; omega
 have hF:a / 4503599627370496 % 2048<2048:=Nat.mod_lt _ (by decide)
 have wF:i64.wrap ((a / 4503599627370496 % 2048:Nat):Int)=((a / 4503599627370496 % 2048:Nat):Int):=wi ⟨by omega,by omega⟩
 have hM:(a:Int).tmod 4503599627370496=((a % 4503599627370496:Nat):Int):=by
  rw [Int.tmod_eq_emod_of_nonneg (by omega)]; omega
 have hr:Z1 a=a / 4503599627370496 % 2048*4503599627370496+a % 4503599627370496:=by unfold Z1 sw; omega
 have hs:(((a / 9223372036854775808:Nat):Int)==1)=sgn a:=by
  unfold sgn sw
  rw [show a / 9223372036854775808 % 2=a / 9223372036854775808 by omega]
  by_cases q:a / 9223372036854775808=1
  ·rw [q]; rfl
  ·have q0:a / 9223372036854775808=0:=by omega
   rw [q0]; rfl
 have hb:(Z1k a).1=(a:Int):=rfl
 refine ⟨trivial,by decide,?_⟩
 rw [hb,e63,e52,f63,f52,ht,wF,hM,hs]
 generalize a / 4503599627370496 % 2048=Fd at *
 have hMl:a % 4503599627370496<4503599627370496:=Nat.mod_lt _ (by decide)
 generalize a % 4503599627370496=M at *
 have fin:∀ m e w,(if Z1 a<infR then (Zn (Z1 a):Int) else 0)=m→(if Z1 a<infR then Z4 (Z1 a) else 0)=e→Zhd a=w→(sgn a,m,e,w,())=Zv a:=by
  rintro _ _ _ rfl rfl rfl; rfl
 have sub:Fd=0→((sgn a,(M:Int),(-1074:Int),(0:Int),()):Bool × Int × Int × Int × Unit)=Zv a:=by
  intro q
  have r1':Z1 a=M:=by rw [hr,q]; omega
  have r2':M<infR:=by unfold infR; omega
  refine fin _ _ _ ?_ ?_ ?_
  ·rw [r1',if_pos r2']; unfold Zn; rw [if_pos (by unfold bin; omega)]
  ·rw [r1',if_pos r2']; unfold Z4; rw [if_pos (by unfold bin; omega)]
  ·unfold Zhd; rw [r1',if_pos r2']
 have nor:Fd≠0→Fd≠2047→((sgn a,u64.wrap ((M:Int)+4503599627370496),i64.wrap ((Fd:Int) - 1075),(0:Int),()):Bool × Int × Int × Int × Unit)=Zv a:=by
  intro q q2
  have r2':Z1 a<infR:=by rw [hr]; unfold infR; omega
  have r3':¬ Z1 a<bin:=by rw [hr]; unfold bin; omega
  have d1:Z1 a / bin=Fd:=by rw [hr]; unfold bin; omega
  have d2:Z1 a % bin=M:=by rw [hr]; unfold bin; omega
  rw [wu1 (x:=(M:Int)+4503599627370496) ⟨by omega,by omega⟩,wi (x:=(Fd:Int) - 1075) ⟨by omega,by omega⟩]
  refine fin _ _ _ ?_ ?_ ?_
  ·rw [if_pos r2']; unfold Zn; rw [if_neg r3',d2]; unfold bin; omega
  ·rw [if_pos r2']; unfold Z4; rw [if_neg r3',d1]; omega
  ·unfold Zhd; rw [if_pos r2']
 rintro _ rfl
 refine ⟨by decide,by decide,by decide,?_⟩
 rintro _ rfl
 refine Br.intro (fun e=>?_) fun e=>?_
 ·have e:(Fd:Int)=2047:=eq_of_beq e
  have r2':¬ Z1 a<infR:=by rw [hr]; unfold infR; omega
  rintro _ rfl
  refine Br.intro (fun f=>?_) fun f=>?_
  ·have f:(M:Int)=0:=eq_of_beq f
   refine fin _ _ _ (if_neg r2') (if_neg r2') ?_
   unfold Zhd; rw [if_neg r2',if_pos (by rw [hr]; unfold infR; omega)]
  ·have f:M≠0:=by intro q; rw [q] at f; cases f
   refine Z5m (by rw [e]; rfl) ?_
   refine fin _ _ _ (if_neg r2') (if_neg r2') ?_
   unfold Zhd; rw [if_neg r2',if_neg (by rw [hr]; unfold infR; omega)]
 ·have e:Fd≠2047:=by intro q; rw [q] at e; cases e
  refine Z1o (by simp; omega) ?_
  rintro _ rfl
  refine Br.intro (fun f=>?_) fun f=>?_
  ·have f:(Fd:Int)=0:=eq_of_beq f
   exact sub (by omega)
  ·have f:Fd≠0:=by intro q; rw [q] at f; cases f
   exact nor f e
def Zdb:=fun (a b:Int) (post:Nat × Unit→Prop)=>∀ (a_1:Bool),a_1=decide (a<(1:Int))→Br a_1 (post ((0:Nat),())) (∀ (a_2:Bool),a_2=decide (b <
 (1:Int))→Br a_2 (post ((0:Nat),())) (∃ (h:I64 a),∃ (h:I64 b),∀ (a_3:Nat),FRes f64 (f64.format.div (ofIR a).fst (ofIR b).fst) a_3→post
 (a_3,())))
theorem Z1ck (a:Int) (b:Int) (h:II a b):Zdb  a b (fun r=>r=Zid a b):=by
 rintro _ rfl
 refine Br.intro (fun e=>?_) fun e=>?_
 ·exact congrArg r1 (by unfold Zic; rw [if_pos (.inl (of_decide_eq_true e))])
 ·rintro _ rfl
  refine Br.intro (fun f=>?_) fun f=>?_
  ·exact congrArg r1 (by unfold Zic; rw [if_pos (.inr (of_decide_eq_true f))])
  ·have e:=of_decide_eq_false e
   have f:=of_decide_eq_false f
   refine ⟨h.1,h.2,fun r hr=>congrArg r1 ?_⟩
   rw [Zy3 h.1 (by omega) h.2 hr]
   unfold Zic; rw [if_neg (by omega)]
end Go.Lift

namespace Go.Lift
open Go.Proofs
def Zji:Con:=.det [.int .u64] [.snap (.int .i64)] (fun x=>U64 x.1) (fun x=>lenR x.1)
def Zgo:Hn:={ loops:=Z22 [(2,{ ls:=[(.slot 0,.data (.int .u64)),(.slot 3,.data (.int .i64))],os:=[] })],joins:=fun _=>none,named:=true }
def Zjj:Cx:=⟨Zd Zf,Ze [],RbG⟩
theorem Ztq:CxOk Tryz.prog Zjj:=⟨Z3 Z6,fun f c h=>by cases h⟩
theorem Zzh:FnAt Tryz.prog 154 Tryz.f154.ntmps Tryz.f154.results.toList (Tryz.f154.body.getD .skip):=⟨Tryz.f154,Tryz.func154,rfl,rfl,by simp,by decide⟩
theorem Zzi (a:Int) (post:Int × Unit→Prop):Z9 Zjj Zgo Tryz.f154.ntmps Tryz.f154.results.toList (Tryz.f154.body.getD .skip) [.int .u64] [.snap (.int .i64)] (a,()) post=Zbg  a post:=by kernel_rfl
theorem Z13a:Zji.holds Tryz.prog RbG 154 :=
 detP Ztq Z8 Zgo Zzh (F:=fun x post=>Zbg  x.1 post) (fun x post=>Zzi x.1 post) fun x h _=>Z18l  x.1 h
def Zpp:Con:=.det [.int .u64,.int .i64] [.snap (.int .u64),.snap (.int .i64)] (fun x=>Zkq x.1 x.2.1) (fun x=>Z7z x.1 x.2.1)
def Zpq:Cx:=⟨Zd Zf,Ze [],RbG⟩
theorem Zzj:CxOk Tryz.prog Zpq:=⟨Z3 Z6,fun f c h=>by cases h⟩
theorem Z18m:FnAt Tryz.prog 174 Tryz.f174.ntmps Tryz.f174.results.toList (Tryz.f174.body.getD .skip):=⟨Tryz.f174,Tryz.func174,rfl,rfl,by simp,by decide⟩
theorem Z18n (a:Int) (b:Int) (post:Int × Int × Unit→Prop):Z9 Zpq nHn Tryz.f174.ntmps Tryz.f174.results.toList (Tryz.f174.body.getD .skip) [.int .u64,.int .i64] [.snap (.int .u64),.snap (.int .i64)] (a,b,()) post=Zg5  a b post:=by kernel_rfl
theorem Z1cl:Zpp.holds Tryz.prog RbG 174 :=
 detP Zzj Z8 nHn Z18m (F:=fun x post=>Zg5  x.1 x.2.1 post) (fun x post=>Z18n x.1 x.2.1 post) fun x h _=>Z1g4  x.1 x.2.1 h
def Zdc:Con:=.det [.int .u64,.int .i64] [.snap (.int .u64)] (fun x=>Zkq x.1 x.2.1) (fun x=>cutR x.1 x.2.1)
def Zpr:Cx:=⟨Zd Zf,Ze [(174,Zpp)],RbG⟩
theorem Zzk:CxOk Tryz.prog Zpr:=⟨Z3 Z6,Z5 ⟨Z1cl,trivial⟩⟩
theorem Z18o:FnAt Tryz.prog 155 Tryz.f155.ntmps Tryz.f155.results.toList (Tryz.f155.body.getD .skip):=⟨Tryz.f155,Tryz.func155,rfl,rfl,by simp,by decide⟩
theorem Z18p (a:Int) (b:Int) (post:Int × Unit→Prop):Z9 Zpr nHn Tryz.f155.ntmps Tryz.f155.results.toList (Tryz.f155.body.getD .skip) [.int .u64,.int .i64] [.snap (.int .u64)] (a,b,()) post=Zg6  a b post:=by kernel_rfl
theorem Zps:Zdc.holds Tryz.prog RbG 155 :=
 detP Zzk Z8 nHn Z18o (F:=fun x post=>Zg6  x.1 x.2.1 post) (fun x post=>Z18p x.1 x.2.1 post) fun x h _=>Z1g5  x.1 x.2.1 h
def Zm3:Con:=.det [.int .u64,.int .i64,.int .i64,.int .i64,.int .u64] [.snap (.int .u64)] (fun x=>Zv8 x.1 x.2.1 x.2.2.1 x.2.2.2.1 x.2.2.2.2.1) (fun x=>Zv7 x.1 x.2.1 x.2.2.1 x.2.2.2.1 x.2.2.2.2.1)
def Zjk:Hn:={ loops:=fun _=>none,joins:=Z22 [(6,{ ls:=[(.slot 11,.data (.int .i64))],os:=[] }),(9,{ ls:=[(.slot 12,.data (.int .u64))],os:=[] }),(11,{ ls:=[(.slot 12,.data (.int .u64))],os:=[] })],named:=true }
def Zm4:Cx:=⟨Zd Zf,Ze [(154,Zji),(155,Zdc)],RbG⟩
theorem Zwq:CxOk Tryz.prog Zm4:=⟨Z3 Z6,Z5 ⟨Z13a,Zps,trivial⟩⟩
theorem Z13b:FnAt Tryz.prog 132 Tryz.f132.ntmps Tryz.f132.results.toList (Tryz.f132.body.getD .skip):=⟨Tryz.f132,Tryz.func132,rfl,rfl,by simp,by decide⟩
theorem Z13c (m:Int) (e:Int) (p:Int) (l:Int) (f:Int) (post:Int × Unit→Prop):Z9 Zm4 Zjk Tryz.f132.ntmps Tryz.f132.results.toList (Tryz.f132.body.getD .skip) [.int .u64,.int .i64,.int .i64,.int .i64,.int .u64] [.snap (.int .u64)] (m,e,p,l,f,()) post=Zd9  m e p l f post:=by kernel_rfl
theorem Z18q:Zm3.holds Tryz.prog RbG 132 :=
 detP Zwq Z8 Zjk Z13b (F:=fun x post=>Zd9  x.1 x.2.1 x.2.2.1 x.2.2.2.1 x.2.2.2.2.1 post) (fun x post=>Z13c x.1 x.2.1 x.2.2.1 x.2.2.2.1 x.2.2.2.2.1 post) fun x h _=>Z1ci  x.1 x.2.1 x.2.2.1 x.2.2.2.1 x.2.2.2.2.1 h
def Z8g:Con:=.det [.int .i64] [.snap (.flt .f64)] (fun x=>I64 x.1) (fun x=>ofIR x.1)
def Zgp:Cx:=⟨Zd Zf,Ze [(132,Zm3),(131,Zau)],RbG⟩
theorem Zrv:CxOk Tryz.prog Zgp:=⟨Z3 Z6,Z5 ⟨Z18q,Ziu,trivial⟩⟩
theorem Zwr:FnAt Tryz.prog 108 Tryz.f108.ntmps Tryz.f108.results.toList (Tryz.f108.body.getD .skip):=⟨Tryz.f108,Tryz.func108,rfl,rfl,by simp,by decide⟩
theorem Zws (a:Int) (post:Nat × Unit→Prop):Z9 Zgp nHn Tryz.f108.ntmps Tryz.f108.results.toList (Tryz.f108.body.getD .skip) [.int .i64] [.snap (.flt .f64)] (a,()) post=Z9d  a post:=by kernel_rfl
theorem Zgq:Z8g.holds Tryz.prog RbG 108 :=
 detP Zrv Z8 nHn Zwr (F:=fun x post=>Z9d  x.1 post) (fun x post=>Zws x.1 post) fun x h _=>Z139  x.1 h
def Zm5:Con:=.det [.flt .f64] [.snap .bool,.snap (.int .u64),.snap (.int .i64),.snap (.int .i64)] (fun x=>W64 x.1) (fun x=>Zv x.1)
def Zm6:Cx:=⟨Zd Zf,Ze [(140,Z7h)],RbG⟩
theorem Zwt:CxOk Tryz.prog Zm6:=⟨Z3 Z6,Z5 ⟨Zav,trivial⟩⟩
theorem Z13d:FnAt Tryz.prog 162 Tryz.f162.ntmps Tryz.f162.results.toList (Tryz.f162.body.getD .skip):=⟨Tryz.f162,Tryz.func162,rfl,rfl,by simp,by decide⟩
theorem Z13e (a:Nat) (post:Bool × Int × Int × Int × Unit→Prop):Z9 Zm6 nHn Tryz.f162.ntmps Tryz.f162.results.toList (Tryz.f162.body.getD .skip) [.flt .f64] [.snap .bool,.snap (.int .u64),.snap (.int .i64),.snap (.int .i64)] (a,()) post=Zda  a post:=by kernel_rfl
theorem Z18r:Zm5.holds Tryz.prog RbG 162 :=
 detP Zwt Z8 nHn Z13d (F:=fun x post=>Zda  x.1 post) (fun x post=>Z13e x.1 post) fun x h _=>Z1cj  x.1 h
def Zm7:Con:=.det [.int .i64,.int .i64] [.snap (.flt .f64)] (fun x=>II x.1 x.2.1) (fun x=>Zid x.1 x.2.1)
def Zm8:Cx:=⟨Zd Zf,Ze [(108,Z8g)],RbG⟩
theorem Zwu:CxOk Tryz.prog Zm8:=⟨Z3 Z6,Z5 ⟨Zgq,trivial⟩⟩
theorem Z13f:FnAt Tryz.prog 68 Tryz.f68.ntmps Tryz.f68.results.toList (Tryz.f68.body.getD .skip):=⟨Tryz.f68,Tryz.func68,rfl,rfl,by simp,by decide⟩
theorem Z13g (a:Int) (b:Int) (post:Nat × Unit→Prop):Z9 Zm8 nHn Tryz.f68.ntmps Tryz.f68.results.toList (Tryz.f68.body.getD .skip) [.int .i64,.int .i64] [.snap (.flt .f64)] (a,b,()) post=Zdb  a b post:=by kernel_rfl
theorem Z18s:Zm7.holds Tryz.prog RbG 68 :=
 detP Zwu Z8 nHn Z13f (F:=fun x post=>Zdb  x.1 x.2.1 post) (fun x post=>Z13g x.1 x.2.1 post) fun x h _=>Z1ck  x.1 x.2.1 h
end Go.Lift

namespace Go.Lift
open Go.Proofs
def Zm9:Con:=.det [.int .i64,.int .i64] [.snap (.flt .f64)] (fun x=>Z76 x.1 x.2.1) (fun x=>Z1s x.1 x.2.1)
def Zma:Cx:=⟨Zd Zf,Ze [(108,Z8g)],RbG⟩
theorem Zwv:CxOk Tryz.prog Zma:=⟨Z3 Z6,Z5 ⟨Zgq,trivial⟩⟩
theorem Z13h:FnAt Tryz.prog 157 Tryz.f157.ntmps Tryz.f157.results.toList (Tryz.f157.body.getD .skip):=⟨Tryz.f157,Tryz.func157,rfl,rfl,by simp,by decide⟩
theorem Z13i (a:Int) (b:Int) (post:Nat × Unit→Prop):Z9 Zma nHn Tryz.f157.ntmps Tryz.f157.results.toList (Tryz.f157.body.getD .skip) [.int .i64,.int .i64] [.snap (.flt .f64)] (a,b,()) post=Zd7  a b post:=by kernel_rfl
theorem Z18t:Zm9.holds Tryz.prog RbG 157 :=
 detP Zwv Z8 nHn Z13h (F:=fun x post=>Zd7  x.1 x.2.1 post) (fun x post=>Z13i x.1 x.2.1 post) fun x h _=>Z1cg  x.1 x.2.1 h
def Zbs:Con:=.det [.int .i64,.int .i64,.flt .f64,.flt .f64] [.snap (.flt .f64)] (fun x=>Z15y x.1 x.2.1 x.2.2.1 x.2.2.2.1) (fun x=>Z4s x.1 x.2.1 x.2.2.1 x.2.2.2.1)
def Zbh:Hn:={ loops:=fun _=>none,joins:=fun _=>none,named:=true,inl:=inlL [186,187] }
def Z6p:Cx:=⟨Zd Zf,Ze [(115,Z4i)],RbG⟩
theorem Z8t:CxOk Tryz.prog Z6p:=⟨Z3 Z6,Z5 ⟨Z6w,trivial⟩⟩
theorem Zrw:FnAt Tryz.prog 176 Tryz.f176.ntmps Tryz.f176.results.toList (Tryz.f176.body.getD .skip):=⟨Tryz.f176,Tryz.func176,rfl,rfl,by simp,by decide⟩
theorem Zrx (f:Int) (i:Int) (s:Nat) (t:Nat) (post:Nat × Unit→Prop):Z6b Z6p Zbh (Zc5 Z6p Zij 6) Tryz.f176.ntmps Tryz.f176.results.toList (Tryz.f176.body.getD .skip) [.int .i64,.int .i64,.flt .f64,.flt .f64] [.snap (.flt .f64)] (f,i,s,t,()) post=Z7l  f i s t post:=by kernel_rfl
theorem Ztr:Zbs.holds Tryz.prog RbG 176 :=
 Z15n Z8t Z8 Zbh (Za8 Z8t Z8 Z16e 6) Zrw (F:=fun x post=>Z7l  x.1 x.2.1 x.2.2.1 x.2.2.2.1 post) (fun x post=>Zrx x.1 x.2.1 x.2.2.1 x.2.2.2.1 post) fun x h _=>Zwp  x.1 x.2.1 x.2.2.1 x.2.2.2.1 h
def Zmb:Con:=.det [.int .i64,.flt .f64,.flt .f64] [.snap kVec] (fun x=>Zie x.1 x.2.1 x.2.2.1) (fun x=>Z4y x.1 x.2.1 x.2.2.1)
def Zmc:Cx:=⟨Zd Zf,Ze [(176,Zbs),(175,Zp2)],RbG⟩
theorem Zww:CxOk Tryz.prog Zmc:=⟨Z3 Z6,Z5 ⟨Ztr,Z1bu,trivial⟩⟩
theorem Z13j:FnAt Tryz.prog 156 Tryz.f156.ntmps Tryz.f156.results.toList (Tryz.f156.body.getD .skip):=⟨Tryz.f156,Tryz.func156,rfl,rfl,by simp,by decide⟩
theorem Z13k (f:Int) (s:Nat) (t:Nat) (post:(Nat × Nat × Nat) × Unit→Prop):Z9 Zmc nHn Tryz.f156.ntmps Tryz.f156.results.toList (Tryz.f156.body.getD .skip) [.int .i64,.flt .f64,.flt .f64] [.snap kVec] (f,s,t,()) post=Zd8  f s t post:=by kernel_rfl
theorem Z18u:Zmb.holds Tryz.prog RbG 156 :=
 detP Zww Z8 nHn Z13j (F:=fun x post=>Zd8  x.1 x.2.1 x.2.2.1 post) (fun x post=>Z13k x.1 x.2.1 x.2.2.1 post) fun x h _=>Z1ch  x.1 x.2.1 x.2.2.1 h
def Zjl:Con:=.det [.int .i64,.int .i64,.int .i64,.int .i64] [.snap kVec,.snap .bool] (fun x=>IIII x.1 x.2.1 x.2.2.1 x.2.2.2.1) (fun x=>Zj x.1 x.2.1 x.2.2.1 x.2.2.2.1)
def Zjm:Cx:=⟨Zd Zf,Ze [(157,Zm9),(156,Zmb)],RbG⟩
theorem Zts:CxOk Tryz.prog Zjm:=⟨Z3 Z6,Z5 ⟨Z18t,Z18u,trivial⟩⟩
theorem Zzl:FnAt Tryz.prog 133 Tryz.f133.ntmps Tryz.f133.results.toList (Tryz.f133.body.getD .skip):=⟨Tryz.f133,Tryz.func133,rfl,rfl,by simp,by decide⟩
theorem Zzm (n:Int) (f:Int) (i:Int) (j:Int) (post:(Nat × Nat × Nat) × Bool × Unit→Prop):Z9 Zjm nHn Tryz.f133.ntmps Tryz.f133.results.toList (Tryz.f133.body.getD .skip) [.int .i64,.int .i64,.int .i64,.int .i64] [.snap kVec,.snap .bool] (n,f,i,j,()) post=Zbf  n f i j post:=by kernel_rfl
theorem Z13l:Zjl.holds Tryz.prog RbG 133 :=
 detP Zts Z8 nHn Zzl (F:=fun x post=>Zbf  x.1 x.2.1 x.2.2.1 x.2.2.2.1 post) (fun x post=>Zzm x.1 x.2.1 x.2.2.1 x.2.2.2.1 post) fun x h _=>Z18k  x.1 x.2.1 x.2.2.1 x.2.2.2.1 h
end Go.Lift

namespace Go.Lift
open Ieee
theorem Z1lt {way:Toward} (hw:way=.down∨way=.zero) (n d:Nat):way.cut false n d=n / 2 ^ d:=by
 have h0:way.cut false n d=n / (1 <<< min d (n.log2+2)):=by
  rcases hw with rfl | rfl <;> rfl
 rw [h0,Nat.one_shiftLeft]
 rcases Nat.le_total d (n.log2+2) with h | h
 ·rw [Nat.min_eq_left h]
 ·rw [Nat.min_eq_right h]
  have a:n<2 ^ (n.log2+1):=Nat.lt_log2_self
  have b:2 ^ (n.log2+1)≤2 ^ (n.log2+2):=Nat.pow_le_pow_right (by decide) (by omega)
  have c:2 ^ (n.log2+2)≤2 ^ d:=Nat.pow_le_pow_right (by decide) h
  rw [Nat.div_eq_of_lt (by omega),Nat.div_eq_of_lt (by omega)]
theorem Z1lu {T:Nat} {p:Int} (hT:T<9007199254740992) (hp:-1074≤p) (hp2:p≤900):valR (rnd T p)=T*2 ^ (p+1074).toNat:=by
 by_cases h0:T=0
 ·rw [h0,Nat.zero_mul,show rnd 0 p=0 from rfl,Zu8]
 have hl:T.log2<53:=(Nat.log2_lt h0).2 (Nat.lt_of_lt_of_le hT (by decide))
 have hlo:T<2 ^ (T.log2+1):=Nat.lt_log2_self
 have hhi:2 ^ T.log2≤T:=Nat.log2_self_le h0
 obtain ⟨L,hL⟩:∃ L,Z11 T p=L:=⟨_,rfl⟩
 have hL':L=max (p+T.log2 - 52) (-1074):=hL.symm
 have hLp:L≤p:=by omega
 obtain ⟨M,hM⟩:∃ M,T*2 ^ (p - L).toNat=M:=⟨_,rfl⟩
 have hM2:M<9007199254740992:=by
  have a:T*2 ^ (p - L).toNat<2 ^ (T.log2+1)*2 ^ (p - L).toNat:=Nat.mul_lt_mul_of_pos_right hlo (Nat.two_pow_pos _)
  rw [← Nat.pow_add] at a
  have b:2 ^ (T.log2+1+(p - L).toNat)≤2 ^ 53:=Nat.pow_le_pow_right (by decide) (by omega)
  have c:(2:Nat) ^ 53=9007199254740992:=by decide
  omega
 have hM1:-1074<L→4503599627370496≤M:=by
  intro q
  have a:2 ^ T.log2*2 ^ (p - L).toNat≤T*2 ^ (p - L).toNat:=Nat.mul_le_mul_right _ hhi
  rw [← Nat.pow_add,show T.log2+(p - L).toNat=52 by omega] at a
  have c:(2:Nat) ^ 52=4503599627370496:=by decide
  omega
 have hr:rnd T p=(L+1074).toNat*bin+M:=by
  unfold rnd
  rw [if_neg h0,hL,show (L - p).toNat=0 by omega,Z3c,hM]
  refine Nat.min_eq_left ?_
  have hz:(L+1074).toNat≤1974:=by omega
  have hy:(L+1074).toNat*bin≤1974*bin:=Nat.mul_le_mul_right _ hz
  have hx:1974*bin=8890105664429359104:=by decide
  have hi:infR=9218868437227405312:=rfl
  omega
 have hTM:T*2 ^ (p+1074).toNat=M*2 ^ (L+1074).toNat:=by
  have e:(p - L).toNat+(L+1074).toNat=(p+1074).toNat:=by omega
  rw [← hM,Nat.mul_assoc,← Nat.pow_add,e]
 rw [hr,hTM]
 obtain ⟨k,hkL⟩:∃ k,(L+1074).toNat=k:=⟨_,rfl⟩
 rw [hkL]
 by_cases hk:k=0
 ·subst hk
  rw [Nat.zero_mul,Nat.zero_add,Nat.pow_zero,Nat.mul_one]
  by_cases hb:M<bin
  ·rw [Znr hb]
  ·rw [Zxo hb]
   have:M / bin=1:=by unfold bin at *; omega
   rw [this,Nat.pow_zero,Nat.mul_one]
   unfold bin at *; omega
 ·have hb:4503599627370496≤M:=by
   by_cases q:-1074<L
   ·exact hM1 q
   ·omega
  have e:k*bin+M=(M - bin)+(k+1)*bin:=by rw [Nat.succ_mul]; unfold bin; omega
  have e1:(k*bin+M) / bin=k+1:=by
   rw [e,Nat.add_mul_div_right _ _ (by decide),Nat.div_eq_of_lt (by unfold bin; omega)]; omega
  have e2:(k*bin+M) % bin=M - bin:=by
   rw [e,Nat.add_mul_mod_self_right,Nat.mod_eq_of_lt (by unfold bin; omega)]
  rw [Zxo (by have:1*bin≤k*bin:=Nat.mul_le_mul_right _ (by omega); omega),e1,e2]
  have e3:bin+(M - bin)=M:=by unfold bin; omega
  rw [e3,show k+1 - 1=k by omega]
theorem Z1qd {R k:Nat} (h:valR R=k*2 ^ U74):Toward.zero.cut false (Zn R <<< (Z4 R).toNat) (-Z4 R).toNat=k:=by
 rw [Z1lt (.inr rfl),Nat.shiftLeft_eq]
 have hU:U74=1074:=rfl
 unfold valR at h
 generalize U74=U at *
 have hp:=Z7s R
 rcases Int.lt_or_le (Z4 R) 0 with q | q
 ·rw [show (Z4 R).toNat=0 by omega,Nat.pow_zero,Nat.mul_one]
  rw [show U=(-Z4 R).toNat+(Z4 R+1074).toNat by omega,Nat.pow_add,← Nat.mul_assoc] at h
  rw [Nat.eq_of_mul_eq_mul_right (Nat.two_pow_pos _) h,Nat.mul_div_cancel _ (Nat.two_pow_pos _)]
 ·rw [show (-Z4 R).toNat=0 by omega,Nat.pow_zero,Nat.div_one]
  rw [show (Z4 R+1074).toNat=(Z4 R).toNat+U by omega,Nat.pow_add,← Nat.mul_assoc] at h
  exact Nat.eq_of_mul_eq_mul_right (Nat.two_pow_pos _) h
theorem Z1ja:valR Z2x=2 ^ 1073:=by decide +kernel
theorem Z1qe {r:Nat} (h:r<sw):Z1u (double.word false r)=r:=by
 obtain ⟨w1,w2,w3⟩:=Z7r (s:=false) h
 unfold Z1u; rw [w2,w1]; rfl
theorem Z18v {q:Nat} (h:q<infR):double.order (double.word false q) Z2x=some (compare (valR q:Int) (valR Z2x:Int)):=by
 have hi:infR<sw:=by decide
 rw [Z70 (Zbx (Nat.le_of_lt h)).1 (by decide),Z1qe (by omega)]
 have e:Z1u Z2x=(Z2x:Nat):=by decide
 rw [e]
 have key:compare (q:Int) (Z2x:Nat)=compare (valR q:Int) (valR Z2x:Int):=by
  rcases Nat.lt_trichotomy q Z2x with g | g | g
  ·rw [Std.compare_eq_lt.2 (by omega),Std.compare_eq_lt.2 (by have:=Zns g; omega)]
  ·rw [g,Std.compare_self,Std.compare_self]
  ·rw [Std.compare_eq_gt.2 (by omega),Std.compare_eq_gt.2 (by have:=Zns g; omega)]
 rw [key]
theorem Z1jb {r:Nat} (h:r<Z13):Zdt r=if 0≤Z4 r then ((Zn r*2 ^ (Z4 r).toNat:Nat):Int) else ((cutE (Zn r) (-Z4 r).toNat:Nat):Int):=by
 have hr:Z1 r=r:=Zxz (by unfold Z13 at h; omega)
 have hf:r<infR:=by unfold Z13 at h; unfold infR; omega
 have hs:sgn r=false:=(Zel (by unfold Z13 at h; omega)).1
 have hm:Zn r<9007199254740992:=Z1hx r
 have hpl:Z4 r≤100:=by unfold Z4; unfold Z13 at h; unfold bin; split <;> omega
 have hp:=Z7s r
 have hrd:double.read r=.number false (Zn r) (Z4 r):=by rw [Z2v (by rw [hr]; exact hf),hr,hs]
 have hfl:Z1e r=double.word false (rnd (Toward.down.cut false (Zn r <<< (Z4 r).toNat) (-Z4 r).toNat) 0):=by
  unfold Z1e
  rw [hrd]
  show double.nearest false _ 0=_
  rw [Z2e]
 rw [Z1lt (.inl rfl),Nat.shiftLeft_eq] at hfl
 have hsubz:∀ R,R<infR→valR R≤valR r→double.read (Z1e r)=.number false (Zn R) (Z4 R)→∀ F:Nat,∀ P:Int,-1074≤P→valR r - valR R=F*2 ^ (P+1074).toNat→subQ r (Z1e r)=double.word false (rnd F P):=by
  intro R hR hle hrR F P hP hFP
  unfold subQ Format.sub
  rw [hrd,hrR]
  show (((Datum.number false (Zn r) (Z4 r)).sum (Datum.number true (Zn R) (Z4 R))).map double.write).getD QN=_
  unfold Datum.sum
  dsimp only
  obtain ⟨b,hb⟩:∃ b,min (Z4 r) (Z4 R)=b:=⟨_,rfl⟩
  have hpR:=Z7s R
  rw [hb]
  have s1:signed false (Zn r) (Z4 r - b).toNat=((Zn r*2 ^ (Z4 r - b).toNat:Nat):Int):=by
   unfold signed; rw [if_neg (by decide),Nat.shiftLeft_eq]
  have s2:signed true (Zn R) (Z4 R - b).toNat=-((Zn R*2 ^ (Z4 R - b).toNat:Nat):Int):=by
   unfold signed; rw [if_pos rfl,Nat.shiftLeft_eq]
  rw [s1,s2]
  have v1:valR r=Zn r*2 ^ (Z4 r - b).toNat*2 ^ (b+1074).toNat:=by
   unfold valR; rw [Nat.mul_assoc,← Nat.pow_add]; congr 2; omega
  have v2:valR R=Zn R*2 ^ (Z4 R - b).toNat*2 ^ (b+1074).toNat:=by
   unfold valR; rw [Nat.mul_assoc,← Nat.pow_add]; congr 2; omega
  rw [v1,v2] at hle hFP
  generalize Zn r*2 ^ (Z4 r - b).toNat=A at *
  generalize Zn R*2 ^ (Z4 R - b).toNat=B at *
  have hBA:B≤A:=Nat.le_of_mul_le_mul_right hle (Nat.two_pow_pos _)
  rw [← Nat.sub_mul] at hFP
  have e1:(A:Int)+-(B:Int)=((A - B:Nat):Int):=by omega
  rw [e1]
  have hr1:rnd (A - B) b=rnd F P:=by
   rcases Int.le_total b P with q | q
   ·have:A - B=F*2 ^ (P - b).toNat:=by
     rw [show (P+1074).toNat=(P - b).toNat+(b+1074).toNat by omega,Nat.pow_add,← Nat.mul_assoc] at hFP
     exact Nat.eq_of_mul_eq_mul_right (Nat.two_pow_pos _) hFP
    rw [this]
    have:=Zk8 F P (P - b).toNat
    rwa [show P - ((P - b).toNat:Int)=b by omega] at this
   ·have:F=(A - B)*2 ^ (b - P).toNat:=by
     rw [show (b+1074).toNat=(b - P).toNat+(P+1074).toNat by omega,Nat.pow_add,← Nat.mul_assoc] at hFP
     exact (Nat.eq_of_mul_eq_mul_right (Nat.two_pow_pos _) hFP).symm
    rw [this]
    have:=Zk8 (A - B) b (b - P).toNat
    rw [show b - ((b - P).toNat:Int)=P by omega] at this
    exact this.symm
  by_cases z:A - B=0
  ·rw [if_pos (by rw [z]; rfl)]
   show double.nearest _ _ _=_
   rw [Z2e,← hr1]
   rfl
  ·rw [if_neg (by omega)]
   show double.nearest _ _ _=_
   rw [Z2e,Int.natAbs_natCast,hr1,show decide (((A - B:Nat):Int)<0)=false from decide_eq_false (by omega)]
 have hrdw:∀ R,R<infR→double.read (double.word false R)=.number false (Zn R) (Z4 R):=by
  intro R hR
  obtain ⟨w1,w2,w3⟩:=Z7r (s:=false) (r:=R) (by unfold infR at hR; unfold sw; omega)
  rw [Z2v (by rw [w1]; exact hR),w1,w2]
 have hwh:∀ R k,R<infR→double.read (Z1e r)=.number false (Zn R) (Z4 R)→valR R=k*2 ^ U74→Z3z (Z1e r)=(k:Int):=by
  intro R k hR hrR hv
  unfold Z3z
  rw [hrR]
  show signed false (Toward.zero.cut false (Zn R <<< (Z4 R).toNat) (-Z4 R).toNat) 0=_
  rw [Z1qd hv]
  unfold signed; rw [if_neg (by decide),Nat.shiftLeft_zero]
 unfold Zdt
 by_cases he:0≤Z4 r
 ·rw [if_pos he]
  rw [show (-Z4 r).toNat=0 by omega,Nat.pow_zero,Nat.div_one] at hfl
  have hR:rnd (Zn r*2 ^ (Z4 r).toNat) 0=r:=by
   have:=Zk8 (Zn r) (Z4 r) (Z4 r).toNat
   rw [show Z4 r - ((Z4 r).toNat:Int)=0 by omega] at this
   rw [this,Zk9 hf]
  rw [hR] at hfl
  have hrR:=hrdw r hf
  rw [← hfl] at hrR
  have hw:=hwh r (Zn r*2 ^ (Z4 r).toNat) hf hrR (Z1hr U74 rfl he)
  have hz:=hsubz r hf (Nat.le_refl _) hrR 0 0 (by omega) (by rw [Nat.sub_self,Nat.zero_mul])
  rw [show rnd 0 0=0 from rfl] at hz
  rw [hz,hw,Z18v (by decide),Zu8,Z1ja]
  have:compare ((0:Nat):Int) ((2 ^ 1073:Nat):Int)=.lt:=Std.compare_eq_lt.2 (by have:=Nat.two_pow_pos 1073; omega)
  rw [this]
  rfl
 ·rw [if_neg he]
  obtain ⟨s,hsx⟩:∃ s:Nat,(-Z4 r).toNat=s:=⟨_,rfl⟩
  have hs1:1≤s:=by omega
  rw [show (Z4 r).toNat=0 by omega,Nat.pow_zero,Nat.mul_one,hsx] at hfl
  rw [hsx]
  generalize hm':Zn r=m at *
  have hk:m / 2 ^ s≤m:=Nat.div_le_self _ _
  have hR:rnd (m / 2 ^ s) 0<infR:=by
   have:=Z1sb (k:=m / 2 ^ s) (by omega)
   unfold Z13 at this; unfold infR; omega
  have hvR:=Z1lu (T:=m / 2 ^ s) (p:=0) (by omega) (by omega) (by omega)
  have hrR:=hrdw _ hR
  rw [← hfl] at hrR
  have hw:=hwh _ (m / 2 ^ s) hR hrR (by rw [hvR,show (0+1074:Int).toNat=U74 from rfl])
  have hv0:valR r=m*2 ^ (Z4 r+1074).toNat:=by unfold valR; rw [hm']
  have hq:(0+1074:Int).toNat=s+(Z4 r+1074).toNat:=by omega
  have hvR2:valR (rnd (m / 2 ^ s) 0)=m / 2 ^ s*2 ^ s*2 ^ (Z4 r+1074).toNat:=by
   rw [hvR,hq,Nat.pow_add,Nat.mul_assoc]
  have hdm:m / 2 ^ s*2 ^ s+m % 2 ^ s=m:=Nat.div_add_mod' m (2 ^ s)
  have hf2:m % 2 ^ s<9007199254740992:=Nat.lt_of_le_of_lt (Nat.mod_le _ _) hm
  have hz:=hsubz _ hR (by rw [hvR2,hv0]; exact Nat.mul_le_mul_right _ (by omega)) hrR (m % 2 ^ s) (Z4 r) hp (by
   rw [hvR2,hv0,← Nat.sub_mul]; congr 1; omega)
  have hvF:=Z1lu hf2 hp (by omega)
  have hF:rnd (m % 2 ^ s) (Z4 r)<infR:=by
   have a:rnd (m % 2 ^ s) (Z4 r)≤rnd m (Z4 r):=Ze0 _ (Nat.mod_le _ _)
   have b:=Zk9 hf
   rw [hm'] at b
   omega
  rw [hz,hw,Z18v hF,hvF,Z1ja]
  have hp3:(2:Nat) ^ 1073=2 ^ (s - 1)*2 ^ (Z4 r+1074).toNat:=by rw [← Nat.pow_add]; congr 1; omega
  have hp4:(2:Nat) ^ s=2*2 ^ (s - 1):=by
   conv=>lhs; rw [show s=s - 1+1 by omega]
   rw [Nat.pow_succ]; omega
  rw [hp3,Int.natCast_mul,Int.natCast_mul (2 ^ (s - 1)),Z10b _ _ _ (Nat.two_pow_pos _)]
  unfold cutE
  rw [hp4]
  generalize 2 ^ (s - 1)=H at *
  generalize m % (2*H)=f at *
  generalize m / (2*H)=k at *
  have hodd:((((k:Nat):Int) % 2==1)=true)↔k % 2=1:=by
   rw [beq_iff_eq]; omega
  rcases Nat.lt_trichotomy f H with g | g | g
  ·rw [show compare ((f:Nat):Int) (H:Int)=.lt from Std.compare_eq_lt.2 (by omega)]
   conv=>rhs; rw [if_neg (by omega)]
   rfl
  ·rw [g,Std.compare_self]
   by_cases o:k % 2=1
   ·rw [show (((k:Nat):Int) % 2==1)=true from hodd.2 o]
    conv=>rhs; rw [if_pos (.inr ⟨rfl,o⟩)]
    rfl
   ·rw [show (((k:Nat):Int) % 2==1)=false from Bool.eq_false_iff.2 fun q=>o (hodd.1 q)]
    conv=>rhs; rw [if_neg (by omega)]
    rfl
  ·rw [show compare ((f:Nat):Int) (H:Int)=.gt from Std.compare_eq_gt.2 (by omega)]
   conv=>rhs; rw [if_pos (.inl (by omega))]
   rfl
theorem Z1jc {r:Nat} (d:Nat):cutE (Zn r) d<9007199254740992:=Nat.lt_of_le_of_lt (Zv9 _ _) (Z1hx r)
theorem Z10z {a:Nat} {K:Nat} (hlt:Z1 a<Z13) (hK:Zdt (Z1 a)=(K:Int)) (hb:K<9223372036854775808) (h0:Z1 a=0→K=0):Z2f (sgn a) (K:Int)=Z2y a:=by
 have hw:i64.wrap (K:Int)=K:=wi ⟨by omega,by omega⟩
 have hw2:i64.wrap (0 - (K:Int))=-(K:Int):=by rw [wi ⟨by omega,by omega⟩]; omega
 unfold Z2y Z2h
 rw [if_pos hlt,hK,hw,hw2]
 unfold Z2f
 cases hs:sgn a
 ·rw [if_neg (by intro q; cases q.1),if_neg (by intro q; rcases q with q | q; exact absurd q (by decide); omega)]
  rfl
 ·rw [if_pos ⟨rfl,by omega⟩]
  by_cases z:Z1 a=0
  ·rw [decide_eq_false (by simpa using z),if_neg (by decide),h0 z]; rfl
  ·rw [decide_eq_true z]; rfl
theorem Z1kj {a:Nat} (h:W64 a) (hf:Z1 a<infR) :
  (0≤Z4 (Z1 a)→9223372036854775808<Zn (Z1 a)*2 ^ (Z4 (Z1 a)).toNat→Z2y a=(0,false,())) ∧
  (0≤Z4 (Z1 a)→Zn (Z1 a)*2 ^ (Z4 (Z1 a)).toNat≤9223372036854775808→Z2f (sgn a) ((Zn (Z1 a)*2 ^ (Z4 (Z1 a)).toNat:Nat):Int)=Z2y a) ∧
  (Z4 (Z1 a)<0→Z2f (sgn a) ((cutE (Zn (Z1 a)) (-Z4 (Z1 a)).toNat:Nat):Int)=Z2y a):=by
 have hneg:Z4 (Z1 a)<0→Z1 a<Z13:=by
  intro q
  unfold Z4 at q
  unfold Z13
  split at q
  ·unfold bin at *; omega
  ·unfold bin at *; omega
 have hvv:0≤Z4 (Z1 a)→((Z1 a≤Z13↔Zn (Z1 a)*2 ^ (Z4 (Z1 a)).toNat≤9223372036854775808)∧(Z13≤Z1 a↔9223372036854775808≤Zn (Z1 a)*2 ^ (Z4 (Z1 a)).toNat)):=by
  intro q
  have e1:=Z1hr (r:=Z1 a) U74 rfl q
  have e2:=Z1pb
  refine ⟨?_,?_⟩
  ·rw [← Znt,e1,e2]
   exact ⟨fun g=>Nat.le_of_mul_le_mul_right g (Nat.two_pow_pos _),fun g=>Nat.mul_le_mul_right _ g⟩
  ·rw [← Znt,e1,e2]
   exact ⟨fun g=>Nat.le_of_mul_le_mul_right g (Nat.two_pow_pos _),fun g=>Nat.mul_le_mul_right _ g⟩
 have hpl0:Z1 a=0→Z4 (Z1 a)=-1074:=by intro q; rw [q]; rfl
 refine ⟨fun q g=>?_,fun q g=>?_,fun q=>?_⟩
 ·obtain ⟨e1,e2⟩:=hvv q
  have hgt:¬ Z1 a≤Z13:=fun z=>by have:=e1.1 z; omega
  unfold Z2y Z2h
  rw [if_neg (by omega),if_neg (by intro z; rw [z] at hgt; exact hgt (by decide))]
 ·obtain ⟨e1,e2⟩:=hvv q
  have hle:=e1.2 g
  by_cases hlt:Z1 a<Z13
  ·have hn:=Z1jb hlt
   rw [if_pos q] at hn
   refine Z10z hlt hn ?_ (fun z=>by have:=hpl0 z; omega)
   rcases Nat.lt_or_ge (Zn (Z1 a)*2 ^ (Z4 (Z1 a)).toNat) 9223372036854775808 with z | z
   ·exact z
   ·have:=e2.2 z; omega
  ·have he:Z1 a=Z13:=by omega
   have hv:Zn (Z1 a)*2 ^ (Z4 (Z1 a)).toNat=9223372036854775808:=by
    have:=e2.1 (by omega); omega
   rw [hv]
   unfold Z2y Z2h
   rw [if_neg hlt]
   unfold Z2f
   unfold W64 at h
   have hdm:a / 9223372036854775808*9223372036854775808+a % 9223372036854775808=a:=Nat.div_add_mod' a _
   have hr:Z1 a=a % 9223372036854775808:=rfl
   have hsg:sgn a=(a / 9223372036854775808 % 2==1):=rfl
   rw [hr] at he
   cases hs:sgn a
   ·have:¬ a=Z13+9223372036854775808:=by
     intro z
     rw [z] at hs
     exact absurd hs (by decide)
    rw [if_neg this,if_neg (by intro q; cases q.1),if_pos (.inr (by omega))]
   ·have:a=Z13+9223372036854775808:=by
     rw [hsg,beq_iff_eq] at hs
     omega
    rw [if_pos this,if_pos ⟨rfl,by omega⟩]
    rfl
 ·have hlt:=hneg q
  have hn:=Z1jb hlt
  rw [if_neg (by omega)] at hn
  exact Z10z hlt hn (by have:=Z1jc (r:=Z1 a) (-Z4 (Z1 a)).toNat; omega) (fun z=>by have:=Zv9 (Zn (Z1 a)) (-Z4 (Z1 a)).toNat; rw [show Zn (Z1 a)=0 by rw [z]; rfl] at *; omega)
end Go.Lift

namespace Go.Lift
def Zdd:=fun (a:Nat) (post:Int × Bool × Unit→Prop)=>∃ (h:W64 a),∀ (a_1:Bool),a_1=((Zv a).snd.snd.snd.fst != (0:Int))→Br a_1 (post ((0:Int),
 false,())) (∀ (a_2:Bool),a_2=decide ((Zv a).snd.snd.fst≥(0:Int))→Br a_2 (∃ (h:Z1hz (Zv a).snd.fst (Zv a).snd.snd.fst),∀ (a_3:Bool),a_3 =
 (Z1hy (Zv a).snd.fst (Zv a).snd.snd.fst).fst→Br a_3 (post ((0:Int),false,())) (∀ (a_4:Bool),a_4=decide ((Zv a).snd.snd.fst≥(0:Int))→Br a_4 (∃
 (h:(0:Int)≤u64.wrap (Zv a).snd.snd.fst),∃ (h:Zif (Zv a).fst (u64.wrap ((Zv a).snd.fst*(2:Int) ^ Min.min (u64.wrap (Zv
 a).snd.snd.fst).toNat u64.bits))),post ((Z2f (Zv a).fst (u64.wrap ((Zv a).snd.fst*(2:Int) ^ Min.min (u64.wrap (Zv
 a).snd.snd.fst).toNat u64.bits))).fst,(Z2f (Zv a).fst (u64.wrap ((Zv a).snd.fst*(2:Int) ^ Min.min (u64.wrap (Zv a).snd.snd.fst).toNat
 u64.bits))).snd.fst,())) (∃ (h:Zkq (Zv a).snd.fst (i64.wrap ((0:Int) - (Zv a).snd.snd.fst))),∃ (h:Zif (Zv a).fst (cutR (Zv a).snd.fst
 (i64.wrap ((0:Int) - (Zv a).snd.snd.fst))).fst),post ((Z2f (Zv a).fst (cutR (Zv a).snd.fst (i64.wrap ((0:Int) - (Zv
 a).snd.snd.fst))).fst).fst,(Z2f (Zv a).fst (cutR (Zv a).snd.fst (i64.wrap ((0:Int) - (Zv a).snd.snd.fst))).fst).snd.fst,())))) (∀ (a_3:Bool),a_3 =
 decide ((Zv a).snd.snd.fst≥(0:Int))→Br a_3 (∃ (h:(0:Int)≤u64.wrap (Zv a).snd.snd.fst),∃ (h:Zif (Zv a).fst (u64.wrap ((Zv
 a).snd.fst*(2:Int) ^ Min.min (u64.wrap (Zv a).snd.snd.fst).toNat u64.bits))),post ((Z2f (Zv a).fst (u64.wrap ((Zv a).snd.fst*(2 :
 Int) ^ Min.min (u64.wrap (Zv a).snd.snd.fst).toNat u64.bits))).fst,(Z2f (Zv a).fst (u64.wrap ((Zv a).snd.fst*(2:Int) ^ Min.min
 (u64.wrap (Zv a).snd.snd.fst).toNat u64.bits))).snd.fst,())) (∃ (h:Zkq (Zv a).snd.fst (i64.wrap ((0:Int) - (Zv a).snd.snd.fst))),∃ (h :
 Zif (Zv a).fst (cutR (Zv a).snd.fst (i64.wrap ((0:Int) - (Zv a).snd.snd.fst))).fst),post ((Z2f (Zv a).fst (cutR (Zv a).snd.fst
 (i64.wrap ((0:Int) - (Zv a).snd.snd.fst))).fst).fst,(Z2f (Zv a).fst (cutR (Zv a).snd.fst (i64.wrap ((0:Int) - (Zv
 a).snd.snd.fst))).fst).snd.fst,()))))
theorem Z1cm (a:Nat) (h:W64 a):Zdd  a (fun r=>r=Z2y a):=by
 refine ⟨h,?_⟩
 by_cases hf:Z1 a<infR
 ·have hp:Zv a=(sgn a,((Zn (Z1 a):Nat):Int),Z4 (Z1 a),0,()):=by
   unfold Zv Zhd; rw [if_pos hf,if_pos hf,if_pos hf]
  rw [hp]
  dsimp only
  obtain ⟨p1,p2,p3⟩:=Z1kj h hf
  have hm:Zn (Z1 a)<9007199254740992:=Z1hx _
  have hpl:=Z7s (Z1 a)
  have hpu:Z4 (Z1 a)≤1000:=by
   unfold Z4; unfold infR at hf; unfold bin; split <;> omega
  rintro _ rfl
  refine Br.intro (fun g=>absurd g (by decide)) fun _=>?_
  rintro _ rfl
  refine Br.intro (fun g=>?_) fun g=>?_
  ·have g:Z4 (Z1 a)≥0:=of_decide_eq_true g
   have mb:4503599627370496≤Zn (Z1 a):=by
    have hb:bin≤Z1 a:=by
     rcases Nat.lt_or_ge (Z1 a) bin with z | z
     ·unfold Z4 at g; rw [if_pos z] at g; omega
     ·exact z
    exact (Z1mu hb).2.1
   have hpow:((Zn (Z1 a):Nat):Int)*(2:Int) ^ (Z4 (Z1 a)).toNat=((Zn (Z1 a)*2 ^ (Z4 (Z1 a)).toNat:Nat):Int):=by
    rw [Int.natCast_mul,Int.natCast_pow]; rfl
   have hbig:64≤Z4 (Z1 a)→18446744073709551616≤Zn (Z1 a)*2 ^ (Z4 (Z1 a)).toNat:=by
    intro z
    have a1:2 ^ 64≤2 ^ (Z4 (Z1 a)).toNat:=Nat.pow_le_pow_right (by decide) (by omega)
    have a2:1*2 ^ (Z4 (Z1 a)).toNat≤Zn (Z1 a)*2 ^ (Z4 (Z1 a)).toNat:=Nat.mul_le_mul_right _ (by omega)
    have a3:(2:Nat) ^ 64=18446744073709551616:=by decide
    omega
   refine ⟨⟨by omega,by omega,g,hpu,.inr (by omega)⟩,?_⟩
   intro c hc
   have hc:c=decide (9223372036854775808<((Zn (Z1 a):Nat):Int)*(2:Int) ^ (Z4 (Z1 a)).toNat):=hc
   rw [hpow] at hc
   rw [hc]
   have w1:u64.wrap (Z4 (Z1 a))=Z4 (Z1 a):=wu1 ⟨by omega,by omega⟩
   rw [w1]
   refine Br.intro (fun q=>?_) fun q=>?_
   ·have q:=of_decide_eq_true q
    exact (p1 g (by omega)).symm
   ·have q:=of_decide_eq_false q
    have h64:Z4 (Z1 a)<64:=by
     rcases Int.lt_or_le (Z4 (Z1 a)) 64 with z | z
     ·exact z
     ·have:=hbig z; omega
    have mn:Min.min (Z4 (Z1 a)).toNat u64.bits=(Z4 (Z1 a)).toNat:=Nat.min_eq_left (by show _≤64; omega)
    rw [mn,hpow]
    have w2:u64.wrap ((Zn (Z1 a)*2 ^ (Z4 (Z1 a)).toNat:Nat):Int)=((Zn (Z1 a)*2 ^ (Z4 (Z1 a)).toNat:Nat):Int):=wu1 ⟨by omega,by omega⟩
    rw [w2]
    rintro _ rfl
    refine Br.intro (fun _=>?_) (fun z=>absurd g (of_decide_eq_false z))
    exact ⟨by omega,⟨by omega,by omega⟩,p2 g (by omega)⟩
  ·have g:¬ Z4 (Z1 a)≥0:=of_decide_eq_false g
   have w3:i64.wrap (0 - Z4 (Z1 a))=-Z4 (Z1 a):=by rw [wi ⟨by omega,by omega⟩]; omega
   rw [w3]
   rintro _ rfl
   refine Br.intro (fun z=>absurd (of_decide_eq_true z) g) fun _=>?_
   refine ⟨⟨by omega,by omega,by omega,by omega,.inr (by omega)⟩,?_⟩
   have hcut:=Z1jc (r:=Z1 a) (-Z4 (Z1 a)).toNat
   show ∃ _:Zif (sgn a) ((cutE (Zn (Z1 a)) (-Z4 (Z1 a)).toNat:Nat):Int),_
   exact ⟨⟨by omega,by omega⟩,p3 (by omega)⟩
 ·have hw:Zhd a≠0:=by
   unfold Zhd; rw [if_neg hf]; split <;> decide
  rintro _ rfl
  refine Br.intro (fun _=>?_) fun g=>absurd (Z1a4.2 g) hw
  have h1:¬ Z1 a<Z13:=by unfold Z13; unfold infR at hf; omega
  have h2:¬ a=Z13+9223372036854775808:=by
   intro z; rw [z] at hf; exact hf (by decide)
  unfold Z2y Z2h
  rw [if_neg h1,if_neg h2]
end Go.Lift

namespace Go.Lift
def Zde:=fun (a:Bool) (b:Int) (post:Int × Bool × Unit→Prop)=>Br a (∀ (a_1:Bool),a_1=decide (b≤(9223372036854775808:Int))→Br a_1 (post
 (i64.wrap (u64.wrap ((0:Int) - b)),true,())) (Br a (post ((0:Int),false,())) (∀ (a:Bool),a=decide (b≥(9223372036854775808:Int))→Br a
 (post ((0:Int),false,())) (post (i64.wrap b,true,()))))) (Br a (post ((0:Int),false,())) (∀ (a:Bool),a=decide (b≥(9223372036854775808 :
 Int))→Br a (post ((0:Int),false,())) (post (i64.wrap b,true,()))))
theorem Z1cn (a:Bool) (b:Int) (h:Zif a b):Zde  a b (fun r=>r=Z2f a b):=by
 obtain ⟨h0,h1⟩:U64 b:=h
 cases a
 ·refine Br.intro (fun q=>by cases q) fun _=>Br.intro (fun q=>by cases q) fun _=>?_
  rintro _ rfl
  refine Br.intro (fun e=>?_) fun e=>?_
  ·have e:=of_decide_eq_true e
   unfold Z2f; rw [if_neg (by rintro ⟨q,_⟩; cases q),if_pos (.inr e)]
  ·have e:=of_decide_eq_false e
   unfold Z2f; rw [if_neg (by rintro ⟨q,_⟩; cases q),if_neg (by rintro (q | q); cases q; omega),wi ⟨by omega,by omega⟩]
 ·refine Br.intro (fun _=>?_) fun q=>by cases q
  rintro _ rfl
  refine Br.intro (fun e=>?_) fun e=>?_
  ·have e:=of_decide_eq_true e
   have w:i64.wrap (u64.wrap (0 - b))=-b:=by
    rw [IntKind.wrap_u64]
    simp [IntKind.wrap,IntKind.bits,IntKind.signed]
    omega
   unfold Z2f; rw [if_pos ⟨rfl,e⟩,w]
  ·have e:=of_decide_eq_false e
   refine Br.intro (fun _=>?_) fun q=>by cases q
   unfold Z2f; rw [if_neg (by rintro ⟨_,q⟩; omega),if_pos (.inl rfl)]
def Zdf:=fun (a b:Int) (post:Bool × Unit→Prop)=>∀ (a_1:Bool),a_1=(a != (0:Int))→Br a_1 (∀ (a_2:Bool),a_2=decide (b > (11:Int))→Br a_2 (post
 (true,())) (∃ (h:(0:Int)≤u64.wrap b),∀ (a_3:Bool),a_3=decide (a > Int.fdiv (9223372036854775808:Int) ((2:Int) ^ Min.min (u64.wrap b).toNat
 u64.bits))→post (a_3,()))) (post (false,()))
theorem Z1co (a:Int) (b:Int) (h:Z1hz a b):Zdf  a b (fun r=>r=Z1hy a b):=by
 obtain ⟨m0,m1,e0,e1,hm⟩:=h
 rintro _ rfl
 refine Br.intro (fun q=>?_) fun q=>?_
 ·have q:a≠0:=Z1a4.1 q
  rintro _ rfl
  refine Br.intro (fun g=>?_) fun g=>?_
  ·have g:b > 11:=of_decide_eq_true g
   refine congrArg r1 (decide_eq_true ?_).symm
   have c2:(2:Int) ^ b.toNat=((2 ^ b.toNat:Nat):Int):=(Int.natCast_pow 2 _).symm
   have p:2 ^ 12≤2 ^ b.toNat:=Nat.pow_le_pow_right (by decide) (by omega)
   have p2:(2:Nat) ^ 12=4096:=by decide
   rw [c2]
   have:=Int.mul_le_mul (a:=4503599627370496) (b:=4096) (c:=a) (d:=((2 ^ b.toNat:Nat):Int)) (by omega) (by omega) (by omega) (by omega)
   omega
  ·have g:¬ b > 11:=of_decide_eq_false g
   have hb:b=0∨b=1∨b=2∨b=3∨b=4∨b=5∨b=6∨b=7∨b=8∨b=9∨b=10∨b=11:=by omega
   have key:∀ (d k:Int),Int.fdiv 9223372036854775808 ((2:Int) ^ Min.min (u64.wrap b).toNat u64.bits)=d→(2:Int) ^ b.toNat=k→d*k=9223372036854775808→1≤k→(decide (a > Int.fdiv 9223372036854775808 ((2:Int) ^ Min.min (u64.wrap b).toNat u64.bits)))=decide (9223372036854775808<a*2 ^ b.toNat):=by
    intro d k h1 h2 h3 h4
    rw [h1,h2]
    apply decide_eq_decide.2
    rw [← h3]
    exact (Int.mul_lt_mul_right (by omega)).symm
   refine ⟨by rw [IntKind.wrap_u64]; omega,?_⟩
   intro z hz
   refine congrArg r1 (hz.trans ?_)
   rcases hb with rfl | rfl | rfl | rfl | rfl | rfl | rfl | rfl | rfl | rfl | rfl | rfl
   ·exact key 9223372036854775808 1 (by decide) (by decide) (by decide) (by decide)
   ·exact key 4611686018427387904 2 (by decide) (by decide) (by decide) (by decide)
   ·exact key 2305843009213693952 4 (by decide) (by decide) (by decide) (by decide)
   ·exact key 1152921504606846976 8 (by decide) (by decide) (by decide) (by decide)
   ·exact key 576460752303423488 16 (by decide) (by decide) (by decide) (by decide)
   ·exact key 288230376151711744 32 (by decide) (by decide) (by decide) (by decide)
   ·exact key 144115188075855872 64 (by decide) (by decide) (by decide) (by decide)
   ·exact key 72057594037927936 128 (by decide) (by decide) (by decide) (by decide)
   ·exact key 36028797018963968 256 (by decide) (by decide) (by decide) (by decide)
   ·exact key 18014398509481984 512 (by decide) (by decide) (by decide) (by decide)
   ·exact key 9007199254740992 1024 (by decide) (by decide) (by decide) (by decide)
   ·exact key 4503599627370496 2048 (by decide) (by decide) (by decide) (by decide)
 ·have q:a=0:=Z1a4.2 q
  refine congrArg r1 (decide_eq_false ?_).symm
  rw [q,Int.zero_mul]; decide
end Go.Lift

namespace Go.Lift
open Go.Proofs
def Zmd:Con:=.det [.bool,.int .u64] [.snap (.int .i64),.snap .bool] (fun x=>Zif x.1 x.2.1) (fun x=>Z2f x.1 x.2.1)
def Zme:Cx:=⟨Zd Zf,Ze [],RbG⟩
theorem Zwx:CxOk Tryz.prog Zme:=⟨Z3 Z6,fun f c h=>by cases h⟩
theorem Z13m:FnAt Tryz.prog 164 Tryz.f164.ntmps Tryz.f164.results.toList (Tryz.f164.body.getD .skip):=⟨Tryz.f164,Tryz.func164,rfl,rfl,by simp,by decide⟩
theorem Z13n (a:Bool) (b:Int) (post:Int × Bool × Unit→Prop):Z9 Zme nHn Tryz.f164.ntmps Tryz.f164.results.toList (Tryz.f164.body.getD .skip) [.bool,.int .u64] [.snap (.int .i64),.snap .bool] (a,b,()) post=Zde  a b post:=by kernel_rfl
theorem Z18w:Zmd.holds Tryz.prog RbG 164 :=
 detP Zwx Z8 nHn Z13m (F:=fun x post=>Zde  x.1 x.2.1 post) (fun x post=>Z13n x.1 x.2.1 post) fun x h _=>Z1cn  x.1 x.2.1 h
def Zmf:Con:=.det [.int .u64,.int .i64] [.snap .bool] (fun x=>Z1hz x.1 x.2.1) (fun x=>Z1hy x.1 x.2.1)
def Zmg:Cx:=⟨Zd Zf,Ze [],RbG⟩
theorem Zwy:CxOk Tryz.prog Zmg:=⟨Z3 Z6,fun f c h=>by cases h⟩
theorem Z13o:FnAt Tryz.prog 163 Tryz.f163.ntmps Tryz.f163.results.toList (Tryz.f163.body.getD .skip):=⟨Tryz.f163,Tryz.func163,rfl,rfl,by simp,by decide⟩
theorem Z13p (a:Int) (b:Int) (post:Bool × Unit→Prop):Z9 Zmg nHn Tryz.f163.ntmps Tryz.f163.results.toList (Tryz.f163.body.getD .skip) [.int .u64,.int .i64] [.snap .bool] (a,b,()) post=Zdf  a b post:=by kernel_rfl
theorem Z18x:Zmf.holds Tryz.prog RbG 163 :=
 detP Zwy Z8 nHn Z13o (F:=fun x post=>Zdf  x.1 x.2.1 post) (fun x post=>Z13p x.1 x.2.1 post) fun x h _=>Z1co  x.1 x.2.1 h
end Go.Lift

namespace Go.Lift
open Go.Proofs
def Zmh:Con:=.det [.flt .f64] [.snap (.int .i64),.snap .bool] (fun x=>W64 x.1) (fun x=>Z2y x.1)
def Zmi:Cx:=⟨Zd Zf,Ze [(162,Zm5),(163,Zmf),(164,Zmd),(155,Zdc)],RbG⟩
theorem Zwz:CxOk Tryz.prog Zmi:=⟨Z3 Z6,Z5 ⟨Z18r,Z18x,Z18w,Zps,trivial⟩⟩
theorem Z13q:FnAt Tryz.prog 137 Tryz.f137.ntmps Tryz.f137.results.toList (Tryz.f137.body.getD .skip):=⟨Tryz.f137,Tryz.func137,rfl,rfl,by simp,by decide⟩
theorem Z13r (a:Nat) (post:Int × Bool × Unit→Prop):Z9 Zmi nHn Tryz.f137.ntmps Tryz.f137.results.toList (Tryz.f137.body.getD .skip) [.flt .f64] [.snap (.int .i64),.snap .bool] (a,()) post=Zdd  a post:=by kernel_rfl
theorem Z18y:Zmh.holds Tryz.prog RbG 137 :=
 detP Zwz Z8 nHn Z13q (F:=fun x post=>Zdd  x.1 post) (fun x post=>Z13r x.1 post) fun x h _=>Z1cm  x.1 h
end Go.Lift

namespace Go.Lift
open Go.Proofs
def Zpt:Con:=.det [.int .i64,.int .i64] [.snap (.int .i64)] (fun x=>II x.1 x.2.1) (fun x=>Zko x.1 x.2.1)
def Zpu:Cx:=⟨Zd Zf,Ze [(130,Z6x),(133,Zjl),(136,Zll),(135,Zln),(134,Z98),(137,Zmh)],RbG⟩
theorem Zzn:CxOk Tryz.prog Zpu:=⟨Z3 Z6,Z5 ⟨Zb8,Z13l,Z17l,Z17o,Zj5,Z18y,trivial⟩⟩
theorem Z18z:FnAt Tryz.prog 109 Tryz.f109.ntmps Tryz.f109.results.toList (Tryz.f109.body.getD .skip):=⟨Tryz.f109,Tryz.func109,rfl,rfl,by simp,by decide⟩
theorem Z190 (n:Int) (c:Int) (post:Int × Unit→Prop):Z9 Zpu nHn Tryz.f109.ntmps Tryz.f109.results.toList (Tryz.f109.body.getD .skip) [.int .i64,.int .i64] [.snap (.int .i64)] (n,c,()) post=Zg4  n c post:=by kernel_rfl
theorem Z1cp:Zpt.holds Tryz.prog RbG 109 :=
 detP Zzn Z8 nHn Z18z (F:=fun x post=>Zg4  x.1 x.2.1 post) (fun x post=>Z190 x.1 x.2.1 post) fun x h _=>Z1g3  x.1 x.2.1 h
end Go.Lift

namespace Go.Lift
def Z8h:=fun (e:Int) (post:Bool × Unit→Prop)=>post (false,())
theorem Zzo (e:Int) (h:Zhg none e) (w:KS.wf [.ptr Z14,.int .i64] (none,e,())):Z8h  e (fun r=>r=nIsR none e):=by
 exact rfl
def Z8i:=fun (g:Int × List (Int × Int × Int × Int) × List ((Int × Int) × Int) × List (List Int) × List Int × List Nat × List Nat) (e:Int) (post:Bool × Unit →
 Prop)=>∀ (a:Bool),a=decide (e≥(0:Int))→Br a (∃ (h:some g≠none),∀ (a:Bool),a=decide (e<(↑g.snd.fst.length:Int))→post (a,())) (post
 (false,()))
theorem Zzp (g:Int × (List (Int × Int × Int × Int)) × (List ((Int × Int) × Int)) × (List (List Int)) × (List Int) × (List Nat) × List Nat) (e:Int) (h:Zhg (some g) e) (w:KS.wf [.ptr Z14,.int .i64] ((some g),e,())):Z8i  g e (fun r=>r=nIsR (some g) e):=by
 rintro _ rfl
 refine Br.intro (fun e1=>?_) fun e1=>?_
 ·refine ⟨by simp,?_⟩
  rintro _ rfl
  show _=(decide (0≤e)&&decide (e<(g.2.1.length:Nat)),())
  rw [decide_eq_true (p:=0≤e) (of_decide_eq_true e1)]; rfl
 ·show _=(decide (0≤e)&&decide (e<(g.2.1.length:Nat)),())
  rw [decide_eq_false (p:=0≤e) (of_decide_eq_false e1)]; rfl
def Z6q:=fun (e:Int) (post:(Int × Int × Int × Int) × Bool × Unit→Prop)=>∃ (h:Zhg none e),∀ (a:Bool),a=(nIsR none e).fst→Br (!a)
 (post (((0:Int),(0:Int),(0:Int),(0:Int)),false,())) (∃ (h:(none:Option (Int × (List (Int × Int × Int × Int)) × (List ((Int × Int) × Int)) × (List
 (List Int)) × (List Int) × (List Nat) × List Nat))≠none),False)
theorem Ztt (e:Int) (h:Zhg none e) (w:KS.wf [.ptr Z14,.int .i64] (none,e,())):Z6q  e (fun r=>r=Z20 none e):=by
 refine ⟨h,?_⟩
 rintro _ rfl
 exact Br.intro (fun _=>rfl) fun q=>by cases q
def Z6r:=fun (g:Int × List (Int × Int × Int × Int) × List ((Int × Int) × Int) × List (List Int) × List Int × List Nat × List Nat) (e:Int) (post:(Int × Int ×
 Int × Int) × Bool × Unit→Prop)=>∃ (h:Zhg (some g) e),∀ (a:Bool),a=(nIsR (some g) e).fst→Br (!a) (post (((0:Int),(0:Int),(0:Int),(0:Int)),
 false,())) (∃ (h:some g≠none),∃ (h:(0:Int)≤e∧e<(↑g.snd.fst.length:Int)),post (((g.snd.fst.getD e.toNat ((K.int i64).pair ((K.int
 i64).pair ((K.int i64).pair (K.int i64)))).dflt).fst,(g.snd.fst.getD e.toNat ((K.int i64).pair ((K.int i64).pair ((K.int i64).pair
 (K.int i64)))).dflt).snd.fst,(g.snd.fst.getD e.toNat ((K.int i64).pair ((K.int i64).pair ((K.int i64).pair (K.int
 i64)))).dflt).snd.snd.fst,(g.snd.fst.getD e.toNat ((K.int i64).pair ((K.int i64).pair ((K.int i64).pair (K.int i64)))).dflt).snd.snd.snd),
 true,()))
theorem Ztu (g:Int × (List (Int × Int × Int × Int)) × (List ((Int × Int) × Int)) × (List (List Int)) × (List Int) × (List Nat) × List Nat) (e:Int) (h:Zhg (some g) e) (w:KS.wf [.ptr Z14,.int .i64] ((some g),e,())):Z6r  g e (fun r=>r=Z20 (some g) e):=by
 refine ⟨h,?_⟩
 rintro _ rfl
 have hi:(nIsR (some g) e).1=(decide (0≤e)&&decide (e<(g.2.1.length:Nat))):=rfl
 refine Br.intro (fun q=>?_) fun q=>?_
 ·have q:(nIsR (some g) e).1=false:=by simpa using q
  have hn:¬ (0≤e∧e<(g.2.1.length:Nat)):=fun z=>by rw [hi,decide_eq_true z.1,decide_eq_true z.2] at q; cases q
  show _=(Z8y (some g) e,nIs (some g) e,())
  have q2:nIs (some g) e=false:=q
  unfold Z8y
  dsimp only
  rw [q2,if_neg hn]; rfl
 ·have q:(nIsR (some g) e).1=true:=by simpa using q
  have hy:0≤e∧e<(g.2.1.length:Nat):=by
   rw [hi] at q
   simpa using q
  refine ⟨by simp,hy,?_⟩
  show _=(Z8y (some g) e,nIs (some g) e,())
  have q2:nIs (some g) e=true:=q
  unfold Z8y
  dsimp only
  rw [q2,if_pos hy]; rfl
def Z57:=fun (c o:Int) (post:Int × Int × Unit→Prop)=>post ((0:Int),(0:Int),())
theorem Zpv (c:Int) (o:Int) (h:WNet none c o) (w:KS.wf [.ptr Z14,.int .i64,.int .i64] (none,c,o,())):Z57  c o (fun r=>r=Z93 none c o):=by
 exact rfl
def Z58:=fun (g:Int × List (Int × Int × Int × Int) × List ((Int × Int) × Int) × List (List Int) × List Int × List Nat × List Nat) (c o:Int) (post:Int × Int
 × Unit→Prop)=>∃ (h:some g≠none),Br (!(mget (c,o) g.snd.snd.fst).isSome) (post ((0:Int),(0:Int),())) (∃ (h:some g≠none),∃ (h:(0 :
 Int)≤(mget (c,o) g.snd.snd.fst).getD (0:Int)∧(mget (c,o) g.snd.snd.fst).getD (0:Int)<(↑g.snd.fst.length:Int)),∀ (a:Bool),a=((g.snd.fst.getD ((mget (c,o)
 g.snd.snd.fst).getD (0:Int)).toNat ((K.int i64).pair ((K.int i64).pair ((K.int i64).pair (K.int i64)))).dflt).fst==c)→Br a (post ((mget (c,
 o) g.snd.snd.fst).getD (0:Int),(1:Int),())) (post ((mget (c,o) g.snd.snd.fst).getD (0:Int),(-1:Int),())))
theorem Zpw (g:Int × (List (Int × Int × Int × Int)) × (List ((Int × Int) × Int)) × (List (List Int)) × (List Int) × (List Nat) × List Nat) (c:Int) (o:Int) (h:WNet (some g) c o) (w:KS.wf [.ptr Z14,.int .i64,.int .i64] ((some g),c,o,())):Z58  g c o (fun r=>r=Z93 (some g) c o):=by
 obtain ⟨hg,hc,ho⟩:=h
 obtain ⟨n,gn,hgn⟩:∃ n,Z1i n=true∧g=netG n:=by
  rcases hg with hg | ⟨n,gn,hg⟩
  ·cases hg
  ·exact ⟨n,gn,Option.some.inj hg⟩
 subst hgn
 refine ⟨by simp,?_⟩
 have hr:Z93 (some (netG n)) c o=match mget (c,o) (netE n).2 with
   | none=>((0:Int),(0:Int),())
   | some e=>if ((netE n).1.getD e.toNat dEd).1=c then (e,(1:Int),()) else (e,(-1:Int),()):=by
  unfold Z93 Zcb netG
  dsimp only
  cases mget (c,o) (netE n).2 with
  | none=>rfl
  | some e=>dsimp only; split <;> rfl
 rw [hr]
 by_cases ok:Zr n c o=true
 ·obtain ⟨k,hk,k1,_,_⟩:=Z1id ok
  have k1':mget (c,o) (netG n).2.2.1=some (k:Int):=k1
  rw [k1',k1]
  refine Br.intro (fun q=>by cases q) fun _=>?_
  refine ⟨by simp,⟨by show (0:Int)≤k; omega,by show (k:Int)<((netE n).1.length:Nat); omega⟩,?_⟩
  intro a ha
  have ha:a=decide (((netE n).1.getD (k:Int).toNat dEd).1=c):=ha
  rw [ha]
  dsimp only
  refine Br.intro (fun q=>?_) fun q=>?_
  ·rw [if_pos (of_decide_eq_true q)]; rfl
  ·rw [if_neg (of_decide_eq_false q)]; rfl
 ·have k1:=Z1rq ok
  have k1':mget (c,o) (netG n).2.2.1=none:=k1
  rw [k1',k1]
  exact Br.intro (fun _=>rfl) fun q=>by cases q
end Go.Lift

namespace Go.Lift
open Go.Proofs
def Zjn:Con:=.det [.ptr Z14,.int .i64] [.snap .bool] (fun x=>Zhg x.1 x.2.1) (fun x=>nIsR x.1 x.2.1)
def Z8j:Hn:=nHn
def Z9e:Cx:=⟨Zd Zf,Ze [],RbG⟩
theorem Ztv:CxOk Tryz.prog Z9e:=⟨Z3 Z6,fun f c h=>by cases h⟩
theorem Zzq:FnAt Tryz.prog 113 Tryz.f113.ntmps Tryz.f113.results.toList (Tryz.f113.body.getD .skip):=⟨Tryz.f113,Tryz.func113,rfl,rfl,by simp,by decide⟩
theorem Ztw (e:Int) (post:Bool × Unit→Prop):Z9 Z9e Z8j Tryz.f113.ntmps Tryz.f113.results.toList (Tryz.f113.body.getD .skip) [.ptr Z14,.int .i64] [.snap .bool] (none,e,()) post=Z8h  e post:=by kernel_rfl
theorem Ztx (g:Int × (List (Int × Int × Int × Int)) × (List ((Int × Int) × Int)) × (List (List Int)) × (List Int) × (List Nat) × List Nat) (e:Int) (post:Bool × Unit→Prop):Z9 Z9e Z8j Tryz.f113.ntmps Tryz.f113.results.toList (Tryz.f113.body.getD .skip) [.ptr Z14,.int .i64] [.snap .bool] ((some g),e,()) post=Z8i  g e post:=by kernel_rfl
def Z13s (x:KS [.ptr Z14,.int .i64]) (post:RS [.snap .bool]→Prop):Prop:=match x with
 | (none,y)=>Z8h  y.1 post
 | (some g,y)=>Z8i  g y.1 post
theorem Z13t:Zjn.holds Tryz.prog RbG 113 :=
 detP Ztv Z8 Z8j Zzq (F:=Z13s) (fun x post=>match x with
  | (none,y)=>Ztw y.1 post
  | (some g,y)=>Ztx g y.1 post) fun x h w=>match x,h,w with
  | (none,y),h,w=>Zzo  y.1 h w
  | (some g,y),h,w=>Zzp  g y.1 h w
def Zf1:Con:=.det [.ptr Z14,.int .i64] [.snap Z28,.snap .bool] (fun x=>Zhg x.1 x.2.1) (fun x=>Z20 x.1 x.2.1)
def Z6s:Hn:=nHn
def Z7m:Cx:=⟨Zd Zf,Ze [(113,Zjn)],RbG⟩
theorem Zpx:CxOk Tryz.prog Z7m:=⟨Z3 Z6,Z5 ⟨Z13t,trivial⟩⟩
theorem Zty:FnAt Tryz.prog 75 Tryz.f75.ntmps Tryz.f75.results.toList (Tryz.f75.body.getD .skip):=⟨Tryz.f75,Tryz.func75,rfl,rfl,by simp,by decide⟩
theorem Zpy (e:Int) (post:(Int × Int × Int × Int) × Bool × Unit→Prop):Z9 Z7m Z6s Tryz.f75.ntmps Tryz.f75.results.toList (Tryz.f75.body.getD .skip) [.ptr Z14,.int .i64] [.snap Z28,.snap .bool] (none,e,()) post=Z6q  e post:=by kernel_rfl
theorem Zpz (g:Int × (List (Int × Int × Int × Int)) × (List ((Int × Int) × Int)) × (List (List Int)) × (List Int) × (List Nat) × List Nat) (e:Int) (post:(Int × Int × Int × Int) × Bool × Unit→Prop):Z9 Z7m Z6s Tryz.f75.ntmps Tryz.f75.results.toList (Tryz.f75.body.getD .skip) [.ptr Z14,.int .i64] [.snap Z28,.snap .bool] ((some g),e,()) post=Z6r  g e post:=by kernel_rfl
def Zx0 (x:KS [.ptr Z14,.int .i64]) (post:RS [.snap Z28,.snap .bool]→Prop):Prop:=match x with
 | (none,y)=>Z6q  y.1 post
 | (some g,y)=>Z6r  g y.1 post
theorem Zx1:Zf1.holds Tryz.prog RbG 75 :=
 detP Zpx Z8 Z6s Zty (F:=Zx0) (fun x post=>match x with
  | (none,y)=>Zpy y.1 post
  | (some g,y)=>Zpz g y.1 post) fun x h w=>match x,h,w with
  | (none,y),h,w=>Ztt  y.1 h w
  | (some g,y),h,w=>Ztu  g y.1 h w
def Zbi:Con:=Con.nam [.ptr Z14,.int .i64,.int .i64] [.snap (.int .i64),.snap (.int .i64)] (fun x=>WNet x.1 x.2.1 x.2.2.1) (fun x=>Z93 x.1 x.2.1 x.2.2.1)
def Z59:Hn:=nHn
def Z60:Cx:=⟨Zd Zf,Ze [],RbG⟩
theorem Zk5:CxOk Tryz.prog Z60:=⟨Z3 Z6,fun f c h=>by cases h⟩
theorem Zq0:FnAt Tryz.prog 46 Tryz.f46.ntmps Tryz.f46.results.toList (Tryz.f46.body.getD .skip):=⟨Tryz.f46,Tryz.func46,rfl,rfl,by simp,by decide⟩
theorem Zk6 (c:Int) (o:Int) (post:Int × Int × Unit→Prop):Z9 Z60 Z59 Tryz.f46.ntmps Tryz.f46.results.toList (Tryz.f46.body.getD .skip) [.ptr Z14,.int .i64,.int .i64] [.snap (.int .i64),.snap (.int .i64)] (none,c,o,()) post=Z57  c o post:=by kernel_rfl
theorem Zk7 (g:Int × (List (Int × Int × Int × Int)) × (List ((Int × Int) × Int)) × (List (List Int)) × (List Int) × (List Nat) × List Nat) (c:Int) (o:Int) (post:Int × Int × Unit→Prop):Z9 Z60 Z59 Tryz.f46.ntmps Tryz.f46.results.toList (Tryz.f46.body.getD .skip) [.ptr Z14,.int .i64,.int .i64] [.snap (.int .i64),.snap (.int .i64)] ((some g),c,o,()) post=Z58  g c o post:=by kernel_rfl
def Zry (x:KS [.ptr Z14,.int .i64,.int .i64]) (post:RS [.snap (.int .i64),.snap (.int .i64)]→Prop):Prop:=match x with
 | (none,y)=>Z57  y.1 y.2.1 post
 | (some g,y)=>Z58  g y.1 y.2.1 post
theorem Zrz:Zbi.holds Tryz.prog RbG 46 :=
 Zo (detP Zk5 Z8 Z59 Zq0 (F:=Zry) (fun x post=>match x with
  | (none,y)=>Zk6 y.1 y.2.1 post
  | (some g,y)=>Zk7 g y.1 y.2.1 post) fun x h w=>match x,h,w with
  | (none,y),h,w=>Zpv  y.1 y.2.1 h w
  | (some g,y),h,w=>Zpw  g y.1 y.2.1 h w)
end Go.Lift

namespace Go.Lift
def Z9f:=fun (a b:Nat) (post:Int × Unit→Prop)=>∃ (h:True),∃ (h:True),∃ (h:W2 (Zk a).fst (Zk b).fst),post ((ordR (Zk a).fst (Zk
 b).fst).fst,())
theorem Z13u (a:Nat) (b:Nat) (h:W2 a b):Z9f  a b (fun r=>r=Z83 a b):=by
 exact ⟨trivial,trivial,⟨Z4k h.1,Z4k h.2⟩,rfl⟩
def Zg7:=fun (a b:Nat) (post:Bool × Unit→Prop)=>∃ (h:W64 a),∃ (h:W64 b),∃ (h:W2 (Zk a).fst (Zk b).fst),∀ (a_1:Bool),a_1=decide ((ordR
 (Zk a).fst (Zk b).fst).fst<(0:Int))→post (a_1,())
theorem Z1g6 (a:Nat) (b:Nat) (h:W2 a b):Zg7  a b (fun r=>r=Zii a b):=by
 refine ⟨by first | trivial | exact h.1,by first | trivial | exact h.2,⟨Z4k h.1,Z4k h.2⟩,?_⟩
 rintro _ rfl
 rfl
def Z6t:=fun (x y:Int) (post:Int × Unit→Prop)=>False
theorem Ztz (x:Int) (y:Int) (h:WCmp x y none):Z6t  x y (fun r=>r=Zam x y none):=by
 obtain ⟨_,e,_⟩:=h
 cases e
def Z6u:=fun (x y:Int) (p:List Nat) (post:Int × Unit→Prop)=>∃ (h:(0:Int)≤y∧y<(↑p.length:Int)),∃ (h:(0:Int)≤x∧x<(↑p.length:Int)),
 ∃ (h:W2 (p.getD y.toNat (0:Nat)) (p.getD x.toNat (0:Nat))),∀ (a:Int × Unit),a=Z83 (p.getD y.toNat (0:Nat)) (p.getD x.toNat (0:Nat))→post (a.fst,())
theorem Zu0 (x:Int) (y:Int) (p:List Nat) (h:WCmp x y (some p)):Z6u  x y p (fun r=>r=Zam x y (some p)):=by
 obtain ⟨bed,e,hx,hy,hw⟩:=h
 cases e
 refine ⟨hy,hx,⟨hw _ (Z39 (by omega) 0),hw _ (Z39 (by omega) 0)⟩,?_⟩
 rintro _ rfl
 rfl
end Go.Lift

namespace Go.Lift
open Go.Proofs
def Z8k:Con:=Con.nam [.flt .f64,.flt .f64] [.snap (.int .i64)] (fun x=>W2 x.1 x.2.1) (fun x=>Z83 x.1 x.2.1)
def Zgr:Cx:=⟨Zd Zf,Ze [(88,Z51),(87,Zcr)],RbG⟩
theorem Zs0:CxOk Tryz.prog Zgr:=⟨Z3 Z6,Z5 ⟨Z89,Zos,trivial⟩⟩
theorem Zx2:FnAt Tryz.prog 73 Tryz.f73.ntmps Tryz.f73.results.toList (Tryz.f73.body.getD .skip):=⟨Tryz.f73,Tryz.func73,rfl,rfl,by simp,by decide⟩
theorem Zx3 (a:Nat) (b:Nat) (post:Int × Unit→Prop):Z9 Zgr nHn Tryz.f73.ntmps Tryz.f73.results.toList (Tryz.f73.body.getD .skip) [.flt .f64,.flt .f64] [.snap (.int .i64)] (a,b,()) post=Z9f  a b post:=by kernel_rfl
theorem Zgs:Z8k.holds Tryz.prog RbG 73 :=
 Zo (detP Zs0 Z8 nHn Zx2 (F:=fun x post=>Z9f  x.1 x.2.1 post) (fun x post=>Zx3 x.1 x.2.1 post) fun x h _=>Z13u  x.1 x.2.1 h)
def Zdg:Con:=Con.nam [.flt .f64,.flt .f64] [.snap .bool] (fun x=>W2 x.1 x.2.1) (fun x=>Zii x.1 x.2.1)
def Zq1:Cx:=⟨Zd Zf,Ze [(115,Z4i),(114,Zaz)],RbG⟩
theorem Zzr:CxOk Tryz.prog Zq1:=⟨Z3 Z6,Z5 ⟨Z6w,Zlc,trivial⟩⟩
theorem Z191:FnAt Tryz.prog 78 Tryz.f78.ntmps Tryz.f78.results.toList (Tryz.f78.body.getD .skip):=⟨Tryz.f78,Tryz.func78,rfl,rfl,by simp,by decide⟩
theorem Z192 (a:Nat) (b:Nat) (post:Bool × Unit→Prop):Z9 Zq1 nHn Tryz.f78.ntmps Tryz.f78.results.toList (Tryz.f78.body.getD .skip) [.flt .f64,.flt .f64] [.snap .bool] (a,b,()) post=Zg7  a b post:=by kernel_rfl
theorem Zq2:Zdg.holds Tryz.prog RbG 78 :=
 Zo (detP Zzr Z8 nHn Z191 (F:=fun x post=>Zg7  x.1 x.2.1 post) (fun x post=>Z192 x.1 x.2.1 post) fun x h _=>Z1g6  x.1 x.2.1 h)
def Zf2:Con:=Con.nam [.int .i64,.int .i64,.ptr (.slice (.flt .f64))] [.snap (.int .i64)] (fun x=>WCmp x.1 x.2.1 x.2.2.1) (fun x=>Zam x.1 x.2.1 x.2.2.1)
def Z6v:Hn:=nHn
def Z7n:Cx:=⟨Zd Zf,Ze [(73,Z8k)],RbG⟩
theorem Zq3:CxOk Tryz.prog Z7n:=⟨Z3 Z6,Z5 ⟨Zgs,trivial⟩⟩
theorem Zu1:FnAt Tryz.prog 72 Tryz.f72.ntmps Tryz.f72.results.toList (Tryz.f72.body.getD .skip):=⟨Tryz.f72,Tryz.func72,rfl,rfl,by simp,by decide⟩
theorem Zq4 (x:Int) (y:Int) (post:Int × Unit→Prop):Z9 Z7n Z6v Tryz.f72.ntmps Tryz.f72.results.toList (Tryz.f72.body.getD .skip) [.int .i64,.int .i64,.ptr (.slice (.flt .f64))] [.snap (.int .i64)] (x,y,none,()) post=Z6t  x y post:=by kernel_rfl
theorem Zq5 (x:Int) (y:Int) (p:List Nat) (post:Int × Unit→Prop):Z9 Z7n Z6v Tryz.f72.ntmps Tryz.f72.results.toList (Tryz.f72.body.getD .skip) [.int .i64,.int .i64,.ptr (.slice (.flt .f64))] [.snap (.int .i64)] (x,y,(some p),()) post=Z6u  x y p post:=by kernel_rfl
def Zx4 (x:KS [.int .i64,.int .i64,.ptr (.slice (.flt .f64))]) (post:RS [.snap (.int .i64)]→Prop):Prop:=match x with
 | (z0,z1,none,y)=>Z6t  z0 z1 post
 | (z0,z1,some g,y)=>Z6u  z0 z1 g post
theorem Zx5:Zf2.holds Tryz.prog RbG 72 :=
 Zo (detP Zq3 Z8 Z6v Zu1 (F:=Zx4) (fun x post=>match x with
  | (z0,z1,none,y)=>Zq4 z0 z1 post
  | (z0,z1,some g,y)=>Zq5 z0 z1 g post) fun x h w=>match x,h,w with
  | (z0,z1,none,y),h,w=>Ztz  z0 z1 h
  | (z0,z1,some g,y),h,w=>Zu0  z0 z1 g h )
end Go.Lift

namespace Go.Lift
open Go.Proofs
def Zq6:Con:=Con.nam [.slice (.int .i64)] [.snap .bool] (fun _=>True) (fun x=>Zkv x.1)
def Zmj:Hn:={ loops:=Z22 [(3,{ ls:=[(.slot 8,.data (.int .i64)),(.slot 3,.data (.int .i64))],os:=[] })],joins:=fun _=>none,named:=true }
def Zq7:Cx:=⟨Zd Zf,Ze [],RbG⟩
theorem Zzs:CxOk Tryz.prog Zq7:=⟨Z3 Z6,fun f c h=>by cases h⟩
theorem Z193:FnAt Tryz.prog 56 Tryz.f56.ntmps Tryz.f56.results.toList (Tryz.f56.body.getD .skip):=⟨Tryz.f56,Tryz.func56,rfl,rfl,by simp,by decide⟩
theorem Z194 (l:List Int) (post:Bool × Unit→Prop):Z9 Zq7 Zmj Tryz.f56.ntmps Tryz.f56.results.toList (Tryz.f56.body.getD .skip) [.slice (.int .i64)] [.snap .bool] (l,()) post=Zg0  l post:=by kernel_rfl
theorem Z1cq:Zq6.holds Tryz.prog RbG 56 :=
 Zo (detP Zzs Z8 Zmj Z193 (F:=fun x post=>Zg0  x.1 post) (fun x post=>Z194 x.1 post) fun x _ w=>Z1fv  x.1 w)
def Zgt:Con:=Con.nam [.slice (.int .i64)] [.snap .bool] (fun _=>True) (fun x=>Zkv x.1)
def Zf3:Hn:={ loops:=Z22 [(3,{ ls:=[(.slot 3,.data (.int .i64)),(.slot 4,.data (.int .i64))],os:=[] })],joins:=fun _=>none,named:=true }
def Zgu:Cx:=⟨Zd Zf,Ze [],RbG⟩
theorem Zs1:CxOk Tryz.prog Zgu:=⟨Z3 Z6,fun f c h=>by cases h⟩
theorem Zx6:FnAt Tryz.prog 66 Tryz.f66.ntmps Tryz.f66.results.toList (Tryz.f66.body.getD .skip):=⟨Tryz.f66,Tryz.func66,rfl,rfl,by simp,by decide⟩
theorem Zx7 (l:List Int) (post:Bool × Unit→Prop):Z9 Zgu Zf3 Tryz.f66.ntmps Tryz.f66.results.toList (Tryz.f66.body.getD .skip) [.slice (.int .i64)] [.snap .bool] (l,()) post=Z9a  l post:=by kernel_rfl
theorem Zzt:Zgt.holds Tryz.prog RbG 66 :=
 Zo (detP Zs1 Z8 Zf3 Zx6 (F:=fun x post=>Z9a  x.1 post) (fun x post=>Zx7 x.1 post) fun x _ w=>Z12x  x.1 w)
def Z5a:Con:=Con.nam [.slice (.int .i64)] [.own 2 (.int .i64)] (fun x=>Zkw x.1) (fun x=>Z8q x.1)
def Z4o:Hn:={ loops:=fun _=>none,joins:=fun _=>none,named:=true }
def Z5b:Cx:=⟨Zd Zf,Ze [],RbG⟩
theorem Z9z:CxOk Tryz.prog Z5b:=⟨Z3 Z6,fun f c h=>by cases h⟩
theorem Zbp:FnAt Tryz.prog 57 Tryz.f57.ntmps Tryz.f57.results.toList (Tryz.f57.body.getD .skip):=⟨Tryz.f57,Tryz.func57,rfl,rfl,by simp,by decide⟩
theorem Zbq (l:List Int) (post:(List Int) × Unit→Prop):Z9 Z5b Z4o Tryz.f57.ntmps Tryz.f57.results.toList (Tryz.f57.body.getD .skip) [.slice (.int .i64)] [.own 2 (.int .i64)] (l,()) post=Z3d  l post:=by kernel_rfl
theorem Zdh:Z5a.holds Tryz.prog RbG 57 :=
 Zo (detP Z9z Z8 Z4o Zbp (F:=fun x post=>Z3d  x.1 post) (fun x post=>Zbq x.1 post) fun x h _=>Zf0  x.1 h)
def Zjo:Con:=Con.nam [.slice (.int .i64)] [.own 2 (.int .i64)] (fun x=>Zkw x.1) (fun x=>Z8q x.1)
def Zgv:Hn:={ loops:=Z22 [(3,{ ls:=[(.slot 4,.data (.int .i64))],os:=[(0,2,.int .i64)] })],joins:=fun _=>none,named:=true }
def Zjp:Cx:=⟨Zd Zf,Ze [],RbG⟩
theorem Zu2:CxOk Tryz.prog Zjp:=⟨Z3 Z6,fun f c h=>by cases h⟩
theorem Zzu:FnAt Tryz.prog 67 Tryz.f67.ntmps Tryz.f67.results.toList (Tryz.f67.body.getD .skip):=⟨Tryz.f67,Tryz.func67,rfl,rfl,by simp,by decide⟩
theorem Zzv (l:List Int) (post:(List Int) × Unit→Prop):Z9 Zjp Zgv Tryz.f67.ntmps Tryz.f67.results.toList (Tryz.f67.body.getD .skip) [.slice (.int .i64)] [.own 2 (.int .i64)] (l,()) post=Zb2 2 l post:=by kernel_rfl
theorem Z13v:Zjo.holds Tryz.prog RbG 67 :=
 Zo (detP Zu2 Z8 Zgv Zzu (F:=fun x post=>Zb2 2 x.1 post) (fun x post=>Zzv x.1 post) fun x h _=>Z189 2 x.1 h)
def Zq8:Con:=Con.nam [.ptr Z1g,kSea] [.snap .bool] (fun x=>Z1ad x.1 x.2.1) (fun x=>Zht x.1 x.2.1)
def Zmk:Hn:={ loops:=fun _=>none,joins:=fun _=>none,named:=true }
def Zq9:Cx:=⟨Zd Zf,Ze [(76,Z5x),(93,Zbe)],RbG⟩
theorem Zzw:CxOk Tryz.prog Zq9:=⟨Z3 Z6,Z5 ⟨Zbd,Zru,trivial⟩⟩
theorem Z195:FnAt Tryz.prog 65 Tryz.f65.ntmps Tryz.f65.results.toList (Tryz.f65.body.getD .skip):=⟨Tryz.f65,Tryz.func65,rfl,rfl,by simp,by decide⟩
theorem Z196 (g:Option (Int × (List (Int × Int × Int × Int)) × List Int)) (s:(List Nat) × (List Int) × (List Int) × (List Nat) × Int × Int) (post:Bool × Unit→Prop):Z9 Zq9 Zmk Tryz.f65.ntmps Tryz.f65.results.toList (Tryz.f65.body.getD .skip) [.ptr Z1g,kSea] [.snap .bool] (g,s,()) post=Zg1  g s post:=by kernel_rfl
theorem Z1cr:Zq8.holds Tryz.prog RbG 65 :=
 Zo (detP Zzw Z8 Zmk Z195 (F:=fun x post=>Zg1  x.1 x.2.1 post) (fun x post=>Z196 x.1 x.2.1 post) fun x h _=>Z1fw  x.1 x.2.1 h)
def Zbt:Con:=Con.nam [.ptr Z1g,.int .i64] [.snap (.int .i64)] (fun x=>Z1ij x.1 x.2.1) (fun x=>Z16c x.1 x.2.1)
def Zbu:Cx:=⟨Zd Zf,Ze [(77,Z44),(109,Zpt)],RbG⟩
theorem Zno:CxOk Tryz.prog Zbu:=⟨Z3 Z6,Z5 ⟨Z6o,Z1cp,trivial⟩⟩
theorem Zs2:FnAt Tryz.prog 69 Tryz.f69.ntmps Tryz.f69.results.toList (Tryz.f69.body.getD .skip):=⟨Tryz.f69,Tryz.func69,rfl,rfl,by simp,by decide⟩
theorem Zs3 (g:Option (Int × (List (Int × Int × Int × Int)) × List Int)) (c:Int) (post:Int × Unit→Prop):Z9 Zbu nHn Tryz.f69.ntmps Tryz.f69.results.toList (Tryz.f69.body.getD .skip) [.ptr Z1g,.int .i64] [.snap (.int .i64)] (g,c,()) post=Z7k  g c post:=by kernel_rfl
theorem Zu3:Zbt.holds Tryz.prog RbG 69 :=
 Zo (detP Zno Z8 nHn Zs2 (F:=fun x post=>Z7k  x.1 x.2.1 post) (fun x post=>Zs3 x.1 x.2.1 post) fun x h _=>Zwl  x.1 x.2.1 h)
def Zdi:Con:=Con.nam [.ptr Z14,.slice (.flt .f64),.int .i64] [.snap (.int .i64)] (fun x=>Zhu x.1 x.2.1 x.2.2.1) (fun x=>Z47 x.1 x.2.1 x.2.2.1)
def Zbj:Hn:={ loops:=Z22 [(5,{ ls:=[(.slot 34,.data (.int .i64)),(.slot 7,.data (.int .i64))],os:=[] })],joins:=fun _=>none,named:=true }
def Zdj:Cx:=⟨Zd Zf,Ze [(31,Z43),(46,Zbi),(75,Zf1),(73,Z8k)],RbG⟩
theorem Zzx:CxOk Tryz.prog Zdj:=⟨Z3 Z6,Z5 ⟨Z6j,Zrz,Zx1,Zgs,trivial⟩⟩
theorem Z197:FnAt Tryz.prog 32 Tryz.f32.ntmps Tryz.f32.results.toList (Tryz.f32.body.getD .skip):=⟨Tryz.f32,Tryz.func32,rfl,rfl,by simp,by decide⟩
theorem Zzy (bed:List Nat) (c:Int) (post:Int × Unit→Prop):Z9 Zdj Zbj Tryz.f32.ntmps Tryz.f32.results.toList (Tryz.f32.body.getD .skip) [.ptr Z14,.slice (.flt .f64),.int .i64] [.snap (.int .i64)] (none,bed,c,()) post=Zb3  bed c post:=by kernel_rfl
theorem Zzz (g:Int × (List (Int × Int × Int × Int)) × (List ((Int × Int) × Int)) × (List (List Int)) × (List Int) × (List Nat) × List Nat) (bed:List Nat) (c:Int) (post:Int × Unit→Prop):Z9 Zdj Zbj Tryz.f32.ntmps Tryz.f32.results.toList (Tryz.f32.body.getD .skip) [.ptr Z14,.slice (.flt .f64),.int .i64] [.snap (.int .i64)] ((some g),bed,c,()) post=Zb4  g bed c post:=by kernel_rfl
def Z1cs (x:KS [.ptr Z14,.slice (.flt .f64),.int .i64]) (post:RS [.snap (.int .i64)]→Prop):Prop:=match x with
 | (none,y)=>Zb3  y.1 y.2.1 post
 | (some g,y)=>Zb4  g y.1 y.2.1 post
theorem Zqa:Zdi.holds Tryz.prog RbG 32 :=
 Zo (detP Zzx Z8 Zbj Z197 (F:=Z1cs) (fun x post=>match x with
  | (none,y)=>Zzy y.1 y.2.1 post
  | (some g,y)=>Zzz g y.1 y.2.1 post) fun x h w=>match x,h,w with
  | (none,y),h,w=>Z18a  y.1 y.2.1 h w
  | (some g,y),h,w=>Z18b  g y.1 y.2.1 h w)
def Zqb:Con:=Con.nam [.ptr Z1g,.slice (.flt .f64),.int .i64] [.snap (.int .i64)] (fun x=>Zr7 x.1 x.2.1 x.2.2.1) (fun x=>Zcc x.1 x.2.1 x.2.2.1)
def Zbk:Hn:={ loops:=Z22 [(5,{ ls:=[(.slot 8,.data (.int .i64)),(.slot 7,.data (.int .i64))],os:=[] })],joins:=fun _=>none,named:=true }
def Zdk:Cx:=⟨Zd Zf,Ze [(76,Z5x),(77,Z44),(64,Z9c),(78,Zdg)],RbG⟩
theorem Z100:CxOk Tryz.prog Zdk:=⟨Z3 Z6,Z5 ⟨Zbd,Z6o,Zjh,Zq2,trivial⟩⟩
theorem Z198:FnAt Tryz.prog 33 Tryz.f33.ntmps Tryz.f33.results.toList (Tryz.f33.body.getD .skip):=⟨Tryz.f33,Tryz.func33,rfl,rfl,by simp,by decide⟩
theorem Z101 (bed:List Nat) (c:Int) (post:Int × Unit→Prop):Z9 Zdk Zbk Tryz.f33.ntmps Tryz.f33.results.toList (Tryz.f33.body.getD .skip) [.ptr Z1g,.slice (.flt .f64),.int .i64] [.snap (.int .i64)] (none,bed,c,()) post=Zb5  bed c post:=by kernel_rfl
theorem Z102 (g:Int × (List (Int × Int × Int × Int)) × List Int) (bed:List Nat) (c:Int) (post:Int × Unit→Prop):Z9 Zdk Zbk Tryz.f33.ntmps Tryz.f33.results.toList (Tryz.f33.body.getD .skip) [.ptr Z1g,.slice (.flt .f64),.int .i64] [.snap (.int .i64)] ((some g),bed,c,()) post=Zb6  g bed c post:=by kernel_rfl
def Z1ct (x:KS [.ptr Z1g,.slice (.flt .f64),.int .i64]) (post:RS [.snap (.int .i64)]→Prop):Prop:=match x with
 | (none,y)=>Zb5  y.1 y.2.1 post
 | (some g,y)=>Zb6  g y.1 y.2.1 post
theorem Z1cu:Zqb.holds Tryz.prog RbG 33 :=
 Zo (detP Z100 Z8 Zbk Z198 (F:=Z1ct) (fun x post=>match x with
  | (none,y)=>Z101 y.1 y.2.1 post
  | (some g,y)=>Z102 g y.1 y.2.1 post) fun x h w=>match x,h,w with
  | (none,y),h,w=>Z18c  y.1 y.2.1 h w
  | (some g,y),h,w=>Z18d  g y.1 y.2.1 h w)
def Zqc:Con:=Con.nam [.slice (.int .i64),.slice (.int .i64)] [.snap .bool] (fun _=>True) (fun x=>Zks x.1 x.2.1)
def Zml:Hn:={ loops:=Z22 [(4,{ ls:=[(.slot 5,.data (.int .i64))],os:=[] })],joins:=fun _=>none,named:=true }
def Zqd:Cx:=⟨Zd Zf,Ze [],RbG⟩
theorem Z103:CxOk Tryz.prog Zqd:=⟨Z3 Z6,fun f c h=>by cases h⟩
theorem Z199:FnAt Tryz.prog 27 Tryz.f27.ntmps Tryz.f27.results.toList (Tryz.f27.body.getD .skip):=⟨Tryz.f27,Tryz.func27,rfl,rfl,by simp,by decide⟩
theorem Z19a (a:List Int) (b:List Int) (post:Bool × Unit→Prop):Z9 Zqd Zml Tryz.f27.ntmps Tryz.f27.results.toList (Tryz.f27.body.getD .skip) [.slice (.int .i64),.slice (.int .i64)] [.snap .bool] (a,b,()) post=Zg2  a b post:=by kernel_rfl
theorem Z1cv:Zqc.holds Tryz.prog RbG 27 :=
 Zo (detP Z103 Z8 Zml Z199 (F:=fun x post=>Zg2  x.1 x.2.1 post) (fun x post=>Z19a x.1 x.2.1 post) fun x _ w=>Z1fx  x.1 x.2.1 w)
def Zgw:Con:=Con.nam [.slice (.int .i64),.slice (.int .i64)] [.snap .bool] (fun _=>True) (fun x=>Zks x.1 x.2.1)
def Zf4:Hn:={ loops:=Z22 [(4,{ ls:=[(.slot 5,.data (.int .i64))],os:=[] })],joins:=fun _=>none,named:=true }
def Zgx:Cx:=⟨Zd Zf,Ze [],RbG⟩
theorem Zs4:CxOk Tryz.prog Zgx:=⟨Z3 Z6,fun f c h=>by cases h⟩
theorem Zx8:FnAt Tryz.prog 28 Tryz.f28.ntmps Tryz.f28.results.toList (Tryz.f28.body.getD .skip):=⟨Tryz.f28,Tryz.func28,rfl,rfl,by simp,by decide⟩
theorem Zx9 (a:List Int) (b:List Int) (post:Bool × Unit→Prop):Z9 Zgx Zf4 Tryz.f28.ntmps Tryz.f28.results.toList (Tryz.f28.body.getD .skip) [.slice (.int .i64),.slice (.int .i64)] [.snap .bool] (a,b,()) post=Z9b  a b post:=by kernel_rfl
theorem Z104:Zgw.holds Tryz.prog RbG 28 :=
 Zo (detP Zs4 Z8 Zf4 Zx8 (F:=fun x post=>Z9b  x.1 x.2.1 post) (fun x post=>Zx9 x.1 x.2.1 post) fun x _ w=>Z12y  x.1 x.2.1 w)
end Go.Lift

namespace Go.Lift
def Z61:=fun (N:Nat) (bed:List Nat) (a b:Int) (post:List Int × Unit→Prop)=>∀ (a_1:Bool),a_1=decide (i64.wrap (b - a)<(1:Int))→Br a_1
 (post ([],())) (∀ (a_2:Bool),a_2=(i64.wrap (b - a)==(1:Int))→Br a_2 (((0:Nat)=(0:Nat)∧(1:Nat)=(1:Nat))∧post ([a],())) (∃ (h:(2:Int)≠(0 :
 Int)),∃ (h:Z1gp N bed a (i64.wrap (a+i64.wrap ((i64.wrap (b - a)).tdiv (2:Int))))),∀ (a_3:List Int × Unit),a_3=Z6d bed a
 (i64.wrap (a+i64.wrap ((i64.wrap (b - a)).tdiv (2:Int))))→∃ (h:Z1gp N bed (i64.wrap (a+i64.wrap ((i64.wrap (b - a)).tdiv
 (2:Int)))) b),∀ (a_4:List Int × Unit),a_4=Z6d bed (i64.wrap (a+i64.wrap ((i64.wrap (b - a)).tdiv (2:Int)))) b→∃ (h:WMrg bed (List.take
 a_3.fst.length (List.drop (0:Nat) a_3.fst)) (List.take a_4.fst.length (List.drop (0:Nat) a_4.fst))),∀ (a:List Int × Unit),a=mrgR bed (List.take a_3.fst.length (List.drop
 (0:Nat) a_3.fst)) (List.take a_4.fst.length (List.drop (0:Nat) a_4.fst))→((0:Nat)=(0:Nat)∧a.fst.length=a.fst.length)∧post (a.fst,())))
theorem Z13w (N:Nat) (bed:List Nat) (a b:Int) (h:Z1gp (N+1) bed a b):Z61 N bed a b (fun r=>r=Z6d bed a b):=by
 obtain ⟨⟨⟨hw,hb⟩,h0,h1,h2⟩,hN⟩:=h
 unfold Z61
 rw [Zs (x:=b - a) (by omega) (by omega)]
 rintro _ rfl
 refine Br.intro (fun d=>?_) fun d=>?_
 ·have d:b - a<1:=of_decide_eq_true d
  have e:Z1y bed a b=[]:=List.eq_nil_of_length_eq_zero (by rw [Zan]; omega)
  show ([],())=(Z1y bed a b,())
  rw [e]
 have d:¬ b - a<1:=of_decide_eq_false d
 rintro _ rfl
 refine Br.intro (fun e=>?_) fun e=>?_
 ·have e:b - a=1:=by simpa using e
  refine ⟨⟨by trivial,by trivial⟩,?_⟩
  show ([a],())=(Z1y bed a b,())
  have hs:seg a b=[a]:=by
   unfold seg
   rw [show b.toNat - a.toNat=1 by omega]
   show [((a.toNat:Nat):Int)]=[a]
   rw [show ((a.toNat:Nat):Int)=a by omega]
  rw [← Z67 (bed:=bed) (a:=a) (b:=b) (l:=[a]) (by rw [hs]) (List.pairwise_singleton _ _)]
 have e:¬ b - a=1:=by simpa using e
 have q:Int.tdiv (b - a) 2=(b - a) / 2:=Int.tdiv_eq_ediv_of_nonneg (by omega)
 rw [q,Zs (x:=(b - a) / 2) (by omega) (by omega),Zs (x:=a+(b - a) / 2) (by omega) (by omega)]
 obtain ⟨m,hm⟩:∃ m,a+(b - a) / 2=m:=⟨_,rfl⟩
 rw [hm]
 have hab:a<m∧m<b:=by omega
 refine ⟨by decide,⟨⟨⟨hw,hb⟩,by omega,by omega,by omega⟩,by omega⟩,?_⟩
 rintro _ rfl
 refine ⟨⟨⟨⟨hw,hb⟩,by omega,by omega,by omega⟩,by omega⟩,?_⟩
 rintro _ rfl
 have e1:List.take (Z6d bed a m).1.length (List.drop 0 (Z6d bed a m).1)=Z1y bed a m:=by rw [List.drop_zero,List.take_length]; rfl
 have e2:List.take (Z6d bed m b).1.length (List.drop 0 (Z6d bed m b).1)=Z1y bed m b:=by rw [List.drop_zero,List.take_length]; rfl
 rw [e1,e2]
 refine ⟨⟨⟨hw,hb⟩,fun x hx=>by have:=Z5p hx; omega,fun x hx=>by have:=Z5p hx; omega,by rw [Zan]; omega,by rw [Zan]; omega⟩,?_⟩
 rintro _ rfl
 refine ⟨⟨by trivial,by trivial⟩,?_⟩
 show (mrgL bed (Z1y bed a m) (Z1y bed m b),())=(Z1y bed a b,())
 rw [Z1tx h0 (by omega) (by omega)]
end Go.Lift

namespace Go.Lift
def Zbl:=fun (bed:List Nat) (l r:List Int) (post:List Int × Unit→Prop)=>HIs [] []∧∃ (I:Int × Int × List Int × Unit→Unit→Prop),∃ (μ:Int × Int ×
 List Int × Unit→Unit→Nat),I ((0:Int),(0:Int),[],()) ()∧∀ (x:Int × Int × List Int × Unit) (y:Unit),I x y→∀ (a:Bool),a=decide (x.fst<(↑l.length:Int)) →
 Br a (∀ (a:Bool),a=(x.snd.fst==(↑r.length:Int))→Br a (∃ (h:(0:Int)≤x.fst∧x.fst<(↑l.length:Int)),∃ (h:x.snd.snd.fst.length=x.snd.snd.fst.length ∧
 (x.snd.snd.fst.length+(1:Nat))*(8:Nat)≤(140737488355328:Nat)),((0:Nat)=(0:Nat)∧x.snd.snd.fst.length+(1:Nat)=(x.snd.snd.fst++[l.getD x.fst.toNat (0 :
 Int)]).length)∧HIs [] []∧I (i64.wrap (x.fst+(1:Int)),x.snd.fst,x.snd.snd.fst++[l.getD x.fst.toNat (0:Int)],()) ()∧μ (i64.wrap (x.fst+(1:Int)),
 x.snd.fst,x.snd.snd.fst++[l.getD x.fst.toNat (0:Int)],()) ()<μ x y) (∀ (a:Bool),a=decide (x.fst<(↑l.length:Int))→Br a (∃ (h:(0:Int)≤x.fst∧x.fst <
 (↑l.length:Int)),∃ (h:(0:Int)≤l.getD x.fst.toNat (0:Int)∧l.getD x.fst.toNat (0:Int)<(↑bed.length:Int)),∃ (h:(0:Int)≤x.snd.fst∧x.snd.fst<(↑r.length :
 Int)),∃ (h:(0:Int)≤r.getD x.snd.fst.toNat (0:Int)∧r.getD x.snd.fst.toNat (0:Int)<(↑bed.length:Int)),∃ (h:W2 (bed.getD (Int.toNat (l.getD x.fst.toNat (0 :
 Int))) (0:Nat)) (bed.getD (Int.toNat (r.getD x.snd.fst.toNat (0:Int))) (0:Nat))),∀ (a:Bool × Unit),a=Zii (bed.getD (Int.toNat (l.getD x.fst.toNat (0:Int))) (0 :
 Nat)) (bed.getD (Int.toNat (r.getD x.snd.fst.toNat (0:Int))) (0:Nat))→∀ (a_1:Bool),a_1=a.fst→Br (!a_1) (∃ (h:(0:Int)≤x.fst∧x.fst<(↑l.length:Int)),∃ (h :
 x.snd.snd.fst.length=x.snd.snd.fst.length∧(x.snd.snd.fst.length+(1:Nat))*(8:Nat)≤(140737488355328:Nat)),((0:Nat)=(0:Nat)∧x.snd.snd.fst.length+(1:Nat)
 = (x.snd.snd.fst++[l.getD x.fst.toNat (0:Int)]).length)∧HIs [] []∧I (i64.wrap (x.fst+(1:Int)),x.snd.fst,x.snd.snd.fst++[l.getD x.fst.toNat (0:Int)],())
 ()∧μ (i64.wrap (x.fst+(1:Int)),x.snd.fst,x.snd.snd.fst++[l.getD x.fst.toNat (0:Int)],()) ()<μ x y) (∃ (h:(0:Int)≤x.snd.fst∧x.snd.fst<(↑r.length :
 Int)),∃ (h:x.snd.snd.fst.length=x.snd.snd.fst.length∧(x.snd.snd.fst.length+(1:Nat))*(8:Nat)≤(140737488355328:Nat)),((0:Nat)=(0:Nat) ∧
 x.snd.snd.fst.length+(1:Nat)=(x.snd.snd.fst++[r.getD x.snd.fst.toNat (0:Int)]).length)∧HIs [] []∧I (x.fst,i64.wrap (x.snd.fst+(1:Int)),x.snd.snd.fst ++
 [r.getD x.snd.fst.toNat (0:Int)],()) ()∧μ (x.fst,i64.wrap (x.snd.fst+(1:Int)),x.snd.snd.fst++[r.getD x.snd.fst.toNat (0:Int)],()) ()<μ x y)) (∃ (h:(0 :
 Int)≤x.snd.fst∧x.snd.fst<(↑r.length:Int)),∃ (h:x.snd.snd.fst.length=x.snd.snd.fst.length∧(x.snd.snd.fst.length+(1:Nat))*(8:Nat)≤(140737488355328:Nat)),
 ((0:Nat)=(0:Nat)∧x.snd.snd.fst.length+(1:Nat)=(x.snd.snd.fst++[r.getD x.snd.fst.toNat (0:Int)]).length)∧HIs [] []∧I (x.fst,i64.wrap (x.snd.fst+(1
 : Int)),x.snd.snd.fst++[r.getD x.snd.fst.toNat (0:Int)],()) ()∧μ (x.fst,i64.wrap (x.snd.fst+(1:Int)),x.snd.snd.fst++[r.getD x.snd.fst.toNat (0:Int)],())
 ()<μ x y))) (∀ (a:Bool),a=decide (x.snd.fst<(↑r.length:Int))→Br a (∀ (a:Bool),a=(x.snd.fst==(↑r.length:Int))→Br a (∃ (h:(0:Int)≤x.fst∧x.fst <
 (↑l.length:Int)),∃ (h:x.snd.snd.fst.length=x.snd.snd.fst.length∧(x.snd.snd.fst.length+(1:Nat))*(8:Nat)≤(140737488355328:Nat)),((0:Nat)=(0:Nat) ∧
 x.snd.snd.fst.length+(1:Nat)=(x.snd.snd.fst++[l.getD x.fst.toNat (0:Int)]).length)∧HIs [] []∧I (i64.wrap (x.fst+(1:Int)),x.snd.fst,x.snd.snd.fst ++
 [l.getD x.fst.toNat (0:Int)],()) ()∧μ (i64.wrap (x.fst+(1:Int)),x.snd.fst,x.snd.snd.fst++[l.getD x.fst.toNat (0:Int)],()) ()<μ x y) (∀ (a:Bool),a =
 decide (x.fst<(↑l.length:Int))→Br a (∃ (h:(0:Int)≤x.fst∧x.fst<(↑l.length:Int)),∃ (h:(0:Int)≤l.getD x.fst.toNat (0:Int)∧l.getD x.fst.toNat (0:Int) <
 (↑bed.length:Int)),∃ (h:(0:Int)≤x.snd.fst∧x.snd.fst<(↑r.length:Int)),∃ (h:(0:Int)≤r.getD x.snd.fst.toNat (0:Int)∧r.getD x.snd.fst.toNat (0:Int) <
 (↑bed.length:Int)),∃ (h:W2 (bed.getD (Int.toNat (l.getD x.fst.toNat (0:Int))) (0:Nat)) (bed.getD (Int.toNat (r.getD x.snd.fst.toNat (0:Int))) (0:Nat))),∀ (a:Bool ×
 Unit),a=Zii (bed.getD (Int.toNat (l.getD x.fst.toNat (0:Int))) (0:Nat)) (bed.getD (Int.toNat (r.getD x.snd.fst.toNat (0:Int))) (0:Nat))→∀ (a_1:Bool),a_1=a.fst
 → Br (!a_1) (∃ (h:(0:Int)≤x.fst∧x.fst<(↑l.length:Int)),∃ (h:x.snd.snd.fst.length=x.snd.snd.fst.length∧(x.snd.snd.fst.length+(1:Nat))*(8:Nat) ≤
 (140737488355328:Nat)),((0:Nat)=(0:Nat)∧x.snd.snd.fst.length+(1:Nat)=(x.snd.snd.fst++[l.getD x.fst.toNat (0:Int)]).length)∧HIs [] []∧I (i64.wrap
 (x.fst+(1:Int)),x.snd.fst,x.snd.snd.fst++[l.getD x.fst.toNat (0:Int)],()) ()∧μ (i64.wrap (x.fst+(1:Int)),x.snd.fst,x.snd.snd.fst++[l.getD x.fst.toNat
 (0:Int)],()) ()<μ x y) (∃ (h:(0:Int)≤x.snd.fst∧x.snd.fst<(↑r.length:Int)),∃ (h:x.snd.snd.fst.length=x.snd.snd.fst.length∧(x.snd.snd.fst.length+(1:Nat))
 * (8:Nat)≤(140737488355328:Nat)),((0:Nat)=(0:Nat)∧x.snd.snd.fst.length+(1:Nat)=(x.snd.snd.fst++[r.getD x.snd.fst.toNat (0:Int)]).length)∧HIs [] []∧I
 (x.fst,i64.wrap (x.snd.fst+(1:Int)),x.snd.snd.fst++[r.getD x.snd.fst.toNat (0:Int)],()) ()∧μ (x.fst,i64.wrap (x.snd.fst+(1:Int)),x.snd.snd.fst
 ++ [r.getD x.snd.fst.toNat (0:Int)],()) ()<μ x y)) (∃ (h:(0:Int)≤x.snd.fst∧x.snd.fst<(↑r.length:Int)),∃ (h:x.snd.snd.fst.length=x.snd.snd.fst.length ∧
 (x.snd.snd.fst.length+(1:Nat))*(8:Nat)≤(140737488355328:Nat)),((0:Nat)=(0:Nat)∧x.snd.snd.fst.length+(1:Nat)=(x.snd.snd.fst++[r.getD x.snd.fst.toNat (0
 : Int)]).length)∧HIs [] []∧I (x.fst,i64.wrap (x.snd.fst+(1:Int)),x.snd.snd.fst++[r.getD x.snd.fst.toNat (0:Int)],()) ()∧μ (x.fst,i64.wrap
 (x.snd.fst+(1:Int)),x.snd.snd.fst++[r.getD x.snd.fst.toNat (0:Int)],()) ()<μ x y))) (((0:Nat)=(0:Nat)∧x.snd.snd.fst.length=x.snd.snd.fst.length)∧post
 (x.snd.snd.fst,())))
theorem Z19b (bed:List Nat) (l:List Int) (t:List Int) (h:WMrg bed l t):Zbl  bed l t (fun r=>r=mrgR bed l t):=by
 obtain ⟨⟨hw,hb⟩,hl,hr,ll,lr⟩:=h
 refine ⟨rfl,fun x _=>∃ i j:Nat,x.1=i∧x.2.1=j∧i≤l.length∧j≤t.length∧x.2.2.1.length=i+j∧x.2.2.1++mrgL bed (l.drop i) (t.drop j)=mrgL bed l t,fun x _=>l.length+t.length - (x.1+x.2.1).toNat,⟨0,0,rfl,rfl,by omega,by omega,rfl,rfl⟩,?_⟩
 rintro ⟨_,_,out,⟨⟩⟩ _ ⟨i,j,rfl,rfl,hi,hj,lo,ho⟩
 dsimp only at lo ho ⊢
 have w1:∀ u:Nat,u≤65536→i64.wrap ((u:Int)+1)=((u+1:Nat):Int):=fun u h=>by rw [Zs (by omega) (by omega)]; omega
 rw [w1 i (by omega),w1 j (by omega)]
 simp only [Int.toNat_natCast]
 have dle:∀ u v:Nat,decide ((u:Int)<v)=true→u<v:=fun u v d=>by have d:(u:Int)<v:=of_decide_eq_true d; omega
 have dge:∀ u v:Nat,decide ((u:Int)<v)=false→v≤u:=fun u v d=>by have d:¬ (u:Int)<v:=of_decide_eq_false d; omega
 have nextA:i<l.length→(j=t.length∨(j<t.length∧keyB bed (at0 l i)≤keyB bed (at0 t j)))→(out++[at0 l i])++mrgL bed (l.drop (i+1)) (t.drop j)=mrgL bed l t:=fun h1 h2=>by
  rw [← ho,Z1s1 h1 h2,List.append_assoc]; rfl
 have nextB:j<t.length→(i=l.length∨(i<l.length∧¬ keyB bed (at0 l i)≤keyB bed (at0 t j)))→(out++[at0 t j])++mrgL bed (l.drop i) (t.drop (j+1))=mrgL bed l t:=fun h1 h2=>by
  rw [← ho,Z1q3 h1 h2,List.append_assoc]; rfl
 rintro _ rfl
 refine Br.intro (fun d=>?_) fun d=>?_
 rotate_left
 ·rintro _ rfl
  refine Br.intro (fun d2=>?_) fun d2=>?_
  rotate_left
  ·have d:=dge _ _ d
   have d2:=dge _ _ d2
   refine ⟨⟨by trivial,by trivial⟩,?_⟩
   rw [show i=l.length by omega,show j=t.length by omega,List.drop_length,List.drop_length] at ho
   have e:mrgL bed [] []=[]:=by unfold mrgL; simp
   rw [e,List.append_nil] at ho
   rw [ho]; rfl
  have d:i<l.length∨j<t.length:=.inr (dle _ _ d2)
  rintro _ rfl
  refine Br.intro (fun e=>?_) fun e=>?_
  ·have e:j=t.length:=by
    have e:(j:Int)=t.length:=by simpa using e
    omega
   exact ⟨⟨by omega,by omega⟩,⟨by trivial,by omega⟩,⟨by trivial,by simp⟩,rfl,⟨i+1,j,rfl,rfl,by omega,hj,by rw [List.length_append]; simp; omega,nextA (by omega) (.inl e)⟩,by omega⟩
  have e:j<t.length:=by
   have e:¬ (j:Int)=t.length:=by simpa using e
   omega
  rintro _ rfl
  refine Br.intro (fun f=>?_) fun f=>?_
  rotate_left
  ·have f:=dge _ _ f
   exact ⟨⟨by omega,by omega⟩,⟨by trivial,by omega⟩,⟨by trivial,by simp⟩,rfl,⟨i,j+1,rfl,rfl,hi,by omega,by rw [List.length_append]; simp; omega,nextB e (.inl (by omega))⟩,by omega⟩
  have f:=dle _ _ f
  have m1:=hl _ (Z84 f)
  have m2:=hr _ (Z84 e)
  refine ⟨⟨by omega,by omega⟩,m1,⟨by omega,by omega⟩,m2,⟨hw _ (Z39 (by show (at0 l i).toNat<_; omega) 0),hw _ (Z39 (by show (at0 t j).toNat<_; omega) 0)⟩,?_⟩
  rintro _ rfl
  rintro _ rfl
  have lk:=Z1in bed (at0 l i) (at0 t j)
  refine Br.intro (fun g=>?_) fun g=>?_
  ·have g:¬ Z41 (bed.getD (at0 l i).toNat 0) (bed.getD (at0 t j).toNat 0)=true:=by
    intro q
    have g:(!Z41 (bed.getD (at0 l i).toNat 0) (bed.getD (at0 t j).toNat 0))=true:=g
    rw [q] at g; exact absurd g (by decide)
   rw [lk] at g
   exact ⟨⟨by omega,by omega⟩,⟨by trivial,by omega⟩,⟨by trivial,by simp⟩,rfl,⟨i+1,j,rfl,rfl,by omega,hj,by rw [List.length_append]; simp; omega,nextA f (.inr ⟨e,by omega⟩)⟩,by omega⟩
  ·have g:Z41 (bed.getD (at0 l i).toNat 0) (bed.getD (at0 t j).toNat 0)=true:=by
    have g:(!Z41 (bed.getD (at0 l i).toNat 0) (bed.getD (at0 t j).toNat 0))=false:=g
    simpa using g
   rw [lk] at g
   exact ⟨⟨by omega,by omega⟩,⟨by trivial,by omega⟩,⟨by trivial,by simp⟩,rfl,⟨i,j+1,rfl,rfl,hi,by omega,by rw [List.length_append]; simp; omega,nextB e (.inr ⟨f,by omega⟩)⟩,by omega⟩
 have d:i<l.length∨j<t.length:=.inl (dle _ _ d)
 rintro _ rfl
 refine Br.intro (fun e=>?_) fun e=>?_
 ·have e:j=t.length:=by
   have e:(j:Int)=t.length:=by simpa using e
   omega
  exact ⟨⟨by omega,by omega⟩,⟨by trivial,by omega⟩,⟨by trivial,by simp⟩,rfl,⟨i+1,j,rfl,rfl,by omega,hj,by rw [List.length_append]; simp; omega,nextA (by omega) (.inl e)⟩,by omega⟩
 have e:j<t.length:=by
  have e:¬ (j:Int)=t.length:=by simpa using e
  omega
 rintro _ rfl
 refine Br.intro (fun f=>?_) fun f=>?_
 rotate_left
 ·have f:=dge _ _ f
  exact ⟨⟨by omega,by omega⟩,⟨by trivial,by omega⟩,⟨by trivial,by simp⟩,rfl,⟨i,j+1,rfl,rfl,hi,by omega,by rw [List.length_append]; simp; omega,nextB e (.inl (by omega))⟩,by omega⟩
 have f:=dle _ _ f
 have m1:=hl _ (Z84 f)
 have m2:=hr _ (Z84 e)
 refine ⟨⟨by omega,by omega⟩,m1,⟨by omega,by omega⟩,m2,⟨hw _ (Z39 (by show (at0 l i).toNat<_; omega) 0),hw _ (Z39 (by show (at0 t j).toNat<_; omega) 0)⟩,?_⟩
 rintro _ rfl
 rintro _ rfl
 have lk:=Z1in bed (at0 l i) (at0 t j)
 refine Br.intro (fun g=>?_) fun g=>?_
 ·have g:¬ Z41 (bed.getD (at0 l i).toNat 0) (bed.getD (at0 t j).toNat 0)=true:=by
   intro q
   have g:(!Z41 (bed.getD (at0 l i).toNat 0) (bed.getD (at0 t j).toNat 0))=true:=g
   rw [q] at g; exact absurd g (by decide)
  rw [lk] at g
  exact ⟨⟨by omega,by omega⟩,⟨by trivial,by omega⟩,⟨by trivial,by simp⟩,rfl,⟨i+1,j,rfl,rfl,by omega,hj,by rw [List.length_append]; simp; omega,nextA f (.inr ⟨e,by omega⟩)⟩,by omega⟩
 ·have g:Z41 (bed.getD (at0 l i).toNat 0) (bed.getD (at0 t j).toNat 0)=true:=by
   have g:(!Z41 (bed.getD (at0 l i).toNat 0) (bed.getD (at0 t j).toNat 0))=false:=g
   simpa using g
  rw [lk] at g
  exact ⟨⟨by omega,by omega⟩,⟨by trivial,by omega⟩,⟨by trivial,by simp⟩,rfl,⟨i,j+1,rfl,rfl,hi,by omega,by rw [List.length_append]; simp; omega,nextB e (.inr ⟨f,by omega⟩)⟩,by omega⟩
def Zdl:=fun (bed:List Nat) (post:List Int × Unit→Prop)=>∃ (h:Z1nd bed (0:Int) (↑bed.length:Int)),∀ (a:List Int × Unit),a=Z6d bed (0:Int)
 (↑bed.length:Int)→((0:Nat)=(0:Nat)∧a.fst.length=a.fst.length)∧post (a.fst,())
theorem Z1cw (bed:List Nat) (h:WOrd bed):Zdl  bed (fun r=>r=Zal bed):=by
 refine ⟨⟨h,by omega,by omega,by omega⟩,?_⟩
 rintro _ rfl
 exact ⟨⟨by trivial,by trivial⟩,rfl⟩
def Zdm:=fun (ty37 ty3:Nat) (bed:List Nat) (post:List Int × Unit→Prop)=>∃ (h:(0:Int)≤(↑bed.length:Int)∧(↑bed.length:Int)≤(↑bed.length:Int) ∧
 (↑bed.length:Int)*(↑(8:Nat):Int)≤(281474976710656:Int)),HIs [HObj.box Md.rw ty37 [SV.data (K.flt f64).slice bed],HObj.row Md.rw ty3 (K.int i64)
 (List.replicate bed.length (0:Int))] [HObj.box Md.rw ty37 [SV.data (K.flt f64).slice bed],HObj.row Md.rw ty3 (K.int i64) (List.replicate bed.length (0 :
 Int))]∧∃ (I:Int × Unit→List Int × Unit→Prop),∃ (μ:Int × Unit→List Int × Unit→Nat),I ((0:Int),()) (List.replicate bed.length (0:Int),())∧∀ (x:Int × Unit)
 (y:List Int × Unit),I x y→∀ (a:Bool),a=decide (x.fst<(↑bed.length:Int))→Br a (∃ (h:(0:Int)≤x.fst∧x.fst<(↑bed.length:Int)),HIs [HObj.box Md.rw ty37
 [SV.data (K.flt f64).slice bed],HObj.row Md.rw ty3 (K.int i64) (y.fst.set ((0:Nat)+x.fst.toNat) x.fst)] [HObj.box Md.rw ty37 [SV.data (K.flt
 f64).slice bed],HObj.row Md.rw ty3 (K.int i64) (y.fst.set ((0:Nat)+x.fst.toNat) x.fst)]∧I (i64.wrap (x.fst+(1:Int)),()) (y.fst.set ((0 :
 Nat)+x.fst.toNat) x.fst,())∧μ (i64.wrap (x.fst+(1:Int)),()) (y.fst.set ((0:Nat)+x.fst.toNat) x.fst,())<μ x y) (∃ (x:(ty3=ty3)∧(72:Nat)=(72 :
 Nat)∧bed.length=y.fst.length∧Z3b bed y.fst),∀ (ys:List Int),Rr (keyB bed) (0:Nat) y.fst.length y.fst ys∧Sgm (keyB bed) ys (0:Nat) y.fst.length→((0:Nat)=(0
 : Nat)∧bed.length=ys.length)∧post (ys,()))
theorem Z1cx (ty0 ty1:Nat) (bed:List Nat) (h:WOrd bed):Zdm ty0 ty1 bed (fun r=>r=Zal bed):=by
 obtain ⟨hw,hb⟩:=h
 have mx:maxN=281474976710656:=rfl
 refine ⟨⟨by omega,by omega,by omega⟩,rfl,fun x y=>∃ k:Nat,x.1=k∧k≤bed.length∧y.1.length=bed.length∧∀ j,j<k→at0 y.1 j=j,fun x _=>bed.length - x.1.toNat,⟨0,rfl,by omega,List.length_replicate,fun j h=>by omega⟩,?_⟩
 rintro ⟨_,⟨⟩⟩ ⟨y,⟨⟩⟩ ⟨k,rfl,hk,ly,hy⟩
 dsimp only at ly hy ⊢
 rintro _ rfl
 refine Br.intro (fun d=>?_) fun d=>?_
 ·have d:k<bed.length:=by have d:(k:Int)<bed.length:=of_decide_eq_true d; omega
  rw [Int.toNat_natCast,Nat.zero_add,Z21 d (by omega)]
  refine ⟨⟨by omega,by omega⟩,rfl,⟨k+1,rfl,by omega,by rw [List.length_set]; exact ly,fun j hj=>?_⟩,by omega⟩
  rw [Z9t (by omega)]
  split
  ·rename_i e; rw [e]
  ·exact hy j (by omega)
 have d:k=bed.length:=by have d:¬ (k:Int)<bed.length:=of_decide_eq_false d; omega
 have e:y=seg 0 bed.length:=Z1uo ly fun j hj=>hy j (by omega)
 refine ⟨⟨by trivial,by trivial,ly.symm,hw,fun x hx=>?_,by omega⟩,?_⟩
 ·rw [e] at hx
  have:=Z1lp hx
  omega
 rintro ys ⟨h1,h2⟩
 have q:=Z1nh (n:=bed.length) e h1 h2
 exact ⟨⟨by trivial,by rw [h1.len]; exact ly.symm⟩,by rw [q]; rfl⟩
end Go.Lift
