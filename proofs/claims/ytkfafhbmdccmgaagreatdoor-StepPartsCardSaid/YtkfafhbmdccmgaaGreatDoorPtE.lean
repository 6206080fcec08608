/- A part of the proof of StepPartsCard: an own lifter of code into plain terms, and plain laws. -/
import Derived.Test.YtkfafhbmdccmgaaGreatDoorPtD
set_option linter.unusedVariables false
set_option linter.unusedSimpArgs false
set_option linter.unusedSectionVars false
open Go.IntKind (i64 u64 u32 u8)
open Go.FloatKind (f64 f32)
namespace Go.Lift
def Zeh:=fun (p:YP) (s:YS) (post:Bool × Unit→Prop)=>∃ (h:True),∀ a,a=yesR→∀ a_1,a_1=a.1→Br (!a_1) (post (false,())) (∃ (h:Zsi p
 s),∀ a,a=Z6d p s→Br (!a.2.1) (post (true,())) (∃ (h:Z5p a.1 p s),∀ a_2,a_2=Z8o a.1 p s→∃ (h:Z5p a.1 p s),∀ a_3,a_3=Z74 a.1 p s→∀ a_4,a_4
 = (a_2.2.1 != (0:Int))→Br a_4 (post (false,())) (∀ a_5,a_5=(a_3.2.1 != (0:Int))→Br a_5 (post (false,())) (∃ (h:Zla a.1 p s),∀ a_6,a_6=Z6b a.1
 p s→∃ (h:Z119 a.1 p (s.1,s.2.1,s.2.2.1,List.take a_6.1.length (List.drop (0:Nat) a_6.1),s.2.2.2.2.1,s.2.2.2.2.2)),∀ a_7,a_7=Zb4 a.1 p (s.1,s.2.1,s.2.2.1,
 List.take a_6.1.length (List.drop (0:Nat) a_6.1),s.2.2.2.2.1,s.2.2.2.2.2)→∃ (h:WAll a.1 s.2.1 (List.take a_7.1.length (List.drop (0:Nat) a_7.1))),∀ a_8,a_8=Zda a.1
 s.2.1 (List.take a_7.1.length (List.drop (0:Nat) a_7.1))→∃ (h:Z10r a.1 s.2.1 s.2.2.1 (List.take a_8.1.length (List.drop (0:Nat) a_8.1))),∀ a_9,a_9=Z8j a.1 s.2.1
 s.2.2.1 (List.take a_8.1.length (List.drop (0:Nat) a_8.1))→∀ a_10,a_10=(a_6.2.1 != (0:Int))→Br a_10 (post (false,())) (∀ a_11,a_11=(a_7.2.1 != (0:Int))→Br
 a_11 (post (false,())) (∀ a_12,a_12=(a_8.2.1 != (0:Int))→Br a_12 (post (false,())) (∀ a_13,a_13=(a_9.2.1 != (0:Int))→Br a_13 (post (false,())) (∃
 (h:True),∀ a_14,a_14=Z8k (List.take a_3.1.1.length (List.drop (0:Nat) a_3.1.1)) (List.take a_8.1.length (List.drop (0:Nat) a_8.1))→∀ a_15,a_15=a_14.1→Br (!a_15)
 (post (false,())) (∃ (h:True),∀ a_16,a_16=Z8k (List.take a_3.1.2.length (List.drop (0:Nat) a_3.1.2)) (List.take a_9.1.length (List.drop (0:Nat) a_9.1))→∀ a_17,
 a_17=a_16.1→Br (!a_17) (post (false,())) (∃ (h:True),∀ a_18,a_18=allR (List.take a_2.1.2.2.2.1.length (List.drop (0:Nat) a_2.1.2.2.2.1)) (List.take a_6.1.length
 (List.drop (0:Nat) a_6.1))→∀ a_19,a_19=a_18.1→Br (!a_19) (post (false,())) (∃ (h:Zo1 a.1 s.2.2.1 (List.take a_9.1.length (List.drop (0:Nat) a_9.1))),∀ a_20,
 a_20=Z5n a.1 s.2.2.1 (List.take a_9.1.length (List.drop (0:Nat) a_9.1))→∃ (h:Zo1 a.1 s.2.1 (List.take a_8.1.length (List.drop (0:Nat) a_8.1))),∀ a_21,a_21=Z5n
 a.1 s.2.1 (List.take a_8.1.length (List.drop (0:Nat) a_8.1))→∃ (h:Z1bz (List.take a_21.1.length (List.drop (0:Nat) a_21.1)) s.2.2.2.2.1 p.2.2.2.2.2.2 s.2.2.2.2.2),∀
 a_22,a_22=Zj6 (List.take a_21.1.length (List.drop (0:Nat) a_21.1)) s.2.2.2.2.1 p.2.2.2.2.2.2 s.2.2.2.2.2→∀ a_23,a_23=(a_20.2.1 != (0:Int))→Br a_23 (post
 (false,())) (∀ a_24,a_24=(a_21.2.1 != (0:Int))→Br a_24 (post (false,())) (∀ a_25,a_25=(a_22.2.2.1 != (0:Int))→Br a_25 (post (false,())) (∀ a_26,
 a_26=(a_22.2.1 != a_2.1.2.2.2.2.1)→Br a_26 (post (false,())) (Br p.2.2.2.2.2.1 (∃ (h:WRun a.1 (s.1,List.take a_22.1.length (List.drop (0:Nat) a_22.1),List.take
 a_20.1.length (List.drop (0:Nat) a_20.1),List.take a_6.1.length (List.drop (0:Nat) a_6.1),a_22.2.1,s.2.2.2.2.2)),∀ a_27,a_27=Z5l a.1 (s.1,List.take a_22.1.length
 (List.drop (0:Nat) a_22.1),List.take a_20.1.length (List.drop (0:Nat) a_20.1),List.take a_6.1.length (List.drop (0:Nat) a_6.1),a_22.2.1,s.2.2.2.2.2)→∀ a,a =
 (a_27.2.2.1 != (0:Int))→Br a (post (false,())) (∃ (h:True),∀ a,a=Z8k (List.take a_2.1.2.1.length (List.drop (0:Nat) a_2.1.2.1)) (List.take a_27.1.length
 (List.drop (0:Nat) a_27.1))→∀ a_28,a_28=a.1→Br a_28 (∃ (h:True),∀ a,a=Z8k (List.take a_2.1.2.2.1.length (List.drop (0:Nat) a_2.1.2.2.1)) (List.take
 a_27.2.1.length (List.drop (0:Nat) a_27.2.1))→∀ a_29,a_29=a.1→post (a_29,())) (post (false,())))) (∃ (h:True),∀ a,a=Z8k (List.take a_2.1.2.1.length
 (List.drop (0:Nat) a_2.1.2.1)) (List.take a_22.1.length (List.drop (0:Nat) a_22.1))→∀ a_27,a_27=a.1→Br a_27 (∃ (h:True),∀ a,a=Z8k (List.take a_2.1.2.2.1.length
 (List.drop (0:Nat) a_2.1.2.2.1)) (List.take a_20.1.length (List.drop (0:Nat) a_20.1))→∀ a_28,a_28=a.1→post (a_28,())) (post (false,()))))))))))))))))))
theorem Zsv (p:YP) (s:YS) (h:Zsi p s) (w:KS.wf [Z6s,kSea] (p,s,())):Zeh  p s (fun r=>r=Z1qp p s):=by
 obtain ⟨hP,hS⟩:=h
 refine ⟨trivial,fun a ha=>?_⟩
 have ha:a=(true,()):=ha
 subst ha
 rintro _ rfl
 refine Br.intro (fun e=>absurd e (by first | decide | simp)) fun _=>?_
 refine ⟨⟨hP,hS⟩,fun a ha=>?_⟩
 have ha:a=Z6d p s:=ha
 rcases Z1sg p s with q | ⟨hp,C⟩
 ·rw [Z1sf q] at ha
  subst ha
  exact brY rfl rfl
 have hG:NetP (some (netG p.1)):=.inr ⟨p.1,C.good,rfl⟩
 rw [Z1se rfl hp C] at ha
 subst ha
 refine brN rfl ?_
 have S:=Zvj rfl hp C
 obtain ⟨k0,k3⟩:=Z1id (Zo9 hp).2.2.2
 have cr:=Z31 p.1
 have lb:=C.bed
 refine ⟨⟨hG,hP,hS⟩,fun a ha=>?_⟩
 have ha:a=_:=ha.trans (Z1sc rfl hp C)
 subst ha
 refine ⟨⟨hG,hP,hS⟩,fun a ha=>?_⟩
 have ha:a=_:=ha.trans (Z1sd rfl hp C)
 subst ha
 rintro _ rfl
 refine brN rfl ?_
 rintro _ rfl
 refine brN rfl ?_
 obtain ⟨K,sp⟩:=Z1nv rfl hp C
 dsimp only
 try simp only [Z9n]
 have e1:Z6b (some (netG p.1)) p s=(Z1m (some (netG p.1)) p s,0,()):=by unfold Z6b; rw [S.spd.2.2]
 have e2:Zb4 (some (netG p.1)) p (Zj7 s (Z1m (some (netG p.1)) p s))=(Z30 (some (netG p.1)) p s,0,()):=by unfold Zb4; rw [S.want.1]
 have e3:Zda (some (netG p.1)) s.2.1 (Z30 (some (netG p.1)) p s)=(Z25 (some (netG p.1)) p s,0,()):=by unfold Zda; rw [S.wat]
 have e4:Z8j (some (netG p.1)) s.2.1 s.2.2.1 (Z25 (some (netG p.1)) p s)=(Z5o (some (netG p.1)) p s,0,()):=by unfold Z8j; rw [S.wth]
 have e5:Z5n (some (netG p.1)) s.2.1 (Z25 (some (netG p.1)) p s)=(Z58 (some (netG p.1)) p s,0,()):=by unfold Z5n; rw [S.mv.1]
 have e6:Z5n (some (netG p.1)) s.2.2.1 (Z5o (some (netG p.1)) p s)=(Z9i (some (netG p.1)) p s,0,()):=by unfold Z5n; rw [S.hs.1]
 have e7:Zj6 (Z58 (some (netG p.1)) p s) s.2.2.2.2.1 p.2.2.2.2.2.2 s.2.2.2.2.2=((Z2m (some (netG p.1)) p s).1,(Z2m (some (netG p.1)) p s).2.1,0,()):=by
  have:=S.fall.ok
  unfold Zj6
  show (_,_,(Z2m (some (netG p.1)) p s).2.2,())=_
  rw [this]; rfl
 have sk:=S.fall.sky
 have mI:AllI (Z58 (some (netG p.1)) p s):=nn_I S.mv.2.nn (T:=s.2.1.sum) (by rw [S.mv.2.sum]; omega) (by have:=S.wsum; have:=C.sky; omega)
 have fI:AllI (Z2m (some (netG p.1)) p s).1:=nn_I S.fall.pool.nn (T:=4503599627370496) (by rw [S.fall.pool.sum]; have:=S.wsum; omega) (by decide)
 have hI:AllI (Z9i (some (netG p.1)) p s):=nn_I S.hs.2.nn (T:=4503599627370496) (by rw [S.hs.2.sum]; have:=S.tsum; omega) (by decide)
 have same:∀ l:List Int,Z8k l l=(true,()):=fun l=>by unfold Z8k; rw [beq_self_eq_true]
 have sea:∀ r:Bool,p.2.2.2.2.2.1=r→Zb5 (some (netG p.1)) p s=if r=true then (s.1,(Zva (some (netG p.1)) p s).1,(Zva (some (netG p.1)) p s).2.1,Z1m (some (netG p.1)) p s,(Z2m (some (netG p.1)) p s).2.1,Zg9 s) else Z9j (some (netG p.1)) p s:=fun r h=>by unfold Zb5; rw [h]
 have sky:(Zb5 (some (netG p.1)) p s).2.2.2.2.1=(Z2m (some (netG p.1)) p s).2.1:=by rw [sea _ rfl]; split <;> rfl
 refine ⟨⟨hG,hP.2.1,hS.1,hS.2.1,hS.2.2.2.1⟩,fun a ha=>?_⟩
 have ha:a=_:=ha.trans e1
 subst ha
 refine ⟨⟨hG,hP.2.1.1,k0,k3,hS.1,hS.2.1,S.spd.2.1⟩,fun a ha=>?_⟩
 have ha:a=_:=ha.trans e2
 subst ha
 refine ⟨⟨hG,hS.2.1,Zlf S.want.2.1⟩,fun a ha=>?_⟩
 have ha:a=_:=ha.trans e3
 subst ha
 refine ⟨⟨hG,hS.2.1,hS.2.2.1,Zlf S.watF⟩,fun a ha=>?_⟩
 have ha:a=_:=ha.trans e4
 subst ha
 rintro _ rfl
 refine brN rfl ?_
 rintro _ rfl
 refine brN rfl ?_
 rintro _ rfl
 refine brN rfl ?_
 rintro _ rfl
 refine brN rfl ?_
 refine ⟨trivial,fun a ha=>?_⟩
 have ha:a=_:=ha.trans (same _)
 subst ha
 rintro _ rfl
 refine brN rfl ?_
 refine ⟨trivial,fun a ha=>?_⟩
 have ha:a=_:=ha.trans (same _)
 subst ha
 rintro _ rfl
 refine brN rfl ?_
 refine ⟨trivial,fun a ha=>?_⟩
 have ha:a=(true,()):=by rw [ha,sp]; unfold allR allI; rw [beq_self_eq_true]
 subst ha
 rintro _ rfl
 refine brN rfl ?_
 refine ⟨⟨hG,hS.2.2.1,S.wthI⟩,fun a ha=>?_⟩
 have ha:a=_:=ha.trans e6
 subst ha
 refine ⟨⟨hG,hS.2.1,Zlf S.watF⟩,fun a ha=>?_⟩
 have ha:a=_:=ha.trans e5
 subst ha
 refine ⟨⟨mI,hS.2.2.2.2.1,hS.2.2.2.2.2,by have:=S.mv.2.len; show (Z58 (some (netG p.1)) p s).length≤65536; omega⟩,fun a ha=>?_⟩
 have ha:a=_:=ha.trans e7
 subst ha
 rintro _ rfl
 refine brN rfl ?_
 rintro _ rfl
 refine brN rfl ?_
 rintro _ rfl
 refine brN rfl ?_
 rintro _ rfl
 refine brN (by rw [sky]; exact bne_self_eq_false _) ?_
 refine Br.intro (fun r=>?_) fun r=>?_
 ·obtain ⟨w,t,h1,R⟩:=S.run
  have h2:Z5l (some (netG p.1)) (s.1,(Z2m (some (netG p.1)) p s).1,Z9i (some (netG p.1)) p s,Z1m (some (netG p.1)) p s,(Z2m (some (netG p.1)) p s).2.1,s.2.2.2.2.2)=(w,t,0,()):=h1
  have se:=sea true r
  rw [if_pos rfl,h1] at se
  refine ⟨⟨hG,hS.1,fI,hI⟩,fun a ha=>?_⟩
  have ha:a=_:=ha.trans h2
  subst ha
  rintro _ rfl
  refine brN rfl ?_
  refine ⟨trivial,fun a ha=>?_⟩
  have ha:a=(true,()):=by rw [ha,se]; exact same _
  subst ha
  rintro _ rfl
  refine brY rfl ?_
  refine ⟨trivial,fun a ha=>?_⟩
  have ha:a=(true,()):=by rw [ha,se]; exact same _
  subst ha
  rintro _ rfl
  rfl
 ·have se:=sea false r
  rw [if_neg (by decide)] at se
  refine ⟨trivial,fun a ha=>?_⟩
  have ha:a=(true,()):=by rw [ha,se]; exact same _
  subst ha
  rintro _ rfl
  refine brY rfl ?_
  refine ⟨trivial,fun a ha=>?_⟩
  have ha:a=(true,()):=by rw [ha,se]; exact same _
  subst ha
  rintro _ rfl
  rfl
end Go.Lift

namespace Go.Lift
def Zoa:SeaT:=([0,0,0,0,0,0],[1431655765,1431655765,1431655765,1431655765,1431655765,1431655765],[0,0,0,0,0,0],[0,0,0,0,0,0,0,0,0,0,0,0],0,0)
def Z1qs:SeaT:=([0,0,0,0,0,0],[1431655765,1431655765,1431655765,1431655765,1431655765,1431655765],[0,0,0,0,0,0],[0,0,0,0,0,0,0,0,0,0,0,0],0,1)
def Zvk:SeaT:=([0,0,0,0,0,0],[2863311530,1431655765,1431655765,1431655765,1431655765,1431655765],[0,0,0,0,0,0],[0,0,0,0,0,0,0,0,0,0,0,0],0,0)
def Z1qt:SeaT:=([0,0,0,0,0,0],[1109898474,1870009029,1431655765,1870009029,1870009029,1870009029],[0,0,0,0,0,0],[4600040671590431692,4600040671590431692,4600040671590431692,4600040671590431692,0,0,0,0,0,0,0,0],0,1)
theorem Z1nx:Z8o (some (netG 1)) Zb6 Zoa=(Z1qs,0,()):=by kernel_rfl
theorem Z1ny:Z74 (some (netG 1)) Zb6 Zoa=(([0,0,0,0,0,0,0,0,0,0,0,0],[0,0,0,0,0,0,0,0,0,0,0,0]),0,()):=by kernel_rfl
theorem Z1nz:Z8o (some (netG 1)) Zb6 Zvk=(Z1qt,0,()):=by kernel_rfl
end Go.Lift

namespace Go.Lift
theorem Z1sh:(List.range 6).map (fun k:Nat=>Z14 1 k)=List.replicate 6 1431655765:=by kernel_rfl
theorem Z1ti {k:Nat} (h:k<6):(Z13 (some (netG 1)) (k:Int)).1=1431655765:=by
 have e:(Z13 (some (netG 1)) (k:Int)).1=Z14 1 k:=Z7x (n:=1) (by omega) (by have:Z1 1=6:=rfl; omega)
 rw [e]
 have q:=congrArg (fun l=>l[k]?) Z1sh
 have q:((List.range 6).map (fun k:Nat=>Z14 1 k))[k]?=(List.replicate 6 (1431655765:Int))[k]?:=q
 rw [List.getElem?_map,List.getElem?_range h,List.getElem?_replicate,if_pos h] at q
 exact Option.some.inj q
theorem Z1o0:NetP (some (netG 1)):=.inr ⟨1,rfl,rfl⟩
theorem Z1o1:Z5p (some (netG 1)) Zb6 Zoa :=
 ⟨Z1o0,⟨⟨by decide,by decide⟩,⟨by unfold W64; decide,by unfold W64; decide,by unfold W64; decide⟩,by decide,by decide⟩,fun x hx=>by simp [Zoa] at hx; subst hx; unfold W64; decide,fun x hx=>by simp [Zoa] at hx; subst hx; exact ⟨by decide,by decide⟩,fun x hx=>by simp [Zoa] at hx; subst hx; exact ⟨by decide,by decide⟩,fun x hx=>by simp [Zoa] at hx; subst hx; unfold W64; decide,⟨by decide,by decide⟩,by decide,by decide⟩
theorem Z1t8:Z5p (some (netG 1)) Zb6 Zvk :=
 ⟨Z1o0,⟨⟨by decide,by decide⟩,⟨by unfold W64; decide,by unfold W64; decide,by unfold W64; decide⟩,by decide,by decide⟩,fun x hx=>by simp [Zvk] at hx; subst hx; unfold W64; decide,fun x hx=>by simp [Zvk] at hx; rcases hx with rfl | rfl <;> exact ⟨by decide,by decide⟩,fun x hx=>by simp [Zvk] at hx; subst hx; exact ⟨by decide,by decide⟩,fun x hx=>by simp [Zvk] at hx; subst hx; unfold W64; decide,⟨by decide,by decide⟩,by decide,by decide⟩
end Go.Lift

namespace Go.Lift
def Z7b (ty29:Nat):HObj:=HObj.box Md.rw ty29 [SV.val (Go.Value.slice none (0:Nat) (0:Nat)),SV.val (Go.Value.slice none (0:Nat) (0:Nat)),
 SV.val (Go.Value.slice none (0:Nat) (0:Nat)),SV.val (Go.Value.slice none (0:Nat) (0:Nat)),SV.val (Go.Value.int i64 (0:Int)),SV.val (Go.Value.int
 i64 (0:Int))]
def Z7c (ty22:Nat):HObj:=HObj.row Md.rw ty22 (K.flt f64) (List.replicate (Int.toNat (6:Int)) (0:Nat))
def Z48 (ty2:Nat):HObj:=HObj.row Md.rw ty2 (K.int i64) (List.replicate (Int.toNat (6:Int)) (0:Int))
def Z7d (ty22:Nat):HObj:=HObj.row Md.rw ty22 (K.flt f64) (List.replicate (Int.toNat (12:Int)) (0:Nat))
def Z7e (ty29:Nat):HObj:=HObj.box Md.rw ty29 [SV.osl (2:Nat) (0:Nat) (6:Nat),SV.osl (3:Nat) (0:Nat) (6:Nat),SV.osl (4:Nat) (0:Nat) (6:Nat),
 SV.osl (5:Nat) (0:Nat) (12:Nat),SV.val (Go.Value.int i64 (0:Int)),SV.val (Go.Value.int i64 (0:Int))]
def Zjd (ty2:Nat) (y:List Int × Unit) (x:Int × Unit):HObj:=HObj.row Md.rw ty2 (K.int i64) (y.fst.set ((0:Nat)+x.fst.toNat) (Z13 (newR (1 :
 Int)).fst x.fst).fst)
def Zch:=fun (ty29 ty22 ty2:Nat) (post:Bool × Unit→Prop)=>∃ (h:I64 (1:Int)),∀ (a:Bool),a=((newR (1:Int)).snd.fst != (0:Int))→Br a (post
 (false,())) (∃ (h:(0:Int)≤(6:Int)∧(6:Int)≤(6:Int)∧(6:Int)*(↑(8:Nat):Int)≤(281474976710656:Int)),∃ (h:(0:Int)≤(6:Int)∧(6:Int)≤(6
 : Int)∧(6:Int)*(↑(8:Nat):Int)≤(281474976710656:Int)),∃ (h:(0:Int)≤(6:Int)∧(6:Int)≤(6:Int)∧(6:Int)*(↑(8:Nat):Int)≤(281474976710656 :
 Int)),∃ (h:(0:Int)≤(12:Int)∧(12:Int)≤(12:Int)∧(12:Int)*(↑(8:Nat):Int)≤(281474976710656:Int)),HIs [HObj.pend,Z7b ty29,Z7c
 ty22,Z48 ty2,Z48 ty2,Z7d ty22,Z7e ty29] [HObj.pend,Z7b ty29,Z7c ty22,Z48 ty2,
 Z48 ty2,Z7d ty22,Z7e ty29]∧∃ (I:Int × Unit→List Int × Unit→Prop),∃ (μ:Int × Unit→List Int × Unit→Nat),I ((0:Int),())
 (List.replicate (Int.toNat (6:Int)) (0:Int),())∧∀ (x:Int × Unit) (y:List Int × Unit),I x y→∀ (a:Bool),a=decide (x.fst<(6:Int))→Br a (∃ (h:True),∃ (h :
 (0:Int)≤x.fst∧x.fst<(↑(Int.toNat (6:Int)):Int)),HIs [HObj.pend,Z7b ty29,Z7c ty22,Zjd ty2 y x,Z48 ty2,
 Z7d ty22,Z7e ty29] [HObj.pend,Z7b ty29,Z7c ty22,Zjd ty2 y x,Z48 ty2,Z7d ty22,
 Z7e ty29]∧I (i64.wrap (x.fst+(1:Int)),()) (y.fst.set ((0:Nat)+x.fst.toNat) (Z13 (newR (1:Int)).fst x.fst).fst,())∧μ (i64.wrap (x.fst
 + (1:Int)),()) (y.fst.set ((0:Nat)+x.fst.toNat) (Z13 (newR (1:Int)).fst x.fst).fst,())<μ x y) (∃ (h:(0:Int)≤(0:Int)∧(0:Int)<(↑(Int.toNat (6:Int)) :
 Int)),∀ (a:Bool),a=(y.fst.getD ((0:Nat)+Int.toNat (0:Int)) (0:Int) != (1431655765:Int))→Br a (post (false,())) (∃ (h:True),∀ (a:(Int × Nat × Nat × Nat
 × Int × Bool × List (Int × Int × Int × Int)) × Unit),a=Zsj→∃ (h:Z5p (newR (1:Int)).fst a.fst ([(0:Nat),(0:Nat),(0:Nat),(0:Nat),(0:Nat),(0:Nat)],
 List.take (Int.toNat (6:Int)) (List.drop (0:Nat) y.fst),[(0:Int),(0:Int),(0:Int),(0:Int),(0:Int),(0:Int)],[(0:Nat),(0:Nat),(0:Nat),(0:Nat),(0 :
 Nat),(0:Nat),(0:Nat),(0:Nat),(0:Nat),(0:Nat),(0:Nat),(0:Nat)],(0:Int),(0:Int))),∀ (a_1:(List Nat × List Int × List Int × List Nat × Int × Int) × Int
 × Unit),a_1=Z8o (newR (1:Int)).fst a.fst ([(0:Nat),(0:Nat),(0:Nat),(0:Nat),(0:Nat),(0:Nat)],List.take (Int.toNat (6:Int)) (List.drop (0:Nat) y.fst),
 [(0:Int),(0:Int),(0:Int),(0:Int),(0:Int),(0:Int)],[(0:Nat),(0:Nat),(0:Nat),(0:Nat),(0:Nat),(0:Nat),(0:Nat),(0:Nat),(0:Nat),(0:Nat),
 (0:Nat),(0:Nat)],(0:Int),(0:Int))→∃ (h:True),∀ (a:(Int × Nat × Nat × Nat × Int × Bool × List (Int × Int × Int × Int)) × Unit),a=Zsj→∃ (h:Z5p (newR (1
 : Int)).fst a.fst ([(0:Nat),(0:Nat),(0:Nat),(0:Nat),(0:Nat),(0:Nat)],List.take (Int.toNat (6:Int)) (List.drop (0:Nat) y.fst),[(0:Int),(0:Int),(0 :
 Int),(0:Int),(0:Int),(0:Int)],[(0:Nat),(0:Nat),(0:Nat),(0:Nat),(0:Nat),(0:Nat),(0:Nat),(0:Nat),(0:Nat),(0:Nat),(0:Nat),(0:Nat)],(0 :
 Int),(0:Int))),∀ (a_2:(List Int × List Int) × Int × Unit),a_2=Z74 (newR (1:Int)).fst a.fst ([(0:Nat),(0:Nat),(0:Nat),(0:Nat),(0:Nat),(0:Nat)],
 List.take (Int.toNat (6:Int)) (List.drop (0:Nat) y.fst),[(0:Int),(0:Int),(0:Int),(0:Int),(0:Int),(0:Int)],[(0:Nat),(0:Nat),(0:Nat),(0:Nat),(0 :
 Nat),(0:Nat),(0:Nat),(0:Nat),(0:Nat),(0:Nat),(0:Nat),(0:Nat)],(0:Int),(0:Int))→∀ (a:Bool),a=(a_1.snd.fst != (0:Int))→Br a (post (false,
 ())) (∀ (a:Bool),a=(a_2.snd.fst != (0:Int))→Br a (post (false,())) (∃ (h:True),∀ (a:Bool × Unit),a=Zv1 (List.take a_1.fst.fst.length (List.drop (0:Nat)
 a_1.fst.fst),List.take a_1.fst.snd.fst.length (List.drop (0:Nat) a_1.fst.snd.fst),List.take a_1.fst.snd.snd.fst.length (List.drop (0:Nat) a_1.fst.snd.snd.fst),List.take
 a_1.fst.snd.snd.snd.fst.length (List.drop (0:Nat) a_1.fst.snd.snd.snd.fst),a_1.fst.snd.snd.snd.snd.fst,a_1.fst.snd.snd.snd.snd.snd) ([(0:Nat),(0:Nat),(0:Nat),(0 :
 Nat),(0:Nat),(0:Nat)],List.take (Int.toNat (6:Int)) (List.drop (0:Nat) y.fst),[(0:Int),(0:Int),(0:Int),(0:Int),(0:Int),(0:Int)],[(0:Nat),(0 :
 Nat),(0:Nat),(0:Nat),(0:Nat),(0:Nat),(0:Nat),(0:Nat),(0:Nat),(0:Nat),(0:Nat),(0:Nat)],(0:Int),(1:Int))→∀ (a_3:Bool),a_3=a.fst→Br
 (!a_3) (post (false,())) (∃ (h:(0:Int)≤(12:Int)∧(12:Int)≤(12:Int)∧(12:Int)*(↑(8:Nat):Int)≤(281474976710656:Int)),∃ (h:True),∀ (a:Bool ×
 Unit),a=Z8k (List.take a_2.fst.fst.length (List.drop (0:Nat) a_2.fst.fst)) [(0:Int),(0:Int),(0:Int),(0:Int),(0:Int),(0:Int),(0:Int),(0:Int),(0 :
 Int),(0:Int),(0:Int),(0:Int)]→∀ (a_4:Bool),a_4=a.fst→Br (!a_4) (post (false,())) (∃ (h:(0:Int)≤(0:Int)∧(0:Int)<(↑(Int.toNat (6:Int)) :
 Int)),∃ (h:(0:Int)≤(0:Int)∧(0:Int)<(↑(Int.toNat (6:Int)):Int)),∃ (h:True),∀ (a:(Int × Nat × Nat × Nat × Int × Bool × List (Int × Int × Int × Int)) ×
 Unit),a=Zsj→∃ (h:Z5p (newR (1:Int)).fst a.fst ([(0:Nat),(0:Nat),(0:Nat),(0:Nat),(0:Nat),(0:Nat)],List.take (Int.toNat (6:Int)) (List.drop (0 :
 Nat) (y.fst.set ((0:Nat)+Int.toNat (0:Int)) (i64.wrap ((2:Int)*y.fst.getD ((0:Nat)+Int.toNat (0:Int)) (0:Int))))),[(0:Int),(0:Int),(0:Int),(0 :
 Int),(0:Int),(0:Int)],[(0:Nat),(0:Nat),(0:Nat),(0:Nat),(0:Nat),(0:Nat),(0:Nat),(0:Nat),(0:Nat),(0:Nat),(0:Nat),(0:Nat)],(0:Int),(0 :
 Int))),∀ (a_5:(List Nat × List Int × List Int × List Nat × Int × Int) × Int × Unit),a_5=Z8o (newR (1:Int)).fst a.fst ([(0:Nat),(0:Nat),(0:Nat),(0:Nat),(0 :
 Nat),(0:Nat)],List.take (Int.toNat (6:Int)) (List.drop (0:Nat) (y.fst.set ((0:Nat)+Int.toNat (0:Int)) (i64.wrap ((2:Int)*y.fst.getD ((0:Nat) +
 Int.toNat (0:Int)) (0:Int))))),[(0:Int),(0:Int),(0:Int),(0:Int),(0:Int),(0:Int)],[(0:Nat),(0:Nat),(0:Nat),(0:Nat),(0:Nat),(0:Nat),(0 :
 Nat),(0:Nat),(0:Nat),(0:Nat),(0:Nat),(0:Nat)],(0:Int),(0:Int))→∀ (a:Bool),a=(a_5.snd.fst==(0:Int))→Br a (∀ (a:Bool),a =
 ((↑a_5.fst.snd.fst.length:Int)==(6:Int))→Br a (∃ (h:(0:Int)≤(1:Int)∧(1:Int)<(↑a_5.fst.snd.fst.length:Int)),∃ (h:(0:Int)≤(3:Int)∧(3:Int) <
 (↑a_5.fst.snd.fst.length:Int)),∀ (a:Bool),a=(a_5.fst.snd.fst.getD ((0:Nat)+Int.toNat (1:Int)) (0:Int)==a_5.fst.snd.fst.getD ((0:Nat)+Int.toNat (3:Int)) (0
 : Int))→Br a (∃ (h:(0:Int)≤(1:Int)∧(1:Int)<(↑a_5.fst.snd.fst.length:Int)),∃ (h:(0:Int)≤(1:Int)∧(1:Int)<(↑(Int.toNat (6:Int)):Int)),∀ (a :
 Bool),a=decide (a_5.fst.snd.fst.getD ((0:Nat)+Int.toNat (1:Int)) (0:Int) > (y.fst.set ((0:Nat)+Int.toNat (0:Int)) (i64.wrap ((2:Int)*y.fst.getD ((0 :
 Nat)+Int.toNat (0:Int)) (0:Int)))).getD ((0:Nat)+Int.toNat (1:Int)) (0:Int))→Br a (∃ (h:(0:Int)≤(2:Int)∧(2:Int)<(↑a_5.fst.snd.fst.length:Int)),∃
 (h:(0:Int)≤(2:Int)∧(2:Int)<(↑(Int.toNat (6:Int)):Int)),∀ (a:Bool),a=(a_5.fst.snd.fst.getD ((0:Nat)+Int.toNat (2:Int)) (0:Int)==(y.fst.set ((0 :
 Nat)+Int.toNat (0:Int)) (i64.wrap ((2:Int)*y.fst.getD ((0:Nat)+Int.toNat (0:Int)) (0:Int)))).getD ((0:Nat)+Int.toNat (2:Int)) (0:Int))→Br a (∃ (h
 : (0:Int)≤(0:Int)∧(0:Int)<(↑a_5.fst.snd.snd.snd.fst.length:Int)),∀ (a:Bool),a=fcmp Go.BinOp.gtr (f64.format.order (a_5.fst.snd.snd.snd.fst.getD
 ((0:Nat)+Int.toNat (0:Int)) (0:Nat)) (0:Nat))→Br a (∃ (h:(0:Int)≤(0:Int)∧(0:Int)<(↑a_5.fst.snd.snd.snd.fst.length:Int)),∃ (h:(0:Int)≤(3:Int) ∧
 (3:Int)<(↑a_5.fst.snd.snd.snd.fst.length:Int)),∃ (h:True),∀ (a:Bool),a=(Z1bg (a_5.fst.snd.snd.snd.fst.getD ((0:Nat)+Int.toNat (0:Int)) (0:Nat))
 (a_5.fst.snd.snd.snd.fst.getD ((0:Nat)+Int.toNat (3:Int)) (0:Nat))).fst→post (a,())) (post (false,()))) (post (false,()))) (post (false,()))) (post
 (false,()))) (post (false,()))) (post (false,())))))))))
theorem Z155 (ty0 ty1 ty2:Nat)  : Zch ty0 ty1 ty2  (fun r=>r=yesR):=by
 delta Zch
 dsimp only
 rw [new1]
 dsimp only
 refine ⟨⟨by decide,by decide⟩,?_⟩
 rintro _ rfl
 refine Br.intro (fun e=>absurd e (by first | decide | simp)) fun _=>?_
 refine ⟨by decide,by decide,by decide,by decide,?_⟩
 refine ⟨rfl,fun x y=>∃ k:Nat,x.1=k∧k≤6∧y.1=List.replicate k 1431655765++List.replicate (6 - k) 0,fun x _=>6 - x.1.toNat,⟨0,rfl,by omega,rfl⟩,?_⟩
 rintro ⟨_,⟨⟩⟩ ⟨_,⟨⟩⟩ ⟨k,rfl,hk,rfl⟩
 dsimp only
 rintro _ rfl
 have lk:(List.replicate k (1431655765:Int)).length=k:=List.length_replicate
 refine Br.intro (fun e3=>?_) fun e3=>?_
 ·have e3:k<6:=by have:=of_decide_eq_true e3; omega
  refine ⟨trivial,⟨by omega,by show (k:Int)<6; omega⟩,rfl,?_⟩
  rw [Int.toNat_natCast,Zz e3 (by omega),Zo7 lk e3,Z1ti e3]
  exact ⟨⟨k+1,rfl,by omega,by rw [List.replicate_succ']⟩,by omega⟩
 have e3:k=6:=by have:=of_decide_eq_false e3; omega
 subst e3
 clear lk hk
 have y6:List.replicate 6 (1431655765:Int)++List.replicate (6 - 6) 0=[1431655765,1431655765,1431655765,1431655765,1431655765,1431655765]:=rfl
 rw [y6]
 have t1:List.take (Int.toNat 6) (List.drop 0 [(1431655765:Int),1431655765,1431655765,1431655765,1431655765,1431655765])=[1431655765,1431655765,1431655765,1431655765,1431655765,1431655765]:=rfl
 have t2:List.take (Int.toNat 6) (List.drop 0 ([(1431655765:Int),1431655765,1431655765,1431655765,1431655765,1431655765].set (0+Int.toNat 0) (i64.wrap (2*[(1431655765:Int),1431655765,1431655765,1431655765,1431655765,1431655765].getD (0+Int.toNat 0) 0))))=[2863311530,1431655765,1431655765,1431655765,1431655765,1431655765]:=by decide
 rw [t1,t2]
 refine ⟨by decide,?_⟩
 rintro _ rfl
 refine Br.intro (fun e=>absurd e (by first | decide | simp)) fun _=>?_
 refine ⟨trivial,fun a ha=>?_⟩
 have ha:a=(Zb6,()):=ha
 subst ha
 refine ⟨Z1o1,fun a ha=>?_⟩
 have ha:a=(Z1qs,0,()):=ha.trans Z1nx
 subst ha
 refine ⟨trivial,fun a ha=>?_⟩
 have ha:a=(Zb6,()):=ha
 subst ha
 refine ⟨Z1o1,fun a ha=>?_⟩
 have ha:a=(([0,0,0,0,0,0,0,0,0,0,0,0],[0,0,0,0,0,0,0,0,0,0,0,0]),0,()):=ha.trans Z1ny
 subst ha
 rintro _ rfl
 refine Br.intro (fun e=>absurd e (by first | decide | simp)) fun _=>?_
 rintro _ rfl
 refine Br.intro (fun e=>absurd e (by first | decide | simp)) fun _=>?_
 refine ⟨trivial,fun a ha=>?_⟩
 have ha:a=(true,()):=ha
 subst ha
 rintro _ rfl
 refine Br.intro (fun e=>absurd e (by first | decide | simp)) fun _=>?_
 refine ⟨by decide,trivial,fun a ha=>?_⟩
 have ha:a=(true,()):=ha
 subst ha
 rintro _ rfl
 refine Br.intro (fun e=>absurd e (by first | decide | simp)) fun _=>?_
 refine ⟨by decide,by decide,trivial,fun a ha=>?_⟩
 have ha:a=(Zb6,()):=ha
 subst ha
 refine ⟨Z1t8,fun a ha=>?_⟩
 have ha:a=(Z1qt,0,()):=ha.trans Z1nz
 subst ha
 rintro _ rfl
 refine Br.intro (fun _=>?_) fun e=>absurd e (by decide)
 rintro _ rfl
 refine Br.intro (fun _=>?_) fun e=>absurd e (by decide)
 refine ⟨by decide,by decide,?_⟩
 rintro _ rfl
 refine Br.intro (fun _=>?_) fun e=>absurd e (by decide)
 refine ⟨by decide,by decide,?_⟩
 rintro _ rfl
 refine Br.intro (fun _=>?_) fun e=>absurd e (by decide)
 refine ⟨by decide,by decide,?_⟩
 rintro _ rfl
 refine Br.intro (fun _=>?_) fun e=>absurd e (by decide)
 refine ⟨by decide,?_⟩
 rintro _ rfl
 refine Br.intro (fun _=>?_) fun e=>absurd e (by decide)
 refine ⟨by decide,by decide,trivial,?_⟩
 rintro _ rfl
 rfl
end Go.Lift

namespace Go.Lift
def Z1e9 (ty92:Nat) (n:Int) (ty93:Nat) (fn49:Nat) (fn50:Nat):List HObj:=[HObj.mp Md.rw ((K.int i64).pair (K.int i64)) (K.int i64) [],HObj.box Md.rw ty92 [SV.val (Go.Value.int i64 n),SV.junk,SV.mref (0:Nat),SV.val (Go.Value.slice none (0:Nat) (0:Nat)),SV.junk,SV.val (Go.Value.slice none (0:Nat) (0:Nat)),SV.val (Go.Value.slice none (0:Nat) (0:Nat))],HObj.box Md.rw ty93 [SV.clo fn49 [LV.ref (1:Nat) (0:Nat)] [],SV.clo fn50 [LV.ref (1:Nat) (0:Nat)] []]]
def Z1ea (y:List ((Int × Int) × Int) × Unit) (ty92:Nat) (n:Int) (x:Int × List (Int × Int × Int × Int) × List Int × Unit) (ty93:Nat) (fn49:Nat) (fn50:Nat) (ty2:Nat):List HObj:=[HObj.mp Md.rw ((K.int i64).pair (K.int i64)) (K.int i64) y.1,HObj.box Md.rw ty92 [SV.val (Go.Value.int i64 n),SV.junk,SV.mref (0:Nat),SV.val (Go.Value.slice none (0:Nat) (0:Nat)),SV.osl (4:Nat) (0:Nat) x.2.2.1.length,SV.val (Go.Value.slice none (0:Nat) (0:Nat)),SV.val (Go.Value.slice none (0:Nat) (0:Nat))],HObj.box Md.rw ty93 [SV.clo fn49 [LV.ref (1:Nat) (0:Nat)] [],SV.clo fn50 [LV.ref (1:Nat) (0:Nat)] []],HObj.dead,HObj.row Md.rw ty2 (K.int i64) x.2.2.1]
def Z1eb (y_1:List ((Int × Int) × Int) × Unit) (ty92:Nat) (n:Int) (x:Int × List (Int × Int × Int × Int) × List Int × Unit) (ty93:Nat) (fn49:Nat) (fn50:Nat) (ty2:Nat):List HObj:=[HObj.mp Md.rw ((K.int i64).pair (K.int i64)) (K.int i64) y_1.1,HObj.box Md.rw ty92 [SV.val (Go.Value.int i64 n),SV.junk,SV.mref (0:Nat),SV.val (Go.Value.slice none (0:Nat) (0:Nat)),SV.osl (4:Nat) (0:Nat) x.2.2.1.length,SV.val (Go.Value.slice none (0:Nat) (0:Nat)),SV.val (Go.Value.slice none (0:Nat) (0:Nat))],HObj.box Md.rw ty93 [SV.clo fn49 [LV.ref (1:Nat) (0:Nat)] [],SV.clo fn50 [LV.ref (1:Nat) (0:Nat)] []],HObj.dead,HObj.row Md.rw ty2 (K.int i64) x.2.2.1]
def Z1ec (a:Int × Int × Unit) (x_2:Int × List (Int × Int × Int × Int) × Unit) (x:Int × List (Int × Int × Int × Int) × List Int × Unit) (y_1:List ((Int × Int) × Int) × Unit) (ty92:Nat) (n:Int) (ty93:Nat) (fn49:Nat) (fn50:Nat) (ty2:Nat):List HObj:=[HObj.mp Md.rw ((K.int i64).pair (K.int i64)) (K.int i64) (mput (a.1,a.2.1) (↑x_2.2.1.length:Int) (mput (x.1,x_2.1) (↑x_2.2.1.length:Int) y_1.1)),HObj.box Md.rw ty92 [SV.val (Go.Value.int i64 n),SV.junk,SV.mref (0:Nat),SV.val (Go.Value.slice none (0:Nat) (0:Nat)),SV.osl (4:Nat) (0:Nat) x.2.2.1.length,SV.val (Go.Value.slice none (0:Nat) (0:Nat)),SV.val (Go.Value.slice none (0:Nat) (0:Nat))],HObj.box Md.rw ty93 [SV.clo fn49 [LV.ref (1:Nat) (0:Nat)] [],SV.clo fn50 [LV.ref (1:Nat) (0:Nat)] []],HObj.dead,HObj.row Md.rw ty2 (K.int i64) x.2.2.1]
def Z1ed (y_1:List ((Int × Int) × Int) × Unit) (ty92:Nat) (n:Int) (ty93:Nat) (fn49:Nat) (fn50:Nat):List HObj:=[HObj.mp Md.rw ((K.int i64).pair (K.int i64)) (K.int i64) y_1.1,HObj.box Md.rw ty92 [SV.val (Go.Value.int i64 n),SV.junk,SV.mref (0:Nat),SV.val (Go.Value.slice none (0:Nat) (0:Nat)),SV.junk,SV.val (Go.Value.slice none (0:Nat) (0:Nat)),SV.val (Go.Value.slice none (0:Nat) (0:Nat))],HObj.box Md.rw ty93 [SV.clo fn49 [LV.ref (1:Nat) (0:Nat)] [],SV.clo fn50 [LV.ref (1:Nat) (0:Nat)] []]]
def Zsw (y:List ((Int × Int) × Int) × Unit) (ty92:Nat) (n:Int) (ty93:Nat) (fn49:Nat) (fn50:Nat):List HObj:=[HObj.mp Md.rw ((K.int i64).pair (K.int i64)) (K.int i64) y.1,HObj.box Md.rw ty92 [SV.val (Go.Value.int i64 n),SV.junk,SV.mref (0:Nat),SV.val (Go.Value.slice none (0:Nat) (0:Nat)),SV.junk,SV.val (Go.Value.slice none (0:Nat) (0:Nat)),SV.val (Go.Value.slice none (0:Nat) (0:Nat))],HObj.box Md.rw ty93 [SV.clo fn49 [LV.ref (1:Nat) (0:Nat)] [],SV.clo fn50 [LV.ref (1:Nat) (0:Nat)] []],HObj.dead,HObj.dead]
def Zsx (y:List ((Int × Int) × Int) × Unit) (ty92:Nat) (n:Int) (x:Int × List (Int × Int × Int × Int) × List Int × Unit) (ty93:Nat) (fn49:Nat) (fn50:Nat) (ty96:Nat) (ty2:Nat):List HObj:=[HObj.mp Md.rw ((K.int i64).pair (K.int i64)) (K.int i64) y.1,HObj.box Md.rw ty92 [SV.val (Go.Value.int i64 n),SV.osl (5:Nat) (0:Nat) x.2.1.length,SV.mref (0:Nat),SV.junk,SV.osl (6:Nat) (0:Nat) x.2.2.1.length,SV.junk,SV.junk],HObj.box Md.rw ty93 [SV.clo fn49 [LV.ref (1:Nat) (0:Nat)] [],SV.clo fn50 [LV.ref (1:Nat) (0:Nat)] []],HObj.dead,HObj.dead,HObj.row Md.rw ty96 ((K.int i64).pair ((K.int i64).pair ((K.int i64).pair (K.int i64)))) x.2.1,HObj.row Md.rw ty2 (K.int i64) x.2.2.1]
def Zwq:=fun (ty92 ty93 ty2 ty96 fn49 fn50:Nat) (n:Int) (post:Option YG × Int × Unit→Prop)=>∃ (h:I64 n),Br ((Z3p n).1==(0:Int)) (post (none,(10
 : Int),())) (∃ (h:(0:Int)≤(0:Int)∧(0:Int)<(↑(2:Nat):Int)),HS (Z1e9 ty92 n ty93 fn49 fn50)∧∃ (I:Int × List (Int × Int × Int × Int) × List Int × Unit
 → List ((Int × Int) × Int) × Unit→Prop),∃ (μ:Int × List (Int × Int × Int × Int) × List Int × Unit→List ((Int × Int) × Int) × Unit→Nat),I ((0:Int),[],[],()) ([],())
 ∧ ∀ (x:Int × List (Int × Int × Int × Int) × List Int × Unit) (y:List ((Int × Int) × Int) × Unit),I x y→Br (decide (x.1<(Z3p n).1)) (((0:Nat)=(0:Nat) ∧
 x.2.1.length=x.2.1.length)∧HS (Z1ea y ty92 n x ty93 fn49 fn50 ty2)∧∃ (I_1:Int × List (Int × Int × Int × Int) × Unit→List ((Int × Int) × Int) × Unit→Prop),∃
 (μ_1:Int × List (Int × Int × Int × Int) × Unit→List ((Int × Int) × Int) × Unit→Nat),I_1 ((0:Int),x.2.1,()) (y.1,())∧∀ (x_2:Int × List (Int × Int × Int × Int) ×
 Unit) (y_1:List ((Int × Int) × Int) × Unit),I_1 x_2 y_1→Br (decide (x_2.1<(4:Int))) (∃ (h:III n x.1 x_2.1),∀ a,a=Z56 n x.1 x_2.1→Br (decide (x.1 > a.1)) (((0
 : Nat)=(0:Nat)∧x_2.2.1.length=x_2.2.1.length)∧HS (Z1eb y_1 ty92 n x ty93 fn49 fn50 ty2)∧I_1 (i64.wrap (x_2.1+(1:Int)),x_2.2.1,()) (y_1.1,()) ∧
 μ_1 (i64.wrap (x_2.1+(1:Int)),x_2.2.1,()) (y_1.1,())<μ_1 x_2 y_1) (∃ (h:x_2.2.1.length=x_2.2.1.length∧(x_2.2.1.length+(1:Nat))*(32:Nat) ≤
 (140737488355328:Nat)),((0:Nat)=(0:Nat)∧x_2.2.1.length+(1:Nat)=(x_2.2.1++[(x.1,x_2.1,a.1,a.2.1)]).length)∧HS (Z1ec a x_2 x y_1 ty92 n ty93 fn49
 fn50 ty2)∧I_1 (i64.wrap (x_2.1+(1:Int)),x_2.2.1++[(x.1,x_2.1,a.1,a.2.1)],()) (mput (a.1,a.2.1) (↑x_2.2.1.length:Int) (mput (x.1,x_2.1) (↑x_2.2.1.length :
 Int) y_1.1),())∧μ_1 (i64.wrap (x_2.1+(1:Int)),x_2.2.1++[(x.1,x_2.1,a.1,a.2.1)],()) (mput (a.1,a.2.1) (↑x_2.2.1.length:Int) (mput (x.1,x_2.1)
 (↑x_2.2.1.length:Int) y_1.1),())<μ_1 x_2 y_1)) (((0:Nat)=(0:Nat)∧x_2.2.1.length=x_2.2.1.length)∧((0:Nat)=(0:Nat)∧x.2.2.1.length=x.2.2.1.length)∧HS
 (Z1ed y_1 ty92 n ty93 fn49 fn50)∧I (i64.wrap (x.1+(1:Int)),x_2.2.1,x.2.2.1,()) (y_1.1,())∧μ (i64.wrap (x.1+(1:Int)),x_2.2.1,x.2.2.1,())
 (y_1.1,())<μ x y)) (∃ (h:(0:Int)≤i64.wrap ((0:Int)+(1:Int))∧i64.wrap ((0:Int)+(1:Int))<(↑(2:Nat):Int)),((0:Nat)=(0:Nat) ∧
 x.2.1.length=x.2.1.length)∧((0:Nat)=(0:Nat)∧x.2.2.1.length=x.2.2.1.length)∧HS (Zsw y ty92 n ty93 fn49 fn50)∧∃ (I:Int × List (Int × Int × Int × Int) ×
 List Int × Unit→List ((Int × Int) × Int) × Unit→Prop),∃ (μ:Int × List (Int × Int × Int × Int) × List Int × Unit→List ((Int × Int) × Int) × Unit→Nat),I ((0:Int),
 x.2.1,x.2.2.1,()) (y.1,())∧∀ (x:Int × List (Int × Int × Int × Int) × List Int × Unit) (y:List ((Int × Int) × Int) × Unit),I x y→Br (decide (x.1<(Z3p n).1)) (∃ (h
 : II n x.1),∃ (h:x.2.2.1.length=x.2.2.1.length∧(x.2.2.1.length+(1:Nat))*(8:Nat)≤(140737488355328:Nat)),((0:Nat)=(0:Nat)∧x.2.1.length=x.2.1.length) ∧
 ((0:Nat)=(0:Nat)∧x.2.2.1.length+(1:Nat)=(x.2.2.1++[(Z10f n x.1).1]).length)∧HS (Zsw y ty92 n ty93 fn49 fn50)∧I (i64.wrap (x.1+(1:Int)),
 x.2.1,x.2.2.1++[(Z10f n x.1).1],()) (y.1,())∧μ (i64.wrap (x.1+(1:Int)),x.2.1,x.2.2.1++[(Z10f n x.1).1],()) (y.1,())<μ x y) (HS (Zsx y ty92 n
 x ty93 fn49 fn50 ty96 ty2)∧∃ (I:Int × List (List Int) × List Nat × List Nat × Unit→Unit→Prop),∃ (μ:Int × List (List Int) × List Nat × List Nat × Unit→Unit→Nat),I
 ((0:Int),[],[],[],()) ()∧∀ (x_3:Int × List (List Int) × List Nat × List Nat × Unit) (y_1:Unit),I x_3 y_1→Br (decide (x_3.1<(↑x.2.1.length:Int))) (∃ (h:(0 :
 Int)≤x_3.1∧x_3.1<(↑x.2.1.length:Int)),∃ (h:(4:Int)≠(0:Int)),∃ (h:III n (x.2.1.getD ((0:Nat)+x_3.1.toNat) Z3l.dflt).1 ((i64.wrap ((x.2.1.getD ((0
 : Nat)+x_3.1.toNat) Z3l.dflt).2.1+(2:Int))).tmod (4:Int))),∀ a,a=Z56 n (x.2.1.getD ((0:Nat)+x_3.1.toNat) Z3l.dflt).1 ((i64.wrap ((x.2.1.getD ((0 :
 Nat)+x_3.1.toNat) Z3l.dflt).2.1+(2:Int))).tmod (4:Int))→∃ (h:(4:Int)≠(0:Int)),∃ (h:III n (x.2.1.getD ((0:Nat)+x_3.1.toNat) Z3l.dflt).2.2.1
 ((i64.wrap ((x.2.1.getD ((0:Nat)+x_3.1.toNat) Z3l.dflt).2.2.2+(2:Int))).tmod (4:Int))),∀ a_1,a_1=Z56 n (x.2.1.getD ((0:Nat)+x_3.1.toNat)
 Z3l.dflt).2.2.1 ((i64.wrap ((x.2.1.getD ((0:Nat)+x_3.1.toNat) Z3l.dflt).2.2.2+(2:Int))).tmod (4:Int))→∃ (h:x_3.2.1.length=x_3.2.1.length ∧
 (x_3.2.1.length+(1:Nat))*(16:Nat)≤(140737488355328:Nat)),∃ (h:III n (x.2.1.getD ((0:Nat)+x_3.1.toNat) Z3l.dflt).1 (x.2.1.getD ((0:Nat)+x_3.1.toNat)
 Z3l.dflt).2.1),∀ a_2,a_2=Zhd n (x.2.1.getD ((0:Nat)+x_3.1.toNat) Z3l.dflt).1 (x.2.1.getD ((0:Nat)+x_3.1.toNat) Z3l.dflt).2.1→∃ (h:x_3.2.2.1.length =
 x_3.2.2.1.length∧(x_3.2.2.1.length+(1:Nat))*(8:Nat)≤(140737488355328:Nat)),∃ (h:III n (x.2.1.getD ((0:Nat)+x_3.1.toNat) Z3l.dflt).1 (x.2.1.getD ((0:Nat) +
 x_3.1.toNat) Z3l.dflt).2.1),∀ a_3,a_3=Z1jj n (x.2.1.getD ((0:Nat)+x_3.1.toNat) Z3l.dflt).1 (x.2.1.getD ((0:Nat)+x_3.1.toNat) Z3l.dflt).2.1→∃ (h :
 x_3.2.2.2.1.length=x_3.2.2.2.1.length∧(x_3.2.2.2.1.length+(1:Nat))*(8:Nat)≤(140737488355328:Nat)),((0:Nat)=(0:Nat)∧x_3.2.1.length+(1:Nat)=(x_3.2.1
 ++ [[a.1,a_1.1]]).length)∧((0:Nat)=(0:Nat)∧x_3.2.2.1.length+(1:Nat)=(x_3.2.2.1++[a_2.1]).length)∧((0:Nat)=(0:Nat)∧x_3.2.2.2.1.length+(1:Nat) =
 (x_3.2.2.2.1++[a_3.1]).length)∧HS (Zsx y ty92 n x ty93 fn49 fn50 ty96 ty2)∧I (i64.wrap (x_3.1+(1:Int)),x_3.2.1++[[a.1,a_1.1]],x_3.2.2.1++[a_2.1],
 x_3.2.2.2.1++[a_3.1],()) ()∧μ (i64.wrap (x_3.1+(1:Int)),x_3.2.1++[[a.1,a_1.1]],x_3.2.2.1++[a_2.1],x_3.2.2.2.1++[a_3.1],()) ()<μ x_3 y_1) (post
 (some (n,List.take x.2.1.length (List.drop (0:Nat) x.2.1),y.1,List.take x_3.2.1.length (List.drop (0:Nat) x_3.2.1),List.take x.2.2.1.length (List.drop (0:Nat)
 x.2.2.1),List.take x_3.2.2.1.length (List.drop (0:Nat) x_3.2.2.1),List.take x_3.2.2.2.1.length (List.drop (0:Nat) x_3.2.2.2.1)),(0:Int),())))))
theorem Z1ga (ty0 ty1 ty2 ty3 ty4 ty5:Nat) (n:Int) (h:I64 n):Zwq ty0 ty1 ty2 ty3 ty4 ty5 n (fun r=>r=newR n):=by
 have cr:=Z31 n
 obtain ⟨N,hN⟩:∃ N,(Z1 n).toNat=N:=⟨_,rfl⟩
 have hc:Z1 n=(N:Int):=by omega
 have hc':(Z3p n).fst=(N:Int):=hc
 have hN1:N≤6144:=by omega
 have nk:=fun k=>Za2 n k
 have i6:∀ {z:Int},0≤z→z≤6144→I64 z:=fun {z} a b=>⟨by omega,by omega⟩
 refine ⟨h,?_⟩
 rw [hc']
 refine Br.intro (fun e=>?_) fun e=>?_
 ·have e:(N:Int)=0:=beq_iff_eq.1 e
  show _=newR n
  unfold newR; rw [if_pos (by omega)]
 have e:¬ (N:Int)=0:=fun q=>by rw [q] at e; cases e
 have hnew:newR n=(some (netG n),0,()):=by unfold newR; rw [if_neg (by omega)]
 refine ⟨⟨by decide,by decide⟩,rfl,fun x y=>∃ k:Nat,x.1=k∧k≤N∧x.2.1=(netN n k).1∧x.2.2.1=[]∧y.1=(netN n k).2,fun x _=>N - x.1.toNat,⟨0,rfl,by omega,rfl,rfl,rfl⟩,?_⟩
 rintro ⟨_,_,_,⟨⟩⟩ ⟨_,⟨⟩⟩ ⟨k,rfl,hk,rfl,rfl,rfl⟩
 dsimp only
 refine Br.intro (fun e1=>?_) fun e1=>?_
 ·have e1:k<N:=by have:=of_decide_eq_true e1; omega
  refine ⟨⟨rfl,rfl⟩,rfl,fun x y=>∃ j:Nat,x.1=j∧j≤4∧x.2.1=(addN n k (netN n k) j).1∧y.1=(addN n k (netN n k) j).2,fun x _=>4 - x.1.toNat,⟨0,rfl,by omega,rfl,rfl⟩,?_⟩
  rintro ⟨_,_,⟨⟩⟩ ⟨_,⟨⟩⟩ ⟨j,rfl,hj,rfl,rfl⟩
  dsimp only
  have hlen:=(Z14q (n:=n) (c:=k) (by omega) (by omega) (nk k (by omega)).1 j hj).2
  have hlk:=(nk k (by omega)).2
  refine Br.intro (fun e2=>?_) fun e2=>?_
  ·have e2:j<4:=by have e2:(j:Int)<4:=of_decide_eq_true e2; omega
   refine ⟨⟨h,i6 (by omega) (by omega),i6 (by omega) (by omega)⟩,?_⟩
   rintro ⟨b,q,⟨⟩⟩ hb
   have hb:(b,q,())=Z56 n k j:=hb
   have eb:b=(Z2 n k j).1:=congrArg Prod.fst hb
   have eq:q=(Z2 n k j).2:=congrArg (fun z=>z.2.1) hb
   rw [Zz e2 (by omega)]
   refine Br.intro (fun g=>?_) fun g=>?_
   ·have g:(k:Int) > b:=of_decide_eq_true g
    have hst:addN n k (netN n k) (j+1)=addN n k (netN n k) j:=by
     show addE n k j (addN n k (netN n k) j)=_
     unfold addE; rw [if_pos (by omega)]
    exact ⟨⟨rfl,rfl⟩,rfl,⟨j+1,rfl,by omega,by rw [hst],by rw [hst]⟩,by omega⟩
   ·have g:¬ (k:Int) > b:=of_decide_eq_false g
    have hst:addN n k (netN n k) (j+1)=((addN n k (netN n k) j).1++[((k:Int),(j:Int),b,q)],mput (b,q) (addN n k (netN n k) j).1.length (mput ((k:Int),(j:Int)) (addN n k (netN n k) j).1.length (addN n k (netN n k) j).2)):=by
     show addE n k j (addN n k (netN n k) j)=_
     unfold addE; rw [if_neg (by omega),eb,eq]
    exact ⟨⟨rfl,by omega⟩,⟨rfl,by rw [List.length_append]; rfl⟩,rfl,⟨j+1,rfl,by omega,by rw [hst],by rw [hst]⟩,by omega⟩
  ·have e2:j=4:=by have e2:¬ (j:Int)<4:=of_decide_eq_false e2; omega
   subst e2
   rw [Zz e1 (by omega)]
   exact ⟨⟨rfl,rfl⟩,⟨rfl,rfl⟩,rfl,⟨k+1,rfl,by omega,rfl,rfl,rfl⟩,by omega⟩
 have e1:k=N:=by have:=of_decide_eq_false e1; omega
 subst e1
 obtain ⟨eok,elen⟩:=nk k hN1
 have hE:netE n=netN n k:=by unfold netE; rw [hN]
 generalize netN n k=E at *
 refine ⟨⟨by decide,by decide⟩,⟨rfl,rfl⟩,⟨rfl,rfl⟩,rfl,fun x y=>∃ m:Nat,x.1=m∧m≤k∧x.2.1=E.1∧x.2.2.1=((List.range m).map fun q:Nat=>Z14 n (q:Int))∧y.1=E.2,fun x _=>k - x.1.toNat,⟨0,rfl,by omega,rfl,rfl,rfl⟩,?_⟩
 rintro ⟨_,_,_,⟨⟩⟩ ⟨_,⟨⟩⟩ ⟨m,rfl,hm,rfl,rfl,rfl⟩
 dsimp only
 have hml:((List.range m).map fun q:Nat=>Z14 n (q:Int)).length=m:=by rw [List.length_map,List.length_range]
 refine Br.intro (fun e1=>?_) fun e1=>?_
 ·have e1:m<k:=by have:=of_decide_eq_true e1; omega
  rw [Zz e1 (by omega)]
  exact ⟨⟨h,i6 (by omega) (by omega)⟩,⟨rfl,by rw [hml]; omega⟩,⟨rfl,rfl⟩,⟨rfl,by rw [List.length_append]; rfl⟩,rfl,⟨m+1,rfl,by omega,rfl,(Z14n (fun q:Nat=>Z14 n (q:Int)) m).symm,rfl⟩,by omega⟩
 have e1:m=k:=by have:=of_decide_eq_false e1; omega
 subst e1
 refine ⟨rfl,fun x _=>∃ q:Nat,x.1=q∧q≤E.1.length∧x.2.1=(E.1.take q).map (Z8h n)∧x.2.2.1=(E.1.take q).map (fun e=>Z4r n e.1 e.2.1)∧x.2.2.2.1=(E.1.take q).map (fun e=>gapG n e.1 e.2.1),fun x _=>E.1.length - x.1.toNat,⟨0,rfl,by omega,rfl,rfl,rfl⟩,?_⟩
 rintro ⟨_,_,_,_,⟨⟩⟩ _ ⟨q,rfl,hq,rfl,rfl,rfl⟩
 dsimp only
 have hl:∀ {α:Type} (f:Ed→α),((E.1.take q).map f).length=q:=fun {α} f=>by rw [List.length_map,List.length_take]; omega
 refine Br.intro (fun e1=>?_) fun e1=>?_
 ·have e1:q<E.1.length:=by have:=of_decide_eq_true e1; omega
  rw [Int.toNat_natCast,Nat.zero_add,Zz e1 (by omega)]
  obtain ⟨d,hd⟩:∃ d,E.1.getD q Z3l.dflt=d:=⟨_,rfl⟩
  have dm:d ∈ E.1:=by rw [← hd]; exact Zu e1 _
  have ts:E.1.take (q+1)=E.1.take q++[d]:=by rw [Ze3 e1 Z3l.dflt,hd]
  rw [hd]
  obtain ⟨d1,d2,d3,d4,d5,d6,d7,d8⟩:=eok d dm
  have w1:i64.wrap (d.2.1+2)=d.2.1+2:=wi ⟨by omega,by omega⟩
  have w2:i64.wrap (d.2.2.2+2)=d.2.2.2+2:=wi ⟨by omega,by omega⟩
  rw [w1,w2]
  have t1:I64 (Int.tmod (d.2.1+2) 4):=by rw [Int.tmod_eq_emod_of_nonneg (by omega)]; exact i6 (by omega) (by omega)
  have t2:I64 (Int.tmod (d.2.2.2+2) 4):=by rw [Int.tmod_eq_emod_of_nonneg (by omega)]; exact i6 (by omega) (by omega)
  refine ⟨⟨by omega,by omega⟩,by decide,⟨h,i6 d1 (by omega),t1⟩,?_⟩
  rintro ⟨a1,a2,⟨⟩⟩ ha
  have ea:a1=(Z2 n d.1 (Int.tmod (d.2.1+2) 4)).1:=congrArg Prod.fst ha
  refine ⟨by decide,⟨h,i6 d5 (by omega),t2⟩,?_⟩
  rintro ⟨b1,b2,⟨⟩⟩ hb
  have eb:b1=(Z2 n d.2.2.1 (Int.tmod (d.2.2.2+2) 4)).1:=congrArg Prod.fst hb
  refine ⟨⟨rfl,by rw [hl]; omega⟩,⟨h,i6 d1 (by omega),i6 d3 (by omega)⟩,?_⟩
  rintro ⟨l1,⟨⟩⟩ hl1
  have el:l1=Z4r n d.1 d.2.1:=congrArg Prod.fst hl1
  refine ⟨⟨rfl,by rw [hl]; omega⟩,⟨h,i6 d1 (by omega),i6 d3 (by omega)⟩,?_⟩
  rintro ⟨g1,⟨⟩⟩ hg1
  have eg:g1=gapG n d.1 d.2.1:=congrArg Prod.fst hg1
  refine ⟨⟨rfl,by rw [hl]; omega⟩,⟨rfl,by rw [List.length_append]; rfl⟩,⟨rfl,by rw [List.length_append]; rfl⟩,⟨rfl,by rw [List.length_append]; rfl⟩,rfl,⟨q+1,rfl,by omega,?_,?_,?_⟩,by omega⟩
  ·rw [ts,List.map_append]; dsimp only; rw [ea,eb]; rfl
  ·rw [ts,List.map_append]; dsimp only; rw [el]; rfl
  ·rw [ts,List.map_append]; dsimp only; rw [eg]; rfl
 ·have e1:q=E.1.length:=by have:=of_decide_eq_false e1; omega
  subst e1
  show _=newR n
  rw [hnew]
  unfold netG Zax
  rw [hE,hN,List.take_length]
  simp only [List.drop_zero,List.take_length]
end Go.Lift

namespace Go.Lift
def Zsy:=fun (a:Int) (post:Bool × Unit→Prop)=>∀ a_1,a_1=decide (a≥(1:Int))→Br a_1 (∀ a_2,a_2=decide (a≤(32:Int))→post (a_2,())) (post
 (false,()))
theorem Z1ee (a:Int):Zsy  a (fun r=>r=Z10c a):=by
 rintro _ rfl
 refine Br.intro (fun e=>?_) fun e=>?_
 ·rintro _ rfl
  refine congrArg r1 ?_
  show _=Z1v a
  unfold Z1v
  rw [show decide ((1:Int)≤a)=true from e,Bool.true_and]
 ·refine congrArg r1 ?_
  show _=Z1v a
  unfold Z1v
  rw [show decide ((1:Int)≤a)=false from e,Bool.false_and]
def Zor:=fun (a:Int) (post:Int × Unit→Prop)=>∃ (h:True),∀ a_1,a_1=(Z10c a).1→Br (!a_1) (post (0,())) (post (i64.wrap (i64.wrap ((6 :
 Int)*a)*a),()))
theorem Z19l (a:Int) (h:I64 a):Zor  a (fun r=>r=Z3p a):=by
 refine ⟨trivial,?_⟩
 rintro _ rfl
 refine Br.intro (fun e=>?_) fun e=>?_
 ·have e:(!Z1v a)=true:=e
  exact congrArg r1 (Ze1 (by simpa using e)).symm
 ·have e:(!Z1v a)=false:=e
  exact congrArg r1 (Z1ji (by simpa using e))
def Zos:=fun (n c:Int) (post:Int × Int × Int × Bool × Unit→Prop)=>∀ a,a=decide (c<(0:Int))→Br a (post (0,0,0,false,())) (∃ (h:I64 n),∀ a,a
 = decide (c≥(Z3p n).1)→Br a (post (0,0,0,false,())) (∃ (h:i64.wrap (n*n)≠(0:Int)),∃ (h:n≠(0:Int)),∃ (h:n≠(0:Int)),∃ (h:n≠(0 :
 Int)),post (i64.wrap (c.tdiv (i64.wrap (n*n))),c.tmod n,(i64.wrap (c.tdiv n)).tmod n,true,())))
theorem Z19m (n:Int) (c:Int) (h:II n c):Zos  n c (fun r=>r=Z4 n c):=by
 have bad:Zd n c=false→((0:Int),(0:Int),(0:Int),false,())=Z4 n c:=by
  intro e; unfold Z4; rw [if_neg (by rw [e]; decide)]
 rintro _ rfl
 refine Br.intro (fun e=>?_) fun e=>?_
 ·have e:=of_decide_eq_true e
  exact bad (by unfold Zd; rw [decide_eq_false (by omega),Bool.false_and])
 ·have e:=of_decide_eq_false e
  refine ⟨h.1,?_⟩
  rintro _ rfl
  refine Br.intro (fun f=>?_) fun f=>?_
  ·have f:Z1 n≤c:=of_decide_eq_true f
   exact bad (by unfold Zd; rw [decide_eq_false (p:=c<Z1 n) (by omega),Bool.and_false])
  ·have f:¬ c≥Z1 n:=of_decide_eq_false f
   have ok:Zd n c=true:=by unfold Zd; rw [decide_eq_true (by omega),decide_eq_true (by omega)]; rfl
   obtain ⟨h1,h2,h3,h4,h5,h6⟩:=Zd5 ok
   obtain ⟨r1,r2,r3,r4,r5,r6⟩:=Zsc ok
   have w1:i64.wrap (n*n)=n*n:=wi ⟨by omega,by omega⟩
   have d1:c.tdiv (n*n)=c / (n*n):=Int.tdiv_eq_ediv_of_nonneg h3
   have d2:c.tdiv n=c / n:=Int.tdiv_eq_ediv_of_nonneg h3
   have d3:0≤c / n∧c / n≤c:=⟨Int.ediv_nonneg h3 (by omega),Int.ediv_le_self _ h3⟩
   have w2:i64.wrap (c / n)=c / n:=wi ⟨by omega,by have:=h.2; unfold I64 at this; omega⟩
   have w3:i64.wrap (c / (n*n))=c / (n*n):=wi ⟨by omega,by omega⟩
   refine ⟨by rw [w1]; omega,by omega,by omega,by omega,?_⟩
   rw [w1,d1,w3,d2,w2,Int.tmod_eq_emod_of_nonneg h3,Int.tmod_eq_emod_of_nonneg d3.1]
   unfold Z4; rw [if_pos ok]
end Go.Lift

namespace Go.Lift
open Go.Proofs
def Z11y:Cx:=⟨Z1p Z1x,Z1u [],SqG⟩
theorem Zot:CxOk Tryz.prog Z11y:=⟨Zl Zv,fun f c h=>by cases h⟩
def Zeu:Con:=.det [.int .i64] [.snap .bool] (fun _=>True) (fun x=>Z10c x.1)
theorem Zou:SqH Zeu 102 :=
 dP Zot Z3 Zb nHn Tryz.func102 (fun x p=>Zsy  x.1 p) fun x _ _=>Z1ee  x.1
def Z11z:Cx:=addC 102 Zeu Z11y
theorem Zov:CxOk Tryz.prog Z11z:=Zk Zot Zou
def Z4t:Con:=.det [.int .i64] [.snap (.int .i64)] (fun x=>I64 x.1) (fun x=>Z3p x.1)
theorem Z6f:SqH Z4t 48 :=
 dP Zov Z3 Zb nHn Tryz.func48 (fun x p=>Zor  x.1 p) fun x h _=>Z19l  x.1 h
def Z1k8:Cx:=addC 48 Z4t Z11z
theorem Z19n:CxOk Tryz.prog Z1k8:=Zk Zov Z6f
def Z8q:Con:=.det [.int .i64,.int .i64] [.snap (.int .i64),.snap (.int .i64),.snap (.int .i64),.snap .bool] (fun x=>II x.1 x.2.1) (fun x=>Z4 x.1 x.2.1)
theorem Zci:SqH Z8q 104 :=
 dP Z19n Z3 Zb nHn Tryz.func104 (fun x p=>Zos  x.1 x.2.1 p) fun x h _=>Z19m  x.1 x.2.1 h
end Go.Lift

namespace Go.Lift
def Zje (ty154:Nat) (ty160:Nat) (a_2:Int × Unit) (ty158:Nat) (a_4:List Int × Unit):List HObj:=[HObj.row Md.rw ty154 (K.arr (2:Nat) (K.int i64)) [[(1:Int),(0:Int)],[(0:Int),(1:Int)],[(-1:Int),(0:Int)],[(0:Int),(-1:Int)]],HObj.row Md.rw ty160 (K.arr (3:Nat) (K.int i64)) (Zm.getD a_2.1.toNat (K.arr (3:Nat) (K.arr (3:Nat) (K.int i64))).dflt),HObj.row Md.rw ty158 (K.int i64) a_4.1]
def Zlg:=fun (ty154 ty160 ty158:Nat) (n c o:Int) (post:Int × Int × Unit→Prop)=>∃ (h:II n c),Br (!(Z4 n c).2.2.2.1) (post ((-1:Int),(0:Int),()))
 (∀ a,a=decide (o<(0:Int))→Br a (post ((-1:Int),(0:Int),())) (∀ a,a=decide (o≥(4:Int))→Br a (post ((-1:Int),(0:Int),())) (∃ (h:(List.replicate (4 :
 Nat) (K.arr (2:Nat) (K.int i64)).dflt).length=(4:Nat)∧(4:Nat)=(4:Nat)),∃ (h:(0:Int)≤o∧o<(↑(4:Nat):Int)∧(4:Nat)≤(4:Nat)),∃ (h:(0 :
 Int)≤(0:Int)∧(0:Int)<(↑(2:Nat):Int)),∃ (h:(0:Int)≤o∧o<(↑(4:Nat):Int)∧(4:Nat)≤(4:Nat)),∃ (h:(0:Int)≤(1:Int)∧(1:Int)<(↑(2:Nat)
 : Int)),∃ (h:IIII n (Z4 n c).1 (i64.wrap ((Z4 n c).2.1+List.getD ([[(1:Int),(0:Int)],[(0:Int),(1:Int)],[(-1:Int),(0:Int)],[(0:Int),(-1
 : Int)]].getD o.toNat (K.arr (2:Nat) (K.int i64)).dflt) (0:Nat) (0:Int))) (i64.wrap ((Z4 n c).2.2.1+List.getD ([[(1:Int),(0:Int)],[(0:Int),(1
 : Int)],[(-1:Int),(0:Int)],[(0:Int),(-1:Int)]].getD o.toNat (K.arr (2:Nat) (K.int i64)).dflt) ((nat_lit 0+(1:Nat)) / (K.int i64).sz) (0 :
 Int)))),∀ a,a=Zuz n (Z4 n c).1 (i64.wrap ((Z4 n c).2.1+List.getD ([[(1:Int),(0:Int)],[(0:Int),(1:Int)],[(-1:Int),(0:Int)],[(0:Int),
 (-1:Int)]].getD o.toNat (K.arr (2:Nat) (K.int i64)).dflt) (0:Nat) (0:Int))) (i64.wrap ((Z4 n c).2.2.1+List.getD ([[(1:Int),(0:Int)],[(0 :
 Int),(1:Int)],[(-1:Int),(0:Int)],[(0:Int),(-1:Int)]].getD o.toNat (K.arr (2:Nat) (K.int i64)).dflt) ((nat_lit 0+(1:Nat)) / (K.int i64).sz) (0
 : Int)))→∀ a_1,a_1=decide (a.1≥(0:Int))→Br a_1 (∃ (h:(4:Int)≠(0:Int)),post (a.1,(i64.wrap (o+(2:Int))).tmod (4:Int),())) (∃ (h:(0:Int) ≤
 (Z4 n c).1∧(Z4 n c).1<(↑(6:Nat):Int)),∃ (h:WOut (Zm.getD (Z4 n c).1.toNat (K.arr (3:Nat) (K.arr (3:Nat) (K.int i64))).dflt) o),∀ a,a =
 outR (Zm.getD (Z4 n c).1.toNat (K.arr (3:Nat) (K.arr (3:Nat) (K.int i64))).dflt) o→∃ (h:True),∀ a_2,a_2=Z14o a.1→∃ (h:(0:Int)≤a_2.1 ∧
 a_2.1<(↑(6:Nat):Int)),∃ (h:(List.replicate (3:Nat) (K.arr (3:Nat) (K.int i64)).dflt).length=(3:Nat)∧List.length (Zm.getD a_2.1.toNat (K.arr (3 :
 Nat) (K.arr (3:Nat) (K.int i64))).dflt)=(3:Nat)),∃ (h:Z2u n (Z4 n c).1 (Z4 n c).2.1 (Z4 n c).2.2.1),∀ a,a=Zxx n (Z4 n c).1
 (Z4 n c).2.1 (Z4 n c).2.2.1→∃ (h:(0:Int)≤(Z4 n c).1∧(Z4 n c).1<(↑(6:Nat):Int)),∃ (h:WOut (Zm.getD (Z4 n c).1.toNat (K.arr (3 :
 Nat) (K.arr (3:Nat) (K.int i64))).dflt) o),∀ a_3,a_3=outR (Zm.getD (Z4 n c).1.toNat (K.arr (3:Nat) (K.arr (3:Nat) (K.int i64))).dflt) o→∃ (h
 : Z10j a.1 a_3.1),∀ a_4,a_4=Zuy a.1 a_3.1→∃ (h:(List.replicate (3:Nat) (0:Int)).length=(3:Nat)∧a_4.1.length=(3:Nat)),∃ (h:a_4.1.length=(3:Nat)),∃
 (h:(0:Int)≤(1:Int)∧(1:Int)<(↑(3:Nat):Int)∧(3:Nat)≤List.length (Zm.getD a_2.1.toNat (K.arr (3:Nat) (K.arr (3:Nat) (K.int i64))).dflt)),∃
 (h:WDot a_4.1 (List.getD (Zm.getD a_2.1.toNat (K.arr (3:Nat) (K.arr (3:Nat) (K.int i64))).dflt) (Int.toNat (1:Int)) (K.arr (3:Nat) (K.int
 i64)).dflt)),∀ a,a=dotR a_4.1 (List.getD (Zm.getD a_2.1.toNat (K.arr (3:Nat) (K.arr (3:Nat) (K.int i64))).dflt) (Int.toNat (1:Int)) (K.arr (3:Nat)
 (K.int i64)).dflt)→∃ (h:Z10l n a.1),∀ a_5,a_5=Z10k n a.1→∃ (h:a_4.1.length=(3:Nat)),∃ (h:(0:Int)≤(2:Int)∧(2:Int)<(↑(3:Nat):Int)∧(3
 : Nat)≤List.length (Zm.getD a_2.1.toNat (K.arr (3:Nat) (K.arr (3:Nat) (K.int i64))).dflt)),∃ (h:WDot a_4.1 (List.getD (Zm.getD a_2.1.toNat (K.arr (3 :
 Nat) (K.arr (3:Nat) (K.int i64))).dflt) (Int.toNat (2:Int)) (K.arr (3:Nat) (K.int i64)).dflt)),∀ a,a=dotR a_4.1 (List.getD (Zm.getD a_2.1.toNat
 (K.arr (3:Nat) (K.arr (3:Nat) (K.int i64))).dflt) (Int.toNat (2:Int)) (K.arr (3:Nat) (K.int i64)).dflt)→∃ (h:Z10l n a.1),∀ a_6,a_6=Z10k n a.1 →
 ∃ (h:IIII n a_2.1 a_5.1 a_6.1),∀ a,a=Zuz n a_2.1 a_5.1 a_6.1→HS (Zje ty154 ty160 a_2 ty158 a_4)∧∃ (I:Int × Unit→Unit→Prop),∃ (μ:Int × Unit→Unit
 → Nat),I ((0:Int),()) ()∧∀ (x:Int × Unit) (y:Unit),I x y→∀ a_7,a_7=decide (x.1<(4:Int))→Br a_7 (∃ (h:List.length (Zm.getD a_2.1.toNat (K.arr (3:Nat)
 (K.arr (3:Nat) (K.int i64))).dflt)=(3:Nat)),∃ (h:WOut (Zm.getD a_2.1.toNat (K.arr (3:Nat) (K.arr (3:Nat) (K.int i64))).dflt) x.1),∀ a_8,a_8 =
 outR (Zm.getD a_2.1.toNat (K.arr (3:Nat) (K.arr (3:Nat) (K.int i64))).dflt) x.1→∃ (h:(0:Int)≤(Z4 n c).1∧(Z4 n c).1<(↑(6:Nat):Int)),∃ (h
 : (0:Int)≤(0:Int)∧(0:Int)<(↑(3:Nat):Int)),∀ a_9,a_9=eqL a_8.1 (List.getD (Zm.getD (Z4 n c).1.toNat (K.arr (3:Nat) (K.arr (3:Nat) (K.int
 i64))).dflt) (Int.toNat (0:Int)) (K.arr (3:Nat) (K.int i64)).dflt)→Br a_9 (post (a.1,x.1,())) (HS (Zje ty154 ty160 a_2 ty158 a_4)∧I
 (i64.wrap (x.1+(1:Int)),()) ()∧μ (i64.wrap (x.1+(1:Int)),()) ()<μ x y)) (post ((-1:Int),(0:Int),()))))))
theorem Z156 (ty0 ty1 ty2:Nat) (n:Int) (c:Int) (o:Int) (h:III n c o):Zlg ty0 ty1 ty2 n c o (fun r=>r=Z56 n c o):=by
 refine ⟨⟨h.1,h.2.1⟩,?_⟩
 have no:Zg n c o=false→((-1:Int),(0:Int),())=Z56 n c o:=by
  intro q
  have:Z2 n c o=(-1,0):=by unfold Z2; rw [if_neg (by rw [q]; decide)]
  unfold Z56; rw [this]
 by_cases ok:Zd n c=true
 ·rw [Z1d5 ok]
  have hm:=Ze7 ok
  have hh:=hm
  obtain ⟨n1,n2,f0,f5,i0,i1,j0,j1⟩:=hh
  dsimp only
  refine Br.intro (fun e=>absurd e (by decide)) fun _=>?_
  rintro _ rfl
  refine Br.intro (fun e=>no ?_) fun e=>?_
  ·have e:=of_decide_eq_true e
   unfold Zg; rw [decide_eq_false (p:=0≤o) (by omega)]; simp
  have o0:=of_decide_eq_false e
  rintro _ rfl
  refine Br.intro (fun e=>no ?_) fun e=>?_
  ·have e:=of_decide_eq_true e
   unfold Zg; rw [decide_eq_false (p:=o<4) (by omega)]; simp
  have o4:=of_decide_eq_false e
  have o0:0≤o:=by omega
  have o4:o<4:=by omega
  have okb:Zg n c o=true:=by unfold Zg; rw [ok,decide_eq_true o0,decide_eq_true o4]; rfl
  have d:=dxy (o:=o)
  obtain ⟨F,hF⟩:∃ F,c / (n*n)=F:=⟨_,rfl⟩
  obtain ⟨i,hi0⟩:∃ i,c % n=i:=⟨_,rfl⟩
  obtain ⟨j,hj0⟩:∃ j,c / n % n=j:=⟨_,rfl⟩
  have hb:Z2 n c o=if 0≤Z24 n F (i+dxI o) (j+dyI o) then (Z24 n F (i+dxI o) (j+dyI o),Int.tmod (o+2) 4) else Z10m n F i j o:=by
   unfold Z2; rw [if_pos okb,hF,hi0,hj0]
  rw [hF,hi0,hj0]
  rw [hF] at hm f0 f5
  rw [hi0] at hm i0 i1
  rw [hj0] at hm j0 j1
  have w1:i64.wrap (i+dxI o)=i+dxI o:=wi ⟨by omega,by omega⟩
  have w2:i64.wrap (j+dyI o)=j+dyI o:=wi ⟨by omega,by omega⟩
  have i6:∀ {z:Int},-1≤z→z≤6144→I64 z:=fun {z} a b=>⟨by omega,by omega⟩
  have fb:=Z5y f0 f5
  have wo:∀ q,WOut (Zy F) q:=fun q=>⟨(fb 1).mono (by decide),(fb 2).mono (by decide)⟩
  refine ⟨⟨rfl,rfl⟩,⟨o0,o4,Nat.le_refl _⟩,⟨by decide,by decide⟩,⟨o0,o4,Nat.le_refl _⟩,⟨by decide,by decide⟩,⟨h.1,i6 (by omega) (by omega),Zxy _,Zxy _⟩,?_⟩
  intro a ha
  have ha:a=Zuz n F (i64.wrap (i+dxI o)) (i64.wrap (j+dyI o)):=ha.trans (by rw [← Z1sy o0 o4,← Z1sz o0 o4]; rfl)
  rw [w1,w2] at ha
  obtain ⟨a,⟨⟩⟩:=a
  have ha:a=Z24 n F (i+dxI o) (j+dyI o):=congrArg Prod.fst ha
  rw [← ha] at hb
  rintro _ rfl
  refine Br.intro (fun e=>?_) fun e=>?_
  ·have e:a≥0:=of_decide_eq_true e
   rw [if_pos e] at hb
   refine ⟨by decide,?_⟩
   have:i64.wrap (o+2)=o+2:=wi ⟨by omega,by omega⟩
   rw [this]
   unfold Z56; rw [hb]
  have e:¬ 0≤a:=of_decide_eq_false e
  rw [if_neg e] at hb
  refine ⟨⟨f0,by show F<6; omega⟩,wo o,?_⟩
  rintro ⟨v1,⟨⟩⟩ hv1
  have e1:v1=outF (Zy F) o:=congrArg Prod.fst hv1
  refine ⟨trivial,?_⟩
  rintro ⟨t,⟨⟩⟩ ht
  have et:t=Z4q (outF (Zy F) o):=by rw [← e1]; exact congrArg Prod.fst ht
  obtain ⟨t0,t5⟩:=Z1rj f0 f5 o0 o4
  rw [← et] at t0 t5
  have fl:=Z17o t0 t5
  have tb:=Z5y t0 t5
  refine ⟨⟨t0,by show t<6; omega⟩,⟨rfl,fl⟩,hm,?_⟩
  rintro ⟨p,⟨⟩⟩ hp
  have ep:p=Z8f n F i j:=congrArg Prod.fst hp
  have pb:Bd 96 p:=by rw [ep]; exact Z1ms hm
  refine ⟨⟨f0,by show F<6; omega⟩,wo o,?_⟩
  rintro ⟨v2,⟨⟩⟩ hv2
  have e2:v2=outF (Zy F) o:=congrArg Prod.fst hv2
  have vb:Bd 1 v2:=by rw [e2]; exact Z1sx f0 f5 o
  refine ⟨⟨pb.mono (by decide),vb.mono (by decide)⟩,?_⟩
  rintro ⟨q,⟨⟩⟩ hq
  have eq:q=Zd6 p v2:=congrArg Prod.fst hq
  have ql:q.length=3:=by rw [eq]; rfl
  have qb:Bd 97 q:=by rw [eq]; exact Zv0 pb vb
  refine ⟨⟨rfl,ql⟩,ql,⟨by decide,by decide,Nat.le_of_eq fl.symm⟩,⟨qb.mono (by decide),(tb 1).mono (by decide)⟩,?_⟩
  rintro ⟨d1,⟨⟩⟩ hd1
  have ed1:d1=dotW q (Z2a (Zy t) 1):=congrArg Prod.fst hd1
  have db1:=Z1mr qb (tb 1)
  rw [← ed1] at db1
  refine ⟨⟨n1,n2,by omega,by omega⟩,?_⟩
  rintro ⟨x1,⟨⟩⟩ hx1
  have ex1:x1=Z4e n d1:=congrArg Prod.fst hx1
  have xb1:=Z17p (a:=d1) n1
  rw [← ex1] at xb1
  refine ⟨ql,⟨by decide,by decide,Nat.le_of_eq fl.symm⟩,⟨qb.mono (by decide),(tb 2).mono (by decide)⟩,?_⟩
  rintro ⟨d2,⟨⟩⟩ hd2
  have ed2:d2=dotW q (Z2a (Zy t) 2):=congrArg Prod.fst hd2
  have db2:=Z1mr qb (tb 2)
  rw [← ed2] at db2
  refine ⟨⟨n1,n2,by omega,by omega⟩,?_⟩
  rintro ⟨x2,⟨⟩⟩ hx2
  have ex2:x2=Z4e n d2:=congrArg Prod.fst hx2
  have xb2:=Z17p (a:=d2) n1
  rw [← ex2] at xb2
  refine ⟨⟨h.1,i6 (by omega) (by omega),i6 (by omega) (by omega),i6 (by omega) (by omega)⟩,?_⟩
  rintro ⟨cc,⟨⟩⟩ hcc
  have ecc:cc=Z24 n t x1 x2:=congrArg Prod.fst hcc
  have hov:Z2 n c o=Zd7 (Zy t) (Z2a (Zy F) 0) cc 4 0:=by
   rw [hb,ecc,ex1,ex2,ed1,ed2,eq,ep,e2,et]; rfl
  refine ⟨rfl,fun x _=>∃ k:Nat,x.1=k∧k≤4∧Z2 n c o=Zd7 (Zy t) (Z2a (Zy F) 0) cc (4 - k) k,fun x _=>4 - x.1.toNat,⟨0,rfl,by omega,hov⟩,?_⟩
  rintro ⟨_,⟨⟩⟩ _ ⟨k,rfl,hk,hi⟩
  dsimp only
  rintro _ rfl
  refine Br.intro (fun g=>?_) fun g=>?_
  ·have g:k<4:=by have g:(k:Int)<4:=of_decide_eq_true g; omega
   refine ⟨fl,⟨(tb 1).mono (by decide),(tb 2).mono (by decide)⟩,?_⟩
   rintro ⟨v3,⟨⟩⟩ hv3
   have e3:v3=outF (Zy t) k:=congrArg Prod.fst hv3
   refine ⟨⟨f0,by show F<6; omega⟩,⟨by decide,by decide⟩,?_⟩
   intro z hz
   have hz:z=decide (outF (Zy t) k=Z2a (Zy F) 0):=by rw [← e3]; exact hz
   obtain ⟨r,hr⟩:∃ r,4 - k=r+1:=⟨3 - k,by omega⟩
   rw [hr] at hi
   unfold Zd7 at hi
   rw [hz,Zz g (by omega)]
   refine Br.intro (fun y=>?_) fun y=>?_
   ·rw [if_pos (of_decide_eq_true y)] at hi
    unfold Z56; rw [hi]
   ·rw [if_neg (of_decide_eq_false y)] at hi
    exact ⟨rfl,⟨k+1,rfl,by omega,by rw [show 4 - (k+1)=r by omega]; exact hi⟩,by omega⟩
  ·have g:k=4:=by have g:¬ (k:Int)<4:=of_decide_eq_false g; omega
   subst g
   have hi:Z2 n c o=(-1,0):=hi
   unfold Z56; rw [hi]
 ·rw [Z1d6 ok]
  refine Br.intro (fun _=>no ?_) fun e=>absurd e (by decide)
  unfold Zg; rw [show Zd n c=false by simpa using ok]; rfl
end Go.Lift

namespace Go.Lift
def Zfc:=fun (a:List Int) (k:Int) (post:List Int × Unit→Prop)=>∃ (h:(0:Int)≤(0:Int)∧(0:Int)<(↑(3:Nat):Int)∧(3:Nat)≤a.length),∃ (h
 : (0:Int)≤(1:Int)∧(1:Int)<(↑(3:Nat):Int)∧(3:Nat)≤a.length),∃ (h:(0:Int)≤(2:Int)∧(2:Int)<(↑(3:Nat):Int)∧(3:Nat)≤a.length),∃ (h :
 (List.replicate (3:Nat) (0:Int)).length=(3:Nat)∧(3:Nat)=(3:Nat)),∃ (h:(3:Nat)=(3:Nat)),post ([i64.wrap (k*a.getD (Int.toNat (0:Int)) (0 :
 Int)),i64.wrap (k*a.getD (Int.toNat (1:Int)) (0:Int)),i64.wrap (k*a.getD (Int.toNat (2:Int)) (0:Int))],())
theorem Zvp (a:List Int) (k:Int) (h:Z6z a k) (w:KS.wf [kWay,.int .i64] (a,k,())):Zfc  a k (fun r=>r=Ze4 a k):=by
 have hl:a.length=3:=w.1.1
 obtain ⟨hb,k1,k2⟩:=h
 have W:∀ i:Nat,i64.wrap (k*a.getD i 0)=k*a.getD i 0:=fun i=>by
  have:=Ze6 k1 k2 (hb i).1 (hb i).2
  exact wi ⟨by omega,by omega⟩
 refine ⟨⟨by decide,by decide,by omega⟩,⟨by decide,by decide,by omega⟩,⟨by decide,by decide,by omega⟩,⟨rfl,rfl⟩,rfl,?_⟩
 show ([i64.wrap (k*a.getD 0 0),i64.wrap (k*a.getD 1 0),i64.wrap (k*a.getD 2 0)],())=Ze4 a k
 rw [W,W,W]; rfl
def Zho:=fun (a b:List Int) (post:List Int × Unit→Prop)=>∃ (h:(0:Int)≤(0:Int)∧(0:Int)<(↑(3:Nat):Int)∧(3:Nat)≤a.length),∃ (h:(0 :
 Int)≤(0:Int)∧(0:Int)<(↑(3:Nat):Int)∧(3:Nat)≤b.length),∃ (h:(0:Int)≤(1:Int)∧(1:Int)<(↑(3:Nat):Int)∧(3:Nat)≤a.length),∃ (h:(0:Int)
 ≤ (1:Int)∧(1:Int)<(↑(3:Nat):Int)∧(3:Nat)≤b.length),∃ (h:(0:Int)≤(2:Int)∧(2:Int)<(↑(3:Nat):Int)∧(3:Nat)≤a.length),∃ (h:(0:Int)≤(2
 : Int)∧(2:Int)<(↑(3:Nat):Int)∧(3:Nat)≤b.length),∃ (h:(List.replicate (3:Nat) (0:Int)).length=(3:Nat)∧(3:Nat)=(3:Nat)),∃ (h:(3:Nat)=(3 :
 Nat)),post ([i64.wrap (a.getD (Int.toNat (0:Int)) (0:Int)+b.getD (Int.toNat (0:Int)) (0:Int)),i64.wrap (a.getD (Int.toNat (1:Int)) (0:Int)+b.getD
 (Int.toNat (1:Int)) (0:Int)),i64.wrap (a.getD (Int.toNat (2:Int)) (0:Int)+b.getD (Int.toNat (2:Int)) (0:Int))],())
theorem Zy4 (a:List Int) (b:List Int) (h:Z10j a b) (w:KS.wf [kWay,kWay] (a,b,())):Zho  a b (fun r=>r=Zuy a b):=by
 have hl:a.length=3:=w.1.1
 have hm:b.length=3:=w.2.1.1
 obtain ⟨ha,hb⟩:=h
 have W:∀ i:Nat,i64.wrap (a.getD i 0+b.getD i 0)=a.getD i 0+b.getD i 0:=fun i=>by
  have:=ha i; have:=hb i
  exact wi ⟨by omega,by omega⟩
 refine ⟨⟨by decide,by decide,by omega⟩,⟨by decide,by decide,by omega⟩,⟨by decide,by decide,by omega⟩,⟨by decide,by decide,by omega⟩,⟨by decide,by decide,by omega⟩,⟨by decide,by decide,by omega⟩,⟨rfl,rfl⟩,rfl,?_⟩
 show ([i64.wrap (a.getD 0 0+b.getD 0 0),i64.wrap (a.getD 1 0+b.getD 1 0),i64.wrap (a.getD 2 0+b.getD 2 0)],())=Zuy a b
 rw [W,W,W]; rfl
def Zjf:=fun (a b:List Int) (post:Int × Unit→Prop)=>∃ (h:(0:Int)≤(0:Int)∧(0:Int)<(↑(3:Nat):Int)∧(3:Nat)≤a.length),∃ (h:(0:Int) ≤
 (0:Int)∧(0:Int)<(↑(3:Nat):Int)∧(3:Nat)≤b.length),∃ (h:(0:Int)≤(1:Int)∧(1:Int)<(↑(3:Nat):Int)∧(3:Nat)≤a.length),∃ (h:(0:Int)≤(1 :
 Int)∧(1:Int)<(↑(3:Nat):Int)∧(3:Nat)≤b.length),∃ (h:(0:Int)≤(2:Int)∧(2:Int)<(↑(3:Nat):Int)∧(3:Nat)≤a.length),∃ (h:(0:Int)≤(2:Int)
 ∧ (2:Int)<(↑(3:Nat):Int)∧(3:Nat)≤b.length),post (i64.wrap (i64.wrap (i64.wrap (a.getD (Int.toNat (0:Int)) (0:Int)*b.getD (Int.toNat (0
 : Int)) (0:Int))+i64.wrap (a.getD (Int.toNat (1:Int)) (0:Int)*b.getD (Int.toNat (1:Int)) (0:Int)))+i64.wrap (a.getD (Int.toNat (2:Int)) (0:Int)
 * b.getD (Int.toNat (2:Int)) (0:Int))),())
theorem Z120 (a:List Int) (b:List Int) (h:WDot a b) (w:KS.wf [kWay,kWay] (a,b,())):Zjf  a b (fun r=>r=dotR a b):=by
 have hl:a.length=3:=w.1.1
 have hm:b.length=3:=w.2.1.1
 obtain ⟨ha,hb⟩:=h
 have M:∀ i:Nat,-(1048576*1048576)≤a.getD i 0*b.getD i 0∧a.getD i 0*b.getD i 0≤1048576*1048576:=fun i=>Ze6 (ha i).1 (ha i).2 (hb i).1 (hb i).2
 have m0:=M 0
 have m1:=M 1
 have m2:=M 2
 refine ⟨⟨by decide,by decide,by omega⟩,⟨by decide,by decide,by omega⟩,⟨by decide,by decide,by omega⟩,⟨by decide,by decide,by omega⟩,⟨by decide,by decide,by omega⟩,⟨by decide,by decide,by omega⟩,?_⟩
 show (i64.wrap (i64.wrap (i64.wrap (a.getD 0 0*b.getD 0 0)+i64.wrap (a.getD 1 0*b.getD 1 0))+i64.wrap (a.getD 2 0*b.getD 2 0)),())=dotR a b
 rw [wi (x:=a.getD 0 0*b.getD 0 0) ⟨by omega,by omega⟩,wi (x:=a.getD 1 0*b.getD 1 0) ⟨by omega,by omega⟩,wi (x:=a.getD 2 0*b.getD 2 0) ⟨by omega,by omega⟩,wi (x:=a.getD 0 0*b.getD 0 0+a.getD 1 0*b.getD 1 0) ⟨by omega,by omega⟩,wi ⟨by omega,by omega⟩]
 rfl
def Zfd:=fun (f:List (List Int)) (s:Int) (post:List Int × Unit→Prop)=>∀ a,a=(s==(0:Int))→Br a (∃ (h:(0:Int)≤(1:Int)∧(1:Int)<(↑(3 :
 Nat):Int)∧(3:Nat)≤f.length),∃ (h:(List.replicate (3:Nat) (0:Int)).length=(3:Nat)∧List.length (f.getD (Int.toNat (1:Int)) (K.arr (3:Nat) (K.int
 i64)).dflt)=(3:Nat)),∃ (h:List.length (f.getD (Int.toNat (1:Int)) (K.arr (3:Nat) (K.int i64)).dflt)=(3:Nat)),post (f.getD (Int.toNat (1:Int))
 (K.arr (3:Nat) (K.int i64)).dflt,())) (∀ a,a=(s==(1:Int))→Br a (∃ (h:(0:Int)≤(2:Int)∧(2:Int)<(↑(3:Nat):Int)∧(3:Nat)≤f.length),∃ (h :
 (List.replicate (3:Nat) (0:Int)).length=(3:Nat)∧List.length (f.getD (Int.toNat (2:Int)) (K.arr (3:Nat) (K.int i64)).dflt)=(3:Nat)),∃ (h:List.length
 (f.getD (Int.toNat (2:Int)) (K.arr (3:Nat) (K.int i64)).dflt)=(3:Nat)),post (f.getD (Int.toNat (2:Int)) (K.arr (3:Nat) (K.int i64)).dflt,())) (∀ a,a
 = (s==(2:Int))→Br a (∃ (h:(0:Int)≤(1:Int)∧(1:Int)<(↑(3:Nat):Int)∧(3:Nat)≤f.length),∃ (h:Z6z (f.getD (Int.toNat (1:Int)) (K.arr (3:Nat)
 (K.int i64)).dflt) (-1:Int)),∀ a,a=Ze4 (f.getD (Int.toNat (1:Int)) (K.arr (3:Nat) (K.int i64)).dflt) (-1:Int)→∃ (h:(List.replicate (3:Nat) (0
 : Int)).length=(3:Nat)∧a.1.length=(3:Nat)),∃ (h:a.1.length=(3:Nat)),post (a.1,())) (∃ (h:(0:Int)≤(2:Int)∧(2:Int)<(↑(3:Nat):Int)∧(3:Nat) ≤
 f.length),∃ (h:Z6z (f.getD (Int.toNat (2:Int)) (K.arr (3:Nat) (K.int i64)).dflt) (-1:Int)),∀ a,a=Ze4 (f.getD (Int.toNat (2:Int)) (K.arr (3:Nat)
 (K.int i64)).dflt) (-1:Int)→∃ (h:(List.replicate (3:Nat) (0:Int)).length=(3:Nat)∧a.1.length=(3:Nat)),∃ (h:a.1.length=(3:Nat)),post (a.1,()))))
theorem Zvq (f:List (List Int)) (s:Int) (h:WOut f s) (w:KS.wf [Z1mh,.int .i64] (f,s,())):Zfd  f s (fun r=>r=outR f s):=by
 have hl:f.length=3:=w.1.1
 have hm:∀ i,(Z2a f i).length=3:=fun i=>by
  unfold Z2a
  rcases Nat.lt_or_ge i f.length with g | g
  ·exact (w.1.2 _ (Zu g [0,0,0])).1
  ·rw [List.getD_eq_getElem?_getD,List.getElem?_eq_none g]; rfl
 obtain ⟨h1,h2⟩:=h
 have t1:Z6z (Z2a f 1) (-1):=⟨h1,by decide,by decide⟩
 have t2:Z6z (Z2a f 2) (-1):=⟨h2,by decide,by decide⟩
 rintro _ rfl
 refine Br.intro (fun e=>?_) fun e=>?_
 ·have e:s=0:=beq_iff_eq.1 e
  exact ⟨⟨by decide,by decide,by omega⟩,⟨rfl,hm 1⟩,hm 1,congrArg r1 (by unfold outF; rw [if_pos e]; rfl)⟩
 have e:¬ s=0:=fun q=>by rw [q] at e; cases e
 rintro _ rfl
 refine Br.intro (fun g=>?_) fun g=>?_
 ·have g:s=1:=beq_iff_eq.1 g
  exact ⟨⟨by decide,by decide,by omega⟩,⟨rfl,hm 2⟩,hm 2,congrArg r1 (by unfold outF; rw [if_neg e,if_pos g]; rfl)⟩
 have g:¬ s=1:=fun q=>by rw [q] at g; cases g
 rintro _ rfl
 refine Br.intro (fun j=>?_) fun j=>?_
 ·have j:s=2:=beq_iff_eq.1 j
  refine ⟨⟨by decide,by decide,by omega⟩,t1,?_⟩
  rintro _ rfl
  exact ⟨⟨rfl,rfl⟩,rfl,congrArg r1 (by unfold outF; rw [if_neg e,if_neg g,if_pos j]; rfl)⟩
 have j:¬ s=2:=fun q=>by rw [q] at j; cases j
 refine ⟨⟨by decide,by decide,by omega⟩,t2,?_⟩
 rintro _ rfl
 exact ⟨⟨rfl,rfl⟩,rfl,congrArg r1 (by unfold outF; rw [if_neg e,if_neg g,if_neg j]; rfl)⟩
def Zjg (ty158:Nat) (c:List Int):List HObj:=[HObj.row Md.rw ty158 (K.int i64) c]
def Zlh:=fun (ty158:Nat) (c:List Int) (post:Int × Unit→Prop)=>HS (Zjg ty158 c)∧∃ (I:Int × Unit→Unit→Prop),∃ (μ:Int × Unit→Unit →
 Nat),I ((0:Int),()) ()∧∀ (x:Int × Unit) (y:Unit),I x y→∀ a,a=decide (x.1<(6:Int))→Br a (∃ (h:(0:Int)≤x.1∧x.1<(↑(6:Nat):Int)),∃ (h:(0:Int)
 ≤ (0:Int)∧(0:Int)<(↑(3:Nat):Int)),∃ (h:c.length=(3:Nat)),∀ a,a=eqL (List.getD (Zm.getD x.1.toNat (K.arr (3:Nat) (K.arr (3:Nat) (K.int
 i64))).dflt) (Int.toNat (0:Int)) (K.arr (3:Nat) (K.int i64)).dflt) c→Br a (post (x.1,())) (HS (Zjg ty158 c)∧I (i64.wrap (x.1+(1 :
 Int)),()) ()∧μ (i64.wrap (x.1+(1:Int)),()) ()<μ x y)) (post ((-1:Int),()))
theorem Z157 (ty0:Nat) (c:List Int) (w:KS.wf [kWay] (c,())):Zlh ty0 c (fun r=>r=Z14o c):=by
 have hl:c.length=3:=w.1.1
 refine ⟨rfl,fun x _=>∃ k:Nat,x.1=k∧k≤6∧Z4q c=Ze0 (fun fr=>decide (Z2a fr 0=c)) k (Zm.drop k),fun x _=>6 - x.1.toNat,⟨0,rfl,by omega,rfl⟩,?_⟩
 rintro ⟨_,⟨⟩⟩ _ ⟨k,rfl,hk,hi⟩
 dsimp only
 rintro _ rfl
 refine Br.intro (fun e=>?_) fun e=>?_
 ·have e:k<6:=by have e:(k:Int)<6:=of_decide_eq_true e; omega
  refine ⟨⟨by omega,by show (k:Int)<6; omega⟩,⟨by decide,by decide⟩,hl,?_⟩
  rw [Zix (l:=Zm) (i:=k) e [[0,0,0],[0,0,0],[0,0,0]],Zko] at hi
  rw [Int.toNat_natCast,Zz e (by omega)]
  intro z hz
  have hz:z=decide (Z2a (Zm.getD k [[0,0,0],[0,0,0],[0,0,0]]) 0=c):=hz
  rw [hz]
  refine Br.intro (fun g=>?_) fun g=>?_
  ·rw [if_pos g] at hi
   exact congrArg r1 hi.symm
  ·rw [if_neg (by rw [g]; decide)] at hi
   exact ⟨rfl,⟨k+1,rfl,by omega,hi⟩,by omega⟩
 ·have e:k=6:=by have e:¬ (k:Int)<6:=of_decide_eq_false e; omega
  subst e
  exact congrArg r1 (by rw [hi]; rfl)
def Zsz:=fun (n f i j:Int) (post:Int × Unit→Prop)=>∃ (h:True),∀ a,a=(Z10c n).1→Br (!a) (post ((-1:Int),())) (∀ a,a=decide (f<(0:Int))→Br a
 (post ((-1:Int),())) (∀ a,a=decide (f≥(6:Int))→Br a (post ((-1:Int),())) (∀ a,a=decide (i<(0:Int))→Br a (post ((-1:Int),())) (∀ a,a=decide (i≥n) →
 Br a (post ((-1:Int),())) (∀ a,a=decide (j<(0:Int))→Br a (post ((-1:Int),())) (∀ a,a=decide (j≥n)→Br a (post ((-1:Int),())) (post (i64.wrap
 (i64.wrap (i64.wrap (i64.wrap (f*n)+j)*n)+i),()))))))))
theorem Z1ef (n:Int) (f:Int) (i:Int) (j:Int) (h:IIII n f i j):Zsz  n f i j (fun r=>r=Zuz n f i j):=by
 obtain ⟨hn,hf,hi,hj⟩:=h
 have no:Z5i n f i j=false→((-1:Int),())=Zuz n f i j:=fun q=>congrArg r1 (by unfold Z24; rw [if_neg (by rw [q]; decide)])
 have ok:∀ p,(Z1v n&&decide (0≤f)&&decide (f<6)&&decide (0≤i)&&decide (i<n)&&decide (0≤j)&&decide (j<n))=p→Z5i n f i j=p:=fun p q=>q
 refine ⟨trivial,?_⟩
 intro g hg
 have hg:g=Z1v n:=hg
 rw [hg]
 refine Br.intro (fun e=>no (ok _ ?_)) fun e=>?_
 ·have e:Z1v n=false:=by simpa using e
  rw [e]; rfl
 have e:Z1v n=true:=by simpa using e
 rintro _ rfl
 refine Br.intro (fun q=>no (ok _ ?_)) fun q=>?_
 ·rw [decide_eq_false (p:=0≤f) (by have:=of_decide_eq_true q; omega)]; simp
 have q1:=of_decide_eq_false q
 rintro _ rfl
 refine Br.intro (fun q=>no (ok _ ?_)) fun q=>?_
 ·rw [decide_eq_false (p:=f<6) (by have:=of_decide_eq_true q; omega)]; simp
 have q2:=of_decide_eq_false q
 rintro _ rfl
 refine Br.intro (fun q=>no (ok _ ?_)) fun q=>?_
 ·rw [decide_eq_false (p:=0≤i) (by have:=of_decide_eq_true q; omega)]; simp
 have q3:=of_decide_eq_false q
 rintro _ rfl
 refine Br.intro (fun q=>no (ok _ ?_)) fun q=>?_
 ·rw [decide_eq_false (p:=i<n) (by have:=of_decide_eq_true q; omega)]; simp
 have q4:=of_decide_eq_false q
 rintro _ rfl
 refine Br.intro (fun q=>no (ok _ ?_)) fun q=>?_
 ·rw [decide_eq_false (p:=0≤j) (by have:=of_decide_eq_true q; omega)]; simp
 have q5:=of_decide_eq_false q
 rintro _ rfl
 refine Br.intro (fun q=>no (ok _ ?_)) fun q=>?_
 ·rw [decide_eq_false (p:=j<n) (by have:=of_decide_eq_true q; omega)]; simp
 have q6:=of_decide_eq_false q
 have hok:Z5i n f i j=true:=by
  unfold Z5i
  rw [e,decide_eq_true (p:=0≤f) (by omega),decide_eq_true (p:=f<6) (by omega),decide_eq_true (p:=0≤i) (by omega),decide_eq_true (p:=i<n) (by omega),decide_eq_true (p:=0≤j) (by omega),decide_eq_true (p:=j<n) (by omega)]; rfl
 obtain ⟨r0,r1',n1,n2⟩:=Znv hok
 have hv:Z24 n f i j=(f*n+j)*n+i:=by unfold Z24; rw [if_pos hok]
 rw [hv] at r0 r1'
 have sq:=Zux n1 n2
 have b1:0≤f*n:=Int.mul_nonneg (by omega) (by omega)
 have b2:f*n≤5*n:=Int.mul_le_mul_of_nonneg_right (by omega) (by omega)
 have b3:0≤(f*n+j)*n:=Int.mul_nonneg (by omega) (by omega)
 rw [wi (x:=f*n) ⟨by omega,by omega⟩,wi (x:=f*n+j) ⟨by omega,by omega⟩,wi (x:=(f*n+j)*n) ⟨by omega,by omega⟩,wi (x:=(f*n+j)*n+i) ⟨by omega,by omega⟩]
 exact congrArg r1 hv.symm
def Zcj:=fun (n f i j:Int) (post:List Int × Unit→Prop)=>∃ (h:(0:Int)≤f∧f<(↑(6:Nat):Int)),∃ (h:(List.replicate (3:Nat) (K.arr (3:Nat) (K.int
 i64)).dflt).length=(3:Nat)∧List.length (Zm.getD f.toNat (K.arr (3:Nat) (K.arr (3:Nat) (K.int i64))).dflt)=(3:Nat)),∃ (h:(0:Int)≤(0:Int)
 ∧ (0:Int)<(↑(3:Nat):Int)∧(3:Nat)≤List.length (Zm.getD f.toNat (K.arr (3:Nat) (K.arr (3:Nat) (K.int i64))).dflt)),∃ (h:Z6z (List.getD
 (Zm.getD f.toNat (K.arr (3:Nat) (K.arr (3:Nat) (K.int i64))).dflt) (Int.toNat (0:Int)) (K.arr (3:Nat) (K.int i64)).dflt) n),∀ a,a=Ze4
 (List.getD (Zm.getD f.toNat (K.arr (3:Nat) (K.arr (3:Nat) (K.int i64))).dflt) (Int.toNat (0:Int)) (K.arr (3:Nat) (K.int i64)).dflt) n→∃ (h:(0 :
 Int)≤(1:Int)∧(1:Int)<(↑(3:Nat):Int)∧(3:Nat)≤List.length (Zm.getD f.toNat (K.arr (3:Nat) (K.arr (3:Nat) (K.int i64))).dflt)),∃ (h:Z6z
 (List.getD (Zm.getD f.toNat (K.arr (3:Nat) (K.arr (3:Nat) (K.int i64))).dflt) (Int.toNat (1:Int)) (K.arr (3:Nat) (K.int i64)).dflt) (i64.wrap
 (i64.wrap (i64.wrap ((2:Int)*i)+(1:Int)) - n))),∀ a_1,a_1=Ze4 (List.getD (Zm.getD f.toNat (K.arr (3:Nat) (K.arr (3:Nat) (K.int
 i64))).dflt) (Int.toNat (1:Int)) (K.arr (3:Nat) (K.int i64)).dflt) (i64.wrap (i64.wrap (i64.wrap ((2:Int)*i)+(1:Int)) - n))→∃
 (h:Z10j a.1 a_1.1),∀ a_2,a_2=Zuy a.1 a_1.1→∃ (h:(0:Int)≤(2:Int)∧(2:Int)<(↑(3:Nat):Int)∧(3:Nat)≤List.length (Zm.getD f.toNat (K.arr (3 :
 Nat) (K.arr (3:Nat) (K.int i64))).dflt)),∃ (h:Z6z (List.getD (Zm.getD f.toNat (K.arr (3:Nat) (K.arr (3:Nat) (K.int i64))).dflt) (Int.toNat (2 :
 Int)) (K.arr (3:Nat) (K.int i64)).dflt) (i64.wrap (i64.wrap (i64.wrap ((2:Int)*j)+(1:Int)) - n))),∀ a,a=Ze4 (List.getD
 (Zm.getD f.toNat (K.arr (3:Nat) (K.arr (3:Nat) (K.int i64))).dflt) (Int.toNat (2:Int)) (K.arr (3:Nat) (K.int i64)).dflt) (i64.wrap
 (i64.wrap (i64.wrap ((2:Int)*j)+(1:Int)) - n))→∃ (h:Z10j a_2.1 a.1),∀ a_3,a_3=Zuy a_2.1 a.1→∃ (h:(List.replicate (3:Nat) (0:Int)).length
 = (3:Nat)∧a_3.1.length=(3:Nat)),∃ (h:a_3.1.length=(3:Nat)),post (a_3.1,())
theorem Z158 (n:Int) (f:Int) (i:Int) (j:Int) (h:Z2u n f i j):Zcj  n f i j (fun r=>r=Zxx n f i j):=by
 have hh:=h
 obtain ⟨n1,n2,f0,f5,i0,i1,j0,j1⟩:=h
 have fl:(Zm.getD f.toNat (K.arr (3:Nat) (K.arr (3:Nat) (K.int i64))).dflt).length=3:=Z17o f0 f5
 have b:=Z5y f0 f5
 have t0:Z6z (Z2a (Zy f) 0) n:=⟨(b 0).mono (by decide),by omega,by omega⟩
 have w1:i64.wrap (i64.wrap (i64.wrap (2*i)+1) - n)=2*i+1 - n:=by
  rw [wi (x:=2*i) ⟨by omega,by omega⟩,wi (x:=2*i+1) ⟨by omega,by omega⟩,wi ⟨by omega,by omega⟩]
 have w2:i64.wrap (i64.wrap (i64.wrap (2*j)+1) - n)=2*j+1 - n:=by
  rw [wi (x:=2*j) ⟨by omega,by omega⟩,wi (x:=2*j+1) ⟨by omega,by omega⟩,wi ⟨by omega,by omega⟩]
 unfold Zcj
 rw [w1,w2]
 have t1:Z6z (Z2a (Zy f) 1) (2*i+1 - n):=⟨(b 1).mono (by decide),by omega,by omega⟩
 have t2:Z6z (Z2a (Zy f) 2) (2*j+1 - n):=⟨(b 2).mono (by decide),by omega,by omega⟩
 have c0:=Z7p (q:=32) (b 0) (k:=n) (by omega) (by omega)
 have c1:=Z7p (q:=32) (b 1) (k:=2*i+1 - n) (by omega) (by omega)
 have c2:=Z7p (q:=32) (b 2) (k:=2*j+1 - n) (by omega) (by omega)
 have p1:=Zv0 c0 c1
 refine ⟨⟨f0,by show f<6; omega⟩,⟨rfl,fl⟩,⟨by decide,by decide,by omega⟩,t0,?_⟩
 rintro _ rfl
 refine ⟨⟨by decide,by decide,by omega⟩,t1,?_⟩
 rintro _ rfl
 refine ⟨⟨c0.mono (by decide),c1.mono (by decide)⟩,?_⟩
 rintro _ rfl
 refine ⟨⟨by decide,by decide,by omega⟩,t2,?_⟩
 rintro _ rfl
 refine ⟨⟨p1.mono (by decide),c2.mono (by decide)⟩,?_⟩
 rintro _ rfl
 exact ⟨⟨rfl,rfl⟩,rfl,rfl⟩
def Zow:=fun (n a:Int) (post:Int × Unit→Prop)=>∃ (h:(2:Int)≠(0:Int)),post (imin (imax (i64.wrap ((i64.wrap (i64.wrap (a+n) -
 (1:Int))).tdiv (2:Int))) (0:Int)) (i64.wrap (n - 1)),())
theorem Z19o (n:Int) (a:Int) (h:Z10l n a):Zow  n a (fun r=>r=Z10k n a):=by
 obtain ⟨n1,n2,a1,a2⟩:=h
 have w1:i64.wrap (i64.wrap (a+n) - 1)=a+n - 1:=by
  rw [wi (x:=a+n) ⟨by omega,by omega⟩,wi ⟨by omega,by omega⟩]
 have w2:i64.wrap (n - 1)=n - 1:=wi ⟨by omega,by omega⟩
 have w3:i64.wrap (Int.tdiv (a+n - 1) 2)=Int.tdiv (a+n - 1) 2:=by
  have:(Int.tdiv (a+n - 1) 2).natAbs≤(a+n - 1).natAbs:=by rw [Int.natAbs_tdiv]; exact Nat.div_le_self _ _
  exact wi ⟨by omega,by omega⟩
 exact ⟨by decide,by rw [w1,w2,w3]; rfl⟩
end Go.Lift

namespace Go.Lift
open Go.Proofs
def Zwr:Cx:=⟨Z1p Z1x,Z1u [(102,Zeu)],SqG⟩
theorem Zli:CxOk Tryz.prog Zwr:=⟨Zl Zv,Zq ⟨Zou,trivial⟩⟩
def Zei:Con:=Con.nam [kWay,.int .i64] [.snap kWay] (fun x=>Z6z x.1 x.2.1) (fun x=>Ze4 x.1 x.2.1)
theorem Zt0:SqH Zei 177 :=
 nP Zli Z3 Zb nHn Tryz.func177 (fun x p=>Zfc  x.1 x.2.1 p) fun x h w=>Zvp  x.1 x.2.1 h w
def Zws:Cx:=addC 177 Zei Zwr
theorem Zlj:CxOk Tryz.prog Zws:=Zk Zli Zt0
def Z8t:Con:=Con.nam [kWay,kWay] [.snap kWay] (fun x=>Z10j x.1 x.2.1) (fun x=>Zuy x.1 x.2.1)
theorem Zfe:SqH Z8t 109 :=
 nP Zlj Z3 Zb nHn Tryz.func109 (fun x p=>Zho  x.1 x.2.1 p) fun x h w=>Zy4  x.1 x.2.1 h w
def Z1gb:Cx:=addC 109 Z8t Zws
theorem Z4u:CxOk Tryz.prog Z1gb:=Zk Zlj Zfe
def Zhp:Con:=Con.nam [kWay,kWay] [.snap (.int .i64)] (fun x=>WDot x.1 x.2.1) (fun x=>dotR x.1 x.2.1)
theorem Zy5:SqH Zhp 111 :=
 nP Z4u Z3 Zb nHn Tryz.func111 (fun x p=>Zjf  x.1 x.2.1 p) fun x h w=>Z120  x.1 x.2.1 h w
def Zej:Con:=Con.nam [Z1mh,.int .i64] [.snap kWay] (fun x=>WOut x.1 x.2.1) (fun x=>outR x.1 x.2.1)
theorem Zt1:SqH Zej 107 :=
 nP Z4u Z3 Zb nHn Tryz.func107 (fun x p=>Zfd  x.1 x.2.1 p) fun x h w=>Zvq  x.1 x.2.1 h w
def Zjh:Con:=Con.nam [kWay] [.snap (.int .i64)] (fun _=>True) (fun x=>Z14o x.1)
theorem Z121:SqH Zjh 106 :=
 nP Z4u Z3 Zb ({ loops:=Zw [(2,{ ls:=[(.slot 4,.data (.int .i64))],os:=[] })],joins:=fun _=>none,named:=true }) Tryz.func106 (fun x p=>Zlh 158 x.1 p) fun x _ w=>Z157 158 x.1 w
def Zox:Con:=Con.nam [.int .i64,.int .i64,.int .i64,.int .i64] [.snap (.int .i64)] (fun x=>IIII x.1 x.2.1 x.2.2.1 x.2.2.2.1) (fun x=>Zuz x.1 x.2.1 x.2.2.1 x.2.2.2.1)
theorem Z19p:SqH Zox 105 :=
 nP Z4u Z3 Zb nHn Tryz.func105 (fun x p=>Zsz  x.1 x.2.1 x.2.2.1 x.2.2.2.1 p) fun x h _=>Z1ef  x.1 x.2.1 x.2.2.1 x.2.2.2.1 h
def Zji:Con:=Con.nam [.int .i64,.int .i64,.int .i64,.int .i64] [.snap kWay] (fun x=>Z2u x.1 x.2.1 x.2.2.1 x.2.2.2.1) (fun x=>Zxx x.1 x.2.1 x.2.2.1 x.2.2.2.1)
theorem Z122:SqH Zji 108 :=
 nP Z4u Z3 Zb nHn Tryz.func108 (fun x p=>Zcj  x.1 x.2.1 x.2.2.1 x.2.2.2.1 p) fun x h _=>Z158  x.1 x.2.1 x.2.2.1 x.2.2.2.1 h
def Zlk:Con:=Con.nam [.int .i64,.int .i64] [.snap (.int .i64)] (fun x=>Z10l x.1 x.2.1) (fun x=>Z10k x.1 x.2.1)
theorem Z159:SqH Zlk 110 :=
 nP Z4u Z3 Zb nHn Tryz.func110 (fun x p=>Zow  x.1 x.2.1 p) fun x h _=>Z19o  x.1 x.2.1 h
end Go.Lift

namespace Go.Lift
open Go.Proofs
def Z1eg:Cx:=⟨Z1p Z1x,Z1u [(104,Z8q),(105,Zox),(107,Zej),(106,Zjh),(108,Zji),(109,Z8t),(111,Zhp),(110,Zlk)],SqG⟩
theorem Z123:CxOk Tryz.prog Z1eg:=⟨Zl Zv,Zq ⟨Zci,Z19p,Zt1,Z121,Z122,Zfe,Zy5,Z159,trivial⟩⟩
def Zb7:Con:=Con.nam [.int .i64,.int .i64,.int .i64] [.snap (.int .i64),.snap (.int .i64)] (fun x=>III x.1 x.2.1 x.2.2.1) (fun x=>Z56 x.1 x.2.1 x.2.2.1)
theorem Zjj:SqH Zb7 51 :=
 nP Z123 Z3 Zb ({ loops:=Zw [(13,{ ls:=[(.slot 98,.data (.int .i64))],os:=[] })],joins:=fun _=>none,named:=true }) Tryz.func51 (fun x p=>Zlg 154 160 158 x.1 x.2.1 x.2.2.1 p) fun x h _=>Z156 154 160 158 x.1 x.2.1 x.2.2.1 h
end Go.Lift

namespace Go.Lift
def Zoy:=fun (a b:Int) (post:Nat × Unit→Prop)=>∀ (a_1:Nat),FRes f64 (f64.format.div (f64.nearest a)
 (f64.nearest b)) a_1→post (a_1,())
theorem Z19q (a:Int) (b:Int) (h:Zha a b):Zoy  a b (fun r=>r=Z3q a b):=by
 intro r hr
 exact congrArg r1 (Z1hm h.1 h.2.1 h.2.2 hr)
def Z15a (ty166:Nat) (ty236:Nat) (s:Nat) (t:Nat):List HObj:=[HObj.box Md.rw ty166 [SV.val (Go.Value.float f64 (0:Nat)),SV.val (Go.Value.float f64 (0:Nat)),SV.val (Go.Value.float f64 (0:Nat))],HObj.row Md.rw ty236 (K.flt f64) ((List.replicate (3:Nat) (0:Nat)).set (Int.toNat (0:Int)) (Zp ([(4607182418800017408:Nat),s,t].getD (Int.toNat (0:Int)) (0:Nat))).1)]
def Z15b (ty166:Nat) (ty236:Nat) (s:Nat) (t:Nat):List HObj:=[HObj.box Md.rw ty166 [SV.val (Go.Value.float f64 (0:Nat)),SV.val (Go.Value.float f64 (0:Nat)),SV.val (Go.Value.float f64 (0:Nat))],HObj.row Md.rw ty236 (K.flt f64) ((List.replicate (3:Nat) (0:Nat)).set (Int.toNat (0:Int)) (Zp (Go.Op.negFloat f64 ([(4607182418800017408:Nat),s,t].getD (Int.toNat (0:Int)) (0:Nat)))).1)]
def Z15c (ty166:Nat) (ty236:Nat):List HObj:=[HObj.box Md.rw ty166 [SV.val (Go.Value.float f64 (0:Nat)),SV.val (Go.Value.float f64 (0:Nat)),SV.val (Go.Value.float f64 (0:Nat))],HObj.row Md.rw ty236 (K.flt f64) (List.replicate (3:Nat) (0:Nat))]
def Z15d (ty166:Nat) (ty236:Nat) (y:List Nat × Unit) (s:Nat) (t:Nat):List HObj:=[HObj.box Md.rw ty166 [SV.val (Go.Value.float f64 (0:Nat)),SV.val (Go.Value.float f64 (0:Nat)),SV.val (Go.Value.float f64 (0:Nat))],HObj.row Md.rw ty236 (K.flt f64) (y.1.set (Int.toNat (0:Int)) (Zp ([(4607182418800017408:Nat),s,t].getD (i64.wrap ((0:Int)+(1:Int))).toNat (0:Nat))).1)]
def Z15e (ty166:Nat) (ty236:Nat) (y:List Nat × Unit) (s:Nat) (t:Nat):List HObj:=[HObj.box Md.rw ty166 [SV.val (Go.Value.float f64 (0:Nat)),SV.val (Go.Value.float f64 (0:Nat)),SV.val (Go.Value.float f64 (0:Nat))],HObj.row Md.rw ty236 (K.flt f64) (y.1.set (Int.toNat (0:Int)) (Zp (Go.Op.negFloat f64 ([(4607182418800017408:Nat),s,t].getD (i64.wrap ((0:Int)+(1:Int))).toNat (0:Nat)))).1)]
def Z3b (ty166:Nat) (ty236:Nat) (y:List Nat × Unit):List HObj:=[HObj.box Md.rw ty166 [SV.val (Go.Value.float f64 (0:Nat)),SV.val (Go.Value.float f64 (0:Nat)),SV.val (Go.Value.float f64 (0:Nat))],HObj.row Md.rw ty236 (K.flt f64) y.1]
def Z15f (ty166:Nat) (ty236:Nat) (y:List Nat × Unit) (s:Nat) (t:Nat):List HObj:=[HObj.box Md.rw ty166 [SV.val (Go.Value.float f64 (0:Nat)),SV.val (Go.Value.float f64 (0:Nat)),SV.val (Go.Value.float f64 (0:Nat))],HObj.row Md.rw ty236 (K.flt f64) (y.1.set (Int.toNat (0:Int)) (Zp ([(4607182418800017408:Nat),s,t].getD (i64.wrap (i64.wrap ((0:Int)+(1:Int))+(1:Int))).toNat (0:Nat))).1)]
def Z15g (ty166:Nat) (ty236:Nat) (y:List Nat × Unit) (s:Nat) (t:Nat):List HObj:=[HObj.box Md.rw ty166 [SV.val (Go.Value.float f64 (0:Nat)),SV.val (Go.Value.float f64 (0:Nat)),SV.val (Go.Value.float f64 (0:Nat))],HObj.row Md.rw ty236 (K.flt f64) (y.1.set (Int.toNat (0:Int)) (Zp (Go.Op.negFloat f64 ([(4607182418800017408:Nat),s,t].getD (i64.wrap (i64.wrap ((0:Int)+(1:Int))+(1:Int))).toNat (0:Nat)))).1)]
def Z15h (ty166:Nat) (ty236:Nat) (y:List Nat × Unit) (s:Nat) (t:Nat):List HObj:=[HObj.box Md.rw ty166 [SV.val (Go.Value.float f64 (0:Nat)),SV.val (Go.Value.float f64 (0:Nat)),SV.val (Go.Value.float f64 (0:Nat))],HObj.row Md.rw ty236 (K.flt f64) (y.1.set (i64.wrap ((0:Int)+(1:Int))).toNat (Zp ([(4607182418800017408:Nat),s,t].getD (Int.toNat (0:Int)) (0:Nat))).1)]
def Z15i (ty166:Nat) (ty236:Nat) (y:List Nat × Unit) (s:Nat) (t:Nat):List HObj:=[HObj.box Md.rw ty166 [SV.val (Go.Value.float f64 (0:Nat)),SV.val (Go.Value.float f64 (0:Nat)),SV.val (Go.Value.float f64 (0:Nat))],HObj.row Md.rw ty236 (K.flt f64) (y.1.set (i64.wrap ((0:Int)+(1:Int))).toNat (Zp (Go.Op.negFloat f64 ([(4607182418800017408:Nat),s,t].getD (Int.toNat (0:Int)) (0:Nat)))).1)]
def Z124 (ty166:Nat) (ty236:Nat) (y:List Nat × Unit) (s:Nat) (t:Nat):List HObj:=[HObj.box Md.rw ty166 [SV.val (Go.Value.float f64 (0:Nat)),SV.val (Go.Value.float f64 (0:Nat)),SV.val (Go.Value.float f64 (0:Nat))],HObj.row Md.rw ty236 (K.flt f64) (y.1.set (i64.wrap ((0:Int)+(1:Int))).toNat (Zp ([(4607182418800017408:Nat),s,t].getD (i64.wrap ((0:Int)+(1:Int))).toNat (0:Nat))).1)]
def Z125 (ty166:Nat) (ty236:Nat) (y:List Nat × Unit) (s:Nat) (t:Nat):List HObj:=[HObj.box Md.rw ty166 [SV.val (Go.Value.float f64 (0:Nat)),SV.val (Go.Value.float f64 (0:Nat)),SV.val (Go.Value.float f64 (0:Nat))],HObj.row Md.rw ty236 (K.flt f64) (y.1.set (i64.wrap ((0:Int)+(1:Int))).toNat (Zp (Go.Op.negFloat f64 ([(4607182418800017408:Nat),s,t].getD (i64.wrap ((0:Int)+(1:Int))).toNat (0:Nat)))).1)]
def Z126 (ty166:Nat) (ty236:Nat) (y:List Nat × Unit) (s:Nat) (t:Nat):List HObj:=[HObj.box Md.rw ty166 [SV.val (Go.Value.float f64 (0:Nat)),SV.val (Go.Value.float f64 (0:Nat)),SV.val (Go.Value.float f64 (0:Nat))],HObj.row Md.rw ty236 (K.flt f64) (y.1.set (i64.wrap ((0:Int)+(1:Int))).toNat (Zp ([(4607182418800017408:Nat),s,t].getD (i64.wrap (i64.wrap ((0:Int)+(1:Int))+(1:Int))).toNat (0:Nat))).1)]
def Z127 (ty166:Nat) (ty236:Nat) (y:List Nat × Unit) (s:Nat) (t:Nat):List HObj:=[HObj.box Md.rw ty166 [SV.val (Go.Value.float f64 (0:Nat)),SV.val (Go.Value.float f64 (0:Nat)),SV.val (Go.Value.float f64 (0:Nat))],HObj.row Md.rw ty236 (K.flt f64) (y.1.set (i64.wrap ((0:Int)+(1:Int))).toNat (Zp (Go.Op.negFloat f64 ([(4607182418800017408:Nat),s,t].getD (i64.wrap (i64.wrap ((0:Int)+(1:Int))+(1:Int))).toNat (0:Nat)))).1)]
def Z128 (ty166:Nat) (ty236:Nat) (y:List Nat × Unit) (s:Nat) (t:Nat):List HObj:=[HObj.box Md.rw ty166 [SV.val (Go.Value.float f64 (0:Nat)),SV.val (Go.Value.float f64 (0:Nat)),SV.val (Go.Value.float f64 (0:Nat))],HObj.row Md.rw ty236 (K.flt f64) (y.1.set (i64.wrap (i64.wrap ((0:Int)+(1:Int))+(1:Int))).toNat (Zp ([(4607182418800017408:Nat),s,t].getD (Int.toNat (0:Int)) (0:Nat))).1)]
def Z129 (ty166:Nat) (ty236:Nat) (y:List Nat × Unit) (s:Nat) (t:Nat):List HObj:=[HObj.box Md.rw ty166 [SV.val (Go.Value.float f64 (0:Nat)),SV.val (Go.Value.float f64 (0:Nat)),SV.val (Go.Value.float f64 (0:Nat))],HObj.row Md.rw ty236 (K.flt f64) (y.1.set (i64.wrap (i64.wrap ((0:Int)+(1:Int))+(1:Int))).toNat (Zp (Go.Op.negFloat f64 ([(4607182418800017408:Nat),s,t].getD (Int.toNat (0:Int)) (0:Nat)))).1)]
def Z12a (ty166:Nat) (ty236:Nat) (y:List Nat × Unit) (s:Nat) (t:Nat):List HObj:=[HObj.box Md.rw ty166 [SV.val (Go.Value.float f64 (0:Nat)),SV.val (Go.Value.float f64 (0:Nat)),SV.val (Go.Value.float f64 (0:Nat))],HObj.row Md.rw ty236 (K.flt f64) (y.1.set (i64.wrap (i64.wrap ((0:Int)+(1:Int))+(1:Int))).toNat (Zp ([(4607182418800017408:Nat),s,t].getD (i64.wrap ((0:Int)+(1:Int))).toNat (0:Nat))).1)]
def Z12b (ty166:Nat) (ty236:Nat) (y:List Nat × Unit) (s:Nat) (t:Nat):List HObj:=[HObj.box Md.rw ty166 [SV.val (Go.Value.float f64 (0:Nat)),SV.val (Go.Value.float f64 (0:Nat)),SV.val (Go.Value.float f64 (0:Nat))],HObj.row Md.rw ty236 (K.flt f64) (y.1.set (i64.wrap (i64.wrap ((0:Int)+(1:Int))+(1:Int))).toNat (Zp (Go.Op.negFloat f64 ([(4607182418800017408:Nat),s,t].getD (i64.wrap ((0:Int)+(1:Int))).toNat (0:Nat)))).1)]
def Z12c (ty166:Nat) (ty236:Nat) (y:List Nat × Unit) (s:Nat) (t:Nat):List HObj:=[HObj.box Md.rw ty166 [SV.val (Go.Value.float f64 (0:Nat)),SV.val (Go.Value.float f64 (0:Nat)),SV.val (Go.Value.float f64 (0:Nat))],HObj.row Md.rw ty236 (K.flt f64) (y.1.set (i64.wrap (i64.wrap ((0:Int)+(1:Int))+(1:Int))).toNat (Zp ([(4607182418800017408:Nat),s,t].getD (i64.wrap (i64.wrap ((0:Int)+(1:Int))+(1:Int))).toNat (0:Nat))).1)]
def Z12d (ty166:Nat) (ty236:Nat) (y:List Nat × Unit) (s:Nat) (t:Nat):List HObj:=[HObj.box Md.rw ty166 [SV.val (Go.Value.float f64 (0:Nat)),SV.val (Go.Value.float f64 (0:Nat)),SV.val (Go.Value.float f64 (0:Nat))],HObj.row Md.rw ty236 (K.flt f64) (y.1.set (i64.wrap (i64.wrap ((0:Int)+(1:Int))+(1:Int))).toNat (Zp (Go.Op.negFloat f64 ([(4607182418800017408:Nat),s,t].getD (i64.wrap (i64.wrap ((0:Int)+(1:Int))+(1:Int))).toNat (0:Nat)))).1)]
def Zoz:=fun (ty166 ty236:Nat) (f:Int) (s t:Nat) (post:(Nat × Nat × Nat) × Unit→Prop)=>∃ (post_1:Unit→List Nat × Unit→Prop),(∃ (h:(0:Int)≤(0 :
 Int)∧(0:Int)<(↑(3:Nat):Int)),∃ (h:(0:Int)≤f∧f<(↑(6:Nat):Int)),∃ (h:(0:Int)≤(0:Int)∧(0:Int)<(↑(3:Nat):Int)),∃ (h:(0:Int)≤(0 :
 Int)∧(0:Int)<(↑(3:Nat):Int)),Br (List.getD (List.getD (Zm.getD f.toNat (K.arr (3:Nat) (K.arr (3:Nat) (K.int i64))).dflt) (Int.toNat (0:Int)) (K.arr
 (3:Nat) (K.int i64)).dflt) (Int.toNat (0:Int)) (0:Int)==(1:Int)) (∃ (h:True),∃ (h:(0:Int)≤(0:Int)∧(0:Int)<(↑(3:Nat):Int)∧(3:Nat) ≤
 (List.replicate (3:Nat) (0:Nat)).length),HS (Z15a ty166 ty236 s t)∧post_1 () ((List.replicate (3:Nat) (0:Nat)).set (Int.toNat (0:Int)) (Zp
 ([(4607182418800017408:Nat),s,t].getD (Int.toNat (0:Int)) (0:Nat))).1,())) (Br (List.getD (List.getD (Zm.getD f.toNat (K.arr (3:Nat) (K.arr (3:Nat) (K.int
 i64))).dflt) (Int.toNat (0:Int)) (K.arr (3:Nat) (K.int i64)).dflt) (Int.toNat (0:Int)) (0:Int)==(-1:Int)) (∃ (h:True),∃ (h:(0:Int)≤(0:Int) ∧
 (0:Int)<(↑(3:Nat):Int)∧(3:Nat)≤(List.replicate (3:Nat) (0:Nat)).length),HS (Z15b ty166 ty236 s t)∧post_1 () ((List.replicate (3:Nat) (0 :
 Nat)).set (Int.toNat (0:Int)) (Zp (Go.Op.negFloat f64 ([(4607182418800017408:Nat),s,t].getD (Int.toNat (0:Int)) (0:Nat)))).1,())) (HS (Z15c
 ty166 ty236)∧post_1 () (List.replicate (3:Nat) (0:Nat),()))))∧∀ (x:Unit) (y:List Nat × Unit),post_1 x y→∃ (post_2:Unit→List Nat × Unit→Prop),(∃ (h:(0 :
 Int)≤i64.wrap ((0:Int)+(1:Int))∧i64.wrap ((0:Int)+(1:Int))<(↑(3:Nat):Int)),∃ (h:(0:Int)≤f∧f<(↑(6:Nat):Int)),∃ (h:(0:Int)
 ≤ i64.wrap ((0:Int)+(1:Int))∧i64.wrap ((0:Int)+(1:Int))<(↑(3:Nat):Int)),∃ (h:(0:Int)≤(0:Int)∧(0:Int)<(↑(3:Nat):Int)),Br
 (List.getD (List.getD (Zm.getD f.toNat (K.arr (3:Nat) (K.arr (3:Nat) (K.int i64))).dflt) (i64.wrap ((0:Int)+(1:Int))).toNat (K.arr (3:Nat) (K.int
 i64)).dflt) (Int.toNat (0:Int)) (0:Int)==(1:Int)) (∃ (h:True),∃ (h:(0:Int)≤(0:Int)∧(0:Int)<(↑(3:Nat):Int)∧(3:Nat)≤y.1.length),HS
 (Z15d ty166 ty236 y s t)∧post_2 () (y.1.set (Int.toNat (0:Int)) (Zp ([(4607182418800017408:Nat),s,t].getD (i64.wrap ((0:Int)+(1:Int))).toNat (0
 : Nat))).1,())) (Br (List.getD (List.getD (Zm.getD f.toNat (K.arr (3:Nat) (K.arr (3:Nat) (K.int i64))).dflt) (i64.wrap ((0:Int)+(1:Int))).toNat
 (K.arr (3:Nat) (K.int i64)).dflt) (Int.toNat (0:Int)) (0:Int)==(-1:Int)) (∃ (h:True),∃ (h:(0:Int)≤(0:Int)∧(0:Int)<(↑(3:Nat):Int)∧(3:Nat)
 ≤ y.1.length),HS (Z15e ty166 ty236 y s t)∧post_2 () (y.1.set (Int.toNat (0:Int)) (Zp (Go.Op.negFloat f64 ([(4607182418800017408:Nat),s,t].getD
 (i64.wrap ((0:Int)+(1:Int))).toNat (0:Nat)))).1,())) (HS (Z3b ty166 ty236 y)∧post_2 () (y.1,()))))∧∀ (x:Unit) (y:List Nat × Unit),post_2 x y
 → ∃ (post_3:Unit→List Nat × Unit→Prop),(∃ (h:(0:Int)≤i64.wrap (i64.wrap ((0:Int)+(1:Int))+(1:Int))∧i64.wrap (i64.wrap ((0
 : Int)+(1:Int))+(1:Int))<(↑(3:Nat):Int)),∃ (h:(0:Int)≤f∧f<(↑(6:Nat):Int)),∃ (h:(0:Int)≤i64.wrap (i64.wrap ((0:Int)+(1 :
 Int))+(1:Int))∧i64.wrap (i64.wrap ((0:Int)+(1:Int))+(1:Int))<(↑(3:Nat):Int)),∃ (h:(0:Int)≤(0:Int)∧(0:Int)<(↑(3:Nat):Int)),
 Br (List.getD (List.getD (Zm.getD f.toNat (K.arr (3:Nat) (K.arr (3:Nat) (K.int i64))).dflt) (i64.wrap (i64.wrap ((0:Int)+(1:Int))+(1 :
 Int))).toNat (K.arr (3:Nat) (K.int i64)).dflt) (Int.toNat (0:Int)) (0:Int)==(1:Int)) (∃ (h:True),∃ (h:(0:Int)≤(0:Int)∧(0:Int)<(↑(3:Nat):Int)
 ∧ (3:Nat)≤y.1.length),HS (Z15f ty166 ty236 y s t)∧post_3 () (y.1.set (Int.toNat (0:Int)) (Zp ([(4607182418800017408:Nat),s,t].getD (i64.wrap
 (i64.wrap ((0:Int)+(1:Int))+(1:Int))).toNat (0:Nat))).1,())) (Br (List.getD (List.getD (Zm.getD f.toNat (K.arr (3:Nat) (K.arr (3:Nat) (K.int
 i64))).dflt) (i64.wrap (i64.wrap ((0:Int)+(1:Int))+(1:Int))).toNat (K.arr (3:Nat) (K.int i64)).dflt) (Int.toNat (0:Int)) (0:Int) ==
 (-1:Int)) (∃ (h:True),∃ (h:(0:Int)≤(0:Int)∧(0:Int)<(↑(3:Nat):Int)∧(3:Nat)≤y.1.length),HS (Z15g ty166 ty236 y s t)∧post_3 () (y.1.set
 (Int.toNat (0:Int)) (Zp (Go.Op.negFloat f64 ([(4607182418800017408:Nat),s,t].getD (i64.wrap (i64.wrap ((0:Int)+(1:Int))+(1 :
 Int))).toNat (0:Nat)))).1,())) (HS (Z3b ty166 ty236 y)∧post_3 () (y.1,()))))∧∀ (x:Unit) (y:List Nat × Unit),post_3 x y→∃ (post_4:Unit→List Nat × Unit
 → Prop),(∃ (h:(0:Int)≤(0:Int)∧(0:Int)<(↑(3:Nat):Int)),∃ (h:(0:Int)≤f∧f<(↑(6:Nat):Int)),∃ (h:(0:Int)≤(0:Int)∧(0:Int)<(↑(3:Nat) :
 Int)),∃ (h:(0:Int)≤i64.wrap ((0:Int)+(1:Int))∧i64.wrap ((0:Int)+(1:Int))<(↑(3:Nat):Int)),Br (List.getD (List.getD (Zm.getD f.toNat
 (K.arr (3:Nat) (K.arr (3:Nat) (K.int i64))).dflt) (Int.toNat (0:Int)) (K.arr (3:Nat) (K.int i64)).dflt) (i64.wrap ((0:Int)+(1:Int))).toNat (0
 : Int)==(1:Int)) (∃ (h:True),∃ (h:(0:Int)≤i64.wrap ((0:Int)+(1:Int))∧i64.wrap ((0:Int)+(1:Int))<(↑(3:Nat):Int)∧(3:Nat) ≤
 y.1.length),HS (Z15h ty166 ty236 y s t)∧post_4 () (y.1.set (i64.wrap ((0:Int)+(1:Int))).toNat (Zp ([(4607182418800017408:Nat),s,t].getD
 (Int.toNat (0:Int)) (0:Nat))).1,())) (Br (List.getD (List.getD (Zm.getD f.toNat (K.arr (3:Nat) (K.arr (3:Nat) (K.int i64))).dflt) (Int.toNat (0:Int))
 (K.arr (3:Nat) (K.int i64)).dflt) (i64.wrap ((0:Int)+(1:Int))).toNat (0:Int)==(-1:Int)) (∃ (h:True),∃ (h:(0:Int)≤i64.wrap ((0:Int)
 + (1:Int))∧i64.wrap ((0:Int)+(1:Int))<(↑(3:Nat):Int)∧(3:Nat)≤y.1.length),HS (Z15i ty166 ty236 y s t)∧post_4 () (y.1.set
 (i64.wrap ((0:Int)+(1:Int))).toNat (Zp (Go.Op.negFloat f64 ([(4607182418800017408:Nat),s,t].getD (Int.toNat (0:Int)) (0:Nat)))).1,())) (HS
 (Z3b ty166 ty236 y)∧post_4 () (y.1,()))))∧∀ (x:Unit) (y:List Nat × Unit),post_4 x y→∃ (post_5:Unit→List Nat × Unit→Prop),(∃ (h:(0:Int) ≤
 i64.wrap ((0:Int)+(1:Int))∧i64.wrap ((0:Int)+(1:Int))<(↑(3:Nat):Int)),∃ (h:(0:Int)≤f∧f<(↑(6:Nat):Int)),∃ (h:(0:Int) ≤
 i64.wrap ((0:Int)+(1:Int))∧i64.wrap ((0:Int)+(1:Int))<(↑(3:Nat):Int)),∃ (h:(0:Int)≤i64.wrap ((0:Int)+(1:Int)) ∧
 i64.wrap ((0:Int)+(1:Int))<(↑(3:Nat):Int)),Br (List.getD (List.getD (Zm.getD f.toNat (K.arr (3:Nat) (K.arr (3:Nat) (K.int i64))).dflt)
 (i64.wrap ((0:Int)+(1:Int))).toNat (K.arr (3:Nat) (K.int i64)).dflt) (i64.wrap ((0:Int)+(1:Int))).toNat (0:Int)==(1:Int)) (∃ (h :
 True),∃ (h:(0:Int)≤i64.wrap ((0:Int)+(1:Int))∧i64.wrap ((0:Int)+(1:Int))<(↑(3:Nat):Int)∧(3:Nat)≤y.1.length),HS (Z124
 ty166 ty236 y s t)∧post_5 () (y.1.set (i64.wrap ((0:Int)+(1:Int))).toNat (Zp ([(4607182418800017408:Nat),s,t].getD (i64.wrap ((0:Int)+(1 :
 Int))).toNat (0:Nat))).1,())) (Br (List.getD (List.getD (Zm.getD f.toNat (K.arr (3:Nat) (K.arr (3:Nat) (K.int i64))).dflt) (i64.wrap ((0:Int)+(1 :
 Int))).toNat (K.arr (3:Nat) (K.int i64)).dflt) (i64.wrap ((0:Int)+(1:Int))).toNat (0:Int)==(-1:Int)) (∃ (h:True),∃ (h:(0:Int) ≤
 i64.wrap ((0:Int)+(1:Int))∧i64.wrap ((0:Int)+(1:Int))<(↑(3:Nat):Int)∧(3:Nat)≤y.1.length),HS (Z125 ty166 ty236 y s t)∧post_5
 () (y.1.set (i64.wrap ((0:Int)+(1:Int))).toNat (Zp (Go.Op.negFloat f64 ([(4607182418800017408:Nat),s,t].getD (i64.wrap ((0:Int)+(1 :
 Int))).toNat (0:Nat)))).1,())) (HS (Z3b ty166 ty236 y)∧post_5 () (y.1,()))))∧∀ (x:Unit) (y:List Nat × Unit),post_5 x y→∃ (post_6:Unit→List Nat × Unit
 → Prop),(∃ (h:(0:Int)≤i64.wrap (i64.wrap ((0:Int)+(1:Int))+(1:Int))∧i64.wrap (i64.wrap ((0:Int)+(1:Int))+(1:Int)) <
 (↑(3:Nat):Int)),∃ (h:(0:Int)≤f∧f<(↑(6:Nat):Int)),∃ (h:(0:Int)≤i64.wrap (i64.wrap ((0:Int)+(1:Int))+(1:Int))∧i64.wrap
 (i64.wrap ((0:Int)+(1:Int))+(1:Int))<(↑(3:Nat):Int)),∃ (h:(0:Int)≤i64.wrap ((0:Int)+(1:Int))∧i64.wrap ((0:Int)+(1 :
 Int))<(↑(3:Nat):Int)),Br (List.getD (List.getD (Zm.getD f.toNat (K.arr (3:Nat) (K.arr (3:Nat) (K.int i64))).dflt) (i64.wrap (i64.wrap ((0 :
 Int)+(1:Int))+(1:Int))).toNat (K.arr (3:Nat) (K.int i64)).dflt) (i64.wrap ((0:Int)+(1:Int))).toNat (0:Int)==(1:Int)) (∃ (h:True),∃ (h:(0
 : Int)≤i64.wrap ((0:Int)+(1:Int))∧i64.wrap ((0:Int)+(1:Int))<(↑(3:Nat):Int)∧(3:Nat)≤y.1.length),HS (Z126 ty166 ty236 y s t)
 ∧ post_6 () (y.1.set (i64.wrap ((0:Int)+(1:Int))).toNat (Zp ([(4607182418800017408:Nat),s,t].getD (i64.wrap (i64.wrap ((0:Int)+(1:Int))
 + (1:Int))).toNat (0:Nat))).1,())) (Br (List.getD (List.getD (Zm.getD f.toNat (K.arr (3:Nat) (K.arr (3:Nat) (K.int i64))).dflt) (i64.wrap
 (i64.wrap ((0:Int)+(1:Int))+(1:Int))).toNat (K.arr (3:Nat) (K.int i64)).dflt) (i64.wrap ((0:Int)+(1:Int))).toNat (0:Int)==(-1:Int))
 (∃ (h:True),∃ (h:(0:Int)≤i64.wrap ((0:Int)+(1:Int))∧i64.wrap ((0:Int)+(1:Int))<(↑(3:Nat):Int)∧(3:Nat)≤y.1.length),HS
 (Z127 ty166 ty236 y s t)∧post_6 () (y.1.set (i64.wrap ((0:Int)+(1:Int))).toNat (Zp (Go.Op.negFloat f64 ([(4607182418800017408:Nat),
 s,t].getD (i64.wrap (i64.wrap ((0:Int)+(1:Int))+(1:Int))).toNat (0:Nat)))).1,())) (HS (Z3b ty166 ty236 y)∧post_6 () (y.1,()))))∧∀ (x
 : Unit) (y:List Nat × Unit),post_6 x y→∃ (post_7:Unit→List Nat × Unit→Prop),(∃ (h:(0:Int)≤(0:Int)∧(0:Int)<(↑(3:Nat):Int)),∃ (h:(0:Int)≤f∧f <
 (↑(6:Nat):Int)),∃ (h:(0:Int)≤(0:Int)∧(0:Int)<(↑(3:Nat):Int)),∃ (h:(0:Int)≤i64.wrap (i64.wrap ((0:Int)+(1:Int))+(1:Int)) ∧
 i64.wrap (i64.wrap ((0:Int)+(1:Int))+(1:Int))<(↑(3:Nat):Int)),Br (List.getD (List.getD (Zm.getD f.toNat (K.arr (3:Nat) (K.arr (3:Nat)
 (K.int i64))).dflt) (Int.toNat (0:Int)) (K.arr (3:Nat) (K.int i64)).dflt) (i64.wrap (i64.wrap ((0:Int)+(1:Int))+(1:Int))).toNat (0 :
 Int)==(1:Int)) (∃ (h:True),∃ (h:(0:Int)≤i64.wrap (i64.wrap ((0:Int)+(1:Int))+(1:Int))∧i64.wrap (i64.wrap ((0:Int)+(1 :
 Int))+(1:Int))<(↑(3:Nat):Int)∧(3:Nat)≤y.1.length),HS (Z128 ty166 ty236 y s t)∧post_7 () (y.1.set (i64.wrap (i64.wrap ((0:Int)+(1
 : Int))+(1:Int))).toNat (Zp ([(4607182418800017408:Nat),s,t].getD (Int.toNat (0:Int)) (0:Nat))).1,())) (Br (List.getD (List.getD (Zm.getD f.toNat (K.arr (3 :
 Nat) (K.arr (3:Nat) (K.int i64))).dflt) (Int.toNat (0:Int)) (K.arr (3:Nat) (K.int i64)).dflt) (i64.wrap (i64.wrap ((0:Int)+(1:Int)) +
 (1:Int))).toNat (0:Int)==(-1:Int)) (∃ (h:True),∃ (h:(0:Int)≤i64.wrap (i64.wrap ((0:Int)+(1:Int))+(1:Int))∧i64.wrap
 (i64.wrap ((0:Int)+(1:Int))+(1:Int))<(↑(3:Nat):Int)∧(3:Nat)≤y.1.length),HS (Z129 ty166 ty236 y s t)∧post_7 () (y.1.set
 (i64.wrap (i64.wrap ((0:Int)+(1:Int))+(1:Int))).toNat (Zp (Go.Op.negFloat f64 ([(4607182418800017408:Nat),s,t].getD (Int.toNat (0 :
 Int)) (0:Nat)))).1,())) (HS (Z3b ty166 ty236 y)∧post_7 () (y.1,()))))∧∀ (x:Unit) (y:List Nat × Unit),post_7 x y→∃ (post_8:Unit→List Nat × Unit →
 Prop),(∃ (h:(0:Int)≤i64.wrap ((0:Int)+(1:Int))∧i64.wrap ((0:Int)+(1:Int))<(↑(3:Nat):Int)),∃ (h:(0:Int)≤f∧f<(↑(6:Nat) :
 Int)),∃ (h:(0:Int)≤i64.wrap ((0:Int)+(1:Int))∧i64.wrap ((0:Int)+(1:Int))<(↑(3:Nat):Int)),∃ (h:(0:Int)≤i64.wrap
 (i64.wrap ((0:Int)+(1:Int))+(1:Int))∧i64.wrap (i64.wrap ((0:Int)+(1:Int))+(1:Int))<(↑(3:Nat):Int)),Br (List.getD (List.getD
 (Zm.getD f.toNat (K.arr (3:Nat) (K.arr (3:Nat) (K.int i64))).dflt) (i64.wrap ((0:Int)+(1:Int))).toNat (K.arr (3:Nat) (K.int i64)).dflt)
 (i64.wrap (i64.wrap ((0:Int)+(1:Int))+(1:Int))).toNat (0:Int)==(1:Int)) (∃ (h:True),∃ (h:(0:Int)≤i64.wrap (i64.wrap ((0 :
 Int)+(1:Int))+(1:Int))∧i64.wrap (i64.wrap ((0:Int)+(1:Int))+(1:Int))<(↑(3:Nat):Int)∧(3:Nat)≤y.1.length),HS (Z12a ty166
 ty236 y s t)∧post_8 () (y.1.set (i64.wrap (i64.wrap ((0:Int)+(1:Int))+(1:Int))).toNat (Zp ([(4607182418800017408:Nat),s,t].getD
 (i64.wrap ((0:Int)+(1:Int))).toNat (0:Nat))).1,())) (Br (List.getD (List.getD (Zm.getD f.toNat (K.arr (3:Nat) (K.arr (3:Nat) (K.int i64))).dflt)
 (i64.wrap ((0:Int)+(1:Int))).toNat (K.arr (3:Nat) (K.int i64)).dflt) (i64.wrap (i64.wrap ((0:Int)+(1:Int))+(1:Int))).toNat (0 :
 Int)==(-1:Int)) (∃ (h:True),∃ (h:(0:Int)≤i64.wrap (i64.wrap ((0:Int)+(1:Int))+(1:Int))∧i64.wrap (i64.wrap ((0:Int)+(1
 : Int))+(1:Int))<(↑(3:Nat):Int)∧(3:Nat)≤y.1.length),HS (Z12b ty166 ty236 y s t)∧post_8 () (y.1.set (i64.wrap (i64.wrap ((0:Int) +
 (1:Int))+(1:Int))).toNat (Zp (Go.Op.negFloat f64 ([(4607182418800017408:Nat),s,t].getD (i64.wrap ((0:Int)+(1:Int))).toNat (0:Nat)))).1,
 ())) (HS (Z3b ty166 ty236 y)∧post_8 () (y.1,()))))∧∀ (x:Unit) (y:List Nat × Unit),post_8 x y→∃ (post_9:Unit→List Nat × Unit→Prop),(∃ (h:(0:Int) ≤
 i64.wrap (i64.wrap ((0:Int)+(1:Int))+(1:Int))∧i64.wrap (i64.wrap ((0:Int)+(1:Int))+(1:Int))<(↑(3:Nat):Int)),∃ (h:(0
 : Int)≤f∧f<(↑(6:Nat):Int)),∃ (h:(0:Int)≤i64.wrap (i64.wrap ((0:Int)+(1:Int))+(1:Int))∧i64.wrap (i64.wrap ((0:Int) +
 (1:Int))+(1:Int))<(↑(3:Nat):Int)),∃ (h:(0:Int)≤i64.wrap (i64.wrap ((0:Int)+(1:Int))+(1:Int))∧i64.wrap (i64.wrap ((0
 : Int)+(1:Int))+(1:Int))<(↑(3:Nat):Int)),Br (List.getD (List.getD (Zm.getD f.toNat (K.arr (3:Nat) (K.arr (3:Nat) (K.int i64))).dflt)
 (i64.wrap (i64.wrap ((0:Int)+(1:Int))+(1:Int))).toNat (K.arr (3:Nat) (K.int i64)).dflt) (i64.wrap (i64.wrap ((0:Int)+(1 :
 Int))+(1:Int))).toNat (0:Int)==(1:Int)) (∃ (h:True),∃ (h:(0:Int)≤i64.wrap (i64.wrap ((0:Int)+(1:Int))+(1:Int))∧i64.wrap
 (i64.wrap ((0:Int)+(1:Int))+(1:Int))<(↑(3:Nat):Int)∧(3:Nat)≤y.1.length),HS (Z12c ty166 ty236 y s t)∧post_9 () (y.1.set
 (i64.wrap (i64.wrap ((0:Int)+(1:Int))+(1:Int))).toNat (Zp ([(4607182418800017408:Nat),s,t].getD (i64.wrap (i64.wrap ((0:Int) +
 (1:Int))+(1:Int))).toNat (0:Nat))).1,())) (Br (List.getD (List.getD (Zm.getD f.toNat (K.arr (3:Nat) (K.arr (3:Nat) (K.int i64))).dflt) (i64.wrap
 (i64.wrap ((0:Int)+(1:Int))+(1:Int))).toNat (K.arr (3:Nat) (K.int i64)).dflt) (i64.wrap (i64.wrap ((0:Int)+(1:Int))+(1 :
 Int))).toNat (0:Int)==(-1:Int)) (∃ (h:True),∃ (h:(0:Int)≤i64.wrap (i64.wrap ((0:Int)+(1:Int))+(1:Int))∧i64.wrap
 (i64.wrap ((0:Int)+(1:Int))+(1:Int))<(↑(3:Nat):Int)∧(3:Nat)≤y.1.length),HS (Z12d ty166 ty236 y s t)∧post_9 () (y.1.set
 (i64.wrap (i64.wrap ((0:Int)+(1:Int))+(1:Int))).toNat (Zp (Go.Op.negFloat f64 ([(4607182418800017408:Nat),s,t].getD
 (i64.wrap (i64.wrap ((0:Int)+(1:Int))+(1:Int))).toNat (0:Nat)))).1,())) (HS (Z3b ty166 ty236 y)∧post_9 () (y.1,()))))∧∀ (x:Unit) (y
 : List Nat × Unit),post_9 x y→∃ (h:(0:Int)≤(0:Int)∧(0:Int)<(↑(3:Nat):Int)∧(3:Nat)≤y.1.length),∃ (h:(0:Int)≤(1:Int)∧(1:Int)<(↑(3:Nat) :
 Int)∧(3:Nat)≤y.1.length),∃ (h:(0:Int)≤(2:Int)∧(2:Int)<(↑(3:Nat):Int)∧(3:Nat)≤y.1.length),∃ (h:WV (y.1.getD (Int.toNat (0:Int)) (0:Nat),
 y.1.getD (Int.toNat (1:Int)) (0:Nat),y.1.getD (Int.toNat (2:Int)) (0:Nat))),post (((Z10b (y.1.getD (Int.toNat (0:Int)) (0:Nat),y.1.getD (Int.toNat (1:Int)) (0 :
 Nat),y.1.getD (Int.toNat (2:Int)) (0:Nat))).1.1,(Z10b (y.1.getD (Int.toNat (0:Int)) (0:Nat),y.1.getD (Int.toNat (1:Int)) (0:Nat),y.1.getD (Int.toNat (2:Int)) (0
 : Nat))).1.2.1,(Z10b (y.1.getD (Int.toNat (0:Int)) (0:Nat),y.1.getD (Int.toNat (1:Int)) (0:Nat),y.1.getD (Int.toNat (2:Int)) (0:Nat))).1.2.2),())
theorem Z19r (ty0 ty1:Nat) (f:Int) (s:Nat) (t:Nat) (h:Z10d f s t):Zoz ty0 ty1 f s t (fun r=>r=Zdz f s t):=by
 obtain ⟨f0,f5,hs,ht⟩:=h
 have hfb:0≤f∧f<((6:Nat):Int):=⟨f0,by omega⟩
 refine ⟨fun _ y=>y.1=[(Z9 (Z6 f 0 0) (List.getD [(4607182418800017408:Nat),s,t] (Int.toNat (0:Int)) (0:Nat)) 0),0,0],⟨by decide,hfb,by decide,by decide,Z8d (m:=(Z6 f 0 0)) (v:=(List.getD [(4607182418800017408:Nat),s,t] (Int.toNat (0:Int)) (0:Nat))) (c:=0) (P:=fun z=>[z,0,0]=[(Z9 (Z6 f 0 0) (List.getD [(4607182418800017408:Nat),s,t] (Int.toNat (0:Int)) (0:Nat)) 0),0,0]) rfl (fun e=>⟨trivial,⟨by decide,by decide,Nat.le_refl 3⟩,rfl,e⟩) (fun e=>⟨trivial,⟨by decide,by decide,Nat.le_refl 3⟩,rfl,e⟩) (fun e=>⟨rfl,e⟩)⟩,?_⟩
 rintro ⟨⟩ ⟨_,⟨⟩⟩ rfl
 refine ⟨fun _ y=>y.1=[(Z9 (Z6 f 1 0) s (Z9 (Z6 f 0 0) (List.getD [(4607182418800017408:Nat),s,t] (Int.toNat (0:Int)) (0:Nat)) 0)),0,0],⟨by decide,hfb,by decide,by decide,Z8d (m:=(Z6 f 1 0)) (v:=s) (c:=(Z9 (Z6 f 0 0) (List.getD [(4607182418800017408:Nat),s,t] (Int.toNat (0:Int)) (0:Nat)) 0)) (P:=fun z=>[z,0,0]=[(Z9 (Z6 f 1 0) s (Z9 (Z6 f 0 0) (List.getD [(4607182418800017408:Nat),s,t] (Int.toNat (0:Int)) (0:Nat)) 0)),0,0]) rfl (fun e=>⟨trivial,⟨by decide,by decide,Nat.le_refl 3⟩,rfl,e⟩) (fun e=>⟨trivial,⟨by decide,by decide,Nat.le_refl 3⟩,rfl,e⟩) (fun e=>⟨rfl,e⟩)⟩,?_⟩
 rintro ⟨⟩ ⟨_,⟨⟩⟩ rfl
 refine ⟨fun _ y=>y.1=[(Z9 (Z6 f 2 0) t (Z9 (Z6 f 1 0) s (Z9 (Z6 f 0 0) (List.getD [(4607182418800017408:Nat),s,t] (Int.toNat (0:Int)) (0:Nat)) 0))),0,0],⟨by decide,hfb,by decide,by decide,Z8d (m:=(Z6 f 2 0)) (v:=t) (c:=(Z9 (Z6 f 1 0) s (Z9 (Z6 f 0 0) (List.getD [(4607182418800017408:Nat),s,t] (Int.toNat (0:Int)) (0:Nat)) 0))) (P:=fun z=>[z,0,0]=[(Z9 (Z6 f 2 0) t (Z9 (Z6 f 1 0) s (Z9 (Z6 f 0 0) (List.getD [(4607182418800017408:Nat),s,t] (Int.toNat (0:Int)) (0:Nat)) 0))),0,0]) rfl (fun e=>⟨trivial,⟨by decide,by decide,Nat.le_refl 3⟩,rfl,e⟩) (fun e=>⟨trivial,⟨by decide,by decide,Nat.le_refl 3⟩,rfl,e⟩) (fun e=>⟨rfl,e⟩)⟩,?_⟩
 rintro ⟨⟩ ⟨_,⟨⟩⟩ rfl
 refine ⟨fun _ y=>y.1=[(Z9 (Z6 f 2 0) t (Z9 (Z6 f 1 0) s (Z9 (Z6 f 0 0) (List.getD [(4607182418800017408:Nat),s,t] (Int.toNat (0:Int)) (0:Nat)) 0))),(Z9 (Z6 f 0 1) (List.getD [(4607182418800017408:Nat),s,t] (Int.toNat (0:Int)) (0:Nat)) 0),0],⟨by decide,hfb,by decide,by decide,Z8d (m:=(Z6 f 0 1)) (v:=(List.getD [(4607182418800017408:Nat),s,t] (Int.toNat (0:Int)) (0:Nat))) (c:=0) (P:=fun z=>[(Z9 (Z6 f 2 0) t (Z9 (Z6 f 1 0) s (Z9 (Z6 f 0 0) (List.getD [(4607182418800017408:Nat),s,t] (Int.toNat (0:Int)) (0:Nat)) 0))),z,0]=[(Z9 (Z6 f 2 0) t (Z9 (Z6 f 1 0) s (Z9 (Z6 f 0 0) (List.getD [(4607182418800017408:Nat),s,t] (Int.toNat (0:Int)) (0:Nat)) 0))),(Z9 (Z6 f 0 1) (List.getD [(4607182418800017408:Nat),s,t] (Int.toNat (0:Int)) (0:Nat)) 0),0]) rfl (fun e=>⟨trivial,⟨by decide,by decide,Nat.le_refl 3⟩,rfl,e⟩) (fun e=>⟨trivial,⟨by decide,by decide,Nat.le_refl 3⟩,rfl,e⟩) (fun e=>⟨rfl,e⟩)⟩,?_⟩
 rintro ⟨⟩ ⟨_,⟨⟩⟩ rfl
 refine ⟨fun _ y=>y.1=[(Z9 (Z6 f 2 0) t (Z9 (Z6 f 1 0) s (Z9 (Z6 f 0 0) (List.getD [(4607182418800017408:Nat),s,t] (Int.toNat (0:Int)) (0:Nat)) 0))),(Z9 (Z6 f 1 1) s (Z9 (Z6 f 0 1) (List.getD [(4607182418800017408:Nat),s,t] (Int.toNat (0:Int)) (0:Nat)) 0)),0],⟨by decide,hfb,by decide,by decide,Z8d (m:=(Z6 f 1 1)) (v:=s) (c:=(Z9 (Z6 f 0 1) (List.getD [(4607182418800017408:Nat),s,t] (Int.toNat (0:Int)) (0:Nat)) 0)) (P:=fun z=>[(Z9 (Z6 f 2 0) t (Z9 (Z6 f 1 0) s (Z9 (Z6 f 0 0) (List.getD [(4607182418800017408:Nat),s,t] (Int.toNat (0:Int)) (0:Nat)) 0))),z,0]=[(Z9 (Z6 f 2 0) t (Z9 (Z6 f 1 0) s (Z9 (Z6 f 0 0) (List.getD [(4607182418800017408:Nat),s,t] (Int.toNat (0:Int)) (0:Nat)) 0))),(Z9 (Z6 f 1 1) s (Z9 (Z6 f 0 1) (List.getD [(4607182418800017408:Nat),s,t] (Int.toNat (0:Int)) (0:Nat)) 0)),0]) rfl (fun e=>⟨trivial,⟨by decide,by decide,Nat.le_refl 3⟩,rfl,e⟩) (fun e=>⟨trivial,⟨by decide,by decide,Nat.le_refl 3⟩,rfl,e⟩) (fun e=>⟨rfl,e⟩)⟩,?_⟩
 rintro ⟨⟩ ⟨_,⟨⟩⟩ rfl
 refine ⟨fun _ y=>y.1=[(Z9 (Z6 f 2 0) t (Z9 (Z6 f 1 0) s (Z9 (Z6 f 0 0) (List.getD [(4607182418800017408:Nat),s,t] (Int.toNat (0:Int)) (0:Nat)) 0))),(Z9 (Z6 f 2 1) t (Z9 (Z6 f 1 1) s (Z9 (Z6 f 0 1) (List.getD [(4607182418800017408:Nat),s,t] (Int.toNat (0:Int)) (0:Nat)) 0))),0],⟨by decide,hfb,by decide,by decide,Z8d (m:=(Z6 f 2 1)) (v:=t) (c:=(Z9 (Z6 f 1 1) s (Z9 (Z6 f 0 1) (List.getD [(4607182418800017408:Nat),s,t] (Int.toNat (0:Int)) (0:Nat)) 0))) (P:=fun z=>[(Z9 (Z6 f 2 0) t (Z9 (Z6 f 1 0) s (Z9 (Z6 f 0 0) (List.getD [(4607182418800017408:Nat),s,t] (Int.toNat (0:Int)) (0:Nat)) 0))),z,0]=[(Z9 (Z6 f 2 0) t (Z9 (Z6 f 1 0) s (Z9 (Z6 f 0 0) (List.getD [(4607182418800017408:Nat),s,t] (Int.toNat (0:Int)) (0:Nat)) 0))),(Z9 (Z6 f 2 1) t (Z9 (Z6 f 1 1) s (Z9 (Z6 f 0 1) (List.getD [(4607182418800017408:Nat),s,t] (Int.toNat (0:Int)) (0:Nat)) 0))),0]) rfl (fun e=>⟨trivial,⟨by decide,by decide,Nat.le_refl 3⟩,rfl,e⟩) (fun e=>⟨trivial,⟨by decide,by decide,Nat.le_refl 3⟩,rfl,e⟩) (fun e=>⟨rfl,e⟩)⟩,?_⟩
 rintro ⟨⟩ ⟨_,⟨⟩⟩ rfl
 refine ⟨fun _ y=>y.1=[(Z9 (Z6 f 2 0) t (Z9 (Z6 f 1 0) s (Z9 (Z6 f 0 0) (List.getD [(4607182418800017408:Nat),s,t] (Int.toNat (0:Int)) (0:Nat)) 0))),(Z9 (Z6 f 2 1) t (Z9 (Z6 f 1 1) s (Z9 (Z6 f 0 1) (List.getD [(4607182418800017408:Nat),s,t] (Int.toNat (0:Int)) (0:Nat)) 0))),(Z9 (Z6 f 0 2) (List.getD [(4607182418800017408:Nat),s,t] (Int.toNat (0:Int)) (0:Nat)) 0)],⟨by decide,hfb,by decide,by decide,Z8d (m:=(Z6 f 0 2)) (v:=(List.getD [(4607182418800017408:Nat),s,t] (Int.toNat (0:Int)) (0:Nat))) (c:=0) (P:=fun z=>[(Z9 (Z6 f 2 0) t (Z9 (Z6 f 1 0) s (Z9 (Z6 f 0 0) (List.getD [(4607182418800017408:Nat),s,t] (Int.toNat (0:Int)) (0:Nat)) 0))),(Z9 (Z6 f 2 1) t (Z9 (Z6 f 1 1) s (Z9 (Z6 f 0 1) (List.getD [(4607182418800017408:Nat),s,t] (Int.toNat (0:Int)) (0:Nat)) 0))),z]=[(Z9 (Z6 f 2 0) t (Z9 (Z6 f 1 0) s (Z9 (Z6 f 0 0) (List.getD [(4607182418800017408:Nat),s,t] (Int.toNat (0:Int)) (0:Nat)) 0))),(Z9 (Z6 f 2 1) t (Z9 (Z6 f 1 1) s (Z9 (Z6 f 0 1) (List.getD [(4607182418800017408:Nat),s,t] (Int.toNat (0:Int)) (0:Nat)) 0))),(Z9 (Z6 f 0 2) (List.getD [(4607182418800017408:Nat),s,t] (Int.toNat (0:Int)) (0:Nat)) 0)]) rfl (fun e=>⟨trivial,⟨by decide,by decide,Nat.le_refl 3⟩,rfl,e⟩) (fun e=>⟨trivial,⟨by decide,by decide,Nat.le_refl 3⟩,rfl,e⟩) (fun e=>⟨rfl,e⟩)⟩,?_⟩
 rintro ⟨⟩ ⟨_,⟨⟩⟩ rfl
 refine ⟨fun _ y=>y.1=[(Z9 (Z6 f 2 0) t (Z9 (Z6 f 1 0) s (Z9 (Z6 f 0 0) (List.getD [(4607182418800017408:Nat),s,t] (Int.toNat (0:Int)) (0:Nat)) 0))),(Z9 (Z6 f 2 1) t (Z9 (Z6 f 1 1) s (Z9 (Z6 f 0 1) (List.getD [(4607182418800017408:Nat),s,t] (Int.toNat (0:Int)) (0:Nat)) 0))),(Z9 (Z6 f 1 2) s (Z9 (Z6 f 0 2) (List.getD [(4607182418800017408:Nat),s,t] (Int.toNat (0:Int)) (0:Nat)) 0))],⟨by decide,hfb,by decide,by decide,Z8d (m:=(Z6 f 1 2)) (v:=s) (c:=(Z9 (Z6 f 0 2) (List.getD [(4607182418800017408:Nat),s,t] (Int.toNat (0:Int)) (0:Nat)) 0)) (P:=fun z=>[(Z9 (Z6 f 2 0) t (Z9 (Z6 f 1 0) s (Z9 (Z6 f 0 0) (List.getD [(4607182418800017408:Nat),s,t] (Int.toNat (0:Int)) (0:Nat)) 0))),(Z9 (Z6 f 2 1) t (Z9 (Z6 f 1 1) s (Z9 (Z6 f 0 1) (List.getD [(4607182418800017408:Nat),s,t] (Int.toNat (0:Int)) (0:Nat)) 0))),z]=[(Z9 (Z6 f 2 0) t (Z9 (Z6 f 1 0) s (Z9 (Z6 f 0 0) (List.getD [(4607182418800017408:Nat),s,t] (Int.toNat (0:Int)) (0:Nat)) 0))),(Z9 (Z6 f 2 1) t (Z9 (Z6 f 1 1) s (Z9 (Z6 f 0 1) (List.getD [(4607182418800017408:Nat),s,t] (Int.toNat (0:Int)) (0:Nat)) 0))),(Z9 (Z6 f 1 2) s (Z9 (Z6 f 0 2) (List.getD [(4607182418800017408:Nat),s,t] (Int.toNat (0:Int)) (0:Nat)) 0))]) rfl (fun e=>⟨trivial,⟨by decide,by decide,Nat.le_refl 3⟩,rfl,e⟩) (fun e=>⟨trivial,⟨by decide,by decide,Nat.le_refl 3⟩,rfl,e⟩) (fun e=>⟨rfl,e⟩)⟩,?_⟩
 rintro ⟨⟩ ⟨_,⟨⟩⟩ rfl
 refine ⟨fun _ y=>y.1=[(Z9 (Z6 f 2 0) t (Z9 (Z6 f 1 0) s (Z9 (Z6 f 0 0) (List.getD [(4607182418800017408:Nat),s,t] (Int.toNat (0:Int)) (0:Nat)) 0))),(Z9 (Z6 f 2 1) t (Z9 (Z6 f 1 1) s (Z9 (Z6 f 0 1) (List.getD [(4607182418800017408:Nat),s,t] (Int.toNat (0:Int)) (0:Nat)) 0))),(Z9 (Z6 f 2 2) t (Z9 (Z6 f 1 2) s (Z9 (Z6 f 0 2) (List.getD [(4607182418800017408:Nat),s,t] (Int.toNat (0:Int)) (0:Nat)) 0)))],⟨by decide,hfb,by decide,by decide,Z8d (m:=(Z6 f 2 2)) (v:=t) (c:=(Z9 (Z6 f 1 2) s (Z9 (Z6 f 0 2) (List.getD [(4607182418800017408:Nat),s,t] (Int.toNat (0:Int)) (0:Nat)) 0))) (P:=fun z=>[(Z9 (Z6 f 2 0) t (Z9 (Z6 f 1 0) s (Z9 (Z6 f 0 0) (List.getD [(4607182418800017408:Nat),s,t] (Int.toNat (0:Int)) (0:Nat)) 0))),(Z9 (Z6 f 2 1) t (Z9 (Z6 f 1 1) s (Z9 (Z6 f 0 1) (List.getD [(4607182418800017408:Nat),s,t] (Int.toNat (0:Int)) (0:Nat)) 0))),z]=[(Z9 (Z6 f 2 0) t (Z9 (Z6 f 1 0) s (Z9 (Z6 f 0 0) (List.getD [(4607182418800017408:Nat),s,t] (Int.toNat (0:Int)) (0:Nat)) 0))),(Z9 (Z6 f 2 1) t (Z9 (Z6 f 1 1) s (Z9 (Z6 f 0 1) (List.getD [(4607182418800017408:Nat),s,t] (Int.toNat (0:Int)) (0:Nat)) 0))),(Z9 (Z6 f 2 2) t (Z9 (Z6 f 1 2) s (Z9 (Z6 f 0 2) (List.getD [(4607182418800017408:Nat),s,t] (Int.toNat (0:Int)) (0:Nat)) 0)))]) rfl (fun e=>⟨trivial,⟨by decide,by decide,Nat.le_refl 3⟩,rfl,e⟩) (fun e=>⟨trivial,⟨by decide,by decide,Nat.le_refl 3⟩,rfl,e⟩) (fun e=>⟨rfl,e⟩)⟩,?_⟩
 rintro ⟨⟩ ⟨_,⟨⟩⟩ rfl
 refine ⟨⟨by decide,by decide,Nat.le_refl 3⟩,⟨by decide,by decide,Nat.le_refl 3⟩,⟨by decide,by decide,Nat.le_refl 3⟩,⟨Z14m f hs ht 0,Z14m f hs ht 1,Z14m f hs ht 2⟩,rfl⟩
def Zll:=fun (n f i j:Int) (post:(Nat × Nat × Nat) × Bool × Unit→Prop)=>∃ (h:I64 n),∀ a,a=((Z3p n).1==(0:Int))→Br a (post ((0,0,0),false,
 ())) (∀ a,a=decide (f<(0:Int))→Br a (post ((0,0,0),false,())) (∀ a,a=decide (f > (5:Int))→Br a (post ((0,0,0),false,())) (∀ a,a=decide (i<(0
 : Int))→Br a (post ((0,0,0),false,())) (∀ a,a=decide (i > n)→Br a (post ((0,0,0),false,())) (∀ a,a=decide (j<(0:Int))→Br a (post ((0,0,0),
 false,())) (∀ a,a=decide (j > n)→Br a (post ((0,0,0),false,())) (∃ (h:Zha (i64.wrap (i64.wrap ((2:Int)*i) - n)) n),∃ (h:Zha
 (i64.wrap (i64.wrap ((2:Int)*j) - n)) n),∃ (h:Z10d f (Z3q (i64.wrap (i64.wrap ((2:Int)*i) - n)) n).1 (Z3q (i64.wrap
 (i64.wrap ((2:Int)*j) - n)) n).1),post (((Zdz f (Z3q (i64.wrap (i64.wrap ((2:Int)*i) - n)) n).1 (Z3q (i64.wrap (i64.wrap
 ((2:Int)*j) - n)) n).1).1.1,(Zdz f (Z3q (i64.wrap (i64.wrap ((2:Int)*i) - n)) n).1 (Z3q (i64.wrap (i64.wrap ((2:Int)*j) - n))
 n).1).1.2.1,(Zdz f (Z3q (i64.wrap (i64.wrap ((2:Int)*i) - n)) n).1 (Z3q (i64.wrap (i64.wrap ((2:Int)*j) - n)) n).1).1.2.2),
 true,()))))))))
theorem Z15j (n:Int) (f:Int) (i:Int) (j:Int) (h:IIII n f i j):Zll  n f i j (fun r=>r=Z1a n f i j):=by
 obtain ⟨hn,hf,hi,hj⟩:=h
 have bad:Z7o n f i j=false→(((0:Nat),(0:Nat),(0:Nat)),false,())=Z1a n f i j:=by
  intro e; unfold Z1a; rw [if_neg (by rw [e]; decide)]
 refine ⟨hn,?_⟩
 rintro _ rfl
 refine Br.intro (fun e=>?_) fun e0=>?_
 ·have e:Z1 n=0:=by have e:(Z1 n==0)=true:=e; simpa using e
  refine bad ?_
  cases hg:Z1v n with
  | false=>unfold Z7o; rw [hg]; rfl
  | true=>rw [Zfz hg] at e; have:=Zux (Z3k.1 hg).1 (Z3k.1 hg).2; omega
 have e0:¬ Z1 n=0:=by have e:(Z1 n==0)=false:=e0; simpa using e
 have hg:Z1v n=true:=by
  cases hg:Z1v n with
  | false=>exact absurd (Ze1 hg) e0
  | true=>rfl
 obtain ⟨n1,n2⟩:=Z3k.1 hg
 have no:¬ (0≤f∧f≤5∧0≤i∧i≤n∧0≤j∧j≤n)→Z7o n f i j=false:=by
  intro q
  rw [Bool.eq_false_iff]
  intro w
  unfold Z7o at w
  simp only [Bool.and_eq_true,decide_eq_true_eq] at w
  omega
 rintro _ rfl
 refine Br.intro (fun e=>bad (no (by have e:=of_decide_eq_true e; omega))) fun e1=>?_
 have e1:=of_decide_eq_false e1
 rintro _ rfl
 refine Br.intro (fun e=>bad (no (by have e:=of_decide_eq_true e; omega))) fun e2=>?_
 have e2:=of_decide_eq_false e2
 rintro _ rfl
 refine Br.intro (fun e=>bad (no (by have e:=of_decide_eq_true e; omega))) fun e3=>?_
 have e3:=of_decide_eq_false e3
 rintro _ rfl
 refine Br.intro (fun e=>bad (no (by have e:=of_decide_eq_true e; omega))) fun e4=>?_
 have e4:=of_decide_eq_false e4
 rintro _ rfl
 refine Br.intro (fun e=>bad (no (by have e:=of_decide_eq_true e; omega))) fun e5=>?_
 have e5:=of_decide_eq_false e5
 rintro _ rfl
 refine Br.intro (fun e=>bad (no (by have e:=of_decide_eq_true e; omega))) fun e6=>?_
 have e6:=of_decide_eq_false e6
 obtain ⟨w1,w2⟩:=Z10i n1 n2 (i:=i) (by omega) (by omega)
 obtain ⟨w3,w4⟩:=Z10i n1 n2 (i:=j) (by omega) (by omega)
 rw [w1,w3]
 refine ⟨w2,w4,⟨by omega,by omega,Z8b _ _,Z8b _ _⟩,?_⟩
 have ok:Z7o n f i j=true:=by
  unfold Z7o
  rw [hg,decide_eq_true (by omega),decide_eq_true (by omega),decide_eq_true (by omega),decide_eq_true (by omega),decide_eq_true (by omega),decide_eq_true (by omega)]
  rfl
 unfold Z1a; rw [if_pos ok]; rfl
def Zjk:=fun (n c:Int) (post:List (Nat × Nat × Nat) × Bool × Unit→Prop)=>∃ (h:II n c),Br (!(Z4 n c).2.2.2.1) (∃ (h:(List.replicate (4:Nat) ((K.flt
 f64).pair ((K.flt f64).pair (K.flt f64))).dflt).length=(4:Nat)∧(4:Nat)=(4:Nat)),∃ (h:(4:Nat)=(4:Nat)),post ([((0 :
 Nat),(0:Nat),(0:Nat)),((0:Nat),(0:Nat),(0:Nat)),((0:Nat),(0:Nat),(0:Nat)),((0:Nat),(0:Nat),(0:Nat))],false,())) (∃ (h:(0:Int)≤(0 :
 Int)∧(0:Int)<(↑(4:Nat):Int)),∃ (h:(List.replicate (2:Nat) (0:Int)).length=(2:Nat)∧List.length ([[(0:Int),(0:Int)],[(1:Int),(0:Int)],[(1:Int),
 (1:Int)],[(0:Int),(1:Int)]].getD (Int.toNat (0:Int)) (K.arr (2:Nat) (K.int i64)).dflt)=(2:Nat)),∃ (h:(0:Int)≤(0:Int)∧(0:Int)<(↑(2:Nat) :
 Int)∧(2:Nat)≤List.length ([[(0:Int),(0:Int)],[(1:Int),(0:Int)],[(1:Int),(1:Int)],[(0:Int),(1:Int)]].getD (Int.toNat (0:Int)) (K.arr (2:Nat) (K.int
 i64)).dflt)),∃ (h:(0:Int)≤(1:Int)∧(1:Int)<(↑(2:Nat):Int)∧(2:Nat)≤List.length ([[(0:Int),(0:Int)],[(1:Int),(0:Int)],[(1:Int),(1 :
 Int)],[(0:Int),(1:Int)]].getD (Int.toNat (0:Int)) (K.arr (2:Nat) (K.int i64)).dflt)),∃ (h:IIII n (Z4 n c).1 (i64.wrap ((Z4 n c).2.1 +
 List.getD ([[(0:Int),(0:Int)],[(1:Int),(0:Int)],[(1:Int),(1:Int)],[(0:Int),(1:Int)]].getD (Int.toNat (0:Int)) (K.arr (2:Nat) (K.int i64)).dflt)
 (Int.toNat (0:Int)) (0:Int))) (i64.wrap ((Z4 n c).2.2.1+List.getD ([[(0:Int),(0:Int)],[(1:Int),(0:Int)],[(1:Int),(1:Int)],[(0:Int),(1 :
 Int)]].getD (Int.toNat (0:Int)) (K.arr (2:Nat) (K.int i64)).dflt) (Int.toNat (1:Int)) (0:Int)))),∃ (h:(0:Int)≤(0:Int)∧(0:Int)<(↑(4:Nat):Int) ∧
 (4:Nat)≤(List.replicate (4:Nat) ((K.flt f64).pair ((K.flt f64).pair (K.flt f64))).dflt).length),∃ (h:(0:Int)≤i64.wrap
 ((0:Int)+(1:Int))∧i64.wrap ((0:Int)+(1:Int))<(↑(4:Nat):Int)),∃ (h:(List.replicate (2:Nat) (0:Int)).length=(2:Nat)∧List.length ([[(0 :
 Int),(0:Int)],[(1:Int),(0:Int)],[(1:Int),(1:Int)],[(0:Int),(1:Int)]].getD (i64.wrap ((0:Int)+(1:Int))).toNat (K.arr (2:Nat) (K.int
 i64)).dflt)=(2:Nat)),∃ (h:(0:Int)≤(0:Int)∧(0:Int)<(↑(2:Nat):Int)∧(2:Nat)≤List.length ([[(0:Int),(0:Int)],[(1:Int),(0:Int)],[(1 :
 Int),(1:Int)],[(0:Int),(1:Int)]].getD (i64.wrap ((0:Int)+(1:Int))).toNat (K.arr (2:Nat) (K.int i64)).dflt)),∃ (h:(0:Int)≤(1:Int)∧(1 :
 Int)<(↑(2:Nat):Int)∧(2:Nat)≤List.length ([[(0:Int),(0:Int)],[(1:Int),(0:Int)],[(1:Int),(1:Int)],[(0:Int),(1:Int)]].getD (i64.wrap ((0 :
 Int)+(1:Int))).toNat (K.arr (2:Nat) (K.int i64)).dflt)),∃ (h:IIII n (Z4 n c).1 (i64.wrap ((Z4 n c).2.1+List.getD ([[(0:Int),(0:Int)],[(1
 : Int),(0:Int)],[(1:Int),(1:Int)],[(0:Int),(1:Int)]].getD (i64.wrap ((0:Int)+(1:Int))).toNat (K.arr (2:Nat) (K.int i64)).dflt) (Int.toNat (0
 : Int)) (0:Int))) (i64.wrap ((Z4 n c).2.2.1+List.getD ([[(0:Int),(0:Int)],[(1:Int),(0:Int)],[(1:Int),(1:Int)],[(0:Int),(1:Int)]].getD
 (i64.wrap ((0:Int)+(1:Int))).toNat (K.arr (2:Nat) (K.int i64)).dflt) (Int.toNat (1:Int)) (0:Int)))),∃ (h:(0:Int)≤i64.wrap ((0:Int) +
 (1:Int))∧i64.wrap ((0:Int)+(1:Int))<(↑(4:Nat):Int)∧(4:Nat)≤((List.replicate (4:Nat) ((K.flt f64).pair ((K.flt f64).pair
 (K.flt f64))).dflt).set (Int.toNat (0:Int)) (Z1a n (Z4 n c).1 (i64.wrap ((Z4 n c).2.1+List.getD ([[(0:Int),(0:Int)],[(1:Int),(0 :
 Int)],[(1:Int),(1:Int)],[(0:Int),(1:Int)]].getD (Int.toNat (0:Int)) (K.arr (2:Nat) (K.int i64)).dflt) (Int.toNat (0:Int)) (0:Int))) (i64.wrap
 ((Z4 n c).2.2.1+List.getD ([[(0:Int),(0:Int)],[(1:Int),(0:Int)],[(1:Int),(1:Int)],[(0:Int),(1:Int)]].getD (Int.toNat (0:Int)) (K.arr (2:Nat)
 (K.int i64)).dflt) (Int.toNat (1:Int)) (0:Int)))).1).length),∃ (h:(0:Int)≤i64.wrap (i64.wrap ((0:Int)+(1:Int))+(1:Int)) ∧
 i64.wrap (i64.wrap ((0:Int)+(1:Int))+(1:Int))<(↑(4:Nat):Int)),∃ (h:(List.replicate (2:Nat) (0:Int)).length=(2:Nat)∧List.length ([[(0 :
 Int),(0:Int)],[(1:Int),(0:Int)],[(1:Int),(1:Int)],[(0:Int),(1:Int)]].getD (i64.wrap (i64.wrap ((0:Int)+(1:Int))+(1:Int))).toNat
 (K.arr (2:Nat) (K.int i64)).dflt)=(2:Nat)),∃ (h:(0:Int)≤(0:Int)∧(0:Int)<(↑(2:Nat):Int)∧(2:Nat)≤List.length ([[(0:Int),(0:Int)],[(1 :
 Int),(0:Int)],[(1:Int),(1:Int)],[(0:Int),(1:Int)]].getD (i64.wrap (i64.wrap ((0:Int)+(1:Int))+(1:Int))).toNat (K.arr (2:Nat) (K.int
 i64)).dflt)),∃ (h:(0:Int)≤(1:Int)∧(1:Int)<(↑(2:Nat):Int)∧(2:Nat)≤List.length ([[(0:Int),(0:Int)],[(1:Int),(0:Int)],[(1:Int),(1 :
 Int)],[(0:Int),(1:Int)]].getD (i64.wrap (i64.wrap ((0:Int)+(1:Int))+(1:Int))).toNat (K.arr (2:Nat) (K.int i64)).dflt)),∃ (h:IIII n
 (Z4 n c).1 (i64.wrap ((Z4 n c).2.1+List.getD ([[(0:Int),(0:Int)],[(1:Int),(0:Int)],[(1:Int),(1:Int)],[(0:Int),(1:Int)]].getD
 (i64.wrap (i64.wrap ((0:Int)+(1:Int))+(1:Int))).toNat (K.arr (2:Nat) (K.int i64)).dflt) (Int.toNat (0:Int)) (0:Int))) (i64.wrap
 ((Z4 n c).2.2.1+List.getD ([[(0:Int),(0:Int)],[(1:Int),(0:Int)],[(1:Int),(1:Int)],[(0:Int),(1:Int)]].getD (i64.wrap (i64.wrap ((0 :
 Int)+(1:Int))+(1:Int))).toNat (K.arr (2:Nat) (K.int i64)).dflt) (Int.toNat (1:Int)) (0:Int)))),∃ (h:(0:Int)≤i64.wrap (i64.wrap ((0 :
 Int)+(1:Int))+(1:Int))∧i64.wrap (i64.wrap ((0:Int)+(1:Int))+(1:Int))<(↑(4:Nat):Int)∧(4:Nat)≤(((List.replicate (4:Nat) ((K.flt
 f64).pair ((K.flt f64).pair (K.flt f64))).dflt).set (Int.toNat (0:Int)) (Z1a n (Z4 n c).1 (i64.wrap ((Z4 n c).2.1 +
 List.getD ([[(0:Int),(0:Int)],[(1:Int),(0:Int)],[(1:Int),(1:Int)],[(0:Int),(1:Int)]].getD (Int.toNat (0:Int)) (K.arr (2:Nat) (K.int i64)).dflt)
 (Int.toNat (0:Int)) (0:Int))) (i64.wrap ((Z4 n c).2.2.1+List.getD ([[(0:Int),(0:Int)],[(1:Int),(0:Int)],[(1:Int),(1:Int)],[(0:Int),(1 :
 Int)]].getD (Int.toNat (0:Int)) (K.arr (2:Nat) (K.int i64)).dflt) (Int.toNat (1:Int)) (0:Int)))).1).set (i64.wrap ((0:Int)+(1:Int))).toNat (Z1a n
 (Z4 n c).1 (i64.wrap ((Z4 n c).2.1+List.getD ([[(0:Int),(0:Int)],[(1:Int),(0:Int)],[(1:Int),(1:Int)],[(0:Int),(1:Int)]].getD
 (i64.wrap ((0:Int)+(1:Int))).toNat (K.arr (2:Nat) (K.int i64)).dflt) (Int.toNat (0:Int)) (0:Int))) (i64.wrap ((Z4 n c).2.2.1+List.getD
 ([[(0:Int),(0:Int)],[(1:Int),(0:Int)],[(1:Int),(1:Int)],[(0:Int),(1:Int)]].getD (i64.wrap ((0:Int)+(1:Int))).toNat (K.arr (2:Nat) (K.int
 i64)).dflt) (Int.toNat (1:Int)) (0:Int)))).1).length),∃ (h:(0:Int)≤i64.wrap (i64.wrap (i64.wrap ((0:Int)+(1:Int))+(1:Int)) +
 (1:Int))∧i64.wrap (i64.wrap (i64.wrap ((0:Int)+(1:Int))+(1:Int))+(1:Int))<(↑(4:Nat):Int)),∃ (h:(List.replicate (2:Nat) (0 :
 Int)).length=(2:Nat)∧List.length ([[(0:Int),(0:Int)],[(1:Int),(0:Int)],[(1:Int),(1:Int)],[(0:Int),(1:Int)]].getD (i64.wrap (i64.wrap
 (i64.wrap ((0:Int)+(1:Int))+(1:Int))+(1:Int))).toNat (K.arr (2:Nat) (K.int i64)).dflt)=(2:Nat)),∃ (h:(0:Int)≤(0:Int)∧(0:Int) <
 (↑(2:Nat):Int)∧(2:Nat)≤List.length ([[(0:Int),(0:Int)],[(1:Int),(0:Int)],[(1:Int),(1:Int)],[(0:Int),(1:Int)]].getD (i64.wrap
 (i64.wrap (i64.wrap ((0:Int)+(1:Int))+(1:Int))+(1:Int))).toNat (K.arr (2:Nat) (K.int i64)).dflt)),∃ (h:(0:Int)≤(1:Int)∧(1:Int)
 < (↑(2:Nat):Int)∧(2:Nat)≤List.length ([[(0:Int),(0:Int)],[(1:Int),(0:Int)],[(1:Int),(1:Int)],[(0:Int),(1:Int)]].getD (i64.wrap
 (i64.wrap (i64.wrap ((0:Int)+(1:Int))+(1:Int))+(1:Int))).toNat (K.arr (2:Nat) (K.int i64)).dflt)),∃ (h:IIII n (Z4 n c).1
 (i64.wrap ((Z4 n c).2.1+List.getD ([[(0:Int),(0:Int)],[(1:Int),(0:Int)],[(1:Int),(1:Int)],[(0:Int),(1:Int)]].getD (i64.wrap
 (i64.wrap (i64.wrap ((0:Int)+(1:Int))+(1:Int))+(1:Int))).toNat (K.arr (2:Nat) (K.int i64)).dflt) (Int.toNat (0:Int)) (0:Int)))
 (i64.wrap ((Z4 n c).2.2.1+List.getD ([[(0:Int),(0:Int)],[(1:Int),(0:Int)],[(1:Int),(1:Int)],[(0:Int),(1:Int)]].getD (i64.wrap
 (i64.wrap (i64.wrap ((0:Int)+(1:Int))+(1:Int))+(1:Int))).toNat (K.arr (2:Nat) (K.int i64)).dflt) (Int.toNat (1:Int)) (0:Int)))),∃ (h :
 (0:Int)≤i64.wrap (i64.wrap (i64.wrap ((0:Int)+(1:Int))+(1:Int))+(1:Int))∧i64.wrap (i64.wrap (i64.wrap ((0 :
 Int)+(1:Int))+(1:Int))+(1:Int))<(↑(4:Nat):Int)∧(4:Nat)≤((((List.replicate (4:Nat) ((K.flt f64).pair ((K.flt f64).pair (K.flt
 f64))).dflt).set (Int.toNat (0:Int)) (Z1a n (Z4 n c).1 (i64.wrap ((Z4 n c).2.1+List.getD ([[(0:Int),(0:Int)],[(1:Int),(0:Int)],
 [(1:Int),(1:Int)],[(0:Int),(1:Int)]].getD (Int.toNat (0:Int)) (K.arr (2:Nat) (K.int i64)).dflt) (Int.toNat (0:Int)) (0:Int))) (i64.wrap
 ((Z4 n c).2.2.1+List.getD ([[(0:Int),(0:Int)],[(1:Int),(0:Int)],[(1:Int),(1:Int)],[(0:Int),(1:Int)]].getD (Int.toNat (0:Int)) (K.arr (2:Nat)
 (K.int i64)).dflt) (Int.toNat (1:Int)) (0:Int)))).1).set (i64.wrap ((0:Int)+(1:Int))).toNat (Z1a n (Z4 n c).1 (i64.wrap ((Z4 n
 c).2.1+List.getD ([[(0:Int),(0:Int)],[(1:Int),(0:Int)],[(1:Int),(1:Int)],[(0:Int),(1:Int)]].getD (i64.wrap ((0:Int)+(1:Int))).toNat (K.arr
 (2:Nat) (K.int i64)).dflt) (Int.toNat (0:Int)) (0:Int))) (i64.wrap ((Z4 n c).2.2.1+List.getD ([[(0:Int),(0:Int)],[(1:Int),(0:Int)],[(1 :
 Int),(1:Int)],[(0:Int),(1:Int)]].getD (i64.wrap ((0:Int)+(1:Int))).toNat (K.arr (2:Nat) (K.int i64)).dflt) (Int.toNat (1:Int)) (0 :
 Int)))).1).set (i64.wrap (i64.wrap ((0:Int)+(1:Int))+(1:Int))).toNat (Z1a n (Z4 n c).1 (i64.wrap ((Z4 n c).2.1+List.getD ([[(0 :
 Int),(0:Int)],[(1:Int),(0:Int)],[(1:Int),(1:Int)],[(0:Int),(1:Int)]].getD (i64.wrap (i64.wrap ((0:Int)+(1:Int))+(1:Int))).toNat
 (K.arr (2:Nat) (K.int i64)).dflt) (Int.toNat (0:Int)) (0:Int))) (i64.wrap ((Z4 n c).2.2.1+List.getD ([[(0:Int),(0:Int)],[(1:Int),(0:Int)],
 [(1:Int),(1:Int)],[(0:Int),(1:Int)]].getD (i64.wrap (i64.wrap ((0:Int)+(1:Int))+(1:Int))).toNat (K.arr (2:Nat) (K.int i64)).dflt)
 (Int.toNat (1:Int)) (0:Int)))).1).length),∃ (h:(((((List.replicate (4:Nat) ((K.flt f64).pair ((K.flt f64).pair (K.flt
 f64))).dflt).set (Int.toNat (0:Int)) (Z1a n (Z4 n c).1 (i64.wrap ((Z4 n c).2.1+List.getD ([[(0:Int),(0:Int)],[(1:Int),(0:Int)],
 [(1:Int),(1:Int)],[(0:Int),(1:Int)]].getD (Int.toNat (0:Int)) (K.arr (2:Nat) (K.int i64)).dflt) (Int.toNat (0:Int)) (0:Int))) (i64.wrap
 ((Z4 n c).2.2.1+List.getD ([[(0:Int),(0:Int)],[(1:Int),(0:Int)],[(1:Int),(1:Int)],[(0:Int),(1:Int)]].getD (Int.toNat (0:Int)) (K.arr (2:Nat)
 (K.int i64)).dflt) (Int.toNat (1:Int)) (0:Int)))).1).set (i64.wrap ((0:Int)+(1:Int))).toNat (Z1a n (Z4 n c).1 (i64.wrap ((Z4 n
 c).2.1+List.getD ([[(0:Int),(0:Int)],[(1:Int),(0:Int)],[(1:Int),(1:Int)],[(0:Int),(1:Int)]].getD (i64.wrap ((0:Int)+(1:Int))).toNat (K.arr
 (2:Nat) (K.int i64)).dflt) (Int.toNat (0:Int)) (0:Int))) (i64.wrap ((Z4 n c).2.2.1+List.getD ([[(0:Int),(0:Int)],[(1:Int),(0:Int)],[(1 :
 Int),(1:Int)],[(0:Int),(1:Int)]].getD (i64.wrap ((0:Int)+(1:Int))).toNat (K.arr (2:Nat) (K.int i64)).dflt) (Int.toNat (1:Int)) (0 :
 Int)))).1).set (i64.wrap (i64.wrap ((0:Int)+(1:Int))+(1:Int))).toNat (Z1a n (Z4 n c).1 (i64.wrap ((Z4 n c).2.1+List.getD ([[(0 :
 Int),(0:Int)],[(1:Int),(0:Int)],[(1:Int),(1:Int)],[(0:Int),(1:Int)]].getD (i64.wrap (i64.wrap ((0:Int)+(1:Int))+(1:Int))).toNat
 (K.arr (2:Nat) (K.int i64)).dflt) (Int.toNat (0:Int)) (0:Int))) (i64.wrap ((Z4 n c).2.2.1+List.getD ([[(0:Int),(0:Int)],[(1:Int),(0:Int)],
 [(1:Int),(1:Int)],[(0:Int),(1:Int)]].getD (i64.wrap (i64.wrap ((0:Int)+(1:Int))+(1:Int))).toNat (K.arr (2:Nat) (K.int i64)).dflt)
 (Int.toNat (1:Int)) (0:Int)))).1).set (i64.wrap (i64.wrap (i64.wrap ((0:Int)+(1:Int))+(1:Int))+(1:Int))).toNat (Z1a n (Z4 n c).1
 (i64.wrap ((Z4 n c).2.1+List.getD ([[(0:Int),(0:Int)],[(1:Int),(0:Int)],[(1:Int),(1:Int)],[(0:Int),(1:Int)]].getD (i64.wrap
 (i64.wrap (i64.wrap ((0:Int)+(1:Int))+(1:Int))+(1:Int))).toNat (K.arr (2:Nat) (K.int i64)).dflt) (Int.toNat (0:Int)) (0:Int)))
 (i64.wrap ((Z4 n c).2.2.1+List.getD ([[(0:Int),(0:Int)],[(1:Int),(0:Int)],[(1:Int),(1:Int)],[(0:Int),(1:Int)]].getD (i64.wrap
 (i64.wrap (i64.wrap ((0:Int)+(1:Int))+(1:Int))+(1:Int))).toNat (K.arr (2:Nat) (K.int i64)).dflt) (Int.toNat (1:Int)) (0 :
 Int)))).1).length=(4:Nat)),∃ (h:(List.replicate (4:Nat) ((K.flt f64).pair ((K.flt f64).pair (K.flt f64))).dflt).length=(4:Nat)
 ∧ (((((List.replicate (4:Nat) ((K.flt f64).pair ((K.flt f64).pair (K.flt f64))).dflt).set (Int.toNat (0:Int)) (Z1a n (Z4 n c).1
 (i64.wrap ((Z4 n c).2.1+List.getD ([[(0:Int),(0:Int)],[(1:Int),(0:Int)],[(1:Int),(1:Int)],[(0:Int),(1:Int)]].getD (Int.toNat (0:Int))
 (K.arr (2:Nat) (K.int i64)).dflt) (Int.toNat (0:Int)) (0:Int))) (i64.wrap ((Z4 n c).2.2.1+List.getD ([[(0:Int),(0:Int)],[(1:Int),(0:Int)],
 [(1:Int),(1:Int)],[(0:Int),(1:Int)]].getD (Int.toNat (0:Int)) (K.arr (2:Nat) (K.int i64)).dflt) (Int.toNat (1:Int)) (0:Int)))).1).set (i64.wrap
 ((0:Int)+(1:Int))).toNat (Z1a n (Z4 n c).1 (i64.wrap ((Z4 n c).2.1+List.getD ([[(0:Int),(0:Int)],[(1:Int),(0:Int)],[(1:Int),(1 :
 Int)],[(0:Int),(1:Int)]].getD (i64.wrap ((0:Int)+(1:Int))).toNat (K.arr (2:Nat) (K.int i64)).dflt) (Int.toNat (0:Int)) (0:Int)))
 (i64.wrap ((Z4 n c).2.2.1+List.getD ([[(0:Int),(0:Int)],[(1:Int),(0:Int)],[(1:Int),(1:Int)],[(0:Int),(1:Int)]].getD (i64.wrap ((0 :
 Int)+(1:Int))).toNat (K.arr (2:Nat) (K.int i64)).dflt) (Int.toNat (1:Int)) (0:Int)))).1).set (i64.wrap (i64.wrap ((0:Int)+(1:Int))+(1 :
 Int))).toNat (Z1a n (Z4 n c).1 (i64.wrap ((Z4 n c).2.1+List.getD ([[(0:Int),(0:Int)],[(1:Int),(0:Int)],[(1:Int),(1:Int)],[(0:Int),(1 :
 Int)]].getD (i64.wrap (i64.wrap ((0:Int)+(1:Int))+(1:Int))).toNat (K.arr (2:Nat) (K.int i64)).dflt) (Int.toNat (0:Int)) (0:Int)))
 (i64.wrap ((Z4 n c).2.2.1+List.getD ([[(0:Int),(0:Int)],[(1:Int),(0:Int)],[(1:Int),(1:Int)],[(0:Int),(1:Int)]].getD (i64.wrap
 (i64.wrap ((0:Int)+(1:Int))+(1:Int))).toNat (K.arr (2:Nat) (K.int i64)).dflt) (Int.toNat (1:Int)) (0:Int)))).1).set (i64.wrap
 (i64.wrap (i64.wrap ((0:Int)+(1:Int))+(1:Int))+(1:Int))).toNat (Z1a n (Z4 n c).1 (i64.wrap ((Z4 n c).2.1+List.getD ([[(0 :
 Int),(0:Int)],[(1:Int),(0:Int)],[(1:Int),(1:Int)],[(0:Int),(1:Int)]].getD (i64.wrap (i64.wrap (i64.wrap ((0:Int)+(1:Int))+(1 :
 Int))+(1:Int))).toNat (K.arr (2:Nat) (K.int i64)).dflt) (Int.toNat (0:Int)) (0:Int))) (i64.wrap ((Z4 n c).2.2.1+List.getD ([[(0:Int),(0 :
 Int)],[(1:Int),(0:Int)],[(1:Int),(1:Int)],[(0:Int),(1:Int)]].getD (i64.wrap (i64.wrap (i64.wrap ((0:Int)+(1:Int))+(1:Int))+(1
 : Int))).toNat (K.arr (2:Nat) (K.int i64)).dflt) (Int.toNat (1:Int)) (0:Int)))).1).length=(4:Nat)),∃ (h:(((((List.replicate (4:Nat) ((K.flt
 f64).pair ((K.flt f64).pair (K.flt f64))).dflt).set (Int.toNat (0:Int)) (Z1a n (Z4 n c).1 (i64.wrap ((Z4 n c).2.1 +
 List.getD ([[(0:Int),(0:Int)],[(1:Int),(0:Int)],[(1:Int),(1:Int)],[(0:Int),(1:Int)]].getD (Int.toNat (0:Int)) (K.arr (2:Nat) (K.int i64)).dflt)
 (Int.toNat (0:Int)) (0:Int))) (i64.wrap ((Z4 n c).2.2.1+List.getD ([[(0:Int),(0:Int)],[(1:Int),(0:Int)],[(1:Int),(1:Int)],[(0:Int),(1 :
 Int)]].getD (Int.toNat (0:Int)) (K.arr (2:Nat) (K.int i64)).dflt) (Int.toNat (1:Int)) (0:Int)))).1).set (i64.wrap ((0:Int)+(1:Int))).toNat (Z1a n
 (Z4 n c).1 (i64.wrap ((Z4 n c).2.1+List.getD ([[(0:Int),(0:Int)],[(1:Int),(0:Int)],[(1:Int),(1:Int)],[(0:Int),(1:Int)]].getD
 (i64.wrap ((0:Int)+(1:Int))).toNat (K.arr (2:Nat) (K.int i64)).dflt) (Int.toNat (0:Int)) (0:Int))) (i64.wrap ((Z4 n c).2.2.1+List.getD
 ([[(0:Int),(0:Int)],[(1:Int),(0:Int)],[(1:Int),(1:Int)],[(0:Int),(1:Int)]].getD (i64.wrap ((0:Int)+(1:Int))).toNat (K.arr (2:Nat) (K.int
 i64)).dflt) (Int.toNat (1:Int)) (0:Int)))).1).set (i64.wrap (i64.wrap ((0:Int)+(1:Int))+(1:Int))).toNat (Z1a n (Z4 n c).1
 (i64.wrap ((Z4 n c).2.1+List.getD ([[(0:Int),(0:Int)],[(1:Int),(0:Int)],[(1:Int),(1:Int)],[(0:Int),(1:Int)]].getD (i64.wrap
 (i64.wrap ((0:Int)+(1:Int))+(1:Int))).toNat (K.arr (2:Nat) (K.int i64)).dflt) (Int.toNat (0:Int)) (0:Int))) (i64.wrap ((Z4 n c).2.2.1
 + List.getD ([[(0:Int),(0:Int)],[(1:Int),(0:Int)],[(1:Int),(1:Int)],[(0:Int),(1:Int)]].getD (i64.wrap (i64.wrap ((0:Int)+(1:Int))+(1
 : Int))).toNat (K.arr (2:Nat) (K.int i64)).dflt) (Int.toNat (1:Int)) (0:Int)))).1).set (i64.wrap (i64.wrap (i64.wrap ((0:Int)+(1:Int))
 + (1:Int))+(1:Int))).toNat (Z1a n (Z4 n c).1 (i64.wrap ((Z4 n c).2.1+List.getD ([[(0:Int),(0:Int)],[(1:Int),(0:Int)],[(1:Int),(1 :
 Int)],[(0:Int),(1:Int)]].getD (i64.wrap (i64.wrap (i64.wrap ((0:Int)+(1:Int))+(1:Int))+(1:Int))).toNat (K.arr (2:Nat) (K.int
 i64)).dflt) (Int.toNat (0:Int)) (0:Int))) (i64.wrap ((Z4 n c).2.2.1+List.getD ([[(0:Int),(0:Int)],[(1:Int),(0:Int)],[(1:Int),(1:Int)],
 [(0:Int),(1:Int)]].getD (i64.wrap (i64.wrap (i64.wrap ((0:Int)+(1:Int))+(1:Int))+(1:Int))).toNat (K.arr (2:Nat) (K.int
 i64)).dflt) (Int.toNat (1:Int)) (0:Int)))).1).length=(4:Nat)),post (((((List.replicate (4:Nat) ((K.flt f64).pair ((K.flt f64).pair
 (K.flt f64))).dflt).set (Int.toNat (0:Int)) (Z1a n (Z4 n c).1 (i64.wrap ((Z4 n c).2.1+List.getD ([[(0:Int),(0:Int)],[(1:Int),(0 :
 Int)],[(1:Int),(1:Int)],[(0:Int),(1:Int)]].getD (Int.toNat (0:Int)) (K.arr (2:Nat) (K.int i64)).dflt) (Int.toNat (0:Int)) (0:Int))) (i64.wrap
 ((Z4 n c).2.2.1+List.getD ([[(0:Int),(0:Int)],[(1:Int),(0:Int)],[(1:Int),(1:Int)],[(0:Int),(1:Int)]].getD (Int.toNat (0:Int)) (K.arr (2:Nat)
 (K.int i64)).dflt) (Int.toNat (1:Int)) (0:Int)))).1).set (i64.wrap ((0:Int)+(1:Int))).toNat (Z1a n (Z4 n c).1 (i64.wrap ((Z4 n
 c).2.1+List.getD ([[(0:Int),(0:Int)],[(1:Int),(0:Int)],[(1:Int),(1:Int)],[(0:Int),(1:Int)]].getD (i64.wrap ((0:Int)+(1:Int))).toNat (K.arr
 (2:Nat) (K.int i64)).dflt) (Int.toNat (0:Int)) (0:Int))) (i64.wrap ((Z4 n c).2.2.1+List.getD ([[(0:Int),(0:Int)],[(1:Int),(0:Int)],[(1 :
 Int),(1:Int)],[(0:Int),(1:Int)]].getD (i64.wrap ((0:Int)+(1:Int))).toNat (K.arr (2:Nat) (K.int i64)).dflt) (Int.toNat (1:Int)) (0 :
 Int)))).1).set (i64.wrap (i64.wrap ((0:Int)+(1:Int))+(1:Int))).toNat (Z1a n (Z4 n c).1 (i64.wrap ((Z4 n c).2.1+List.getD ([[(0 :
 Int),(0:Int)],[(1:Int),(0:Int)],[(1:Int),(1:Int)],[(0:Int),(1:Int)]].getD (i64.wrap (i64.wrap ((0:Int)+(1:Int))+(1:Int))).toNat
 (K.arr (2:Nat) (K.int i64)).dflt) (Int.toNat (0:Int)) (0:Int))) (i64.wrap ((Z4 n c).2.2.1+List.getD ([[(0:Int),(0:Int)],[(1:Int),(0:Int)],
 [(1:Int),(1:Int)],[(0:Int),(1:Int)]].getD (i64.wrap (i64.wrap ((0:Int)+(1:Int))+(1:Int))).toNat (K.arr (2:Nat) (K.int i64)).dflt)
 (Int.toNat (1:Int)) (0:Int)))).1).set (i64.wrap (i64.wrap (i64.wrap ((0:Int)+(1:Int))+(1:Int))+(1:Int))).toNat (Z1a n (Z4 n c).1
 (i64.wrap ((Z4 n c).2.1+List.getD ([[(0:Int),(0:Int)],[(1:Int),(0:Int)],[(1:Int),(1:Int)],[(0:Int),(1:Int)]].getD (i64.wrap
 (i64.wrap (i64.wrap ((0:Int)+(1:Int))+(1:Int))+(1:Int))).toNat (K.arr (2:Nat) (K.int i64)).dflt) (Int.toNat (0:Int)) (0:Int)))
 (i64.wrap ((Z4 n c).2.2.1+List.getD ([[(0:Int),(0:Int)],[(1:Int),(0:Int)],[(1:Int),(1:Int)],[(0:Int),(1:Int)]].getD (i64.wrap
 (i64.wrap (i64.wrap ((0:Int)+(1:Int))+(1:Int))+(1:Int))).toNat (K.arr (2:Nat) (K.int i64)).dflt) (Int.toNat (1:Int)) (0:Int)))).1,
 true,()))
theorem Z12e (n:Int) (c:Int) (h:II n c):Zjk  n c (fun r=>r=Zo n c):=by
 obtain ⟨hn,hc⟩:=h
 refine ⟨⟨hn,hc⟩,Br.intro (fun e=>?_) fun e=>?_⟩
 ·refine ⟨⟨by decide,by decide⟩,by decide,?_⟩
  have ok:Zd n c=false:=by
   cases q:Zd n c with
   | false=>rfl
   | true=>unfold Z4 at e; rw [if_pos q] at e; cases e
  unfold Zo; rw [if_neg (by rw [ok]; decide)]
 have ok:Zd n c=true:=by
  cases q:Zd n c with
  | true=>rfl
  | false=>unfold Z4 at e; rw [if_neg (by rw [q]; decide)] at e; cases e
 obtain ⟨h1,h2,h3,h4,h5,h6⟩:=Zd5 ok
 obtain ⟨r1,r2,r3,r4,r5,r6⟩:=Zsc ok
 have hp:Z4 n c=(c / (n*n),c % n,c / n % n,true,()):=by unfold Z4; rw [if_pos ok]
 have hf:I64 (c / (n*n)):=⟨by omega,by omega⟩
 have ho:∀ x,0≤x→x≤33→I64 x:=fun x a b=>⟨by omega,by omega⟩
 have w0:∀ x,0≤x→x≤33→i64.wrap (x+0)=x:=fun x a b=>by rw [Int.add_zero,wi (ho x a b)]
 have w1:∀ x,0≤x→x≤32→i64.wrap (x+1)=x+1:=fun x a b=>wi (ho _ (by omega) (by omega))
 have hC:∀ i j,0≤i→i≤n→0≤j→j≤n→Z1a n (c / (n*n)) i j=(Za1 n (c / (n*n)) i j,true,()):=by
  intro i j a1 a2 a3 a4
  unfold Z1a
  rw [if_pos]
  unfold Z7o
  rw [Z3k.2 ⟨h1,h2⟩,decide_eq_true (by omega),decide_eq_true (by omega),decide_eq_true (by omega),decide_eq_true (by omega),decide_eq_true (by omega),decide_eq_true (by omega)]
  rfl
 have a0:=w0 (c % n) (by omega) (by omega)
 have a1:=w1 (c % n) (by omega) (by omega)
 have b0:=w0 (c / n % n) (by omega) (by omega)
 have b1:=w1 (c / n % n) (by omega) (by omega)
 have A0:I64 (i64.wrap (c % n+0)):=by rw [a0]; exact ho _ (by omega) (by omega)
 have A1:I64 (i64.wrap (c % n+1)):=by rw [a1]; exact ho _ (by omega) (by omega)
 have B0:I64 (i64.wrap (c / n % n+0)):=by rw [b0]; exact ho _ (by omega) (by omega)
 have B1:I64 (i64.wrap (c / n % n+1)):=by rw [b1]; exact ho _ (by omega) (by omega)
 rw [hp]
 refine ⟨by decide,⟨by decide,by decide⟩,⟨by decide,by decide,by decide⟩,⟨by decide,by decide,by decide⟩,⟨hn,hf,A0,B0⟩,⟨by decide,by decide,Nat.le_refl 4⟩,
  by decide,⟨by decide,by decide⟩,⟨by decide,by decide,by decide⟩,⟨by decide,by decide,by decide⟩,⟨hn,hf,A1,B0⟩,⟨by decide,by decide,Nat.le_refl 4⟩,
  by decide,⟨by decide,by decide⟩,⟨by decide,by decide,by decide⟩,⟨by decide,by decide,by decide⟩,⟨hn,hf,A1,B1⟩,⟨by decide,by decide,Nat.le_refl 4⟩,
  by decide,⟨by decide,by decide⟩,⟨by decide,by decide,by decide⟩,⟨by decide,by decide,by decide⟩,⟨hn,hf,A0,B1⟩,⟨by decide,by decide,Nat.le_refl 4⟩,rfl,⟨rfl,rfl⟩,rfl,?_⟩
 show ([(Z1a n (c / (n*n)) (i64.wrap (c % n+0)) (i64.wrap (c / n % n+0))).1,(Z1a n (c / (n*n)) (i64.wrap (c % n+1)) (i64.wrap (c / n % n+0))).1,(Z1a n (c / (n*n)) (i64.wrap (c % n+1)) (i64.wrap (c / n % n+1))).1,(Z1a n (c / (n*n)) (i64.wrap (c % n+0)) (i64.wrap (c / n % n+1))).1],true,())=_
 rw [a0,a1,b0,b1,hC _ _ (by omega) (by omega) (by omega) (by omega),hC _ _ (by omega) (by omega) (by omega) (by omega),hC _ _ (by omega) (by omega) (by omega) (by omega),hC _ _ (by omega) (by omega) (by omega) (by omega)]
 unfold Zo; rw [if_pos ok]
def Zt2:=fun (n c:Int) (post:Int × Unit→Prop)=>∃ (h:II n c),∃ (h:(List.replicate (4:Nat) ((K.flt f64).pair ((K.flt f64).pair
 (K.flt f64))).dflt).length=(4:Nat)∧(Zo n c).1.length=(4:Nat)),Br (!(Zo n c).2.1) (post ((0:Int),())) (∃ (h:(0:Int)≤(2:Int)∧(2 :
 Int)<(↑(4:Nat):Int)∧(4:Nat)≤(Zo n c).1.length),∃ (h:(0:Int)≤(0:Int)∧(0:Int)<(↑(4:Nat):Int)∧(4:Nat)≤(Zo n c).1.length),∃ (h:WV2
 ((Zo n c).1.getD (Int.toNat (2:Int)) ((K.flt f64).pair ((K.flt f64).pair (K.flt f64))).dflt) ((Zo n c).1.getD (Int.toNat (0 :
 Int)) ((K.flt f64).pair ((K.flt f64).pair (K.flt f64))).dflt)),∃ (h:(0:Int)≤(3:Int)∧(3:Int)<(↑(4:Nat):Int)∧(4:Nat) ≤
 (Zo n c).1.length),∃ (h:(0:Int)≤(1:Int)∧(1:Int)<(↑(4:Nat):Int)∧(4:Nat)≤(Zo n c).1.length),∃ (h:WV2 ((Zo n c).1.getD (Int.toNat (3 :
 Int)) ((K.flt f64).pair ((K.flt f64).pair (K.flt f64))).dflt) ((Zo n c).1.getD (Int.toNat (1:Int)) ((K.flt f64).pair
 ((K.flt f64).pair (K.flt f64))).dflt)),∃ (h:True),∃ (h:WV (Zsa (Z95 ((Zo n c).1.getD (Int.toNat (2:Int)) ((K.flt
 f64).pair ((K.flt f64).pair (K.flt f64))).dflt) ((Zo n c).1.getD (Int.toNat (0:Int)) ((K.flt f64).pair ((K.flt
 f64).pair (K.flt f64))).dflt)).1 (Z95 ((Zo n c).1.getD (Int.toNat (3:Int)) ((K.flt f64).pair ((K.flt f64).pair
 (K.flt f64))).dflt) ((Zo n c).1.getD (Int.toNat (1:Int)) ((K.flt f64).pair ((K.flt f64).pair (K.flt
 f64))).dflt)).1).1),∀ (a:Nat),FRes f64 (f64.format.mul (Z69 (Zsa (Z95 ((Zo n c).1.getD (Int.toNat (2:Int)) ((K.flt
 f64).pair ((K.flt f64).pair (K.flt f64))).dflt) ((Zo n c).1.getD (Int.toNat (0:Int)) ((K.flt f64).pair ((K.flt
 f64).pair (K.flt f64))).dflt)).1 (Z95 ((Zo n c).1.getD (Int.toNat (3:Int)) ((K.flt f64).pair ((K.flt f64).pair
 (K.flt f64))).dflt) ((Zo n c).1.getD (Int.toNat (1:Int)) ((K.flt f64).pair ((K.flt f64).pair (K.flt
 f64))).dflt)).1).1).1 (4602678819172646912:Nat)) a→∀ (a_1:Nat),FRes f64 (f64.format.mul a (4742290407621132288:Nat)) a_1→∃ (h :
 W64 a_1),post (imax (Zh9 a_1).1 (1:Int),()))
theorem Z1eh (n:Int) (c:Int) (h:II n c):Zt2  n c (fun r=>r=Z10f n c):=by
 have g0:∀ i:Nat,WV ((Zo n c).fst.getD i ((K.flt f64).pair ((K.flt f64).pair (K.flt f64))).dflt):=Z1md n c
 have hl:=Zwh n c
 refine ⟨h,⟨by decide,hl⟩,?_⟩
 rw [hl]
 refine Br.intro (fun e=>?_) fun e=>?_
 ·rw [Znu] at e
  exact congrArg r1 (by unfold Z14; rw [if_neg (by intro q; rw [q] at e; cases e)])
 rw [Znu] at e
 have ok:Zd n c=true:=by simpa using e
 refine ⟨⟨by decide,by decide,Nat.le_refl 4⟩,⟨by decide,by decide,Nat.le_refl 4⟩,⟨g0 2,g0 0⟩,⟨by decide,by decide,Nat.le_refl 4⟩,⟨by decide,by decide,Nat.le_refl 4⟩,⟨g0 3,g0 1⟩,trivial,Z1p9 _ _,?_⟩
 intro x hx y hy
 obtain ⟨x1,x2⟩:=fmul hx
 obtain ⟨y1,y2⟩:=fmul hy
 refine ⟨y2,congrArg r1 ?_⟩
 have hs:Zo n c=([Z2k n c 0 0,Z2k n c 1 0,Z2k n c 1 1,Z2k n c 0 1],true,()):=by
  unfold Zo; rw [if_pos ok]; unfold Z2k; rw [Int.add_zero,Int.add_zero]
 have hq:[Z2k n c 0 0,Z2k n c 1 0,Z2k n c 1 1,Z2k n c 0 1]=(Zo n c).1:=by rw [hs]
 have hx1:Z5 x=mulQ (Z10e n c) Z3c:=by
  rw [x1]
  exact congrArg (fun z=>mulQ z 4602678819172646912) (Z1st (z:=(0,0,0)) hq.symm)
 have hy1:Z5 y=mulQ (mulQ (Z10e n c) Z3c) Zxu:=by
  rw [y1]
  have u:Z5 x=Z5 (mulQ (Z10e n c) Z3c):=by rw [hx1,Z3o]
  exact Z3x u rfl
 show imax (Z5h y).1 1=Z14 n c
 unfold Z14
 rw [if_pos ok,Z1g4 y2,hy1]
end Go.Lift

namespace Go.Lift
def Zwt:=fun (a b:Nat) (post:Bool × Unit→Prop)=>∃ (h:True),∃ (h:True),∀ (a_1:Bool),a_1=((Z8c a).fst==(Z8c b).fst)→post (a_1,())
theorem Z1gc (a:Nat) (b:Nat):Zwt  a b (fun r=>r=Z1bg a b):=by
 refine ⟨trivial,trivial,?_⟩
 rintro _ rfl
 exact congrArg r1 (Z1hj a b)
def Zp0:=fun (post:Nat × Unit→Prop)=>∃ (h:True),post ((Zuu (9221120237041090561:Int)).fst,())
theorem Z19s  : Zp0   (fun r=>r=qnR):=by
 exact ⟨trivial,rfl⟩
def Zwu:=fun (a:Nat) (post:Nat × Unit→Prop)=>∃ (h:True),∃ (h:True),post ((Zuu (Go.bits Go.BinOp.andNot u64 (Z8c a).fst (9223372036854775808 :
 Int))).fst,())
theorem Z1gd (a:Nat) (h:W64 a):Zwu  a (fun r=>r=absR a):=by
 refine ⟨trivial,trivial,?_⟩
 show r1 (Go.bits .andNot .u64 (a:Int) 9223372036854775808).toNat=_
 rw [Z1g0 h]; rfl
def Zp1:=fun (a:Nat) (post:Bool × Unit→Prop)=>∀ (a_1:Bool),a_1=fcmp Go.BinOp.neq (f64.format.order a a)→post (a_1,())
theorem Z19t (a:Nat):Zp1  a (fun r=>r=nanR a):=by
 rintro _ rfl
 exact congrArg r1 (Z6q a)
def Zp2:=fun (a:Nat) (post:Nat × Unit→Prop)=>∀ (a_1:Bool),a_1=fcmp Go.BinOp.neq (f64.format.order a a)→Br a_1 (∃ (h:True),post (qnR.fst,
 ())) (∀ (a_2:Bool),a_2=fcmp Go.BinOp.eql (f64.format.order a (0:Nat))→Br a_2 (post ((0:Nat),())) (post (a,())))
theorem Z19u (a:Nat):Zp2  a (fun r=>r=Zp a):=by
 rintro _ rfl
 refine Br.intro (fun e=>⟨trivial,?_⟩) fun e=>?_
 ·have e:isN a=true:=(Z6q a).symm.trans e
  exact congrArg r1 (by unfold Z11; rw [if_pos e]; rfl)
 ·have e:isN a=false:=(Z6q a).symm.trans e
  rintro _ rfl
  refine Br.intro (fun z=>?_) fun z=>?_
  ·have z:=(Z1cu a).symm.trans z
   rw [e] at z
   exact congrArg r1 (by unfold Z11; rw [e,if_neg (by simp),if_pos (by simpa using z)])
  ·have z:=(Z1cu a).symm.trans z
   rw [e] at z
   exact congrArg r1 (by unfold Z11; rw [e,if_neg (by simp),if_neg (by simpa using z)])
def Zt3:=fun (a:Nat) (post:Nat × Unit→Prop)=>∃ (h:True),∀ (a_1:Bool),a_1=(nanR a).fst→Br a_1 (∃ (h:True),post ((Zuu (9221120237041090561 :
 Int)).fst,())) (post (a,()))
theorem Z1ei (a:Nat):Zt3  a (fun r=>r=Z1cw a):=by
 refine ⟨trivial,?_⟩
 rintro _ rfl
 refine Br.intro (fun e=>⟨trivial,?_⟩) fun e=>?_
 ·have e:isN a=true:=e
  exact congrArg r1 (by unfold Z5; rw [if_pos e]; rfl)
 ·have e:isN a=false:=e
  exact congrArg r1 (by unfold Z5; rw [e]; rfl)
def Zhq:=fun (a:Nat) (post:Int × Unit→Prop)=>∃ (h:True),∃ (h:(0:Int)≤(1:Int)),post (u64.wrap ((Z8c a).fst*(2:Int) ^ Min.min
 (Int.toNat (1:Int)) u64.bits),())
theorem Zy6 (a:Nat) (h:W64 a):Zhq  a (fun r=>r=Z1bh a):=by
 refine ⟨trivial,by decide,?_⟩
 refine congrArg r1 ?_
 show u64.wrap ((a:Int)*2 ^ 1)=_
 rw [IntKind.wrap_u64]; unfold mag2 magI Z0 sw; omega
def Zp3:=fun (a:Nat) (post:Int × Unit→Prop)=>∃ (h:True),∀ (a_1:Bool),a_1=decide ((Z8c a).fst≥(9223372036854775808:Int))→Br a_1 (post (Go.bits
 Go.BinOp.xor u64 (if u64.signed=true then (-1:Int) else u64.max) (Z8c a).fst,())) (post (Go.bits Go.BinOp.or u64 (Z8c a).fst
 (9223372036854775808:Int),()))
theorem Z19v (a:Nat) (h:W64 a):Zp3  a (fun r=>r=Z107 a):=by
 refine ⟨trivial,?_⟩
 rintro _ rfl
 refine Br.intro (fun e=>?_) fun e=>?_
 ·have e:9223372036854775808≤a:=by have:=of_decide_eq_true e; dsimp only [Z8c,r1] at this; omega
  refine congrArg r1 ?_
  show Go.bits .xor .u64 _ (a:Int)=_
  unfold Zdw; rw [if_pos ((Zl4 h).2 e)]
  exact Z1p1 h
 ·have e:a<9223372036854775808:=by have:=of_decide_eq_false e; dsimp only [Z8c,r1] at this; omega
  refine congrArg r1 ?_
  show Go.bits .or .u64 (a:Int) 9223372036854775808=_
  unfold Zdw; rw [if_neg (by rw [Zl4 h]; omega)]
  exact Z1r5 e
def Zbv:=fun (a:Int) (post:Bool × Unit→Prop)=>∀ (a_1:Bool),a_1=(a != a)→post (a_1,())
theorem Zqt (a:Int):Zbv  a (fun r=>r=noR a):=by
 rintro _ rfl
 exact congrArg r1 (by simp)
def Za9:=fun (a b:Int) (post:Int × Unit→Prop)=>∃ (h:True),∀ (a_1:Bool),a_1=(noR a).fst→∃ (h:True),∀ (a_2:Bool),a_2=(noR b).fst→Br a_1
 (Br a_2 (post ((0:Int),())) (post ((-1:Int),()))) (Br a_2 (post ((1:Int),())) (∀ (a_3:Bool),a_3=decide (a<b)→Br a_3 (post ((-1:Int),())) (∀ (a_4:Bool),a_4
 = decide (a > b)→Br a_4 (post ((1:Int),())) (post ((0:Int),())))))
theorem Zlm (a:Int) (b:Int):Za9  a b (fun r=>r=cmpR a b):=by
 refine ⟨trivial,?_⟩
 rintro _ rfl
 refine ⟨trivial,?_⟩
 rintro _ rfl
 refine Br.intro (fun e=>by cases e) fun _=>Br.intro (fun e=>by cases e) fun _=>?_
 rintro _ rfl
 refine Br.intro (fun e=>?_) fun e=>?_
 ·exact congrArg r1 (by unfold cmpI; rw [if_pos (of_decide_eq_true e)])
 ·rintro _ rfl
  refine Br.intro (fun f=>?_) fun f=>?_
  ·exact congrArg r1 (by unfold cmpI; rw [if_neg (of_decide_eq_false e),if_pos (of_decide_eq_true f)])
  ·exact congrArg r1 (by unfold cmpI; rw [if_neg (of_decide_eq_false e),if_neg (of_decide_eq_false f)])
def Zp4:=fun (a b:Nat) (post:Int × Unit→Prop)=>∃ (h:W64 a),∃ (h:W64 b),∃ (h:True),post ((cmpR (Z107 a).fst (Z107 b).fst).fst,())
theorem Z19w (a:Nat) (b:Nat) (h:W2 a b):Zp4  a b (fun r=>r=ordR a b):=by
 exact ⟨h.1,h.2,trivial,rfl⟩
def Zp5:=fun (a:List Int) (post:Int × Unit→Prop)=>HIs [] []∧∃ (I:Int × Unit→Unit→Prop),∃ (μ:Int × Unit→Unit→Nat),I ((0:Int),()) ()∧∀ (x :
 Int × Unit) (y:Unit),I x y→∀ (a_1:Bool),a_1=decide (x.fst<(↑a.length:Int))→Br a_1 (∃ (h:(0:Int)≤x.fst∧x.fst<(↑a.length:Int)),∀ (a_2:Bool),a_2 =
 (a.getD x.fst.toNat (0:Int) != (0:Int))→Br a_2 (post (a.getD x.fst.toNat (0:Int),())) (HIs [] []∧I (i64.wrap (x.fst+(1:Int)),()) ()∧μ (i64.wrap
 (x.fst+(1:Int)),()) ()<μ x y)) (post ((0:Int),()))
theorem Z19x (a:List Int) (w:KS.wf [.slice (.int .i64)] (a,())):Zp5  a (fun r=>r=orR a):=by
 have hl:a.length≤maxN:=w.1.1
 unfold maxN at hl
 refine ⟨rfl,fun x _=>∃ i:Nat,x.1=i∧i≤a.length∧Zca (a.drop i)=Zca a,fun x _=>a.length - x.1.toNat,⟨0,rfl,by omega,rfl⟩,?_⟩
 rintro ⟨_,⟨⟩⟩ _ ⟨i,hi,hil,hn⟩
 dsimp only at hi
 subst hi
 rintro _ rfl
 refine Br.intro (fun e=>?_) fun e=>?_
 ·have e:i<a.length:=by have:=of_decide_eq_true e; dsimp only at this; omega
  have hd:a.drop i=a.getD i 0 :: a.drop (i+1):=by
   rw [List.drop_eq_getElem_cons e,List.getD_eq_getElem?_getD,List.getElem?_eq_getElem e]; rfl
  rw [hd] at hn
  simp only [Int.toNat_natCast]
  refine ⟨⟨by omega,by omega⟩,?_⟩
  rintro _ rfl
  refine Br.intro (fun z=>?_) fun z=>⟨rfl,⟨i+1,?_,by omega,?_⟩,?_⟩
  ·have z:a.getD i 0≠0:=by simpa using z
   refine congrArg r1 ?_
   rw [← hn]; unfold Zca; rw [if_pos z]
  ·rw [wi ⟨by omega,by omega⟩]; omega
  ·have z:a.getD i 0=0:=by simpa using z
   rw [← hn,z]; rfl
  ·rw [wi ⟨by omega,by omega⟩]; omega
 ·have e:a.length≤i:=by have:=of_decide_eq_false e; dsimp only at this; omega
  refine congrArg r1 ?_
  rw [← hn,List.drop_eq_nil_of_le e]; rfl
def Zjl:=fun (a b:Nat) (post:Int × Unit→Prop)=>∃ (h:W64 a),∃ (h:W64 b),∃ (h:True),∃ (h:W2 a b),∃ (h:True),post ((orR [(cmpR (Z1bh a).fst (Z1bh
 b).fst).fst,(ordR a b).fst]).fst,())
theorem Z12f (a:Nat) (b:Nat) (h:W2 a b):Zjl  a b (fun r=>r=Znp a b):=by
 refine ⟨h.1,h.2,trivial,h,trivial,?_⟩
 refine congrArg r1 ?_
 unfold cmpM
 show Zca [cmpI (mag2 a) (mag2 b),ordF a b]=_
 simp only [Zca]
 split
 ·rfl
 ·split
  ·rfl
  ·rename_i z; simpa using (by simpa using z:ordF a b=0).symm
def Zp6:=fun (a:Nat) (b:Int) (post:Bool × Unit→Prop)=>∀ (a_1:Bool),a_1=(b==(0:Int))→Br a_1 (∃ (h:W64 a),∀ (a_2:Bool),a_2=fcmp Go.BinOp.gtr
 (f64.format.order (absR a).fst (9218868437227405311:Nat))→post (a_2,())) (∀ (a_2:Bool),a_2=decide (b<(0:Int))→Br a_2 (∀ (a_3:Bool),a_3=fcmp
 Go.BinOp.gtr (f64.format.order (Go.Op.negFloat f64 a) (9218868437227405311:Nat))→post (a_3,())) (∀ (a_3:Bool),a_3=fcmp Go.BinOp.gtr
 (f64.format.order a (9218868437227405311:Nat))→post (a_3,())))
theorem Z19y (a:Nat) (b:Int) (h:WI a b):Zp6  a b (fun r=>r=Z108 a b):=by
 have h:W64 a:=h
 rintro _ rfl
 refine Br.intro (fun e=>⟨h,?_⟩) fun e=>?_
 ·have e:b=0:=by simpa using e
  rintro _ rfl
  refine congrArg r1 ?_
  show fcmp .gtr (Ieee.double.order (Z0 a) 9218868437227405311)=_
  unfold infS; rw [if_pos e,Z1cx]
  have:=Z14h a
  have e1:Z0 (Z0 a)=Z0 a:=Zgk this
  have e2:sgn (Z0 a)=false:=by rw [Z1hi (by unfold W64; omega)]; simp; omega
  rw [e1,e2]; simp
 ·have e:b≠0:=by simpa using e
  rintro _ rfl
  refine Br.intro (fun f=>?_) fun f=>?_
  ·have f:b<0:=of_decide_eq_true f
   rintro _ rfl
   refine congrArg r1 ?_
   show fcmp .gtr (Ieee.double.order (negF a) 9218868437227405311)=_
   unfold infS; rw [if_neg e,if_pos f,Z1cx,(Zs9 h).1,Zxs h]; simp
  ·have f:¬ b<0:=of_decide_eq_false f
   rintro _ rfl
   refine congrArg r1 ?_
   show fcmp .gtr (Ieee.double.order a 9218868437227405311)=_
   unfold infS; rw [if_neg e,if_neg f,Z1cx]
end Go.Lift

namespace Go.Lift
open Go.Proofs
def Zwv:Cx:=⟨Z1p Z1x,Z1u [],SqG⟩
theorem Z15k:CxOk Tryz.prog Zwv:=⟨Zl Zv,fun f c h=>by cases h⟩
def Z6v:Con:=.det [.flt .f64] [.snap (.int .u64)] (fun _=>True) (fun x=>Z8c x.1)
theorem Zb8:Z6v.holds Tryz.prog SqG 100:=by
 refine Z1jw (fn:=Tryz.f100) Tryz.func100 (by decide) rfl rfl (by kernel_rfl)
def Zww:Cx:=addC 100 Z6v Zwv
theorem Z15l:CxOk Tryz.prog Zww:=Zk Z15k Zb8
def Z7z:Con:=.det [.int .u64] [.snap (.flt .f64)] (fun _=>True) (fun x=>Zuu x.1)
theorem Zhr:Z7z.holds Tryz.prog SqG 200:=by
 refine Z1jx (fn:=Tryz.f200) Tryz.func200 (by decide) rfl rfl (by kernel_rfl)
def Zwx:Cx:=addC 200 Z7z Zww
theorem Zck:CxOk Tryz.prog Zwx:=Zk Z15l Zhr
def Zp7:Con:=.rel [.flt .f64] [.snap (.flt .f64)] (fun _=>True) (fun x r=>Ziu x.1 r) (fun x h=>Z1hh (Z1hf _) (Z14e _))
theorem Z19z:Zp7.holds Tryz.prog SqG 246:=by
 refine Z1pu (fn:=Tryz.f246) Tryz.func246 (by decide) rfl rfl (by kernel_rfl)
def Zhs:Con:=.det [.flt .f64,.flt .f64] [.snap .bool] (fun _=>True) (fun x=>Z1bg x.1 x.2.1)
theorem Zt4:SqH Zhs 44 :=
 dP Zck Z3 Zb nHn Tryz.func44 (fun x p=>Zwt  x.1 x.2.1 p) fun x _ _=>Z1gc  x.1 x.2.1
def Zcl:Con:=.det [] [.snap (.flt .f64)] (fun _=>True) (fun x=>qnR)
theorem Zln:SqH Zcl 172 :=
 dP Zck Z3 Zb nHn Tryz.func172 (fun x p=>Zp0   p) fun x _ _=>Z19s
def Zwy:Cx:=addC 172 Zcl Zwx
theorem Zlo:CxOk Tryz.prog Zwy:=Zk Zck Zln
def Z80:Con:=.det [.flt .f64] [.snap (.flt .f64)] (fun x=>W64 x.1) (fun x=>absR x.1)
theorem Zb9:SqH Z80 152 :=
 dP Zlo Z3 Zb nHn Tryz.func152 (fun x p=>Zwu  x.1 p) fun x h _=>Z1gd  x.1 h
def Zwz:Cx:=addC 152 Z80 Zwy
theorem Zlp:CxOk Tryz.prog Zwz:=Zk Zlo Zb9
def Zcm:Con:=.det [.flt .f64] [.snap .bool] (fun _=>True) (fun x=>nanR x.1)
theorem Zlq:SqH Zcm 201 :=
 dP Zlp Z3 Zb nHn Tryz.func201 (fun x p=>Zp1  x.1 p) fun x _ _=>Z19t  x.1
def Zx0:Cx:=addC 201 Zcm Zwz
theorem Z8r:CxOk Tryz.prog Zx0:=Zk Zlp Zlq
def Z3u:Con:=.det [.flt .f64] [.snap (.flt .f64)] (fun _=>True) (fun x=>Zp x.1)
theorem Z4v:SqH Z3u 99 :=
 dP Z8r Z3 Zb nHn Tryz.func99 (fun x p=>Zp2  x.1 p) fun x _ _=>Z19u  x.1
def Zp8:Con:=.det [.flt .f64] [.snap (.flt .f64)] (fun _=>True) (fun x=>Z1cw x.1)
theorem Z1a0:SqH Zp8 276 :=
 dP Z8r Z3 Zb nHn Tryz.func276 (fun x p=>Zt3  x.1 p) fun x _ _=>Z1ei  x.1
def Zff:Con:=.det [.flt .f64] [.snap (.int .u64)] (fun x=>W64 x.1) (fun x=>Z1bh x.1)
theorem Zvr:SqH Zff 250 :=
 dP Z8r Z3 Zb nHn Tryz.func250 (fun x p=>Zhq  x.1 p) fun x h _=>Zy6  x.1 h
def Zt5:Cx:=addC 250 Zff Zx0
theorem Zjm:CxOk Tryz.prog Zt5:=Zk Z8r Zvr
def Zlr:Con:=.det [.flt .f64] [.snap (.int .u64)] (fun x=>W64 x.1) (fun x=>Z107 x.1)
theorem Z15m:SqH Zlr 242 :=
 dP Zjm Z3 Zb nHn Tryz.func242 (fun x p=>Zp3  x.1 p) fun x h _=>Z19v  x.1 h
def Zt6:Cx:=addC 242 Zlr Zt5
theorem Zjn:CxOk Tryz.prog Zt6:=Zk Zjm Z15m
def Zba:Con:=.det [.int .u64] [.snap .bool] (fun _=>True) (fun x=>noR x.1)
theorem Zob:SqH Zba 272 :=
 dP Zjn Z3 Zb nHn Tryz.func272 (fun x p=>Zbv  x.1 p) fun x _ _=>Zqt  x.1
def Zt7:Cx:=addC 272 Zba Zt6
theorem Zjo:CxOk Tryz.prog Zt7:=Zk Zjn Zob
def Z9b:Con:=.det [.int .u64,.int .u64] [.snap (.int .i64)] (fun _=>True) (fun x=>cmpR x.1 x.2.1)
theorem Zkr:SqH Z9b 241 :=
 dP Zjo Z3 Zb nHn Tryz.func241 (fun x p=>Za9  x.1 x.2.1 p) fun x _ _=>Zlm  x.1 x.2.1
def Zt8:Cx:=addC 241 Z9b Zt7
theorem Zjp:CxOk Tryz.prog Zt8:=Zk Zjo Zkr
def Z8s:Con:=.det [.flt .f64,.flt .f64] [.snap (.int .i64)] (fun x=>W2 x.1 x.2.1) (fun x=>ordR x.1 x.2.1)
theorem Zcn:SqH Z8s 204 :=
 dP Zjp Z3 Zb nHn Tryz.func204 (fun x p=>Zp4  x.1 x.2.1 p) fun x h _=>Z19w  x.1 x.2.1 h
def Zt9:Cx:=addC 204 Z8s Zt8
theorem Zjq:CxOk Tryz.prog Zt9:=Zk Zjp Zcn
def Zls:Con:=.det [.slice (.int .i64)] [.snap (.int .i64)] (fun _=>True) (fun x=>orR x.1)
theorem Z15n:SqH Zls 249 :=
 dP Zjq Z3 Zb ({ loops:=fun k=>match k with | 3=>some { ls:=[(.slot 8,.data (.int .i64))],os:=[] } | _=>none,joins:=fun _=>none,named:=true }) Tryz.func249 (fun x p=>Zp5  x.1 p) fun x _ w=>Z19x  x.1 w
def Z1ej:Cx:=addC 249 Zls Zt9
theorem Zjr:CxOk Tryz.prog Z1ej:=Zk Zjq Z15n
def Zht:Con:=.det [.flt .f64,.flt .f64] [.snap (.int .i64)] (fun x=>W2 x.1 x.2.1) (fun x=>Znp x.1 x.2.1)
theorem Zy7:SqH Zht 248 :=
 dP Zjr Z3 Zb nHn Tryz.func248 (fun x p=>Zjl  x.1 x.2.1 p) fun x h _=>Z12f  x.1 x.2.1 h
def Zco:Con:=.det [.flt .f64,.int .i64] [.snap .bool] (fun x=>WI x.1 x.2.1) (fun x=>Z108 x.1 x.2.1)
theorem Zlt:SqH Zco 240 :=
 dP Zjr Z3 Zb nHn Tryz.func240 (fun x p=>Zp6  x.1 x.2.1 p) fun x h _=>Z19y  x.1 x.2.1 h
end Go.Lift

namespace Go.Lift
def Zta:=fun (a b c:Nat) (post:(Nat × Nat × Nat) × Unit→Prop)=>∃ (h:True),∃ (h:True),∃ (h:True),post (((Zp a).fst,(Zp b).fst,(Zp c).fst),
 ())
theorem Z1ek (a:Nat) (b:Nat) (c:Nat):Zta  a b c (fun r=>r=Z68 a b c):=by
 exact ⟨trivial,trivial,trivial,rfl⟩
def Ztb:=fun (a b:Nat × Nat × Nat) (post:(Nat × Nat × Nat) × Unit→Prop)=>∀ (a_1:Nat),FRes f64 (f64.format.sub a.fst b.fst) a_1→∀
 (a_2:Nat),FRes f64 (f64.format.sub a.snd.fst b.snd.fst) a_2→∀ (a_3:Nat),FRes f64 (f64.format.sub a.snd.snd b.snd.snd)
 a_3→∃ (h:True),post (((Z68 a_1 a_2 a_3).fst.fst,(Z68 a_1 a_2 a_3).fst.snd.fst,(Z68 a_1 a_2 a_3).fst.snd.snd),())
theorem Z1el (a:Nat × Nat × Nat) (b:Nat × Nat × Nat) (h:WV2 a b):Ztb  a b (fun r=>r=Z95 a b):=by
 intro x hx y hy z hz
 exact ⟨trivial,congrArg r1 (Zh7 (fsub hx).1 (fsub hy).1 (fsub hz).1)⟩
def Ztc:=fun (a b:Nat × Nat × Nat) (post:(Nat × Nat × Nat) × Unit→Prop)=>∀ (a_1:Nat),FRes f64 (f64.format.mul a.snd.fst b.snd.snd)
 a_1→∀ (a_2:Nat),FRes f64 (f64.format.mul a.snd.snd b.snd.fst) a_2→∀ (a_3:Nat),FRes f64 (f64.format.sub a_1 a_2) a_3 →
 ∀ (a_4:Nat),FRes f64 (f64.format.mul a.snd.snd b.fst) a_4→∀ (a_5:Nat),FRes f64 (f64.format.mul a.fst b.snd.snd) a_5→∀
 (a_6:Nat),FRes f64 (f64.format.sub a_4 a_5) a_6→∀ (a_7:Nat),FRes f64 (f64.format.mul a.fst b.snd.fst) a_7→∀ (a_8 :
 Nat),FRes f64 (f64.format.mul a.snd.fst b.fst) a_8→∀ (a:Nat),FRes f64 (f64.format.sub a_7 a_8) a→∃ (h:True),post
 (((Z68 a_3 a_6 a).fst.fst,(Z68 a_3 a_6 a).fst.snd.fst,(Z68 a_3 a_6 a).fst.snd.snd),())
theorem Z1em (a:Nat × Nat × Nat) (b:Nat × Nat × Nat):Ztc  a b (fun r=>r=Zsa a b):=by
 intro x1 h1 x2 h2 x3 h3 x4 h4 x5 h5 x6 h6 x7 h7 x8 h8 x9 h9
 exact ⟨trivial,congrArg r1 (Zh7 (Z14j (fmul h1).1 (fmul h2).1 (fsub h3).1) (Z14j (fmul h4).1 (fmul h5).1 (fsub h6).1) (Z14j (fmul h7).1 (fmul h8).1 (fsub h9).1))⟩
def Ztd:=fun (a:Nat) (post:Nat × Unit→Prop)=>∃ (h:True),∀ (a_1:Nat × Unit),Ziu a a_1→post (a_1.fst,())
theorem Z1en (a:Nat):Ztd  a (fun r=>Ziu a r):=by
 exact ⟨trivial,fun x hx=>hx⟩
def Zp9:=fun (a:Nat × Nat × Nat) (post:Nat × Unit→Prop)=>∀ (a_1:Nat),FRes f64 (f64.format.mul a.fst a.fst) a_1→∀ (a_2:Nat),FRes
 f64 (f64.format.mul a.snd.fst a.snd.fst) a_2→∀ (a_3:Nat),FRes f64 (f64.format.mul a.snd.snd a.snd.snd) a_3→∃ (h:W3 a_1
 a_2 a_3),∃ (h:True),∀ (a:Nat × Unit),Ziu (Z109 a_1 a_2 a_3).fst a→∃ (h:True),post ((Zp a.fst).fst,())
theorem Z1a1 (a:Nat × Nat × Nat) (h:WV a):Zp9  a (fun r=>r=Z69 a):=by
 intro x hx y hy z hz
 exact ⟨⟨(fmul hx).2,(fmul hy).2,(fmul hz).2⟩,trivial,fun w hw=>⟨trivial,congrArg r1 (length_eq (fmul hx).1 (fmul hy).1 (fmul hz).1 hw.1)⟩⟩
def Z12g:=fun (a b:Nat × Nat × Nat) (post:Nat × Unit→Prop)=>∃ (h:WV2 (a.fst,a.snd.fst,a.snd.snd) (b.fst,b.snd.fst,b.snd.snd)),∃ (h:WV (Z95 (a.fst,
 a.snd.fst,a.snd.snd) (b.fst,b.snd.fst,b.snd.snd)).fst),post ((Z69 (Z95 (a.fst,a.snd.fst,a.snd.snd) (b.fst,b.snd.fst,b.snd.snd)).fst).fst,())
theorem Z1k9 (a:Nat × Nat × Nat) (b:Nat × Nat × Nat) (h:WV2 a b):Z12g  a b (fun r=>r=gapR a b):=by
 exact ⟨h,Z1p4 _ _,rfl⟩
def Zx1:=fun (a:Nat × Nat × Nat) (post:(Nat × Nat × Nat) × Unit→Prop)=>∃ (h:WV (a.fst,a.snd.fst,a.snd.snd)),∀ (a_1:Bool),a_1=fcmp Go.BinOp.gtr
 (f64.format.order (Z69 (a.fst,a.snd.fst,a.snd.snd)).fst (0:Nat))→Br (!a_1) (post (((0:Nat),(0:Nat),(0:Nat)),())) (∃ (h:WI (Z69 (a.fst,
 a.snd.fst,a.snd.snd)).fst (1:Int)),∀ (a_2:Bool),a_2=(Z108 (Z69 (a.fst,a.snd.fst,a.snd.snd)).fst (1:Int)).fst→Br a_2 (post (((0:Nat),(0:Nat),(0:Nat)),
 ())) (∀ (a_3:Nat),FRes f64 (f64.format.div a.fst (Z69 (a.fst,a.snd.fst,a.snd.snd)).fst) a_3→∀ (a_4:Nat),FRes f64
 (f64.format.div a.snd.fst (Z69 (a.fst,a.snd.fst,a.snd.snd)).fst) a_4→∀ (a_5:Nat),FRes f64 (f64.format.div a.snd.snd (Z69
 (a.fst,a.snd.fst,a.snd.snd)).fst) a_5→∃ (h:True),post (((Z68 a_3 a_4 a_5).fst.fst,(Z68 a_3 a_4 a_5).fst.snd.fst,(Z68 a_3 a_4 a_5).fst.snd.snd),())))
theorem Z1ge (a:Nat × Nat × Nat) (h:WV a):Zx1  a (fun r=>r=Z10b a):=by
 refine ⟨h,?_⟩
 have hs:=Z1g2 a
 have hg:=Z1r8 hs
 rintro _ rfl
 refine Br.intro (fun e=>?_) fun e=>⟨Z17g a,?_⟩
 ·have e:(!fcmp .gtr (Ieee.double.order (Z1j a) 0))=true:=e
  rw [hg] at e
  refine (congrArg r1 (Z17h ?_)).symm
  rw [Z14k]
  rintro ⟨h1,h2⟩
  have:isN (Z1j a)=false:=by unfold isN; simp; omega
  rw [this] at e
  simp [h1] at e
 ·have e:(!fcmp .gtr (Ieee.double.order (Z1j a) 0))=false:=e
  rw [hg] at e
  have e:isN (Z1j a)=false∧Z0 (Z1j a)≠0:=by simpa using e
  have hi:infS (Z1j a) 1=decide (Z0 (Z1j a)=infR):=by unfold infS; rw [if_neg (by decide),if_neg (by decide),hs]; simp
  rintro _ rfl
  refine Br.intro (fun f=>?_) fun f=>?_
  ·have f:infS (Z1j a) 1=true:=f
   rw [hi] at f
   have f:=of_decide_eq_true f
   exact (congrArg r1 (Z17h (by rw [Z14k]; rintro ⟨h1,h2⟩; omega))).symm
  ·have f:infS (Z1j a) 1=false:=f
   rw [hi] at f
   have f:=of_decide_eq_false f
   have g:Z0 (Z1j a)≤infR:=by have:=e.1; unfold isN at this; simpa using this
   intro x hx y hy z hz
   exact ⟨trivial,congrArg r1 (Z1m6 ((Z14k _).2 ⟨e.2,by omega⟩) (fdiv hx).1 (fdiv hy).1 (fdiv hz).1)⟩
end Go.Lift

namespace Go.Lift
def Z12h:=fun (a:List Nat) (post:Nat × Unit→Prop)=>∀ (a_1:Bool),a_1=((↑a.length:Int)==(0:Int))→Br a_1 (post ((0:Nat),())) (∃ (h:(0:Int)≤(0 :
 Int)∧(0:Int)<(↑a.length:Int)),∃ (h:(0:Int)≤(1:Int)∧(1:Int)≤(↑a.length:Int)∧(↑a.length:Int)≤(↑a.length:Int)),HIs [] []∧∃ (I:Nat × Int × Unit →
 Unit→Prop),∃ (μ:Nat × Int × Unit→Unit→Nat),I (a.getD (Int.toNat (0:Int)) (0:Nat),(0:Int),()) ()∧∀ (x:Nat × Int × Unit) (y:Unit),I x y→∀ (a_2:Bool),
 a_2=decide (x.snd.fst<(↑(List.take ((↑a.length:Int) - (1:Int)).toNat (List.drop (Int.toNat (1:Int)) a)).length:Int))→Br a_2 (∃ (h:(0:Int)≤x.snd.fst∧x.snd.fst
 < (↑(List.take ((↑a.length:Int) - (1:Int)).toNat (List.drop (Int.toNat (1:Int)) a)).length:Int)),∀ (a_3:Nat),FRes f64 (f64.format.add x.fst
 ((List.take ((↑a.length:Int) - (1:Int)).toNat (List.drop (Int.toNat (1:Int)) a)).getD x.snd.fst.toNat (0:Nat))) a_3→HIs [] []∧I (a_3,i64.wrap (x.snd.fst+(1
 : Int)),()) ()∧μ (a_3,i64.wrap (x.snd.fst+(1:Int)),()) ()<μ x y) (∃ (h:True),post ((Z1cw x.fst).fst,())))
theorem Z1ka (a:List Nat) (h:WL a) (w:KS.wf [.slice (.flt .f64)] (a,())):Z12h  a (fun r=>r=rowR a):=by
 have hl:a.length≤maxN:=w.1.1
 unfold maxN at hl
 rintro _ rfl
 refine Br.intro (fun e=>?_) fun e=>?_
 ·have e:a.length=0:=by have:=eq_of_beq e; omega
  have:a=[]:=List.eq_nil_of_length_eq_zero e
  subst this; rfl
 ·have e:0<a.length:=by
   rcases Nat.eq_zero_or_pos a.length with z | z
   ·rw [z] at e; cases e
   ·exact z
  refine ⟨⟨by omega,by omega⟩,⟨by omega,by omega,by omega⟩,rfl,fun x _=>∃ i:Nat,x.2.1=i∧i+1≤a.length∧W64 x.1∧Z5 x.1=rowQ (a.take (i+1)),fun x _=>a.length - x.2.1.toNat,⟨0,rfl,by omega,Z1r7 h 0,(Z1p2 e).symm⟩,?_⟩
  have ht:List.take ((a.length:Int) - 1).toNat (List.drop (Int.toNat 1) a)=a.drop 1:=by
   show List.take ((a.length:Int) - 1).toNat (List.drop 1 a)=a.drop 1
   apply List.take_of_length_le; rw [List.length_drop]; omega
  rw [ht]
  have hd:∀ i,(a.drop 1).getD i 0=a.getD (i+1) 0:=by
   intro i; rw [List.getD_eq_getElem?_getD,List.getD_eq_getElem?_getD,List.getElem?_drop,Nat.add_comm]
  rintro ⟨acc,_,⟨⟩⟩ _ ⟨i,hi,hil,hw,hq⟩
  dsimp only at hi hw hq
  subst hi
  dsimp only
  rintro _ rfl
  refine Br.intro (fun f=>?_) fun f=>?_
  ·have f:i+1<a.length:=by have:=of_decide_eq_true f; rw [List.length_drop] at this; omega
   refine ⟨⟨by omega,by rw [List.length_drop]; omega⟩,fun r hr=>?_⟩
   rw [Int.toNat_natCast,hd] at hr
   obtain ⟨q1,q2⟩:=fadd hr
   refine ⟨rfl,⟨i+1,?_,by omega,q2,?_⟩,?_⟩
   ·rw [wi ⟨by omega,by omega⟩]; omega
   ·show Z5 r=_
    rw [q1,Z1r6 f (by omega),Zfx (x':=rowQ (a.take (i+1))) (by rw [hq,Z1sp]) rfl]
   ·rw [wi ⟨by omega,by omega⟩]; omega
  ·have f:a.length≤i+1:=by have:=of_decide_eq_false f; rw [List.length_drop] at this; omega
   refine ⟨trivial,congrArg r1 ?_⟩
   show Z5 acc=_
   rw [hq,List.take_of_length_le f]
def Zte:=fun (a b c:Nat) (post:Nat × Unit→Prop)=>∃ (h:(List.replicate (3:Nat) (0:Nat)).length=(3:Nat)∧(3:Nat)=(3:Nat)),∃ (h:(0:Int)≤(0 :
 Int)∧(0:Int)≤(3:Int)∧(3:Int)≤(3:Int)∧(3:Nat)=(3:Nat)),∃ (h:Zuv (3:Int)),∃ (h:(0:Int)≤(1:Int)∧(1:Int)<(3:Int)),∃ (h:(0:Int) ≤
 (0:Int)∧(0:Int)<(3:Int)),∃ (h:W2 b a),Br (decide ((Znp b a).fst<(0:Int))) (∃ (h:(0:Int)≤(0:Int)∧(0:Int)<(3:Int)),∃ (h:(0:Int)≤(1:Int)
 ∧ (1:Int)<(3:Int)),∃ (h:(0:Int)≤(1:Int)∧(1:Int)<(3:Int)),∃ (h:(0:Int)≤(0:Int)∧(0:Int)<(3:Int)),∃ (h:(0:Int)≤(2:Int)∧(2:Int) <
 (3:Int)),∃ (h:(0:Int)≤(1:Int)∧(1:Int)<(3:Int)),∃ (h:W2 c a),Br (decide ((Znp c a).fst<(0:Int))) (∃ (h:(0:Int)≤(1:Int)∧(1:Int)<(3 :
 Int)),∃ (h:(0:Int)≤(2:Int)∧(2:Int)<(3:Int)),∃ (h:(0:Int)≤(2:Int)∧(2:Int)<(3:Int)),∃ (h:(0:Int)≤(1:Int)∧(1:Int)<(3:Int)),∃ (h :
 (0:Int)≤(1:Int)∧(1:Int)<(3:Int)),∃ (h:(0:Int)≤(0:Int)∧(0:Int)<(3:Int)),∃ (h:W2 c b),Br (decide ((Znp c b).fst<(0:Int))) (∃ (h:(0:Int)
 ≤ (0:Int)∧(0:Int)<(3:Int)),∃ (h:(0:Int)≤(1:Int)∧(1:Int)<(3:Int)),∃ (h:(0:Int)≤(1:Int)∧(1:Int)<(3:Int)),∃ (h:(0:Int)≤(0:Int) ∧
 (0:Int)<(3:Int)),∃ (h:(0:Int)≤(0:Int)∧(0:Int)≤(3:Int)∧(3:Int)≤(3:Int)∧(3:Nat)=[c,b,a].length),∃ (h:WL [c,b,a]),post ((rowR [c,b,
 a]).fst,())) (∃ (h:(0:Int)≤(0:Int)∧(0:Int)≤(3:Int)∧(3:Int)≤(3:Int)∧(3:Nat)=[b,c,a].length),∃ (h:WL [b,c,a]),post ((rowR [b,c,a]).fst,
 ()))) (∃ (h:(0:Int)≤(0:Int)∧(0:Int)≤(3:Int)∧(3:Int)≤(3:Int)∧(3:Nat)=[b,a,c].length),∃ (h:WL [b,a,c]),post ((rowR [b,a,c]).fst,()))) (∃ (h
 : (0:Int)≤(2:Int)∧(2:Int)<(3:Int)),∃ (h:(0:Int)≤(1:Int)∧(1:Int)<(3:Int)),∃ (h:W2 c b),Br (decide ((Znp c b).fst<(0:Int))) (∃ (h:(0 :
 Int)≤(1:Int)∧(1:Int)<(3:Int)),∃ (h:(0:Int)≤(2:Int)∧(2:Int)<(3:Int)),∃ (h:(0:Int)≤(2:Int)∧(2:Int)<(3:Int)),∃ (h:(0:Int)≤(1 :
 Int)∧(1:Int)<(3:Int)),∃ (h:(0:Int)≤(1:Int)∧(1:Int)<(3:Int)),∃ (h:(0:Int)≤(0:Int)∧(0:Int)<(3:Int)),∃ (h:W2 c a),Br (decide ((Znp c
 a).fst<(0:Int))) (∃ (h:(0:Int)≤(0:Int)∧(0:Int)<(3:Int)),∃ (h:(0:Int)≤(1:Int)∧(1:Int)<(3:Int)),∃ (h:(0:Int)≤(1:Int)∧(1:Int)<(3 :
 Int)),∃ (h:(0:Int)≤(0:Int)∧(0:Int)<(3:Int)),∃ (h:(0:Int)≤(0:Int)∧(0:Int)≤(3:Int)∧(3:Int)≤(3:Int)∧(3:Nat)=[c,a,b].length),∃ (h :
 WL [c,a,b]),post ((rowR [c,a,b]).fst,())) (∃ (h:(0:Int)≤(0:Int)∧(0:Int)≤(3:Int)∧(3:Int)≤(3:Int)∧(3:Nat)=[a,c,b].length),∃ (h:WL [a,c,
 b]),post ((rowR [a,c,b]).fst,()))) (∃ (h:(0:Int)≤(0:Int)∧(0:Int)≤(3:Int)∧(3:Int)≤(3:Int)∧(3:Nat)=(3:Nat)),∃ (h:WL [a,b,c]),post ((rowR
 [a,b,c]).fst,())))
theorem Z1eo (a:Nat) (b:Nat) (c:Nat) (h:W3 a b c):Zte  a b c (fun r=>r=Z109 a b c):=by
 obtain ⟨ha,hb,hc⟩:=h
 have leaf:∀ l,Zfy a b c=l→((rowR l).fst,())=Z109 a b c:=by rintro _ rfl; rfl
 refine ⟨⟨rfl,rfl⟩,⟨by decide,by decide,by decide,rfl⟩,rfl,by decide,by decide,⟨hb,ha⟩,Br.intro (fun e=>⟨by decide,by decide,by decide,by decide,by decide,by decide,⟨hc,ha⟩,Br.intro (fun f=>⟨by decide,by decide,by decide,by decide,by decide,by decide,⟨hc,hb⟩,Br.intro (fun g=>⟨by decide,by decide,by decide,by decide,⟨by decide,by decide,by decide,rfl⟩,WL3 hc hb ha,leaf _ ?_⟩) fun g=>⟨⟨by decide,by decide,by decide,rfl⟩,WL3 hb hc ha,leaf _ ?_⟩⟩) fun f=>⟨⟨by decide,by decide,by decide,rfl⟩,WL3 hb ha hc,leaf _ ?_⟩⟩) fun e=>⟨by decide,by decide,⟨hc,hb⟩,Br.intro (fun f=>⟨by decide,by decide,by decide,by decide,by decide,by decide,⟨hc,ha⟩,Br.intro (fun g=>⟨by decide,by decide,by decide,by decide,⟨by decide,by decide,by decide,rfl⟩,WL3 hc ha hb,leaf _ ?_⟩) fun g=>⟨⟨by decide,by decide,by decide,rfl⟩,WL3 ha hc hb,leaf _ ?_⟩⟩) fun f=>⟨⟨by decide,by decide,by decide,rfl⟩,WL3 ha hb hc,leaf _ ?_⟩⟩⟩
 ·have e:ltM b a=true:=e
  have f:ltM c a=true:=f
  have g:ltM c b=true:=g
  unfold Zfy; rw [e,f,g]; rfl
 ·have e:ltM b a=true:=e
  have f:ltM c a=true:=f
  have g:ltM c b=false:=g
  unfold Zfy; rw [e,f,g]; rfl
 ·have e:ltM b a=true:=e
  have f:ltM c a=false:=f
  unfold Zfy; rw [e,f]; rfl
 ·have e:ltM b a=false:=e
  have f:ltM c b=true:=f
  have g:ltM c a=true:=g
  unfold Zfy; rw [e,f,g]; rfl
 ·have e:ltM b a=false:=e
  have f:ltM c b=true:=f
  have g:ltM c a=false:=g
  unfold Zfy; rw [e,f,g]; rfl
 ·have e:ltM b a=false:=e
  have f:ltM c b=false:=f
  unfold Zfy; rw [e,f]; rfl
end Go.Lift

namespace Go.Lift
open Go.Proofs
def Z12i:Cx:=⟨Z1p Z1x,Z1u [(276,Zp8),(248,Zht)],SqG⟩
theorem Zpa:CxOk Tryz.prog Z12i:=⟨Zl Zv,Zq ⟨Z1a0,Zy7,trivial⟩⟩
def Zx2:Con:=.det [.slice (.flt .f64)] [.snap (.flt .f64)] (fun x=>WL x.1) (fun x=>rowR x.1)
theorem Z1gf:SqH Zx2 251 :=
 dP Zpa Z3 Zb ({ loops:=fun k=>match k with | 5=>some { ls:=[(.slot 3,.data (.flt .f64)),(.slot 15,.data (.int .i64))],os:=[] } | _=>none,joins:=fun _=>none,named:=true }) Tryz.func251 (fun x p=>Z12h  x.1 p) fun x h w=>Z1ka  x.1 h w
def Z12j:Cx:=addC 251 Zx2 Z12i
theorem Z1a2:CxOk Tryz.prog Z12j:=Zk Zpa Z1gf
def Z7f:Con:=.det [.int .u64] [.snap (.int .i64)] (fun x=>Zuv x.1) (fun x=>twoR x.1)
def Zjs:Cx:=⟨Z1p Z1x,fun _=>none,SqG⟩
theorem Ztf:CxOk Tryz.prog Zjs:=⟨Zl Zv,fun f c h=>by cases h⟩
theorem Zy8:FnAt Tryz.prog 245 Tryz.f245.ntmps Tryz.f245.results.toList (Tryz.f245.body.getD .skip):=⟨Tryz.f245,Tryz.func245,rfl,rfl,by simp,by decide⟩
theorem Zy9 (post:Int × Unit→Prop):Z3n Zjs noHn Tryz.f245.ntmps Tryz.f245.results.toList (Tryz.f245.body.getD .skip) [.int .u64] [.snap (.int .i64)] ((3:Int),()) post=(∃ (h:(0:Int)≤(3:Int)∧(3:Int)<(256:Int)),post ((2:Int),())):=by kernel_rfl
theorem Zbb:Z7f.holds Tryz.prog SqG 245:=by
 refine Z17c Ztf Z3 noHn Zy8 ?_
 rintro ⟨a,⟨⟩⟩ h
 have h:a=(3:Int):=h
 subst h
 exact (Zy9 _).mpr ⟨by decide,rfl⟩
def Z12k:Cx:=addC 245 Z7f Z12j
theorem Z1a3:CxOk Tryz.prog Z12k:=Zk Z1a2 Zbb
def Zpb:Con:=.det [.int .u64] [.snap (.int .i64)] (fun x=>Zuv x.1) (fun x=>twoR x.1)
def Zpc:Cx:=⟨Z1p Z1x,Z1u [(245,Z7f)],SqG⟩
theorem Zya:CxOk Tryz.prog Zpc:=⟨Zl Zv,Zq ⟨Zbb,trivial⟩⟩
theorem Z15o:FnAt Tryz.prog 275 Tryz.f275.ntmps Tryz.f275.results.toList (Tryz.f275.body.getD .skip):=⟨Tryz.f275,Tryz.func275,rfl,rfl,by simp,by decide⟩
theorem Z15p (post:Int × Unit→Prop):Z3n Zpc noHn Tryz.f275.ntmps Tryz.f275.results.toList (Tryz.f275.body.getD .skip) [.int .u64] [.snap (.int .i64)] ((3:Int),()) post=(∃ (h:Zuv 3),post ((2:Int),())):=by kernel_rfl
theorem Z1a4:Zpb.holds Tryz.prog SqG 275:=by
 refine Z17c Zya Z3 noHn Z15o ?_
 rintro ⟨a,⟨⟩⟩ h
 have h:a=(3:Int):=h
 subst h
 exact (Z15p _).mpr ⟨rfl,rfl⟩
def Z1kb:Cx:=addC 275 Zpb Z12k
theorem Zpd:CxOk Tryz.prog Z1kb:=Zk Z1a3 Z1a4
def Zpe:Con:=.det [.flt .f64,.flt .f64,.flt .f64] [.snap (.flt .f64)] (fun x=>W3 x.1 x.2.1 x.2.2.1) (fun x=>Z109 x.1 x.2.1 x.2.2.1)
theorem Z1a5:SqH Zpe 209 :=
 dPI Zpd Z3 Zb ({ loops:=fun _=>none,joins:=fun _=>none,inl:=inlL [247] }) (Z3g Zpd Z3 Z14u 5) Tryz.func209 (fun x p=>Zte  x.1 x.2.1 x.2.2.1 p) fun x h _=>Z1eo  x.1 x.2.1 x.2.2.1 h
end Go.Lift

namespace Go.Lift
open Go.Proofs
def Z12l:Cx:=⟨Z1p Z1x,Z1u [(99,Z3u),(246,Zp7),(209,Zpe),(240,Zco)],SqG⟩
theorem Zpf:CxOk Tryz.prog Z12l:=⟨Zl Zv,Zq ⟨Z4v,Z19z,Z1a5,Zlt,trivial⟩⟩
def Zpg:Con:=.det [.flt .f64,.flt .f64,.flt .f64] [.snap kVec] (fun _=>True) (fun x=>Z68 x.1 x.2.1 x.2.2.1)
theorem Z1a6:SqH Zpg 210 :=
 dP Zpf Z3 Zb nHn Tryz.func210 (fun x p=>Zta  x.1 x.2.1 x.2.2.1 p) fun x _ _=>Z1ek  x.1 x.2.1 x.2.2.1
def Z12m:Cx:=addC 210 Zpg Z12l
theorem Zph:CxOk Tryz.prog Z12m:=Zk Zpf Z1a6
def Zev:Con:=.det [kVec,kVec] [.snap kVec] (fun x=>WV2 x.1 x.2.1) (fun x=>Z95 x.1 x.2.1)
theorem Zpi:SqH Zev 175 :=
 dP Zph Z3 Zb nHn Tryz.func175 (fun x p=>Ztb  x.1 x.2.1 p) fun x h _=>Z1el  x.1 x.2.1 h
def Z12n:Cx:=addC 175 Zev Z12m
theorem Zew:CxOk Tryz.prog Z12n:=Zk Zph Zpi
def Zpj:Con:=.det [kVec,kVec] [.snap kVec] (fun _=>True) (fun x=>Zsa x.1 x.2.1)
theorem Z1a7:SqH Zpj 174 :=
 dP Zew Z3 Zb nHn Tryz.func174 (fun x p=>Ztc  x.1 x.2.1 p) fun x _ _=>Z1em  x.1 x.2.1
def Zpk:Con:=.rel [.flt .f64] [.snap (.flt .f64)] (fun _=>True) (fun x r=>Ziu x.1 r) (fun x h=>Z1hh (Z1hf _) (Z14e _))
theorem Z1a8:SqH Zpk 208 :=
 rP Zew Z3 Zb nHn Tryz.func208 (fun x p=>Ztd  x.1 p) fun x _ _=>Z1en  x.1
def Z12o:Cx:=addC 208 Zpk Z12n
theorem Zpl:CxOk Tryz.prog Z12o:=Zk Zew Z1a8
def Zcp:Con:=.det [kVec] [.snap (.flt .f64)] (fun x=>WV x.1) (fun x=>Z69 x.1)
theorem Zlu:SqH Zcp 173 :=
 dP Zpl Z3 Zb nHn Tryz.func173 (fun x p=>Zp9  x.1 p) fun x h _=>Z1a1  x.1 h
def Z1kc:Cx:=addC 173 Zcp Z12o
theorem Zpm:CxOk Tryz.prog Z1kc:=Zk Zpl Zlu
def Zx3:Con:=.det [kVec,kVec] [.snap (.flt .f64)] (fun x=>WV2 x.1 x.2.1) (fun x=>gapR x.1 x.2.1)
theorem Z1gg:SqH Zx3 113 :=
 dP Zpm Z3 Zb nHn Tryz.func113 (fun x p=>Z12g  x.1 x.2.1 p) fun x h _=>Z1k9  x.1 x.2.1 h
def Ztg:Con:=.det [kVec] [.snap kVec] (fun x=>WV x.1) (fun x=>Z10b x.1)
theorem Z1ep:SqH Ztg 211 :=
 dP Zpm Z3 Zb nHn Tryz.func211 (fun x p=>Zx1  x.1 p) fun x h _=>Z1ge  x.1 h
end Go.Lift

namespace Go.Lift
def Zjt:=fun (a:Int) (post:Nat × Unit→Prop)=>post (f64.nearest a,())
theorem Z12p (a:Int):Zjt  a (fun r=>r=ofIR a):=by
 exact rfl
def Zlv:=fun (a b:Int) (post:Nat × Unit→Prop)=>∀ a_1,a_1=decide (a<(1:Int))→Br a_1 (post (0,())) (∀ a_2,a_2=decide (b<(1:Int))→Br a_2 (post
 (0,())) (∃ (h:True),∃ (h:True),∀ (a_3:Nat),FRes f64 (f64.format.div (ofIR a).1 (ofIR b).1) a_3→post (a_3,())))
theorem Z15q (a:Int) (b:Int) (h:II a b):Zlv  a b (fun r=>r=Z4d a b):=by
 rintro _ rfl
 refine Br.intro (fun e=>?_) fun e=>?_
 ·exact congrArg r1 (by unfold Z96; rw [if_pos (.inl (of_decide_eq_true e))])
 ·rintro _ rfl
  refine Br.intro (fun f=>?_) fun f=>?_
  ·exact congrArg r1 (by unfold Z96; rw [if_pos (.inr (of_decide_eq_true f))])
  ·have e:=of_decide_eq_false e
   have f:=of_decide_eq_false f
   refine ⟨trivial,trivial,fun r hr=>congrArg r1 ?_⟩
   rw [Z1hm h.1 (by omega) h.2 hr]
   unfold Z96; rw [if_neg (by omega)]
def Zpn:=fun (a:Nat) (post:Nat × Unit→Prop)=>∃ (h:WNum a),post ((Zdy a).1,())
theorem Z1a9 (a:Nat) (h:WNum a):Zpn  a (fun r=>r=Zdy a):=by
 exact ⟨h,rfl⟩
def Zth:=fun (a:Nat) (post:Int × Unit→Prop)=>∃ (h:WNum a),∀ (a_1:Int),F2I f64 (Zdy a).1 u64 a_1→∀ (a_2:Nat),FRes
 f64 (f64.format.sub a (Zdy a).1) a_2→∀ a,a=fcmp Go.BinOp.gtr (f64.format.order a_2 (4602678819172646912:Nat))→Br a (post
 (u64.wrap (a_1+1),())) (∀ a,a=fcmp Go.BinOp.eql (f64.format.order a_2 (4602678819172646912:Nat))→Br a (∃ (h:(2:Int)≠(0:Int)),∀ a,a =
 (a_1.tmod (2:Int)==(1:Int))→Br a (post (u64.wrap (a_1+1),())) (post (a_1,()))) (post (a_1,())))
theorem Z1eq (a:Nat) (h:Zns a):Zth  a (fun r=>r=Znr a):=by
 have hw:W64 a:=by unfold Zns Z1l at h; unfold W64; omega
 have hn:isN a=false:=by
  have:=(Zdx (r:=a) (by unfold Zns Z1l at h; omega)).2.1
  unfold isN; rw [this,decide_eq_false_iff_not]; unfold Zns Z1l at h; unfold infR; omega
 refine ⟨⟨hw,hn⟩,?_⟩
 intro n hn2
 have hn2:=Z1mb h hn2
 subst hn2
 intro d hd
 have hd:∀ z,Ieee.double.order d z=Ieee.double.order (subQ a (Z1g a)) z:=Z10h hd
 obtain ⟨_,r1',r2'⟩:=Z17j h
 have hwp:u64.wrap (Z4y (Z1g a)+1)=Z4y (Z1g a)+1:=wu1 ⟨by omega,by omega⟩
 have tm:(Z4y (Z1g a)).tmod 2=Z4y (Z1g a) % 2:=Int.tmod_eq_emod_of_nonneg r1'
 rintro _ rfl
 refine Br.intro (fun e=>?_) fun e=>?_
 ·rw [show f64.format.order d 4602678819172646912=_ from hd _] at e
  exact congrArg r1 (by rw [hwp]; unfold Z5g; rw [if_pos (by rw [show fcmp .gtr (Ieee.double.order (subQ a (Z1g a)) Z3c)=true from e]; rfl)])
 ·rw [show f64.format.order d 4602678819172646912=_ from hd _] at e
  rintro _ rfl
  refine Br.intro (fun f=>?_) fun f=>?_
  ·rw [show f64.format.order d 4602678819172646912=_ from hd _] at f
   refine ⟨by decide,?_⟩
   rintro _ rfl
   refine Br.intro (fun g=>?_) fun g=>?_
   ·rw [tm] at g
    exact congrArg r1 (by rw [hwp]; unfold Z5g; rw [if_pos (by rw [show fcmp .eql (Ieee.double.order (subQ a (Z1g a)) Z3c)=true from f,g,Bool.true_and,Bool.or_true])])
   ·rw [tm] at g
    exact congrArg r1 (by unfold Z5g; rw [if_neg (by rw [show fcmp .gtr (Ieee.double.order (subQ a (Z1g a)) Z3c)=false from e,g,Bool.and_false]; decide)])
  ·rw [show f64.format.order d 4602678819172646912=_ from hd _] at f
   exact congrArg r1 (by unfold Z5g; rw [if_neg (by rw [show fcmp .gtr (Ieee.double.order (subQ a (Z1g a)) Z3c)=false from e,show fcmp .eql (Ieee.double.order (subQ a (Z1g a)) Z3c)=false from f,Bool.false_and]; decide)])
def Zpo:=fun (a:Nat) (post:Int × Bool × Unit→Prop)=>∃ (h:W64 a),∀ a_1,a_1=fcmp Go.BinOp.lss (f64.format.order (absR a).1 (4890909195324358656
 : Nat))→Br a_1 (∃ (h:Zns (absR a).1),∀ a_2,a_2=fcmp Go.BinOp.lss (f64.format.order a (0:Nat))→Br a_2 (post (i64.wrap ((0:Int) -
 i64.wrap (Znr (absR a).1).1),true,())) (post (i64.wrap (Znr (absR a).1).1,true,()))) (∀ a_2,a_2=fcmp Go.BinOp.eql
 (f64.format.order a (14114281232179134464:Nat))→Br a_2 (post ((-9223372036854775808:Int),true,())) (post (0,false,())))
theorem Z1aa (a:Nat) (h:W64 a):Zpo  a (fun r=>r=Zh9 a):=by
 refine ⟨h,?_⟩
 rintro _ rfl
 refine Br.intro (fun e=>?_) fun e=>?_
 ·have e:fcmp .lss (Ieee.double.order (Z0 a) Z1l)=true:=e
  rw [Zxv] at e
  have e:=of_decide_eq_true e
  have hn:isN a=false:=by unfold isN; rw [decide_eq_false_iff_not]; unfold Z1l at e; unfold infR; omega
  refine ⟨e,?_⟩
  rintro _ rfl
  refine Br.intro (fun f=>?_) fun f=>?_
  ·rw [show fcmp .lss (f64.format.order a 0)=_ from Znt hn] at f
   unfold Zh9 Z5h; rw [if_pos e,if_pos f]; rfl
  ·rw [show fcmp .lss (f64.format.order a 0)=_ from Znt hn] at f
   unfold Zh9 Z5h; rw [if_pos e,if_neg (by rw [f]; decide)]; rfl
 ·have e:fcmp .lss (Ieee.double.order (Z0 a) Z1l)=false:=e
  rw [Zxv] at e
  have e:=of_decide_eq_false e
  rintro _ rfl
  refine Br.intro (fun f=>?_) fun f=>?_
  ·rw [show fcmp .eql (f64.format.order a 14114281232179134464)=_ from Z1hk h] at f
   unfold Zh9 Z5h; rw [if_neg e,if_pos (show a=Z1l+9223372036854775808 from of_decide_eq_true f)]
  ·rw [show fcmp .eql (f64.format.order a 14114281232179134464)=_ from Z1hk h] at f
   unfold Zh9 Z5h; rw [if_neg e,if_neg (show ¬ a=Z1l+9223372036854775808 from of_decide_eq_false f)]
end Go.Lift

namespace Go.Lift
open Go.Proofs
def Z12q:Cx:=⟨Z1p Z1x,Z1u [(152,Z80)],SqG⟩
theorem Zpp:CxOk Tryz.prog Z12q:=⟨Zl Zv,Zq ⟨Zb9,trivial⟩⟩
def Zhu:Con:=.det [.int .i64] [.snap (.flt .f64)] (fun _=>True) (fun x=>ofIR x.1)
theorem Zyb:SqH Zhu 167 :=
 dP Zpp Z3 Zb nHn Tryz.func167 (fun x p=>Zjt  x.1 p) fun x _ _=>Z12p  x.1
def Z12r:Cx:=addC 167 Zhu Z12q
theorem Zpq:CxOk Tryz.prog Z12r:=Zk Zpp Zyb
def Z5s:Con:=.det [.int .i64,.int .i64] [.snap (.flt .f64)] (fun x=>II x.1 x.2.1) (fun x=>Z4d x.1 x.2.1)
theorem Z7g:SqH Z5s 89 :=
 dP Zpq Z3 Zb nHn Tryz.func89 (fun x p=>Zlv  x.1 x.2.1 p) fun x h _=>Z15q  x.1 x.2.1 h
def Zek:Con:=.det [.flt .f64] [.snap (.flt .f64)] (fun x=>WNum x.1) (fun x=>Zdy x.1)
theorem Zti:Zek.holds Tryz.prog SqG 270:=by
 refine Z1n5 (fn:=Tryz.f270) Tryz.func270 (by decide) rfl rfl (by kernel_rfl)
def Z12s:Cx:=addC 270 Zek Z12r
theorem Zpr:CxOk Tryz.prog Z12s:=Zk Zpq Zti
def Zlw:Con:=.det [.flt .f64] [.snap (.flt .f64)] (fun x=>WNum x.1) (fun x=>Zdy x.1)
theorem Z15r:SqH Zlw 236 :=
 dP Zpr Z3 Zb nHn Tryz.func236 (fun x p=>Zpn  x.1 p) fun x h _=>Z1a9  x.1 h
def Z12t:Cx:=addC 236 Zlw Z12s
theorem Zps:CxOk Tryz.prog Z12t:=Zk Zpr Z15r
def Zex:Con:=.det [.flt .f64] [.snap (.int .u64)] (fun x=>Zns x.1) (fun x=>Znr x.1)
theorem Zpt:SqH Zex 202 :=
 dP Zps Z3 Zb nHn Tryz.func202 (fun x p=>Zth  x.1 p) fun x h _=>Z1eq  x.1 h
def Z1kd:Cx:=addC 202 Zex Z12t
theorem Z1ab:CxOk Tryz.prog Z1kd:=Zk Zps Zpt
def Zlx:Con:=.det [.flt .f64] [.snap (.int .i64),.snap .bool] (fun x=>W64 x.1) (fun x=>Zh9 x.1)
theorem Z15s:SqH Zlx 176 :=
 dP Z1ab Z3 Zb nHn Tryz.func176 (fun x p=>Zpo  x.1 p) fun x h _=>Z1aa  x.1 h
end Go.Lift

namespace Go.Lift
open Go.Proofs
def Z12u:Cx:=⟨Z1p Z1x,Z1u [(99,Z3u),(211,Ztg),(48,Z4t),(104,Z8q),(175,Zev),(174,Zpj),(173,Zcp),(176,Zlx)],SqG⟩
theorem Zpu:CxOk Tryz.prog Z12u:=⟨Zl Zv,Zq ⟨Z4v,Z1ep,Z6f,Zci,Zpi,Z1a7,Zlu,Z15s,trivial⟩⟩
def Zcq:Con:=.det [.int .i64,.int .i64] [.snap (.flt .f64)] (fun x=>Zha x.1 x.2.1) (fun x=>Z3q x.1 x.2.1)
theorem Zly:SqH Zcq 180 :=
 dP Zpu Z3 Zb nHn Tryz.func180 (fun x p=>Zoy  x.1 x.2.1 p) fun x h _=>Z19q  x.1 x.2.1 h
def Z12v:Cx:=addC 180 Zcq Z12u
theorem Zpv:CxOk Tryz.prog Z12v:=Zk Zpu Zly
def Zcr:Con:=.det [.int .i64,.flt .f64,.flt .f64] [.snap kVec] (fun x=>Z10d x.1 x.2.1 x.2.2.1) (fun x=>Zdz x.1 x.2.1 x.2.2.1)
theorem Zlz:SqH Zcr 179 :=
 dP Zpv Z3 Zb ({ loops:=fun _=>none,joins:=Zw [(13,{ ls:=[],os:=[(1,236,.flt .f64)] })],unroll:=fun _=>some 4 }) Tryz.func179 (fun x p=>Zoz 166 236 x.1 x.2.1 x.2.2.1 p) fun x h _=>Z19r 166 236 x.1 x.2.1 x.2.2.1 h
def Z12w:Cx:=addC 179 Zcr Z12v
theorem Zpw:CxOk Tryz.prog Z12w:=Zk Zpv Zlz
def Zju:Con:=.det [.int .i64,.int .i64,.int .i64,.int .i64] [.snap kVec,.snap .bool] (fun x=>IIII x.1 x.2.1 x.2.2.1 x.2.2.2.1) (fun x=>Z1a x.1 x.2.1 x.2.2.1 x.2.2.2.1)
theorem Z12x:SqH Zju 178 :=
 dP Zpw Z3 Zb nHn Tryz.func178 (fun x p=>Zll  x.1 x.2.1 x.2.2.1 x.2.2.2.1 p) fun x h _=>Z15j  x.1 x.2.1 x.2.2.1 x.2.2.2.1 h
def Z12y:Cx:=addC 178 Zju Z12w
theorem Zpx:CxOk Tryz.prog Z12y:=Zk Zpw Z12x
def Z9o:Con:=.det [.int .i64,.int .i64] [.snap (.arr 4 kVec),.snap .bool] (fun x=>II x.1 x.2.1) (fun x=>Zo x.1 x.2.1)
theorem Zhv:SqH Z9o 112 :=
 dP Zpx Z3 Zb ({ loops:=fun _=>none,joins:=fun _=>none,unroll:=fun _=>some 5 }) Tryz.func112 (fun x p=>Zjk  x.1 x.2.1 p) fun x h _=>Z12e  x.1 x.2.1 h
def Z1ke:Cx:=addC 112 Z9o Z12y
theorem Z1ac:CxOk Tryz.prog Z1ke:=Zk Zpx Zhv
def Zpy:Con:=.det [.int .i64,.int .i64] [.snap (.int .i64)] (fun x=>II x.1 x.2.1) (fun x=>Z10f x.1 x.2.1)
theorem Z1ad:SqH Zpy 103 :=
 dP Z1ac Z3 Zb nHn Tryz.func103 (fun x p=>Zt2  x.1 x.2.1 p) fun x h _=>Z1eh  x.1 x.2.1 h
end Go.Lift

namespace Go.Lift
def Zm0:=fun (n c:Int) (post:(Nat × Nat × Nat) × Bool × Unit→Prop)=>∃ (h:II n c),Br (!(Z4 n c).2.2.2.1) (post ((0,0,0),false,())) (∃ (h :
 Zha (i64.wrap (i64.wrap (i64.wrap ((2:Int)*(Z4 n c).2.1)+(1:Int)) - n)) n),∃ (h:Zha (i64.wrap (i64.wrap
 (i64.wrap ((2:Int)*(Z4 n c).2.2.1)+(1:Int)) - n)) n),∃ (h:Z10d (Z4 n c).1 (Z3q (i64.wrap (i64.wrap (i64.wrap ((2:Int) *
 (Z4 n c).2.1)+(1:Int)) - n)) n).1 (Z3q (i64.wrap (i64.wrap (i64.wrap ((2:Int)*(Z4 n c).2.2.1)+(1:Int)) - n)) n).1),post (((Zdz
 (Z4 n c).1 (Z3q (i64.wrap (i64.wrap (i64.wrap ((2:Int)*(Z4 n c).2.1)+(1:Int)) - n)) n).1 (Z3q (i64.wrap (i64.wrap
 (i64.wrap ((2:Int)*(Z4 n c).2.2.1)+(1:Int)) - n)) n).1).1.1,(Zdz (Z4 n c).1 (Z3q (i64.wrap (i64.wrap (i64.wrap ((2:Int)
 * (Z4 n c).2.1)+(1:Int)) - n)) n).1 (Z3q (i64.wrap (i64.wrap (i64.wrap ((2:Int)*(Z4 n c).2.2.1)+(1:Int)) - n)) n).1).1.2.1,
 (Zdz (Z4 n c).1 (Z3q (i64.wrap (i64.wrap (i64.wrap ((2:Int)*(Z4 n c).2.1)+(1:Int)) - n)) n).1 (Z3q (i64.wrap
 (i64.wrap (i64.wrap ((2:Int)*(Z4 n c).2.2.1)+(1:Int)) - n)) n).1).1.2.2),true,()))
theorem Z15t (n:Int) (c:Int) (h:II n c):Zm0  n c (fun r=>r=Z8g n c):=by
 refine ⟨h,?_⟩
 by_cases ok:Zd n c=true
 ·rw [Z1d5 ok]
  obtain ⟨n1,n2,f0,f5,i0,i1,j0,j1⟩:=Ze7 ok
  dsimp only
  refine Br.intro (fun e=>absurd e (by decide)) fun _=>?_
  have w1:i64.wrap (i64.wrap (i64.wrap (2*(c % n))+1) - n)=2*(c % n)+1 - n:=by
   rw [wi (x:=2*(c % n)) ⟨by omega,by omega⟩,wi (x:=2*(c % n)+1) ⟨by omega,by omega⟩,wi ⟨by omega,by omega⟩]
  have w2:i64.wrap (i64.wrap (i64.wrap (2*(c / n % n))+1) - n)=2*(c / n % n)+1 - n:=by
   rw [wi (x:=2*(c / n % n)) ⟨by omega,by omega⟩,wi (x:=2*(c / n % n)+1) ⟨by omega,by omega⟩,wi ⟨by omega,by omega⟩]
  rw [w1,w2]
  refine ⟨⟨⟨by omega,by omega⟩,n1,h.1⟩,⟨⟨by omega,by omega⟩,n1,h.1⟩,⟨f0,f5,Z8b _ _,Z8b _ _⟩,?_⟩
  unfold Z8g; rw [if_pos ok]; rfl
 ·rw [Z1d6 ok]
  refine Br.intro (fun _=>?_) fun e=>absurd e (by decide)
  unfold Z8g; rw [if_neg ok]
def Zm1:=fun (n c o:Int) (post:Nat × Unit→Prop)=>∃ (h:II n c),∃ (h:(List.replicate (4:Nat) ((K.flt f64).pair ((K.flt f64).pair
 (K.flt f64))).dflt).length=(4:Nat)∧(Zo n c).1.length=(4:Nat)),Br (!(Zo n c).2.1) (post ((0:Nat),())) (∀ a,a=decide (o<(0:Int))→Br a
 (post ((0:Nat),())) (∀ a,a=decide (o > (3:Int))→Br a (post ((0:Nat),())) (∃ (h:(0:Int)≤o∧o<(↑(4:Nat):Int)),∃ (h:(List.replicate (2:Nat) (0 :
 Int)).length=(2:Nat)∧List.length ([[(1:Int),(2:Int)],[(3:Int),(2:Int)],[(0:Int),(3:Int)],[(0:Int),(1:Int)]].getD o.toNat (K.arr (2:Nat) (K.int
 i64)).dflt)=(2:Nat)),∃ (h:(0:Int)≤(0:Int)∧(0:Int)<(↑(2:Nat):Int)∧(2:Nat)≤List.length ([[(1:Int),(2:Int)],[(3:Int),(2:Int)],[(0 :
 Int),(3:Int)],[(0:Int),(1:Int)]].getD o.toNat (K.arr (2:Nat) (K.int i64)).dflt)),∃ (h:(0:Int)≤List.getD ([[(1:Int),(2:Int)],[(3:Int),(2:Int)],
 [(0:Int),(3:Int)],[(0:Int),(1:Int)]].getD o.toNat (K.arr (2:Nat) (K.int i64)).dflt) (Int.toNat (0:Int)) (0:Int)∧List.getD ([[(1:Int),(2:Int)],[(3
 : Int),(2:Int)],[(0:Int),(3:Int)],[(0:Int),(1:Int)]].getD o.toNat (K.arr (2:Nat) (K.int i64)).dflt) (Int.toNat (0:Int)) (0:Int)<(↑(4:Nat):Int) ∧
 (4:Nat)≤(Zo n c).1.length),∃ (h:(0:Int)≤(1:Int)∧(1:Int)<(↑(2:Nat):Int)∧(2:Nat)≤List.length ([[(1:Int),(2:Int)],[(3:Int),(2:Int)],[(0
 : Int),(3:Int)],[(0:Int),(1:Int)]].getD o.toNat (K.arr (2:Nat) (K.int i64)).dflt)),∃ (h:(0:Int)≤List.getD ([[(1:Int),(2:Int)],[(3:Int),(2 :
 Int)],[(0:Int),(3:Int)],[(0:Int),(1:Int)]].getD o.toNat (K.arr (2:Nat) (K.int i64)).dflt) (Int.toNat (1:Int)) (0:Int)∧List.getD ([[(1:Int),(2 :
 Int)],[(3:Int),(2:Int)],[(0:Int),(3:Int)],[(0:Int),(1:Int)]].getD o.toNat (K.arr (2:Nat) (K.int i64)).dflt) (Int.toNat (1:Int)) (0:Int)<(↑(4 :
 Nat):Int)∧(4:Nat)≤(Zo n c).1.length),∃ (h:WV2 ((Zo n c).1.getD (Int.toNat (List.getD ([[(1:Int),(2:Int)],[(3:Int),(2:Int)],[(0:Int),(3 :
 Int)],[(0:Int),(1:Int)]].getD o.toNat (K.arr (2:Nat) (K.int i64)).dflt) (Int.toNat (0:Int)) (0:Int))) ((K.flt f64).pair ((K.flt
 f64).pair (K.flt f64))).dflt) ((Zo n c).1.getD (Int.toNat (List.getD ([[(1:Int),(2:Int)],[(3:Int),(2:Int)],[(0:Int),(3:Int)],[(0
 : Int),(1:Int)]].getD o.toNat (K.arr (2:Nat) (K.int i64)).dflt) (Int.toNat (1:Int)) (0:Int))) ((K.flt f64).pair ((K.flt f64).pair (K.flt
 f64))).dflt)),post ((gapR ((Zo n c).1.getD (Int.toNat (List.getD ([[(1:Int),(2:Int)],[(3:Int),(2:Int)],[(0:Int),(3:Int)],[(0:Int),(1 :
 Int)]].getD o.toNat (K.arr (2:Nat) (K.int i64)).dflt) (Int.toNat (0:Int)) (0:Int))) ((K.flt f64).pair ((K.flt f64).pair (K.flt
 f64))).dflt) ((Zo n c).1.getD (Int.toNat (List.getD ([[(1:Int),(2:Int)],[(3:Int),(2:Int)],[(0:Int),(3:Int)],[(0:Int),(1:Int)]].getD
 o.toNat (K.arr (2:Nat) (K.int i64)).dflt) (Int.toNat (1:Int)) (0:Int))) ((K.flt f64).pair ((K.flt f64).pair (K.flt
 f64))).dflt)).1,()))))
theorem Z15u (n:Int) (c:Int) (o:Int) (h:III n c o):Zm1  n c o (fun r=>r=Zhd n c o):=by
 have cl:=Zwh n c
 refine ⟨⟨h.1,h.2.1⟩,⟨rfl,cl⟩,?_⟩
 have no:Zg n c o=false→((0:Nat),())=Zhd n c o:=fun q=>congrArg r1 (by unfold Z4r; rw [if_neg (by rw [q]; decide)])
 rw [Znu]
 refine Br.intro (fun e=>no ?_) fun e=>?_
 ·unfold Zg; rw [show Zd n c=false by simpa using e]; rfl
 have ok:Zd n c=true:=by simpa using e
 rintro _ rfl
 refine Br.intro (fun e=>no ?_) fun e=>?_
 ·have e:=of_decide_eq_true e
  unfold Zg; rw [decide_eq_false (p:=0≤o) (by omega)]; simp
 have o0:=of_decide_eq_false e
 rintro _ rfl
 refine Br.intro (fun e=>no ?_) fun e=>?_
 ·have e:=of_decide_eq_true e
  unfold Zg; rw [decide_eq_false (p:=o<4) (by omega)]; simp
 have o4:=of_decide_eq_false e
 have o0:0≤o:=by omega
 have o4:o<4:=by omega
 have okb:Zg n c o=true:=by unfold Zg; rw [ok,decide_eq_true o0,decide_eq_true o4]; rfl
 have hc:∀ i:Int,0≤i→i≤3→(Zo n c).1.getD i.toNat ((K.flt f64).pair ((K.flt f64).pair (K.flt f64))).dflt=Zg0 n c i:=fun i a b=>Z1mt ok a b _
 have c0:=hc 0 (by decide) (by decide)
 have c1:=hc 1 (by decide) (by decide)
 have c2:=hc 2 (by decide) (by decide)
 have c3:=hc 3 (by decide) (by decide)
 have fin:∀ A B:Nat × Nat × Nat,A=Zg0 n c (endA o)→B=Zg0 n c (endB o)→(gapQ A B,())=Zhd n c o:=by
  intro A B hA hB
  rw [hA,hB]; exact congrArg r1 (by unfold Z4r; rw [if_pos okb])
 have wA:∀ i,WV (Zg0 n c i):=Z1rk n c
 generalize hQ:(Zo n c).fst=Q at *
 rcases Z26 o0 o4 with rfl | rfl | rfl | rfl
 ·exact ⟨⟨by decide,by decide⟩,⟨rfl,rfl⟩,⟨by decide,by decide,by decide⟩,⟨by decide,by decide,Nat.le_of_eq cl.symm⟩,⟨by decide,by decide,by decide⟩,⟨by decide,by decide,Nat.le_of_eq cl.symm⟩,⟨c1 ▸ wA 1,c2 ▸ wA 2⟩,fin _ _ c1 c2⟩
 ·exact ⟨⟨by decide,by decide⟩,⟨rfl,rfl⟩,⟨by decide,by decide,by decide⟩,⟨by decide,by decide,Nat.le_of_eq cl.symm⟩,⟨by decide,by decide,by decide⟩,⟨by decide,by decide,Nat.le_of_eq cl.symm⟩,⟨c3 ▸ wA 3,c2 ▸ wA 2⟩,fin _ _ c3 c2⟩
 ·exact ⟨⟨by decide,by decide⟩,⟨rfl,rfl⟩,⟨by decide,by decide,by decide⟩,⟨by decide,by decide,Nat.le_of_eq cl.symm⟩,⟨by decide,by decide,by decide⟩,⟨by decide,by decide,Nat.le_of_eq cl.symm⟩,⟨c0 ▸ wA 0,c3 ▸ wA 3⟩,fin _ _ c0 c3⟩
 ·exact ⟨⟨by decide,by decide⟩,⟨rfl,rfl⟩,⟨by decide,by decide,by decide⟩,⟨by decide,by decide,Nat.le_of_eq cl.symm⟩,⟨by decide,by decide,by decide⟩,⟨by decide,by decide,Nat.le_of_eq cl.symm⟩,⟨c0 ▸ wA 0,c1 ▸ wA 1⟩,fin _ _ c0 c1⟩
def Zx4:=fun (n c o:Int) (post:Nat × Unit→Prop)=>∃ (h:III n c o),∀ a,a=Z56 n c o→∃ (h:II n c),∀ a_1,a_1=Z8g n c→∃ (h:II n a.1),∀ a_2,
 a_2=Z8g n a.1→Br (!a_1.2.1) (post (0,())) (Br (!a_2.2.1) (post (0,())) (∃ (h:WV2 a_1.1 a_2.1),post ((gapR a_1.1 a_2.1).1,())))
theorem Z1gh (n:Int) (c:Int) (o:Int) (h:III n c o):Zx4  n c o (fun r=>r=Z1jj n c o):=by
 have br:=Z10o n c o
 refine ⟨h,?_⟩
 rintro ⟨b,q,⟨⟩⟩ hb
 have eb:b=(Z2 n c o).1:=congrArg Prod.fst hb
 rw [← eb] at br
 refine ⟨⟨h.1,h.2.1⟩,?_⟩
 rintro ⟨⟨A1,A2,A3⟩,p,⟨⟩⟩ hA
 refine ⟨⟨h.1,by omega,by omega⟩,?_⟩
 rintro ⟨⟨B1,B2,B3⟩,r,⟨⟩⟩ hB
 have hA:((A1,A2,A3),p,())=Z8g n c:=hA
 have hB:((B1,B2,B3),r,())=Z8g n b:=hB
 have key:∀ z,Z8g n z=if Zd n z then (Zl6 n z,true,()) else ((0,0,0),false,()):=fun z=>rfl
 have bt:∀ {z:Bool},z=true→¬ (!z)=true:=fun {z} e=>by rw [e]; decide
 have bf:∀ {z:Bool},z=false→¬ (!z)=false:=fun {z} e=>by rw [e]; decide
 by_cases o1:Zd n c=true
 ·rw [key,if_pos o1] at hA
  obtain ⟨eA,e1⟩:=Prod.mk.inj hA
  have ep:p=true:=congrArg Prod.fst e1
  refine Br.intro (fun e=>absurd e (bt ep)) fun _=>?_
  by_cases o2:Zd n b=true
  ·rw [key,if_pos o2] at hB
   obtain ⟨eB,e2⟩:=Prod.mk.inj hB
   have er:r=true:=congrArg Prod.fst e2
   refine Br.intro (fun e=>absurd e (bt er)) fun _=>?_
   have hw:WV2 (A1,A2,A3) (B1,B2,B3):=⟨by rw [eA]; exact Z17q _ _,by rw [eB]; exact Z17q _ _⟩
   have hg:gapQ (A1,A2,A3) (B1,B2,B3)=gapG n c o:=by
    rw [eA,eB]; unfold gapG; rw [← eb,o1,o2,if_pos (by decide)]
   exact ⟨hw,congrArg r1 hg⟩
  ·rw [key,if_neg o2] at hB
   obtain ⟨eB,e2⟩:=Prod.mk.inj hB
   have er:r=false:=congrArg Prod.fst e2
   refine Br.intro (fun _=>congrArg r1 ?_) fun e=>absurd e (bf er)
   unfold gapG; rw [← eb,o1,show Zd n b=false by simpa using o2]; rfl
 ·rw [key,if_neg o1] at hA
  obtain ⟨eA,e1⟩:=Prod.mk.inj hA
  have ep:p=false:=congrArg Prod.fst e1
  refine Br.intro (fun _=>congrArg r1 ?_) fun e=>absurd e (bf ep)
  unfold gapG; rw [show Zd n c=false by simpa using o1]; rfl
end Go.Lift

namespace Go.Lift
open Go.Proofs
def Zx5:Cx:=⟨Z1p Z1x,Z1u [(104,Z8q),(180,Zcq),(179,Zcr),(112,Z9o),(113,Zx3),(51,Zb7)],SqG⟩
theorem Zm2:CxOk Tryz.prog Zx5:=⟨Zl Zv,Zq ⟨Zci,Zly,Zlz,Zhv,Z1gg,Zjj,trivial⟩⟩
def Zjv:Con:=Con.nam [.int .i64,.int .i64] [.snap kVec,.snap .bool] (fun x=>II x.1 x.2.1) (fun x=>Z8g x.1 x.2.1)
theorem Z12z:SqH Zjv 114 :=
 nP Zm2 Z3 Zb nHn Tryz.func114 (fun x p=>Zm0  x.1 x.2.1 p) fun x h _=>Z15t  x.1 x.2.1 h
def Z1gi:Cx:=addC 114 Zjv Zx5
theorem Zm3:CxOk Tryz.prog Z1gi:=Zk Zm2 Z12z
def Zjw:Con:=Con.nam [.int .i64,.int .i64,.int .i64] [.snap (.flt .f64)] (fun x=>III x.1 x.2.1 x.2.2.1) (fun x=>Zhd x.1 x.2.1 x.2.2.1)
theorem Z130:SqH Zjw 52 :=
 nP Zm3 Z3 Zb nHn Tryz.func52 (fun x p=>Zm1  x.1 x.2.1 x.2.2.1 p) fun x h _=>Z15u  x.1 x.2.1 x.2.2.1 h
def Ztj:Con:=Con.nam [.int .i64,.int .i64,.int .i64] [.snap (.flt .f64)] (fun x=>III x.1 x.2.1 x.2.2.1) (fun x=>Z1jj x.1 x.2.1 x.2.2.1)
theorem Z1er:SqH Ztj 53 :=
 nP Zm3 Z3 Zb nHn Tryz.func53 (fun x p=>Zx4  x.1 x.2.1 x.2.2.1 p) fun x h _=>Z1gh  x.1 x.2.1 x.2.2.1 h
end Go.Lift

namespace Go.Lift
open Go.Proofs
def Z1kf:Cx:=⟨Z1p Z1x,Z1u [(48,Z4t),(51,Zb7),(103,Zpy),(52,Zjw),(53,Ztj)],SqG⟩
theorem Zpz:CxOk Tryz.prog Z1kf:=⟨Zl Zv,Zq ⟨Z6f,Zjj,Z1ad,Z130,Z1er,trivial⟩⟩
def Zhw:Con:=.det [.int .i64] [.snap (.ptr Z23),.snap (.int .i64)] (fun x=>I64 x.1) (fun x=>newR x.1)
theorem Ztk:SqH Zhw 13 :=
 dPI Zpz Z3 Zb ({ loops:=Zw [(9,{ ls:=[(.slot 36,.data (.int .i64)),(.cell 1 1,.row 96 Z3l),(.cell 1 4,.row 2 (.int .i64))],os:=[(0,88,.ent (.pair (.int .i64) (.int .i64)) (.int .i64))] }),(15,{ ls:=[(.slot 49,.data (.int .i64)),(.cell 1 3,.row 98 (.arr 2 (.int .i64))),(.cell 1 5,.row 22 (.flt .f64)),(.cell 1 6,.row 22 (.flt .f64))],os:=[] })],joins:=fun _=>none,inl:=inlL [49,50],unroll:=fun k=>if k=6 then some 3 else none }) (Z3g Zpz Z3 Z19g 6) Tryz.func13 (fun x p=>Zwq 92 93 2 96 49 50 x.1 p) fun x h _=>Z1ga 92 93 2 96 49 50 x.1 h
end Go.Lift

namespace Go.Lift
def Zbc:=fun (post:Int × Unit→Prop)=>post (0,())
theorem Zoc  : Zbc   (fun r=>r=Z1z none):=by
 exact rfl
def Zbd:=fun (g:YG) (post:Int × Unit→Prop)=>∃ (h:some g≠none),post ((↑g.2.2.2.2.1.length:Int),())
theorem Zod (g:YG):Zbd  g (fun r=>r=Z1z (some g)):=by
 exact ⟨by simp,rfl⟩
def Zbe:=fun (post:Int × Unit→Prop)=>post (0,())
theorem Zoe  : Zbe   (fun r=>r=Z1e none):=by
 exact rfl
def Zbf:=fun (g:YG) (post:Int × Unit→Prop)=>∃ (h:some g≠none),post ((↑g.2.1.length:Int),())
theorem Zof (g:YG):Zbf  g (fun r=>r=Z1e (some g)):=by
 exact ⟨by simp,rfl⟩
def Zbw:=fun (c:Int) (post:Int × Unit→Prop)=>post (0,())
theorem Zqu (c:Int):Zbw  c (fun r=>r=Z13 none c):=by
 exact rfl
def Zbx:=fun (g:YG) (c:Int) (post:Int × Unit→Prop)=>∀ a,a=decide (c<(0:Int))→Br a (post (0,())) (∃ (h:some g≠none),∀ a,a =
 decide (c≥(↑g.2.2.2.2.1.length:Int))→Br a (post (0,())) (∃ (h:some g≠none),∃ (h:(0:Int)≤c∧c<(↑g.2.2.2.2.1.length:Int)),post
 (g.2.2.2.2.1.getD c.toNat (0:Int),())))
theorem Zqv (g:YG) (c:Int):Zbx  g c (fun r=>r=Z13 (some g) c):=by
 rintro _ rfl
 refine Br.intro (fun e=>congrArg r1 ?_) fun e=>?_
 ·have e:=of_decide_eq_true e
  show (0:Int)=if 0≤c∧c<(g.2.2.2.2.1.length:Nat) then g.2.2.2.2.1.getD c.toNat 0 else 0
  rw [if_neg (by omega)]
 have e:=of_decide_eq_false e
 refine ⟨by simp,?_⟩
 rintro _ rfl
 refine Br.intro (fun f=>congrArg r1 ?_) fun f=>?_
 ·have f:=of_decide_eq_true f
  show (0:Int)=if 0≤c∧c<(g.2.2.2.2.1.length:Nat) then g.2.2.2.2.1.getD c.toNat 0 else 0
  rw [if_neg (by omega)]
 have f:=of_decide_eq_false f
 refine ⟨by simp,⟨by omega,by omega⟩,congrArg r1 ?_⟩
 show g.2.2.2.2.1.getD c.toNat 0=if 0≤c∧c<(g.2.2.2.2.1.length:Nat) then g.2.2.2.2.1.getD c.toNat 0 else 0
 rw [if_pos ⟨by omega,by omega⟩]
end Go.Lift

namespace Go.Lift
open Go.Proofs
def Z1kg:Cx:=⟨Z1p Z1x,Z1u [],SqG⟩
theorem Zey:CxOk Tryz.prog Z1kg:=⟨Zl Zv,fun f c h=>by cases h⟩
def Z2d:Con:=.det [.ptr Z23] [.snap (.int .i64)] (fun _=>True) (fun x=>Z1z x.1)
theorem Z2p:SqH Z2d 32 :=
 dPs Zey Z3 Zb nHn Tryz.func32 (fun y p=>Zbc   p) (fun z y p=>Zbd  z  p) (fun y _ _=>Zoc  ) fun z y _ _=>Zod  z
def Z2q:Con:=.det [.ptr Z23] [.snap (.int .i64)] (fun _=>True) (fun x=>Z1e x.1)
theorem Z35:SqH Z2q 31 :=
 dPs Zey Z3 Zb nHn Tryz.func31 (fun y p=>Zbe   p) (fun z y p=>Zbf  z  p) (fun y _ _=>Zoe  ) fun z y _ _=>Zof  z
def Z43:Con:=.det [.ptr Z23,.int .i64] [.snap (.int .i64)] (fun _=>True) (fun x=>Z13 x.1 x.2.1)
theorem Z5t:SqH Z43 90 :=
 dPs Zey Z3 Zb nHn Tryz.func90 (fun y p=>Zbw  y.1 p) (fun z y p=>Zbx  z y.1 p) (fun y _ _=>Zqu  y.1) fun z y _ _=>Zqv  z y.1
end Go.Lift

namespace Go.Lift
def Zm4:=fun (post:YP × Unit→Prop)=>post ((1,4602678819172646912,4607182418800017408,0,0,false,[]),())
theorem Z15v  : Zm4   (fun r=>r=Zsj):=by
 exact rfl
def Zm5:=fun (a b:List Int) (post:Bool × Unit→Prop)=>∀ a_1,a_1=((↑a.length:Int) != (↑b.length:Int))→Br a_1 (post (false,())) (HS []∧∃ (I:Int
 × Unit→Unit→Prop),∃ (μ:Int × Unit→Unit→Nat),I (0,()) ()∧∀ (x:Int × Unit) (y:Unit),I x y→∀ a_2,a_2=decide (x.1<(↑a.length:Int))→Br a_2 (∃ (h:(0 :
 Int)≤x.1∧x.1<(↑a.length:Int)),∃ (h:(0:Int)≤x.1∧x.1<(↑b.length:Int)),∀ a_3,a_3=(a.getD x.1.toNat (0:Int) != b.getD x.1.toNat (0:Int))→Br a_3 (post
 (false,())) (HS []∧I (i64.wrap (x.1+1),()) ()∧μ (i64.wrap (x.1+1),()) ()<μ x y)) (post (true,())))
theorem Z15w (a:List Int) (b:List Int) (w:KS.wf [.slice (.int .i64),.slice (.int .i64)] (a,b,())):Zm5  a b (fun r=>r=Z8k a b):=by
 have ha:a.length≤maxN:=w.1.1
 have hm:maxN≤9223372036854775807:=by decide
 rintro _ rfl
 refine Br.intro (fun e=>congrArg r1 ?_) fun e=>?_
 ·have e:¬ a.length=b.length:=fun q=>by rw [q] at e; simp at e
  exact (beq_eq_false_iff_ne.2 fun q=>e (congrArg List.length q)).symm
 have e:a.length=b.length:=by
  have:((a.length:Int)==(b.length:Int))=true:=by
   have e:(!((a.length:Int)==(b.length:Int)))=false:=e
   simpa using e
  have:=beq_iff_eq.1 this
  omega
 refine ⟨rfl,fun x _=>∃ k:Nat,x.1=k∧k≤a.length∧a.take k=b.take k,fun x _=>a.length - x.1.toNat,⟨0,rfl,by omega,rfl⟩,?_⟩
 rintro ⟨_,⟨⟩⟩ _ ⟨k,rfl,hk,hq⟩
 dsimp only
 rintro _ rfl
 refine Br.intro (fun e1=>?_) fun e1=>?_
 ·have e1:k<a.length:=by have:=of_decide_eq_true e1; omega
  rw [Int.toNat_natCast,Zz e1 (by omega)]
  have ta:=Ze3 e1 0
  have tb:=Ze3 (l:=b) (i:=k) (by omega) 0
  refine ⟨⟨by omega,by omega⟩,⟨by omega,by omega⟩,?_⟩
  rintro _ rfl
  refine Br.intro (fun e2=>congrArg r1 ?_) fun e2=>?_
  ·have e2:¬ a.getD k 0=b.getD k 0:=bne_iff_ne.1 e2
   refine (beq_eq_false_iff_ne.2 fun q=>e2 ?_).symm
   rw [q]
  ·have e2:a.getD k 0=b.getD k 0:=by
    have e2:(!(a.getD k 0==b.getD k 0))=false:=e2
    simpa using e2
   exact ⟨rfl,⟨k+1,rfl,by omega,by rw [ta,tb,hq,e2]⟩,by omega⟩
 ·have e1:k=a.length:=by have:=of_decide_eq_false e1; omega
  subst e1
  refine congrArg r1 (beq_iff_eq.2 ?_).symm
  rw [List.take_length] at hq
  rw [hq,e,List.take_length]
def Zq0:=fun (a b:YS) (post:Bool × Unit→Prop)=>∃ (h:True),∀ a_1,a_1=allR a.1 b.1→∀ a_2,a_2=a_1.1→Br a_2 (∃ (h:True),∀ a_3,a_3=Z8k a.2.1
 b.2.1→∀ a_4,a_4=a_3.1→Br a_4 (∃ (h:True),∀ a_5,a_5=Z8k a.2.2.1 b.2.2.1→∀ a_6,a_6=a_5.1→Br a_6 (∃ (h:True),∀ a_7,a_7=allR a.2.2.2.1 b.2.2.2.1→∀ a_8,
 a_8=a_7.1→Br a_8 (∀ a_9,a_9=(a.2.2.2.2.1==b.2.2.2.2.1)→Br a_9 (∀ a_10,a_10=(a.2.2.2.2.2==b.2.2.2.2.2)→post (a_10,())) (post (false,()))) (post
 (false,()))) (post (false,()))) (post (false,()))) (post (false,()))
theorem Z1ae (a:YS) (b:YS):Zq0  a b (fun r=>r=Zv1 a b):=by
 obtain ⟨a1,a4,a2,a3,a5,a6⟩:=a
 obtain ⟨b1,b4,b2,b3,b5,b6⟩:=b
 have key:∀ v:Bool,Z1br (a1,a4,a2,a3,a5,a6) (b1,b4,b2,b3,b5,b6)=v→(v,())=Zv1 (a1,a4,a2,a3,a5,a6) (b1,b4,b2,b3,b5,b6):=fun v h=>by unfold Zv1; rw [h]
 have bad:∀ p:Prop,((a1,a4,a2,a3,a5,a6)=(b1,b4,b2,b3,b5,b6)→p)→¬ p→(false,())=Zv1 (a1,a4,a2,a3,a5,a6) (b1,b4,b2,b3,b5,b6):=fun p h hp=>key false (by unfold Z1br; exact beq_eq_false_iff_ne.2 fun e=>hp (h e))
 refine ⟨trivial,?_⟩
 rintro _ rfl _ rfl
 refine Br.intro (fun e1=>?_) fun e1=>bad (a1=b1) (fun e=>(Prod.mk.inj e).1) (beq_eq_false_iff_ne.1 e1)
 have e1:a1=b1:=beq_iff_eq.1 e1
 refine ⟨trivial,?_⟩
 rintro _ rfl _ rfl
 refine Br.intro (fun e4=>?_) fun e4=>bad (a4=b4) (fun e=>(Prod.mk.inj (Prod.mk.inj e).2).1) (beq_eq_false_iff_ne.1 e4)
 have e4:a4=b4:=beq_iff_eq.1 e4
 refine ⟨trivial,?_⟩
 rintro _ rfl _ rfl
 refine Br.intro (fun e2=>?_) fun e2=>bad (a2=b2) (fun e=>(Prod.mk.inj (Prod.mk.inj (Prod.mk.inj e).2).2).1) (beq_eq_false_iff_ne.1 e2)
 have e2:a2=b2:=beq_iff_eq.1 e2
 refine ⟨trivial,?_⟩
 rintro _ rfl _ rfl
 refine Br.intro (fun e3=>?_) fun e3=>bad (a3=b3) (fun e=>(Prod.mk.inj (Prod.mk.inj (Prod.mk.inj (Prod.mk.inj e).2).2).2).1) (beq_eq_false_iff_ne.1 e3)
 have e3:a3=b3:=beq_iff_eq.1 e3
 rintro _ rfl
 refine Br.intro (fun e5=>?_) fun e5=>bad (a5=b5) (fun e=>(Prod.mk.inj (Prod.mk.inj (Prod.mk.inj (Prod.mk.inj (Prod.mk.inj e).2).2).2).2).1) (beq_eq_false_iff_ne.1 e5)
 have e5:a5=b5:=beq_iff_eq.1 e5
 rintro _ rfl
 have e1':a1=b1:=e1
 have e4':a4=b4:=e4
 have e2':a2=b2:=e2
 have e3':a3=b3:=e3
 have e5':a5=b5:=e5
 clear e1 e2 e3 e4 e5
 subst e1' e2' e3' e4' e5'
 by_cases e6:a6=b6
 ·subst e6
  have t:(a6==a6)=true:=beq_iff_eq.2 rfl
  show ((a6==a6),())=_
  rw [t]; exact key true (by unfold Z1br; exact beq_iff_eq.2 rfl)
 ·have t:(a6==b6)=false:=beq_eq_false_iff_ne.2 e6
  show ((a6==b6),())=_
  rw [t]; exact bad (a6=b6) (fun e=>(Prod.mk.inj (Prod.mk.inj (Prod.mk.inj (Prod.mk.inj (Prod.mk.inj e).2).2).2).2).2) e6
def Zq1:=fun (p:YP) (s:YS) (post:Option YG × Bool × Unit→Prop)=>∃ (h:Zlc p),∀ a,a=Z11a p→∀ a_1,a_1=(a.1 != (0:Int))→Br a_1 (post
 (none,false,())) (∃ (h:Z10g p.1 s),∀ a,a=((Zl5 p.1 s).2.1 != (0:Int))→Br a (post (none,false,())) (∃ (h:I64 p.1),∀ a,a=((newR
 p.1).2.1==(0:Int))→post ((newR p.1).1,a,())))
theorem Z1af (p:YP) (s:YS) (h:Zsi p s):Zq1  p s (fun r=>r=Z6d p s):=by
 obtain ⟨hP,hS⟩:=h
 refine ⟨hP,?_⟩
 rintro _ rfl _ rfl
 refine Br.intro (fun q=>?_) fun q=>?_
 ·have q:(Z1h p != 0)=true:=q
  have q:¬ Z1h p=0:=by simpa using q
  show (none,false,())=Z6d p s
  unfold Z6d; rw [if_neg q]
 have q:(Z1h p != 0)=false:=q
 have q:Z1h p=0:=by simpa using q
 refine ⟨⟨hP.1,hS⟩,?_⟩
 rintro _ rfl
 refine Br.intro (fun r=>?_) fun r=>?_
 ·have r:((Z1b p.1 s).2 != 0)=true:=r
  have r:¬ (Z1b p.1 s).2=0:=by simpa using r
  show (none,false,())=Z6d p s
  unfold Z6d; rw [if_pos q,if_neg r]
 have r:((Z1b p.1 s).2 != 0)=false:=r
 have r:(Z1b p.1 s).2=0:=by simpa using r
 refine ⟨hP.1,?_⟩
 rintro _ rfl
 unfold Z6d; rw [if_pos q,if_pos r]
 have g:=(Z1e5 r).good
 rcases Z189 p.1 with ⟨h0,_⟩ | ⟨_,_,e,_⟩
 ·exact absurd h0 (by unfold Z1; rw [if_pos g]; unfold Z1v at g; simp at g; have:1≤p.1*p.1:=Int.le_trans (by omega) (Int.mul_le_mul g.1 g.1 (by omega) (by omega)); rw [Int.mul_assoc]; omega)
 ·rw [e]; rfl
end Go.Lift

namespace Go.Lift
def Z131:=fun (a b:List Nat) (post:Bool × Unit→Prop)=>∀ a_1,a_1=((↑a.length:Int) != (↑b.length:Int))→Br a_1 (post (false,())) (HS []∧∃ (I:Int ×
 Unit→Unit→Prop),∃ (μ:Int × Unit→Unit→Nat),I (0,()) ()∧∀ (x:Int × Unit) (y:Unit),I x y→∀ a_2,a_2=decide (x.1<(↑a.length:Int))→Br a_2 (∃ (h:(0 :
 Int)≤x.1∧x.1<(↑a.length:Int)),∃ (h:(0:Int)≤x.1∧x.1<(↑b.length:Int)),∃ (h:True),∀ a_3,a_3=(Z1bg (a.getD x.1.toNat (0:Nat)) (b.getD x.1.toNat (0 :
 Nat))).1→Br (!a_3) (post (false,())) (HS []∧I (i64.wrap (x.1+1),()) ()∧μ (i64.wrap (x.1+1),()) ()<μ x y)) (post (true,())))
theorem Z1kh (a:List Nat) (b:List Nat) (w:KS.wf [.slice (.flt .f64),.slice (.flt .f64)] (a,b,())):Z131  a b (fun r=>r=allR a b):=by
 have ha:a.length≤maxN:=w.1.1
 have hm:maxN≤9223372036854775807:=by decide
 rintro _ rfl
 refine Br.intro (fun e=>congrArg r1 ?_) fun e=>?_
 ·have e:¬ a.length=b.length:=fun q=>by rw [q] at e; simp at e
  exact (beq_eq_false_iff_ne.2 fun q=>e (congrArg List.length q)).symm
 have e:a.length=b.length:=by
  have:((a.length:Int)==(b.length:Int))=true:=by
   have e:(!((a.length:Int)==(b.length:Int)))=false:=e
   simpa using e
  have:=beq_iff_eq.1 this
  omega
 refine ⟨rfl,fun x _=>∃ k:Nat,x.1=k∧k≤a.length∧a.take k=b.take k,fun x _=>a.length - x.1.toNat,⟨0,rfl,by omega,rfl⟩,?_⟩
 rintro ⟨_,⟨⟩⟩ _ ⟨k,rfl,hk,hq⟩
 dsimp only
 rintro _ rfl
 refine Br.intro (fun e1=>?_) fun e1=>?_
 ·have e1:k<a.length:=by have:=of_decide_eq_true e1; omega
  rw [Int.toNat_natCast,Zz e1 (by omega)]
  have ta:=Ze3 e1 0
  have tb:=Ze3 (l:=b) (i:=k) (by omega) 0
  refine ⟨⟨by omega,by omega⟩,⟨by omega,by omega⟩,trivial,?_⟩
  rintro _ rfl
  refine Br.intro (fun e2=>congrArg r1 ?_) fun e2=>?_
  ·have e2:¬ a.getD k 0=b.getD k 0:=fun q=>by
    have e2:(!(decide (a.getD k 0=b.getD k 0)))=true:=e2
    rw [q] at e2; simp at e2
   refine (beq_eq_false_iff_ne.2 fun q=>e2 ?_).symm
   rw [q]
  ·have e2:a.getD k 0=b.getD k 0:=by
    have e2:(!(decide (a.getD k 0=b.getD k 0)))=false:=e2
    simpa using e2
   exact ⟨rfl,⟨k+1,rfl,by omega,by rw [ta,tb,hq,e2]⟩,by omega⟩
 ·have e1:k=a.length:=by have:=of_decide_eq_false e1; omega
  subst e1
  refine congrArg r1 (beq_iff_eq.2 ?_).symm
  rw [List.take_length] at hq
  rw [hq,e,List.take_length]
end Go.Lift

namespace Go.Lift
open Go.Proofs
def Z1gj:Cx:=⟨Z1p Z1x,Z1u [(44,Zhs)],SqG⟩
theorem Z15x:CxOk Tryz.prog Z1gj:=⟨Zl Zv,Zq ⟨Zt4,trivial⟩⟩
def Zks:Con:=Con.nam [.slice (.flt .f64),.slice (.flt .f64)] [.snap .bool] (fun _=>True) (fun x=>allR x.1 x.2.1)
theorem Zx6:SqH Zks 23 :=
 nP Z15x Z3 Zb ({ loops:=Zw [(4,{ ls:=[(.slot 5,.data (.int .i64))],os:=[] })],joins:=fun _=>none,named:=true }) Tryz.func23 (fun x p=>Z131  x.1 x.2.1 p) fun x _ w=>Z1kh  x.1 x.2.1 w
end Go.Lift

namespace Go.Lift
def Zq2:=fun (n:Int) (r0:Int × Int × Int × Int) (post:Bool × Unit→Prop)=>∀ a,a=decide (r0.1≥(0:Int))→Br a (∀ a,a=decide (r0.1<n)→Br a (∀ a,a =
 decide (r0.2.1≥(-4503599627370496:Int))→Br a (∀ a,a=decide (r0.2.1≤(4503599627370496:Int))→Br a (∀ a,a=decide (r0.2.2.1≥(0:Int))→Br a (∀ a,a=decide
 (r0.2.2.2≥r0.2.2.1)→post (a,())) (post (false,()))) (post (false,()))) (post (false,()))) (post (false,()))) (post (false,()))
theorem Z1ag (n:Int) (r0:Int × Int × Int × Int):Zq2  n r0 (fun r=>r=Zcg n r0):=by
 have key:Zcg n r0=r1 (decide (0≤r0.1)&&decide (r0.1<n)&&decide (-4503599627370496≤r0.2.1)&&decide (r0.2.1≤4503599627370496)&&decide (0≤r0.2.2.1)&&decide (r0.2.2.1≤r0.2.2.2)):=rfl
 rw [key]
 rintro _ rfl
 refine Br.intro (fun e1=>?_) fun e1=>?_
 rotate_left
 ·rw [show decide (0≤r0.1)=false from e1]; rfl
 rintro _ rfl
 refine Br.intro (fun e2=>?_) fun e2=>?_
 rotate_left
 ·rw [e2,Bool.and_false]; rfl
 rintro _ rfl
 refine Br.intro (fun e3=>?_) fun e3=>?_
 rotate_left
 ·rw [show decide (-4503599627370496≤r0.2.1)=false from e3,Bool.and_false]; rfl
 rintro _ rfl
 refine Br.intro (fun e4=>?_) fun e4=>?_
 rotate_left
 ·rw [e4,Bool.and_false]; rfl
 rintro _ rfl
 refine Br.intro (fun e5=>?_) fun e5=>?_
 rotate_left
 ·rw [show decide (0≤r0.2.2.1)=false from e5,Bool.and_false]; rfl
 rintro _ rfl
 rw [show decide (0≤r0.1)=true from e1,e2,show decide (-4503599627370496≤r0.2.1)=true from e3,e4,show decide (0≤r0.2.2.1)=true from e5]; rfl
def Zm6 (ty25:Nat) (p:YP) (ty3:Nat):List HObj:=[HObj.box Md.rw ty25 [SV.val (Go.Value.int i64 p.1),SV.val (Go.Value.float f64 p.2.1),SV.val (Go.Value.float f64 p.2.2.1),SV.val (Go.Value.float f64 p.2.2.2.1),SV.val (Go.Value.int i64 p.2.2.2.2.1),SV.val (Go.Value.bool p.2.2.2.2.2.1),SV.data ((K.int i64).pair ((K.int i64).pair ((K.int i64).pair (K.int i64)))).slice p.2.2.2.2.2.2],HObj.box Md.rw ty3 [SV.val (Go.Value.int i64 (Z3p p.1).1)]]
def Zq3:=fun (ty25 ty3:Nat) (p:YP) (post:Int × Unit→Prop)=>∃ (h:I64 p.1),∀ a,a=((Z3p p.1).1==(0:Int))→Br a (post ((10:Int),())) (∀ a,a =
 fcmp Go.BinOp.gtr (f64.format.order p.2.1 (0:Nat))→Br (!a) (post ((11:Int),())) (∀ a,a=fcmp Go.BinOp.gtr (f64.format.order p.2.1
 (4652218415073722368:Nat))→Br a (post ((11:Int),())) (∃ (h:W3 p.2.2.1 (0:Nat) (4652218415073722368:Nat)),∀ a,a=(Zhb p.2.2.1 (0:Nat) (4652218415073722368 :
 Nat)).1→Br (!a) (post ((11:Int),())) (∃ (h:W3 p.2.2.2.1 (0:Nat) (4652218415073722368:Nat)),∀ a,a=(Zhb p.2.2.2.1 (0:Nat) (4652218415073722368:Nat)).1→Br
 (!a) (post ((11:Int),())) (∃ (h:True),∀ a,a=Zhj p.2.2.2.2.1→∀ a_1,a_1=a.1→Br (!a_1) (post ((11:Int),())) (∀ a,a=decide ((↑p.2.2.2.2.2.2.length:Int) >
 (1024:Int))→Br a (post ((18:Int),())) (HS (Zm6 ty25 p ty3)∧∃ (I:Int × Unit→Unit→Prop),∃ (μ:Int × Unit→Unit→Nat),I ((0:Int),()) ()∧∀ (x:Int
 × Unit) (y:Unit),I x y→∀ a,a=decide (x.1<(↑p.2.2.2.2.2.2.length:Int))→Br a (∃ (h:(0:Int)≤x.1∧x.1<(↑p.2.2.2.2.2.2.length:Int)),∃ (h:True),∀ a,a =
 Zcg (Z3p p.1).1 ((p.2.2.2.2.2.2.getD x.1.toNat Zh.dflt).1,(p.2.2.2.2.2.2.getD x.1.toNat Zh.dflt).2.1,(p.2.2.2.2.2.2.getD x.1.toNat Zh.dflt).2.2.1,
 (p.2.2.2.2.2.2.getD x.1.toNat Zh.dflt).2.2.2)→∀ a_2,a_2=a.1→Br (!a_2) (∀ a,a=decide (x.1≥(0:Int))→Br a (post ((18:Int),())) (post ((0:Int),()))) (HS
 (Zm6 ty25 p ty3)∧I (i64.wrap (x.1+(1:Int)),()) ()∧μ (i64.wrap (x.1+(1:Int)),()) ()<μ x y)) (∀ a,a=decide ((-1:Int)≥(0:Int)) →
 Br a (post ((18:Int),())) (post ((0:Int),()))))))))))
theorem Z1ah (ty0 ty1:Nat) (p:YP) (h:Zlc p) (w:KS.wf [Z6s] (p,())):Zq3 ty0 ty1 p (fun r=>r=Z11a p):=by
 obtain ⟨hn,⟨hd,hg,hr⟩,hl⟩:=h
 have W0:W64 0:=by unfold W64; decide
 have WM:W64 4652218415073722368:=by unfold W64; decide
 have hll:p.2.2.2.2.2.2.length≤maxN:=w.1.2.2.2.2.2.2.1
 have hm:maxN≤9223372036854775806:=by decide
 refine ⟨hn,?_⟩
 rintro _ rfl
 refine Br.intro (fun e0=>?_) fun e0=>?_
 ·have e0:Z1 p.1=0:=beq_iff_eq.1 e0
  show (10,())=r1 (Z1h p)
  unfold Z1h; rw [if_pos e0]; rfl
 have c0:¬ Z1 p.1=0:=fun z=>by
  have e0:(Z1 p.1==0)=false:=e0
  rw [z] at e0; cases e0
 rintro _ rfl
 refine Br.intro (fun e1=>?_) fun e1=>?_
 ·have e1:(!gtS p.2.1 0)=true:=e1
  show (11,())=r1 (Z1h p)
  unfold Z1h; rw [if_neg c0,if_pos (by simp [e1])]; rfl
 have e1:(!gtS p.2.1 0)=false:=e1
 rintro _ rfl
 refine Br.intro (fun e2=>?_) fun e2=>?_
 ·have e2:gtS p.2.1 Z3z=true:=e2
  show (11,())=r1 (Z1h p)
  unfold Z1h; rw [if_neg c0,if_pos (by simp [e2])]; rfl
 have e2:gtS p.2.1 Z3z=false:=e2
 refine ⟨⟨hg,W0,WM⟩,?_⟩
 rintro _ rfl
 refine Br.intro (fun e3=>?_) fun e3=>?_
 ·have e3:(!Z29 p.2.2.1 0 Z3z)=true:=e3
  show (11,())=r1 (Z1h p)
  unfold Z1h; rw [if_neg c0,if_pos (by simp [e3])]; rfl
 have e3:(!Z29 p.2.2.1 0 Z3z)=false:=e3
 refine ⟨⟨hr,W0,WM⟩,?_⟩
 rintro _ rfl
 refine Br.intro (fun e4=>?_) fun e4=>?_
 ·have e4:(!Z29 p.2.2.2.1 0 Z3z)=true:=e4
  show (11,())=r1 (Z1h p)
  unfold Z1h; rw [if_neg c0,if_pos (by simp [e4])]; rfl
 have e4:(!Z29 p.2.2.2.1 0 Z3z)=false:=e4
 refine ⟨trivial,?_⟩
 rintro _ rfl
 rintro _ rfl
 refine Br.intro (fun e5=>?_) fun e5=>?_
 ·have e5:(!Z4g p.2.2.2.2.1)=true:=e5
  show (11,())=r1 (Z1h p)
  unfold Z1h; rw [if_neg c0,if_pos (by simp [e5])]; rfl
 have e5:(!Z4g p.2.2.2.2.1)=false:=e5
 have no11:(!gtS p.2.1 0||gtS p.2.1 Z3z||!Z29 p.2.2.1 0 Z3z||!Z29 p.2.2.2.1 0 Z3z||!Z4g p.2.2.2.2.1)=false:=by simp [e1,e2,e3,e4,e5]
 have hP:Z11a p=r1 (if decide (1024<(p.2.2.2.2.2.2.length:Int))||p.2.2.2.2.2.2.any (fun r=>!Z28 (Z1 p.1) r) then 18 else 0):=by
  show r1 (Z1h p)=_
  unfold Z1h; rw [if_neg c0,if_neg (by rw [no11]; decide)]
 rw [hP]
 rintro _ rfl
 refine Br.intro (fun e6=>?_) fun e6=>?_
 ·have e6:decide (1024<(p.2.2.2.2.2.2.length:Int))=true:=e6
  rw [e6]; rfl
 have e6:decide (1024<(p.2.2.2.2.2.2.length:Int))=false:=e6
 rw [e6]
 have hC:(Z3p p.1).fst=Z1 p.1:=rfl
 refine ⟨rfl,fun x _=>∃ k:Nat,x.1=k∧k≤p.2.2.2.2.2.2.length∧∀ j,j<k→Z28 (Z1 p.1) (p.2.2.2.2.2.2.getD j Zh.dflt)=true,fun x _=>p.2.2.2.2.2.2.length - x.1.toNat,⟨0,rfl,by omega,fun j hj=>by omega⟩,?_⟩
 rintro ⟨_,⟨⟩⟩ ⟨⟩ ⟨k,rfl,hk,hj⟩
 dsimp only
 rintro _ rfl
 refine Br.intro (fun e7=>?_) fun e7=>?_
 rotate_left
 ·have hke:k=p.2.2.2.2.2.2.length:=by have:=of_decide_eq_false e7; omega
  rintro _ rfl
  refine Br.intro (fun z=>absurd z (by decide)) fun _=>?_
  rw [Z1e2 (p:=fun r=>Z28 (Z1 p.1) r) (l:=p.2.2.2.2.2.2) (d:=Zh.dflt) (fun j h=>hj j (Nat.lt_of_lt_of_eq h hke.symm))]; rfl
 have hk2:k<p.2.2.2.2.2.2.length:=by have:=of_decide_eq_true e7; omega
 rw [Int.toNat_natCast]
 refine ⟨⟨by omega,by omega⟩,trivial,?_⟩
 rintro _ rfl
 rintro _ rfl
 refine Br.intro (fun e8=>?_) fun e8=>?_
 ·have e8:(!Z28 (Z1 p.1) (p.2.2.2.2.2.2.getD k Zh.dflt))=true:=e8
  have e8:Z28 (Z1 p.1) (p.2.2.2.2.2.2.getD k Zh.dflt)=false:=by simpa using e8
  rintro _ rfl
  refine Br.intro (fun _=>?_) fun z=>absurd (of_decide_eq_false z) (by omega)
  rw [Z1i6 (p:=fun r=>Z28 (Z1 p.1) r) (l:=p.2.2.2.2.2.2) (d:=Zh.dflt) hk2 e8]; rfl
 ·have e8:(!Z28 (Z1 p.1) (p.2.2.2.2.2.2.getD k Zh.dflt))=false:=e8
  have e8:Z28 (Z1 p.1) (p.2.2.2.2.2.2.getD k Zh.dflt)=true:=by simpa using e8
  rw [Zz hk2 (by omega)]
  refine ⟨rfl,⟨k+1,rfl,by omega,fun j h=>?_⟩,by omega⟩
  by_cases ej:j=k
  ·subst ej; exact e8
  ·exact hj j (by omega)
end Go.Lift

namespace Go.Lift
def Zhx:=fun (a b c:Nat) (post:Bool × Unit→Prop)=>∀ a_1,a_1=fcmp Go.BinOp.geq (f64.format.order a b)→Br a_1 (∀ a_2,a_2=fcmp Go.BinOp.leq
 (f64.format.order a c)→Br a_2 (∃ (h:True),∀ a_3,a_3=((Z8c a).1 != (9223372036854775808:Int))→post (a_3,())) (post (false,()))) (post (false,
 ()))
theorem Zyc (a:Nat) (b:Nat) (c:Nat) (h:W3 a b c):Zhx  a b c (fun r=>r=Zhb a b c):=by
 have nz:∀ x:Nat,((x:Int) != (9223372036854775808:Int))=decide (x≠9223372036854775808):=by
  intro x
  show (!((x:Int)==((9223372036854775808:Nat):Int)))=_
  rw [Z1hj]
  by_cases q:x=9223372036854775808
  ·rw [decide_eq_true q,decide_eq_false (by simpa using q)]; rfl
  ·rw [decide_eq_false q,decide_eq_true q]; rfl
 rintro _ rfl
 refine Br.intro (fun e=>?_) fun e=>?_
 ·rintro _ rfl
  refine Br.intro (fun f=>?_) fun f=>?_
  ·refine ⟨trivial,?_⟩
   rintro _ rfl
   refine congrArg r1 ?_
   show ((a:Int) != (9223372036854775808:Int))=Z29 a b c
   unfold Z29
   rw [nz,show fcmp .geq (Ieee.double.order a b)=true from e,show fcmp .leq (Ieee.double.order a c)=true from f]; rfl
  ·exact congrArg r1 (by unfold Z29; rw [show fcmp .leq (Ieee.double.order a c)=false from f,Bool.and_false]; rfl)
 ·exact congrArg r1 (by unfold Z29; rw [show fcmp .geq (Ieee.double.order a b)=false from e]; rfl)
def Zhy (ty22:Nat) (b:Nat):List HObj:=[HObj.box Md.rw ty22 [SV.val (Go.Value.float f64 b)]]
def Zjx:=fun (ty22:Nat) (a:List Nat) (b:Nat) (post:Int × Unit→Prop)=>HS (Zhy ty22 b)∧∃ (I:Int × Unit→Unit→Prop),∃ (μ:Int × Unit →
 Unit→Nat),I (0,()) ()∧∀ (x:Int × Unit) (y:Unit),I x y→∀ a_1,a_1=decide (x.1<(↑a.length:Int))→Br a_1 (∃ (h:(0:Int)≤x.1∧x.1<(↑a.length:Int)),∃ (h
 : W3 (a.getD x.1.toNat (0:Nat)) (Go.Op.negFloat f64 b) b),∀ a_2,a_2=(Zhb (a.getD x.1.toNat (0:Nat)) (Go.Op.negFloat f64 b) b).1→Br (!a_2)
 (post (x.1,())) (HS (Zhy ty22 b)∧I (i64.wrap (x.1+1),()) ()∧μ (i64.wrap (x.1+1),()) ()<μ x y)) (post ((-1:Int),()))
theorem Z132 (ty0:Nat) (a:List Nat) (b:Nat) (h:WLF a b) (w:KS.wf [.slice (.flt .f64),.flt .f64] (a,b,())):Zjx ty0 a b (fun r=>r=Zgl a b):=by
 have hl:a.length≤maxN:=w.1.1
 unfold maxN at hl
 refine ⟨rfl,fun x _=>∃ i:Nat,x.1=i∧i≤a.length∧Z2t a b=Ze0 (fun x=>!Z29 x (negF b) b) i (a.drop i),fun x _=>a.length - x.1.toNat,⟨0,rfl,by omega,rfl⟩,?_⟩
 rintro ⟨_,⟨⟩⟩ _ ⟨i,rfl,hil,hi⟩
 dsimp only
 rintro _ rfl
 refine Br.intro (fun e=>?_) fun e=>?_
 ·have e:i<a.length:=by have:=of_decide_eq_true e; omega
  refine ⟨⟨by omega,by omega⟩,?_⟩
  rw [Int.toNat_natCast]
  rw [Zix e 0,Zko] at hi
  refine ⟨⟨h.1 _ (Zu e 0),Zh5 h.2,h.2⟩,?_⟩
  rintro _ rfl
  refine Br.intro (fun f=>?_) fun f=>?_
  ·refine congrArg r1 ?_
   rw [hi]
   rw [if_pos (show (!Z29 (a.getD i 0) (negF b) b)=true from f)]
  ·rw [if_neg (by rw [show (!Z29 (a.getD i 0) (negF b) b)=false from f]; decide)] at hi
   rw [Zz e (by omega)]
   exact ⟨rfl,⟨i+1,rfl,by omega,hi⟩,by omega⟩
 ·have e:¬ i<a.length:=by have:=of_decide_eq_false e; omega
  refine congrArg r1 ?_
  rw [hi,List.drop_eq_nil_of_le (by omega)]; rfl
def Zjy:=fun (ty2:Nat) (a:List Int) (b:Int) (post:Int × Unit→Prop)=>HS [HObj.box Md.rw ty2 [SV.junk]]∧∃ (I:Int × Int × Unit→Unit→Prop),∃ (μ:Int
 × Int × Unit→Unit→Nat),I (0,b,()) ()∧∀ (x:Int × Int × Unit) (y:Unit),I x y→∀ a_1,a_1=decide (x.1<(↑a.length:Int))→Br a_1 (∃ (h:(0:Int)≤x.1∧x.1 <
 (↑a.length:Int)),∀ a_2,a_2=decide (a.getD x.1.toNat (0:Int)<(0:Int))→Br a_2 (post (x.1,())) (∀ a_3,a_3=decide (a.getD x.1.toNat (0:Int) > i64.wrap
 ((4503599627370496:Int) - x.2.1))→Br a_3 (post (x.1,())) (HS [HObj.box Md.rw ty2 [SV.junk]]∧I (i64.wrap (x.1+1),i64.wrap (x.2.1+a.getD x.1.toNat (0 :
 Int)),()) ()∧μ (i64.wrap (x.1+1),i64.wrap (x.2.1+a.getD x.1.toNat (0:Int)),()) ()<μ x y))) (post ((-1:Int),()))
theorem Z133 (ty0:Nat) (a:List Int) (b:Int) (h:Zuw a b) (w:KS.wf [.slice (.int .i64),.int .i64] (a,b,())):Zjy ty0 a b (fun r=>r=Zgm a b):=by
 have hl:a.length≤maxN:=w.1.1
 unfold maxN at hl
 obtain ⟨ha,hb0,hb1⟩:=h
 refine ⟨rfl,fun x _=>∃ i:Nat,x.1=i∧i≤a.length∧0≤x.2.1∧x.2.1≤4503599627370496∧Z2o 0 b a=Z2o i x.2.1 (a.drop i),fun x _=>a.length - x.1.toNat,⟨0,rfl,by omega,hb0,hb1,rfl⟩,?_⟩
 rintro ⟨_,s,⟨⟩⟩ _ ⟨i,rfl,hil,h0,h1,hi⟩
 dsimp only at h0 h1 hi ⊢
 have ws:i64.wrap (4503599627370496 - s)=4503599627370496 - s:=wi ⟨by omega,by omega⟩
 rintro _ rfl
 refine Br.intro (fun e=>?_) fun e=>?_
 ·have e:i<a.length:=by have:=of_decide_eq_true e; omega
  refine ⟨⟨by omega,by omega⟩,?_⟩
  rw [Int.toNat_natCast,ws]
  rw [Zix e 0,Zsd] at hi
  have hr:=ha _ (Zu e 0)
  rintro _ rfl
  refine Br.intro (fun f=>?_) fun f=>?_
  ·refine congrArg r1 ?_
   rw [hi]
   rw [if_pos (.inl (of_decide_eq_true f))]
  have f:=of_decide_eq_false f
  rintro _ rfl
  refine Br.intro (fun g=>?_) fun g=>?_
  ·refine congrArg r1 ?_
   rw [hi]
   rw [if_pos (.inr (of_decide_eq_true g))]
  ·have g:=of_decide_eq_false g
   rw [if_neg (by omega)] at hi
   rw [Zz e (by omega),wi (x:=s+a.getD i 0) ⟨by omega,by omega⟩]
   exact ⟨rfl,⟨i+1,rfl,by omega,by omega,by omega,hi⟩,by omega⟩
 ·have e:¬ i<a.length:=by have:=of_decide_eq_false e; omega
  refine congrArg r1 ?_
  rw [hi,List.drop_eq_nil_of_le (by omega)]; rfl
def Zm7:=fun (n:Int) (s:YS) (post:Int × Int × Unit→Prop)=>∃ (h:I64 n),Br ((Z3p n).1==(0:Int)) (post (0,10,())) (∃ (h:(2:Int)≠(0:Int)),∃
 (h:(0:Int)≤(0:Int)∧(0:Int)<(↑(4:Nat):Int)),Br ([(↑s.1.length:Int),(↑s.2.1.length:Int),(↑s.2.2.1.length:Int),i64.wrap ((↑s.2.2.2.1.length :
 Int).tdiv (2:Int))].getD (Int.toNat (0:Int)) (0:Int) != (Z3p n).1) (post (0,12,())) (∃ (h:(0:Int)≤i64.wrap ((0:Int)+(1:Int))∧i64.wrap ((0
 : Int)+(1:Int))<(↑(4:Nat):Int)),Br ([(↑s.1.length:Int),(↑s.2.1.length:Int),(↑s.2.2.1.length:Int),i64.wrap ((↑s.2.2.2.1.length:Int).tdiv (2 :
 Int))].getD (i64.wrap ((0:Int)+(1:Int))).toNat (0:Int) != (Z3p n).1) (post (i64.wrap ((0:Int)+(1:Int)),12,())) (∃ (h:(0:Int) ≤
 i64.wrap (i64.wrap ((0:Int)+(1:Int))+(1:Int))∧i64.wrap (i64.wrap ((0:Int)+(1:Int))+(1:Int))<(↑(4:Nat):Int)),Br
 ([(↑s.1.length:Int),(↑s.2.1.length:Int),(↑s.2.2.1.length:Int),i64.wrap ((↑s.2.2.2.1.length:Int).tdiv (2:Int))].getD (i64.wrap (i64.wrap ((0 :
 Int)+(1:Int))+(1:Int))).toNat (0:Int) != (Z3p n).1) (post (i64.wrap (i64.wrap ((0:Int)+(1:Int))+(1:Int)),12,())) (∃ (h:(0:Int) ≤
 i64.wrap (i64.wrap (i64.wrap ((0:Int)+(1:Int))+(1:Int))+(1:Int))∧i64.wrap (i64.wrap (i64.wrap ((0:Int)+(1 :
 Int))+(1:Int))+(1:Int))<(↑(4:Nat):Int)),Br ([(↑s.1.length:Int),(↑s.2.1.length:Int),(↑s.2.2.1.length:Int),i64.wrap ((↑s.2.2.2.1.length:Int).tdiv
 (2:Int))].getD (i64.wrap (i64.wrap (i64.wrap ((0:Int)+(1:Int))+(1:Int))+(1:Int))).toNat (0:Int) != (Z3p n).1) (post (i64.wrap
 (i64.wrap (i64.wrap ((0:Int)+(1:Int))+(1:Int))+(1:Int)),12,())) (Br ((↑s.2.2.2.1.length:Int) != i64.wrap ((2:Int)*(Z3p n).1))
 (post (i64.wrap (i64.wrap (i64.wrap ((0:Int)+(1:Int))+(1:Int))+(1:Int)),12,())) (∃ (h:WLF s.1 (4697254411347427328:Nat)),Br (decide
 ((Zgl s.1 (4697254411347427328:Nat)).1≥(0:Int))) (post ((Zgl s.1 (4697254411347427328:Nat)).1,13,())) (Br (decide (s.2.2.2.2.1<(0:Int))) (post (0,17,()))
 (Br (decide (s.2.2.2.2.1 > (4503599627370496:Int))) (post (0,17,())) (∃ (h:Zuw s.2.1 s.2.2.2.2.1),Br (decide ((Zgm s.2.1 s.2.2.2.2.1).1≥(0:Int))) (post
 ((Zgm s.2.1 s.2.2.2.2.1).1,14,())) (∃ (h:Zuw s.2.2.1 (0:Int)),Br (decide ((Zgm s.2.2.1 (0:Int)).1≥(0:Int))) (post ((Zgm s.2.2.1 (0:Int)).1,15,()))
 (∃ (h:WLF s.2.2.2.1 (4652218415073722368:Nat)),Br (decide ((Zgl s.2.2.2.1 (4652218415073722368:Nat)).1≥(0:Int))) (post ((Zgl s.2.2.2.1 (4652218415073722368 :
 Nat)).1,16,())) (Br (decide (s.2.2.2.2.2<(0:Int))) (post (0,1,())) (Br (decide (s.2.2.2.2.2 > (4611686018427387904:Int))) (post (0,1,())) (post (0,0,
 ())))))))))))))))
theorem Z15y (n:Int) (s:YS) (h:Z10g n s) (w:KS.wf [.int .i64,kSea] (n,s,())):Zm7  n s (fun r=>r=Zl5 n s):=by
 obtain ⟨hn,hb,hw,ht,hs,h4,h5⟩:=h
 have l1:s.1.length≤maxN:=w.2.1.1.1
 have l2:s.2.2.2.1.length≤maxN:=w.2.1.2.2.2.1.1
 unfold maxN at l1 l2
 obtain ⟨c0,c1⟩:=Z31 n
 have wc:i64.wrap (2*Z1 n)=2*Z1 n:=wi ⟨by omega,by omega⟩
 have td:(s.2.2.2.1.length:Int).tdiv 2=(s.2.2.2.1.length:Int) / 2:=Int.tdiv_eq_ediv_of_nonneg (by omega)
 have wd:i64.wrap ((s.2.2.2.1.length:Int) / 2)=(s.2.2.2.1.length:Int) / 2:=wi ⟨by omega,by omega⟩
 refine ⟨hn,Br.intro (fun e=>?_) fun e=>?_⟩
 ·have e:Z1 n=0:=eq_of_beq e
  show _=((Z1b n s).1,(Z1b n s).2,())
  unfold Z1b; rw [if_pos e]
 have e0:¬ Z1 n=0:=by intro q; have e:(Z1 n==0)=false:=e; rw [q] at e; cases e
 refine ⟨by decide,⟨by decide,by decide⟩,Br.intro (fun e=>?_) fun e=>?_⟩
 ·have e:(s.1.length:Int)≠Z1 n:=Z8e.1 e
  show _=((Z1b n s).1,(Z1b n s).2,())
  unfold Z1b; rw [if_neg e0,if_pos e]
 have e1:(s.1.length:Int)=Z1 n:=Z8e.2 e
 refine ⟨⟨by decide,by decide⟩,Br.intro (fun e=>?_) fun e=>?_⟩
 ·have e:(s.2.1.length:Int)≠Z1 n:=Z8e.1 e
  show _=((Z1b n s).1,(Z1b n s).2,())
  unfold Z1b; rw [if_neg e0,if_neg (by omega),if_pos e]; rfl
 have e2:(s.2.1.length:Int)=Z1 n:=Z8e.2 e
 refine ⟨⟨by decide,by decide⟩,Br.intro (fun e=>?_) fun e=>?_⟩
 ·have e:(s.2.2.1.length:Int)≠Z1 n:=Z8e.1 e
  show _=((Z1b n s).1,(Z1b n s).2,())
  unfold Z1b; rw [if_neg e0,if_neg (by omega),if_neg (by omega),if_pos e]; rfl
 have e3:(s.2.2.1.length:Int)=Z1 n:=Z8e.2 e
 have no3:(s.2.2.2.1.length:Int)≠2*Z1 n→((3:Int),(12:Int),())=Zl5 n s:=by
  intro e
  show _=((Z1b n s).1,(Z1b n s).2,())
  unfold Z1b; rw [if_neg e0,if_neg (by omega),if_neg (by omega),if_neg (by omega),if_pos e]
 refine ⟨⟨by decide,by decide⟩,Br.intro (fun e=>?_) fun e=>?_⟩
 ·have e:i64.wrap ((s.2.2.2.1.length:Int).tdiv 2)≠Z1 n:=Z8e.1 e
  rw [td,wd] at e
  exact no3 (by omega)
 refine Br.intro (fun e=>?_) fun e=>?_
 ·have e:(s.2.2.2.1.length:Int)≠i64.wrap (2*Z1 n):=Z8e.1 e
  rw [wc] at e
  exact no3 e
 have e4:(s.2.2.2.1.length:Int)=i64.wrap (2*Z1 n):=Z8e.2 e
 rw [wc] at e4
 have base:Z1b n s=if 0≤Z2t s.1 4697254411347427328 then (Z2t s.1 4697254411347427328,13)
  else if s.2.2.2.2.1<0∨s.2.2.2.2.1 > 4503599627370496 then (0,17)
  else if 0≤Z2o 0 s.2.2.2.2.1 s.2.1 then (Z2o 0 s.2.2.2.2.1 s.2.1,14)
  else if 0≤Z2o 0 0 s.2.2.1 then (Z2o 0 0 s.2.2.1,15)
  else if 0≤Z2t s.2.2.2.1 4652218415073722368 then (Z2t s.2.2.2.1 4652218415073722368,16)
  else if s.2.2.2.2.2<0∨s.2.2.2.2.2 > 4611686018427387904 then (0,1)
  else (0,0):=by
  show (if Z1 n=0 then _ else _)=_
  rw [if_neg e0,if_neg (by omega),if_neg (by omega),if_neg (by omega),if_neg (by omega)]
 have fin:∀ p q,Z1b n s=(p,q)→(p,q,())=Zl5 n s:=by intro p q e; show _=((Z1b n s).1,(Z1b n s).2,()); rw [e]
 refine ⟨⟨hb,by unfold W64; decide⟩,Br.intro (fun e=>fin _ _ ?_) fun e=>?_⟩
 ·have e:0≤Z2t s.1 4697254411347427328:=of_decide_eq_true e
  rw [base,if_pos e]; rfl
 have f1:¬ 0≤Z2t s.1 4697254411347427328:=of_decide_eq_false e
 rw [if_neg f1] at base
 refine Br.intro (fun e=>fin _ _ ?_) fun e=>?_
 ·rw [base,if_pos (.inl (of_decide_eq_true e))]
 have f2:=of_decide_eq_false e
 refine Br.intro (fun e=>fin _ _ ?_) fun e=>?_
 ·rw [base,if_pos (.inr (of_decide_eq_true e))]
 have f3:=of_decide_eq_false e
 rw [if_neg (by omega)] at base
 refine ⟨⟨hw,by omega,by omega⟩,Br.intro (fun e=>fin _ _ ?_) fun e=>?_⟩
 ·have e:0≤Z2o 0 s.2.2.2.2.1 s.2.1:=of_decide_eq_true e
  rw [base,if_pos e]; rfl
 have f4:¬ 0≤Z2o 0 s.2.2.2.2.1 s.2.1:=of_decide_eq_false e
 rw [if_neg f4] at base
 refine ⟨⟨ht,by omega,by omega⟩,Br.intro (fun e=>fin _ _ ?_) fun e=>?_⟩
 ·have e:0≤Z2o 0 0 s.2.2.1:=of_decide_eq_true e
  rw [base,if_pos e]; rfl
 have f5:¬ 0≤Z2o 0 0 s.2.2.1:=of_decide_eq_false e
 rw [if_neg f5] at base
 refine ⟨⟨hs,by unfold W64; decide⟩,Br.intro (fun e=>fin _ _ ?_) fun e=>?_⟩
 ·have e:0≤Z2t s.2.2.2.1 4652218415073722368:=of_decide_eq_true e
  rw [base,if_pos e]; rfl
 have f6:¬ 0≤Z2t s.2.2.2.1 4652218415073722368:=of_decide_eq_false e
 rw [if_neg f6] at base
 refine Br.intro (fun e=>fin _ _ ?_) fun e=>?_
 ·rw [base,if_pos (.inl (of_decide_eq_true e))]
 have f7:=of_decide_eq_false e
 refine Br.intro (fun e=>fin _ _ ?_) fun e=>fin _ _ ?_
 ·rw [base,if_pos (.inr (of_decide_eq_true e))]
 have f8:=of_decide_eq_false e
 rw [base,if_neg (by omega)]
end Go.Lift

namespace Go.Lift
open Go.Proofs
def Zx7:Cx:=⟨Z1p Z1x,Z1u [(100,Z6v),(48,Z4t)],SqG⟩
theorem Zm8:CxOk Tryz.prog Zx7:=⟨Zl Zv,Zq ⟨Zb8,Z6f,trivial⟩⟩
def Z8u:Con:=.det [.flt .f64,.flt .f64,.flt .f64] [.snap .bool] (fun x=>W3 x.1 x.2.1 x.2.2.1) (fun x=>Zhb x.1 x.2.1 x.2.2.1)
theorem Zfg:SqH Z8u 60 :=
 dP Zm8 Z3 Zb nHn Tryz.func60 (fun x p=>Zhx  x.1 x.2.1 x.2.2.1 p) fun x h _=>Zyc  x.1 x.2.1 x.2.2.1 h
def Zx8:Cx:=addC 60 Z8u Zx7
theorem Zcs:CxOk Tryz.prog Zx8:=Zk Zm8 Zfg
def Zhz:Con:=.det [.slice (.flt .f64),.flt .f64] [.snap (.int .i64)] (fun x=>WLF x.1 x.2.1) (fun x=>Zgl x.1 x.2.1)
theorem Zyd:SqH Zhz 65 :=
 dPI Zcs Z3 Zb ({ loops:=fun _=>none,joins:=fun _=>none,named:=true,inl:=inlL [145] }) (Z3g Zcs Z3 Z19b 6) Tryz.func65 (fun x p=>Zjx 22 x.1 x.2.1 p) fun x h w=>Z132 22 x.1 x.2.1 h w
def Zx9:Cx:=addC 65 Zhz Zx8
theorem Zct:CxOk Tryz.prog Zx9:=Zk Zcs Zyd
def Zi0:Con:=.det [.slice (.int .i64),.int .i64] [.snap (.int .i64)] (fun x=>Zuw x.1 x.2.1) (fun x=>Zgm x.1 x.2.1)
theorem Zye:SqH Zi0 66 :=
 dPI Zct Z3 Zb ({ loops:=fun _=>none,joins:=fun _=>none,named:=true,inl:=inlL [147] }) (Z3g Zct Z3 Z19c 6) Tryz.func66 (fun x p=>Zjy 2 x.1 x.2.1 p) fun x h w=>Z133 2 x.1 x.2.1 h w
def Z1gk:Cx:=addC 66 Zi0 Zx9
theorem Z15z:CxOk Tryz.prog Z1gk:=Zk Zct Zye
def Zbg:Con:=.det [.int .i64,kSea] [.snap (.int .i64),.snap (.int .i64)] (fun x=>Z10g x.1 x.2.1) (fun x=>Zl5 x.1 x.2.1)
theorem Zjz:SqH Zbg 21 :=
 dP Z15z Z3 Zb ({ loops:=fun _=>none,joins:=fun _=>none,unroll:=fun _=>some 5 }) Tryz.func21 (fun x p=>Zm7  x.1 x.2.1 p) fun x h w=>Z15y  x.1 x.2.1 h w
end Go.Lift

namespace Go.Lift
def Zxa:=fun (a b:Nat) (post:Nat × Unit→Prop)=>∀ a_1,a_1=fcmp Go.BinOp.neq (f64.format.order a a)→Br a_1 (∃ (h:True),post (qnR.1,())) (∀ a_2,
 a_2=fcmp Go.BinOp.neq (f64.format.order b b)→Br a_2 (∃ (h:True),post (qnR.1,())) (∃ (h:W2 a b),∀ a_3,a_3=decide ((ordR a b).1<(0:Int))→Br a_3
 (post (b,())) (post (a,()))))
theorem Z1gl (a:Nat) (b:Nat) (h:W2 a b):Zxa  a b (fun r=>r=Z10z a b):=by
 have e1:fcmp .neq (f64.format.order a a)=isN a:=Z6q a
 have e2:fcmp .neq (f64.format.order b b)=isN b:=Z6q b
 rintro _ rfl
 rw [e1]
 refine Br.intro (fun e=>⟨trivial,?_⟩) fun e=>?_
 ·show (QN,())=r1 (maxQ a b)
  unfold maxQ; rw [if_pos (by rw [e]; rfl)]; rfl
 rintro _ rfl
 rw [e2]
 refine Br.intro (fun e'=>⟨trivial,?_⟩) fun e'=>?_
 ·show (QN,())=r1 (maxQ a b)
  unfold maxQ; rw [if_pos (by rw [e']; simp)]; rfl
 refine ⟨h,?_⟩
 rintro _ rfl
 refine Br.intro (fun q=>?_) fun q=>?_
 ·have q:ordF a b<0:=of_decide_eq_true q
  show (b,())=r1 (maxQ a b)
  unfold maxQ; rw [if_neg (by rw [e,e']; decide),if_pos q]; rfl
 ·have q:¬ ordF a b<0:=of_decide_eq_false q
  show (a,())=r1 (maxQ a b)
  unfold maxQ; rw [if_neg (by rw [e,e']; decide),if_neg q]; rfl
def Zxb:=fun (a b:Nat) (post:Nat × Unit→Prop)=>∀ a_1,a_1=fcmp Go.BinOp.neq (f64.format.order a a)→Br a_1 (∃ (h:True),post (qnR.1,())) (∀ a_2,
 a_2=fcmp Go.BinOp.neq (f64.format.order b b)→Br a_2 (∃ (h:True),post (qnR.1,())) (∃ (h:W2 a b),∀ a_3,a_3=decide ((ordR a b).1 > (0:Int))→Br a_3
 (post (b,())) (post (a,()))))
theorem Z1gm (a:Nat) (b:Nat) (h:W2 a b):Zxb  a b (fun r=>r=Zg4 a b):=by
 have e1:fcmp .neq (f64.format.order a a)=isN a:=Z6q a
 have e2:fcmp .neq (f64.format.order b b)=isN b:=Z6q b
 rintro _ rfl
 rw [e1]
 refine Br.intro (fun e=>⟨trivial,?_⟩) fun e=>?_
 ·show (QN,())=r1 (minQ a b)
  unfold minQ; rw [if_pos (by rw [e]; rfl)]; rfl
 rintro _ rfl
 rw [e2]
 refine Br.intro (fun e'=>⟨trivial,?_⟩) fun e'=>?_
 ·show (QN,())=r1 (minQ a b)
  unfold minQ; rw [if_pos (by rw [e']; simp)]; rfl
 refine ⟨h,?_⟩
 rintro _ rfl
 refine Br.intro (fun q=>?_) fun q=>?_
 ·have q:0<ordF a b:=of_decide_eq_true q
  show (b,())=r1 (minQ a b)
  unfold minQ; rw [if_neg (by rw [e,e']; decide),if_pos q]; rfl
 ·have q:¬ 0<ordF a b:=of_decide_eq_false q
  show (a,())=r1 (minQ a b)
  unfold minQ; rw [if_neg (by rw [e,e']; decide),if_neg q]; rfl
def Zm9:=fun (bed:Nat) (w a:Int) (post:Nat × Unit→Prop)=>∃ (h:II w a),∀ (a_1:Nat),FRes f64 (f64.format.add bed (Z4d w a).1)
 a_1→∃ (h:True),post ((Zp a_1).1,())
theorem Z160 (bed:Nat) (w:Int) (a:Int) (h:Zsh bed w a):Zm9  bed w a (fun r=>r=Zsg bed w a):=by
 refine ⟨⟨h.2.1,h.2.2⟩,?_⟩
 intro r hr
 refine ⟨trivial,?_⟩
 show (Z11 r,())=r1 (Zl9 bed w a)
 unfold Zl9
 rw [show addQ bed (Z96 w a)=Z5 r from (fadd hr).1.symm,Z55]; rfl
def Zq4:=fun (x:Nat) (m:Int) (post:Int × Unit→Prop)=>∃ (h:True),∀ a,a=(nanR x).1→Br a (post (0,())) (∃ (h:W64 x),∀ a,a=fcmp Go.BinOp.lss
 (f64.format.order (absR x).1 (4890909195324358656:Nat))→Br a (∃ (h:Zns (absR x).1),∀ a,a=fcmp Go.BinOp.lss (f64.format.order x (0:Nat)) →
 Br a (post (i64.wrap ((0:Int) - imin (imax m (0:Int)) (i64.wrap (Znr (absR x).1).1)),())) (post (imin (imax m (0:Int)) (i64.wrap (Znr (absR
 x).1).1),()))) (∀ a,a=fcmp Go.BinOp.lss (f64.format.order x (0:Nat))→Br a (post (i64.wrap ((0:Int) - imax m (0:Int)),())) (post (imax m (0 :
 Int),()))))
theorem Z1ai (x:Nat) (m:Int) (h:Z1dn x m):Zq4  x m (fun r=>r=Z1dm x m):=by
 obtain ⟨hx,hm⟩:=h
 have eN:(nanR x).1=isN x:=rfl
 refine ⟨trivial,?_⟩
 rintro _ rfl
 rw [eN]
 refine Br.intro (fun e=>?_) fun e=>?_
 ·show ((0:Int),())=r1 (Z4f x m)
  unfold Z4f; rw [if_pos e]; rfl
 refine ⟨hx,?_⟩
 have eA:(absR x).1=Z0 x:=rfl
 rw [eA]
 have eL:fcmp .lss (f64.format.order (Z0 x) 4890909195324358656)=decide (Z0 x<Z1l):=Zxv x
 rintro _ rfl
 rw [eL]
 have eS:fcmp .lss (f64.format.order x 0)=(sgn x&&decide (Z0 x≠0)):=Znt e
 have im:0≤imax m 0∧imax m 0≤9223372036854775807:=by
  obtain ⟨m1,m2⟩:=hm
  unfold imax; split <;> omega
 have key:Z4f x m=if (sgn x&&decide (Z0 x≠0))=true then -(Z7t x m) else Z7t x m:=by
  unfold Z4f; rw [if_neg (by rw [e]; decide)]
 refine Br.intro (fun g=>?_) fun g=>?_
 ·have g':=of_decide_eq_true g
  obtain ⟨n0,n1⟩:=Z11s g'
  have ew:i64.wrap (Znr (Z0 x)).1=Z5g (Z0 x):=wi (x:=Z5g (Z0 x)) ⟨by omega,by omega⟩
  have ca:Z7t x m=imin (imax m 0) (Z5g (Z0 x)):=by unfold Z7t; rw [if_pos g']
  have cr:0≤imin (imax m 0) (Z5g (Z0 x))∧imin (imax m 0) (Z5g (Z0 x))≤9223372036854775807:=by unfold imin; split <;> omega
  refine ⟨g',?_⟩
  rw [ew]
  rintro _ rfl
  rw [eS]
  refine Br.intro (fun q=>?_) fun q=>?_
  ·show (_,())=r1 (Z4f x m)
   rw [key,if_pos q,ca,wi ⟨by omega,by omega⟩,Int.zero_sub]; rfl
  ·show (_,())=r1 (Z4f x m)
   rw [key,if_neg (by rw [q]; decide),ca]; rfl
 ·have g':=of_decide_eq_false g
  have ca:Z7t x m=imax m 0:=by unfold Z7t; rw [if_neg g']
  rintro _ rfl
  rw [eS]
  refine Br.intro (fun q=>?_) fun q=>?_
  ·show (_,())=r1 (Z4f x m)
   rw [key,if_pos q,ca,wi ⟨by omega,by omega⟩,Int.zero_sub]; rfl
  ·show (_,())=r1 (Z4f x m)
   rw [key,if_neg (by rw [q]; decide),ca]; rfl
def Zma:=fun (k:Int) (post:Bool × Unit→Prop)=>∀ a,a=decide (k≥(0:Int))→Br a (∀ a,a=decide (k≤(3:Int))→post (a,())) (post (false,()))
theorem Z161 (k:Int):Zma  k (fun r=>r=Zhj k):=by
 rintro _ rfl
 refine Br.intro (fun e=>?_) fun e=>?_
 ·rintro _ rfl
  have e:decide (0≤k)=true:=e
  show (decide (k≤3),())=r1 (Z4g k)
  unfold Z4g; rw [e]; rfl
 ·have e:decide (0≤k)=false:=e
  show (false,())=r1 (Z4g k)
  unfold Z4g; rw [e]; rfl
def Zbh:=fun (a b:Nat) (post:Nat × Unit→Prop)=>post (0,())
theorem Zog (a:Nat) (b:Nat):Zbh  a b (fun r=>r=Zef a b):=by
 exact rfl
def Zbi:=fun (a b:Nat) (post:Nat × Unit→Prop)=>∀ (a_1:Nat),FRes f64 (f64.format.mul (4611686018427387904:Nat) a) a_1→∃ (h
 : W2 a_1 b),∀ a_2,a_2=Zg4 a_1 b→∀ (a_3:Nat),FRes f64 (f64.format.mul (4611686018427387904:Nat) b) a_3→∃ (h:W2 a a_3),∀ a_4,a_4=Zg4
 a a_3→∃ (h:W2 a_2.1 a_4.1),∀ a,a=Z10z a_2.1 a_4.1→post (a.1,())
theorem Zoh (a:Nat) (b:Nat) (h:Zdc a b):Zbi  a b (fun r=>r=supR a b):=by
 obtain ⟨ha,hb⟩:=h
 intro x f1
 obtain rfl:x=mulQ twoS a:=Z182 (fmul f1).1 (Z150 ha) (fmul f1).2
 have p1:=Z150 ha
 have p2:=Z150 hb
 refine ⟨⟨p1.1,hb.1⟩,?_⟩
 rintro _ rfl
 intro y f2
 obtain rfl:y=mulQ twoS b:=Z182 (fmul f2).1 p2 (fmul f2).2
 refine ⟨⟨ha.1,p2.1⟩,?_⟩
 rintro _ rfl
 refine ⟨⟨(Z1i3 p1 hb).1,(Z1i3 ha p2).1⟩,?_⟩
 rintro _ rfl
 rfl
def Zbj:=fun (a b:Nat) (post:Nat × Unit→Prop)=>∀ (a_1:Nat),FRes f64 (f64.format.mul (4611686018427387904:Nat) a) a_1→∀
 (a_2:Nat),FRes f64 (f64.format.mul a_1 b) a_2→∀ (a_3:Nat),FRes f64 (f64.format.add a b) a_3→∀ (a:Nat),FRes
 f64 (f64.format.div a_2 a_3) a→∀ a_4,a_4=fcmp Go.BinOp.neq (f64.format.order a a)→Br a_4 (post (0,())) (∃ (h:WI a (0:Int)),∀
 a_5,a_5=(Z108 a (0:Int)).1→Br a_5 (post (0,())) (post (a,())))
theorem Zoi (a:Nat) (b:Nat) (h:Zdc a b):Zbj  a b (fun r=>r=Z113 a b):=by
 intro x f1
 have q1:=fmul f1
 intro y f2
 have q2:=fmul f2
 intro z f3
 have q3:=fadd f3
 intro s f4
 have q4:=fdiv f4
 have e:Z5 s=Z110 a b:=by
  unfold Z110
  rw [q4.1]
  exact Zd4 (by rw [q2.1,Z3o]; exact Z3x (by rw [q1.1,Z3o]; rfl) rfl) (by rw [q3.1,Zl3])
 have en:fcmp .neq (f64.format.order s s)=isN s:=Z6q s
 rintro _ rfl
 rw [en]
 have key:Zdb a b=if isN s||decide (Z0 (Z5 s)=infR) then 0 else Z5 s:=by
  unfold Zdb
  rw [← e,Z2s]
 refine Br.intro (fun g=>?_) fun g=>?_
 ·show (0,())=r1 (Zdb a b)
  rw [key,if_pos (by rw [g]; rfl)]; rfl
 have hq:Z5 s=s:=Zh8 g
 rw [hq] at key
 refine ⟨q4.2,?_⟩
 rintro _ rfl
 have hi:(Z108 s 0).1=decide (Z0 s=infR):=by
  show infS s 0=_
  unfold infS; rw [if_pos rfl]
 rw [hi]
 refine Br.intro (fun g2=>?_) fun g2=>?_
 ·show (0,())=r1 (Zdb a b)
  rw [key,if_pos (by rw [g2]; simp)]; rfl
 ·show (s,())=r1 (Zdb a b)
  rw [key,if_neg (by rw [g,g2]; decide)]; rfl
end Go.Lift

namespace Go.Lift
end Go.Lift

namespace Go.Lift
open Go.Proofs
end Go.Lift

namespace Go.Lift
end Go.Lift

namespace Go.Lift
open Go.Proofs
end Go.Lift

namespace Go.Lift
open Go.Proofs
def Z18f:Cx:=⟨Z1p Z1x,Z1u [(172,Zcl),(204,Z8s),(89,Z5s),(99,Z3u),(201,Zcm),(152,Z80),(202,Zex),(240,Zco)],SqG⟩
theorem Ztl:CxOk Tryz.prog Z18f:=⟨Zl Zv,Zq ⟨Zln,Zcn,Z7g,Z4v,Zlq,Zb9,Zpt,Zlt,trivial⟩⟩
def Zi1:Con:=Con.nam [.flt .f64,.flt .f64] [.snap (.flt .f64)] (fun x=>W2 x.1 x.2.1) (fun x=>Z10z x.1 x.2.1)
theorem Ztm:SqH Zi1 157 :=
 nP Ztl Z3 Zb ({ loops:=Zw [],joins:=fun _=>none,named:=true }) Tryz.func157 (fun x p=>Zxa  x.1 x.2.1 p) fun x h _=>Z1gl  x.1 x.2.1 h
def Z18g:Cx:=addC 157 Zi1 Z18f
theorem Ztn:CxOk Tryz.prog Z18g:=Zk Ztl Ztm
def Zbk:Con:=Con.nam [.flt .f64,.flt .f64] [.snap (.flt .f64)] (fun x=>W2 x.1 x.2.1) (fun x=>Zg4 x.1 x.2.1)
theorem Zi2:SqH Zbk 158 :=
 nP Ztn Z3 Zb ({ loops:=Zw [],joins:=fun _=>none,named:=true }) Tryz.func158 (fun x p=>Zxb  x.1 x.2.1 p) fun x h _=>Z1gm  x.1 x.2.1 h
def Z1o2:Cx:=addC 158 Zbk Z18g
theorem Z6g:CxOk Tryz.prog Z1o2:=Zk Ztn Zi2
def Zbl:Con:=Con.nam [.flt .f64,.int .i64,.int .i64] [.snap (.flt .f64)] (fun x=>Zsh x.1 x.2.1 x.2.2.1) (fun x=>Zsg x.1 x.2.1 x.2.2.1)
theorem Zk0:SqH Zbl 92 :=
 nP Z6g Z3 Zb nHn Tryz.func92 (fun x p=>Zm9  x.1 x.2.1 x.2.2.1 p) fun x h _=>Z160  x.1 x.2.1 x.2.2.1 h
def Zmb:Con:=Con.nam [.flt .f64,.int .i64] [.snap (.int .i64)] (fun x=>Z1dn x.1 x.2.1) (fun x=>Z1dm x.1 x.2.1)
theorem Z162:SqH Zmb 153 :=
 nP Z6g Z3 Zb ({ loops:=Zw [],joins:=fun _=>none,named:=true }) Tryz.func153 (fun x p=>Zq4  x.1 x.2.1 p) fun x h _=>Z1ai  x.1 x.2.1 h
def Zbm:Con:=Con.nam [.int .i64] [.snap .bool] (fun _=>True) (fun x=>Zhj x.1)
theorem Zk1:SqH Zbm 61 :=
 nP Z6g Z3 Zb ({ loops:=Zw [],joins:=fun _=>none,named:=true }) Tryz.func61 (fun x p=>Zma  x.1 p) fun x _ _=>Z161  x.1
def Zaa:Con:=Con.nam [.flt .f64,.flt .f64] [.snap (.flt .f64)] (fun _=>True) (fun x=>Zef x.1 x.2.1)
theorem Zmc:SqH Zaa 237 :=
 nP Z6g Z3 Zb nHn Tryz.func237 (fun x p=>Zbh  x.1 x.2.1 p) fun x _ _=>Zog  x.1 x.2.1
def Zab:Con:=Con.nam [.flt .f64,.flt .f64] [.snap (.flt .f64)] (fun x=>Zdc x.1 x.2.1) (fun x=>supR x.1 x.2.1)
theorem Zmd:SqH Zab 238 :=
 nP Z6g Z3 Zb nHn Tryz.func238 (fun x p=>Zbi  x.1 x.2.1 p) fun x h _=>Zoh  x.1 x.2.1 h
def Zac:Con:=Con.nam [.flt .f64,.flt .f64] [.snap (.flt .f64)] (fun x=>Zdc x.1 x.2.1) (fun x=>Z113 x.1 x.2.1)
theorem Zme:SqH Zac 239 :=
 nP Z6g Z3 Zb ({ loops:=Zw [],joins:=fun _=>none,named:=true }) Tryz.func239 (fun x p=>Zbj  x.1 x.2.1 p) fun x h _=>Zoi  x.1 x.2.1 h
end Go.Lift

namespace Go.Lift
end Go.Lift

namespace Go.Lift
open Go.Proofs
end Go.Lift

namespace Go.Lift
open Go.Proofs
def Z18h:Cx:=⟨Z1p Z1x,Z1u [(48,Z4t),(60,Z8u),(61,Zbm)],SqG⟩
theorem Zto:CxOk Tryz.prog Z18h:=⟨Zl Zv,Zq ⟨Z6f,Zfg,Zk1,trivial⟩⟩
def Zcu:Con:=Con.nam [.int .i64,Zh] [.snap .bool] (fun _=>True) (fun x=>Zcg x.1 x.2.1)
theorem Zmf:SqH Zcu 64 :=
 nP Zto Z3 Zb ({ loops:=Zw [],joins:=fun _=>none,named:=true }) Tryz.func64 (fun x p=>Zq2  x.1 x.2.1 p) fun x _ _=>Z1ag  x.1 x.2.1
def Z1o3:Cx:=addC 64 Zcu Z18h
theorem Ztp:CxOk Tryz.prog Z1o3:=Zk Zto Zmf
def Zcv:Con:=Con.nam [Z6s] [.snap (.int .i64)] (fun x=>Zlc x.1) (fun x=>Z11a x.1)
theorem Zmg:SqH Zcv 20 :=
 nPI Ztp Z3 Zb ({ loops:=fun _=>none,joins:=fun _=>none,named:=true,inl:=inlL [62] }) (Z3g Ztp Z3 Z19e 6) Tryz.func20 (fun x p=>Zq3 25 3 x.1 p) fun x h w=>Z1ah 25 3 x.1 h w
end Go.Lift

namespace Go.Lift
open Go.Proofs
def Z134:Cx:=⟨Z1p Z1x,Z1u [(23,Zks),(20,Zcv),(21,Zbg),(13,Zhw)],SqG⟩
theorem Zez:CxOk Tryz.prog Z134:=⟨Zl Zv,Zq ⟨Zx6,Zmg,Zjz,Ztk,trivial⟩⟩
def Zk2:Con:=Con.nam [] [.snap Z6s] (fun _=>True) (fun x=>Zsj)
theorem Z135:SqH Zk2 43 :=
 nP Zez Z3 Zb ({ loops:=Zw [],joins:=fun _=>none,named:=true }) Tryz.func43 (fun x p=>Zm4   p) fun x _ _=>Z15v
def Z7h:Con:=Con.nam [.slice (.int .i64),.slice (.int .i64)] [.snap .bool] (fun _=>True) (fun x=>Z8k x.1 x.2.1)
theorem Zbn:SqH Z7h 18 :=
 nP Zez Z3 Zb ({ loops:=Zw [(4,{ ls:=[(.slot 5,.data (.int .i64))],os:=[] })],joins:=fun _=>none,named:=true }) Tryz.func18 (fun x p=>Zm5  x.1 x.2.1 p) fun x _ w=>Z15w  x.1 x.2.1 w
def Z1ki:Cx:=addC 18 Z7h Z134
theorem Zq5:CxOk Tryz.prog Z1ki:=Zk Zez Zbn
def Zmh:Con:=Con.nam [kSea,kSea] [.snap .bool] (fun _=>True) (fun x=>Zv1 x.1 x.2.1)
theorem Z163:SqH Zmh 16 :=
 nP Zq5 Z3 Zb nHn Tryz.func16 (fun x p=>Zq0  x.1 x.2.1 p) fun x _ _=>Z1ae  x.1 x.2.1
def Zmi:Con:=Con.nam [Z6s,kSea] [.snap (.ptr Z23),.snap .bool] (fun x=>Zsi x.1 x.2.1) (fun x=>Z6d x.1 x.2.1)
theorem Z164:SqH Zmi 19 :=
 nP Zq5 Z3 Zb ({ loops:=Zw [],joins:=fun _=>none,named:=true }) Tryz.func19 (fun x p=>Zq1  x.1 x.2.1 p) fun x h _=>Z1af  x.1 x.2.1 h
end Go.Lift
