/- A part of the proof of StepKeptCard: an own lifter of code into plain terms, and plain laws. -/
import Derived.Test.YtkfafhbmdccmgaaGreatDoorPtD
set_option linter.unusedVariables false
set_option linter.unusedSimpArgs false
set_option linter.unusedSectionVars false
open Go.IntKind (i64 u64 u32 u8)
open Go.FloatKind (f64 f32)
namespace Go.Lift
def Z7y (ty25:Nat) (p:YP) (ty29:Nat) (s:YS):List HObj:=[HObj.box Md.rw ty25 [SV.val (Go.Value.int i64 p.1),SV.val (Go.Value.float f64 p.2.1),SV.val (Go.Value.float f64 p.2.2.1),SV.val (Go.Value.float f64 p.2.2.2.1),SV.val (Go.Value.int i64 p.2.2.2.2.1),SV.val (Go.Value.bool p.2.2.2.2.2.1),SV.data ((K.int i64).pair ((K.int i64).pair ((K.int i64).pair (K.int i64)))).slice p.2.2.2.2.2.2],HObj.box Md.rw ty29 [SV.data (K.flt f64).slice s.1,SV.data (K.int i64).slice s.2.1,SV.data (K.int i64).slice s.2.2.1,SV.data (K.flt f64).slice s.2.2.2.1,SV.val (Go.Value.int i64 s.2.2.2.2.1),SV.val (Go.Value.int i64 s.2.2.2.2.2)]]
def Zeg (ty25:Nat) (p:YP) (ty29:Nat) (s:YS) (ty22:Nat) (a_2:YS × Int × Unit) (ty2:Nat):List HObj:=Z7y ty25 p ty29 s++[HObj.row Md.rw ty22 (K.flt f64) a_2.1.1,HObj.row Md.rw ty2 (K.int i64) a_2.1.2.1,HObj.row Md.rw ty2 (K.int i64) a_2.1.2.2.1,HObj.row Md.rw ty22 (K.flt f64) a_2.1.2.2.2.1,HObj.box Md.rw ty29 [SV.osl (2:Nat) (0:Nat) a_2.1.1.length,SV.osl (3:Nat) (0:Nat) a_2.1.2.1.length,SV.osl (4:Nat) (0:Nat) a_2.1.2.2.1.length,SV.osl (5:Nat) (0:Nat) a_2.1.2.2.2.1.length,SV.val (Go.Value.int i64 a_2.1.2.2.2.2.1),SV.val (Go.Value.int i64 a_2.1.2.2.2.2.2)]]
def Zf7:=fun (ty25 ty29 ty22 ty2:Nat) (p:YP) (s:YS) (post:Bool × Unit→Prop)=>∃ (h:True),∀ a,a=yesR→∀ a_1,a_1=a.1→Br (!a_1) (post
 (false,())) (∃ (h:Zsb p s),∀ a,a=Z69 p s→Br (!a.2.1) (∃ (h:Zhm p),∀ a,a=Zv4 p→∃ (post_1:Int × Unit→Unit→Prop),(∀ a_2,a_2=(a.1==(0 :
 Int))→Br a_2 (∃ (h:Zl4 p.1 s),HS (Z7y ty25 p ty29 s)∧post_1 ((Zdz p.1 s).2.1,()) ()) (HS (Z7y ty25 p ty29 s)∧post_1 (a.1,()) ())) ∧
 ∀ (x:Int × Unit) (y:Unit),post_1 x y→∃ (h:I64 p.1),∀ a,a=((newR p.1).2.1 != (0:Int))→Br a (∀ a,a=(x.1==(10:Int))→post (a,())) (∃ (h:Z5l (newR p.1).1
 p s),∀ a,a=Z5z (newR p.1).1 p s→∀ a_2,a_2=(a.2.1==x.1)→Br a_2 (∀ a_3,a_3=((↑a.1.2.1.length:Int)==(0:Int))→post (a_3,())) (post (false,())))) (∃ (h
 : Z5l a.1 p s),∀ a_2,a_2=Z5z a.1 p s→∀ a,a=(a_2.2.1 != (0:Int))→Br a (post (false,())) (∃ (h:Zl4 p.1 (List.take a_2.1.1.length (List.drop (0:Nat)
 a_2.1.1),List.take a_2.1.2.1.length (List.drop (0:Nat) a_2.1.2.1),List.take a_2.1.2.2.1.length (List.drop (0:Nat) a_2.1.2.2.1),List.take a_2.1.2.2.2.1.length (List.drop (0
 : Nat) a_2.1.2.2.2.1),a_2.1.2.2.2.2.1,a_2.1.2.2.2.2.2)),∃ (post_1:Int × Unit→Unit→Prop),(∀ a,a=(s.2.2.2.2.2==(4611686018427387904:Int))→Br a (HS
 (Zeg ty25 p ty29 s ty22 a_2 ty2)∧post_1 (s.2.2.2.2.2,()) ()) (HS (Zeg ty25 p ty29 s ty22 a_2 ty2)∧post_1 (i64.wrap (s.2.2.2.2.2+1),
 ()) ()))∧∀ (x:Int × Unit) (y:Unit),post_1 x y→∀ a,a=((Zdz p.1 (List.take a_2.1.1.length (List.drop (0:Nat) a_2.1.1),List.take a_2.1.2.1.length (List.drop (0 :
 Nat) a_2.1.2.1),List.take a_2.1.2.2.1.length (List.drop (0:Nat) a_2.1.2.2.1),List.take a_2.1.2.2.2.1.length (List.drop (0:Nat) a_2.1.2.2.2.1),a_2.1.2.2.2.2.1,
 a_2.1.2.2.2.2.2)).2.1==(0:Int))→Br a (∃ (h:True),∀ a,a=Z6x (List.take a_2.1.2.1.length (List.drop (0:Nat) a_2.1.2.1))→∃ (h:True),∀ a_3,a_3=Z6x s.2.1 →
 ∀ a_4,a_4=(i64.wrap (a.1+a_2.1.2.2.2.2.1)==i64.wrap (a_3.1+s.2.2.2.2.1))→Br a_4 (∃ (h:True),∀ a,a=Z6x (List.take a_2.1.2.2.1.length (List.drop
 (0:Nat) a_2.1.2.2.1))→∃ (h:True),∀ a_5,a_5=Z6x s.2.2.1→∀ a_6,a_6=(a.1==a_5.1)→Br a_6 (∃ (h:True),∀ a,a=allR (List.take a_2.1.1.length (List.drop (0 :
 Nat) a_2.1.1)) s.1→∀ a_7,a_7=a.1→Br a_7 (∀ a,a=(a_2.1.2.2.2.2.2==x.1)→post (a,())) (post (false,()))) (post (false,()))) (post (false,()))) (post
 (false,())))))
theorem Zvj (ty0 ty1 ty2 ty3:Nat) (p:YP) (s:YS) (h:Zsb p s):Zf7 ty0 ty1 ty2 ty3 p s (fun r=>r=Z1qw p s):=by
 obtain ⟨hP,hS⟩:=h
 refine ⟨trivial,fun a ha=>?_⟩
 have ha:a=(true,()):=ha
 subst ha
 rintro _ rfl
 refine Br.intro (fun e=>absurd e (by first | decide | simp)) fun _=>?_
 refine ⟨⟨hP,hS⟩,fun a ha=>?_⟩
 have ha:a=Z69 p s:=ha
 rcases Z1sp p s with q | ⟨hp,C⟩
 ·rw [Z1so q] at ha
  subst ha
  refine Br.intro (fun _=>?_) fun e=>absurd e (by decide)
  refine ⟨hP,fun a ha=>?_⟩
  have ha:a=(Z10 p,()):=ha
  subst ha
  have bad:(if Z10 p=0 then (Z17 p.1 s).2 else Z10 p)≠0:=fun z=>by
   by_cases r:Z10 p=0
   ·rw [if_pos r] at z; exact q ⟨r,z⟩
   ·rw [if_neg r] at z; exact r z
  refine ⟨fun x _=>x.1=if Z10 p=0 then (Z17 p.1 s).2 else Z10 p,?_,?_⟩
  ·rintro _ rfl
   refine Br.intro (fun e=>⟨⟨hP.1,hS⟩,rfl,?_⟩) fun e=>⟨rfl,?_⟩
   ·have e:(Z10 p==0)=true:=e
    rw [if_pos (by simpa using e)]; rfl
   ·have e:(Z10 p==0)=false:=e
    rw [if_neg (by simpa using e)]
  rintro ⟨x,⟨⟩⟩ ⟨⟩ hx
  have hx:x=_:=hx
  refine ⟨hP.1,?_⟩
  rintro _ rfl
  rcases Zsl p.1 with ⟨h0,e,_⟩ | ⟨h0,g,e,_⟩
  ·rw [e]
   have x10:x=10:=by
    have p10:Z10 p=10:=by unfold Z10; rw [if_pos h0]
    rw [hx,p10]; rfl
   refine brY rfl ?_
   rintro _ rfl
   show ((x==10),())=(true,())
   rw [x10]; rfl
  ·rw [e]
   refine brN rfl ?_
   dsimp only
   refine ⟨⟨.inr ⟨p.1,g,rfl⟩,hP,hS⟩,fun a ha=>?_⟩
   have ce:canE (some (netG p.1)) p s=x:=by rw [Z1sl,hx]
   have se:Z5z (some (netG p.1)) p s=(sea0,x,()):=by unfold Z5z; rw [if_neg (by rw [ce,hx]; exact bad),ce]
   have ha:a=_:=ha.trans se
   subst ha
   rintro _ rfl
   refine brY (by show (x==x)=true; exact beq_self_eq_true x) ?_
   rintro _ rfl
   rfl
 have hG:NetP (some (netG p.1)):=.inr ⟨p.1,C.good,rfl⟩
 rw [Z1sn rfl hp C] at ha
 subst ha
 refine brN rfl ?_
 refine ⟨⟨hG,hP,hS⟩,fun a ha=>?_⟩
 have ha:a=_:=ha.trans (Z1sm rfl hp C)
 subst ha
 rintro _ rfl
 refine brN rfl ?_
 obtain ⟨K,sp⟩:=Z1o2 rfl hp C
 have S:=Zvd rfl hp C
 have ok:=Z1sj K hS.1 (by rw [sp]; exact S.spd.2.1)
 have num:=C.num
 dsimp only
 try simp only [Z9j]
 generalize hT:Zg6 (some (netG p.1)) p s=T at *
 refine ⟨⟨hP.1,ok⟩,fun x _=>x.1=Z6q s,?_,?_⟩
 ·rintro _ rfl
  refine Br.intro (fun e=>⟨rfl,?_⟩) fun e=>⟨rfl,?_⟩
  ·have e:=beq_iff_eq.1 e
   show s.2.2.2.2.2=Z6q s
   unfold Z6q imin; split <;> omega
  ·have e:=beq_eq_false_iff_ne.1 e
   show i64.wrap (s.2.2.2.2.2+1)=Z6q s
   rw [Zr (by omega) (by omega)]
   unfold Z6q imin; split <;> omega
 rintro ⟨x,⟨⟩⟩ ⟨⟩ hx
 have hx:x=Z6q s:=hx
 subst hx
 have ws:=S.wsum
 have ts:=S.tsum
 have kb:=K.b1
 have sky:=C.sky
 have sk2:=K.can.sky
 have t1:Z6x T.2.1=(T.2.1.sum,()):=Zga K.p1 (by omega)
 have t2:Z6x s.2.1=(s.2.1.sum,()):=Zga ⟨rfl,ws.1,rfl⟩ (by omega)
 have t3:Z6x T.2.2.1=(T.2.2.1.sum,()):=Zga K.p2 K.b2
 have t4:Z6x s.2.2.1=(s.2.2.1.sum,()):=Zga ⟨rfl,ts.1,rfl⟩ ts.2
 have n1:=Zgn K.p1.nn
 have n2:=Zgn ws.1
 rintro _ rfl
 refine brY (by show ((Z17 p.1 T).2==0)=true; rw [Zxz K.can]; rfl) ?_
 refine ⟨trivial,fun a ha=>?_⟩
 have ha:a=_:=ha.trans t1
 subst ha
 refine ⟨trivial,fun a ha=>?_⟩
 have ha:a=_:=ha.trans t2
 subst ha
 rintro _ rfl
 refine brY (by
  have kw:=K.wat
  show (i64.wrap (T.2.1.sum+T.2.2.2.2.1)==i64.wrap (s.2.1.sum+s.2.2.2.2.1))=true
  rw [kw]; exact beq_self_eq_true _) ?_
 refine ⟨trivial,fun a ha=>?_⟩
 have ha:a=_:=ha.trans t3
 subst ha
 refine ⟨trivial,fun a ha=>?_⟩
 have ha:a=_:=ha.trans t4
 subst ha
 rintro _ rfl
 refine brY (by show (T.2.2.1.sum==s.2.2.1.sum)=true; rw [K.tra]; exact beq_self_eq_true _) ?_
 refine ⟨trivial,fun a ha=>?_⟩
 have ha:a=(true,()):=by rw [ha,K.bed]; unfold allR allI; rw [beq_self_eq_true]
 subst ha
 rintro _ rfl
 refine brY rfl ?_
 rintro _ rfl
 show ((T.2.2.2.2.2==Z6q s),())=(true,())
 rw [K.num,beq_self_eq_true]
end Go.Lift

namespace Go.Lift
def Zo6:SeaT:=([0,0,0,0,0,0],[1431655765,1431655765,1431655765,1431655765,1431655765,1431655765],[0,0,0,0,0,0],[0,0,0,0,0,0,0,0,0,0,0,0],0,0)
def Z1qz:SeaT:=([0,0,0,0,0,0],[1431655765,1431655765,1431655765,1431655765,1431655765,1431655765],[0,0,0,0,0,0],[0,0,0,0,0,0,0,0,0,0,0,0],0,1)
def Zve:SeaT:=([0,0,0,0,0,0],[2863311530,1431655765,1431655765,1431655765,1431655765,1431655765],[0,0,0,0,0,0],[0,0,0,0,0,0,0,0,0,0,0,0],0,0)
def Z1r0:SeaT:=([0,0,0,0,0,0],[1109898474,1870009029,1431655765,1870009029,1870009029,1870009029],[0,0,0,0,0,0],[4600040671590431692,4600040671590431692,4600040671590431692,4600040671590431692,0,0,0,0,0,0,0,0],0,1)
theorem Z1o3:Z5z (some (netG 1)) Zb2 Zo6=(Z1qz,0,()):=by kernel_rfl
theorem Z1o4:Zcf (some (netG 1)) Zb2 Zo6=(([0,0,0,0,0,0,0,0,0,0,0,0],[0,0,0,0,0,0,0,0,0,0,0,0]),0,()):=by kernel_rfl
theorem Z1o5:Z5z (some (netG 1)) Zb2 Zve=(Z1r0,0,()):=by kernel_rfl
end Go.Lift

namespace Go.Lift
theorem Z1sq:(List.range 6).map (fun k:Nat=>Z15 1 k)=List.replicate 6 1431655765:=by kernel_rfl
theorem Z1ts {k:Nat} (h:k<6):(Z14 (some (netG 1)) (k:Int)).1=1431655765:=by
 have e:(Z14 (some (netG 1)) (k:Int)).1=Z15 1 k:=Z7w (n:=1) (by omega) (by have:Z1 1=6:=rfl; omega)
 rw [e]
 have q:=congrArg (fun l=>l[k]?) Z1sq
 have q:((List.range 6).map (fun k:Nat=>Z15 1 k))[k]?=(List.replicate 6 (1431655765:Int))[k]?:=q
 rw [List.getElem?_map,List.getElem?_range h,List.getElem?_replicate,if_pos h] at q
 exact Option.some.inj q
theorem Z1o6:NetP (some (netG 1)):=.inr ⟨1,rfl,rfl⟩
theorem Z1o7:Z5l (some (netG 1)) Zb2 Zo6 :=
 ⟨Z1o6,⟨⟨by decide,by decide⟩,⟨by unfold W64; decide,by unfold W64; decide,by unfold W64; decide⟩,by decide,by decide⟩,fun x hx=>by simp [Zo6] at hx; subst hx; unfold W64; decide,fun x hx=>by simp [Zo6] at hx; subst hx; exact ⟨by decide,by decide⟩,fun x hx=>by simp [Zo6] at hx; subst hx; exact ⟨by decide,by decide⟩,fun x hx=>by simp [Zo6] at hx; subst hx; unfold W64; decide,⟨by decide,by decide⟩,by decide,by decide⟩
theorem Z1ti:Z5l (some (netG 1)) Zb2 Zve :=
 ⟨Z1o6,⟨⟨by decide,by decide⟩,⟨by unfold W64; decide,by unfold W64; decide,by unfold W64; decide⟩,by decide,by decide⟩,fun x hx=>by simp [Zve] at hx; subst hx; unfold W64; decide,fun x hx=>by simp [Zve] at hx; rcases hx with rfl | rfl <;> exact ⟨by decide,by decide⟩,fun x hx=>by simp [Zve] at hx; subst hx; exact ⟨by decide,by decide⟩,fun x hx=>by simp [Zve] at hx; subst hx; unfold W64; decide,⟨by decide,by decide⟩,by decide,by decide⟩
end Go.Lift

namespace Go.Lift
def Z7a (ty29:Nat):HObj:=HObj.box Md.rw ty29 [SV.val (Go.Value.slice none (0:Nat) (0:Nat)),SV.val (Go.Value.slice none (0:Nat) (0:Nat)),
 SV.val (Go.Value.slice none (0:Nat) (0:Nat)),SV.val (Go.Value.slice none (0:Nat) (0:Nat)),SV.val (Go.Value.int i64 (0:Int)),SV.val (Go.Value.int
 i64 (0:Int))]
def Z7b (ty22:Nat):HObj:=HObj.row Md.rw ty22 (K.flt f64) (List.replicate (Int.toNat (6:Int)) (0:Nat))
def Z48 (ty2:Nat):HObj:=HObj.row Md.rw ty2 (K.int i64) (List.replicate (Int.toNat (6:Int)) (0:Int))
def Z7c (ty22:Nat):HObj:=HObj.row Md.rw ty22 (K.flt f64) (List.replicate (Int.toNat (12:Int)) (0:Nat))
def Z7d (ty29:Nat):HObj:=HObj.box Md.rw ty29 [SV.osl (2:Nat) (0:Nat) (6:Nat),SV.osl (3:Nat) (0:Nat) (6:Nat),SV.osl (4:Nat) (0:Nat) (6:Nat),
 SV.osl (5:Nat) (0:Nat) (12:Nat),SV.val (Go.Value.int i64 (0:Int)),SV.val (Go.Value.int i64 (0:Int))]
def Zjb (ty2:Nat) (y:List Int × Unit) (x:Int × Unit):HObj:=HObj.row Md.rw ty2 (K.int i64) (y.fst.set ((0:Nat)+x.fst.toNat) (Z14 (newR (1 :
 Int)).fst x.fst).fst)
def Zcg:=fun (ty29 ty22 ty2:Nat) (post:Bool × Unit→Prop)=>∃ (h:I64 (1:Int)),∀ (a:Bool),a=((newR (1:Int)).snd.fst != (0:Int))→Br a (post
 (false,())) (∃ (h:(0:Int)≤(6:Int)∧(6:Int)≤(6:Int)∧(6:Int)*(↑(8:Nat):Int)≤(281474976710656:Int)),∃ (h:(0:Int)≤(6:Int)∧(6:Int)≤(6
 : Int)∧(6:Int)*(↑(8:Nat):Int)≤(281474976710656:Int)),∃ (h:(0:Int)≤(6:Int)∧(6:Int)≤(6:Int)∧(6:Int)*(↑(8:Nat):Int)≤(281474976710656 :
 Int)),∃ (h:(0:Int)≤(12:Int)∧(12:Int)≤(12:Int)∧(12:Int)*(↑(8:Nat):Int)≤(281474976710656:Int)),HIs [HObj.pend,Z7a ty29,Z7b
 ty22,Z48 ty2,Z48 ty2,Z7c ty22,Z7d ty29] [HObj.pend,Z7a ty29,Z7b ty22,Z48 ty2,
 Z48 ty2,Z7c ty22,Z7d ty29]∧∃ (I:Int × Unit→List Int × Unit→Prop),∃ (μ:Int × Unit→List Int × Unit→Nat),I ((0:Int),())
 (List.replicate (Int.toNat (6:Int)) (0:Int),())∧∀ (x:Int × Unit) (y:List Int × Unit),I x y→∀ (a:Bool),a=decide (x.fst<(6:Int))→Br a (∃ (h:True),∃ (h :
 (0:Int)≤x.fst∧x.fst<(↑(Int.toNat (6:Int)):Int)),HIs [HObj.pend,Z7a ty29,Z7b ty22,Zjb ty2 y x,Z48 ty2,
 Z7c ty22,Z7d ty29] [HObj.pend,Z7a ty29,Z7b ty22,Zjb ty2 y x,Z48 ty2,Z7c ty22,
 Z7d ty29]∧I (i64.wrap (x.fst+(1:Int)),()) (y.fst.set ((0:Nat)+x.fst.toNat) (Z14 (newR (1:Int)).fst x.fst).fst,())∧μ (i64.wrap (x.fst
 + (1:Int)),()) (y.fst.set ((0:Nat)+x.fst.toNat) (Z14 (newR (1:Int)).fst x.fst).fst,())<μ x y) (∃ (h:(0:Int)≤(0:Int)∧(0:Int)<(↑(Int.toNat (6:Int)) :
 Int)),∀ (a:Bool),a=(y.fst.getD ((0:Nat)+Int.toNat (0:Int)) (0:Int) != (1431655765:Int))→Br a (post (false,())) (∃ (h:True),∀ (a:(Int × Nat × Nat × Nat
 × Int × Bool × List (Int × Int × Int × Int)) × Unit),a=Zsc→∃ (h:Z5l (newR (1:Int)).fst a.fst ([(0:Nat),(0:Nat),(0:Nat),(0:Nat),(0:Nat),(0:Nat)],
 List.take (Int.toNat (6:Int)) (List.drop (0:Nat) y.fst),[(0:Int),(0:Int),(0:Int),(0:Int),(0:Int),(0:Int)],[(0:Nat),(0:Nat),(0:Nat),(0:Nat),(0 :
 Nat),(0:Nat),(0:Nat),(0:Nat),(0:Nat),(0:Nat),(0:Nat),(0:Nat)],(0:Int),(0:Int))),∀ (a_1:(List Nat × List Int × List Int × List Nat × Int × Int) × Int
 × Unit),a_1=Z5z (newR (1:Int)).fst a.fst ([(0:Nat),(0:Nat),(0:Nat),(0:Nat),(0:Nat),(0:Nat)],List.take (Int.toNat (6:Int)) (List.drop (0:Nat) y.fst),
 [(0:Int),(0:Int),(0:Int),(0:Int),(0:Int),(0:Int)],[(0:Nat),(0:Nat),(0:Nat),(0:Nat),(0:Nat),(0:Nat),(0:Nat),(0:Nat),(0:Nat),(0:Nat),
 (0:Nat),(0:Nat)],(0:Int),(0:Int))→∃ (h:True),∀ (a:(Int × Nat × Nat × Nat × Int × Bool × List (Int × Int × Int × Int)) × Unit),a=Zsc→∃ (h:Z5l (newR (1
 : Int)).fst a.fst ([(0:Nat),(0:Nat),(0:Nat),(0:Nat),(0:Nat),(0:Nat)],List.take (Int.toNat (6:Int)) (List.drop (0:Nat) y.fst),[(0:Int),(0:Int),(0 :
 Int),(0:Int),(0:Int),(0:Int)],[(0:Nat),(0:Nat),(0:Nat),(0:Nat),(0:Nat),(0:Nat),(0:Nat),(0:Nat),(0:Nat),(0:Nat),(0:Nat),(0:Nat)],(0 :
 Int),(0:Int))),∀ (a_2:(List Int × List Int) × Int × Unit),a_2=Zcf (newR (1:Int)).fst a.fst ([(0:Nat),(0:Nat),(0:Nat),(0:Nat),(0:Nat),(0:Nat)],
 List.take (Int.toNat (6:Int)) (List.drop (0:Nat) y.fst),[(0:Int),(0:Int),(0:Int),(0:Int),(0:Int),(0:Int)],[(0:Nat),(0:Nat),(0:Nat),(0:Nat),(0 :
 Nat),(0:Nat),(0:Nat),(0:Nat),(0:Nat),(0:Nat),(0:Nat),(0:Nat)],(0:Int),(0:Int))→∀ (a:Bool),a=(a_1.snd.fst != (0:Int))→Br a (post (false,
 ())) (∀ (a:Bool),a=(a_2.snd.fst != (0:Int))→Br a (post (false,())) (∃ (h:True),∀ (a:Bool × Unit),a=Zuv (List.take a_1.fst.fst.length (List.drop (0:Nat)
 a_1.fst.fst),List.take a_1.fst.snd.fst.length (List.drop (0:Nat) a_1.fst.snd.fst),List.take a_1.fst.snd.snd.fst.length (List.drop (0:Nat) a_1.fst.snd.snd.fst),List.take
 a_1.fst.snd.snd.snd.fst.length (List.drop (0:Nat) a_1.fst.snd.snd.snd.fst),a_1.fst.snd.snd.snd.snd.fst,a_1.fst.snd.snd.snd.snd.snd) ([(0:Nat),(0:Nat),(0:Nat),(0 :
 Nat),(0:Nat),(0:Nat)],List.take (Int.toNat (6:Int)) (List.drop (0:Nat) y.fst),[(0:Int),(0:Int),(0:Int),(0:Int),(0:Int),(0:Int)],[(0:Nat),(0 :
 Nat),(0:Nat),(0:Nat),(0:Nat),(0:Nat),(0:Nat),(0:Nat),(0:Nat),(0:Nat),(0:Nat),(0:Nat)],(0:Int),(1:Int))→∀ (a_3:Bool),a_3=a.fst→Br
 (!a_3) (post (false,())) (∃ (h:(0:Int)≤(12:Int)∧(12:Int)≤(12:Int)∧(12:Int)*(↑(8:Nat):Int)≤(281474976710656:Int)),∃ (h:True),∀ (a:Bool ×
 Unit),a=Z10p (List.take a_2.fst.fst.length (List.drop (0:Nat) a_2.fst.fst)) [(0:Int),(0:Int),(0:Int),(0:Int),(0:Int),(0:Int),(0:Int),(0:Int),(0 :
 Int),(0:Int),(0:Int),(0:Int)]→∀ (a_4:Bool),a_4=a.fst→Br (!a_4) (post (false,())) (∃ (h:(0:Int)≤(0:Int)∧(0:Int)<(↑(Int.toNat (6:Int)) :
 Int)),∃ (h:(0:Int)≤(0:Int)∧(0:Int)<(↑(Int.toNat (6:Int)):Int)),∃ (h:True),∀ (a:(Int × Nat × Nat × Nat × Int × Bool × List (Int × Int × Int × Int)) ×
 Unit),a=Zsc→∃ (h:Z5l (newR (1:Int)).fst a.fst ([(0:Nat),(0:Nat),(0:Nat),(0:Nat),(0:Nat),(0:Nat)],List.take (Int.toNat (6:Int)) (List.drop (0 :
 Nat) (y.fst.set ((0:Nat)+Int.toNat (0:Int)) (i64.wrap ((2:Int)*y.fst.getD ((0:Nat)+Int.toNat (0:Int)) (0:Int))))),[(0:Int),(0:Int),(0:Int),(0 :
 Int),(0:Int),(0:Int)],[(0:Nat),(0:Nat),(0:Nat),(0:Nat),(0:Nat),(0:Nat),(0:Nat),(0:Nat),(0:Nat),(0:Nat),(0:Nat),(0:Nat)],(0:Int),(0 :
 Int))),∀ (a_5:(List Nat × List Int × List Int × List Nat × Int × Int) × Int × Unit),a_5=Z5z (newR (1:Int)).fst a.fst ([(0:Nat),(0:Nat),(0:Nat),(0:Nat),(0 :
 Nat),(0:Nat)],List.take (Int.toNat (6:Int)) (List.drop (0:Nat) (y.fst.set ((0:Nat)+Int.toNat (0:Int)) (i64.wrap ((2:Int)*y.fst.getD ((0:Nat) +
 Int.toNat (0:Int)) (0:Int))))),[(0:Int),(0:Int),(0:Int),(0:Int),(0:Int),(0:Int)],[(0:Nat),(0:Nat),(0:Nat),(0:Nat),(0:Nat),(0:Nat),(0 :
 Nat),(0:Nat),(0:Nat),(0:Nat),(0:Nat),(0:Nat)],(0:Int),(0:Int))→∀ (a:Bool),a=(a_5.snd.fst==(0:Int))→Br a (∀ (a:Bool),a =
 ((↑a_5.fst.snd.fst.length:Int)==(6:Int))→Br a (∃ (h:(0:Int)≤(1:Int)∧(1:Int)<(↑a_5.fst.snd.fst.length:Int)),∃ (h:(0:Int)≤(3:Int)∧(3:Int) <
 (↑a_5.fst.snd.fst.length:Int)),∀ (a:Bool),a=(a_5.fst.snd.fst.getD ((0:Nat)+Int.toNat (1:Int)) (0:Int)==a_5.fst.snd.fst.getD ((0:Nat)+Int.toNat (3:Int)) (0
 : Int))→Br a (∃ (h:(0:Int)≤(1:Int)∧(1:Int)<(↑a_5.fst.snd.fst.length:Int)),∃ (h:(0:Int)≤(1:Int)∧(1:Int)<(↑(Int.toNat (6:Int)):Int)),∀ (a :
 Bool),a=decide (a_5.fst.snd.fst.getD ((0:Nat)+Int.toNat (1:Int)) (0:Int) > (y.fst.set ((0:Nat)+Int.toNat (0:Int)) (i64.wrap ((2:Int)*y.fst.getD ((0 :
 Nat)+Int.toNat (0:Int)) (0:Int)))).getD ((0:Nat)+Int.toNat (1:Int)) (0:Int))→Br a (∃ (h:(0:Int)≤(2:Int)∧(2:Int)<(↑a_5.fst.snd.fst.length:Int)),∃
 (h:(0:Int)≤(2:Int)∧(2:Int)<(↑(Int.toNat (6:Int)):Int)),∀ (a:Bool),a=(a_5.fst.snd.fst.getD ((0:Nat)+Int.toNat (2:Int)) (0:Int)==(y.fst.set ((0 :
 Nat)+Int.toNat (0:Int)) (i64.wrap ((2:Int)*y.fst.getD ((0:Nat)+Int.toNat (0:Int)) (0:Int)))).getD ((0:Nat)+Int.toNat (2:Int)) (0:Int))→Br a (∃ (h
 : (0:Int)≤(0:Int)∧(0:Int)<(↑a_5.fst.snd.snd.snd.fst.length:Int)),∀ (a:Bool),a=fcmp Go.BinOp.gtr (f64.format.order (a_5.fst.snd.snd.snd.fst.getD
 ((0:Nat)+Int.toNat (0:Int)) (0:Nat)) (0:Nat))→Br a (∃ (h:(0:Int)≤(0:Int)∧(0:Int)<(↑a_5.fst.snd.snd.snd.fst.length:Int)),∃ (h:(0:Int)≤(3:Int) ∧
 (3:Int)<(↑a_5.fst.snd.snd.snd.fst.length:Int)),∃ (h:True),∀ (a:Bool),a=(Z1bm (a_5.fst.snd.snd.snd.fst.getD ((0:Nat)+Int.toNat (0:Int)) (0:Nat))
 (a_5.fst.snd.snd.snd.fst.getD ((0:Nat)+Int.toNat (3:Int)) (0:Nat))).fst→post (a,())) (post (false,()))) (post (false,()))) (post (false,()))) (post
 (false,()))) (post (false,()))) (post (false,())))))))))
theorem Z156 (ty0 ty1 ty2:Nat)  : Zcg ty0 ty1 ty2  (fun r=>r=yesR):=by
 delta Zcg
 dsimp only
 rw [new1]
 dsimp only
 refine ⟨⟨by decide,by decide⟩,?_⟩
 rintro _ rfl
 refine Br.intro (fun e=>absurd e (by first | decide | simp)) fun _=>?_
 refine ⟨by decide,by decide,by decide,by decide,?_⟩
 refine ⟨rfl,fun x y=>∃ k:Nat,x.1=k∧k≤6∧y.1=List.replicate k 1431655765++List.replicate (6 - k) 0,fun x _=>6 - x.1.toNat,⟨0,rfl,by omega,rfl⟩,?_⟩
 rintro ⟨_,⟨⟩⟩ ⟨_,⟨⟩⟩ ⟨k,rfl,hk,rfl⟩
 dsimp only
 rintro _ rfl
 have lk:(List.replicate k (1431655765:Int)).length=k:=List.length_replicate
 refine Br.intro (fun e3=>?_) fun e3=>?_
 ·have e3:k<6:=by have:=of_decide_eq_true e3; omega
  refine ⟨trivial,⟨by omega,by show (k:Int)<6; omega⟩,rfl,?_⟩
  rw [Int.toNat_natCast,Zz e3 (by omega),Zo4 lk e3,Z1ts e3]
  exact ⟨⟨k+1,rfl,by omega,by rw [List.replicate_succ']⟩,by omega⟩
 have e3:k=6:=by have:=of_decide_eq_false e3; omega
 subst e3
 clear lk hk
 have y6:List.replicate 6 (1431655765:Int)++List.replicate (6 - 6) 0=[1431655765,1431655765,1431655765,1431655765,1431655765,1431655765]:=rfl
 rw [y6]
 have t1:List.take (Int.toNat 6) (List.drop 0 [(1431655765:Int),1431655765,1431655765,1431655765,1431655765,1431655765])=[1431655765,1431655765,1431655765,1431655765,1431655765,1431655765]:=rfl
 have t2:List.take (Int.toNat 6) (List.drop 0 ([(1431655765:Int),1431655765,1431655765,1431655765,1431655765,1431655765].set (0+Int.toNat 0) (i64.wrap (2*[(1431655765:Int),1431655765,1431655765,1431655765,1431655765,1431655765].getD (0+Int.toNat 0) 0))))=[2863311530,1431655765,1431655765,1431655765,1431655765,1431655765]:=by decide
 rw [t1,t2]
 refine ⟨by decide,?_⟩
 rintro _ rfl
 refine Br.intro (fun e=>absurd e (by first | decide | simp)) fun _=>?_
 refine ⟨trivial,fun a ha=>?_⟩
 have ha:a=(Zb2,()):=ha
 subst ha
 refine ⟨Z1o7,fun a ha=>?_⟩
 have ha:a=(Z1qz,0,()):=ha.trans Z1o3
 subst ha
 refine ⟨trivial,fun a ha=>?_⟩
 have ha:a=(Zb2,()):=ha
 subst ha
 refine ⟨Z1o7,fun a ha=>?_⟩
 have ha:a=(([0,0,0,0,0,0,0,0,0,0,0,0],[0,0,0,0,0,0,0,0,0,0,0,0]),0,()):=ha.trans Z1o4
 subst ha
 rintro _ rfl
 refine Br.intro (fun e=>absurd e (by first | decide | simp)) fun _=>?_
 rintro _ rfl
 refine Br.intro (fun e=>absurd e (by first | decide | simp)) fun _=>?_
 refine ⟨trivial,fun a ha=>?_⟩
 have ha:a=(true,()):=ha
 subst ha
 rintro _ rfl
 refine Br.intro (fun e=>absurd e (by first | decide | simp)) fun _=>?_
 refine ⟨by decide,trivial,fun a ha=>?_⟩
 have ha:a=(true,()):=ha
 subst ha
 rintro _ rfl
 refine Br.intro (fun e=>absurd e (by first | decide | simp)) fun _=>?_
 refine ⟨by decide,by decide,trivial,fun a ha=>?_⟩
 have ha:a=(Zb2,()):=ha
 subst ha
 refine ⟨Z1ti,fun a ha=>?_⟩
 have ha:a=(Z1r0,0,()):=ha.trans Z1o5
 subst ha
 rintro _ rfl
 refine Br.intro (fun _=>?_) fun e=>absurd e (by decide)
 rintro _ rfl
 refine Br.intro (fun _=>?_) fun e=>absurd e (by decide)
 refine ⟨by decide,by decide,?_⟩
 rintro _ rfl
 refine Br.intro (fun _=>?_) fun e=>absurd e (by decide)
 refine ⟨by decide,by decide,?_⟩
 rintro _ rfl
 refine Br.intro (fun _=>?_) fun e=>absurd e (by decide)
 refine ⟨by decide,by decide,?_⟩
 rintro _ rfl
 refine Br.intro (fun _=>?_) fun e=>absurd e (by decide)
 refine ⟨by decide,?_⟩
 rintro _ rfl
 refine Br.intro (fun _=>?_) fun e=>absurd e (by decide)
 refine ⟨by decide,by decide,trivial,?_⟩
 rintro _ rfl
 rfl
end Go.Lift

namespace Go.Lift
def Z1ef (ty92:Nat) (n:Int) (ty93:Nat) (fn49:Nat) (fn50:Nat):List HObj:=[HObj.mp Md.rw ((K.int i64).pair (K.int i64)) (K.int i64) [],HObj.box Md.rw ty92 [SV.val (Go.Value.int i64 n),SV.junk,SV.mref (0:Nat),SV.val (Go.Value.slice none (0:Nat) (0:Nat)),SV.junk,SV.val (Go.Value.slice none (0:Nat) (0:Nat)),SV.val (Go.Value.slice none (0:Nat) (0:Nat))],HObj.box Md.rw ty93 [SV.clo fn49 [LV.ref (1:Nat) (0:Nat)] [],SV.clo fn50 [LV.ref (1:Nat) (0:Nat)] []]]
def Z1eg (y:List ((Int × Int) × Int) × Unit) (ty92:Nat) (n:Int) (x:Int × List (Int × Int × Int × Int) × List Int × Unit) (ty93:Nat) (fn49:Nat) (fn50:Nat) (ty2:Nat):List HObj:=[HObj.mp Md.rw ((K.int i64).pair (K.int i64)) (K.int i64) y.1,HObj.box Md.rw ty92 [SV.val (Go.Value.int i64 n),SV.junk,SV.mref (0:Nat),SV.val (Go.Value.slice none (0:Nat) (0:Nat)),SV.osl (4:Nat) (0:Nat) x.2.2.1.length,SV.val (Go.Value.slice none (0:Nat) (0:Nat)),SV.val (Go.Value.slice none (0:Nat) (0:Nat))],HObj.box Md.rw ty93 [SV.clo fn49 [LV.ref (1:Nat) (0:Nat)] [],SV.clo fn50 [LV.ref (1:Nat) (0:Nat)] []],HObj.dead,HObj.row Md.rw ty2 (K.int i64) x.2.2.1]
def Z1eh (y_1:List ((Int × Int) × Int) × Unit) (ty92:Nat) (n:Int) (x:Int × List (Int × Int × Int × Int) × List Int × Unit) (ty93:Nat) (fn49:Nat) (fn50:Nat) (ty2:Nat):List HObj:=[HObj.mp Md.rw ((K.int i64).pair (K.int i64)) (K.int i64) y_1.1,HObj.box Md.rw ty92 [SV.val (Go.Value.int i64 n),SV.junk,SV.mref (0:Nat),SV.val (Go.Value.slice none (0:Nat) (0:Nat)),SV.osl (4:Nat) (0:Nat) x.2.2.1.length,SV.val (Go.Value.slice none (0:Nat) (0:Nat)),SV.val (Go.Value.slice none (0:Nat) (0:Nat))],HObj.box Md.rw ty93 [SV.clo fn49 [LV.ref (1:Nat) (0:Nat)] [],SV.clo fn50 [LV.ref (1:Nat) (0:Nat)] []],HObj.dead,HObj.row Md.rw ty2 (K.int i64) x.2.2.1]
def Z1ei (a:Int × Int × Unit) (x_2:Int × List (Int × Int × Int × Int) × Unit) (x:Int × List (Int × Int × Int × Int) × List Int × Unit) (y_1:List ((Int × Int) × Int) × Unit) (ty92:Nat) (n:Int) (ty93:Nat) (fn49:Nat) (fn50:Nat) (ty2:Nat):List HObj:=[HObj.mp Md.rw ((K.int i64).pair (K.int i64)) (K.int i64) (mput (a.1,a.2.1) (↑x_2.2.1.length:Int) (mput (x.1,x_2.1) (↑x_2.2.1.length:Int) y_1.1)),HObj.box Md.rw ty92 [SV.val (Go.Value.int i64 n),SV.junk,SV.mref (0:Nat),SV.val (Go.Value.slice none (0:Nat) (0:Nat)),SV.osl (4:Nat) (0:Nat) x.2.2.1.length,SV.val (Go.Value.slice none (0:Nat) (0:Nat)),SV.val (Go.Value.slice none (0:Nat) (0:Nat))],HObj.box Md.rw ty93 [SV.clo fn49 [LV.ref (1:Nat) (0:Nat)] [],SV.clo fn50 [LV.ref (1:Nat) (0:Nat)] []],HObj.dead,HObj.row Md.rw ty2 (K.int i64) x.2.2.1]
def Z1ej (y_1:List ((Int × Int) × Int) × Unit) (ty92:Nat) (n:Int) (ty93:Nat) (fn49:Nat) (fn50:Nat):List HObj:=[HObj.mp Md.rw ((K.int i64).pair (K.int i64)) (K.int i64) y_1.1,HObj.box Md.rw ty92 [SV.val (Go.Value.int i64 n),SV.junk,SV.mref (0:Nat),SV.val (Go.Value.slice none (0:Nat) (0:Nat)),SV.junk,SV.val (Go.Value.slice none (0:Nat) (0:Nat)),SV.val (Go.Value.slice none (0:Nat) (0:Nat))],HObj.box Md.rw ty93 [SV.clo fn49 [LV.ref (1:Nat) (0:Nat)] [],SV.clo fn50 [LV.ref (1:Nat) (0:Nat)] []]]
def Zsp (y:List ((Int × Int) × Int) × Unit) (ty92:Nat) (n:Int) (ty93:Nat) (fn49:Nat) (fn50:Nat):List HObj:=[HObj.mp Md.rw ((K.int i64).pair (K.int i64)) (K.int i64) y.1,HObj.box Md.rw ty92 [SV.val (Go.Value.int i64 n),SV.junk,SV.mref (0:Nat),SV.val (Go.Value.slice none (0:Nat) (0:Nat)),SV.junk,SV.val (Go.Value.slice none (0:Nat) (0:Nat)),SV.val (Go.Value.slice none (0:Nat) (0:Nat))],HObj.box Md.rw ty93 [SV.clo fn49 [LV.ref (1:Nat) (0:Nat)] [],SV.clo fn50 [LV.ref (1:Nat) (0:Nat)] []],HObj.dead,HObj.dead]
def Zsq (y:List ((Int × Int) × Int) × Unit) (ty92:Nat) (n:Int) (x:Int × List (Int × Int × Int × Int) × List Int × Unit) (ty93:Nat) (fn49:Nat) (fn50:Nat) (ty96:Nat) (ty2:Nat):List HObj:=[HObj.mp Md.rw ((K.int i64).pair (K.int i64)) (K.int i64) y.1,HObj.box Md.rw ty92 [SV.val (Go.Value.int i64 n),SV.osl (5:Nat) (0:Nat) x.2.1.length,SV.mref (0:Nat),SV.junk,SV.osl (6:Nat) (0:Nat) x.2.2.1.length,SV.junk,SV.junk],HObj.box Md.rw ty93 [SV.clo fn49 [LV.ref (1:Nat) (0:Nat)] [],SV.clo fn50 [LV.ref (1:Nat) (0:Nat)] []],HObj.dead,HObj.dead,HObj.row Md.rw ty96 ((K.int i64).pair ((K.int i64).pair ((K.int i64).pair (K.int i64)))) x.2.1,HObj.row Md.rw ty2 (K.int i64) x.2.2.1]
def Zwl:=fun (ty92 ty93 ty2 ty96 fn49 fn50:Nat) (n:Int) (post:Option YG × Int × Unit→Prop)=>∃ (h:I64 n),Br ((Z3o n).1==(0:Int)) (post (none,(10
 : Int),())) (∃ (h:(0:Int)≤(0:Int)∧(0:Int)<(↑(2:Nat):Int)),HS (Z1ef ty92 n ty93 fn49 fn50)∧∃ (I:Int × List (Int × Int × Int × Int) × List Int × Unit
 → List ((Int × Int) × Int) × Unit→Prop),∃ (μ:Int × List (Int × Int × Int × Int) × List Int × Unit→List ((Int × Int) × Int) × Unit→Nat),I ((0:Int),[],[],()) ([],())
 ∧ ∀ (x:Int × List (Int × Int × Int × Int) × List Int × Unit) (y:List ((Int × Int) × Int) × Unit),I x y→Br (decide (x.1<(Z3o n).1)) (((0:Nat)=(0:Nat) ∧
 x.2.1.length=x.2.1.length)∧HS (Z1eg y ty92 n x ty93 fn49 fn50 ty2)∧∃ (I_1:Int × List (Int × Int × Int × Int) × Unit→List ((Int × Int) × Int) × Unit→Prop),∃
 (μ_1:Int × List (Int × Int × Int × Int) × Unit→List ((Int × Int) × Int) × Unit→Nat),I_1 ((0:Int),x.2.1,()) (y.1,())∧∀ (x_2:Int × List (Int × Int × Int × Int) ×
 Unit) (y_1:List ((Int × Int) × Int) × Unit),I_1 x_2 y_1→Br (decide (x_2.1<(4:Int))) (∃ (h:III n x.1 x_2.1),∀ a,a=Z56 n x.1 x_2.1→Br (decide (x.1 > a.1)) (((0
 : Nat)=(0:Nat)∧x_2.2.1.length=x_2.2.1.length)∧HS (Z1eh y_1 ty92 n x ty93 fn49 fn50 ty2)∧I_1 (i64.wrap (x_2.1+(1:Int)),x_2.2.1,()) (y_1.1,()) ∧
 μ_1 (i64.wrap (x_2.1+(1:Int)),x_2.2.1,()) (y_1.1,())<μ_1 x_2 y_1) (∃ (h:x_2.2.1.length=x_2.2.1.length∧(x_2.2.1.length+(1:Nat))*(32:Nat) ≤
 (140737488355328:Nat)),((0:Nat)=(0:Nat)∧x_2.2.1.length+(1:Nat)=(x_2.2.1++[(x.1,x_2.1,a.1,a.2.1)]).length)∧HS (Z1ei a x_2 x y_1 ty92 n ty93 fn49
 fn50 ty2)∧I_1 (i64.wrap (x_2.1+(1:Int)),x_2.2.1++[(x.1,x_2.1,a.1,a.2.1)],()) (mput (a.1,a.2.1) (↑x_2.2.1.length:Int) (mput (x.1,x_2.1) (↑x_2.2.1.length :
 Int) y_1.1),())∧μ_1 (i64.wrap (x_2.1+(1:Int)),x_2.2.1++[(x.1,x_2.1,a.1,a.2.1)],()) (mput (a.1,a.2.1) (↑x_2.2.1.length:Int) (mput (x.1,x_2.1)
 (↑x_2.2.1.length:Int) y_1.1),())<μ_1 x_2 y_1)) (((0:Nat)=(0:Nat)∧x_2.2.1.length=x_2.2.1.length)∧((0:Nat)=(0:Nat)∧x.2.2.1.length=x.2.2.1.length)∧HS
 (Z1ej y_1 ty92 n ty93 fn49 fn50)∧I (i64.wrap (x.1+(1:Int)),x_2.2.1,x.2.2.1,()) (y_1.1,())∧μ (i64.wrap (x.1+(1:Int)),x_2.2.1,x.2.2.1,())
 (y_1.1,())<μ x y)) (∃ (h:(0:Int)≤i64.wrap ((0:Int)+(1:Int))∧i64.wrap ((0:Int)+(1:Int))<(↑(2:Nat):Int)),((0:Nat)=(0:Nat) ∧
 x.2.1.length=x.2.1.length)∧((0:Nat)=(0:Nat)∧x.2.2.1.length=x.2.2.1.length)∧HS (Zsp y ty92 n ty93 fn49 fn50)∧∃ (I:Int × List (Int × Int × Int × Int) ×
 List Int × Unit→List ((Int × Int) × Int) × Unit→Prop),∃ (μ:Int × List (Int × Int × Int × Int) × List Int × Unit→List ((Int × Int) × Int) × Unit→Nat),I ((0:Int),
 x.2.1,x.2.2.1,()) (y.1,())∧∀ (x:Int × List (Int × Int × Int × Int) × List Int × Unit) (y:List ((Int × Int) × Int) × Unit),I x y→Br (decide (x.1<(Z3o n).1)) (∃ (h
 : II n x.1),∃ (h:x.2.2.1.length=x.2.2.1.length∧(x.2.2.1.length+(1:Nat))*(8:Nat)≤(140737488355328:Nat)),((0:Nat)=(0:Nat)∧x.2.1.length=x.2.1.length) ∧
 ((0:Nat)=(0:Nat)∧x.2.2.1.length+(1:Nat)=(x.2.2.1++[(Z10d n x.1).1]).length)∧HS (Zsp y ty92 n ty93 fn49 fn50)∧I (i64.wrap (x.1+(1:Int)),
 x.2.1,x.2.2.1++[(Z10d n x.1).1],()) (y.1,())∧μ (i64.wrap (x.1+(1:Int)),x.2.1,x.2.2.1++[(Z10d n x.1).1],()) (y.1,())<μ x y) (HS (Zsq y ty92 n
 x ty93 fn49 fn50 ty96 ty2)∧∃ (I:Int × List (List Int) × List Nat × List Nat × Unit→Unit→Prop),∃ (μ:Int × List (List Int) × List Nat × List Nat × Unit→Unit→Nat),I
 ((0:Int),[],[],[],()) ()∧∀ (x_3:Int × List (List Int) × List Nat × List Nat × Unit) (y_1:Unit),I x_3 y_1→Br (decide (x_3.1<(↑x.2.1.length:Int))) (∃ (h:(0 :
 Int)≤x_3.1∧x_3.1<(↑x.2.1.length:Int)),∃ (h:(4:Int)≠(0:Int)),∃ (h:III n (x.2.1.getD ((0:Nat)+x_3.1.toNat) Z3k.dflt).1 ((i64.wrap ((x.2.1.getD ((0
 : Nat)+x_3.1.toNat) Z3k.dflt).2.1+(2:Int))).tmod (4:Int))),∀ a,a=Z56 n (x.2.1.getD ((0:Nat)+x_3.1.toNat) Z3k.dflt).1 ((i64.wrap ((x.2.1.getD ((0 :
 Nat)+x_3.1.toNat) Z3k.dflt).2.1+(2:Int))).tmod (4:Int))→∃ (h:(4:Int)≠(0:Int)),∃ (h:III n (x.2.1.getD ((0:Nat)+x_3.1.toNat) Z3k.dflt).2.2.1
 ((i64.wrap ((x.2.1.getD ((0:Nat)+x_3.1.toNat) Z3k.dflt).2.2.2+(2:Int))).tmod (4:Int))),∀ a_1,a_1=Z56 n (x.2.1.getD ((0:Nat)+x_3.1.toNat)
 Z3k.dflt).2.2.1 ((i64.wrap ((x.2.1.getD ((0:Nat)+x_3.1.toNat) Z3k.dflt).2.2.2+(2:Int))).tmod (4:Int))→∃ (h:x_3.2.1.length=x_3.2.1.length ∧
 (x_3.2.1.length+(1:Nat))*(16:Nat)≤(140737488355328:Nat)),∃ (h:III n (x.2.1.getD ((0:Nat)+x_3.1.toNat) Z3k.dflt).1 (x.2.1.getD ((0:Nat)+x_3.1.toNat)
 Z3k.dflt).2.1),∀ a_2,a_2=Zhc n (x.2.1.getD ((0:Nat)+x_3.1.toNat) Z3k.dflt).1 (x.2.1.getD ((0:Nat)+x_3.1.toNat) Z3k.dflt).2.1→∃ (h:x_3.2.2.1.length =
 x_3.2.2.1.length∧(x_3.2.2.1.length+(1:Nat))*(8:Nat)≤(140737488355328:Nat)),∃ (h:III n (x.2.1.getD ((0:Nat)+x_3.1.toNat) Z3k.dflt).1 (x.2.1.getD ((0:Nat) +
 x_3.1.toNat) Z3k.dflt).2.1),∀ a_3,a_3=Z1jo n (x.2.1.getD ((0:Nat)+x_3.1.toNat) Z3k.dflt).1 (x.2.1.getD ((0:Nat)+x_3.1.toNat) Z3k.dflt).2.1→∃ (h :
 x_3.2.2.2.1.length=x_3.2.2.2.1.length∧(x_3.2.2.2.1.length+(1:Nat))*(8:Nat)≤(140737488355328:Nat)),((0:Nat)=(0:Nat)∧x_3.2.1.length+(1:Nat)=(x_3.2.1
 ++ [[a.1,a_1.1]]).length)∧((0:Nat)=(0:Nat)∧x_3.2.2.1.length+(1:Nat)=(x_3.2.2.1++[a_2.1]).length)∧((0:Nat)=(0:Nat)∧x_3.2.2.2.1.length+(1:Nat) =
 (x_3.2.2.2.1++[a_3.1]).length)∧HS (Zsq y ty92 n x ty93 fn49 fn50 ty96 ty2)∧I (i64.wrap (x_3.1+(1:Int)),x_3.2.1++[[a.1,a_1.1]],x_3.2.2.1++[a_2.1],
 x_3.2.2.2.1++[a_3.1],()) ()∧μ (i64.wrap (x_3.1+(1:Int)),x_3.2.1++[[a.1,a_1.1]],x_3.2.2.1++[a_2.1],x_3.2.2.2.1++[a_3.1],()) ()<μ x_3 y_1) (post
 (some (n,List.take x.2.1.length (List.drop (0:Nat) x.2.1),y.1,List.take x_3.2.1.length (List.drop (0:Nat) x_3.2.1),List.take x.2.2.1.length (List.drop (0:Nat)
 x.2.2.1),List.take x_3.2.2.1.length (List.drop (0:Nat) x_3.2.2.1),List.take x_3.2.2.2.1.length (List.drop (0:Nat) x_3.2.2.2.1)),(0:Int),())))))
theorem Z1gh (ty0 ty1 ty2 ty3 ty4 ty5:Nat) (n:Int) (h:I64 n):Zwl ty0 ty1 ty2 ty3 ty4 ty5 n (fun r=>r=newR n):=by
 have cr:=Z38 n
 obtain ⟨N,hN⟩:∃ N,(Z1 n).toNat=N:=⟨_,rfl⟩
 have hc:Z1 n=(N:Int):=by omega
 have hc':(Z3o n).fst=(N:Int):=hc
 have hN1:N≤6144:=by omega
 have nk:=fun k=>Z9w n k
 have i6:∀ {z:Int},0≤z→z≤6144→I64 z:=fun {z} a b=>⟨by omega,by omega⟩
 refine ⟨h,?_⟩
 rw [hc']
 refine Br.intro (fun e=>?_) fun e=>?_
 ·have e:(N:Int)=0:=beq_iff_eq.1 e
  show _=newR n
  unfold newR; rw [if_pos (by omega)]
 have e:¬ (N:Int)=0:=fun q=>by rw [q] at e; cases e
 have hnew:newR n=(some (netG n),0,()):=by unfold newR; rw [if_neg (by omega)]
 refine ⟨⟨by decide,by decide⟩,rfl,fun x y=>∃ k:Nat,x.1=k∧k≤N∧x.2.1=(netN n k).1∧x.2.2.1=[]∧y.1=(netN n k).2,fun x _=>N - x.1.toNat,⟨0,rfl,by omega,rfl,rfl,rfl⟩,?_⟩
 rintro ⟨_,_,_,⟨⟩⟩ ⟨_,⟨⟩⟩ ⟨k,rfl,hk,rfl,rfl,rfl⟩
 dsimp only
 refine Br.intro (fun e1=>?_) fun e1=>?_
 ·have e1:k<N:=by have:=of_decide_eq_true e1; omega
  refine ⟨⟨rfl,rfl⟩,rfl,fun x y=>∃ j:Nat,x.1=j∧j≤4∧x.2.1=(addN n k (netN n k) j).1∧y.1=(addN n k (netN n k) j).2,fun x _=>4 - x.1.toNat,⟨0,rfl,by omega,rfl,rfl⟩,?_⟩
  rintro ⟨_,_,⟨⟩⟩ ⟨_,⟨⟩⟩ ⟨j,rfl,hj,rfl,rfl⟩
  dsimp only
  have hlen:=(Z14q (n:=n) (c:=k) (by omega) (by omega) (nk k (by omega)).1 j hj).2
  have hlk:=(nk k (by omega)).2
  refine Br.intro (fun e2=>?_) fun e2=>?_
  ·have e2:j<4:=by have e2:(j:Int)<4:=of_decide_eq_true e2; omega
   refine ⟨⟨h,i6 (by omega) (by omega),i6 (by omega) (by omega)⟩,?_⟩
   rintro ⟨b,q,⟨⟩⟩ hb
   have hb:(b,q,())=Z56 n k j:=hb
   have eb:b=(Z2 n k j).1:=congrArg Prod.fst hb
   have eq:q=(Z2 n k j).2:=congrArg (fun z=>z.2.1) hb
   rw [Zz e2 (by omega)]
   refine Br.intro (fun g=>?_) fun g=>?_
   ·have g:(k:Int) > b:=of_decide_eq_true g
    have hst:addN n k (netN n k) (j+1)=addN n k (netN n k) j:=by
     show addE n k j (addN n k (netN n k) j)=_
     unfold addE; rw [if_pos (by omega)]
    exact ⟨⟨rfl,rfl⟩,rfl,⟨j+1,rfl,by omega,by rw [hst],by rw [hst]⟩,by omega⟩
   ·have g:¬ (k:Int) > b:=of_decide_eq_false g
    have hst:addN n k (netN n k) (j+1)=((addN n k (netN n k) j).1++[((k:Int),(j:Int),b,q)],mput (b,q) (addN n k (netN n k) j).1.length (mput ((k:Int),(j:Int)) (addN n k (netN n k) j).1.length (addN n k (netN n k) j).2)):=by
     show addE n k j (addN n k (netN n k) j)=_
     unfold addE; rw [if_neg (by omega),eb,eq]
    exact ⟨⟨rfl,by omega⟩,⟨rfl,by rw [List.length_append]; rfl⟩,rfl,⟨j+1,rfl,by omega,by rw [hst],by rw [hst]⟩,by omega⟩
  ·have e2:j=4:=by have e2:¬ (j:Int)<4:=of_decide_eq_false e2; omega
   subst e2
   rw [Zz e1 (by omega)]
   exact ⟨⟨rfl,rfl⟩,⟨rfl,rfl⟩,rfl,⟨k+1,rfl,by omega,rfl,rfl,rfl⟩,by omega⟩
 have e1:k=N:=by have:=of_decide_eq_false e1; omega
 subst e1
 obtain ⟨eok,elen⟩:=nk k hN1
 have hE:netE n=netN n k:=by unfold netE; rw [hN]
 generalize netN n k=E at *
 refine ⟨⟨by decide,by decide⟩,⟨rfl,rfl⟩,⟨rfl,rfl⟩,rfl,fun x y=>∃ m:Nat,x.1=m∧m≤k∧x.2.1=E.1∧x.2.2.1=((List.range m).map fun q:Nat=>Z15 n (q:Int))∧y.1=E.2,fun x _=>k - x.1.toNat,⟨0,rfl,by omega,rfl,rfl,rfl⟩,?_⟩
 rintro ⟨_,_,_,⟨⟩⟩ ⟨_,⟨⟩⟩ ⟨m,rfl,hm,rfl,rfl,rfl⟩
 dsimp only
 have hml:((List.range m).map fun q:Nat=>Z15 n (q:Int)).length=m:=by rw [List.length_map,List.length_range]
 refine Br.intro (fun e1=>?_) fun e1=>?_
 ·have e1:m<k:=by have:=of_decide_eq_true e1; omega
  rw [Zz e1 (by omega)]
  exact ⟨⟨h,i6 (by omega) (by omega)⟩,⟨rfl,by rw [hml]; omega⟩,⟨rfl,rfl⟩,⟨rfl,by rw [List.length_append]; rfl⟩,rfl,⟨m+1,rfl,by omega,rfl,(Z14n (fun q:Nat=>Z15 n (q:Int)) m).symm,rfl⟩,by omega⟩
 have e1:m=k:=by have:=of_decide_eq_false e1; omega
 subst e1
 refine ⟨rfl,fun x _=>∃ q:Nat,x.1=q∧q≤E.1.length∧x.2.1=(E.1.take q).map (Z8h n)∧x.2.2.1=(E.1.take q).map (fun e=>Z4r n e.1 e.2.1)∧x.2.2.2.1=(E.1.take q).map (fun e=>gapG n e.1 e.2.1),fun x _=>E.1.length - x.1.toNat,⟨0,rfl,by omega,rfl,rfl,rfl⟩,?_⟩
 rintro ⟨_,_,_,_,⟨⟩⟩ _ ⟨q,rfl,hq,rfl,rfl,rfl⟩
 dsimp only
 have hl:∀ {α:Type} (f:Ed→α),((E.1.take q).map f).length=q:=fun {α} f=>by rw [List.length_map,List.length_take]; omega
 refine Br.intro (fun e1=>?_) fun e1=>?_
 ·have e1:q<E.1.length:=by have:=of_decide_eq_true e1; omega
  rw [Int.toNat_natCast,Nat.zero_add,Zz e1 (by omega)]
  obtain ⟨d,hd⟩:∃ d,E.1.getD q Z3k.dflt=d:=⟨_,rfl⟩
  have dm:d ∈ E.1:=by rw [← hd]; exact Zu e1 _
  have ts:E.1.take (q+1)=E.1.take q++[d]:=by rw [Ze2 e1 Z3k.dflt,hd]
  rw [hd]
  obtain ⟨d1,d2,d3,d4,d5,d6,d7,d8⟩:=eok d dm
  have w1:i64.wrap (d.2.1+2)=d.2.1+2:=wi ⟨by omega,by omega⟩
  have w2:i64.wrap (d.2.2.2+2)=d.2.2.2+2:=wi ⟨by omega,by omega⟩
  rw [w1,w2]
  have t1:I64 (Int.tmod (d.2.1+2) 4):=by rw [Int.tmod_eq_emod_of_nonneg (by omega)]; exact i6 (by omega) (by omega)
  have t2:I64 (Int.tmod (d.2.2.2+2) 4):=by rw [Int.tmod_eq_emod_of_nonneg (by omega)]; exact i6 (by omega) (by omega)
  refine ⟨⟨by omega,by omega⟩,by decide,⟨h,i6 d1 (by omega),t1⟩,?_⟩
  rintro ⟨a1,a2,⟨⟩⟩ ha
  have ea:a1=(Z2 n d.1 (Int.tmod (d.2.1+2) 4)).1:=congrArg Prod.fst ha
  refine ⟨by decide,⟨h,i6 d5 (by omega),t2⟩,?_⟩
  rintro ⟨b1,b2,⟨⟩⟩ hb
  have eb:b1=(Z2 n d.2.2.1 (Int.tmod (d.2.2.2+2) 4)).1:=congrArg Prod.fst hb
  refine ⟨⟨rfl,by rw [hl]; omega⟩,⟨h,i6 d1 (by omega),i6 d3 (by omega)⟩,?_⟩
  rintro ⟨l1,⟨⟩⟩ hl1
  have el:l1=Z4r n d.1 d.2.1:=congrArg Prod.fst hl1
  refine ⟨⟨rfl,by rw [hl]; omega⟩,⟨h,i6 d1 (by omega),i6 d3 (by omega)⟩,?_⟩
  rintro ⟨g1,⟨⟩⟩ hg1
  have eg:g1=gapG n d.1 d.2.1:=congrArg Prod.fst hg1
  refine ⟨⟨rfl,by rw [hl]; omega⟩,⟨rfl,by rw [List.length_append]; rfl⟩,⟨rfl,by rw [List.length_append]; rfl⟩,⟨rfl,by rw [List.length_append]; rfl⟩,rfl,⟨q+1,rfl,by omega,?_,?_,?_⟩,by omega⟩
  ·rw [ts,List.map_append]; dsimp only; rw [ea,eb]; rfl
  ·rw [ts,List.map_append]; dsimp only; rw [el]; rfl
  ·rw [ts,List.map_append]; dsimp only; rw [eg]; rfl
 ·have e1:q=E.1.length:=by have:=of_decide_eq_false e1; omega
  subst e1
  show _=newR n
  rw [hnew]
  unfold netG Zat
  rw [hE,hN,List.take_length]
  simp only [List.drop_zero,List.take_length]
end Go.Lift

namespace Go.Lift
def Zsr:=fun (a:Int) (post:Bool × Unit→Prop)=>∀ a_1,a_1=decide (a≥(1:Int))→Br a_1 (∀ a_2,a_2=decide (a≤(32:Int))→post (a_2,())) (post
 (false,()))
theorem Z1ek (a:Int):Zsr  a (fun r=>r=Z10a a):=by
 rintro _ rfl
 refine Br.intro (fun e=>?_) fun e=>?_
 ·rintro _ rfl
  refine congrArg r1 ?_
  show _=Z1u a
  unfold Z1u
  rw [show decide ((1:Int)≤a)=true from e,Bool.true_and]
 ·refine congrArg r1 ?_
  show _=Z1u a
  unfold Z1u
  rw [show decide ((1:Int)≤a)=false from e,Bool.false_and]
def Zon:=fun (a:Int) (post:Int × Unit→Prop)=>∃ (h:True),∀ a_1,a_1=(Z10a a).1→Br (!a_1) (post (0,())) (post (i64.wrap (i64.wrap ((6 :
 Int)*a)*a),()))
theorem Z19m (a:Int) (h:I64 a):Zon  a (fun r=>r=Z3o a):=by
 refine ⟨trivial,?_⟩
 rintro _ rfl
 refine Br.intro (fun e=>?_) fun e=>?_
 ·have e:(!Z1u a)=true:=e
  exact congrArg r1 (Ze0 (by simpa using e)).symm
 ·have e:(!Z1u a)=false:=e
  exact congrArg r1 (Z1jn (by simpa using e))
def Zoo:=fun (n c:Int) (post:Int × Int × Int × Bool × Unit→Prop)=>∀ a,a=decide (c<(0:Int))→Br a (post (0,0,0,false,())) (∃ (h:I64 n),∀ a,a
 = decide (c≥(Z3o n).1)→Br a (post (0,0,0,false,())) (∃ (h:i64.wrap (n*n)≠(0:Int)),∃ (h:n≠(0:Int)),∃ (h:n≠(0:Int)),∃ (h:n≠(0 :
 Int)),post (i64.wrap (c.tdiv (i64.wrap (n*n))),c.tmod n,(i64.wrap (c.tdiv n)).tmod n,true,())))
theorem Z19n (n:Int) (c:Int) (h:II n c):Zoo  n c (fun r=>r=Z4 n c):=by
 have bad:Zd n c=false→((0:Int),(0:Int),(0:Int),false,())=Z4 n c:=by
  intro e; unfold Z4; rw [if_neg (by rw [e]; decide)]
 rintro _ rfl
 refine Br.intro (fun e=>?_) fun e=>?_
 ·have e:=of_decide_eq_true e
  exact bad (by unfold Zd; rw [decide_eq_false (by omega),Bool.false_and])
 ·have e:=of_decide_eq_false e
  refine ⟨h.1,?_⟩
  rintro _ rfl
  refine Br.intro (fun f=>?_) fun f=>?_
  ·have f:Z1 n≤c:=of_decide_eq_true f
   exact bad (by unfold Zd; rw [decide_eq_false (p:=c<Z1 n) (by omega),Bool.and_false])
  ·have f:¬ c≥Z1 n:=of_decide_eq_false f
   have ok:Zd n c=true:=by unfold Zd; rw [decide_eq_true (by omega),decide_eq_true (by omega)]; rfl
   obtain ⟨h1,h2,h3,h4,h5,h6⟩:=Zd4 ok
   obtain ⟨r1,r2,r3,r4,r5,r6⟩:=Zs5 ok
   have w1:i64.wrap (n*n)=n*n:=wi ⟨by omega,by omega⟩
   have d1:c.tdiv (n*n)=c / (n*n):=Int.tdiv_eq_ediv_of_nonneg h3
   have d2:c.tdiv n=c / n:=Int.tdiv_eq_ediv_of_nonneg h3
   have d3:0≤c / n∧c / n≤c:=⟨Int.ediv_nonneg h3 (by omega),Int.ediv_le_self _ h3⟩
   have w2:i64.wrap (c / n)=c / n:=wi ⟨by omega,by have:=h.2; unfold I64 at this; omega⟩
   have w3:i64.wrap (c / (n*n))=c / (n*n):=wi ⟨by omega,by omega⟩
   refine ⟨by rw [w1]; omega,by omega,by omega,by omega,?_⟩
   rw [w1,d1,w3,d2,w2,Int.tmod_eq_emod_of_nonneg h3,Int.tmod_eq_emod_of_nonneg d3.1]
   unfold Z4; rw [if_pos ok]
end Go.Lift

namespace Go.Lift
open Go.Proofs
def Z11x:Cx:=⟨Z1o Z1w,Z1t [],SqG⟩
theorem Zop:CxOk Tryz.prog Z11x:=⟨Zl Zv,fun f c h=>by cases h⟩
def Zet:Con:=.det [.int .i64] [.snap .bool] (fun _=>True) (fun x=>Z10a x.1)
theorem Zoq:SqH Zet 102 :=
 dP Zop Z3 Zb nHn Tryz.func102 (fun x p=>Zsr  x.1 p) fun x _ _=>Z1ek  x.1
def Z11y:Cx:=addC 102 Zet Z11x
theorem Zor:CxOk Tryz.prog Z11y:=Zk Zop Zoq
def Z4t:Con:=.det [.int .i64] [.snap (.int .i64)] (fun x=>I64 x.1) (fun x=>Z3o x.1)
theorem Z6b:SqH Z4t 48 :=
 dP Zor Z3 Zb nHn Tryz.func48 (fun x p=>Zon  x.1 p) fun x h _=>Z19m  x.1 h
def Z1ke:Cx:=addC 48 Z4t Z11y
theorem Z19o:CxOk Tryz.prog Z1ke:=Zk Zor Z6b
def Z8n:Con:=.det [.int .i64,.int .i64] [.snap (.int .i64),.snap (.int .i64),.snap (.int .i64),.snap .bool] (fun x=>II x.1 x.2.1) (fun x=>Z4 x.1 x.2.1)
theorem Zch:SqH Z8n 104 :=
 dP Z19o Z3 Zb nHn Tryz.func104 (fun x p=>Zoo  x.1 x.2.1 p) fun x h _=>Z19n  x.1 x.2.1 h
end Go.Lift

namespace Go.Lift
def Zjc (ty154:Nat) (ty160:Nat) (a_2:Int × Unit) (ty158:Nat) (a_4:List Int × Unit):List HObj:=[HObj.row Md.rw ty154 (K.arr (2:Nat) (K.int i64)) [[(1:Int),(0:Int)],[(0:Int),(1:Int)],[(-1:Int),(0:Int)],[(0:Int),(-1:Int)]],HObj.row Md.rw ty160 (K.arr (3:Nat) (K.int i64)) (Zm.getD a_2.1.toNat (K.arr (3:Nat) (K.arr (3:Nat) (K.int i64))).dflt),HObj.row Md.rw ty158 (K.int i64) a_4.1]
def Zlc:=fun (ty154 ty160 ty158:Nat) (n c o:Int) (post:Int × Int × Unit→Prop)=>∃ (h:II n c),Br (!(Z4 n c).2.2.2.1) (post ((-1:Int),(0:Int),()))
 (∀ a,a=decide (o<(0:Int))→Br a (post ((-1:Int),(0:Int),())) (∀ a,a=decide (o≥(4:Int))→Br a (post ((-1:Int),(0:Int),())) (∃ (h:(List.replicate (4 :
 Nat) (K.arr (2:Nat) (K.int i64)).dflt).length=(4:Nat)∧(4:Nat)=(4:Nat)),∃ (h:(0:Int)≤o∧o<(↑(4:Nat):Int)∧(4:Nat)≤(4:Nat)),∃ (h:(0 :
 Int)≤(0:Int)∧(0:Int)<(↑(2:Nat):Int)),∃ (h:(0:Int)≤o∧o<(↑(4:Nat):Int)∧(4:Nat)≤(4:Nat)),∃ (h:(0:Int)≤(1:Int)∧(1:Int)<(↑(2:Nat)
 : Int)),∃ (h:IIII n (Z4 n c).1 (i64.wrap ((Z4 n c).2.1+List.getD ([[(1:Int),(0:Int)],[(0:Int),(1:Int)],[(-1:Int),(0:Int)],[(0:Int),(-1
 : Int)]].getD o.toNat (K.arr (2:Nat) (K.int i64)).dflt) (0:Nat) (0:Int))) (i64.wrap ((Z4 n c).2.2.1+List.getD ([[(1:Int),(0:Int)],[(0:Int),(1
 : Int)],[(-1:Int),(0:Int)],[(0:Int),(-1:Int)]].getD o.toNat (K.arr (2:Nat) (K.int i64)).dflt) ((nat_lit 0+(1:Nat)) / (K.int i64).sz) (0 :
 Int)))),∀ a,a=Zut n (Z4 n c).1 (i64.wrap ((Z4 n c).2.1+List.getD ([[(1:Int),(0:Int)],[(0:Int),(1:Int)],[(-1:Int),(0:Int)],[(0:Int),
 (-1:Int)]].getD o.toNat (K.arr (2:Nat) (K.int i64)).dflt) (0:Nat) (0:Int))) (i64.wrap ((Z4 n c).2.2.1+List.getD ([[(1:Int),(0:Int)],[(0 :
 Int),(1:Int)],[(-1:Int),(0:Int)],[(0:Int),(-1:Int)]].getD o.toNat (K.arr (2:Nat) (K.int i64)).dflt) ((nat_lit 0+(1:Nat)) / (K.int i64).sz) (0
 : Int)))→∀ a_1,a_1=decide (a.1≥(0:Int))→Br a_1 (∃ (h:(4:Int)≠(0:Int)),post (a.1,(i64.wrap (o+(2:Int))).tmod (4:Int),())) (∃ (h:(0:Int) ≤
 (Z4 n c).1∧(Z4 n c).1<(↑(6:Nat):Int)),∃ (h:WOut (Zm.getD (Z4 n c).1.toNat (K.arr (3:Nat) (K.arr (3:Nat) (K.int i64))).dflt) o),∀ a,a =
 outR (Zm.getD (Z4 n c).1.toNat (K.arr (3:Nat) (K.arr (3:Nat) (K.int i64))).dflt) o→∃ (h:True),∀ a_2,a_2=Z14o a.1→∃ (h:(0:Int)≤a_2.1 ∧
 a_2.1<(↑(6:Nat):Int)),∃ (h:(List.replicate (3:Nat) (K.arr (3:Nat) (K.int i64)).dflt).length=(3:Nat)∧List.length (Zm.getD a_2.1.toNat (K.arr (3 :
 Nat) (K.arr (3:Nat) (K.int i64))).dflt)=(3:Nat)),∃ (h:Z2t n (Z4 n c).1 (Z4 n c).2.1 (Z4 n c).2.2.1),∀ a,a=Zxs n (Z4 n c).1
 (Z4 n c).2.1 (Z4 n c).2.2.1→∃ (h:(0:Int)≤(Z4 n c).1∧(Z4 n c).1<(↑(6:Nat):Int)),∃ (h:WOut (Zm.getD (Z4 n c).1.toNat (K.arr (3 :
 Nat) (K.arr (3:Nat) (K.int i64))).dflt) o),∀ a_3,a_3=outR (Zm.getD (Z4 n c).1.toNat (K.arr (3:Nat) (K.arr (3:Nat) (K.int i64))).dflt) o→∃ (h
 : Z10h a.1 a_3.1),∀ a_4,a_4=Zus a.1 a_3.1→∃ (h:(List.replicate (3:Nat) (0:Int)).length=(3:Nat)∧a_4.1.length=(3:Nat)),∃ (h:a_4.1.length=(3:Nat)),∃
 (h:(0:Int)≤(1:Int)∧(1:Int)<(↑(3:Nat):Int)∧(3:Nat)≤List.length (Zm.getD a_2.1.toNat (K.arr (3:Nat) (K.arr (3:Nat) (K.int i64))).dflt)),∃
 (h:WDot a_4.1 (List.getD (Zm.getD a_2.1.toNat (K.arr (3:Nat) (K.arr (3:Nat) (K.int i64))).dflt) (Int.toNat (1:Int)) (K.arr (3:Nat) (K.int
 i64)).dflt)),∀ a,a=dotR a_4.1 (List.getD (Zm.getD a_2.1.toNat (K.arr (3:Nat) (K.arr (3:Nat) (K.int i64))).dflt) (Int.toNat (1:Int)) (K.arr (3:Nat)
 (K.int i64)).dflt)→∃ (h:Z10j n a.1),∀ a_5,a_5=Z10i n a.1→∃ (h:a_4.1.length=(3:Nat)),∃ (h:(0:Int)≤(2:Int)∧(2:Int)<(↑(3:Nat):Int)∧(3
 : Nat)≤List.length (Zm.getD a_2.1.toNat (K.arr (3:Nat) (K.arr (3:Nat) (K.int i64))).dflt)),∃ (h:WDot a_4.1 (List.getD (Zm.getD a_2.1.toNat (K.arr (3 :
 Nat) (K.arr (3:Nat) (K.int i64))).dflt) (Int.toNat (2:Int)) (K.arr (3:Nat) (K.int i64)).dflt)),∀ a,a=dotR a_4.1 (List.getD (Zm.getD a_2.1.toNat
 (K.arr (3:Nat) (K.arr (3:Nat) (K.int i64))).dflt) (Int.toNat (2:Int)) (K.arr (3:Nat) (K.int i64)).dflt)→∃ (h:Z10j n a.1),∀ a_6,a_6=Z10i n a.1 →
 ∃ (h:IIII n a_2.1 a_5.1 a_6.1),∀ a,a=Zut n a_2.1 a_5.1 a_6.1→HS (Zjc ty154 ty160 a_2 ty158 a_4)∧∃ (I:Int × Unit→Unit→Prop),∃ (μ:Int × Unit→Unit
 → Nat),I ((0:Int),()) ()∧∀ (x:Int × Unit) (y:Unit),I x y→∀ a_7,a_7=decide (x.1<(4:Int))→Br a_7 (∃ (h:List.length (Zm.getD a_2.1.toNat (K.arr (3:Nat)
 (K.arr (3:Nat) (K.int i64))).dflt)=(3:Nat)),∃ (h:WOut (Zm.getD a_2.1.toNat (K.arr (3:Nat) (K.arr (3:Nat) (K.int i64))).dflt) x.1),∀ a_8,a_8 =
 outR (Zm.getD a_2.1.toNat (K.arr (3:Nat) (K.arr (3:Nat) (K.int i64))).dflt) x.1→∃ (h:(0:Int)≤(Z4 n c).1∧(Z4 n c).1<(↑(6:Nat):Int)),∃ (h
 : (0:Int)≤(0:Int)∧(0:Int)<(↑(3:Nat):Int)),∀ a_9,a_9=eqL a_8.1 (List.getD (Zm.getD (Z4 n c).1.toNat (K.arr (3:Nat) (K.arr (3:Nat) (K.int
 i64))).dflt) (Int.toNat (0:Int)) (K.arr (3:Nat) (K.int i64)).dflt)→Br a_9 (post (a.1,x.1,())) (HS (Zjc ty154 ty160 a_2 ty158 a_4)∧I
 (i64.wrap (x.1+(1:Int)),()) ()∧μ (i64.wrap (x.1+(1:Int)),()) ()<μ x y)) (post ((-1:Int),(0:Int),()))))))
theorem Z157 (ty0 ty1 ty2:Nat) (n:Int) (c:Int) (o:Int) (h:III n c o):Zlc ty0 ty1 ty2 n c o (fun r=>r=Z56 n c o):=by
 refine ⟨⟨h.1,h.2.1⟩,?_⟩
 have no:Zg n c o=false→((-1:Int),(0:Int),())=Z56 n c o:=by
  intro q
  have:Z2 n c o=(-1,0):=by unfold Z2; rw [if_neg (by rw [q]; decide)]
  unfold Z56; rw [this]
 by_cases ok:Zd n c=true
 ·rw [Z1db ok]
  have hm:=Ze6 ok
  have hh:=hm
  obtain ⟨n1,n2,f0,f5,i0,i1,j0,j1⟩:=hh
  dsimp only
  refine Br.intro (fun e=>absurd e (by decide)) fun _=>?_
  rintro _ rfl
  refine Br.intro (fun e=>no ?_) fun e=>?_
  ·have e:=of_decide_eq_true e
   unfold Zg; rw [decide_eq_false (p:=0≤o) (by omega)]; simp
  have o0:=of_decide_eq_false e
  rintro _ rfl
  refine Br.intro (fun e=>no ?_) fun e=>?_
  ·have e:=of_decide_eq_true e
   unfold Zg; rw [decide_eq_false (p:=o<4) (by omega)]; simp
  have o4:=of_decide_eq_false e
  have o0:0≤o:=by omega
  have o4:o<4:=by omega
  have okb:Zg n c o=true:=by unfold Zg; rw [ok,decide_eq_true o0,decide_eq_true o4]; rfl
  have d:=dxy (o:=o)
  obtain ⟨F,hF⟩:∃ F,c / (n*n)=F:=⟨_,rfl⟩
  obtain ⟨i,hi0⟩:∃ i,c % n=i:=⟨_,rfl⟩
  obtain ⟨j,hj0⟩:∃ j,c / n % n=j:=⟨_,rfl⟩
  have hb:Z2 n c o=if 0≤Z24 n F (i+dxI o) (j+dyI o) then (Z24 n F (i+dxI o) (j+dyI o),Int.tmod (o+2) 4) else Z10k n F i j o:=by
   unfold Z2; rw [if_pos okb,hF,hi0,hj0]
  rw [hF,hi0,hj0]
  rw [hF] at hm f0 f5
  rw [hi0] at hm i0 i1
  rw [hj0] at hm j0 j1
  have w1:i64.wrap (i+dxI o)=i+dxI o:=wi ⟨by omega,by omega⟩
  have w2:i64.wrap (j+dyI o)=j+dyI o:=wi ⟨by omega,by omega⟩
  have i6:∀ {z:Int},-1≤z→z≤6144→I64 z:=fun {z} a b=>⟨by omega,by omega⟩
  have fb:=Z5u f0 f5
  have wo:∀ q,WOut (Zy F) q:=fun q=>⟨(fb 1).mono (by decide),(fb 2).mono (by decide)⟩
  refine ⟨⟨rfl,rfl⟩,⟨o0,o4,Nat.le_refl _⟩,⟨by decide,by decide⟩,⟨o0,o4,Nat.le_refl _⟩,⟨by decide,by decide⟩,⟨h.1,i6 (by omega) (by omega),Zxt _,Zxt _⟩,?_⟩
  intro a ha
  have ha:a=Zut n F (i64.wrap (i+dxI o)) (i64.wrap (j+dyI o)):=ha.trans (by rw [← Z1t7 o0 o4,← Z1t8 o0 o4]; rfl)
  rw [w1,w2] at ha
  obtain ⟨a,⟨⟩⟩:=a
  have ha:a=Z24 n F (i+dxI o) (j+dyI o):=congrArg Prod.fst ha
  rw [← ha] at hb
  rintro _ rfl
  refine Br.intro (fun e=>?_) fun e=>?_
  ·have e:a≥0:=of_decide_eq_true e
   rw [if_pos e] at hb
   refine ⟨by decide,?_⟩
   have:i64.wrap (o+2)=o+2:=wi ⟨by omega,by omega⟩
   rw [this]
   unfold Z56; rw [hb]
  have e:¬ 0≤a:=of_decide_eq_false e
  rw [if_neg e] at hb
  refine ⟨⟨f0,by show F<6; omega⟩,wo o,?_⟩
  rintro ⟨v1,⟨⟩⟩ hv1
  have e1:v1=outF (Zy F) o:=congrArg Prod.fst hv1
  refine ⟨trivial,?_⟩
  rintro ⟨t,⟨⟩⟩ ht
  have et:t=Z4q (outF (Zy F) o):=by rw [← e1]; exact congrArg Prod.fst ht
  obtain ⟨t0,t5⟩:=Z1rq f0 f5 o0 o4
  rw [← et] at t0 t5
  have fl:=Z17q t0 t5
  have tb:=Z5u t0 t5
  refine ⟨⟨t0,by show t<6; omega⟩,⟨rfl,fl⟩,hm,?_⟩
  rintro ⟨p,⟨⟩⟩ hp
  have ep:p=Z8f n F i j:=congrArg Prod.fst hp
  have pb:Bd 96 p:=by rw [ep]; exact Z1my hm
  refine ⟨⟨f0,by show F<6; omega⟩,wo o,?_⟩
  rintro ⟨v2,⟨⟩⟩ hv2
  have e2:v2=outF (Zy F) o:=congrArg Prod.fst hv2
  have vb:Bd 1 v2:=by rw [e2]; exact Z1t6 f0 f5 o
  refine ⟨⟨pb.mono (by decide),vb.mono (by decide)⟩,?_⟩
  rintro ⟨q,⟨⟩⟩ hq
  have eq:q=Zd5 p v2:=congrArg Prod.fst hq
  have ql:q.length=3:=by rw [eq]; rfl
  have qb:Bd 97 q:=by rw [eq]; exact Zuu pb vb
  refine ⟨⟨rfl,ql⟩,ql,⟨by decide,by decide,Nat.le_of_eq fl.symm⟩,⟨qb.mono (by decide),(tb 1).mono (by decide)⟩,?_⟩
  rintro ⟨d1,⟨⟩⟩ hd1
  have ed1:d1=dotW q (Z29 (Zy t) 1):=congrArg Prod.fst hd1
  have db1:=Z1mx qb (tb 1)
  rw [← ed1] at db1
  refine ⟨⟨n1,n2,by omega,by omega⟩,?_⟩
  rintro ⟨x1,⟨⟩⟩ hx1
  have ex1:x1=Z4e n d1:=congrArg Prod.fst hx1
  have xb1:=Z17r (a:=d1) n1
  rw [← ex1] at xb1
  refine ⟨ql,⟨by decide,by decide,Nat.le_of_eq fl.symm⟩,⟨qb.mono (by decide),(tb 2).mono (by decide)⟩,?_⟩
  rintro ⟨d2,⟨⟩⟩ hd2
  have ed2:d2=dotW q (Z29 (Zy t) 2):=congrArg Prod.fst hd2
  have db2:=Z1mx qb (tb 2)
  rw [← ed2] at db2
  refine ⟨⟨n1,n2,by omega,by omega⟩,?_⟩
  rintro ⟨x2,⟨⟩⟩ hx2
  have ex2:x2=Z4e n d2:=congrArg Prod.fst hx2
  have xb2:=Z17r (a:=d2) n1
  rw [← ex2] at xb2
  refine ⟨⟨h.1,i6 (by omega) (by omega),i6 (by omega) (by omega),i6 (by omega) (by omega)⟩,?_⟩
  rintro ⟨cc,⟨⟩⟩ hcc
  have ecc:cc=Z24 n t x1 x2:=congrArg Prod.fst hcc
  have hov:Z2 n c o=Zd6 (Zy t) (Z29 (Zy F) 0) cc 4 0:=by
   rw [hb,ecc,ex1,ex2,ed1,ed2,eq,ep,e2,et]; rfl
  refine ⟨rfl,fun x _=>∃ k:Nat,x.1=k∧k≤4∧Z2 n c o=Zd6 (Zy t) (Z29 (Zy F) 0) cc (4 - k) k,fun x _=>4 - x.1.toNat,⟨0,rfl,by omega,hov⟩,?_⟩
  rintro ⟨_,⟨⟩⟩ _ ⟨k,rfl,hk,hi⟩
  dsimp only
  rintro _ rfl
  refine Br.intro (fun g=>?_) fun g=>?_
  ·have g:k<4:=by have g:(k:Int)<4:=of_decide_eq_true g; omega
   refine ⟨fl,⟨(tb 1).mono (by decide),(tb 2).mono (by decide)⟩,?_⟩
   rintro ⟨v3,⟨⟩⟩ hv3
   have e3:v3=outF (Zy t) k:=congrArg Prod.fst hv3
   refine ⟨⟨f0,by show F<6; omega⟩,⟨by decide,by decide⟩,?_⟩
   intro z hz
   have hz:z=decide (outF (Zy t) k=Z29 (Zy F) 0):=by rw [← e3]; exact hz
   obtain ⟨r,hr⟩:∃ r,4 - k=r+1:=⟨3 - k,by omega⟩
   rw [hr] at hi
   unfold Zd6 at hi
   rw [hz,Zz g (by omega)]
   refine Br.intro (fun y=>?_) fun y=>?_
   ·rw [if_pos (of_decide_eq_true y)] at hi
    unfold Z56; rw [hi]
   ·rw [if_neg (of_decide_eq_false y)] at hi
    exact ⟨rfl,⟨k+1,rfl,by omega,by rw [show 4 - (k+1)=r by omega]; exact hi⟩,by omega⟩
  ·have g:k=4:=by have g:¬ (k:Int)<4:=of_decide_eq_false g; omega
   subst g
   have hi:Z2 n c o=(-1,0):=hi
   unfold Z56; rw [hi]
 ·rw [Z1dc ok]
  refine Br.intro (fun _=>no ?_) fun e=>absurd e (by decide)
  unfold Zg; rw [show Zd n c=false by simpa using ok]; rfl
end Go.Lift

namespace Go.Lift
def Zf8:=fun (a:List Int) (k:Int) (post:List Int × Unit→Prop)=>∃ (h:(0:Int)≤(0:Int)∧(0:Int)<(↑(3:Nat):Int)∧(3:Nat)≤a.length),∃ (h
 : (0:Int)≤(1:Int)∧(1:Int)<(↑(3:Nat):Int)∧(3:Nat)≤a.length),∃ (h:(0:Int)≤(2:Int)∧(2:Int)<(↑(3:Nat):Int)∧(3:Nat)≤a.length),∃ (h :
 (List.replicate (3:Nat) (0:Int)).length=(3:Nat)∧(3:Nat)=(3:Nat)),∃ (h:(3:Nat)=(3:Nat)),post ([i64.wrap (k*a.getD (Int.toNat (0:Int)) (0 :
 Int)),i64.wrap (k*a.getD (Int.toNat (1:Int)) (0:Int)),i64.wrap (k*a.getD (Int.toNat (2:Int)) (0:Int))],())
theorem Zvk (a:List Int) (k:Int) (h:Z6w a k) (w:KS.wf [kWay,.int .i64] (a,k,())):Zf8  a k (fun r=>r=Ze3 a k):=by
 have hl:a.length=3:=w.1.1
 obtain ⟨hb,k1,k2⟩:=h
 have W:∀ i:Nat,i64.wrap (k*a.getD i 0)=k*a.getD i 0:=fun i=>by
  have:=Ze5 k1 k2 (hb i).1 (hb i).2
  exact wi ⟨by omega,by omega⟩
 refine ⟨⟨by decide,by decide,by omega⟩,⟨by decide,by decide,by omega⟩,⟨by decide,by decide,by omega⟩,⟨rfl,rfl⟩,rfl,?_⟩
 show ([i64.wrap (k*a.getD 0 0),i64.wrap (k*a.getD 1 0),i64.wrap (k*a.getD 2 0)],())=Ze3 a k
 rw [W,W,W]; rfl
def Zho:=fun (a b:List Int) (post:List Int × Unit→Prop)=>∃ (h:(0:Int)≤(0:Int)∧(0:Int)<(↑(3:Nat):Int)∧(3:Nat)≤a.length),∃ (h:(0 :
 Int)≤(0:Int)∧(0:Int)<(↑(3:Nat):Int)∧(3:Nat)≤b.length),∃ (h:(0:Int)≤(1:Int)∧(1:Int)<(↑(3:Nat):Int)∧(3:Nat)≤a.length),∃ (h:(0:Int)
 ≤ (1:Int)∧(1:Int)<(↑(3:Nat):Int)∧(3:Nat)≤b.length),∃ (h:(0:Int)≤(2:Int)∧(2:Int)<(↑(3:Nat):Int)∧(3:Nat)≤a.length),∃ (h:(0:Int)≤(2
 : Int)∧(2:Int)<(↑(3:Nat):Int)∧(3:Nat)≤b.length),∃ (h:(List.replicate (3:Nat) (0:Int)).length=(3:Nat)∧(3:Nat)=(3:Nat)),∃ (h:(3:Nat)=(3 :
 Nat)),post ([i64.wrap (a.getD (Int.toNat (0:Int)) (0:Int)+b.getD (Int.toNat (0:Int)) (0:Int)),i64.wrap (a.getD (Int.toNat (1:Int)) (0:Int)+b.getD
 (Int.toNat (1:Int)) (0:Int)),i64.wrap (a.getD (Int.toNat (2:Int)) (0:Int)+b.getD (Int.toNat (2:Int)) (0:Int))],())
theorem Zy0 (a:List Int) (b:List Int) (h:Z10h a b) (w:KS.wf [kWay,kWay] (a,b,())):Zho  a b (fun r=>r=Zus a b):=by
 have hl:a.length=3:=w.1.1
 have hm:b.length=3:=w.2.1.1
 obtain ⟨ha,hb⟩:=h
 have W:∀ i:Nat,i64.wrap (a.getD i 0+b.getD i 0)=a.getD i 0+b.getD i 0:=fun i=>by
  have:=ha i; have:=hb i
  exact wi ⟨by omega,by omega⟩
 refine ⟨⟨by decide,by decide,by omega⟩,⟨by decide,by decide,by omega⟩,⟨by decide,by decide,by omega⟩,⟨by decide,by decide,by omega⟩,⟨by decide,by decide,by omega⟩,⟨by decide,by decide,by omega⟩,⟨rfl,rfl⟩,rfl,?_⟩
 show ([i64.wrap (a.getD 0 0+b.getD 0 0),i64.wrap (a.getD 1 0+b.getD 1 0),i64.wrap (a.getD 2 0+b.getD 2 0)],())=Zus a b
 rw [W,W,W]; rfl
def Zjd:=fun (a b:List Int) (post:Int × Unit→Prop)=>∃ (h:(0:Int)≤(0:Int)∧(0:Int)<(↑(3:Nat):Int)∧(3:Nat)≤a.length),∃ (h:(0:Int) ≤
 (0:Int)∧(0:Int)<(↑(3:Nat):Int)∧(3:Nat)≤b.length),∃ (h:(0:Int)≤(1:Int)∧(1:Int)<(↑(3:Nat):Int)∧(3:Nat)≤a.length),∃ (h:(0:Int)≤(1 :
 Int)∧(1:Int)<(↑(3:Nat):Int)∧(3:Nat)≤b.length),∃ (h:(0:Int)≤(2:Int)∧(2:Int)<(↑(3:Nat):Int)∧(3:Nat)≤a.length),∃ (h:(0:Int)≤(2:Int)
 ∧ (2:Int)<(↑(3:Nat):Int)∧(3:Nat)≤b.length),post (i64.wrap (i64.wrap (i64.wrap (a.getD (Int.toNat (0:Int)) (0:Int)*b.getD (Int.toNat (0
 : Int)) (0:Int))+i64.wrap (a.getD (Int.toNat (1:Int)) (0:Int)*b.getD (Int.toNat (1:Int)) (0:Int)))+i64.wrap (a.getD (Int.toNat (2:Int)) (0:Int)
 * b.getD (Int.toNat (2:Int)) (0:Int))),())
theorem Z11z (a:List Int) (b:List Int) (h:WDot a b) (w:KS.wf [kWay,kWay] (a,b,())):Zjd  a b (fun r=>r=dotR a b):=by
 have hl:a.length=3:=w.1.1
 have hm:b.length=3:=w.2.1.1
 obtain ⟨ha,hb⟩:=h
 have M:∀ i:Nat,-(1048576*1048576)≤a.getD i 0*b.getD i 0∧a.getD i 0*b.getD i 0≤1048576*1048576:=fun i=>Ze5 (ha i).1 (ha i).2 (hb i).1 (hb i).2
 have m0:=M 0
 have m1:=M 1
 have m2:=M 2
 refine ⟨⟨by decide,by decide,by omega⟩,⟨by decide,by decide,by omega⟩,⟨by decide,by decide,by omega⟩,⟨by decide,by decide,by omega⟩,⟨by decide,by decide,by omega⟩,⟨by decide,by decide,by omega⟩,?_⟩
 show (i64.wrap (i64.wrap (i64.wrap (a.getD 0 0*b.getD 0 0)+i64.wrap (a.getD 1 0*b.getD 1 0))+i64.wrap (a.getD 2 0*b.getD 2 0)),())=dotR a b
 rw [wi (x:=a.getD 0 0*b.getD 0 0) ⟨by omega,by omega⟩,wi (x:=a.getD 1 0*b.getD 1 0) ⟨by omega,by omega⟩,wi (x:=a.getD 2 0*b.getD 2 0) ⟨by omega,by omega⟩,wi (x:=a.getD 0 0*b.getD 0 0+a.getD 1 0*b.getD 1 0) ⟨by omega,by omega⟩,wi ⟨by omega,by omega⟩]
 rfl
def Zf9:=fun (f:List (List Int)) (s:Int) (post:List Int × Unit→Prop)=>∀ a,a=(s==(0:Int))→Br a (∃ (h:(0:Int)≤(1:Int)∧(1:Int)<(↑(3 :
 Nat):Int)∧(3:Nat)≤f.length),∃ (h:(List.replicate (3:Nat) (0:Int)).length=(3:Nat)∧List.length (f.getD (Int.toNat (1:Int)) (K.arr (3:Nat) (K.int
 i64)).dflt)=(3:Nat)),∃ (h:List.length (f.getD (Int.toNat (1:Int)) (K.arr (3:Nat) (K.int i64)).dflt)=(3:Nat)),post (f.getD (Int.toNat (1:Int))
 (K.arr (3:Nat) (K.int i64)).dflt,())) (∀ a,a=(s==(1:Int))→Br a (∃ (h:(0:Int)≤(2:Int)∧(2:Int)<(↑(3:Nat):Int)∧(3:Nat)≤f.length),∃ (h :
 (List.replicate (3:Nat) (0:Int)).length=(3:Nat)∧List.length (f.getD (Int.toNat (2:Int)) (K.arr (3:Nat) (K.int i64)).dflt)=(3:Nat)),∃ (h:List.length
 (f.getD (Int.toNat (2:Int)) (K.arr (3:Nat) (K.int i64)).dflt)=(3:Nat)),post (f.getD (Int.toNat (2:Int)) (K.arr (3:Nat) (K.int i64)).dflt,())) (∀ a,a
 = (s==(2:Int))→Br a (∃ (h:(0:Int)≤(1:Int)∧(1:Int)<(↑(3:Nat):Int)∧(3:Nat)≤f.length),∃ (h:Z6w (f.getD (Int.toNat (1:Int)) (K.arr (3:Nat)
 (K.int i64)).dflt) (-1:Int)),∀ a,a=Ze3 (f.getD (Int.toNat (1:Int)) (K.arr (3:Nat) (K.int i64)).dflt) (-1:Int)→∃ (h:(List.replicate (3:Nat) (0
 : Int)).length=(3:Nat)∧a.1.length=(3:Nat)),∃ (h:a.1.length=(3:Nat)),post (a.1,())) (∃ (h:(0:Int)≤(2:Int)∧(2:Int)<(↑(3:Nat):Int)∧(3:Nat) ≤
 f.length),∃ (h:Z6w (f.getD (Int.toNat (2:Int)) (K.arr (3:Nat) (K.int i64)).dflt) (-1:Int)),∀ a,a=Ze3 (f.getD (Int.toNat (2:Int)) (K.arr (3:Nat)
 (K.int i64)).dflt) (-1:Int)→∃ (h:(List.replicate (3:Nat) (0:Int)).length=(3:Nat)∧a.1.length=(3:Nat)),∃ (h:a.1.length=(3:Nat)),post (a.1,()))))
theorem Zvl (f:List (List Int)) (s:Int) (h:WOut f s) (w:KS.wf [Z1mn,.int .i64] (f,s,())):Zf9  f s (fun r=>r=outR f s):=by
 have hl:f.length=3:=w.1.1
 have hm:∀ i,(Z29 f i).length=3:=fun i=>by
  unfold Z29
  rcases Nat.lt_or_ge i f.length with g | g
  ·exact (w.1.2 _ (Zu g [0,0,0])).1
  ·rw [List.getD_eq_getElem?_getD,List.getElem?_eq_none g]; rfl
 obtain ⟨h1,h2⟩:=h
 have t1:Z6w (Z29 f 1) (-1):=⟨h1,by decide,by decide⟩
 have t2:Z6w (Z29 f 2) (-1):=⟨h2,by decide,by decide⟩
 rintro _ rfl
 refine Br.intro (fun e=>?_) fun e=>?_
 ·have e:s=0:=beq_iff_eq.1 e
  exact ⟨⟨by decide,by decide,by omega⟩,⟨rfl,hm 1⟩,hm 1,congrArg r1 (by unfold outF; rw [if_pos e]; rfl)⟩
 have e:¬ s=0:=fun q=>by rw [q] at e; cases e
 rintro _ rfl
 refine Br.intro (fun g=>?_) fun g=>?_
 ·have g:s=1:=beq_iff_eq.1 g
  exact ⟨⟨by decide,by decide,by omega⟩,⟨rfl,hm 2⟩,hm 2,congrArg r1 (by unfold outF; rw [if_neg e,if_pos g]; rfl)⟩
 have g:¬ s=1:=fun q=>by rw [q] at g; cases g
 rintro _ rfl
 refine Br.intro (fun j=>?_) fun j=>?_
 ·have j:s=2:=beq_iff_eq.1 j
  refine ⟨⟨by decide,by decide,by omega⟩,t1,?_⟩
  rintro _ rfl
  exact ⟨⟨rfl,rfl⟩,rfl,congrArg r1 (by unfold outF; rw [if_neg e,if_neg g,if_pos j]; rfl)⟩
 have j:¬ s=2:=fun q=>by rw [q] at j; cases j
 refine ⟨⟨by decide,by decide,by omega⟩,t2,?_⟩
 rintro _ rfl
 exact ⟨⟨rfl,rfl⟩,rfl,congrArg r1 (by unfold outF; rw [if_neg e,if_neg g,if_neg j]; rfl)⟩
def Zje (ty158:Nat) (c:List Int):List HObj:=[HObj.row Md.rw ty158 (K.int i64) c]
def Zld:=fun (ty158:Nat) (c:List Int) (post:Int × Unit→Prop)=>HS (Zje ty158 c)∧∃ (I:Int × Unit→Unit→Prop),∃ (μ:Int × Unit→Unit →
 Nat),I ((0:Int),()) ()∧∀ (x:Int × Unit) (y:Unit),I x y→∀ a,a=decide (x.1<(6:Int))→Br a (∃ (h:(0:Int)≤x.1∧x.1<(↑(6:Nat):Int)),∃ (h:(0:Int)
 ≤ (0:Int)∧(0:Int)<(↑(3:Nat):Int)),∃ (h:c.length=(3:Nat)),∀ a,a=eqL (List.getD (Zm.getD x.1.toNat (K.arr (3:Nat) (K.arr (3:Nat) (K.int
 i64))).dflt) (Int.toNat (0:Int)) (K.arr (3:Nat) (K.int i64)).dflt) c→Br a (post (x.1,())) (HS (Zje ty158 c)∧I (i64.wrap (x.1+(1 :
 Int)),()) ()∧μ (i64.wrap (x.1+(1:Int)),()) ()<μ x y)) (post ((-1:Int),()))
theorem Z158 (ty0:Nat) (c:List Int) (w:KS.wf [kWay] (c,())):Zld ty0 c (fun r=>r=Z14o c):=by
 have hl:c.length=3:=w.1.1
 refine ⟨rfl,fun x _=>∃ k:Nat,x.1=k∧k≤6∧Z4q c=Zdy (fun fr=>decide (Z29 fr 0=c)) k (Zm.drop k),fun x _=>6 - x.1.toNat,⟨0,rfl,by omega,rfl⟩,?_⟩
 rintro ⟨_,⟨⟩⟩ _ ⟨k,rfl,hk,hi⟩
 dsimp only
 rintro _ rfl
 refine Br.intro (fun e=>?_) fun e=>?_
 ·have e:k<6:=by have e:(k:Int)<6:=of_decide_eq_true e; omega
  refine ⟨⟨by omega,by show (k:Int)<6; omega⟩,⟨by decide,by decide⟩,hl,?_⟩
  rw [Ziw (l:=Zm) (i:=k) e [[0,0,0],[0,0,0],[0,0,0]],Zkn] at hi
  rw [Int.toNat_natCast,Zz e (by omega)]
  intro z hz
  have hz:z=decide (Z29 (Zm.getD k [[0,0,0],[0,0,0],[0,0,0]]) 0=c):=hz
  rw [hz]
  refine Br.intro (fun g=>?_) fun g=>?_
  ·rw [if_pos g] at hi
   exact congrArg r1 hi.symm
  ·rw [if_neg (by rw [g]; decide)] at hi
   exact ⟨rfl,⟨k+1,rfl,by omega,hi⟩,by omega⟩
 ·have e:k=6:=by have e:¬ (k:Int)<6:=of_decide_eq_false e; omega
  subst e
  exact congrArg r1 (by rw [hi]; rfl)
def Zss:=fun (n f i j:Int) (post:Int × Unit→Prop)=>∃ (h:True),∀ a,a=(Z10a n).1→Br (!a) (post ((-1:Int),())) (∀ a,a=decide (f<(0:Int))→Br a
 (post ((-1:Int),())) (∀ a,a=decide (f≥(6:Int))→Br a (post ((-1:Int),())) (∀ a,a=decide (i<(0:Int))→Br a (post ((-1:Int),())) (∀ a,a=decide (i≥n) →
 Br a (post ((-1:Int),())) (∀ a,a=decide (j<(0:Int))→Br a (post ((-1:Int),())) (∀ a,a=decide (j≥n)→Br a (post ((-1:Int),())) (post (i64.wrap
 (i64.wrap (i64.wrap (i64.wrap (f*n)+j)*n)+i),()))))))))
theorem Z1el (n:Int) (f:Int) (i:Int) (j:Int) (h:IIII n f i j):Zss  n f i j (fun r=>r=Zut n f i j):=by
 obtain ⟨hn,hf,hi,hj⟩:=h
 have no:Z5h n f i j=false→((-1:Int),())=Zut n f i j:=fun q=>congrArg r1 (by unfold Z24; rw [if_neg (by rw [q]; decide)])
 have ok:∀ p,(Z1u n&&decide (0≤f)&&decide (f<6)&&decide (0≤i)&&decide (i<n)&&decide (0≤j)&&decide (j<n))=p→Z5h n f i j=p:=fun p q=>q
 refine ⟨trivial,?_⟩
 intro g hg
 have hg:g=Z1u n:=hg
 rw [hg]
 refine Br.intro (fun e=>no (ok _ ?_)) fun e=>?_
 ·have e:Z1u n=false:=by simpa using e
  rw [e]; rfl
 have e:Z1u n=true:=by simpa using e
 rintro _ rfl
 refine Br.intro (fun q=>no (ok _ ?_)) fun q=>?_
 ·rw [decide_eq_false (p:=0≤f) (by have:=of_decide_eq_true q; omega)]; simp
 have q1:=of_decide_eq_false q
 rintro _ rfl
 refine Br.intro (fun q=>no (ok _ ?_)) fun q=>?_
 ·rw [decide_eq_false (p:=f<6) (by have:=of_decide_eq_true q; omega)]; simp
 have q2:=of_decide_eq_false q
 rintro _ rfl
 refine Br.intro (fun q=>no (ok _ ?_)) fun q=>?_
 ·rw [decide_eq_false (p:=0≤i) (by have:=of_decide_eq_true q; omega)]; simp
 have q3:=of_decide_eq_false q
 rintro _ rfl
 refine Br.intro (fun q=>no (ok _ ?_)) fun q=>?_
 ·rw [decide_eq_false (p:=i<n) (by have:=of_decide_eq_true q; omega)]; simp
 have q4:=of_decide_eq_false q
 rintro _ rfl
 refine Br.intro (fun q=>no (ok _ ?_)) fun q=>?_
 ·rw [decide_eq_false (p:=0≤j) (by have:=of_decide_eq_true q; omega)]; simp
 have q5:=of_decide_eq_false q
 rintro _ rfl
 refine Br.intro (fun q=>no (ok _ ?_)) fun q=>?_
 ·rw [decide_eq_false (p:=j<n) (by have:=of_decide_eq_true q; omega)]; simp
 have q6:=of_decide_eq_false q
 have hok:Z5h n f i j=true:=by
  unfold Z5h
  rw [e,decide_eq_true (p:=0≤f) (by omega),decide_eq_true (p:=f<6) (by omega),decide_eq_true (p:=0≤i) (by omega),decide_eq_true (p:=i<n) (by omega),decide_eq_true (p:=0≤j) (by omega),decide_eq_true (p:=j<n) (by omega)]; rfl
 obtain ⟨r0,r1',n1,n2⟩:=Znr hok
 have hv:Z24 n f i j=(f*n+j)*n+i:=by unfold Z24; rw [if_pos hok]
 rw [hv] at r0 r1'
 have sq:=Zur n1 n2
 have b1:0≤f*n:=Int.mul_nonneg (by omega) (by omega)
 have b2:f*n≤5*n:=Int.mul_le_mul_of_nonneg_right (by omega) (by omega)
 have b3:0≤(f*n+j)*n:=Int.mul_nonneg (by omega) (by omega)
 rw [wi (x:=f*n) ⟨by omega,by omega⟩,wi (x:=f*n+j) ⟨by omega,by omega⟩,wi (x:=(f*n+j)*n) ⟨by omega,by omega⟩,wi (x:=(f*n+j)*n+i) ⟨by omega,by omega⟩]
 exact congrArg r1 hv.symm
def Zci:=fun (n f i j:Int) (post:List Int × Unit→Prop)=>∃ (h:(0:Int)≤f∧f<(↑(6:Nat):Int)),∃ (h:(List.replicate (3:Nat) (K.arr (3:Nat) (K.int
 i64)).dflt).length=(3:Nat)∧List.length (Zm.getD f.toNat (K.arr (3:Nat) (K.arr (3:Nat) (K.int i64))).dflt)=(3:Nat)),∃ (h:(0:Int)≤(0:Int)
 ∧ (0:Int)<(↑(3:Nat):Int)∧(3:Nat)≤List.length (Zm.getD f.toNat (K.arr (3:Nat) (K.arr (3:Nat) (K.int i64))).dflt)),∃ (h:Z6w (List.getD
 (Zm.getD f.toNat (K.arr (3:Nat) (K.arr (3:Nat) (K.int i64))).dflt) (Int.toNat (0:Int)) (K.arr (3:Nat) (K.int i64)).dflt) n),∀ a,a=Ze3
 (List.getD (Zm.getD f.toNat (K.arr (3:Nat) (K.arr (3:Nat) (K.int i64))).dflt) (Int.toNat (0:Int)) (K.arr (3:Nat) (K.int i64)).dflt) n→∃ (h:(0 :
 Int)≤(1:Int)∧(1:Int)<(↑(3:Nat):Int)∧(3:Nat)≤List.length (Zm.getD f.toNat (K.arr (3:Nat) (K.arr (3:Nat) (K.int i64))).dflt)),∃ (h:Z6w
 (List.getD (Zm.getD f.toNat (K.arr (3:Nat) (K.arr (3:Nat) (K.int i64))).dflt) (Int.toNat (1:Int)) (K.arr (3:Nat) (K.int i64)).dflt) (i64.wrap
 (i64.wrap (i64.wrap ((2:Int)*i)+(1:Int)) - n))),∀ a_1,a_1=Ze3 (List.getD (Zm.getD f.toNat (K.arr (3:Nat) (K.arr (3:Nat) (K.int
 i64))).dflt) (Int.toNat (1:Int)) (K.arr (3:Nat) (K.int i64)).dflt) (i64.wrap (i64.wrap (i64.wrap ((2:Int)*i)+(1:Int)) - n))→∃
 (h:Z10h a.1 a_1.1),∀ a_2,a_2=Zus a.1 a_1.1→∃ (h:(0:Int)≤(2:Int)∧(2:Int)<(↑(3:Nat):Int)∧(3:Nat)≤List.length (Zm.getD f.toNat (K.arr (3 :
 Nat) (K.arr (3:Nat) (K.int i64))).dflt)),∃ (h:Z6w (List.getD (Zm.getD f.toNat (K.arr (3:Nat) (K.arr (3:Nat) (K.int i64))).dflt) (Int.toNat (2 :
 Int)) (K.arr (3:Nat) (K.int i64)).dflt) (i64.wrap (i64.wrap (i64.wrap ((2:Int)*j)+(1:Int)) - n))),∀ a,a=Ze3 (List.getD
 (Zm.getD f.toNat (K.arr (3:Nat) (K.arr (3:Nat) (K.int i64))).dflt) (Int.toNat (2:Int)) (K.arr (3:Nat) (K.int i64)).dflt) (i64.wrap
 (i64.wrap (i64.wrap ((2:Int)*j)+(1:Int)) - n))→∃ (h:Z10h a_2.1 a.1),∀ a_3,a_3=Zus a_2.1 a.1→∃ (h:(List.replicate (3:Nat) (0:Int)).length
 = (3:Nat)∧a_3.1.length=(3:Nat)),∃ (h:a_3.1.length=(3:Nat)),post (a_3.1,())
theorem Z159 (n:Int) (f:Int) (i:Int) (j:Int) (h:Z2t n f i j):Zci  n f i j (fun r=>r=Zxs n f i j):=by
 have hh:=h
 obtain ⟨n1,n2,f0,f5,i0,i1,j0,j1⟩:=h
 have fl:(Zm.getD f.toNat (K.arr (3:Nat) (K.arr (3:Nat) (K.int i64))).dflt).length=3:=Z17q f0 f5
 have b:=Z5u f0 f5
 have t0:Z6w (Z29 (Zy f) 0) n:=⟨(b 0).mono (by decide),by omega,by omega⟩
 have w1:i64.wrap (i64.wrap (i64.wrap (2*i)+1) - n)=2*i+1 - n:=by
  rw [wi (x:=2*i) ⟨by omega,by omega⟩,wi (x:=2*i+1) ⟨by omega,by omega⟩,wi ⟨by omega,by omega⟩]
 have w2:i64.wrap (i64.wrap (i64.wrap (2*j)+1) - n)=2*j+1 - n:=by
  rw [wi (x:=2*j) ⟨by omega,by omega⟩,wi (x:=2*j+1) ⟨by omega,by omega⟩,wi ⟨by omega,by omega⟩]
 unfold Zci
 rw [w1,w2]
 have t1:Z6w (Z29 (Zy f) 1) (2*i+1 - n):=⟨(b 1).mono (by decide),by omega,by omega⟩
 have t2:Z6w (Z29 (Zy f) 2) (2*j+1 - n):=⟨(b 2).mono (by decide),by omega,by omega⟩
 have c0:=Z7o (q:=32) (b 0) (k:=n) (by omega) (by omega)
 have c1:=Z7o (q:=32) (b 1) (k:=2*i+1 - n) (by omega) (by omega)
 have c2:=Z7o (q:=32) (b 2) (k:=2*j+1 - n) (by omega) (by omega)
 have p1:=Zuu c0 c1
 refine ⟨⟨f0,by show f<6; omega⟩,⟨rfl,fl⟩,⟨by decide,by decide,by omega⟩,t0,?_⟩
 rintro _ rfl
 refine ⟨⟨by decide,by decide,by omega⟩,t1,?_⟩
 rintro _ rfl
 refine ⟨⟨c0.mono (by decide),c1.mono (by decide)⟩,?_⟩
 rintro _ rfl
 refine ⟨⟨by decide,by decide,by omega⟩,t2,?_⟩
 rintro _ rfl
 refine ⟨⟨p1.mono (by decide),c2.mono (by decide)⟩,?_⟩
 rintro _ rfl
 exact ⟨⟨rfl,rfl⟩,rfl,rfl⟩
def Zos:=fun (n a:Int) (post:Int × Unit→Prop)=>∃ (h:(2:Int)≠(0:Int)),post (imin (imax (i64.wrap ((i64.wrap (i64.wrap (a+n) -
 (1:Int))).tdiv (2:Int))) (0:Int)) (i64.wrap (n - 1)),())
theorem Z19p (n:Int) (a:Int) (h:Z10j n a):Zos  n a (fun r=>r=Z10i n a):=by
 obtain ⟨n1,n2,a1,a2⟩:=h
 have w1:i64.wrap (i64.wrap (a+n) - 1)=a+n - 1:=by
  rw [wi (x:=a+n) ⟨by omega,by omega⟩,wi ⟨by omega,by omega⟩]
 have w2:i64.wrap (n - 1)=n - 1:=wi ⟨by omega,by omega⟩
 have w3:i64.wrap (Int.tdiv (a+n - 1) 2)=Int.tdiv (a+n - 1) 2:=by
  have:(Int.tdiv (a+n - 1) 2).natAbs≤(a+n - 1).natAbs:=by rw [Int.natAbs_tdiv]; exact Nat.div_le_self _ _
  exact wi ⟨by omega,by omega⟩
 exact ⟨by decide,by rw [w1,w2,w3]; rfl⟩
end Go.Lift

namespace Go.Lift
open Go.Proofs
def Zwm:Cx:=⟨Z1o Z1w,Z1t [(102,Zet)],SqG⟩
theorem Zle:CxOk Tryz.prog Zwm:=⟨Zl Zv,Zq ⟨Zoq,trivial⟩⟩
def Zeh:Con:=Con.nam [kWay,.int .i64] [.snap kWay] (fun x=>Z6w x.1 x.2.1) (fun x=>Ze3 x.1 x.2.1)
theorem Zst:SqH Zeh 177 :=
 nP Zle Z3 Zb nHn Tryz.func177 (fun x p=>Zf8  x.1 x.2.1 p) fun x h w=>Zvk  x.1 x.2.1 h w
def Zwn:Cx:=addC 177 Zeh Zwm
theorem Zlf:CxOk Tryz.prog Zwn:=Zk Zle Zst
def Z8r:Con:=Con.nam [kWay,kWay] [.snap kWay] (fun x=>Z10h x.1 x.2.1) (fun x=>Zus x.1 x.2.1)
theorem Zfa:SqH Z8r 109 :=
 nP Zlf Z3 Zb nHn Tryz.func109 (fun x p=>Zho  x.1 x.2.1 p) fun x h w=>Zy0  x.1 x.2.1 h w
def Z1gi:Cx:=addC 109 Z8r Zwn
theorem Z4u:CxOk Tryz.prog Z1gi:=Zk Zlf Zfa
def Zhp:Con:=Con.nam [kWay,kWay] [.snap (.int .i64)] (fun x=>WDot x.1 x.2.1) (fun x=>dotR x.1 x.2.1)
theorem Zy1:SqH Zhp 111 :=
 nP Z4u Z3 Zb nHn Tryz.func111 (fun x p=>Zjd  x.1 x.2.1 p) fun x h w=>Z11z  x.1 x.2.1 h w
def Zei:Con:=Con.nam [Z1mn,.int .i64] [.snap kWay] (fun x=>WOut x.1 x.2.1) (fun x=>outR x.1 x.2.1)
theorem Zsu:SqH Zei 107 :=
 nP Z4u Z3 Zb nHn Tryz.func107 (fun x p=>Zf9  x.1 x.2.1 p) fun x h w=>Zvl  x.1 x.2.1 h w
def Zjf:Con:=Con.nam [kWay] [.snap (.int .i64)] (fun _=>True) (fun x=>Z14o x.1)
theorem Z120:SqH Zjf 106 :=
 nP Z4u Z3 Zb ({ loops:=Zw [(2,{ ls:=[(.slot 4,.data (.int .i64))],os:=[] })],joins:=fun _=>none,named:=true }) Tryz.func106 (fun x p=>Zld 158 x.1 p) fun x _ w=>Z158 158 x.1 w
def Zot:Con:=Con.nam [.int .i64,.int .i64,.int .i64,.int .i64] [.snap (.int .i64)] (fun x=>IIII x.1 x.2.1 x.2.2.1 x.2.2.2.1) (fun x=>Zut x.1 x.2.1 x.2.2.1 x.2.2.2.1)
theorem Z19q:SqH Zot 105 :=
 nP Z4u Z3 Zb nHn Tryz.func105 (fun x p=>Zss  x.1 x.2.1 x.2.2.1 x.2.2.2.1 p) fun x h _=>Z1el  x.1 x.2.1 x.2.2.1 x.2.2.2.1 h
def Zjg:Con:=Con.nam [.int .i64,.int .i64,.int .i64,.int .i64] [.snap kWay] (fun x=>Z2t x.1 x.2.1 x.2.2.1 x.2.2.2.1) (fun x=>Zxs x.1 x.2.1 x.2.2.1 x.2.2.2.1)
theorem Z121:SqH Zjg 108 :=
 nP Z4u Z3 Zb nHn Tryz.func108 (fun x p=>Zci  x.1 x.2.1 x.2.2.1 x.2.2.2.1 p) fun x h _=>Z159  x.1 x.2.1 x.2.2.1 x.2.2.2.1 h
def Zlg:Con:=Con.nam [.int .i64,.int .i64] [.snap (.int .i64)] (fun x=>Z10j x.1 x.2.1) (fun x=>Z10i x.1 x.2.1)
theorem Z15a:SqH Zlg 110 :=
 nP Z4u Z3 Zb nHn Tryz.func110 (fun x p=>Zos  x.1 x.2.1 p) fun x h _=>Z19p  x.1 x.2.1 h
end Go.Lift

namespace Go.Lift
open Go.Proofs
def Z1em:Cx:=⟨Z1o Z1w,Z1t [(104,Z8n),(105,Zot),(107,Zei),(106,Zjf),(108,Zjg),(109,Z8r),(111,Zhp),(110,Zlg)],SqG⟩
theorem Z122:CxOk Tryz.prog Z1em:=⟨Zl Zv,Zq ⟨Zch,Z19q,Zsu,Z120,Z121,Zfa,Zy1,Z15a,trivial⟩⟩
def Zb3:Con:=Con.nam [.int .i64,.int .i64,.int .i64] [.snap (.int .i64),.snap (.int .i64)] (fun x=>III x.1 x.2.1 x.2.2.1) (fun x=>Z56 x.1 x.2.1 x.2.2.1)
theorem Zjh:SqH Zb3 51 :=
 nP Z122 Z3 Zb ({ loops:=Zw [(13,{ ls:=[(.slot 98,.data (.int .i64))],os:=[] })],joins:=fun _=>none,named:=true }) Tryz.func51 (fun x p=>Zlc 154 160 158 x.1 x.2.1 x.2.2.1 p) fun x h _=>Z157 154 160 158 x.1 x.2.1 x.2.2.1 h
end Go.Lift

namespace Go.Lift
def Zou:=fun (a b:Int) (post:Nat × Unit→Prop)=>∀ (a_1:Nat),FRes f64 (f64.format.div (f64.nearest a)
 (f64.nearest b)) a_1→post (a_1,())
theorem Z19r (a:Int) (b:Int) (h:Zh9 a b):Zou  a b (fun r=>r=Z3p a b):=by
 intro r hr
 exact congrArg r1 (Z1ht h.1 h.2.1 h.2.2 hr)
def Z15b (ty166:Nat) (ty236:Nat) (s:Nat) (t:Nat):List HObj:=[HObj.box Md.rw ty166 [SV.val (Go.Value.float f64 (0:Nat)),SV.val (Go.Value.float f64 (0:Nat)),SV.val (Go.Value.float f64 (0:Nat))],HObj.row Md.rw ty236 (K.flt f64) ((List.replicate (3:Nat) (0:Nat)).set (Int.toNat (0:Int)) (Zp ([(4607182418800017408:Nat),s,t].getD (Int.toNat (0:Int)) (0:Nat))).1)]
def Z15c (ty166:Nat) (ty236:Nat) (s:Nat) (t:Nat):List HObj:=[HObj.box Md.rw ty166 [SV.val (Go.Value.float f64 (0:Nat)),SV.val (Go.Value.float f64 (0:Nat)),SV.val (Go.Value.float f64 (0:Nat))],HObj.row Md.rw ty236 (K.flt f64) ((List.replicate (3:Nat) (0:Nat)).set (Int.toNat (0:Int)) (Zp (Go.Op.negFloat f64 ([(4607182418800017408:Nat),s,t].getD (Int.toNat (0:Int)) (0:Nat)))).1)]
def Z15d (ty166:Nat) (ty236:Nat):List HObj:=[HObj.box Md.rw ty166 [SV.val (Go.Value.float f64 (0:Nat)),SV.val (Go.Value.float f64 (0:Nat)),SV.val (Go.Value.float f64 (0:Nat))],HObj.row Md.rw ty236 (K.flt f64) (List.replicate (3:Nat) (0:Nat))]
def Z15e (ty166:Nat) (ty236:Nat) (y:List Nat × Unit) (s:Nat) (t:Nat):List HObj:=[HObj.box Md.rw ty166 [SV.val (Go.Value.float f64 (0:Nat)),SV.val (Go.Value.float f64 (0:Nat)),SV.val (Go.Value.float f64 (0:Nat))],HObj.row Md.rw ty236 (K.flt f64) (y.1.set (Int.toNat (0:Int)) (Zp ([(4607182418800017408:Nat),s,t].getD (i64.wrap ((0:Int)+(1:Int))).toNat (0:Nat))).1)]
def Z15f (ty166:Nat) (ty236:Nat) (y:List Nat × Unit) (s:Nat) (t:Nat):List HObj:=[HObj.box Md.rw ty166 [SV.val (Go.Value.float f64 (0:Nat)),SV.val (Go.Value.float f64 (0:Nat)),SV.val (Go.Value.float f64 (0:Nat))],HObj.row Md.rw ty236 (K.flt f64) (y.1.set (Int.toNat (0:Int)) (Zp (Go.Op.negFloat f64 ([(4607182418800017408:Nat),s,t].getD (i64.wrap ((0:Int)+(1:Int))).toNat (0:Nat)))).1)]
def Z3a (ty166:Nat) (ty236:Nat) (y:List Nat × Unit):List HObj:=[HObj.box Md.rw ty166 [SV.val (Go.Value.float f64 (0:Nat)),SV.val (Go.Value.float f64 (0:Nat)),SV.val (Go.Value.float f64 (0:Nat))],HObj.row Md.rw ty236 (K.flt f64) y.1]
def Z15g (ty166:Nat) (ty236:Nat) (y:List Nat × Unit) (s:Nat) (t:Nat):List HObj:=[HObj.box Md.rw ty166 [SV.val (Go.Value.float f64 (0:Nat)),SV.val (Go.Value.float f64 (0:Nat)),SV.val (Go.Value.float f64 (0:Nat))],HObj.row Md.rw ty236 (K.flt f64) (y.1.set (Int.toNat (0:Int)) (Zp ([(4607182418800017408:Nat),s,t].getD (i64.wrap (i64.wrap ((0:Int)+(1:Int))+(1:Int))).toNat (0:Nat))).1)]
def Z15h (ty166:Nat) (ty236:Nat) (y:List Nat × Unit) (s:Nat) (t:Nat):List HObj:=[HObj.box Md.rw ty166 [SV.val (Go.Value.float f64 (0:Nat)),SV.val (Go.Value.float f64 (0:Nat)),SV.val (Go.Value.float f64 (0:Nat))],HObj.row Md.rw ty236 (K.flt f64) (y.1.set (Int.toNat (0:Int)) (Zp (Go.Op.negFloat f64 ([(4607182418800017408:Nat),s,t].getD (i64.wrap (i64.wrap ((0:Int)+(1:Int))+(1:Int))).toNat (0:Nat)))).1)]
def Z15i (ty166:Nat) (ty236:Nat) (y:List Nat × Unit) (s:Nat) (t:Nat):List HObj:=[HObj.box Md.rw ty166 [SV.val (Go.Value.float f64 (0:Nat)),SV.val (Go.Value.float f64 (0:Nat)),SV.val (Go.Value.float f64 (0:Nat))],HObj.row Md.rw ty236 (K.flt f64) (y.1.set (i64.wrap ((0:Int)+(1:Int))).toNat (Zp ([(4607182418800017408:Nat),s,t].getD (Int.toNat (0:Int)) (0:Nat))).1)]
def Z15j (ty166:Nat) (ty236:Nat) (y:List Nat × Unit) (s:Nat) (t:Nat):List HObj:=[HObj.box Md.rw ty166 [SV.val (Go.Value.float f64 (0:Nat)),SV.val (Go.Value.float f64 (0:Nat)),SV.val (Go.Value.float f64 (0:Nat))],HObj.row Md.rw ty236 (K.flt f64) (y.1.set (i64.wrap ((0:Int)+(1:Int))).toNat (Zp (Go.Op.negFloat f64 ([(4607182418800017408:Nat),s,t].getD (Int.toNat (0:Int)) (0:Nat)))).1)]
def Z123 (ty166:Nat) (ty236:Nat) (y:List Nat × Unit) (s:Nat) (t:Nat):List HObj:=[HObj.box Md.rw ty166 [SV.val (Go.Value.float f64 (0:Nat)),SV.val (Go.Value.float f64 (0:Nat)),SV.val (Go.Value.float f64 (0:Nat))],HObj.row Md.rw ty236 (K.flt f64) (y.1.set (i64.wrap ((0:Int)+(1:Int))).toNat (Zp ([(4607182418800017408:Nat),s,t].getD (i64.wrap ((0:Int)+(1:Int))).toNat (0:Nat))).1)]
def Z124 (ty166:Nat) (ty236:Nat) (y:List Nat × Unit) (s:Nat) (t:Nat):List HObj:=[HObj.box Md.rw ty166 [SV.val (Go.Value.float f64 (0:Nat)),SV.val (Go.Value.float f64 (0:Nat)),SV.val (Go.Value.float f64 (0:Nat))],HObj.row Md.rw ty236 (K.flt f64) (y.1.set (i64.wrap ((0:Int)+(1:Int))).toNat (Zp (Go.Op.negFloat f64 ([(4607182418800017408:Nat),s,t].getD (i64.wrap ((0:Int)+(1:Int))).toNat (0:Nat)))).1)]
def Z125 (ty166:Nat) (ty236:Nat) (y:List Nat × Unit) (s:Nat) (t:Nat):List HObj:=[HObj.box Md.rw ty166 [SV.val (Go.Value.float f64 (0:Nat)),SV.val (Go.Value.float f64 (0:Nat)),SV.val (Go.Value.float f64 (0:Nat))],HObj.row Md.rw ty236 (K.flt f64) (y.1.set (i64.wrap ((0:Int)+(1:Int))).toNat (Zp ([(4607182418800017408:Nat),s,t].getD (i64.wrap (i64.wrap ((0:Int)+(1:Int))+(1:Int))).toNat (0:Nat))).1)]
def Z126 (ty166:Nat) (ty236:Nat) (y:List Nat × Unit) (s:Nat) (t:Nat):List HObj:=[HObj.box Md.rw ty166 [SV.val (Go.Value.float f64 (0:Nat)),SV.val (Go.Value.float f64 (0:Nat)),SV.val (Go.Value.float f64 (0:Nat))],HObj.row Md.rw ty236 (K.flt f64) (y.1.set (i64.wrap ((0:Int)+(1:Int))).toNat (Zp (Go.Op.negFloat f64 ([(4607182418800017408:Nat),s,t].getD (i64.wrap (i64.wrap ((0:Int)+(1:Int))+(1:Int))).toNat (0:Nat)))).1)]
def Z127 (ty166:Nat) (ty236:Nat) (y:List Nat × Unit) (s:Nat) (t:Nat):List HObj:=[HObj.box Md.rw ty166 [SV.val (Go.Value.float f64 (0:Nat)),SV.val (Go.Value.float f64 (0:Nat)),SV.val (Go.Value.float f64 (0:Nat))],HObj.row Md.rw ty236 (K.flt f64) (y.1.set (i64.wrap (i64.wrap ((0:Int)+(1:Int))+(1:Int))).toNat (Zp ([(4607182418800017408:Nat),s,t].getD (Int.toNat (0:Int)) (0:Nat))).1)]
def Z128 (ty166:Nat) (ty236:Nat) (y:List Nat × Unit) (s:Nat) (t:Nat):List HObj:=[HObj.box Md.rw ty166 [SV.val (Go.Value.float f64 (0:Nat)),SV.val (Go.Value.float f64 (0:Nat)),SV.val (Go.Value.float f64 (0:Nat))],HObj.row Md.rw ty236 (K.flt f64) (y.1.set (i64.wrap (i64.wrap ((0:Int)+(1:Int))+(1:Int))).toNat (Zp (Go.Op.negFloat f64 ([(4607182418800017408:Nat),s,t].getD (Int.toNat (0:Int)) (0:Nat)))).1)]
def Z129 (ty166:Nat) (ty236:Nat) (y:List Nat × Unit) (s:Nat) (t:Nat):List HObj:=[HObj.box Md.rw ty166 [SV.val (Go.Value.float f64 (0:Nat)),SV.val (Go.Value.float f64 (0:Nat)),SV.val (Go.Value.float f64 (0:Nat))],HObj.row Md.rw ty236 (K.flt f64) (y.1.set (i64.wrap (i64.wrap ((0:Int)+(1:Int))+(1:Int))).toNat (Zp ([(4607182418800017408:Nat),s,t].getD (i64.wrap ((0:Int)+(1:Int))).toNat (0:Nat))).1)]
def Z12a (ty166:Nat) (ty236:Nat) (y:List Nat × Unit) (s:Nat) (t:Nat):List HObj:=[HObj.box Md.rw ty166 [SV.val (Go.Value.float f64 (0:Nat)),SV.val (Go.Value.float f64 (0:Nat)),SV.val (Go.Value.float f64 (0:Nat))],HObj.row Md.rw ty236 (K.flt f64) (y.1.set (i64.wrap (i64.wrap ((0:Int)+(1:Int))+(1:Int))).toNat (Zp (Go.Op.negFloat f64 ([(4607182418800017408:Nat),s,t].getD (i64.wrap ((0:Int)+(1:Int))).toNat (0:Nat)))).1)]
def Z12b (ty166:Nat) (ty236:Nat) (y:List Nat × Unit) (s:Nat) (t:Nat):List HObj:=[HObj.box Md.rw ty166 [SV.val (Go.Value.float f64 (0:Nat)),SV.val (Go.Value.float f64 (0:Nat)),SV.val (Go.Value.float f64 (0:Nat))],HObj.row Md.rw ty236 (K.flt f64) (y.1.set (i64.wrap (i64.wrap ((0:Int)+(1:Int))+(1:Int))).toNat (Zp ([(4607182418800017408:Nat),s,t].getD (i64.wrap (i64.wrap ((0:Int)+(1:Int))+(1:Int))).toNat (0:Nat))).1)]
def Z12c (ty166:Nat) (ty236:Nat) (y:List Nat × Unit) (s:Nat) (t:Nat):List HObj:=[HObj.box Md.rw ty166 [SV.val (Go.Value.float f64 (0:Nat)),SV.val (Go.Value.float f64 (0:Nat)),SV.val (Go.Value.float f64 (0:Nat))],HObj.row Md.rw ty236 (K.flt f64) (y.1.set (i64.wrap (i64.wrap ((0:Int)+(1:Int))+(1:Int))).toNat (Zp (Go.Op.negFloat f64 ([(4607182418800017408:Nat),s,t].getD (i64.wrap (i64.wrap ((0:Int)+(1:Int))+(1:Int))).toNat (0:Nat)))).1)]
def Zov:=fun (ty166 ty236:Nat) (f:Int) (s t:Nat) (post:(Nat × Nat × Nat) × Unit→Prop)=>∃ (post_1:Unit→List Nat × Unit→Prop),(∃ (h:(0:Int)≤(0 :
 Int)∧(0:Int)<(↑(3:Nat):Int)),∃ (h:(0:Int)≤f∧f<(↑(6:Nat):Int)),∃ (h:(0:Int)≤(0:Int)∧(0:Int)<(↑(3:Nat):Int)),∃ (h:(0:Int)≤(0 :
 Int)∧(0:Int)<(↑(3:Nat):Int)),Br (List.getD (List.getD (Zm.getD f.toNat (K.arr (3:Nat) (K.arr (3:Nat) (K.int i64))).dflt) (Int.toNat (0:Int)) (K.arr
 (3:Nat) (K.int i64)).dflt) (Int.toNat (0:Int)) (0:Int)==(1:Int)) (∃ (h:True),∃ (h:(0:Int)≤(0:Int)∧(0:Int)<(↑(3:Nat):Int)∧(3:Nat) ≤
 (List.replicate (3:Nat) (0:Nat)).length),HS (Z15b ty166 ty236 s t)∧post_1 () ((List.replicate (3:Nat) (0:Nat)).set (Int.toNat (0:Int)) (Zp
 ([(4607182418800017408:Nat),s,t].getD (Int.toNat (0:Int)) (0:Nat))).1,())) (Br (List.getD (List.getD (Zm.getD f.toNat (K.arr (3:Nat) (K.arr (3:Nat) (K.int
 i64))).dflt) (Int.toNat (0:Int)) (K.arr (3:Nat) (K.int i64)).dflt) (Int.toNat (0:Int)) (0:Int)==(-1:Int)) (∃ (h:True),∃ (h:(0:Int)≤(0:Int) ∧
 (0:Int)<(↑(3:Nat):Int)∧(3:Nat)≤(List.replicate (3:Nat) (0:Nat)).length),HS (Z15c ty166 ty236 s t)∧post_1 () ((List.replicate (3:Nat) (0 :
 Nat)).set (Int.toNat (0:Int)) (Zp (Go.Op.negFloat f64 ([(4607182418800017408:Nat),s,t].getD (Int.toNat (0:Int)) (0:Nat)))).1,())) (HS (Z15d
 ty166 ty236)∧post_1 () (List.replicate (3:Nat) (0:Nat),()))))∧∀ (x:Unit) (y:List Nat × Unit),post_1 x y→∃ (post_2:Unit→List Nat × Unit→Prop),(∃ (h:(0 :
 Int)≤i64.wrap ((0:Int)+(1:Int))∧i64.wrap ((0:Int)+(1:Int))<(↑(3:Nat):Int)),∃ (h:(0:Int)≤f∧f<(↑(6:Nat):Int)),∃ (h:(0:Int)
 ≤ i64.wrap ((0:Int)+(1:Int))∧i64.wrap ((0:Int)+(1:Int))<(↑(3:Nat):Int)),∃ (h:(0:Int)≤(0:Int)∧(0:Int)<(↑(3:Nat):Int)),Br
 (List.getD (List.getD (Zm.getD f.toNat (K.arr (3:Nat) (K.arr (3:Nat) (K.int i64))).dflt) (i64.wrap ((0:Int)+(1:Int))).toNat (K.arr (3:Nat) (K.int
 i64)).dflt) (Int.toNat (0:Int)) (0:Int)==(1:Int)) (∃ (h:True),∃ (h:(0:Int)≤(0:Int)∧(0:Int)<(↑(3:Nat):Int)∧(3:Nat)≤y.1.length),HS
 (Z15e ty166 ty236 y s t)∧post_2 () (y.1.set (Int.toNat (0:Int)) (Zp ([(4607182418800017408:Nat),s,t].getD (i64.wrap ((0:Int)+(1:Int))).toNat (0
 : Nat))).1,())) (Br (List.getD (List.getD (Zm.getD f.toNat (K.arr (3:Nat) (K.arr (3:Nat) (K.int i64))).dflt) (i64.wrap ((0:Int)+(1:Int))).toNat
 (K.arr (3:Nat) (K.int i64)).dflt) (Int.toNat (0:Int)) (0:Int)==(-1:Int)) (∃ (h:True),∃ (h:(0:Int)≤(0:Int)∧(0:Int)<(↑(3:Nat):Int)∧(3:Nat)
 ≤ y.1.length),HS (Z15f ty166 ty236 y s t)∧post_2 () (y.1.set (Int.toNat (0:Int)) (Zp (Go.Op.negFloat f64 ([(4607182418800017408:Nat),s,t].getD
 (i64.wrap ((0:Int)+(1:Int))).toNat (0:Nat)))).1,())) (HS (Z3a ty166 ty236 y)∧post_2 () (y.1,()))))∧∀ (x:Unit) (y:List Nat × Unit),post_2 x y
 → ∃ (post_3:Unit→List Nat × Unit→Prop),(∃ (h:(0:Int)≤i64.wrap (i64.wrap ((0:Int)+(1:Int))+(1:Int))∧i64.wrap (i64.wrap ((0
 : Int)+(1:Int))+(1:Int))<(↑(3:Nat):Int)),∃ (h:(0:Int)≤f∧f<(↑(6:Nat):Int)),∃ (h:(0:Int)≤i64.wrap (i64.wrap ((0:Int)+(1 :
 Int))+(1:Int))∧i64.wrap (i64.wrap ((0:Int)+(1:Int))+(1:Int))<(↑(3:Nat):Int)),∃ (h:(0:Int)≤(0:Int)∧(0:Int)<(↑(3:Nat):Int)),
 Br (List.getD (List.getD (Zm.getD f.toNat (K.arr (3:Nat) (K.arr (3:Nat) (K.int i64))).dflt) (i64.wrap (i64.wrap ((0:Int)+(1:Int))+(1 :
 Int))).toNat (K.arr (3:Nat) (K.int i64)).dflt) (Int.toNat (0:Int)) (0:Int)==(1:Int)) (∃ (h:True),∃ (h:(0:Int)≤(0:Int)∧(0:Int)<(↑(3:Nat):Int)
 ∧ (3:Nat)≤y.1.length),HS (Z15g ty166 ty236 y s t)∧post_3 () (y.1.set (Int.toNat (0:Int)) (Zp ([(4607182418800017408:Nat),s,t].getD (i64.wrap
 (i64.wrap ((0:Int)+(1:Int))+(1:Int))).toNat (0:Nat))).1,())) (Br (List.getD (List.getD (Zm.getD f.toNat (K.arr (3:Nat) (K.arr (3:Nat) (K.int
 i64))).dflt) (i64.wrap (i64.wrap ((0:Int)+(1:Int))+(1:Int))).toNat (K.arr (3:Nat) (K.int i64)).dflt) (Int.toNat (0:Int)) (0:Int) ==
 (-1:Int)) (∃ (h:True),∃ (h:(0:Int)≤(0:Int)∧(0:Int)<(↑(3:Nat):Int)∧(3:Nat)≤y.1.length),HS (Z15h ty166 ty236 y s t)∧post_3 () (y.1.set
 (Int.toNat (0:Int)) (Zp (Go.Op.negFloat f64 ([(4607182418800017408:Nat),s,t].getD (i64.wrap (i64.wrap ((0:Int)+(1:Int))+(1 :
 Int))).toNat (0:Nat)))).1,())) (HS (Z3a ty166 ty236 y)∧post_3 () (y.1,()))))∧∀ (x:Unit) (y:List Nat × Unit),post_3 x y→∃ (post_4:Unit→List Nat × Unit
 → Prop),(∃ (h:(0:Int)≤(0:Int)∧(0:Int)<(↑(3:Nat):Int)),∃ (h:(0:Int)≤f∧f<(↑(6:Nat):Int)),∃ (h:(0:Int)≤(0:Int)∧(0:Int)<(↑(3:Nat) :
 Int)),∃ (h:(0:Int)≤i64.wrap ((0:Int)+(1:Int))∧i64.wrap ((0:Int)+(1:Int))<(↑(3:Nat):Int)),Br (List.getD (List.getD (Zm.getD f.toNat
 (K.arr (3:Nat) (K.arr (3:Nat) (K.int i64))).dflt) (Int.toNat (0:Int)) (K.arr (3:Nat) (K.int i64)).dflt) (i64.wrap ((0:Int)+(1:Int))).toNat (0
 : Int)==(1:Int)) (∃ (h:True),∃ (h:(0:Int)≤i64.wrap ((0:Int)+(1:Int))∧i64.wrap ((0:Int)+(1:Int))<(↑(3:Nat):Int)∧(3:Nat) ≤
 y.1.length),HS (Z15i ty166 ty236 y s t)∧post_4 () (y.1.set (i64.wrap ((0:Int)+(1:Int))).toNat (Zp ([(4607182418800017408:Nat),s,t].getD
 (Int.toNat (0:Int)) (0:Nat))).1,())) (Br (List.getD (List.getD (Zm.getD f.toNat (K.arr (3:Nat) (K.arr (3:Nat) (K.int i64))).dflt) (Int.toNat (0:Int))
 (K.arr (3:Nat) (K.int i64)).dflt) (i64.wrap ((0:Int)+(1:Int))).toNat (0:Int)==(-1:Int)) (∃ (h:True),∃ (h:(0:Int)≤i64.wrap ((0:Int)
 + (1:Int))∧i64.wrap ((0:Int)+(1:Int))<(↑(3:Nat):Int)∧(3:Nat)≤y.1.length),HS (Z15j ty166 ty236 y s t)∧post_4 () (y.1.set
 (i64.wrap ((0:Int)+(1:Int))).toNat (Zp (Go.Op.negFloat f64 ([(4607182418800017408:Nat),s,t].getD (Int.toNat (0:Int)) (0:Nat)))).1,())) (HS
 (Z3a ty166 ty236 y)∧post_4 () (y.1,()))))∧∀ (x:Unit) (y:List Nat × Unit),post_4 x y→∃ (post_5:Unit→List Nat × Unit→Prop),(∃ (h:(0:Int) ≤
 i64.wrap ((0:Int)+(1:Int))∧i64.wrap ((0:Int)+(1:Int))<(↑(3:Nat):Int)),∃ (h:(0:Int)≤f∧f<(↑(6:Nat):Int)),∃ (h:(0:Int) ≤
 i64.wrap ((0:Int)+(1:Int))∧i64.wrap ((0:Int)+(1:Int))<(↑(3:Nat):Int)),∃ (h:(0:Int)≤i64.wrap ((0:Int)+(1:Int)) ∧
 i64.wrap ((0:Int)+(1:Int))<(↑(3:Nat):Int)),Br (List.getD (List.getD (Zm.getD f.toNat (K.arr (3:Nat) (K.arr (3:Nat) (K.int i64))).dflt)
 (i64.wrap ((0:Int)+(1:Int))).toNat (K.arr (3:Nat) (K.int i64)).dflt) (i64.wrap ((0:Int)+(1:Int))).toNat (0:Int)==(1:Int)) (∃ (h :
 True),∃ (h:(0:Int)≤i64.wrap ((0:Int)+(1:Int))∧i64.wrap ((0:Int)+(1:Int))<(↑(3:Nat):Int)∧(3:Nat)≤y.1.length),HS (Z123
 ty166 ty236 y s t)∧post_5 () (y.1.set (i64.wrap ((0:Int)+(1:Int))).toNat (Zp ([(4607182418800017408:Nat),s,t].getD (i64.wrap ((0:Int)+(1 :
 Int))).toNat (0:Nat))).1,())) (Br (List.getD (List.getD (Zm.getD f.toNat (K.arr (3:Nat) (K.arr (3:Nat) (K.int i64))).dflt) (i64.wrap ((0:Int)+(1 :
 Int))).toNat (K.arr (3:Nat) (K.int i64)).dflt) (i64.wrap ((0:Int)+(1:Int))).toNat (0:Int)==(-1:Int)) (∃ (h:True),∃ (h:(0:Int) ≤
 i64.wrap ((0:Int)+(1:Int))∧i64.wrap ((0:Int)+(1:Int))<(↑(3:Nat):Int)∧(3:Nat)≤y.1.length),HS (Z124 ty166 ty236 y s t)∧post_5
 () (y.1.set (i64.wrap ((0:Int)+(1:Int))).toNat (Zp (Go.Op.negFloat f64 ([(4607182418800017408:Nat),s,t].getD (i64.wrap ((0:Int)+(1 :
 Int))).toNat (0:Nat)))).1,())) (HS (Z3a ty166 ty236 y)∧post_5 () (y.1,()))))∧∀ (x:Unit) (y:List Nat × Unit),post_5 x y→∃ (post_6:Unit→List Nat × Unit
 → Prop),(∃ (h:(0:Int)≤i64.wrap (i64.wrap ((0:Int)+(1:Int))+(1:Int))∧i64.wrap (i64.wrap ((0:Int)+(1:Int))+(1:Int)) <
 (↑(3:Nat):Int)),∃ (h:(0:Int)≤f∧f<(↑(6:Nat):Int)),∃ (h:(0:Int)≤i64.wrap (i64.wrap ((0:Int)+(1:Int))+(1:Int))∧i64.wrap
 (i64.wrap ((0:Int)+(1:Int))+(1:Int))<(↑(3:Nat):Int)),∃ (h:(0:Int)≤i64.wrap ((0:Int)+(1:Int))∧i64.wrap ((0:Int)+(1 :
 Int))<(↑(3:Nat):Int)),Br (List.getD (List.getD (Zm.getD f.toNat (K.arr (3:Nat) (K.arr (3:Nat) (K.int i64))).dflt) (i64.wrap (i64.wrap ((0 :
 Int)+(1:Int))+(1:Int))).toNat (K.arr (3:Nat) (K.int i64)).dflt) (i64.wrap ((0:Int)+(1:Int))).toNat (0:Int)==(1:Int)) (∃ (h:True),∃ (h:(0
 : Int)≤i64.wrap ((0:Int)+(1:Int))∧i64.wrap ((0:Int)+(1:Int))<(↑(3:Nat):Int)∧(3:Nat)≤y.1.length),HS (Z125 ty166 ty236 y s t)
 ∧ post_6 () (y.1.set (i64.wrap ((0:Int)+(1:Int))).toNat (Zp ([(4607182418800017408:Nat),s,t].getD (i64.wrap (i64.wrap ((0:Int)+(1:Int))
 + (1:Int))).toNat (0:Nat))).1,())) (Br (List.getD (List.getD (Zm.getD f.toNat (K.arr (3:Nat) (K.arr (3:Nat) (K.int i64))).dflt) (i64.wrap
 (i64.wrap ((0:Int)+(1:Int))+(1:Int))).toNat (K.arr (3:Nat) (K.int i64)).dflt) (i64.wrap ((0:Int)+(1:Int))).toNat (0:Int)==(-1:Int))
 (∃ (h:True),∃ (h:(0:Int)≤i64.wrap ((0:Int)+(1:Int))∧i64.wrap ((0:Int)+(1:Int))<(↑(3:Nat):Int)∧(3:Nat)≤y.1.length),HS
 (Z126 ty166 ty236 y s t)∧post_6 () (y.1.set (i64.wrap ((0:Int)+(1:Int))).toNat (Zp (Go.Op.negFloat f64 ([(4607182418800017408:Nat),
 s,t].getD (i64.wrap (i64.wrap ((0:Int)+(1:Int))+(1:Int))).toNat (0:Nat)))).1,())) (HS (Z3a ty166 ty236 y)∧post_6 () (y.1,()))))∧∀ (x
 : Unit) (y:List Nat × Unit),post_6 x y→∃ (post_7:Unit→List Nat × Unit→Prop),(∃ (h:(0:Int)≤(0:Int)∧(0:Int)<(↑(3:Nat):Int)),∃ (h:(0:Int)≤f∧f <
 (↑(6:Nat):Int)),∃ (h:(0:Int)≤(0:Int)∧(0:Int)<(↑(3:Nat):Int)),∃ (h:(0:Int)≤i64.wrap (i64.wrap ((0:Int)+(1:Int))+(1:Int)) ∧
 i64.wrap (i64.wrap ((0:Int)+(1:Int))+(1:Int))<(↑(3:Nat):Int)),Br (List.getD (List.getD (Zm.getD f.toNat (K.arr (3:Nat) (K.arr (3:Nat)
 (K.int i64))).dflt) (Int.toNat (0:Int)) (K.arr (3:Nat) (K.int i64)).dflt) (i64.wrap (i64.wrap ((0:Int)+(1:Int))+(1:Int))).toNat (0 :
 Int)==(1:Int)) (∃ (h:True),∃ (h:(0:Int)≤i64.wrap (i64.wrap ((0:Int)+(1:Int))+(1:Int))∧i64.wrap (i64.wrap ((0:Int)+(1 :
 Int))+(1:Int))<(↑(3:Nat):Int)∧(3:Nat)≤y.1.length),HS (Z127 ty166 ty236 y s t)∧post_7 () (y.1.set (i64.wrap (i64.wrap ((0:Int)+(1
 : Int))+(1:Int))).toNat (Zp ([(4607182418800017408:Nat),s,t].getD (Int.toNat (0:Int)) (0:Nat))).1,())) (Br (List.getD (List.getD (Zm.getD f.toNat (K.arr (3 :
 Nat) (K.arr (3:Nat) (K.int i64))).dflt) (Int.toNat (0:Int)) (K.arr (3:Nat) (K.int i64)).dflt) (i64.wrap (i64.wrap ((0:Int)+(1:Int)) +
 (1:Int))).toNat (0:Int)==(-1:Int)) (∃ (h:True),∃ (h:(0:Int)≤i64.wrap (i64.wrap ((0:Int)+(1:Int))+(1:Int))∧i64.wrap
 (i64.wrap ((0:Int)+(1:Int))+(1:Int))<(↑(3:Nat):Int)∧(3:Nat)≤y.1.length),HS (Z128 ty166 ty236 y s t)∧post_7 () (y.1.set
 (i64.wrap (i64.wrap ((0:Int)+(1:Int))+(1:Int))).toNat (Zp (Go.Op.negFloat f64 ([(4607182418800017408:Nat),s,t].getD (Int.toNat (0 :
 Int)) (0:Nat)))).1,())) (HS (Z3a ty166 ty236 y)∧post_7 () (y.1,()))))∧∀ (x:Unit) (y:List Nat × Unit),post_7 x y→∃ (post_8:Unit→List Nat × Unit →
 Prop),(∃ (h:(0:Int)≤i64.wrap ((0:Int)+(1:Int))∧i64.wrap ((0:Int)+(1:Int))<(↑(3:Nat):Int)),∃ (h:(0:Int)≤f∧f<(↑(6:Nat) :
 Int)),∃ (h:(0:Int)≤i64.wrap ((0:Int)+(1:Int))∧i64.wrap ((0:Int)+(1:Int))<(↑(3:Nat):Int)),∃ (h:(0:Int)≤i64.wrap
 (i64.wrap ((0:Int)+(1:Int))+(1:Int))∧i64.wrap (i64.wrap ((0:Int)+(1:Int))+(1:Int))<(↑(3:Nat):Int)),Br (List.getD (List.getD
 (Zm.getD f.toNat (K.arr (3:Nat) (K.arr (3:Nat) (K.int i64))).dflt) (i64.wrap ((0:Int)+(1:Int))).toNat (K.arr (3:Nat) (K.int i64)).dflt)
 (i64.wrap (i64.wrap ((0:Int)+(1:Int))+(1:Int))).toNat (0:Int)==(1:Int)) (∃ (h:True),∃ (h:(0:Int)≤i64.wrap (i64.wrap ((0 :
 Int)+(1:Int))+(1:Int))∧i64.wrap (i64.wrap ((0:Int)+(1:Int))+(1:Int))<(↑(3:Nat):Int)∧(3:Nat)≤y.1.length),HS (Z129 ty166
 ty236 y s t)∧post_8 () (y.1.set (i64.wrap (i64.wrap ((0:Int)+(1:Int))+(1:Int))).toNat (Zp ([(4607182418800017408:Nat),s,t].getD
 (i64.wrap ((0:Int)+(1:Int))).toNat (0:Nat))).1,())) (Br (List.getD (List.getD (Zm.getD f.toNat (K.arr (3:Nat) (K.arr (3:Nat) (K.int i64))).dflt)
 (i64.wrap ((0:Int)+(1:Int))).toNat (K.arr (3:Nat) (K.int i64)).dflt) (i64.wrap (i64.wrap ((0:Int)+(1:Int))+(1:Int))).toNat (0 :
 Int)==(-1:Int)) (∃ (h:True),∃ (h:(0:Int)≤i64.wrap (i64.wrap ((0:Int)+(1:Int))+(1:Int))∧i64.wrap (i64.wrap ((0:Int)+(1
 : Int))+(1:Int))<(↑(3:Nat):Int)∧(3:Nat)≤y.1.length),HS (Z12a ty166 ty236 y s t)∧post_8 () (y.1.set (i64.wrap (i64.wrap ((0:Int) +
 (1:Int))+(1:Int))).toNat (Zp (Go.Op.negFloat f64 ([(4607182418800017408:Nat),s,t].getD (i64.wrap ((0:Int)+(1:Int))).toNat (0:Nat)))).1,
 ())) (HS (Z3a ty166 ty236 y)∧post_8 () (y.1,()))))∧∀ (x:Unit) (y:List Nat × Unit),post_8 x y→∃ (post_9:Unit→List Nat × Unit→Prop),(∃ (h:(0:Int) ≤
 i64.wrap (i64.wrap ((0:Int)+(1:Int))+(1:Int))∧i64.wrap (i64.wrap ((0:Int)+(1:Int))+(1:Int))<(↑(3:Nat):Int)),∃ (h:(0
 : Int)≤f∧f<(↑(6:Nat):Int)),∃ (h:(0:Int)≤i64.wrap (i64.wrap ((0:Int)+(1:Int))+(1:Int))∧i64.wrap (i64.wrap ((0:Int) +
 (1:Int))+(1:Int))<(↑(3:Nat):Int)),∃ (h:(0:Int)≤i64.wrap (i64.wrap ((0:Int)+(1:Int))+(1:Int))∧i64.wrap (i64.wrap ((0
 : Int)+(1:Int))+(1:Int))<(↑(3:Nat):Int)),Br (List.getD (List.getD (Zm.getD f.toNat (K.arr (3:Nat) (K.arr (3:Nat) (K.int i64))).dflt)
 (i64.wrap (i64.wrap ((0:Int)+(1:Int))+(1:Int))).toNat (K.arr (3:Nat) (K.int i64)).dflt) (i64.wrap (i64.wrap ((0:Int)+(1 :
 Int))+(1:Int))).toNat (0:Int)==(1:Int)) (∃ (h:True),∃ (h:(0:Int)≤i64.wrap (i64.wrap ((0:Int)+(1:Int))+(1:Int))∧i64.wrap
 (i64.wrap ((0:Int)+(1:Int))+(1:Int))<(↑(3:Nat):Int)∧(3:Nat)≤y.1.length),HS (Z12b ty166 ty236 y s t)∧post_9 () (y.1.set
 (i64.wrap (i64.wrap ((0:Int)+(1:Int))+(1:Int))).toNat (Zp ([(4607182418800017408:Nat),s,t].getD (i64.wrap (i64.wrap ((0:Int) +
 (1:Int))+(1:Int))).toNat (0:Nat))).1,())) (Br (List.getD (List.getD (Zm.getD f.toNat (K.arr (3:Nat) (K.arr (3:Nat) (K.int i64))).dflt) (i64.wrap
 (i64.wrap ((0:Int)+(1:Int))+(1:Int))).toNat (K.arr (3:Nat) (K.int i64)).dflt) (i64.wrap (i64.wrap ((0:Int)+(1:Int))+(1 :
 Int))).toNat (0:Int)==(-1:Int)) (∃ (h:True),∃ (h:(0:Int)≤i64.wrap (i64.wrap ((0:Int)+(1:Int))+(1:Int))∧i64.wrap
 (i64.wrap ((0:Int)+(1:Int))+(1:Int))<(↑(3:Nat):Int)∧(3:Nat)≤y.1.length),HS (Z12c ty166 ty236 y s t)∧post_9 () (y.1.set
 (i64.wrap (i64.wrap ((0:Int)+(1:Int))+(1:Int))).toNat (Zp (Go.Op.negFloat f64 ([(4607182418800017408:Nat),s,t].getD
 (i64.wrap (i64.wrap ((0:Int)+(1:Int))+(1:Int))).toNat (0:Nat)))).1,())) (HS (Z3a ty166 ty236 y)∧post_9 () (y.1,()))))∧∀ (x:Unit) (y
 : List Nat × Unit),post_9 x y→∃ (h:(0:Int)≤(0:Int)∧(0:Int)<(↑(3:Nat):Int)∧(3:Nat)≤y.1.length),∃ (h:(0:Int)≤(1:Int)∧(1:Int)<(↑(3:Nat) :
 Int)∧(3:Nat)≤y.1.length),∃ (h:(0:Int)≤(2:Int)∧(2:Int)<(↑(3:Nat):Int)∧(3:Nat)≤y.1.length),∃ (h:WV (y.1.getD (Int.toNat (0:Int)) (0:Nat),
 y.1.getD (Int.toNat (1:Int)) (0:Nat),y.1.getD (Int.toNat (2:Int)) (0:Nat))),post (((Z109 (y.1.getD (Int.toNat (0:Int)) (0:Nat),y.1.getD (Int.toNat (1:Int)) (0 :
 Nat),y.1.getD (Int.toNat (2:Int)) (0:Nat))).1.1,(Z109 (y.1.getD (Int.toNat (0:Int)) (0:Nat),y.1.getD (Int.toNat (1:Int)) (0:Nat),y.1.getD (Int.toNat (2:Int)) (0
 : Nat))).1.2.1,(Z109 (y.1.getD (Int.toNat (0:Int)) (0:Nat),y.1.getD (Int.toNat (1:Int)) (0:Nat),y.1.getD (Int.toNat (2:Int)) (0:Nat))).1.2.2),())
theorem Z19s (ty0 ty1:Nat) (f:Int) (s:Nat) (t:Nat) (h:Z10b f s t):Zov ty0 ty1 f s t (fun r=>r=Zdx f s t):=by
 obtain ⟨f0,f5,hs,ht⟩:=h
 have hfb:0≤f∧f<((6:Nat):Int):=⟨f0,by omega⟩
 refine ⟨fun _ y=>y.1=[(Z9 (Z6 f 0 0) (List.getD [(4607182418800017408:Nat),s,t] (Int.toNat (0:Int)) (0:Nat)) 0),0,0],⟨by decide,hfb,by decide,by decide,Z8d (m:=(Z6 f 0 0)) (v:=(List.getD [(4607182418800017408:Nat),s,t] (Int.toNat (0:Int)) (0:Nat))) (c:=0) (P:=fun z=>[z,0,0]=[(Z9 (Z6 f 0 0) (List.getD [(4607182418800017408:Nat),s,t] (Int.toNat (0:Int)) (0:Nat)) 0),0,0]) rfl (fun e=>⟨trivial,⟨by decide,by decide,Nat.le_refl 3⟩,rfl,e⟩) (fun e=>⟨trivial,⟨by decide,by decide,Nat.le_refl 3⟩,rfl,e⟩) (fun e=>⟨rfl,e⟩)⟩,?_⟩
 rintro ⟨⟩ ⟨_,⟨⟩⟩ rfl
 refine ⟨fun _ y=>y.1=[(Z9 (Z6 f 1 0) s (Z9 (Z6 f 0 0) (List.getD [(4607182418800017408:Nat),s,t] (Int.toNat (0:Int)) (0:Nat)) 0)),0,0],⟨by decide,hfb,by decide,by decide,Z8d (m:=(Z6 f 1 0)) (v:=s) (c:=(Z9 (Z6 f 0 0) (List.getD [(4607182418800017408:Nat),s,t] (Int.toNat (0:Int)) (0:Nat)) 0)) (P:=fun z=>[z,0,0]=[(Z9 (Z6 f 1 0) s (Z9 (Z6 f 0 0) (List.getD [(4607182418800017408:Nat),s,t] (Int.toNat (0:Int)) (0:Nat)) 0)),0,0]) rfl (fun e=>⟨trivial,⟨by decide,by decide,Nat.le_refl 3⟩,rfl,e⟩) (fun e=>⟨trivial,⟨by decide,by decide,Nat.le_refl 3⟩,rfl,e⟩) (fun e=>⟨rfl,e⟩)⟩,?_⟩
 rintro ⟨⟩ ⟨_,⟨⟩⟩ rfl
 refine ⟨fun _ y=>y.1=[(Z9 (Z6 f 2 0) t (Z9 (Z6 f 1 0) s (Z9 (Z6 f 0 0) (List.getD [(4607182418800017408:Nat),s,t] (Int.toNat (0:Int)) (0:Nat)) 0))),0,0],⟨by decide,hfb,by decide,by decide,Z8d (m:=(Z6 f 2 0)) (v:=t) (c:=(Z9 (Z6 f 1 0) s (Z9 (Z6 f 0 0) (List.getD [(4607182418800017408:Nat),s,t] (Int.toNat (0:Int)) (0:Nat)) 0))) (P:=fun z=>[z,0,0]=[(Z9 (Z6 f 2 0) t (Z9 (Z6 f 1 0) s (Z9 (Z6 f 0 0) (List.getD [(4607182418800017408:Nat),s,t] (Int.toNat (0:Int)) (0:Nat)) 0))),0,0]) rfl (fun e=>⟨trivial,⟨by decide,by decide,Nat.le_refl 3⟩,rfl,e⟩) (fun e=>⟨trivial,⟨by decide,by decide,Nat.le_refl 3⟩,rfl,e⟩) (fun e=>⟨rfl,e⟩)⟩,?_⟩
 rintro ⟨⟩ ⟨_,⟨⟩⟩ rfl
 refine ⟨fun _ y=>y.1=[(Z9 (Z6 f 2 0) t (Z9 (Z6 f 1 0) s (Z9 (Z6 f 0 0) (List.getD [(4607182418800017408:Nat),s,t] (Int.toNat (0:Int)) (0:Nat)) 0))),(Z9 (Z6 f 0 1) (List.getD [(4607182418800017408:Nat),s,t] (Int.toNat (0:Int)) (0:Nat)) 0),0],⟨by decide,hfb,by decide,by decide,Z8d (m:=(Z6 f 0 1)) (v:=(List.getD [(4607182418800017408:Nat),s,t] (Int.toNat (0:Int)) (0:Nat))) (c:=0) (P:=fun z=>[(Z9 (Z6 f 2 0) t (Z9 (Z6 f 1 0) s (Z9 (Z6 f 0 0) (List.getD [(4607182418800017408:Nat),s,t] (Int.toNat (0:Int)) (0:Nat)) 0))),z,0]=[(Z9 (Z6 f 2 0) t (Z9 (Z6 f 1 0) s (Z9 (Z6 f 0 0) (List.getD [(4607182418800017408:Nat),s,t] (Int.toNat (0:Int)) (0:Nat)) 0))),(Z9 (Z6 f 0 1) (List.getD [(4607182418800017408:Nat),s,t] (Int.toNat (0:Int)) (0:Nat)) 0),0]) rfl (fun e=>⟨trivial,⟨by decide,by decide,Nat.le_refl 3⟩,rfl,e⟩) (fun e=>⟨trivial,⟨by decide,by decide,Nat.le_refl 3⟩,rfl,e⟩) (fun e=>⟨rfl,e⟩)⟩,?_⟩
 rintro ⟨⟩ ⟨_,⟨⟩⟩ rfl
 refine ⟨fun _ y=>y.1=[(Z9 (Z6 f 2 0) t (Z9 (Z6 f 1 0) s (Z9 (Z6 f 0 0) (List.getD [(4607182418800017408:Nat),s,t] (Int.toNat (0:Int)) (0:Nat)) 0))),(Z9 (Z6 f 1 1) s (Z9 (Z6 f 0 1) (List.getD [(4607182418800017408:Nat),s,t] (Int.toNat (0:Int)) (0:Nat)) 0)),0],⟨by decide,hfb,by decide,by decide,Z8d (m:=(Z6 f 1 1)) (v:=s) (c:=(Z9 (Z6 f 0 1) (List.getD [(4607182418800017408:Nat),s,t] (Int.toNat (0:Int)) (0:Nat)) 0)) (P:=fun z=>[(Z9 (Z6 f 2 0) t (Z9 (Z6 f 1 0) s (Z9 (Z6 f 0 0) (List.getD [(4607182418800017408:Nat),s,t] (Int.toNat (0:Int)) (0:Nat)) 0))),z,0]=[(Z9 (Z6 f 2 0) t (Z9 (Z6 f 1 0) s (Z9 (Z6 f 0 0) (List.getD [(4607182418800017408:Nat),s,t] (Int.toNat (0:Int)) (0:Nat)) 0))),(Z9 (Z6 f 1 1) s (Z9 (Z6 f 0 1) (List.getD [(4607182418800017408:Nat),s,t] (Int.toNat (0:Int)) (0:Nat)) 0)),0]) rfl (fun e=>⟨trivial,⟨by decide,by decide,Nat.le_refl 3⟩,rfl,e⟩) (fun e=>⟨trivial,⟨by decide,by decide,Nat.le_refl 3⟩,rfl,e⟩) (fun e=>⟨rfl,e⟩)⟩,?_⟩
 rintro ⟨⟩ ⟨_,⟨⟩⟩ rfl
 refine ⟨fun _ y=>y.1=[(Z9 (Z6 f 2 0) t (Z9 (Z6 f 1 0) s (Z9 (Z6 f 0 0) (List.getD [(4607182418800017408:Nat),s,t] (Int.toNat (0:Int)) (0:Nat)) 0))),(Z9 (Z6 f 2 1) t (Z9 (Z6 f 1 1) s (Z9 (Z6 f 0 1) (List.getD [(4607182418800017408:Nat),s,t] (Int.toNat (0:Int)) (0:Nat)) 0))),0],⟨by decide,hfb,by decide,by decide,Z8d (m:=(Z6 f 2 1)) (v:=t) (c:=(Z9 (Z6 f 1 1) s (Z9 (Z6 f 0 1) (List.getD [(4607182418800017408:Nat),s,t] (Int.toNat (0:Int)) (0:Nat)) 0))) (P:=fun z=>[(Z9 (Z6 f 2 0) t (Z9 (Z6 f 1 0) s (Z9 (Z6 f 0 0) (List.getD [(4607182418800017408:Nat),s,t] (Int.toNat (0:Int)) (0:Nat)) 0))),z,0]=[(Z9 (Z6 f 2 0) t (Z9 (Z6 f 1 0) s (Z9 (Z6 f 0 0) (List.getD [(4607182418800017408:Nat),s,t] (Int.toNat (0:Int)) (0:Nat)) 0))),(Z9 (Z6 f 2 1) t (Z9 (Z6 f 1 1) s (Z9 (Z6 f 0 1) (List.getD [(4607182418800017408:Nat),s,t] (Int.toNat (0:Int)) (0:Nat)) 0))),0]) rfl (fun e=>⟨trivial,⟨by decide,by decide,Nat.le_refl 3⟩,rfl,e⟩) (fun e=>⟨trivial,⟨by decide,by decide,Nat.le_refl 3⟩,rfl,e⟩) (fun e=>⟨rfl,e⟩)⟩,?_⟩
 rintro ⟨⟩ ⟨_,⟨⟩⟩ rfl
 refine ⟨fun _ y=>y.1=[(Z9 (Z6 f 2 0) t (Z9 (Z6 f 1 0) s (Z9 (Z6 f 0 0) (List.getD [(4607182418800017408:Nat),s,t] (Int.toNat (0:Int)) (0:Nat)) 0))),(Z9 (Z6 f 2 1) t (Z9 (Z6 f 1 1) s (Z9 (Z6 f 0 1) (List.getD [(4607182418800017408:Nat),s,t] (Int.toNat (0:Int)) (0:Nat)) 0))),(Z9 (Z6 f 0 2) (List.getD [(4607182418800017408:Nat),s,t] (Int.toNat (0:Int)) (0:Nat)) 0)],⟨by decide,hfb,by decide,by decide,Z8d (m:=(Z6 f 0 2)) (v:=(List.getD [(4607182418800017408:Nat),s,t] (Int.toNat (0:Int)) (0:Nat))) (c:=0) (P:=fun z=>[(Z9 (Z6 f 2 0) t (Z9 (Z6 f 1 0) s (Z9 (Z6 f 0 0) (List.getD [(4607182418800017408:Nat),s,t] (Int.toNat (0:Int)) (0:Nat)) 0))),(Z9 (Z6 f 2 1) t (Z9 (Z6 f 1 1) s (Z9 (Z6 f 0 1) (List.getD [(4607182418800017408:Nat),s,t] (Int.toNat (0:Int)) (0:Nat)) 0))),z]=[(Z9 (Z6 f 2 0) t (Z9 (Z6 f 1 0) s (Z9 (Z6 f 0 0) (List.getD [(4607182418800017408:Nat),s,t] (Int.toNat (0:Int)) (0:Nat)) 0))),(Z9 (Z6 f 2 1) t (Z9 (Z6 f 1 1) s (Z9 (Z6 f 0 1) (List.getD [(4607182418800017408:Nat),s,t] (Int.toNat (0:Int)) (0:Nat)) 0))),(Z9 (Z6 f 0 2) (List.getD [(4607182418800017408:Nat),s,t] (Int.toNat (0:Int)) (0:Nat)) 0)]) rfl (fun e=>⟨trivial,⟨by decide,by decide,Nat.le_refl 3⟩,rfl,e⟩) (fun e=>⟨trivial,⟨by decide,by decide,Nat.le_refl 3⟩,rfl,e⟩) (fun e=>⟨rfl,e⟩)⟩,?_⟩
 rintro ⟨⟩ ⟨_,⟨⟩⟩ rfl
 refine ⟨fun _ y=>y.1=[(Z9 (Z6 f 2 0) t (Z9 (Z6 f 1 0) s (Z9 (Z6 f 0 0) (List.getD [(4607182418800017408:Nat),s,t] (Int.toNat (0:Int)) (0:Nat)) 0))),(Z9 (Z6 f 2 1) t (Z9 (Z6 f 1 1) s (Z9 (Z6 f 0 1) (List.getD [(4607182418800017408:Nat),s,t] (Int.toNat (0:Int)) (0:Nat)) 0))),(Z9 (Z6 f 1 2) s (Z9 (Z6 f 0 2) (List.getD [(4607182418800017408:Nat),s,t] (Int.toNat (0:Int)) (0:Nat)) 0))],⟨by decide,hfb,by decide,by decide,Z8d (m:=(Z6 f 1 2)) (v:=s) (c:=(Z9 (Z6 f 0 2) (List.getD [(4607182418800017408:Nat),s,t] (Int.toNat (0:Int)) (0:Nat)) 0)) (P:=fun z=>[(Z9 (Z6 f 2 0) t (Z9 (Z6 f 1 0) s (Z9 (Z6 f 0 0) (List.getD [(4607182418800017408:Nat),s,t] (Int.toNat (0:Int)) (0:Nat)) 0))),(Z9 (Z6 f 2 1) t (Z9 (Z6 f 1 1) s (Z9 (Z6 f 0 1) (List.getD [(4607182418800017408:Nat),s,t] (Int.toNat (0:Int)) (0:Nat)) 0))),z]=[(Z9 (Z6 f 2 0) t (Z9 (Z6 f 1 0) s (Z9 (Z6 f 0 0) (List.getD [(4607182418800017408:Nat),s,t] (Int.toNat (0:Int)) (0:Nat)) 0))),(Z9 (Z6 f 2 1) t (Z9 (Z6 f 1 1) s (Z9 (Z6 f 0 1) (List.getD [(4607182418800017408:Nat),s,t] (Int.toNat (0:Int)) (0:Nat)) 0))),(Z9 (Z6 f 1 2) s (Z9 (Z6 f 0 2) (List.getD [(4607182418800017408:Nat),s,t] (Int.toNat (0:Int)) (0:Nat)) 0))]) rfl (fun e=>⟨trivial,⟨by decide,by decide,Nat.le_refl 3⟩,rfl,e⟩) (fun e=>⟨trivial,⟨by decide,by decide,Nat.le_refl 3⟩,rfl,e⟩) (fun e=>⟨rfl,e⟩)⟩,?_⟩
 rintro ⟨⟩ ⟨_,⟨⟩⟩ rfl
 refine ⟨fun _ y=>y.1=[(Z9 (Z6 f 2 0) t (Z9 (Z6 f 1 0) s (Z9 (Z6 f 0 0) (List.getD [(4607182418800017408:Nat),s,t] (Int.toNat (0:Int)) (0:Nat)) 0))),(Z9 (Z6 f 2 1) t (Z9 (Z6 f 1 1) s (Z9 (Z6 f 0 1) (List.getD [(4607182418800017408:Nat),s,t] (Int.toNat (0:Int)) (0:Nat)) 0))),(Z9 (Z6 f 2 2) t (Z9 (Z6 f 1 2) s (Z9 (Z6 f 0 2) (List.getD [(4607182418800017408:Nat),s,t] (Int.toNat (0:Int)) (0:Nat)) 0)))],⟨by decide,hfb,by decide,by decide,Z8d (m:=(Z6 f 2 2)) (v:=t) (c:=(Z9 (Z6 f 1 2) s (Z9 (Z6 f 0 2) (List.getD [(4607182418800017408:Nat),s,t] (Int.toNat (0:Int)) (0:Nat)) 0))) (P:=fun z=>[(Z9 (Z6 f 2 0) t (Z9 (Z6 f 1 0) s (Z9 (Z6 f 0 0) (List.getD [(4607182418800017408:Nat),s,t] (Int.toNat (0:Int)) (0:Nat)) 0))),(Z9 (Z6 f 2 1) t (Z9 (Z6 f 1 1) s (Z9 (Z6 f 0 1) (List.getD [(4607182418800017408:Nat),s,t] (Int.toNat (0:Int)) (0:Nat)) 0))),z]=[(Z9 (Z6 f 2 0) t (Z9 (Z6 f 1 0) s (Z9 (Z6 f 0 0) (List.getD [(4607182418800017408:Nat),s,t] (Int.toNat (0:Int)) (0:Nat)) 0))),(Z9 (Z6 f 2 1) t (Z9 (Z6 f 1 1) s (Z9 (Z6 f 0 1) (List.getD [(4607182418800017408:Nat),s,t] (Int.toNat (0:Int)) (0:Nat)) 0))),(Z9 (Z6 f 2 2) t (Z9 (Z6 f 1 2) s (Z9 (Z6 f 0 2) (List.getD [(4607182418800017408:Nat),s,t] (Int.toNat (0:Int)) (0:Nat)) 0)))]) rfl (fun e=>⟨trivial,⟨by decide,by decide,Nat.le_refl 3⟩,rfl,e⟩) (fun e=>⟨trivial,⟨by decide,by decide,Nat.le_refl 3⟩,rfl,e⟩) (fun e=>⟨rfl,e⟩)⟩,?_⟩
 rintro ⟨⟩ ⟨_,⟨⟩⟩ rfl
 refine ⟨⟨by decide,by decide,Nat.le_refl 3⟩,⟨by decide,by decide,Nat.le_refl 3⟩,⟨by decide,by decide,Nat.le_refl 3⟩,⟨Z14m f hs ht 0,Z14m f hs ht 1,Z14m f hs ht 2⟩,rfl⟩
def Zlh:=fun (n f i j:Int) (post:(Nat × Nat × Nat) × Bool × Unit→Prop)=>∃ (h:I64 n),∀ a,a=((Z3o n).1==(0:Int))→Br a (post ((0,0,0),false,
 ())) (∀ a,a=decide (f<(0:Int))→Br a (post ((0,0,0),false,())) (∀ a,a=decide (f > (5:Int))→Br a (post ((0,0,0),false,())) (∀ a,a=decide (i<(0
 : Int))→Br a (post ((0,0,0),false,())) (∀ a,a=decide (i > n)→Br a (post ((0,0,0),false,())) (∀ a,a=decide (j<(0:Int))→Br a (post ((0,0,0),
 false,())) (∀ a,a=decide (j > n)→Br a (post ((0,0,0),false,())) (∃ (h:Zh9 (i64.wrap (i64.wrap ((2:Int)*i) - n)) n),∃ (h:Zh9
 (i64.wrap (i64.wrap ((2:Int)*j) - n)) n),∃ (h:Z10b f (Z3p (i64.wrap (i64.wrap ((2:Int)*i) - n)) n).1 (Z3p (i64.wrap
 (i64.wrap ((2:Int)*j) - n)) n).1),post (((Zdx f (Z3p (i64.wrap (i64.wrap ((2:Int)*i) - n)) n).1 (Z3p (i64.wrap (i64.wrap
 ((2:Int)*j) - n)) n).1).1.1,(Zdx f (Z3p (i64.wrap (i64.wrap ((2:Int)*i) - n)) n).1 (Z3p (i64.wrap (i64.wrap ((2:Int)*j) - n))
 n).1).1.2.1,(Zdx f (Z3p (i64.wrap (i64.wrap ((2:Int)*i) - n)) n).1 (Z3p (i64.wrap (i64.wrap ((2:Int)*j) - n)) n).1).1.2.2),
 true,()))))))))
theorem Z15k (n:Int) (f:Int) (i:Int) (j:Int) (h:IIII n f i j):Zlh  n f i j (fun r=>r=Z1c n f i j):=by
 obtain ⟨hn,hf,hi,hj⟩:=h
 have bad:Z7n n f i j=false→(((0:Nat),(0:Nat),(0:Nat)),false,())=Z1c n f i j:=by
  intro e; unfold Z1c; rw [if_neg (by rw [e]; decide)]
 refine ⟨hn,?_⟩
 rintro _ rfl
 refine Br.intro (fun e=>?_) fun e0=>?_
 ·have e:Z1 n=0:=by have e:(Z1 n==0)=true:=e; simpa using e
  refine bad ?_
  cases hg:Z1u n with
  | false=>unfold Z7n; rw [hg]; rfl
  | true=>rw [Zfv hg] at e; have:=Zur (Z3j.1 hg).1 (Z3j.1 hg).2; omega
 have e0:¬ Z1 n=0:=by have e:(Z1 n==0)=false:=e0; simpa using e
 have hg:Z1u n=true:=by
  cases hg:Z1u n with
  | false=>exact absurd (Ze0 hg) e0
  | true=>rfl
 obtain ⟨n1,n2⟩:=Z3j.1 hg
 have no:¬ (0≤f∧f≤5∧0≤i∧i≤n∧0≤j∧j≤n)→Z7n n f i j=false:=by
  intro q
  rw [Bool.eq_false_iff]
  intro w
  unfold Z7n at w
  simp only [Bool.and_eq_true,decide_eq_true_eq] at w
  omega
 rintro _ rfl
 refine Br.intro (fun e=>bad (no (by have e:=of_decide_eq_true e; omega))) fun e1=>?_
 have e1:=of_decide_eq_false e1
 rintro _ rfl
 refine Br.intro (fun e=>bad (no (by have e:=of_decide_eq_true e; omega))) fun e2=>?_
 have e2:=of_decide_eq_false e2
 rintro _ rfl
 refine Br.intro (fun e=>bad (no (by have e:=of_decide_eq_true e; omega))) fun e3=>?_
 have e3:=of_decide_eq_false e3
 rintro _ rfl
 refine Br.intro (fun e=>bad (no (by have e:=of_decide_eq_true e; omega))) fun e4=>?_
 have e4:=of_decide_eq_false e4
 rintro _ rfl
 refine Br.intro (fun e=>bad (no (by have e:=of_decide_eq_true e; omega))) fun e5=>?_
 have e5:=of_decide_eq_false e5
 rintro _ rfl
 refine Br.intro (fun e=>bad (no (by have e:=of_decide_eq_true e; omega))) fun e6=>?_
 have e6:=of_decide_eq_false e6
 obtain ⟨w1,w2⟩:=Z10g n1 n2 (i:=i) (by omega) (by omega)
 obtain ⟨w3,w4⟩:=Z10g n1 n2 (i:=j) (by omega) (by omega)
 rw [w1,w3]
 refine ⟨w2,w4,⟨by omega,by omega,Z8b _ _,Z8b _ _⟩,?_⟩
 have ok:Z7n n f i j=true:=by
  unfold Z7n
  rw [hg,decide_eq_true (by omega),decide_eq_true (by omega),decide_eq_true (by omega),decide_eq_true (by omega),decide_eq_true (by omega),decide_eq_true (by omega)]
  rfl
 unfold Z1c; rw [if_pos ok]; rfl
def Zji:=fun (n c:Int) (post:List (Nat × Nat × Nat) × Bool × Unit→Prop)=>∃ (h:II n c),Br (!(Z4 n c).2.2.2.1) (∃ (h:(List.replicate (4:Nat) ((K.flt
 f64).pair ((K.flt f64).pair (K.flt f64))).dflt).length=(4:Nat)∧(4:Nat)=(4:Nat)),∃ (h:(4:Nat)=(4:Nat)),post ([((0 :
 Nat),(0:Nat),(0:Nat)),((0:Nat),(0:Nat),(0:Nat)),((0:Nat),(0:Nat),(0:Nat)),((0:Nat),(0:Nat),(0:Nat))],false,())) (∃ (h:(0:Int)≤(0 :
 Int)∧(0:Int)<(↑(4:Nat):Int)),∃ (h:(List.replicate (2:Nat) (0:Int)).length=(2:Nat)∧List.length ([[(0:Int),(0:Int)],[(1:Int),(0:Int)],[(1:Int),
 (1:Int)],[(0:Int),(1:Int)]].getD (Int.toNat (0:Int)) (K.arr (2:Nat) (K.int i64)).dflt)=(2:Nat)),∃ (h:(0:Int)≤(0:Int)∧(0:Int)<(↑(2:Nat) :
 Int)∧(2:Nat)≤List.length ([[(0:Int),(0:Int)],[(1:Int),(0:Int)],[(1:Int),(1:Int)],[(0:Int),(1:Int)]].getD (Int.toNat (0:Int)) (K.arr (2:Nat) (K.int
 i64)).dflt)),∃ (h:(0:Int)≤(1:Int)∧(1:Int)<(↑(2:Nat):Int)∧(2:Nat)≤List.length ([[(0:Int),(0:Int)],[(1:Int),(0:Int)],[(1:Int),(1 :
 Int)],[(0:Int),(1:Int)]].getD (Int.toNat (0:Int)) (K.arr (2:Nat) (K.int i64)).dflt)),∃ (h:IIII n (Z4 n c).1 (i64.wrap ((Z4 n c).2.1 +
 List.getD ([[(0:Int),(0:Int)],[(1:Int),(0:Int)],[(1:Int),(1:Int)],[(0:Int),(1:Int)]].getD (Int.toNat (0:Int)) (K.arr (2:Nat) (K.int i64)).dflt)
 (Int.toNat (0:Int)) (0:Int))) (i64.wrap ((Z4 n c).2.2.1+List.getD ([[(0:Int),(0:Int)],[(1:Int),(0:Int)],[(1:Int),(1:Int)],[(0:Int),(1 :
 Int)]].getD (Int.toNat (0:Int)) (K.arr (2:Nat) (K.int i64)).dflt) (Int.toNat (1:Int)) (0:Int)))),∃ (h:(0:Int)≤(0:Int)∧(0:Int)<(↑(4:Nat):Int) ∧
 (4:Nat)≤(List.replicate (4:Nat) ((K.flt f64).pair ((K.flt f64).pair (K.flt f64))).dflt).length),∃ (h:(0:Int)≤i64.wrap
 ((0:Int)+(1:Int))∧i64.wrap ((0:Int)+(1:Int))<(↑(4:Nat):Int)),∃ (h:(List.replicate (2:Nat) (0:Int)).length=(2:Nat)∧List.length ([[(0 :
 Int),(0:Int)],[(1:Int),(0:Int)],[(1:Int),(1:Int)],[(0:Int),(1:Int)]].getD (i64.wrap ((0:Int)+(1:Int))).toNat (K.arr (2:Nat) (K.int
 i64)).dflt)=(2:Nat)),∃ (h:(0:Int)≤(0:Int)∧(0:Int)<(↑(2:Nat):Int)∧(2:Nat)≤List.length ([[(0:Int),(0:Int)],[(1:Int),(0:Int)],[(1 :
 Int),(1:Int)],[(0:Int),(1:Int)]].getD (i64.wrap ((0:Int)+(1:Int))).toNat (K.arr (2:Nat) (K.int i64)).dflt)),∃ (h:(0:Int)≤(1:Int)∧(1 :
 Int)<(↑(2:Nat):Int)∧(2:Nat)≤List.length ([[(0:Int),(0:Int)],[(1:Int),(0:Int)],[(1:Int),(1:Int)],[(0:Int),(1:Int)]].getD (i64.wrap ((0 :
 Int)+(1:Int))).toNat (K.arr (2:Nat) (K.int i64)).dflt)),∃ (h:IIII n (Z4 n c).1 (i64.wrap ((Z4 n c).2.1+List.getD ([[(0:Int),(0:Int)],[(1
 : Int),(0:Int)],[(1:Int),(1:Int)],[(0:Int),(1:Int)]].getD (i64.wrap ((0:Int)+(1:Int))).toNat (K.arr (2:Nat) (K.int i64)).dflt) (Int.toNat (0
 : Int)) (0:Int))) (i64.wrap ((Z4 n c).2.2.1+List.getD ([[(0:Int),(0:Int)],[(1:Int),(0:Int)],[(1:Int),(1:Int)],[(0:Int),(1:Int)]].getD
 (i64.wrap ((0:Int)+(1:Int))).toNat (K.arr (2:Nat) (K.int i64)).dflt) (Int.toNat (1:Int)) (0:Int)))),∃ (h:(0:Int)≤i64.wrap ((0:Int) +
 (1:Int))∧i64.wrap ((0:Int)+(1:Int))<(↑(4:Nat):Int)∧(4:Nat)≤((List.replicate (4:Nat) ((K.flt f64).pair ((K.flt f64).pair
 (K.flt f64))).dflt).set (Int.toNat (0:Int)) (Z1c n (Z4 n c).1 (i64.wrap ((Z4 n c).2.1+List.getD ([[(0:Int),(0:Int)],[(1:Int),(0 :
 Int)],[(1:Int),(1:Int)],[(0:Int),(1:Int)]].getD (Int.toNat (0:Int)) (K.arr (2:Nat) (K.int i64)).dflt) (Int.toNat (0:Int)) (0:Int))) (i64.wrap
 ((Z4 n c).2.2.1+List.getD ([[(0:Int),(0:Int)],[(1:Int),(0:Int)],[(1:Int),(1:Int)],[(0:Int),(1:Int)]].getD (Int.toNat (0:Int)) (K.arr (2:Nat)
 (K.int i64)).dflt) (Int.toNat (1:Int)) (0:Int)))).1).length),∃ (h:(0:Int)≤i64.wrap (i64.wrap ((0:Int)+(1:Int))+(1:Int)) ∧
 i64.wrap (i64.wrap ((0:Int)+(1:Int))+(1:Int))<(↑(4:Nat):Int)),∃ (h:(List.replicate (2:Nat) (0:Int)).length=(2:Nat)∧List.length ([[(0 :
 Int),(0:Int)],[(1:Int),(0:Int)],[(1:Int),(1:Int)],[(0:Int),(1:Int)]].getD (i64.wrap (i64.wrap ((0:Int)+(1:Int))+(1:Int))).toNat
 (K.arr (2:Nat) (K.int i64)).dflt)=(2:Nat)),∃ (h:(0:Int)≤(0:Int)∧(0:Int)<(↑(2:Nat):Int)∧(2:Nat)≤List.length ([[(0:Int),(0:Int)],[(1 :
 Int),(0:Int)],[(1:Int),(1:Int)],[(0:Int),(1:Int)]].getD (i64.wrap (i64.wrap ((0:Int)+(1:Int))+(1:Int))).toNat (K.arr (2:Nat) (K.int
 i64)).dflt)),∃ (h:(0:Int)≤(1:Int)∧(1:Int)<(↑(2:Nat):Int)∧(2:Nat)≤List.length ([[(0:Int),(0:Int)],[(1:Int),(0:Int)],[(1:Int),(1 :
 Int)],[(0:Int),(1:Int)]].getD (i64.wrap (i64.wrap ((0:Int)+(1:Int))+(1:Int))).toNat (K.arr (2:Nat) (K.int i64)).dflt)),∃ (h:IIII n
 (Z4 n c).1 (i64.wrap ((Z4 n c).2.1+List.getD ([[(0:Int),(0:Int)],[(1:Int),(0:Int)],[(1:Int),(1:Int)],[(0:Int),(1:Int)]].getD
 (i64.wrap (i64.wrap ((0:Int)+(1:Int))+(1:Int))).toNat (K.arr (2:Nat) (K.int i64)).dflt) (Int.toNat (0:Int)) (0:Int))) (i64.wrap
 ((Z4 n c).2.2.1+List.getD ([[(0:Int),(0:Int)],[(1:Int),(0:Int)],[(1:Int),(1:Int)],[(0:Int),(1:Int)]].getD (i64.wrap (i64.wrap ((0 :
 Int)+(1:Int))+(1:Int))).toNat (K.arr (2:Nat) (K.int i64)).dflt) (Int.toNat (1:Int)) (0:Int)))),∃ (h:(0:Int)≤i64.wrap (i64.wrap ((0 :
 Int)+(1:Int))+(1:Int))∧i64.wrap (i64.wrap ((0:Int)+(1:Int))+(1:Int))<(↑(4:Nat):Int)∧(4:Nat)≤(((List.replicate (4:Nat) ((K.flt
 f64).pair ((K.flt f64).pair (K.flt f64))).dflt).set (Int.toNat (0:Int)) (Z1c n (Z4 n c).1 (i64.wrap ((Z4 n c).2.1 +
 List.getD ([[(0:Int),(0:Int)],[(1:Int),(0:Int)],[(1:Int),(1:Int)],[(0:Int),(1:Int)]].getD (Int.toNat (0:Int)) (K.arr (2:Nat) (K.int i64)).dflt)
 (Int.toNat (0:Int)) (0:Int))) (i64.wrap ((Z4 n c).2.2.1+List.getD ([[(0:Int),(0:Int)],[(1:Int),(0:Int)],[(1:Int),(1:Int)],[(0:Int),(1 :
 Int)]].getD (Int.toNat (0:Int)) (K.arr (2:Nat) (K.int i64)).dflt) (Int.toNat (1:Int)) (0:Int)))).1).set (i64.wrap ((0:Int)+(1:Int))).toNat (Z1c n
 (Z4 n c).1 (i64.wrap ((Z4 n c).2.1+List.getD ([[(0:Int),(0:Int)],[(1:Int),(0:Int)],[(1:Int),(1:Int)],[(0:Int),(1:Int)]].getD
 (i64.wrap ((0:Int)+(1:Int))).toNat (K.arr (2:Nat) (K.int i64)).dflt) (Int.toNat (0:Int)) (0:Int))) (i64.wrap ((Z4 n c).2.2.1+List.getD
 ([[(0:Int),(0:Int)],[(1:Int),(0:Int)],[(1:Int),(1:Int)],[(0:Int),(1:Int)]].getD (i64.wrap ((0:Int)+(1:Int))).toNat (K.arr (2:Nat) (K.int
 i64)).dflt) (Int.toNat (1:Int)) (0:Int)))).1).length),∃ (h:(0:Int)≤i64.wrap (i64.wrap (i64.wrap ((0:Int)+(1:Int))+(1:Int)) +
 (1:Int))∧i64.wrap (i64.wrap (i64.wrap ((0:Int)+(1:Int))+(1:Int))+(1:Int))<(↑(4:Nat):Int)),∃ (h:(List.replicate (2:Nat) (0 :
 Int)).length=(2:Nat)∧List.length ([[(0:Int),(0:Int)],[(1:Int),(0:Int)],[(1:Int),(1:Int)],[(0:Int),(1:Int)]].getD (i64.wrap (i64.wrap
 (i64.wrap ((0:Int)+(1:Int))+(1:Int))+(1:Int))).toNat (K.arr (2:Nat) (K.int i64)).dflt)=(2:Nat)),∃ (h:(0:Int)≤(0:Int)∧(0:Int) <
 (↑(2:Nat):Int)∧(2:Nat)≤List.length ([[(0:Int),(0:Int)],[(1:Int),(0:Int)],[(1:Int),(1:Int)],[(0:Int),(1:Int)]].getD (i64.wrap
 (i64.wrap (i64.wrap ((0:Int)+(1:Int))+(1:Int))+(1:Int))).toNat (K.arr (2:Nat) (K.int i64)).dflt)),∃ (h:(0:Int)≤(1:Int)∧(1:Int)
 < (↑(2:Nat):Int)∧(2:Nat)≤List.length ([[(0:Int),(0:Int)],[(1:Int),(0:Int)],[(1:Int),(1:Int)],[(0:Int),(1:Int)]].getD (i64.wrap
 (i64.wrap (i64.wrap ((0:Int)+(1:Int))+(1:Int))+(1:Int))).toNat (K.arr (2:Nat) (K.int i64)).dflt)),∃ (h:IIII n (Z4 n c).1
 (i64.wrap ((Z4 n c).2.1+List.getD ([[(0:Int),(0:Int)],[(1:Int),(0:Int)],[(1:Int),(1:Int)],[(0:Int),(1:Int)]].getD (i64.wrap
 (i64.wrap (i64.wrap ((0:Int)+(1:Int))+(1:Int))+(1:Int))).toNat (K.arr (2:Nat) (K.int i64)).dflt) (Int.toNat (0:Int)) (0:Int)))
 (i64.wrap ((Z4 n c).2.2.1+List.getD ([[(0:Int),(0:Int)],[(1:Int),(0:Int)],[(1:Int),(1:Int)],[(0:Int),(1:Int)]].getD (i64.wrap
 (i64.wrap (i64.wrap ((0:Int)+(1:Int))+(1:Int))+(1:Int))).toNat (K.arr (2:Nat) (K.int i64)).dflt) (Int.toNat (1:Int)) (0:Int)))),∃ (h :
 (0:Int)≤i64.wrap (i64.wrap (i64.wrap ((0:Int)+(1:Int))+(1:Int))+(1:Int))∧i64.wrap (i64.wrap (i64.wrap ((0 :
 Int)+(1:Int))+(1:Int))+(1:Int))<(↑(4:Nat):Int)∧(4:Nat)≤((((List.replicate (4:Nat) ((K.flt f64).pair ((K.flt f64).pair (K.flt
 f64))).dflt).set (Int.toNat (0:Int)) (Z1c n (Z4 n c).1 (i64.wrap ((Z4 n c).2.1+List.getD ([[(0:Int),(0:Int)],[(1:Int),(0:Int)],
 [(1:Int),(1:Int)],[(0:Int),(1:Int)]].getD (Int.toNat (0:Int)) (K.arr (2:Nat) (K.int i64)).dflt) (Int.toNat (0:Int)) (0:Int))) (i64.wrap
 ((Z4 n c).2.2.1+List.getD ([[(0:Int),(0:Int)],[(1:Int),(0:Int)],[(1:Int),(1:Int)],[(0:Int),(1:Int)]].getD (Int.toNat (0:Int)) (K.arr (2:Nat)
 (K.int i64)).dflt) (Int.toNat (1:Int)) (0:Int)))).1).set (i64.wrap ((0:Int)+(1:Int))).toNat (Z1c n (Z4 n c).1 (i64.wrap ((Z4 n
 c).2.1+List.getD ([[(0:Int),(0:Int)],[(1:Int),(0:Int)],[(1:Int),(1:Int)],[(0:Int),(1:Int)]].getD (i64.wrap ((0:Int)+(1:Int))).toNat (K.arr
 (2:Nat) (K.int i64)).dflt) (Int.toNat (0:Int)) (0:Int))) (i64.wrap ((Z4 n c).2.2.1+List.getD ([[(0:Int),(0:Int)],[(1:Int),(0:Int)],[(1 :
 Int),(1:Int)],[(0:Int),(1:Int)]].getD (i64.wrap ((0:Int)+(1:Int))).toNat (K.arr (2:Nat) (K.int i64)).dflt) (Int.toNat (1:Int)) (0 :
 Int)))).1).set (i64.wrap (i64.wrap ((0:Int)+(1:Int))+(1:Int))).toNat (Z1c n (Z4 n c).1 (i64.wrap ((Z4 n c).2.1+List.getD ([[(0 :
 Int),(0:Int)],[(1:Int),(0:Int)],[(1:Int),(1:Int)],[(0:Int),(1:Int)]].getD (i64.wrap (i64.wrap ((0:Int)+(1:Int))+(1:Int))).toNat
 (K.arr (2:Nat) (K.int i64)).dflt) (Int.toNat (0:Int)) (0:Int))) (i64.wrap ((Z4 n c).2.2.1+List.getD ([[(0:Int),(0:Int)],[(1:Int),(0:Int)],
 [(1:Int),(1:Int)],[(0:Int),(1:Int)]].getD (i64.wrap (i64.wrap ((0:Int)+(1:Int))+(1:Int))).toNat (K.arr (2:Nat) (K.int i64)).dflt)
 (Int.toNat (1:Int)) (0:Int)))).1).length),∃ (h:(((((List.replicate (4:Nat) ((K.flt f64).pair ((K.flt f64).pair (K.flt
 f64))).dflt).set (Int.toNat (0:Int)) (Z1c n (Z4 n c).1 (i64.wrap ((Z4 n c).2.1+List.getD ([[(0:Int),(0:Int)],[(1:Int),(0:Int)],
 [(1:Int),(1:Int)],[(0:Int),(1:Int)]].getD (Int.toNat (0:Int)) (K.arr (2:Nat) (K.int i64)).dflt) (Int.toNat (0:Int)) (0:Int))) (i64.wrap
 ((Z4 n c).2.2.1+List.getD ([[(0:Int),(0:Int)],[(1:Int),(0:Int)],[(1:Int),(1:Int)],[(0:Int),(1:Int)]].getD (Int.toNat (0:Int)) (K.arr (2:Nat)
 (K.int i64)).dflt) (Int.toNat (1:Int)) (0:Int)))).1).set (i64.wrap ((0:Int)+(1:Int))).toNat (Z1c n (Z4 n c).1 (i64.wrap ((Z4 n
 c).2.1+List.getD ([[(0:Int),(0:Int)],[(1:Int),(0:Int)],[(1:Int),(1:Int)],[(0:Int),(1:Int)]].getD (i64.wrap ((0:Int)+(1:Int))).toNat (K.arr
 (2:Nat) (K.int i64)).dflt) (Int.toNat (0:Int)) (0:Int))) (i64.wrap ((Z4 n c).2.2.1+List.getD ([[(0:Int),(0:Int)],[(1:Int),(0:Int)],[(1 :
 Int),(1:Int)],[(0:Int),(1:Int)]].getD (i64.wrap ((0:Int)+(1:Int))).toNat (K.arr (2:Nat) (K.int i64)).dflt) (Int.toNat (1:Int)) (0 :
 Int)))).1).set (i64.wrap (i64.wrap ((0:Int)+(1:Int))+(1:Int))).toNat (Z1c n (Z4 n c).1 (i64.wrap ((Z4 n c).2.1+List.getD ([[(0 :
 Int),(0:Int)],[(1:Int),(0:Int)],[(1:Int),(1:Int)],[(0:Int),(1:Int)]].getD (i64.wrap (i64.wrap ((0:Int)+(1:Int))+(1:Int))).toNat
 (K.arr (2:Nat) (K.int i64)).dflt) (Int.toNat (0:Int)) (0:Int))) (i64.wrap ((Z4 n c).2.2.1+List.getD ([[(0:Int),(0:Int)],[(1:Int),(0:Int)],
 [(1:Int),(1:Int)],[(0:Int),(1:Int)]].getD (i64.wrap (i64.wrap ((0:Int)+(1:Int))+(1:Int))).toNat (K.arr (2:Nat) (K.int i64)).dflt)
 (Int.toNat (1:Int)) (0:Int)))).1).set (i64.wrap (i64.wrap (i64.wrap ((0:Int)+(1:Int))+(1:Int))+(1:Int))).toNat (Z1c n (Z4 n c).1
 (i64.wrap ((Z4 n c).2.1+List.getD ([[(0:Int),(0:Int)],[(1:Int),(0:Int)],[(1:Int),(1:Int)],[(0:Int),(1:Int)]].getD (i64.wrap
 (i64.wrap (i64.wrap ((0:Int)+(1:Int))+(1:Int))+(1:Int))).toNat (K.arr (2:Nat) (K.int i64)).dflt) (Int.toNat (0:Int)) (0:Int)))
 (i64.wrap ((Z4 n c).2.2.1+List.getD ([[(0:Int),(0:Int)],[(1:Int),(0:Int)],[(1:Int),(1:Int)],[(0:Int),(1:Int)]].getD (i64.wrap
 (i64.wrap (i64.wrap ((0:Int)+(1:Int))+(1:Int))+(1:Int))).toNat (K.arr (2:Nat) (K.int i64)).dflt) (Int.toNat (1:Int)) (0 :
 Int)))).1).length=(4:Nat)),∃ (h:(List.replicate (4:Nat) ((K.flt f64).pair ((K.flt f64).pair (K.flt f64))).dflt).length=(4:Nat)
 ∧ (((((List.replicate (4:Nat) ((K.flt f64).pair ((K.flt f64).pair (K.flt f64))).dflt).set (Int.toNat (0:Int)) (Z1c n (Z4 n c).1
 (i64.wrap ((Z4 n c).2.1+List.getD ([[(0:Int),(0:Int)],[(1:Int),(0:Int)],[(1:Int),(1:Int)],[(0:Int),(1:Int)]].getD (Int.toNat (0:Int))
 (K.arr (2:Nat) (K.int i64)).dflt) (Int.toNat (0:Int)) (0:Int))) (i64.wrap ((Z4 n c).2.2.1+List.getD ([[(0:Int),(0:Int)],[(1:Int),(0:Int)],
 [(1:Int),(1:Int)],[(0:Int),(1:Int)]].getD (Int.toNat (0:Int)) (K.arr (2:Nat) (K.int i64)).dflt) (Int.toNat (1:Int)) (0:Int)))).1).set (i64.wrap
 ((0:Int)+(1:Int))).toNat (Z1c n (Z4 n c).1 (i64.wrap ((Z4 n c).2.1+List.getD ([[(0:Int),(0:Int)],[(1:Int),(0:Int)],[(1:Int),(1 :
 Int)],[(0:Int),(1:Int)]].getD (i64.wrap ((0:Int)+(1:Int))).toNat (K.arr (2:Nat) (K.int i64)).dflt) (Int.toNat (0:Int)) (0:Int)))
 (i64.wrap ((Z4 n c).2.2.1+List.getD ([[(0:Int),(0:Int)],[(1:Int),(0:Int)],[(1:Int),(1:Int)],[(0:Int),(1:Int)]].getD (i64.wrap ((0 :
 Int)+(1:Int))).toNat (K.arr (2:Nat) (K.int i64)).dflt) (Int.toNat (1:Int)) (0:Int)))).1).set (i64.wrap (i64.wrap ((0:Int)+(1:Int))+(1 :
 Int))).toNat (Z1c n (Z4 n c).1 (i64.wrap ((Z4 n c).2.1+List.getD ([[(0:Int),(0:Int)],[(1:Int),(0:Int)],[(1:Int),(1:Int)],[(0:Int),(1 :
 Int)]].getD (i64.wrap (i64.wrap ((0:Int)+(1:Int))+(1:Int))).toNat (K.arr (2:Nat) (K.int i64)).dflt) (Int.toNat (0:Int)) (0:Int)))
 (i64.wrap ((Z4 n c).2.2.1+List.getD ([[(0:Int),(0:Int)],[(1:Int),(0:Int)],[(1:Int),(1:Int)],[(0:Int),(1:Int)]].getD (i64.wrap
 (i64.wrap ((0:Int)+(1:Int))+(1:Int))).toNat (K.arr (2:Nat) (K.int i64)).dflt) (Int.toNat (1:Int)) (0:Int)))).1).set (i64.wrap
 (i64.wrap (i64.wrap ((0:Int)+(1:Int))+(1:Int))+(1:Int))).toNat (Z1c n (Z4 n c).1 (i64.wrap ((Z4 n c).2.1+List.getD ([[(0 :
 Int),(0:Int)],[(1:Int),(0:Int)],[(1:Int),(1:Int)],[(0:Int),(1:Int)]].getD (i64.wrap (i64.wrap (i64.wrap ((0:Int)+(1:Int))+(1 :
 Int))+(1:Int))).toNat (K.arr (2:Nat) (K.int i64)).dflt) (Int.toNat (0:Int)) (0:Int))) (i64.wrap ((Z4 n c).2.2.1+List.getD ([[(0:Int),(0 :
 Int)],[(1:Int),(0:Int)],[(1:Int),(1:Int)],[(0:Int),(1:Int)]].getD (i64.wrap (i64.wrap (i64.wrap ((0:Int)+(1:Int))+(1:Int))+(1
 : Int))).toNat (K.arr (2:Nat) (K.int i64)).dflt) (Int.toNat (1:Int)) (0:Int)))).1).length=(4:Nat)),∃ (h:(((((List.replicate (4:Nat) ((K.flt
 f64).pair ((K.flt f64).pair (K.flt f64))).dflt).set (Int.toNat (0:Int)) (Z1c n (Z4 n c).1 (i64.wrap ((Z4 n c).2.1 +
 List.getD ([[(0:Int),(0:Int)],[(1:Int),(0:Int)],[(1:Int),(1:Int)],[(0:Int),(1:Int)]].getD (Int.toNat (0:Int)) (K.arr (2:Nat) (K.int i64)).dflt)
 (Int.toNat (0:Int)) (0:Int))) (i64.wrap ((Z4 n c).2.2.1+List.getD ([[(0:Int),(0:Int)],[(1:Int),(0:Int)],[(1:Int),(1:Int)],[(0:Int),(1 :
 Int)]].getD (Int.toNat (0:Int)) (K.arr (2:Nat) (K.int i64)).dflt) (Int.toNat (1:Int)) (0:Int)))).1).set (i64.wrap ((0:Int)+(1:Int))).toNat (Z1c n
 (Z4 n c).1 (i64.wrap ((Z4 n c).2.1+List.getD ([[(0:Int),(0:Int)],[(1:Int),(0:Int)],[(1:Int),(1:Int)],[(0:Int),(1:Int)]].getD
 (i64.wrap ((0:Int)+(1:Int))).toNat (K.arr (2:Nat) (K.int i64)).dflt) (Int.toNat (0:Int)) (0:Int))) (i64.wrap ((Z4 n c).2.2.1+List.getD
 ([[(0:Int),(0:Int)],[(1:Int),(0:Int)],[(1:Int),(1:Int)],[(0:Int),(1:Int)]].getD (i64.wrap ((0:Int)+(1:Int))).toNat (K.arr (2:Nat) (K.int
 i64)).dflt) (Int.toNat (1:Int)) (0:Int)))).1).set (i64.wrap (i64.wrap ((0:Int)+(1:Int))+(1:Int))).toNat (Z1c n (Z4 n c).1
 (i64.wrap ((Z4 n c).2.1+List.getD ([[(0:Int),(0:Int)],[(1:Int),(0:Int)],[(1:Int),(1:Int)],[(0:Int),(1:Int)]].getD (i64.wrap
 (i64.wrap ((0:Int)+(1:Int))+(1:Int))).toNat (K.arr (2:Nat) (K.int i64)).dflt) (Int.toNat (0:Int)) (0:Int))) (i64.wrap ((Z4 n c).2.2.1
 + List.getD ([[(0:Int),(0:Int)],[(1:Int),(0:Int)],[(1:Int),(1:Int)],[(0:Int),(1:Int)]].getD (i64.wrap (i64.wrap ((0:Int)+(1:Int))+(1
 : Int))).toNat (K.arr (2:Nat) (K.int i64)).dflt) (Int.toNat (1:Int)) (0:Int)))).1).set (i64.wrap (i64.wrap (i64.wrap ((0:Int)+(1:Int))
 + (1:Int))+(1:Int))).toNat (Z1c n (Z4 n c).1 (i64.wrap ((Z4 n c).2.1+List.getD ([[(0:Int),(0:Int)],[(1:Int),(0:Int)],[(1:Int),(1 :
 Int)],[(0:Int),(1:Int)]].getD (i64.wrap (i64.wrap (i64.wrap ((0:Int)+(1:Int))+(1:Int))+(1:Int))).toNat (K.arr (2:Nat) (K.int
 i64)).dflt) (Int.toNat (0:Int)) (0:Int))) (i64.wrap ((Z4 n c).2.2.1+List.getD ([[(0:Int),(0:Int)],[(1:Int),(0:Int)],[(1:Int),(1:Int)],
 [(0:Int),(1:Int)]].getD (i64.wrap (i64.wrap (i64.wrap ((0:Int)+(1:Int))+(1:Int))+(1:Int))).toNat (K.arr (2:Nat) (K.int
 i64)).dflt) (Int.toNat (1:Int)) (0:Int)))).1).length=(4:Nat)),post (((((List.replicate (4:Nat) ((K.flt f64).pair ((K.flt f64).pair
 (K.flt f64))).dflt).set (Int.toNat (0:Int)) (Z1c n (Z4 n c).1 (i64.wrap ((Z4 n c).2.1+List.getD ([[(0:Int),(0:Int)],[(1:Int),(0 :
 Int)],[(1:Int),(1:Int)],[(0:Int),(1:Int)]].getD (Int.toNat (0:Int)) (K.arr (2:Nat) (K.int i64)).dflt) (Int.toNat (0:Int)) (0:Int))) (i64.wrap
 ((Z4 n c).2.2.1+List.getD ([[(0:Int),(0:Int)],[(1:Int),(0:Int)],[(1:Int),(1:Int)],[(0:Int),(1:Int)]].getD (Int.toNat (0:Int)) (K.arr (2:Nat)
 (K.int i64)).dflt) (Int.toNat (1:Int)) (0:Int)))).1).set (i64.wrap ((0:Int)+(1:Int))).toNat (Z1c n (Z4 n c).1 (i64.wrap ((Z4 n
 c).2.1+List.getD ([[(0:Int),(0:Int)],[(1:Int),(0:Int)],[(1:Int),(1:Int)],[(0:Int),(1:Int)]].getD (i64.wrap ((0:Int)+(1:Int))).toNat (K.arr
 (2:Nat) (K.int i64)).dflt) (Int.toNat (0:Int)) (0:Int))) (i64.wrap ((Z4 n c).2.2.1+List.getD ([[(0:Int),(0:Int)],[(1:Int),(0:Int)],[(1 :
 Int),(1:Int)],[(0:Int),(1:Int)]].getD (i64.wrap ((0:Int)+(1:Int))).toNat (K.arr (2:Nat) (K.int i64)).dflt) (Int.toNat (1:Int)) (0 :
 Int)))).1).set (i64.wrap (i64.wrap ((0:Int)+(1:Int))+(1:Int))).toNat (Z1c n (Z4 n c).1 (i64.wrap ((Z4 n c).2.1+List.getD ([[(0 :
 Int),(0:Int)],[(1:Int),(0:Int)],[(1:Int),(1:Int)],[(0:Int),(1:Int)]].getD (i64.wrap (i64.wrap ((0:Int)+(1:Int))+(1:Int))).toNat
 (K.arr (2:Nat) (K.int i64)).dflt) (Int.toNat (0:Int)) (0:Int))) (i64.wrap ((Z4 n c).2.2.1+List.getD ([[(0:Int),(0:Int)],[(1:Int),(0:Int)],
 [(1:Int),(1:Int)],[(0:Int),(1:Int)]].getD (i64.wrap (i64.wrap ((0:Int)+(1:Int))+(1:Int))).toNat (K.arr (2:Nat) (K.int i64)).dflt)
 (Int.toNat (1:Int)) (0:Int)))).1).set (i64.wrap (i64.wrap (i64.wrap ((0:Int)+(1:Int))+(1:Int))+(1:Int))).toNat (Z1c n (Z4 n c).1
 (i64.wrap ((Z4 n c).2.1+List.getD ([[(0:Int),(0:Int)],[(1:Int),(0:Int)],[(1:Int),(1:Int)],[(0:Int),(1:Int)]].getD (i64.wrap
 (i64.wrap (i64.wrap ((0:Int)+(1:Int))+(1:Int))+(1:Int))).toNat (K.arr (2:Nat) (K.int i64)).dflt) (Int.toNat (0:Int)) (0:Int)))
 (i64.wrap ((Z4 n c).2.2.1+List.getD ([[(0:Int),(0:Int)],[(1:Int),(0:Int)],[(1:Int),(1:Int)],[(0:Int),(1:Int)]].getD (i64.wrap
 (i64.wrap (i64.wrap ((0:Int)+(1:Int))+(1:Int))+(1:Int))).toNat (K.arr (2:Nat) (K.int i64)).dflt) (Int.toNat (1:Int)) (0:Int)))).1,
 true,()))
theorem Z12d (n:Int) (c:Int) (h:II n c):Zji  n c (fun r=>r=Zo n c):=by
 obtain ⟨hn,hc⟩:=h
 refine ⟨⟨hn,hc⟩,Br.intro (fun e=>?_) fun e=>?_⟩
 ·refine ⟨⟨by decide,by decide⟩,by decide,?_⟩
  have ok:Zd n c=false:=by
   cases q:Zd n c with
   | false=>rfl
   | true=>unfold Z4 at e; rw [if_pos q] at e; cases e
  unfold Zo; rw [if_neg (by rw [ok]; decide)]
 have ok:Zd n c=true:=by
  cases q:Zd n c with
  | true=>rfl
  | false=>unfold Z4 at e; rw [if_neg (by rw [q]; decide)] at e; cases e
 obtain ⟨h1,h2,h3,h4,h5,h6⟩:=Zd4 ok
 obtain ⟨r1,r2,r3,r4,r5,r6⟩:=Zs5 ok
 have hp:Z4 n c=(c / (n*n),c % n,c / n % n,true,()):=by unfold Z4; rw [if_pos ok]
 have hf:I64 (c / (n*n)):=⟨by omega,by omega⟩
 have ho:∀ x,0≤x→x≤33→I64 x:=fun x a b=>⟨by omega,by omega⟩
 have w0:∀ x,0≤x→x≤33→i64.wrap (x+0)=x:=fun x a b=>by rw [Int.add_zero,wi (ho x a b)]
 have w1:∀ x,0≤x→x≤32→i64.wrap (x+1)=x+1:=fun x a b=>wi (ho _ (by omega) (by omega))
 have hC:∀ i j,0≤i→i≤n→0≤j→j≤n→Z1c n (c / (n*n)) i j=(Z9v n (c / (n*n)) i j,true,()):=by
  intro i j a1 a2 a3 a4
  unfold Z1c
  rw [if_pos]
  unfold Z7n
  rw [Z3j.2 ⟨h1,h2⟩,decide_eq_true (by omega),decide_eq_true (by omega),decide_eq_true (by omega),decide_eq_true (by omega),decide_eq_true (by omega),decide_eq_true (by omega)]
  rfl
 have a0:=w0 (c % n) (by omega) (by omega)
 have a1:=w1 (c % n) (by omega) (by omega)
 have b0:=w0 (c / n % n) (by omega) (by omega)
 have b1:=w1 (c / n % n) (by omega) (by omega)
 have A0:I64 (i64.wrap (c % n+0)):=by rw [a0]; exact ho _ (by omega) (by omega)
 have A1:I64 (i64.wrap (c % n+1)):=by rw [a1]; exact ho _ (by omega) (by omega)
 have B0:I64 (i64.wrap (c / n % n+0)):=by rw [b0]; exact ho _ (by omega) (by omega)
 have B1:I64 (i64.wrap (c / n % n+1)):=by rw [b1]; exact ho _ (by omega) (by omega)
 rw [hp]
 refine ⟨by decide,⟨by decide,by decide⟩,⟨by decide,by decide,by decide⟩,⟨by decide,by decide,by decide⟩,⟨hn,hf,A0,B0⟩,⟨by decide,by decide,Nat.le_refl 4⟩,
  by decide,⟨by decide,by decide⟩,⟨by decide,by decide,by decide⟩,⟨by decide,by decide,by decide⟩,⟨hn,hf,A1,B0⟩,⟨by decide,by decide,Nat.le_refl 4⟩,
  by decide,⟨by decide,by decide⟩,⟨by decide,by decide,by decide⟩,⟨by decide,by decide,by decide⟩,⟨hn,hf,A1,B1⟩,⟨by decide,by decide,Nat.le_refl 4⟩,
  by decide,⟨by decide,by decide⟩,⟨by decide,by decide,by decide⟩,⟨by decide,by decide,by decide⟩,⟨hn,hf,A0,B1⟩,⟨by decide,by decide,Nat.le_refl 4⟩,rfl,⟨rfl,rfl⟩,rfl,?_⟩
 show ([(Z1c n (c / (n*n)) (i64.wrap (c % n+0)) (i64.wrap (c / n % n+0))).1,(Z1c n (c / (n*n)) (i64.wrap (c % n+1)) (i64.wrap (c / n % n+0))).1,(Z1c n (c / (n*n)) (i64.wrap (c % n+1)) (i64.wrap (c / n % n+1))).1,(Z1c n (c / (n*n)) (i64.wrap (c % n+0)) (i64.wrap (c / n % n+1))).1],true,())=_
 rw [a0,a1,b0,b1,hC _ _ (by omega) (by omega) (by omega) (by omega),hC _ _ (by omega) (by omega) (by omega) (by omega),hC _ _ (by omega) (by omega) (by omega) (by omega),hC _ _ (by omega) (by omega) (by omega) (by omega)]
 unfold Zo; rw [if_pos ok]
def Zsv:=fun (n c:Int) (post:Int × Unit→Prop)=>∃ (h:II n c),∃ (h:(List.replicate (4:Nat) ((K.flt f64).pair ((K.flt f64).pair
 (K.flt f64))).dflt).length=(4:Nat)∧(Zo n c).1.length=(4:Nat)),Br (!(Zo n c).2.1) (post ((0:Int),())) (∃ (h:(0:Int)≤(2:Int)∧(2 :
 Int)<(↑(4:Nat):Int)∧(4:Nat)≤(Zo n c).1.length),∃ (h:(0:Int)≤(0:Int)∧(0:Int)<(↑(4:Nat):Int)∧(4:Nat)≤(Zo n c).1.length),∃ (h:WV2
 ((Zo n c).1.getD (Int.toNat (2:Int)) ((K.flt f64).pair ((K.flt f64).pair (K.flt f64))).dflt) ((Zo n c).1.getD (Int.toNat (0 :
 Int)) ((K.flt f64).pair ((K.flt f64).pair (K.flt f64))).dflt)),∃ (h:(0:Int)≤(3:Int)∧(3:Int)<(↑(4:Nat):Int)∧(4:Nat) ≤
 (Zo n c).1.length),∃ (h:(0:Int)≤(1:Int)∧(1:Int)<(↑(4:Nat):Int)∧(4:Nat)≤(Zo n c).1.length),∃ (h:WV2 ((Zo n c).1.getD (Int.toNat (3 :
 Int)) ((K.flt f64).pair ((K.flt f64).pair (K.flt f64))).dflt) ((Zo n c).1.getD (Int.toNat (1:Int)) ((K.flt f64).pair
 ((K.flt f64).pair (K.flt f64))).dflt)),∃ (h:True),∃ (h:WV (Zs3 (Z93 ((Zo n c).1.getD (Int.toNat (2:Int)) ((K.flt
 f64).pair ((K.flt f64).pair (K.flt f64))).dflt) ((Zo n c).1.getD (Int.toNat (0:Int)) ((K.flt f64).pair ((K.flt
 f64).pair (K.flt f64))).dflt)).1 (Z93 ((Zo n c).1.getD (Int.toNat (3:Int)) ((K.flt f64).pair ((K.flt f64).pair
 (K.flt f64))).dflt) ((Zo n c).1.getD (Int.toNat (1:Int)) ((K.flt f64).pair ((K.flt f64).pair (K.flt
 f64))).dflt)).1).1),∀ (a:Nat),FRes f64 (f64.format.mul (Z66 (Zs3 (Z93 ((Zo n c).1.getD (Int.toNat (2:Int)) ((K.flt
 f64).pair ((K.flt f64).pair (K.flt f64))).dflt) ((Zo n c).1.getD (Int.toNat (0:Int)) ((K.flt f64).pair ((K.flt
 f64).pair (K.flt f64))).dflt)).1 (Z93 ((Zo n c).1.getD (Int.toNat (3:Int)) ((K.flt f64).pair ((K.flt f64).pair
 (K.flt f64))).dflt) ((Zo n c).1.getD (Int.toNat (1:Int)) ((K.flt f64).pair ((K.flt f64).pair (K.flt
 f64))).dflt)).1).1).1 (4602678819172646912:Nat)) a→∀ (a_1:Nat),FRes f64 (f64.format.mul a (4742290407621132288:Nat)) a_1→∃ (h :
 W64 a_1),post (imax (Zh8 a_1).1 (1:Int),()))
theorem Z1en (n:Int) (c:Int) (h:II n c):Zsv  n c (fun r=>r=Z10d n c):=by
 have g0:∀ i:Nat,WV ((Zo n c).fst.getD i ((K.flt f64).pair ((K.flt f64).pair (K.flt f64))).dflt):=Z1mj n c
 have hl:=Zwc n c
 refine ⟨h,⟨by decide,hl⟩,?_⟩
 rw [hl]
 refine Br.intro (fun e=>?_) fun e=>?_
 ·rw [Znq] at e
  exact congrArg r1 (by unfold Z15; rw [if_neg (by intro q; rw [q] at e; cases e)])
 rw [Znq] at e
 have ok:Zd n c=true:=by simpa using e
 refine ⟨⟨by decide,by decide,Nat.le_refl 4⟩,⟨by decide,by decide,Nat.le_refl 4⟩,⟨g0 2,g0 0⟩,⟨by decide,by decide,Nat.le_refl 4⟩,⟨by decide,by decide,Nat.le_refl 4⟩,⟨g0 3,g0 1⟩,trivial,Z1pf _ _,?_⟩
 intro x hx y hy
 obtain ⟨x1,x2⟩:=fmul hx
 obtain ⟨y1,y2⟩:=fmul hy
 refine ⟨y2,congrArg r1 ?_⟩
 have hs:Zo n c=([Z2j n c 0 0,Z2j n c 1 0,Z2j n c 1 1,Z2j n c 0 1],true,()):=by
  unfold Zo; rw [if_pos ok]; unfold Z2j; rw [Int.add_zero,Int.add_zero]
 have hq:[Z2j n c 0 0,Z2j n c 1 0,Z2j n c 1 1,Z2j n c 0 1]=(Zo n c).1:=by rw [hs]
 have hx1:Z5 x=mulQ (Z10c n c) Z3b:=by
  rw [x1]
  exact congrArg (fun z=>mulQ z 4602678819172646912) (Z1t2 (z:=(0,0,0)) hq.symm)
 have hy1:Z5 y=mulQ (mulQ (Z10c n c) Z3b) Zxp:=by
  rw [y1]
  have u:Z5 x=Z5 (mulQ (Z10c n c) Z3b):=by rw [hx1,Z3n]
  exact Z3w u rfl
 show imax (Z5g y).1 1=Z15 n c
 unfold Z15
 rw [if_pos ok,Z1gb y2,hy1]
end Go.Lift

namespace Go.Lift
def Zwo:=fun (a b:Nat) (post:Bool × Unit→Prop)=>∃ (h:True),∃ (h:True),∀ (a_1:Bool),a_1=((Z8c a).fst==(Z8c b).fst)→post (a_1,())
theorem Z1gj (a:Nat) (b:Nat):Zwo  a b (fun r=>r=Z1bm a b):=by
 refine ⟨trivial,trivial,?_⟩
 rintro _ rfl
 exact congrArg r1 (Z1hq a b)
def Zow:=fun (post:Nat × Unit→Prop)=>∃ (h:True),post ((Zuo (9221120237041090561:Int)).fst,())
theorem Z19t  : Zow   (fun r=>r=qnR):=by
 exact ⟨trivial,rfl⟩
def Zwp:=fun (a:Nat) (post:Nat × Unit→Prop)=>∃ (h:True),∃ (h:True),post ((Zuo (Go.bits Go.BinOp.andNot u64 (Z8c a).fst (9223372036854775808 :
 Int))).fst,())
theorem Z1gk (a:Nat) (h:W64 a):Zwp  a (fun r=>r=absR a):=by
 refine ⟨trivial,trivial,?_⟩
 show r1 (Go.bits .andNot .u64 (a:Int) 9223372036854775808).toNat=_
 rw [Z1g7 h]; rfl
def Zox:=fun (a:Nat) (post:Bool × Unit→Prop)=>∀ (a_1:Bool),a_1=fcmp Go.BinOp.neq (f64.format.order a a)→post (a_1,())
theorem Z19u (a:Nat):Zox  a (fun r=>r=nanR a):=by
 rintro _ rfl
 exact congrArg r1 (Z6m a)
def Zoy:=fun (a:Nat) (post:Nat × Unit→Prop)=>∀ (a_1:Bool),a_1=fcmp Go.BinOp.neq (f64.format.order a a)→Br a_1 (∃ (h:True),post (qnR.fst,
 ())) (∀ (a_2:Bool),a_2=fcmp Go.BinOp.eql (f64.format.order a (0:Nat))→Br a_2 (post ((0:Nat),())) (post (a,())))
theorem Z19v (a:Nat):Zoy  a (fun r=>r=Zp a):=by
 rintro _ rfl
 refine Br.intro (fun e=>⟨trivial,?_⟩) fun e=>?_
 ·have e:isN a=true:=(Z6m a).symm.trans e
  exact congrArg r1 (by unfold Z12; rw [if_pos e]; rfl)
 ·have e:isN a=false:=(Z6m a).symm.trans e
  rintro _ rfl
  refine Br.intro (fun z=>?_) fun z=>?_
  ·have z:=(Z1d0 a).symm.trans z
   rw [e] at z
   exact congrArg r1 (by unfold Z12; rw [e,if_neg (by simp),if_pos (by simpa using z)])
  ·have z:=(Z1d0 a).symm.trans z
   rw [e] at z
   exact congrArg r1 (by unfold Z12; rw [e,if_neg (by simp),if_neg (by simpa using z)])
def Zsw:=fun (a:Nat) (post:Nat × Unit→Prop)=>∃ (h:True),∀ (a_1:Bool),a_1=(nanR a).fst→Br a_1 (∃ (h:True),post ((Zuo (9221120237041090561 :
 Int)).fst,())) (post (a,()))
theorem Z1eo (a:Nat):Zsw  a (fun r=>r=Z1d2 a):=by
 refine ⟨trivial,?_⟩
 rintro _ rfl
 refine Br.intro (fun e=>⟨trivial,?_⟩) fun e=>?_
 ·have e:isN a=true:=e
  exact congrArg r1 (by unfold Z5; rw [if_pos e]; rfl)
 ·have e:isN a=false:=e
  exact congrArg r1 (by unfold Z5; rw [e]; rfl)
def Zhq:=fun (a:Nat) (post:Int × Unit→Prop)=>∃ (h:True),∃ (h:(0:Int)≤(1:Int)),post (u64.wrap ((Z8c a).fst*(2:Int) ^ Min.min
 (Int.toNat (1:Int)) u64.bits),())
theorem Zy2 (a:Nat) (h:W64 a):Zhq  a (fun r=>r=Z1bn a):=by
 refine ⟨trivial,by decide,?_⟩
 refine congrArg r1 ?_
 show u64.wrap ((a:Int)*2 ^ 1)=_
 rw [IntKind.wrap_u64]; unfold mag2 magI Z0 sw; omega
def Zoz:=fun (a:Nat) (post:Int × Unit→Prop)=>∃ (h:True),∀ (a_1:Bool),a_1=decide ((Z8c a).fst≥(9223372036854775808:Int))→Br a_1 (post (Go.bits
 Go.BinOp.xor u64 (if u64.signed=true then (-1:Int) else u64.max) (Z8c a).fst,())) (post (Go.bits Go.BinOp.or u64 (Z8c a).fst
 (9223372036854775808:Int),()))
theorem Z19w (a:Nat) (h:W64 a):Zoz  a (fun r=>r=Z105 a):=by
 refine ⟨trivial,?_⟩
 rintro _ rfl
 refine Br.intro (fun e=>?_) fun e=>?_
 ·have e:9223372036854775808≤a:=by have:=of_decide_eq_true e; dsimp only [Z8c,r1] at this; omega
  refine congrArg r1 ?_
  show Go.bits .xor .u64 _ (a:Int)=_
  unfold Zdu; rw [if_pos ((Zl3 h).2 e)]
  exact Z1p7 h
 ·have e:a<9223372036854775808:=by have:=of_decide_eq_false e; dsimp only [Z8c,r1] at this; omega
  refine congrArg r1 ?_
  show Go.bits .or .u64 (a:Int) 9223372036854775808=_
  unfold Zdu; rw [if_neg (by rw [Zl3 h]; omega)]
  exact Z1rc e
def Zbs:=fun (a:Int) (post:Bool × Unit→Prop)=>∀ (a_1:Bool),a_1=(a != a)→post (a_1,())
theorem Zqo (a:Int):Zbs  a (fun r=>r=noR a):=by
 rintro _ rfl
 exact congrArg r1 (by simp)
def Za5:=fun (a b:Int) (post:Int × Unit→Prop)=>∃ (h:True),∀ (a_1:Bool),a_1=(noR a).fst→∃ (h:True),∀ (a_2:Bool),a_2=(noR b).fst→Br a_1
 (Br a_2 (post ((0:Int),())) (post ((-1:Int),()))) (Br a_2 (post ((1:Int),())) (∀ (a_3:Bool),a_3=decide (a<b)→Br a_3 (post ((-1:Int),())) (∀ (a_4:Bool),a_4
 = decide (a > b)→Br a_4 (post ((1:Int),())) (post ((0:Int),())))))
theorem Zli (a:Int) (b:Int):Za5  a b (fun r=>r=cmpR a b):=by
 refine ⟨trivial,?_⟩
 rintro _ rfl
 refine ⟨trivial,?_⟩
 rintro _ rfl
 refine Br.intro (fun e=>by cases e) fun _=>Br.intro (fun e=>by cases e) fun _=>?_
 rintro _ rfl
 refine Br.intro (fun e=>?_) fun e=>?_
 ·exact congrArg r1 (by unfold cmpI; rw [if_pos (of_decide_eq_true e)])
 ·rintro _ rfl
  refine Br.intro (fun f=>?_) fun f=>?_
  ·exact congrArg r1 (by unfold cmpI; rw [if_neg (of_decide_eq_false e),if_pos (of_decide_eq_true f)])
  ·exact congrArg r1 (by unfold cmpI; rw [if_neg (of_decide_eq_false e),if_neg (of_decide_eq_false f)])
def Zp0:=fun (a b:Nat) (post:Int × Unit→Prop)=>∃ (h:W64 a),∃ (h:W64 b),∃ (h:True),post ((cmpR (Z105 a).fst (Z105 b).fst).fst,())
theorem Z19x (a:Nat) (b:Nat) (h:W2 a b):Zp0  a b (fun r=>r=ordR a b):=by
 exact ⟨h.1,h.2,trivial,rfl⟩
def Zp1:=fun (a:List Int) (post:Int × Unit→Prop)=>HIs [] []∧∃ (I:Int × Unit→Unit→Prop),∃ (μ:Int × Unit→Unit→Nat),I ((0:Int),()) ()∧∀ (x :
 Int × Unit) (y:Unit),I x y→∀ (a_1:Bool),a_1=decide (x.fst<(↑a.length:Int))→Br a_1 (∃ (h:(0:Int)≤x.fst∧x.fst<(↑a.length:Int)),∀ (a_2:Bool),a_2 =
 (a.getD x.fst.toNat (0:Int) != (0:Int))→Br a_2 (post (a.getD x.fst.toNat (0:Int),())) (HIs [] []∧I (i64.wrap (x.fst+(1:Int)),()) ()∧μ (i64.wrap
 (x.fst+(1:Int)),()) ()<μ x y)) (post ((0:Int),()))
theorem Z19y (a:List Int) (w:KS.wf [.slice (.int .i64)] (a,())):Zp1  a (fun r=>r=orR a):=by
 have hl:a.length≤maxN:=w.1.1
 unfold maxN at hl
 refine ⟨rfl,fun x _=>∃ i:Nat,x.1=i∧i≤a.length∧Zc7 (a.drop i)=Zc7 a,fun x _=>a.length - x.1.toNat,⟨0,rfl,by omega,rfl⟩,?_⟩
 rintro ⟨_,⟨⟩⟩ _ ⟨i,hi,hil,hn⟩
 dsimp only at hi
 subst hi
 rintro _ rfl
 refine Br.intro (fun e=>?_) fun e=>?_
 ·have e:i<a.length:=by have:=of_decide_eq_true e; dsimp only at this; omega
  have hd:a.drop i=a.getD i 0 :: a.drop (i+1):=by
   rw [List.drop_eq_getElem_cons e,List.getD_eq_getElem?_getD,List.getElem?_eq_getElem e]; rfl
  rw [hd] at hn
  simp only [Int.toNat_natCast]
  refine ⟨⟨by omega,by omega⟩,?_⟩
  rintro _ rfl
  refine Br.intro (fun z=>?_) fun z=>⟨rfl,⟨i+1,?_,by omega,?_⟩,?_⟩
  ·have z:a.getD i 0≠0:=by simpa using z
   refine congrArg r1 ?_
   rw [← hn]; unfold Zc7; rw [if_pos z]
  ·rw [wi ⟨by omega,by omega⟩]; omega
  ·have z:a.getD i 0=0:=by simpa using z
   rw [← hn,z]; rfl
  ·rw [wi ⟨by omega,by omega⟩]; omega
 ·have e:a.length≤i:=by have:=of_decide_eq_false e; dsimp only at this; omega
  refine congrArg r1 ?_
  rw [← hn,List.drop_eq_nil_of_le e]; rfl
def Zjj:=fun (a b:Nat) (post:Int × Unit→Prop)=>∃ (h:W64 a),∃ (h:W64 b),∃ (h:True),∃ (h:W2 a b),∃ (h:True),post ((orR [(cmpR (Z1bn a).fst (Z1bn
 b).fst).fst,(ordR a b).fst]).fst,())
theorem Z12e (a:Nat) (b:Nat) (h:W2 a b):Zjj  a b (fun r=>r=Znl a b):=by
 refine ⟨h.1,h.2,trivial,h,trivial,?_⟩
 refine congrArg r1 ?_
 unfold cmpM
 show Zc7 [cmpI (mag2 a) (mag2 b),ordF a b]=_
 simp only [Zc7]
 split
 ·rfl
 ·split
  ·rfl
  ·rename_i z; simpa using (by simpa using z:ordF a b=0).symm
def Zp2:=fun (a:Nat) (b:Int) (post:Bool × Unit→Prop)=>∀ (a_1:Bool),a_1=(b==(0:Int))→Br a_1 (∃ (h:W64 a),∀ (a_2:Bool),a_2=fcmp Go.BinOp.gtr
 (f64.format.order (absR a).fst (9218868437227405311:Nat))→post (a_2,())) (∀ (a_2:Bool),a_2=decide (b<(0:Int))→Br a_2 (∀ (a_3:Bool),a_3=fcmp
 Go.BinOp.gtr (f64.format.order (Go.Op.negFloat f64 a) (9218868437227405311:Nat))→post (a_3,())) (∀ (a_3:Bool),a_3=fcmp Go.BinOp.gtr
 (f64.format.order a (9218868437227405311:Nat))→post (a_3,())))
theorem Z19z (a:Nat) (b:Int) (h:WI a b):Zp2  a b (fun r=>r=Z106 a b):=by
 have h:W64 a:=h
 rintro _ rfl
 refine Br.intro (fun e=>⟨h,?_⟩) fun e=>?_
 ·have e:b=0:=by simpa using e
  rintro _ rfl
  refine congrArg r1 ?_
  show fcmp .gtr (Ieee.double.order (Z0 a) 9218868437227405311)=_
  unfold infS; rw [if_pos e,Z1d3]
  have:=Z14h a
  have e1:Z0 (Z0 a)=Z0 a:=Zgi this
  have e2:sgn (Z0 a)=false:=by rw [Z1hp (by unfold W64; omega)]; simp; omega
  rw [e1,e2]; simp
 ·have e:b≠0:=by simpa using e
  rintro _ rfl
  refine Br.intro (fun f=>?_) fun f=>?_
  ·have f:b<0:=of_decide_eq_true f
   rintro _ rfl
   refine congrArg r1 ?_
   show fcmp .gtr (Ieee.double.order (negF a) 9218868437227405311)=_
   unfold infS; rw [if_neg e,if_pos f,Z1d3,(Zs2 h).1,Zxn h]; simp
  ·have f:¬ b<0:=of_decide_eq_false f
   rintro _ rfl
   refine congrArg r1 ?_
   show fcmp .gtr (Ieee.double.order a 9218868437227405311)=_
   unfold infS; rw [if_neg e,if_neg f,Z1d3]
end Go.Lift

namespace Go.Lift
open Go.Proofs
def Zwq:Cx:=⟨Z1o Z1w,Z1t [],SqG⟩
theorem Z15l:CxOk Tryz.prog Zwq:=⟨Zl Zv,fun f c h=>by cases h⟩
def Z6s:Con:=.det [.flt .f64] [.snap (.int .u64)] (fun _=>True) (fun x=>Z8c x.1)
theorem Zb4:Z6s.holds Tryz.prog SqG 100:=by
 refine Z1k1 (fn:=Tryz.f100) Tryz.func100 (by decide) rfl rfl (by kernel_rfl)
def Zwr:Cx:=addC 100 Z6s Zwq
theorem Z15m:CxOk Tryz.prog Zwr:=Zk Z15l Zb4
def Z7z:Con:=.det [.int .u64] [.snap (.flt .f64)] (fun _=>True) (fun x=>Zuo x.1)
theorem Zhr:Z7z.holds Tryz.prog SqG 200:=by
 refine Z1k2 (fn:=Tryz.f200) Tryz.func200 (by decide) rfl rfl (by kernel_rfl)
def Zws:Cx:=addC 200 Z7z Zwr
theorem Zcj:CxOk Tryz.prog Zws:=Zk Z15m Zhr
def Zp3:Con:=.rel [.flt .f64] [.snap (.flt .f64)] (fun _=>True) (fun x r=>Zit x.1 r) (fun x h=>Z1ho (Z1hm _) (Z14e _))
theorem Z1a0:Zp3.holds Tryz.prog SqG 246:=by
 refine Z1q0 (fn:=Tryz.f246) Tryz.func246 (by decide) rfl rfl (by kernel_rfl)
def Zhs:Con:=.det [.flt .f64,.flt .f64] [.snap .bool] (fun _=>True) (fun x=>Z1bm x.1 x.2.1)
theorem Zsx:SqH Zhs 44 :=
 dP Zcj Z3 Zb nHn Tryz.func44 (fun x p=>Zwo  x.1 x.2.1 p) fun x _ _=>Z1gj  x.1 x.2.1
def Zck:Con:=.det [] [.snap (.flt .f64)] (fun _=>True) (fun x=>qnR)
theorem Zlj:SqH Zck 172 :=
 dP Zcj Z3 Zb nHn Tryz.func172 (fun x p=>Zow   p) fun x _ _=>Z19t
def Zwt:Cx:=addC 172 Zck Zws
theorem Zlk:CxOk Tryz.prog Zwt:=Zk Zcj Zlj
def Z80:Con:=.det [.flt .f64] [.snap (.flt .f64)] (fun x=>W64 x.1) (fun x=>absR x.1)
theorem Zb5:SqH Z80 152 :=
 dP Zlk Z3 Zb nHn Tryz.func152 (fun x p=>Zwp  x.1 p) fun x h _=>Z1gk  x.1 h
def Zwu:Cx:=addC 152 Z80 Zwt
theorem Zll:CxOk Tryz.prog Zwu:=Zk Zlk Zb5
def Zcl:Con:=.det [.flt .f64] [.snap .bool] (fun _=>True) (fun x=>nanR x.1)
theorem Zlm:SqH Zcl 201 :=
 dP Zll Z3 Zb nHn Tryz.func201 (fun x p=>Zox  x.1 p) fun x _ _=>Z19u  x.1
def Zwv:Cx:=addC 201 Zcl Zwu
theorem Z8o:CxOk Tryz.prog Zwv:=Zk Zll Zlm
def Z3t:Con:=.det [.flt .f64] [.snap (.flt .f64)] (fun _=>True) (fun x=>Zp x.1)
theorem Z4v:SqH Z3t 99 :=
 dP Z8o Z3 Zb nHn Tryz.func99 (fun x p=>Zoy  x.1 p) fun x _ _=>Z19v  x.1
def Zp4:Con:=.det [.flt .f64] [.snap (.flt .f64)] (fun _=>True) (fun x=>Z1d2 x.1)
theorem Z1a1:SqH Zp4 276 :=
 dP Z8o Z3 Zb nHn Tryz.func276 (fun x p=>Zsw  x.1 p) fun x _ _=>Z1eo  x.1
def Zfb:Con:=.det [.flt .f64] [.snap (.int .u64)] (fun x=>W64 x.1) (fun x=>Z1bn x.1)
theorem Zvm:SqH Zfb 250 :=
 dP Z8o Z3 Zb nHn Tryz.func250 (fun x p=>Zhq  x.1 p) fun x h _=>Zy2  x.1 h
def Zsy:Cx:=addC 250 Zfb Zwv
theorem Zjk:CxOk Tryz.prog Zsy:=Zk Z8o Zvm
def Zln:Con:=.det [.flt .f64] [.snap (.int .u64)] (fun x=>W64 x.1) (fun x=>Z105 x.1)
theorem Z15n:SqH Zln 242 :=
 dP Zjk Z3 Zb nHn Tryz.func242 (fun x p=>Zoz  x.1 p) fun x h _=>Z19w  x.1 h
def Zsz:Cx:=addC 242 Zln Zsy
theorem Zjl:CxOk Tryz.prog Zsz:=Zk Zjk Z15n
def Zb6:Con:=.det [.int .u64] [.snap .bool] (fun _=>True) (fun x=>noR x.1)
theorem Zo7:SqH Zb6 272 :=
 dP Zjl Z3 Zb nHn Tryz.func272 (fun x p=>Zbs  x.1 p) fun x _ _=>Zqo  x.1
def Zt0:Cx:=addC 272 Zb6 Zsz
theorem Zjm:CxOk Tryz.prog Zt0:=Zk Zjl Zo7
def Z99:Con:=.det [.int .u64,.int .u64] [.snap (.int .i64)] (fun _=>True) (fun x=>cmpR x.1 x.2.1)
theorem Zkq:SqH Z99 241 :=
 dP Zjm Z3 Zb nHn Tryz.func241 (fun x p=>Za5  x.1 x.2.1 p) fun x _ _=>Zli  x.1 x.2.1
def Zt1:Cx:=addC 241 Z99 Zt0
theorem Zjn:CxOk Tryz.prog Zt1:=Zk Zjm Zkq
def Z8p:Con:=.det [.flt .f64,.flt .f64] [.snap (.int .i64)] (fun x=>W2 x.1 x.2.1) (fun x=>ordR x.1 x.2.1)
theorem Zcm:SqH Z8p 204 :=
 dP Zjn Z3 Zb nHn Tryz.func204 (fun x p=>Zp0  x.1 x.2.1 p) fun x h _=>Z19x  x.1 x.2.1 h
def Zt2:Cx:=addC 204 Z8p Zt1
theorem Zjo:CxOk Tryz.prog Zt2:=Zk Zjn Zcm
def Zlo:Con:=.det [.slice (.int .i64)] [.snap (.int .i64)] (fun _=>True) (fun x=>orR x.1)
theorem Z15o:SqH Zlo 249 :=
 dP Zjo Z3 Zb ({ loops:=fun k=>match k with | 3=>some { ls:=[(.slot 8,.data (.int .i64))],os:=[] } | _=>none,joins:=fun _=>none,named:=true }) Tryz.func249 (fun x p=>Zp1  x.1 p) fun x _ w=>Z19y  x.1 w
def Z1ep:Cx:=addC 249 Zlo Zt2
theorem Zjp:CxOk Tryz.prog Z1ep:=Zk Zjo Z15o
def Zht:Con:=.det [.flt .f64,.flt .f64] [.snap (.int .i64)] (fun x=>W2 x.1 x.2.1) (fun x=>Znl x.1 x.2.1)
theorem Zy3:SqH Zht 248 :=
 dP Zjp Z3 Zb nHn Tryz.func248 (fun x p=>Zjj  x.1 x.2.1 p) fun x h _=>Z12e  x.1 x.2.1 h
def Zcn:Con:=.det [.flt .f64,.int .i64] [.snap .bool] (fun x=>WI x.1 x.2.1) (fun x=>Z106 x.1 x.2.1)
theorem Zlp:SqH Zcn 240 :=
 dP Zjp Z3 Zb nHn Tryz.func240 (fun x p=>Zp2  x.1 x.2.1 p) fun x h _=>Z19z  x.1 x.2.1 h
end Go.Lift

namespace Go.Lift
def Zt3:=fun (a b c:Nat) (post:(Nat × Nat × Nat) × Unit→Prop)=>∃ (h:True),∃ (h:True),∃ (h:True),post (((Zp a).fst,(Zp b).fst,(Zp c).fst),
 ())
theorem Z1eq (a:Nat) (b:Nat) (c:Nat):Zt3  a b c (fun r=>r=Z65 a b c):=by
 exact ⟨trivial,trivial,trivial,rfl⟩
def Zt4:=fun (a b:Nat × Nat × Nat) (post:(Nat × Nat × Nat) × Unit→Prop)=>∀ (a_1:Nat),FRes f64 (f64.format.sub a.fst b.fst) a_1→∀
 (a_2:Nat),FRes f64 (f64.format.sub a.snd.fst b.snd.fst) a_2→∀ (a_3:Nat),FRes f64 (f64.format.sub a.snd.snd b.snd.snd)
 a_3→∃ (h:True),post (((Z65 a_1 a_2 a_3).fst.fst,(Z65 a_1 a_2 a_3).fst.snd.fst,(Z65 a_1 a_2 a_3).fst.snd.snd),())
theorem Z1er (a:Nat × Nat × Nat) (b:Nat × Nat × Nat) (h:WV2 a b):Zt4  a b (fun r=>r=Z93 a b):=by
 intro x hx y hy z hz
 exact ⟨trivial,congrArg r1 (Zh6 (fsub hx).1 (fsub hy).1 (fsub hz).1)⟩
def Zt5:=fun (a b:Nat × Nat × Nat) (post:(Nat × Nat × Nat) × Unit→Prop)=>∀ (a_1:Nat),FRes f64 (f64.format.mul a.snd.fst b.snd.snd)
 a_1→∀ (a_2:Nat),FRes f64 (f64.format.mul a.snd.snd b.snd.fst) a_2→∀ (a_3:Nat),FRes f64 (f64.format.sub a_1 a_2) a_3 →
 ∀ (a_4:Nat),FRes f64 (f64.format.mul a.snd.snd b.fst) a_4→∀ (a_5:Nat),FRes f64 (f64.format.mul a.fst b.snd.snd) a_5→∀
 (a_6:Nat),FRes f64 (f64.format.sub a_4 a_5) a_6→∀ (a_7:Nat),FRes f64 (f64.format.mul a.fst b.snd.fst) a_7→∀ (a_8 :
 Nat),FRes f64 (f64.format.mul a.snd.fst b.fst) a_8→∀ (a:Nat),FRes f64 (f64.format.sub a_7 a_8) a→∃ (h:True),post
 (((Z65 a_3 a_6 a).fst.fst,(Z65 a_3 a_6 a).fst.snd.fst,(Z65 a_3 a_6 a).fst.snd.snd),())
theorem Z1es (a:Nat × Nat × Nat) (b:Nat × Nat × Nat):Zt5  a b (fun r=>r=Zs3 a b):=by
 intro x1 h1 x2 h2 x3 h3 x4 h4 x5 h5 x6 h6 x7 h7 x8 h8 x9 h9
 exact ⟨trivial,congrArg r1 (Zh6 (Z14j (fmul h1).1 (fmul h2).1 (fsub h3).1) (Z14j (fmul h4).1 (fmul h5).1 (fsub h6).1) (Z14j (fmul h7).1 (fmul h8).1 (fsub h9).1))⟩
def Zt6:=fun (a:Nat) (post:Nat × Unit→Prop)=>∃ (h:True),∀ (a_1:Nat × Unit),Zit a a_1→post (a_1.fst,())
theorem Z1et (a:Nat):Zt6  a (fun r=>Zit a r):=by
 exact ⟨trivial,fun x hx=>hx⟩
def Zp5:=fun (a:Nat × Nat × Nat) (post:Nat × Unit→Prop)=>∀ (a_1:Nat),FRes f64 (f64.format.mul a.fst a.fst) a_1→∀ (a_2:Nat),FRes
 f64 (f64.format.mul a.snd.fst a.snd.fst) a_2→∀ (a_3:Nat),FRes f64 (f64.format.mul a.snd.snd a.snd.snd) a_3→∃ (h:W3 a_1
 a_2 a_3),∃ (h:True),∀ (a:Nat × Unit),Zit (Z107 a_1 a_2 a_3).fst a→∃ (h:True),post ((Zp a.fst).fst,())
theorem Z1a2 (a:Nat × Nat × Nat) (h:WV a):Zp5  a (fun r=>r=Z66 a):=by
 intro x hx y hy z hz
 exact ⟨⟨(fmul hx).2,(fmul hy).2,(fmul hz).2⟩,trivial,fun w hw=>⟨trivial,congrArg r1 (length_eq (fmul hx).1 (fmul hy).1 (fmul hz).1 hw.1)⟩⟩
def Z12f:=fun (a b:Nat × Nat × Nat) (post:Nat × Unit→Prop)=>∃ (h:WV2 (a.fst,a.snd.fst,a.snd.snd) (b.fst,b.snd.fst,b.snd.snd)),∃ (h:WV (Z93 (a.fst,
 a.snd.fst,a.snd.snd) (b.fst,b.snd.fst,b.snd.snd)).fst),post ((Z66 (Z93 (a.fst,a.snd.fst,a.snd.snd) (b.fst,b.snd.fst,b.snd.snd)).fst).fst,())
theorem Z1kf (a:Nat × Nat × Nat) (b:Nat × Nat × Nat) (h:WV2 a b):Z12f  a b (fun r=>r=gapR a b):=by
 exact ⟨h,Z1pa _ _,rfl⟩
def Zww:=fun (a:Nat × Nat × Nat) (post:(Nat × Nat × Nat) × Unit→Prop)=>∃ (h:WV (a.fst,a.snd.fst,a.snd.snd)),∀ (a_1:Bool),a_1=fcmp Go.BinOp.gtr
 (f64.format.order (Z66 (a.fst,a.snd.fst,a.snd.snd)).fst (0:Nat))→Br (!a_1) (post (((0:Nat),(0:Nat),(0:Nat)),())) (∃ (h:WI (Z66 (a.fst,
 a.snd.fst,a.snd.snd)).fst (1:Int)),∀ (a_2:Bool),a_2=(Z106 (Z66 (a.fst,a.snd.fst,a.snd.snd)).fst (1:Int)).fst→Br a_2 (post (((0:Nat),(0:Nat),(0:Nat)),
 ())) (∀ (a_3:Nat),FRes f64 (f64.format.div a.fst (Z66 (a.fst,a.snd.fst,a.snd.snd)).fst) a_3→∀ (a_4:Nat),FRes f64
 (f64.format.div a.snd.fst (Z66 (a.fst,a.snd.fst,a.snd.snd)).fst) a_4→∀ (a_5:Nat),FRes f64 (f64.format.div a.snd.snd (Z66
 (a.fst,a.snd.fst,a.snd.snd)).fst) a_5→∃ (h:True),post (((Z65 a_3 a_4 a_5).fst.fst,(Z65 a_3 a_4 a_5).fst.snd.fst,(Z65 a_3 a_4 a_5).fst.snd.snd),())))
theorem Z1gl (a:Nat × Nat × Nat) (h:WV a):Zww  a (fun r=>r=Z109 a):=by
 refine ⟨h,?_⟩
 have hs:=Z1g9 a
 have hg:=Z1rf hs
 rintro _ rfl
 refine Br.intro (fun e=>?_) fun e=>⟨Z17i a,?_⟩
 ·have e:(!fcmp .gtr (Ieee.double.order (Z1j a) 0))=true:=e
  rw [hg] at e
  refine (congrArg r1 (Z17j ?_)).symm
  rw [Z14k]
  rintro ⟨h1,h2⟩
  have:isN (Z1j a)=false:=by unfold isN; simp; omega
  rw [this] at e
  simp [h1] at e
 ·have e:(!fcmp .gtr (Ieee.double.order (Z1j a) 0))=false:=e
  rw [hg] at e
  have e:isN (Z1j a)=false∧Z0 (Z1j a)≠0:=by simpa using e
  have hi:infS (Z1j a) 1=decide (Z0 (Z1j a)=infR):=by unfold infS; rw [if_neg (by decide),if_neg (by decide),hs]; simp
  rintro _ rfl
  refine Br.intro (fun f=>?_) fun f=>?_
  ·have f:infS (Z1j a) 1=true:=f
   rw [hi] at f
   have f:=of_decide_eq_true f
   exact (congrArg r1 (Z17j (by rw [Z14k]; rintro ⟨h1,h2⟩; omega))).symm
  ·have f:infS (Z1j a) 1=false:=f
   rw [hi] at f
   have f:=of_decide_eq_false f
   have g:Z0 (Z1j a)≤infR:=by have:=e.1; unfold isN at this; simpa using this
   intro x hx y hy z hz
   exact ⟨trivial,congrArg r1 (Z1mc ((Z14k _).2 ⟨e.2,by omega⟩) (fdiv hx).1 (fdiv hy).1 (fdiv hz).1)⟩
end Go.Lift

namespace Go.Lift
def Z12g:=fun (a:List Nat) (post:Nat × Unit→Prop)=>∀ (a_1:Bool),a_1=((↑a.length:Int)==(0:Int))→Br a_1 (post ((0:Nat),())) (∃ (h:(0:Int)≤(0 :
 Int)∧(0:Int)<(↑a.length:Int)),∃ (h:(0:Int)≤(1:Int)∧(1:Int)≤(↑a.length:Int)∧(↑a.length:Int)≤(↑a.length:Int)),HIs [] []∧∃ (I:Nat × Int × Unit →
 Unit→Prop),∃ (μ:Nat × Int × Unit→Unit→Nat),I (a.getD (Int.toNat (0:Int)) (0:Nat),(0:Int),()) ()∧∀ (x:Nat × Int × Unit) (y:Unit),I x y→∀ (a_2:Bool),
 a_2=decide (x.snd.fst<(↑(List.take ((↑a.length:Int) - (1:Int)).toNat (List.drop (Int.toNat (1:Int)) a)).length:Int))→Br a_2 (∃ (h:(0:Int)≤x.snd.fst∧x.snd.fst
 < (↑(List.take ((↑a.length:Int) - (1:Int)).toNat (List.drop (Int.toNat (1:Int)) a)).length:Int)),∀ (a_3:Nat),FRes f64 (f64.format.add x.fst
 ((List.take ((↑a.length:Int) - (1:Int)).toNat (List.drop (Int.toNat (1:Int)) a)).getD x.snd.fst.toNat (0:Nat))) a_3→HIs [] []∧I (a_3,i64.wrap (x.snd.fst+(1
 : Int)),()) ()∧μ (a_3,i64.wrap (x.snd.fst+(1:Int)),()) ()<μ x y) (∃ (h:True),post ((Z1d2 x.fst).fst,())))
theorem Z1kg (a:List Nat) (h:WL a) (w:KS.wf [.slice (.flt .f64)] (a,())):Z12g  a (fun r=>r=rowR a):=by
 have hl:a.length≤maxN:=w.1.1
 unfold maxN at hl
 rintro _ rfl
 refine Br.intro (fun e=>?_) fun e=>?_
 ·have e:a.length=0:=by have:=eq_of_beq e; omega
  have:a=[]:=List.eq_nil_of_length_eq_zero e
  subst this; rfl
 ·have e:0<a.length:=by
   rcases Nat.eq_zero_or_pos a.length with z | z
   ·rw [z] at e; cases e
   ·exact z
  refine ⟨⟨by omega,by omega⟩,⟨by omega,by omega,by omega⟩,rfl,fun x _=>∃ i:Nat,x.2.1=i∧i+1≤a.length∧W64 x.1∧Z5 x.1=rowQ (a.take (i+1)),fun x _=>a.length - x.2.1.toNat,⟨0,rfl,by omega,Z1re h 0,(Z1p8 e).symm⟩,?_⟩
  have ht:List.take ((a.length:Int) - 1).toNat (List.drop (Int.toNat 1) a)=a.drop 1:=by
   show List.take ((a.length:Int) - 1).toNat (List.drop 1 a)=a.drop 1
   apply List.take_of_length_le; rw [List.length_drop]; omega
  rw [ht]
  have hd:∀ i,(a.drop 1).getD i 0=a.getD (i+1) 0:=by
   intro i; rw [List.getD_eq_getElem?_getD,List.getD_eq_getElem?_getD,List.getElem?_drop,Nat.add_comm]
  rintro ⟨acc,_,⟨⟩⟩ _ ⟨i,hi,hil,hw,hq⟩
  dsimp only at hi hw hq
  subst hi
  dsimp only
  rintro _ rfl
  refine Br.intro (fun f=>?_) fun f=>?_
  ·have f:i+1<a.length:=by have:=of_decide_eq_true f; rw [List.length_drop] at this; omega
   refine ⟨⟨by omega,by rw [List.length_drop]; omega⟩,fun r hr=>?_⟩
   rw [Int.toNat_natCast,hd] at hr
   obtain ⟨q1,q2⟩:=fadd hr
   refine ⟨rfl,⟨i+1,?_,by omega,q2,?_⟩,?_⟩
   ·rw [wi ⟨by omega,by omega⟩]; omega
   ·show Z5 r=_
    rw [q1,Z1rd f (by omega),Zft (x':=rowQ (a.take (i+1))) (by rw [hq,Z1sy]) rfl]
   ·rw [wi ⟨by omega,by omega⟩]; omega
  ·have f:a.length≤i+1:=by have:=of_decide_eq_false f; rw [List.length_drop] at this; omega
   refine ⟨trivial,congrArg r1 ?_⟩
   show Z5 acc=_
   rw [hq,List.take_of_length_le f]
def Zt7:=fun (a b c:Nat) (post:Nat × Unit→Prop)=>∃ (h:(List.replicate (3:Nat) (0:Nat)).length=(3:Nat)∧(3:Nat)=(3:Nat)),∃ (h:(0:Int)≤(0 :
 Int)∧(0:Int)≤(3:Int)∧(3:Int)≤(3:Int)∧(3:Nat)=(3:Nat)),∃ (h:Zup (3:Int)),∃ (h:(0:Int)≤(1:Int)∧(1:Int)<(3:Int)),∃ (h:(0:Int) ≤
 (0:Int)∧(0:Int)<(3:Int)),∃ (h:W2 b a),Br (decide ((Znl b a).fst<(0:Int))) (∃ (h:(0:Int)≤(0:Int)∧(0:Int)<(3:Int)),∃ (h:(0:Int)≤(1:Int)
 ∧ (1:Int)<(3:Int)),∃ (h:(0:Int)≤(1:Int)∧(1:Int)<(3:Int)),∃ (h:(0:Int)≤(0:Int)∧(0:Int)<(3:Int)),∃ (h:(0:Int)≤(2:Int)∧(2:Int) <
 (3:Int)),∃ (h:(0:Int)≤(1:Int)∧(1:Int)<(3:Int)),∃ (h:W2 c a),Br (decide ((Znl c a).fst<(0:Int))) (∃ (h:(0:Int)≤(1:Int)∧(1:Int)<(3 :
 Int)),∃ (h:(0:Int)≤(2:Int)∧(2:Int)<(3:Int)),∃ (h:(0:Int)≤(2:Int)∧(2:Int)<(3:Int)),∃ (h:(0:Int)≤(1:Int)∧(1:Int)<(3:Int)),∃ (h :
 (0:Int)≤(1:Int)∧(1:Int)<(3:Int)),∃ (h:(0:Int)≤(0:Int)∧(0:Int)<(3:Int)),∃ (h:W2 c b),Br (decide ((Znl c b).fst<(0:Int))) (∃ (h:(0:Int)
 ≤ (0:Int)∧(0:Int)<(3:Int)),∃ (h:(0:Int)≤(1:Int)∧(1:Int)<(3:Int)),∃ (h:(0:Int)≤(1:Int)∧(1:Int)<(3:Int)),∃ (h:(0:Int)≤(0:Int) ∧
 (0:Int)<(3:Int)),∃ (h:(0:Int)≤(0:Int)∧(0:Int)≤(3:Int)∧(3:Int)≤(3:Int)∧(3:Nat)=[c,b,a].length),∃ (h:WL [c,b,a]),post ((rowR [c,b,
 a]).fst,())) (∃ (h:(0:Int)≤(0:Int)∧(0:Int)≤(3:Int)∧(3:Int)≤(3:Int)∧(3:Nat)=[b,c,a].length),∃ (h:WL [b,c,a]),post ((rowR [b,c,a]).fst,
 ()))) (∃ (h:(0:Int)≤(0:Int)∧(0:Int)≤(3:Int)∧(3:Int)≤(3:Int)∧(3:Nat)=[b,a,c].length),∃ (h:WL [b,a,c]),post ((rowR [b,a,c]).fst,()))) (∃ (h
 : (0:Int)≤(2:Int)∧(2:Int)<(3:Int)),∃ (h:(0:Int)≤(1:Int)∧(1:Int)<(3:Int)),∃ (h:W2 c b),Br (decide ((Znl c b).fst<(0:Int))) (∃ (h:(0 :
 Int)≤(1:Int)∧(1:Int)<(3:Int)),∃ (h:(0:Int)≤(2:Int)∧(2:Int)<(3:Int)),∃ (h:(0:Int)≤(2:Int)∧(2:Int)<(3:Int)),∃ (h:(0:Int)≤(1 :
 Int)∧(1:Int)<(3:Int)),∃ (h:(0:Int)≤(1:Int)∧(1:Int)<(3:Int)),∃ (h:(0:Int)≤(0:Int)∧(0:Int)<(3:Int)),∃ (h:W2 c a),Br (decide ((Znl c
 a).fst<(0:Int))) (∃ (h:(0:Int)≤(0:Int)∧(0:Int)<(3:Int)),∃ (h:(0:Int)≤(1:Int)∧(1:Int)<(3:Int)),∃ (h:(0:Int)≤(1:Int)∧(1:Int)<(3 :
 Int)),∃ (h:(0:Int)≤(0:Int)∧(0:Int)<(3:Int)),∃ (h:(0:Int)≤(0:Int)∧(0:Int)≤(3:Int)∧(3:Int)≤(3:Int)∧(3:Nat)=[c,a,b].length),∃ (h :
 WL [c,a,b]),post ((rowR [c,a,b]).fst,())) (∃ (h:(0:Int)≤(0:Int)∧(0:Int)≤(3:Int)∧(3:Int)≤(3:Int)∧(3:Nat)=[a,c,b].length),∃ (h:WL [a,c,
 b]),post ((rowR [a,c,b]).fst,()))) (∃ (h:(0:Int)≤(0:Int)∧(0:Int)≤(3:Int)∧(3:Int)≤(3:Int)∧(3:Nat)=(3:Nat)),∃ (h:WL [a,b,c]),post ((rowR
 [a,b,c]).fst,())))
theorem Z1eu (a:Nat) (b:Nat) (c:Nat) (h:W3 a b c):Zt7  a b c (fun r=>r=Z107 a b c):=by
 obtain ⟨ha,hb,hc⟩:=h
 have leaf:∀ l,Zfu a b c=l→((rowR l).fst,())=Z107 a b c:=by rintro _ rfl; rfl
 refine ⟨⟨rfl,rfl⟩,⟨by decide,by decide,by decide,rfl⟩,rfl,by decide,by decide,⟨hb,ha⟩,Br.intro (fun e=>⟨by decide,by decide,by decide,by decide,by decide,by decide,⟨hc,ha⟩,Br.intro (fun f=>⟨by decide,by decide,by decide,by decide,by decide,by decide,⟨hc,hb⟩,Br.intro (fun g=>⟨by decide,by decide,by decide,by decide,⟨by decide,by decide,by decide,rfl⟩,WL3 hc hb ha,leaf _ ?_⟩) fun g=>⟨⟨by decide,by decide,by decide,rfl⟩,WL3 hb hc ha,leaf _ ?_⟩⟩) fun f=>⟨⟨by decide,by decide,by decide,rfl⟩,WL3 hb ha hc,leaf _ ?_⟩⟩) fun e=>⟨by decide,by decide,⟨hc,hb⟩,Br.intro (fun f=>⟨by decide,by decide,by decide,by decide,by decide,by decide,⟨hc,ha⟩,Br.intro (fun g=>⟨by decide,by decide,by decide,by decide,⟨by decide,by decide,by decide,rfl⟩,WL3 hc ha hb,leaf _ ?_⟩) fun g=>⟨⟨by decide,by decide,by decide,rfl⟩,WL3 ha hc hb,leaf _ ?_⟩⟩) fun f=>⟨⟨by decide,by decide,by decide,rfl⟩,WL3 ha hb hc,leaf _ ?_⟩⟩⟩
 ·have e:ltM b a=true:=e
  have f:ltM c a=true:=f
  have g:ltM c b=true:=g
  unfold Zfu; rw [e,f,g]; rfl
 ·have e:ltM b a=true:=e
  have f:ltM c a=true:=f
  have g:ltM c b=false:=g
  unfold Zfu; rw [e,f,g]; rfl
 ·have e:ltM b a=true:=e
  have f:ltM c a=false:=f
  unfold Zfu; rw [e,f]; rfl
 ·have e:ltM b a=false:=e
  have f:ltM c b=true:=f
  have g:ltM c a=true:=g
  unfold Zfu; rw [e,f,g]; rfl
 ·have e:ltM b a=false:=e
  have f:ltM c b=true:=f
  have g:ltM c a=false:=g
  unfold Zfu; rw [e,f,g]; rfl
 ·have e:ltM b a=false:=e
  have f:ltM c b=false:=f
  unfold Zfu; rw [e,f]; rfl
end Go.Lift

namespace Go.Lift
open Go.Proofs
def Z12h:Cx:=⟨Z1o Z1w,Z1t [(276,Zp4),(248,Zht)],SqG⟩
theorem Zp6:CxOk Tryz.prog Z12h:=⟨Zl Zv,Zq ⟨Z1a1,Zy3,trivial⟩⟩
def Zwx:Con:=.det [.slice (.flt .f64)] [.snap (.flt .f64)] (fun x=>WL x.1) (fun x=>rowR x.1)
theorem Z1gm:SqH Zwx 251 :=
 dP Zp6 Z3 Zb ({ loops:=fun k=>match k with | 5=>some { ls:=[(.slot 3,.data (.flt .f64)),(.slot 15,.data (.int .i64))],os:=[] } | _=>none,joins:=fun _=>none,named:=true }) Tryz.func251 (fun x p=>Z12g  x.1 p) fun x h w=>Z1kg  x.1 h w
def Z12i:Cx:=addC 251 Zwx Z12h
theorem Z1a3:CxOk Tryz.prog Z12i:=Zk Zp6 Z1gm
def Z7e:Con:=.det [.int .u64] [.snap (.int .i64)] (fun x=>Zup x.1) (fun x=>twoR x.1)
def Zjq:Cx:=⟨Z1o Z1w,fun _=>none,SqG⟩
theorem Zt8:CxOk Tryz.prog Zjq:=⟨Zl Zv,fun f c h=>by cases h⟩
theorem Zy4:FnAt Tryz.prog 245 Tryz.f245.ntmps Tryz.f245.results.toList (Tryz.f245.body.getD .skip):=⟨Tryz.f245,Tryz.func245,rfl,rfl,by simp,by decide⟩
theorem Zy5 (post:Int × Unit→Prop):Z3m Zjq noHn Tryz.f245.ntmps Tryz.f245.results.toList (Tryz.f245.body.getD .skip) [.int .u64] [.snap (.int .i64)] ((3:Int),()) post=(∃ (h:(0:Int)≤(3:Int)∧(3:Int)<(256:Int)),post ((2:Int),())):=by kernel_rfl
theorem Zb7:Z7e.holds Tryz.prog SqG 245:=by
 refine Z17e Zt8 Z3 noHn Zy4 ?_
 rintro ⟨a,⟨⟩⟩ h
 have h:a=(3:Int):=h
 subst h
 exact (Zy5 _).mpr ⟨by decide,rfl⟩
def Z12j:Cx:=addC 245 Z7e Z12i
theorem Z1a4:CxOk Tryz.prog Z12j:=Zk Z1a3 Zb7
def Zp7:Con:=.det [.int .u64] [.snap (.int .i64)] (fun x=>Zup x.1) (fun x=>twoR x.1)
def Zp8:Cx:=⟨Z1o Z1w,Z1t [(245,Z7e)],SqG⟩
theorem Zy6:CxOk Tryz.prog Zp8:=⟨Zl Zv,Zq ⟨Zb7,trivial⟩⟩
theorem Z15p:FnAt Tryz.prog 275 Tryz.f275.ntmps Tryz.f275.results.toList (Tryz.f275.body.getD .skip):=⟨Tryz.f275,Tryz.func275,rfl,rfl,by simp,by decide⟩
theorem Z15q (post:Int × Unit→Prop):Z3m Zp8 noHn Tryz.f275.ntmps Tryz.f275.results.toList (Tryz.f275.body.getD .skip) [.int .u64] [.snap (.int .i64)] ((3:Int),()) post=(∃ (h:Zup 3),post ((2:Int),())):=by kernel_rfl
theorem Z1a5:Zp7.holds Tryz.prog SqG 275:=by
 refine Z17e Zy6 Z3 noHn Z15p ?_
 rintro ⟨a,⟨⟩⟩ h
 have h:a=(3:Int):=h
 subst h
 exact (Z15q _).mpr ⟨rfl,rfl⟩
def Z1kh:Cx:=addC 275 Zp7 Z12j
theorem Zp9:CxOk Tryz.prog Z1kh:=Zk Z1a4 Z1a5
def Zpa:Con:=.det [.flt .f64,.flt .f64,.flt .f64] [.snap (.flt .f64)] (fun x=>W3 x.1 x.2.1 x.2.2.1) (fun x=>Z107 x.1 x.2.1 x.2.2.1)
theorem Z1a6:SqH Zpa 209 :=
 dPI Zp9 Z3 Zb ({ loops:=fun _=>none,joins:=fun _=>none,inl:=inlL [247] }) (Z3f Zp9 Z3 Z14u 5) Tryz.func209 (fun x p=>Zt7  x.1 x.2.1 x.2.2.1 p) fun x h _=>Z1eu  x.1 x.2.1 x.2.2.1 h
end Go.Lift

namespace Go.Lift
open Go.Proofs
def Z12k:Cx:=⟨Z1o Z1w,Z1t [(99,Z3t),(246,Zp3),(209,Zpa),(240,Zcn)],SqG⟩
theorem Zpb:CxOk Tryz.prog Z12k:=⟨Zl Zv,Zq ⟨Z4v,Z1a0,Z1a6,Zlp,trivial⟩⟩
def Zpc:Con:=.det [.flt .f64,.flt .f64,.flt .f64] [.snap kVec] (fun _=>True) (fun x=>Z65 x.1 x.2.1 x.2.2.1)
theorem Z1a7:SqH Zpc 210 :=
 dP Zpb Z3 Zb nHn Tryz.func210 (fun x p=>Zt3  x.1 x.2.1 x.2.2.1 p) fun x _ _=>Z1eq  x.1 x.2.1 x.2.2.1
def Z12l:Cx:=addC 210 Zpc Z12k
theorem Zpd:CxOk Tryz.prog Z12l:=Zk Zpb Z1a7
def Zeu:Con:=.det [kVec,kVec] [.snap kVec] (fun x=>WV2 x.1 x.2.1) (fun x=>Z93 x.1 x.2.1)
theorem Zpe:SqH Zeu 175 :=
 dP Zpd Z3 Zb nHn Tryz.func175 (fun x p=>Zt4  x.1 x.2.1 p) fun x h _=>Z1er  x.1 x.2.1 h
def Z12m:Cx:=addC 175 Zeu Z12l
theorem Zev:CxOk Tryz.prog Z12m:=Zk Zpd Zpe
def Zpf:Con:=.det [kVec,kVec] [.snap kVec] (fun _=>True) (fun x=>Zs3 x.1 x.2.1)
theorem Z1a8:SqH Zpf 174 :=
 dP Zev Z3 Zb nHn Tryz.func174 (fun x p=>Zt5  x.1 x.2.1 p) fun x _ _=>Z1es  x.1 x.2.1
def Zpg:Con:=.rel [.flt .f64] [.snap (.flt .f64)] (fun _=>True) (fun x r=>Zit x.1 r) (fun x h=>Z1ho (Z1hm _) (Z14e _))
theorem Z1a9:SqH Zpg 208 :=
 rP Zev Z3 Zb nHn Tryz.func208 (fun x p=>Zt6  x.1 p) fun x _ _=>Z1et  x.1
def Z12n:Cx:=addC 208 Zpg Z12m
theorem Zph:CxOk Tryz.prog Z12n:=Zk Zev Z1a9
def Zco:Con:=.det [kVec] [.snap (.flt .f64)] (fun x=>WV x.1) (fun x=>Z66 x.1)
theorem Zlq:SqH Zco 173 :=
 dP Zph Z3 Zb nHn Tryz.func173 (fun x p=>Zp5  x.1 p) fun x h _=>Z1a2  x.1 h
def Z1ki:Cx:=addC 173 Zco Z12n
theorem Zpi:CxOk Tryz.prog Z1ki:=Zk Zph Zlq
def Zwy:Con:=.det [kVec,kVec] [.snap (.flt .f64)] (fun x=>WV2 x.1 x.2.1) (fun x=>gapR x.1 x.2.1)
theorem Z1gn:SqH Zwy 113 :=
 dP Zpi Z3 Zb nHn Tryz.func113 (fun x p=>Z12f  x.1 x.2.1 p) fun x h _=>Z1kf  x.1 x.2.1 h
def Zt9:Con:=.det [kVec] [.snap kVec] (fun x=>WV x.1) (fun x=>Z109 x.1)
theorem Z1ev:SqH Zt9 211 :=
 dP Zpi Z3 Zb nHn Tryz.func211 (fun x p=>Zww  x.1 p) fun x h _=>Z1gl  x.1 h
end Go.Lift

namespace Go.Lift
def Zjr:=fun (a:Int) (post:Nat × Unit→Prop)=>post (f64.nearest a,())
theorem Z12o (a:Int):Zjr  a (fun r=>r=ofIR a):=by
 exact rfl
def Zlr:=fun (a b:Int) (post:Nat × Unit→Prop)=>∀ a_1,a_1=decide (a<(1:Int))→Br a_1 (post (0,())) (∀ a_2,a_2=decide (b<(1:Int))→Br a_2 (post
 (0,())) (∃ (h:True),∃ (h:True),∀ (a_3:Nat),FRes f64 (f64.format.div (ofIR a).1 (ofIR b).1) a_3→post (a_3,())))
theorem Z15r (a:Int) (b:Int) (h:II a b):Zlr  a b (fun r=>r=Z4d a b):=by
 rintro _ rfl
 refine Br.intro (fun e=>?_) fun e=>?_
 ·exact congrArg r1 (by unfold Z94; rw [if_pos (.inl (of_decide_eq_true e))])
 ·rintro _ rfl
  refine Br.intro (fun f=>?_) fun f=>?_
  ·exact congrArg r1 (by unfold Z94; rw [if_pos (.inr (of_decide_eq_true f))])
  ·have e:=of_decide_eq_false e
   have f:=of_decide_eq_false f
   refine ⟨trivial,trivial,fun r hr=>congrArg r1 ?_⟩
   rw [Z1ht h.1 (by omega) h.2 hr]
   unfold Z94; rw [if_neg (by omega)]
def Zpj:=fun (a:Nat) (post:Nat × Unit→Prop)=>∃ (h:WNum a),post ((Zdw a).1,())
theorem Z1aa (a:Nat) (h:WNum a):Zpj  a (fun r=>r=Zdw a):=by
 exact ⟨h,rfl⟩
def Zta:=fun (a:Nat) (post:Int × Unit→Prop)=>∃ (h:WNum a),∀ (a_1:Int),F2I f64 (Zdw a).1 u64 a_1→∀ (a_2:Nat),FRes
 f64 (f64.format.sub a (Zdw a).1) a_2→∀ a,a=fcmp Go.BinOp.gtr (f64.format.order a_2 (4602678819172646912:Nat))→Br a (post
 (u64.wrap (a_1+1),())) (∀ a,a=fcmp Go.BinOp.eql (f64.format.order a_2 (4602678819172646912:Nat))→Br a (∃ (h:(2:Int)≠(0:Int)),∀ a,a =
 (a_1.tmod (2:Int)==(1:Int))→Br a (post (u64.wrap (a_1+1),())) (post (a_1,()))) (post (a_1,())))
theorem Z1ew (a:Nat) (h:Zno a):Zta  a (fun r=>r=Znn a):=by
 have hw:W64 a:=by unfold Zno Z1l at h; unfold W64; omega
 have hn:isN a=false:=by
  have:=(Zdv (r:=a) (by unfold Zno Z1l at h; omega)).2.1
  unfold isN; rw [this,decide_eq_false_iff_not]; unfold Zno Z1l at h; unfold infR; omega
 refine ⟨⟨hw,hn⟩,?_⟩
 intro n hn2
 have hn2:=Z1mh h hn2
 subst hn2
 intro d hd
 have hd:∀ z,Ieee.double.order d z=Ieee.double.order (subQ a (Z1h a)) z:=Z10f hd
 obtain ⟨_,r1',r2'⟩:=Z17l h
 have hwp:u64.wrap (Z4y (Z1h a)+1)=Z4y (Z1h a)+1:=wu1 ⟨by omega,by omega⟩
 have tm:(Z4y (Z1h a)).tmod 2=Z4y (Z1h a) % 2:=Int.tmod_eq_emod_of_nonneg r1'
 rintro _ rfl
 refine Br.intro (fun e=>?_) fun e=>?_
 ·rw [show f64.format.order d 4602678819172646912=_ from hd _] at e
  exact congrArg r1 (by rw [hwp]; unfold Z5f; rw [if_pos (by rw [show fcmp .gtr (Ieee.double.order (subQ a (Z1h a)) Z3b)=true from e]; rfl)])
 ·rw [show f64.format.order d 4602678819172646912=_ from hd _] at e
  rintro _ rfl
  refine Br.intro (fun f=>?_) fun f=>?_
  ·rw [show f64.format.order d 4602678819172646912=_ from hd _] at f
   refine ⟨by decide,?_⟩
   rintro _ rfl
   refine Br.intro (fun g=>?_) fun g=>?_
   ·rw [tm] at g
    exact congrArg r1 (by rw [hwp]; unfold Z5f; rw [if_pos (by rw [show fcmp .eql (Ieee.double.order (subQ a (Z1h a)) Z3b)=true from f,g,Bool.true_and,Bool.or_true])])
   ·rw [tm] at g
    exact congrArg r1 (by unfold Z5f; rw [if_neg (by rw [show fcmp .gtr (Ieee.double.order (subQ a (Z1h a)) Z3b)=false from e,g,Bool.and_false]; decide)])
  ·rw [show f64.format.order d 4602678819172646912=_ from hd _] at f
   exact congrArg r1 (by unfold Z5f; rw [if_neg (by rw [show fcmp .gtr (Ieee.double.order (subQ a (Z1h a)) Z3b)=false from e,show fcmp .eql (Ieee.double.order (subQ a (Z1h a)) Z3b)=false from f,Bool.false_and]; decide)])
def Zpk:=fun (a:Nat) (post:Int × Bool × Unit→Prop)=>∃ (h:W64 a),∀ a_1,a_1=fcmp Go.BinOp.lss (f64.format.order (absR a).1 (4890909195324358656
 : Nat))→Br a_1 (∃ (h:Zno (absR a).1),∀ a_2,a_2=fcmp Go.BinOp.lss (f64.format.order a (0:Nat))→Br a_2 (post (i64.wrap ((0:Int) -
 i64.wrap (Znn (absR a).1).1),true,())) (post (i64.wrap (Znn (absR a).1).1,true,()))) (∀ a_2,a_2=fcmp Go.BinOp.eql
 (f64.format.order a (14114281232179134464:Nat))→Br a_2 (post ((-9223372036854775808:Int),true,())) (post (0,false,())))
theorem Z1ab (a:Nat) (h:W64 a):Zpk  a (fun r=>r=Zh8 a):=by
 refine ⟨h,?_⟩
 rintro _ rfl
 refine Br.intro (fun e=>?_) fun e=>?_
 ·have e:fcmp .lss (Ieee.double.order (Z0 a) Z1l)=true:=e
  rw [Zxq] at e
  have e:=of_decide_eq_true e
  have hn:isN a=false:=by unfold isN; rw [decide_eq_false_iff_not]; unfold Z1l at e; unfold infR; omega
  refine ⟨e,?_⟩
  rintro _ rfl
  refine Br.intro (fun f=>?_) fun f=>?_
  ·rw [show fcmp .lss (f64.format.order a 0)=_ from Znp hn] at f
   unfold Zh8 Z5g; rw [if_pos e,if_pos f]; rfl
  ·rw [show fcmp .lss (f64.format.order a 0)=_ from Znp hn] at f
   unfold Zh8 Z5g; rw [if_pos e,if_neg (by rw [f]; decide)]; rfl
 ·have e:fcmp .lss (Ieee.double.order (Z0 a) Z1l)=false:=e
  rw [Zxq] at e
  have e:=of_decide_eq_false e
  rintro _ rfl
  refine Br.intro (fun f=>?_) fun f=>?_
  ·rw [show fcmp .eql (f64.format.order a 14114281232179134464)=_ from Z1hr h] at f
   unfold Zh8 Z5g; rw [if_neg e,if_pos (show a=Z1l+9223372036854775808 from of_decide_eq_true f)]
  ·rw [show fcmp .eql (f64.format.order a 14114281232179134464)=_ from Z1hr h] at f
   unfold Zh8 Z5g; rw [if_neg e,if_neg (show ¬ a=Z1l+9223372036854775808 from of_decide_eq_false f)]
end Go.Lift

namespace Go.Lift
open Go.Proofs
def Z12p:Cx:=⟨Z1o Z1w,Z1t [(152,Z80)],SqG⟩
theorem Zpl:CxOk Tryz.prog Z12p:=⟨Zl Zv,Zq ⟨Zb5,trivial⟩⟩
def Zhu:Con:=.det [.int .i64] [.snap (.flt .f64)] (fun _=>True) (fun x=>ofIR x.1)
theorem Zy7:SqH Zhu 167 :=
 dP Zpl Z3 Zb nHn Tryz.func167 (fun x p=>Zjr  x.1 p) fun x _ _=>Z12o  x.1
def Z12q:Cx:=addC 167 Zhu Z12p
theorem Zpm:CxOk Tryz.prog Z12q:=Zk Zpl Zy7
def Z5o:Con:=.det [.int .i64,.int .i64] [.snap (.flt .f64)] (fun x=>II x.1 x.2.1) (fun x=>Z4d x.1 x.2.1)
theorem Z7f:SqH Z5o 89 :=
 dP Zpm Z3 Zb nHn Tryz.func89 (fun x p=>Zlr  x.1 x.2.1 p) fun x h _=>Z15r  x.1 x.2.1 h
def Zej:Con:=.det [.flt .f64] [.snap (.flt .f64)] (fun x=>WNum x.1) (fun x=>Zdw x.1)
theorem Ztb:Zej.holds Tryz.prog SqG 270:=by
 refine Z1nb (fn:=Tryz.f270) Tryz.func270 (by decide) rfl rfl (by kernel_rfl)
def Z12r:Cx:=addC 270 Zej Z12q
theorem Zpn:CxOk Tryz.prog Z12r:=Zk Zpm Ztb
def Zls:Con:=.det [.flt .f64] [.snap (.flt .f64)] (fun x=>WNum x.1) (fun x=>Zdw x.1)
theorem Z15s:SqH Zls 236 :=
 dP Zpn Z3 Zb nHn Tryz.func236 (fun x p=>Zpj  x.1 p) fun x h _=>Z1aa  x.1 h
def Z12s:Cx:=addC 236 Zls Z12r
theorem Zpo:CxOk Tryz.prog Z12s:=Zk Zpn Z15s
def Zew:Con:=.det [.flt .f64] [.snap (.int .u64)] (fun x=>Zno x.1) (fun x=>Znn x.1)
theorem Zpp:SqH Zew 202 :=
 dP Zpo Z3 Zb nHn Tryz.func202 (fun x p=>Zta  x.1 p) fun x h _=>Z1ew  x.1 h
def Z1kj:Cx:=addC 202 Zew Z12s
theorem Z1ac:CxOk Tryz.prog Z1kj:=Zk Zpo Zpp
def Zlt:Con:=.det [.flt .f64] [.snap (.int .i64),.snap .bool] (fun x=>W64 x.1) (fun x=>Zh8 x.1)
theorem Z15t:SqH Zlt 176 :=
 dP Z1ac Z3 Zb nHn Tryz.func176 (fun x p=>Zpk  x.1 p) fun x h _=>Z1ab  x.1 h
end Go.Lift

namespace Go.Lift
open Go.Proofs
def Z12t:Cx:=⟨Z1o Z1w,Z1t [(99,Z3t),(211,Zt9),(48,Z4t),(104,Z8n),(175,Zeu),(174,Zpf),(173,Zco),(176,Zlt)],SqG⟩
theorem Zpq:CxOk Tryz.prog Z12t:=⟨Zl Zv,Zq ⟨Z4v,Z1ev,Z6b,Zch,Zpe,Z1a8,Zlq,Z15t,trivial⟩⟩
def Zcp:Con:=.det [.int .i64,.int .i64] [.snap (.flt .f64)] (fun x=>Zh9 x.1 x.2.1) (fun x=>Z3p x.1 x.2.1)
theorem Zlu:SqH Zcp 180 :=
 dP Zpq Z3 Zb nHn Tryz.func180 (fun x p=>Zou  x.1 x.2.1 p) fun x h _=>Z19r  x.1 x.2.1 h
def Z12u:Cx:=addC 180 Zcp Z12t
theorem Zpr:CxOk Tryz.prog Z12u:=Zk Zpq Zlu
def Zcq:Con:=.det [.int .i64,.flt .f64,.flt .f64] [.snap kVec] (fun x=>Z10b x.1 x.2.1 x.2.2.1) (fun x=>Zdx x.1 x.2.1 x.2.2.1)
theorem Zlv:SqH Zcq 179 :=
 dP Zpr Z3 Zb ({ loops:=fun _=>none,joins:=Zw [(13,{ ls:=[],os:=[(1,236,.flt .f64)] })],unroll:=fun _=>some 4 }) Tryz.func179 (fun x p=>Zov 166 236 x.1 x.2.1 x.2.2.1 p) fun x h _=>Z19s 166 236 x.1 x.2.1 x.2.2.1 h
def Z12v:Cx:=addC 179 Zcq Z12u
theorem Zps:CxOk Tryz.prog Z12v:=Zk Zpr Zlv
def Zjs:Con:=.det [.int .i64,.int .i64,.int .i64,.int .i64] [.snap kVec,.snap .bool] (fun x=>IIII x.1 x.2.1 x.2.2.1 x.2.2.2.1) (fun x=>Z1c x.1 x.2.1 x.2.2.1 x.2.2.2.1)
theorem Z12w:SqH Zjs 178 :=
 dP Zps Z3 Zb nHn Tryz.func178 (fun x p=>Zlh  x.1 x.2.1 x.2.2.1 x.2.2.2.1 p) fun x h _=>Z15k  x.1 x.2.1 x.2.2.1 x.2.2.2.1 h
def Z12x:Cx:=addC 178 Zjs Z12v
theorem Zpt:CxOk Tryz.prog Z12x:=Zk Zps Z12w
def Z9k:Con:=.det [.int .i64,.int .i64] [.snap (.arr 4 kVec),.snap .bool] (fun x=>II x.1 x.2.1) (fun x=>Zo x.1 x.2.1)
theorem Zhv:SqH Z9k 112 :=
 dP Zpt Z3 Zb ({ loops:=fun _=>none,joins:=fun _=>none,unroll:=fun _=>some 5 }) Tryz.func112 (fun x p=>Zji  x.1 x.2.1 p) fun x h _=>Z12d  x.1 x.2.1 h
def Z1kk:Cx:=addC 112 Z9k Z12x
theorem Z1ad:CxOk Tryz.prog Z1kk:=Zk Zpt Zhv
def Zpu:Con:=.det [.int .i64,.int .i64] [.snap (.int .i64)] (fun x=>II x.1 x.2.1) (fun x=>Z10d x.1 x.2.1)
theorem Z1ae:SqH Zpu 103 :=
 dP Z1ad Z3 Zb nHn Tryz.func103 (fun x p=>Zsv  x.1 x.2.1 p) fun x h _=>Z1en  x.1 x.2.1 h
end Go.Lift

namespace Go.Lift
def Zlw:=fun (n c:Int) (post:(Nat × Nat × Nat) × Bool × Unit→Prop)=>∃ (h:II n c),Br (!(Z4 n c).2.2.2.1) (post ((0,0,0),false,())) (∃ (h :
 Zh9 (i64.wrap (i64.wrap (i64.wrap ((2:Int)*(Z4 n c).2.1)+(1:Int)) - n)) n),∃ (h:Zh9 (i64.wrap (i64.wrap
 (i64.wrap ((2:Int)*(Z4 n c).2.2.1)+(1:Int)) - n)) n),∃ (h:Z10b (Z4 n c).1 (Z3p (i64.wrap (i64.wrap (i64.wrap ((2:Int) *
 (Z4 n c).2.1)+(1:Int)) - n)) n).1 (Z3p (i64.wrap (i64.wrap (i64.wrap ((2:Int)*(Z4 n c).2.2.1)+(1:Int)) - n)) n).1),post (((Zdx
 (Z4 n c).1 (Z3p (i64.wrap (i64.wrap (i64.wrap ((2:Int)*(Z4 n c).2.1)+(1:Int)) - n)) n).1 (Z3p (i64.wrap (i64.wrap
 (i64.wrap ((2:Int)*(Z4 n c).2.2.1)+(1:Int)) - n)) n).1).1.1,(Zdx (Z4 n c).1 (Z3p (i64.wrap (i64.wrap (i64.wrap ((2:Int)
 * (Z4 n c).2.1)+(1:Int)) - n)) n).1 (Z3p (i64.wrap (i64.wrap (i64.wrap ((2:Int)*(Z4 n c).2.2.1)+(1:Int)) - n)) n).1).1.2.1,
 (Zdx (Z4 n c).1 (Z3p (i64.wrap (i64.wrap (i64.wrap ((2:Int)*(Z4 n c).2.1)+(1:Int)) - n)) n).1 (Z3p (i64.wrap
 (i64.wrap (i64.wrap ((2:Int)*(Z4 n c).2.2.1)+(1:Int)) - n)) n).1).1.2.2),true,()))
theorem Z15u (n:Int) (c:Int) (h:II n c):Zlw  n c (fun r=>r=Z8g n c):=by
 refine ⟨h,?_⟩
 by_cases ok:Zd n c=true
 ·rw [Z1db ok]
  obtain ⟨n1,n2,f0,f5,i0,i1,j0,j1⟩:=Ze6 ok
  dsimp only
  refine Br.intro (fun e=>absurd e (by decide)) fun _=>?_
  have w1:i64.wrap (i64.wrap (i64.wrap (2*(c % n))+1) - n)=2*(c % n)+1 - n:=by
   rw [wi (x:=2*(c % n)) ⟨by omega,by omega⟩,wi (x:=2*(c % n)+1) ⟨by omega,by omega⟩,wi ⟨by omega,by omega⟩]
  have w2:i64.wrap (i64.wrap (i64.wrap (2*(c / n % n))+1) - n)=2*(c / n % n)+1 - n:=by
   rw [wi (x:=2*(c / n % n)) ⟨by omega,by omega⟩,wi (x:=2*(c / n % n)+1) ⟨by omega,by omega⟩,wi ⟨by omega,by omega⟩]
  rw [w1,w2]
  refine ⟨⟨⟨by omega,by omega⟩,n1,h.1⟩,⟨⟨by omega,by omega⟩,n1,h.1⟩,⟨f0,f5,Z8b _ _,Z8b _ _⟩,?_⟩
  unfold Z8g; rw [if_pos ok]; rfl
 ·rw [Z1dc ok]
  refine Br.intro (fun _=>?_) fun e=>absurd e (by decide)
  unfold Z8g; rw [if_neg ok]
def Zlx:=fun (n c o:Int) (post:Nat × Unit→Prop)=>∃ (h:II n c),∃ (h:(List.replicate (4:Nat) ((K.flt f64).pair ((K.flt f64).pair
 (K.flt f64))).dflt).length=(4:Nat)∧(Zo n c).1.length=(4:Nat)),Br (!(Zo n c).2.1) (post ((0:Nat),())) (∀ a,a=decide (o<(0:Int))→Br a
 (post ((0:Nat),())) (∀ a,a=decide (o > (3:Int))→Br a (post ((0:Nat),())) (∃ (h:(0:Int)≤o∧o<(↑(4:Nat):Int)),∃ (h:(List.replicate (2:Nat) (0 :
 Int)).length=(2:Nat)∧List.length ([[(1:Int),(2:Int)],[(3:Int),(2:Int)],[(0:Int),(3:Int)],[(0:Int),(1:Int)]].getD o.toNat (K.arr (2:Nat) (K.int
 i64)).dflt)=(2:Nat)),∃ (h:(0:Int)≤(0:Int)∧(0:Int)<(↑(2:Nat):Int)∧(2:Nat)≤List.length ([[(1:Int),(2:Int)],[(3:Int),(2:Int)],[(0 :
 Int),(3:Int)],[(0:Int),(1:Int)]].getD o.toNat (K.arr (2:Nat) (K.int i64)).dflt)),∃ (h:(0:Int)≤List.getD ([[(1:Int),(2:Int)],[(3:Int),(2:Int)],
 [(0:Int),(3:Int)],[(0:Int),(1:Int)]].getD o.toNat (K.arr (2:Nat) (K.int i64)).dflt) (Int.toNat (0:Int)) (0:Int)∧List.getD ([[(1:Int),(2:Int)],[(3
 : Int),(2:Int)],[(0:Int),(3:Int)],[(0:Int),(1:Int)]].getD o.toNat (K.arr (2:Nat) (K.int i64)).dflt) (Int.toNat (0:Int)) (0:Int)<(↑(4:Nat):Int) ∧
 (4:Nat)≤(Zo n c).1.length),∃ (h:(0:Int)≤(1:Int)∧(1:Int)<(↑(2:Nat):Int)∧(2:Nat)≤List.length ([[(1:Int),(2:Int)],[(3:Int),(2:Int)],[(0
 : Int),(3:Int)],[(0:Int),(1:Int)]].getD o.toNat (K.arr (2:Nat) (K.int i64)).dflt)),∃ (h:(0:Int)≤List.getD ([[(1:Int),(2:Int)],[(3:Int),(2 :
 Int)],[(0:Int),(3:Int)],[(0:Int),(1:Int)]].getD o.toNat (K.arr (2:Nat) (K.int i64)).dflt) (Int.toNat (1:Int)) (0:Int)∧List.getD ([[(1:Int),(2 :
 Int)],[(3:Int),(2:Int)],[(0:Int),(3:Int)],[(0:Int),(1:Int)]].getD o.toNat (K.arr (2:Nat) (K.int i64)).dflt) (Int.toNat (1:Int)) (0:Int)<(↑(4 :
 Nat):Int)∧(4:Nat)≤(Zo n c).1.length),∃ (h:WV2 ((Zo n c).1.getD (Int.toNat (List.getD ([[(1:Int),(2:Int)],[(3:Int),(2:Int)],[(0:Int),(3 :
 Int)],[(0:Int),(1:Int)]].getD o.toNat (K.arr (2:Nat) (K.int i64)).dflt) (Int.toNat (0:Int)) (0:Int))) ((K.flt f64).pair ((K.flt
 f64).pair (K.flt f64))).dflt) ((Zo n c).1.getD (Int.toNat (List.getD ([[(1:Int),(2:Int)],[(3:Int),(2:Int)],[(0:Int),(3:Int)],[(0
 : Int),(1:Int)]].getD o.toNat (K.arr (2:Nat) (K.int i64)).dflt) (Int.toNat (1:Int)) (0:Int))) ((K.flt f64).pair ((K.flt f64).pair (K.flt
 f64))).dflt)),post ((gapR ((Zo n c).1.getD (Int.toNat (List.getD ([[(1:Int),(2:Int)],[(3:Int),(2:Int)],[(0:Int),(3:Int)],[(0:Int),(1 :
 Int)]].getD o.toNat (K.arr (2:Nat) (K.int i64)).dflt) (Int.toNat (0:Int)) (0:Int))) ((K.flt f64).pair ((K.flt f64).pair (K.flt
 f64))).dflt) ((Zo n c).1.getD (Int.toNat (List.getD ([[(1:Int),(2:Int)],[(3:Int),(2:Int)],[(0:Int),(3:Int)],[(0:Int),(1:Int)]].getD
 o.toNat (K.arr (2:Nat) (K.int i64)).dflt) (Int.toNat (1:Int)) (0:Int))) ((K.flt f64).pair ((K.flt f64).pair (K.flt
 f64))).dflt)).1,()))))
theorem Z15v (n:Int) (c:Int) (o:Int) (h:III n c o):Zlx  n c o (fun r=>r=Zhc n c o):=by
 have cl:=Zwc n c
 refine ⟨⟨h.1,h.2.1⟩,⟨rfl,cl⟩,?_⟩
 have no:Zg n c o=false→((0:Nat),())=Zhc n c o:=fun q=>congrArg r1 (by unfold Z4r; rw [if_neg (by rw [q]; decide)])
 rw [Znq]
 refine Br.intro (fun e=>no ?_) fun e=>?_
 ·unfold Zg; rw [show Zd n c=false by simpa using e]; rfl
 have ok:Zd n c=true:=by simpa using e
 rintro _ rfl
 refine Br.intro (fun e=>no ?_) fun e=>?_
 ·have e:=of_decide_eq_true e
  unfold Zg; rw [decide_eq_false (p:=0≤o) (by omega)]; simp
 have o0:=of_decide_eq_false e
 rintro _ rfl
 refine Br.intro (fun e=>no ?_) fun e=>?_
 ·have e:=of_decide_eq_true e
  unfold Zg; rw [decide_eq_false (p:=o<4) (by omega)]; simp
 have o4:=of_decide_eq_false e
 have o0:0≤o:=by omega
 have o4:o<4:=by omega
 have okb:Zg n c o=true:=by unfold Zg; rw [ok,decide_eq_true o0,decide_eq_true o4]; rfl
 have hc:∀ i:Int,0≤i→i≤3→(Zo n c).1.getD i.toNat ((K.flt f64).pair ((K.flt f64).pair (K.flt f64))).dflt=Zfw n c i:=fun i a b=>Z1mz ok a b _
 have c0:=hc 0 (by decide) (by decide)
 have c1:=hc 1 (by decide) (by decide)
 have c2:=hc 2 (by decide) (by decide)
 have c3:=hc 3 (by decide) (by decide)
 have fin:∀ A B:Nat × Nat × Nat,A=Zfw n c (endA o)→B=Zfw n c (endB o)→(gapQ A B,())=Zhc n c o:=by
  intro A B hA hB
  rw [hA,hB]; exact congrArg r1 (by unfold Z4r; rw [if_pos okb])
 have wA:∀ i,WV (Zfw n c i):=Z1rr n c
 generalize hQ:(Zo n c).fst=Q at *
 rcases Z25 o0 o4 with rfl | rfl | rfl | rfl
 ·exact ⟨⟨by decide,by decide⟩,⟨rfl,rfl⟩,⟨by decide,by decide,by decide⟩,⟨by decide,by decide,Nat.le_of_eq cl.symm⟩,⟨by decide,by decide,by decide⟩,⟨by decide,by decide,Nat.le_of_eq cl.symm⟩,⟨c1 ▸ wA 1,c2 ▸ wA 2⟩,fin _ _ c1 c2⟩
 ·exact ⟨⟨by decide,by decide⟩,⟨rfl,rfl⟩,⟨by decide,by decide,by decide⟩,⟨by decide,by decide,Nat.le_of_eq cl.symm⟩,⟨by decide,by decide,by decide⟩,⟨by decide,by decide,Nat.le_of_eq cl.symm⟩,⟨c3 ▸ wA 3,c2 ▸ wA 2⟩,fin _ _ c3 c2⟩
 ·exact ⟨⟨by decide,by decide⟩,⟨rfl,rfl⟩,⟨by decide,by decide,by decide⟩,⟨by decide,by decide,Nat.le_of_eq cl.symm⟩,⟨by decide,by decide,by decide⟩,⟨by decide,by decide,Nat.le_of_eq cl.symm⟩,⟨c0 ▸ wA 0,c3 ▸ wA 3⟩,fin _ _ c0 c3⟩
 ·exact ⟨⟨by decide,by decide⟩,⟨rfl,rfl⟩,⟨by decide,by decide,by decide⟩,⟨by decide,by decide,Nat.le_of_eq cl.symm⟩,⟨by decide,by decide,by decide⟩,⟨by decide,by decide,Nat.le_of_eq cl.symm⟩,⟨c0 ▸ wA 0,c1 ▸ wA 1⟩,fin _ _ c0 c1⟩
def Zwz:=fun (n c o:Int) (post:Nat × Unit→Prop)=>∃ (h:III n c o),∀ a,a=Z56 n c o→∃ (h:II n c),∀ a_1,a_1=Z8g n c→∃ (h:II n a.1),∀ a_2,
 a_2=Z8g n a.1→Br (!a_1.2.1) (post (0,())) (Br (!a_2.2.1) (post (0,())) (∃ (h:WV2 a_1.1 a_2.1),post ((gapR a_1.1 a_2.1).1,())))
theorem Z1go (n:Int) (c:Int) (o:Int) (h:III n c o):Zwz  n c o (fun r=>r=Z1jo n c o):=by
 have br:=Z10m n c o
 refine ⟨h,?_⟩
 rintro ⟨b,q,⟨⟩⟩ hb
 have eb:b=(Z2 n c o).1:=congrArg Prod.fst hb
 rw [← eb] at br
 refine ⟨⟨h.1,h.2.1⟩,?_⟩
 rintro ⟨⟨A1,A2,A3⟩,p,⟨⟩⟩ hA
 refine ⟨⟨h.1,by omega,by omega⟩,?_⟩
 rintro ⟨⟨B1,B2,B3⟩,r,⟨⟩⟩ hB
 have hA:((A1,A2,A3),p,())=Z8g n c:=hA
 have hB:((B1,B2,B3),r,())=Z8g n b:=hB
 have key:∀ z,Z8g n z=if Zd n z then (Zl5 n z,true,()) else ((0,0,0),false,()):=fun z=>rfl
 have bt:∀ {z:Bool},z=true→¬ (!z)=true:=fun {z} e=>by rw [e]; decide
 have bf:∀ {z:Bool},z=false→¬ (!z)=false:=fun {z} e=>by rw [e]; decide
 by_cases o1:Zd n c=true
 ·rw [key,if_pos o1] at hA
  obtain ⟨eA,e1⟩:=Prod.mk.inj hA
  have ep:p=true:=congrArg Prod.fst e1
  refine Br.intro (fun e=>absurd e (bt ep)) fun _=>?_
  by_cases o2:Zd n b=true
  ·rw [key,if_pos o2] at hB
   obtain ⟨eB,e2⟩:=Prod.mk.inj hB
   have er:r=true:=congrArg Prod.fst e2
   refine Br.intro (fun e=>absurd e (bt er)) fun _=>?_
   have hw:WV2 (A1,A2,A3) (B1,B2,B3):=⟨by rw [eA]; exact Z17s _ _,by rw [eB]; exact Z17s _ _⟩
   have hg:gapQ (A1,A2,A3) (B1,B2,B3)=gapG n c o:=by
    rw [eA,eB]; unfold gapG; rw [← eb,o1,o2,if_pos (by decide)]
   exact ⟨hw,congrArg r1 hg⟩
  ·rw [key,if_neg o2] at hB
   obtain ⟨eB,e2⟩:=Prod.mk.inj hB
   have er:r=false:=congrArg Prod.fst e2
   refine Br.intro (fun _=>congrArg r1 ?_) fun e=>absurd e (bf er)
   unfold gapG; rw [← eb,o1,show Zd n b=false by simpa using o2]; rfl
 ·rw [key,if_neg o1] at hA
  obtain ⟨eA,e1⟩:=Prod.mk.inj hA
  have ep:p=false:=congrArg Prod.fst e1
  refine Br.intro (fun _=>congrArg r1 ?_) fun e=>absurd e (bf ep)
  unfold gapG; rw [show Zd n c=false by simpa using o1]; rfl
end Go.Lift

namespace Go.Lift
open Go.Proofs
def Zx0:Cx:=⟨Z1o Z1w,Z1t [(104,Z8n),(180,Zcp),(179,Zcq),(112,Z9k),(113,Zwy),(51,Zb3)],SqG⟩
theorem Zly:CxOk Tryz.prog Zx0:=⟨Zl Zv,Zq ⟨Zch,Zlu,Zlv,Zhv,Z1gn,Zjh,trivial⟩⟩
def Zjt:Con:=Con.nam [.int .i64,.int .i64] [.snap kVec,.snap .bool] (fun x=>II x.1 x.2.1) (fun x=>Z8g x.1 x.2.1)
theorem Z12y:SqH Zjt 114 :=
 nP Zly Z3 Zb nHn Tryz.func114 (fun x p=>Zlw  x.1 x.2.1 p) fun x h _=>Z15u  x.1 x.2.1 h
def Z1gp:Cx:=addC 114 Zjt Zx0
theorem Zlz:CxOk Tryz.prog Z1gp:=Zk Zly Z12y
def Zju:Con:=Con.nam [.int .i64,.int .i64,.int .i64] [.snap (.flt .f64)] (fun x=>III x.1 x.2.1 x.2.2.1) (fun x=>Zhc x.1 x.2.1 x.2.2.1)
theorem Z12z:SqH Zju 52 :=
 nP Zlz Z3 Zb nHn Tryz.func52 (fun x p=>Zlx  x.1 x.2.1 x.2.2.1 p) fun x h _=>Z15v  x.1 x.2.1 x.2.2.1 h
def Ztc:Con:=Con.nam [.int .i64,.int .i64,.int .i64] [.snap (.flt .f64)] (fun x=>III x.1 x.2.1 x.2.2.1) (fun x=>Z1jo x.1 x.2.1 x.2.2.1)
theorem Z1ex:SqH Ztc 53 :=
 nP Zlz Z3 Zb nHn Tryz.func53 (fun x p=>Zwz  x.1 x.2.1 x.2.2.1 p) fun x h _=>Z1go  x.1 x.2.1 x.2.2.1 h
end Go.Lift

namespace Go.Lift
open Go.Proofs
def Z1kl:Cx:=⟨Z1o Z1w,Z1t [(48,Z4t),(51,Zb3),(103,Zpu),(52,Zju),(53,Ztc)],SqG⟩
theorem Zpv:CxOk Tryz.prog Z1kl:=⟨Zl Zv,Zq ⟨Z6b,Zjh,Z1ae,Z12z,Z1ex,trivial⟩⟩
def Zb8:Con:=.det [.int .i64] [.snap (.ptr Z22),.snap (.int .i64)] (fun x=>I64 x.1) (fun x=>newR x.1)
theorem Zhw:SqH Zb8 13 :=
 dPI Zpv Z3 Zb ({ loops:=Zw [(9,{ ls:=[(.slot 36,.data (.int .i64)),(.cell 1 1,.row 96 Z3k),(.cell 1 4,.row 2 (.int .i64))],os:=[(0,88,.ent (.pair (.int .i64) (.int .i64)) (.int .i64))] }),(15,{ ls:=[(.slot 49,.data (.int .i64)),(.cell 1 3,.row 98 (.arr 2 (.int .i64))),(.cell 1 5,.row 22 (.flt .f64)),(.cell 1 6,.row 22 (.flt .f64))],os:=[] })],joins:=fun _=>none,inl:=inlL [49,50],unroll:=fun k=>if k=6 then some 3 else none }) (Z3f Zpv Z3 Z19h 6) Tryz.func13 (fun x p=>Zwl 92 93 2 96 49 50 x.1 p) fun x h _=>Z1gh 92 93 2 96 49 50 x.1 h
end Go.Lift

namespace Go.Lift
def Zb9:=fun (post:Int × Unit→Prop)=>post (0,())
theorem Zo8  : Zb9   (fun r=>r=Z1y none):=by
 exact rfl
def Zba:=fun (g:YG) (post:Int × Unit→Prop)=>∃ (h:some g≠none),post ((↑g.2.2.2.2.1.length:Int),())
theorem Zo9 (g:YG):Zba  g (fun r=>r=Z1y (some g)):=by
 exact ⟨by simp,rfl⟩
def Zbb:=fun (post:Int × Unit→Prop)=>post (0,())
theorem Zoa  : Zbb   (fun r=>r=Z1f none):=by
 exact rfl
def Zbc:=fun (g:YG) (post:Int × Unit→Prop)=>∃ (h:some g≠none),post ((↑g.2.1.length:Int),())
theorem Zob (g:YG):Zbc  g (fun r=>r=Z1f (some g)):=by
 exact ⟨by simp,rfl⟩
def Zbt:=fun (c:Int) (post:Int × Unit→Prop)=>post (0,())
theorem Zqp (c:Int):Zbt  c (fun r=>r=Z14 none c):=by
 exact rfl
def Zbu:=fun (g:YG) (c:Int) (post:Int × Unit→Prop)=>∀ a,a=decide (c<(0:Int))→Br a (post (0,())) (∃ (h:some g≠none),∀ a,a =
 decide (c≥(↑g.2.2.2.2.1.length:Int))→Br a (post (0,())) (∃ (h:some g≠none),∃ (h:(0:Int)≤c∧c<(↑g.2.2.2.2.1.length:Int)),post
 (g.2.2.2.2.1.getD c.toNat (0:Int),())))
theorem Zqq (g:YG) (c:Int):Zbu  g c (fun r=>r=Z14 (some g) c):=by
 rintro _ rfl
 refine Br.intro (fun e=>congrArg r1 ?_) fun e=>?_
 ·have e:=of_decide_eq_true e
  show (0:Int)=if 0≤c∧c<(g.2.2.2.2.1.length:Nat) then g.2.2.2.2.1.getD c.toNat 0 else 0
  rw [if_neg (by omega)]
 have e:=of_decide_eq_false e
 refine ⟨by simp,?_⟩
 rintro _ rfl
 refine Br.intro (fun f=>congrArg r1 ?_) fun f=>?_
 ·have f:=of_decide_eq_true f
  show (0:Int)=if 0≤c∧c<(g.2.2.2.2.1.length:Nat) then g.2.2.2.2.1.getD c.toNat 0 else 0
  rw [if_neg (by omega)]
 have f:=of_decide_eq_false f
 refine ⟨by simp,⟨by omega,by omega⟩,congrArg r1 ?_⟩
 show g.2.2.2.2.1.getD c.toNat 0=if 0≤c∧c<(g.2.2.2.2.1.length:Nat) then g.2.2.2.2.1.getD c.toNat 0 else 0
 rw [if_pos ⟨by omega,by omega⟩]
end Go.Lift

namespace Go.Lift
open Go.Proofs
def Z1km:Cx:=⟨Z1o Z1w,Z1t [],SqG⟩
theorem Zex:CxOk Tryz.prog Z1km:=⟨Zl Zv,fun f c h=>by cases h⟩
def Z2c:Con:=.det [.ptr Z22] [.snap (.int .i64)] (fun _=>True) (fun x=>Z1y x.1)
theorem Z2o:SqH Z2c 32 :=
 dPs Zex Z3 Zb nHn Tryz.func32 (fun y p=>Zb9   p) (fun z y p=>Zba  z  p) (fun y _ _=>Zo8  ) fun z y _ _=>Zo9  z
def Z2p:Con:=.det [.ptr Z22] [.snap (.int .i64)] (fun _=>True) (fun x=>Z1f x.1)
theorem Z32:SqH Z2p 31 :=
 dPs Zex Z3 Zb nHn Tryz.func31 (fun y p=>Zbb   p) (fun z y p=>Zbc  z  p) (fun y _ _=>Zoa  ) fun z y _ _=>Zob  z
def Z43:Con:=.det [.ptr Z22,.int .i64] [.snap (.int .i64)] (fun _=>True) (fun x=>Z14 x.1 x.2.1)
theorem Z5p:SqH Z43 90 :=
 dPs Zex Z3 Zb nHn Tryz.func90 (fun y p=>Zbt  y.1 p) (fun z y p=>Zbu  z y.1 p) (fun y _ _=>Zqp  y.1) fun z y _ _=>Zqq  z y.1
end Go.Lift

namespace Go.Lift
def Zm0:=fun (post:YP × Unit→Prop)=>post ((1,4602678819172646912,4607182418800017408,0,0,false,[]),())
theorem Z15w  : Zm0   (fun r=>r=Zsc):=by
 exact rfl
def Zm1:=fun (a b:List Int) (post:Bool × Unit→Prop)=>∀ a_1,a_1=((↑a.length:Int) != (↑b.length:Int))→Br a_1 (post (false,())) (HS []∧∃ (I:Int
 × Unit→Unit→Prop),∃ (μ:Int × Unit→Unit→Nat),I (0,()) ()∧∀ (x:Int × Unit) (y:Unit),I x y→∀ a_2,a_2=decide (x.1<(↑a.length:Int))→Br a_2 (∃ (h:(0 :
 Int)≤x.1∧x.1<(↑a.length:Int)),∃ (h:(0:Int)≤x.1∧x.1<(↑b.length:Int)),∀ a_3,a_3=(a.getD x.1.toNat (0:Int) != b.getD x.1.toNat (0:Int))→Br a_3 (post
 (false,())) (HS []∧I (i64.wrap (x.1+1),()) ()∧μ (i64.wrap (x.1+1),()) ()<μ x y)) (post (true,())))
theorem Z15x (a:List Int) (b:List Int) (w:KS.wf [.slice (.int .i64),.slice (.int .i64)] (a,b,())):Zm1  a b (fun r=>r=Z10p a b):=by
 have ha:a.length≤maxN:=w.1.1
 have hm:maxN≤9223372036854775807:=by decide
 rintro _ rfl
 refine Br.intro (fun e=>congrArg r1 ?_) fun e=>?_
 ·have e:¬ a.length=b.length:=fun q=>by rw [q] at e; simp at e
  exact (beq_eq_false_iff_ne.2 fun q=>e (congrArg List.length q)).symm
 have e:a.length=b.length:=by
  have:((a.length:Int)==(b.length:Int))=true:=by
   have e:(!((a.length:Int)==(b.length:Int)))=false:=e
   simpa using e
  have:=beq_iff_eq.1 this
  omega
 refine ⟨rfl,fun x _=>∃ k:Nat,x.1=k∧k≤a.length∧a.take k=b.take k,fun x _=>a.length - x.1.toNat,⟨0,rfl,by omega,rfl⟩,?_⟩
 rintro ⟨_,⟨⟩⟩ _ ⟨k,rfl,hk,hq⟩
 dsimp only
 rintro _ rfl
 refine Br.intro (fun e1=>?_) fun e1=>?_
 ·have e1:k<a.length:=by have:=of_decide_eq_true e1; omega
  rw [Int.toNat_natCast,Zz e1 (by omega)]
  have ta:=Ze2 e1 0
  have tb:=Ze2 (l:=b) (i:=k) (by omega) 0
  refine ⟨⟨by omega,by omega⟩,⟨by omega,by omega⟩,?_⟩
  rintro _ rfl
  refine Br.intro (fun e2=>congrArg r1 ?_) fun e2=>?_
  ·have e2:¬ a.getD k 0=b.getD k 0:=bne_iff_ne.1 e2
   refine (beq_eq_false_iff_ne.2 fun q=>e2 ?_).symm
   rw [q]
  ·have e2:a.getD k 0=b.getD k 0:=by
    have e2:(!(a.getD k 0==b.getD k 0))=false:=e2
    simpa using e2
   exact ⟨rfl,⟨k+1,rfl,by omega,by rw [ta,tb,hq,e2]⟩,by omega⟩
 ·have e1:k=a.length:=by have:=of_decide_eq_false e1; omega
  subst e1
  refine congrArg r1 (beq_iff_eq.2 ?_).symm
  rw [List.take_length] at hq
  rw [hq,e,List.take_length]
def Zpw:=fun (a b:YS) (post:Bool × Unit→Prop)=>∃ (h:True),∀ a_1,a_1=allR a.1 b.1→∀ a_2,a_2=a_1.1→Br a_2 (∃ (h:True),∀ a_3,a_3=Z10p a.2.1
 b.2.1→∀ a_4,a_4=a_3.1→Br a_4 (∃ (h:True),∀ a_5,a_5=Z10p a.2.2.1 b.2.2.1→∀ a_6,a_6=a_5.1→Br a_6 (∃ (h:True),∀ a_7,a_7=allR a.2.2.2.1 b.2.2.2.1→∀ a_8,
 a_8=a_7.1→Br a_8 (∀ a_9,a_9=(a.2.2.2.2.1==b.2.2.2.2.1)→Br a_9 (∀ a_10,a_10=(a.2.2.2.2.2==b.2.2.2.2.2)→post (a_10,())) (post (false,()))) (post
 (false,()))) (post (false,()))) (post (false,()))) (post (false,()))
theorem Z1af (a:YS) (b:YS):Zpw  a b (fun r=>r=Zuv a b):=by
 obtain ⟨a1,a4,a2,a3,a5,a6⟩:=a
 obtain ⟨b1,b4,b2,b3,b5,b6⟩:=b
 have key:∀ v:Bool,Z1bw (a1,a4,a2,a3,a5,a6) (b1,b4,b2,b3,b5,b6)=v→(v,())=Zuv (a1,a4,a2,a3,a5,a6) (b1,b4,b2,b3,b5,b6):=fun v h=>by unfold Zuv; rw [h]
 have bad:∀ p:Prop,((a1,a4,a2,a3,a5,a6)=(b1,b4,b2,b3,b5,b6)→p)→¬ p→(false,())=Zuv (a1,a4,a2,a3,a5,a6) (b1,b4,b2,b3,b5,b6):=fun p h hp=>key false (by unfold Z1bw; exact beq_eq_false_iff_ne.2 fun e=>hp (h e))
 refine ⟨trivial,?_⟩
 rintro _ rfl _ rfl
 refine Br.intro (fun e1=>?_) fun e1=>bad (a1=b1) (fun e=>(Prod.mk.inj e).1) (beq_eq_false_iff_ne.1 e1)
 have e1:a1=b1:=beq_iff_eq.1 e1
 refine ⟨trivial,?_⟩
 rintro _ rfl _ rfl
 refine Br.intro (fun e4=>?_) fun e4=>bad (a4=b4) (fun e=>(Prod.mk.inj (Prod.mk.inj e).2).1) (beq_eq_false_iff_ne.1 e4)
 have e4:a4=b4:=beq_iff_eq.1 e4
 refine ⟨trivial,?_⟩
 rintro _ rfl _ rfl
 refine Br.intro (fun e2=>?_) fun e2=>bad (a2=b2) (fun e=>(Prod.mk.inj (Prod.mk.inj (Prod.mk.inj e).2).2).1) (beq_eq_false_iff_ne.1 e2)
 have e2:a2=b2:=beq_iff_eq.1 e2
 refine ⟨trivial,?_⟩
 rintro _ rfl _ rfl
 refine Br.intro (fun e3=>?_) fun e3=>bad (a3=b3) (fun e=>(Prod.mk.inj (Prod.mk.inj (Prod.mk.inj (Prod.mk.inj e).2).2).2).1) (beq_eq_false_iff_ne.1 e3)
 have e3:a3=b3:=beq_iff_eq.1 e3
 rintro _ rfl
 refine Br.intro (fun e5=>?_) fun e5=>bad (a5=b5) (fun e=>(Prod.mk.inj (Prod.mk.inj (Prod.mk.inj (Prod.mk.inj (Prod.mk.inj e).2).2).2).2).1) (beq_eq_false_iff_ne.1 e5)
 have e5:a5=b5:=beq_iff_eq.1 e5
 rintro _ rfl
 have e1':a1=b1:=e1
 have e4':a4=b4:=e4
 have e2':a2=b2:=e2
 have e3':a3=b3:=e3
 have e5':a5=b5:=e5
 clear e1 e2 e3 e4 e5
 subst e1' e2' e3' e4' e5'
 by_cases e6:a6=b6
 ·subst e6
  have t:(a6==a6)=true:=beq_iff_eq.2 rfl
  show ((a6==a6),())=_
  rw [t]; exact key true (by unfold Z1bw; exact beq_iff_eq.2 rfl)
 ·have t:(a6==b6)=false:=beq_eq_false_iff_ne.2 e6
  show ((a6==b6),())=_
  rw [t]; exact bad (a6=b6) (fun e=>(Prod.mk.inj (Prod.mk.inj (Prod.mk.inj (Prod.mk.inj (Prod.mk.inj e).2).2).2).2).2) e6
def Zpx:=fun (p:YP) (s:YS) (post:Option YG × Bool × Unit→Prop)=>∃ (h:Zhm p),∀ a,a=Zv4 p→∀ a_1,a_1=(a.1 != (0:Int))→Br a_1 (post
 (none,false,())) (∃ (h:Zl4 p.1 s),∀ a,a=((Zdz p.1 s).2.1 != (0:Int))→Br a (post (none,false,())) (∃ (h:I64 p.1),∀ a,a=((newR
 p.1).2.1==(0:Int))→post ((newR p.1).1,a,())))
theorem Z1ag (p:YP) (s:YS) (h:Zsb p s):Zpx  p s (fun r=>r=Z69 p s):=by
 obtain ⟨hP,hS⟩:=h
 refine ⟨hP,?_⟩
 rintro _ rfl _ rfl
 refine Br.intro (fun q=>?_) fun q=>?_
 ·have q:(Z10 p != 0)=true:=q
  have q:¬ Z10 p=0:=by simpa using q
  show (none,false,())=Z69 p s
  unfold Z69; rw [if_neg q]
 have q:(Z10 p != 0)=false:=q
 have q:Z10 p=0:=by simpa using q
 refine ⟨⟨hP.1,hS⟩,?_⟩
 rintro _ rfl
 refine Br.intro (fun r=>?_) fun r=>?_
 ·have r:((Z17 p.1 s).2 != 0)=true:=r
  have r:¬ (Z17 p.1 s).2=0:=by simpa using r
  show (none,false,())=Z69 p s
  unfold Z69; rw [if_pos q,if_neg r]
 have r:((Z17 p.1 s).2 != 0)=false:=r
 have r:(Z17 p.1 s).2=0:=by simpa using r
 refine ⟨hP.1,?_⟩
 rintro _ rfl
 unfold Z69; rw [if_pos q,if_pos r]
 have g:=(Z1eb r).good
 rcases Zsl p.1 with ⟨h0,_⟩ | ⟨_,_,e,_⟩
 ·exact absurd h0 (by unfold Z1; rw [if_pos g]; unfold Z1u at g; simp at g; have:1≤p.1*p.1:=Int.le_trans (by omega) (Int.mul_le_mul g.1 g.1 (by omega) (by omega)); rw [Int.mul_assoc]; omega)
 ·rw [e]; rfl
def Zm2:=fun (l:List Int) (post:Int × Unit→Prop)=>HS []∧∃ (I:Int × Int × Unit→Unit→Prop),∃ (μ:Int × Int × Unit→Unit→Nat),I (0,0,()) ()∧∀ (x
 : Int × Int × Unit) (y:Unit),I x y→∀ a,a=decide (x.2.1<(↑l.length:Int))→Br a (∃ (h:(0:Int)≤x.2.1∧x.2.1<(↑l.length:Int)),HS []∧I (i64.wrap (x.1
 + l.getD x.2.1.toNat (0:Int)),i64.wrap (x.2.1+1),()) ()∧μ (i64.wrap (x.1+l.getD x.2.1.toNat (0:Int)),i64.wrap (x.2.1+1),()) ()<μ x y)
 (post (x.1,()))
theorem Z15y (l:List Int) (w:KS.wf [.slice (.int .i64)] (l,())):Zm2  l (fun r=>r=Z6x l):=by
 have hl:l.length≤281474976710656:=w.1.1
 refine ⟨rfl,fun x _=>∃ k:Nat,x.2.1=k∧k≤l.length∧x.1=(l.take k).foldl (fun s x=>i64.wrap (s+x)) 0,fun x _=>l.length - x.2.1.toNat,⟨0,rfl,by omega,rfl⟩,?_⟩
 rintro ⟨s,_,⟨⟩⟩ _ ⟨k,rfl,hk,rfl⟩
 dsimp only
 rintro _ rfl
 refine Br.intro (fun d=>?_) fun d=>?_
 ·have d:k<l.length:=by have d:(k:Int)<l.length:=of_decide_eq_true d; omega
  rw [Int.toNat_natCast,Zz d (by omega)]
  refine ⟨⟨by omega,by omega⟩,rfl,⟨k+1,rfl,by omega,?_⟩,by omega⟩
  have e:l.take (k+1)=l.take k++[at0 l k]:=by rw [Zcc d,List.take_append_getElem d]
  rw [e,List.foldl_append]; rfl
 have d:k=l.length:=by have d:¬ (k:Int)<l.length:=of_decide_eq_false d; omega
 rw [d,List.take_length]; rfl
end Go.Lift

namespace Go.Lift
def Z130:=fun (a b:List Nat) (post:Bool × Unit→Prop)=>∀ a_1,a_1=((↑a.length:Int) != (↑b.length:Int))→Br a_1 (post (false,())) (HS []∧∃ (I:Int ×
 Unit→Unit→Prop),∃ (μ:Int × Unit→Unit→Nat),I (0,()) ()∧∀ (x:Int × Unit) (y:Unit),I x y→∀ a_2,a_2=decide (x.1<(↑a.length:Int))→Br a_2 (∃ (h:(0 :
 Int)≤x.1∧x.1<(↑a.length:Int)),∃ (h:(0:Int)≤x.1∧x.1<(↑b.length:Int)),∃ (h:True),∀ a_3,a_3=(Z1bm (a.getD x.1.toNat (0:Nat)) (b.getD x.1.toNat (0 :
 Nat))).1→Br (!a_3) (post (false,())) (HS []∧I (i64.wrap (x.1+1),()) ()∧μ (i64.wrap (x.1+1),()) ()<μ x y)) (post (true,())))
theorem Z1kn (a:List Nat) (b:List Nat) (w:KS.wf [.slice (.flt .f64),.slice (.flt .f64)] (a,b,())):Z130  a b (fun r=>r=allR a b):=by
 have ha:a.length≤maxN:=w.1.1
 have hm:maxN≤9223372036854775807:=by decide
 rintro _ rfl
 refine Br.intro (fun e=>congrArg r1 ?_) fun e=>?_
 ·have e:¬ a.length=b.length:=fun q=>by rw [q] at e; simp at e
  exact (beq_eq_false_iff_ne.2 fun q=>e (congrArg List.length q)).symm
 have e:a.length=b.length:=by
  have:((a.length:Int)==(b.length:Int))=true:=by
   have e:(!((a.length:Int)==(b.length:Int)))=false:=e
   simpa using e
  have:=beq_iff_eq.1 this
  omega
 refine ⟨rfl,fun x _=>∃ k:Nat,x.1=k∧k≤a.length∧a.take k=b.take k,fun x _=>a.length - x.1.toNat,⟨0,rfl,by omega,rfl⟩,?_⟩
 rintro ⟨_,⟨⟩⟩ _ ⟨k,rfl,hk,hq⟩
 dsimp only
 rintro _ rfl
 refine Br.intro (fun e1=>?_) fun e1=>?_
 ·have e1:k<a.length:=by have:=of_decide_eq_true e1; omega
  rw [Int.toNat_natCast,Zz e1 (by omega)]
  have ta:=Ze2 e1 0
  have tb:=Ze2 (l:=b) (i:=k) (by omega) 0
  refine ⟨⟨by omega,by omega⟩,⟨by omega,by omega⟩,trivial,?_⟩
  rintro _ rfl
  refine Br.intro (fun e2=>congrArg r1 ?_) fun e2=>?_
  ·have e2:¬ a.getD k 0=b.getD k 0:=fun q=>by
    have e2:(!(decide (a.getD k 0=b.getD k 0)))=true:=e2
    rw [q] at e2; simp at e2
   refine (beq_eq_false_iff_ne.2 fun q=>e2 ?_).symm
   rw [q]
  ·have e2:a.getD k 0=b.getD k 0:=by
    have e2:(!(decide (a.getD k 0=b.getD k 0)))=false:=e2
    simpa using e2
   exact ⟨rfl,⟨k+1,rfl,by omega,by rw [ta,tb,hq,e2]⟩,by omega⟩
 ·have e1:k=a.length:=by have:=of_decide_eq_false e1; omega
  subst e1
  refine congrArg r1 (beq_iff_eq.2 ?_).symm
  rw [List.take_length] at hq
  rw [hq,e,List.take_length]
end Go.Lift

namespace Go.Lift
open Go.Proofs
def Z1gq:Cx:=⟨Z1o Z1w,Z1t [(44,Zhs)],SqG⟩
theorem Z15z:CxOk Tryz.prog Z1gq:=⟨Zl Zv,Zq ⟨Zsx,trivial⟩⟩
def Zkr:Con:=Con.nam [.slice (.flt .f64),.slice (.flt .f64)] [.snap .bool] (fun _=>True) (fun x=>allR x.1 x.2.1)
theorem Zx1:SqH Zkr 23 :=
 nP Z15z Z3 Zb ({ loops:=Zw [(4,{ ls:=[(.slot 5,.data (.int .i64))],os:=[] })],joins:=fun _=>none,named:=true }) Tryz.func23 (fun x p=>Z130  x.1 x.2.1 p) fun x _ w=>Z1kn  x.1 x.2.1 w
end Go.Lift

namespace Go.Lift
def Zpy:=fun (n:Int) (r0:Int × Int × Int × Int) (post:Bool × Unit→Prop)=>∀ a,a=decide (r0.1≥(0:Int))→Br a (∀ a,a=decide (r0.1<n)→Br a (∀ a,a =
 decide (r0.2.1≥(-4503599627370496:Int))→Br a (∀ a,a=decide (r0.2.1≤(4503599627370496:Int))→Br a (∀ a,a=decide (r0.2.2.1≥(0:Int))→Br a (∀ a,a=decide
 (r0.2.2.2≥r0.2.2.1)→post (a,())) (post (false,()))) (post (false,()))) (post (false,()))) (post (false,()))) (post (false,()))
theorem Z1ah (n:Int) (r0:Int × Int × Int × Int):Zpy  n r0 (fun r=>r=Zce n r0):=by
 have key:Zce n r0=r1 (decide (0≤r0.1)&&decide (r0.1<n)&&decide (-4503599627370496≤r0.2.1)&&decide (r0.2.1≤4503599627370496)&&decide (0≤r0.2.2.1)&&decide (r0.2.2.1≤r0.2.2.2)):=rfl
 rw [key]
 rintro _ rfl
 refine Br.intro (fun e1=>?_) fun e1=>?_
 rotate_left
 ·rw [show decide (0≤r0.1)=false from e1]; rfl
 rintro _ rfl
 refine Br.intro (fun e2=>?_) fun e2=>?_
 rotate_left
 ·rw [e2,Bool.and_false]; rfl
 rintro _ rfl
 refine Br.intro (fun e3=>?_) fun e3=>?_
 rotate_left
 ·rw [show decide (-4503599627370496≤r0.2.1)=false from e3,Bool.and_false]; rfl
 rintro _ rfl
 refine Br.intro (fun e4=>?_) fun e4=>?_
 rotate_left
 ·rw [e4,Bool.and_false]; rfl
 rintro _ rfl
 refine Br.intro (fun e5=>?_) fun e5=>?_
 rotate_left
 ·rw [show decide (0≤r0.2.2.1)=false from e5,Bool.and_false]; rfl
 rintro _ rfl
 rw [show decide (0≤r0.1)=true from e1,e2,show decide (-4503599627370496≤r0.2.1)=true from e3,e4,show decide (0≤r0.2.2.1)=true from e5]; rfl
def Zm3 (ty25:Nat) (p:YP) (ty3:Nat):List HObj:=[HObj.box Md.rw ty25 [SV.val (Go.Value.int i64 p.1),SV.val (Go.Value.float f64 p.2.1),SV.val (Go.Value.float f64 p.2.2.1),SV.val (Go.Value.float f64 p.2.2.2.1),SV.val (Go.Value.int i64 p.2.2.2.2.1),SV.val (Go.Value.bool p.2.2.2.2.2.1),SV.data ((K.int i64).pair ((K.int i64).pair ((K.int i64).pair (K.int i64)))).slice p.2.2.2.2.2.2],HObj.box Md.rw ty3 [SV.val (Go.Value.int i64 (Z3o p.1).1)]]
def Zpz:=fun (ty25 ty3:Nat) (p:YP) (post:Int × Unit→Prop)=>∃ (h:I64 p.1),∀ a,a=((Z3o p.1).1==(0:Int))→Br a (post ((10:Int),())) (∀ a,a =
 fcmp Go.BinOp.gtr (f64.format.order p.2.1 (0:Nat))→Br (!a) (post ((11:Int),())) (∀ a,a=fcmp Go.BinOp.gtr (f64.format.order p.2.1
 (4652218415073722368:Nat))→Br a (post ((11:Int),())) (∃ (h:W3 p.2.2.1 (0:Nat) (4652218415073722368:Nat)),∀ a,a=(Zha p.2.2.1 (0:Nat) (4652218415073722368 :
 Nat)).1→Br (!a) (post ((11:Int),())) (∃ (h:W3 p.2.2.2.1 (0:Nat) (4652218415073722368:Nat)),∀ a,a=(Zha p.2.2.2.1 (0:Nat) (4652218415073722368:Nat)).1→Br
 (!a) (post ((11:Int),())) (∃ (h:True),∀ a,a=Zhi p.2.2.2.2.1→∀ a_1,a_1=a.1→Br (!a_1) (post ((11:Int),())) (∀ a,a=decide ((↑p.2.2.2.2.2.2.length:Int) >
 (1024:Int))→Br a (post ((18:Int),())) (HS (Zm3 ty25 p ty3)∧∃ (I:Int × Unit→Unit→Prop),∃ (μ:Int × Unit→Unit→Nat),I ((0:Int),()) ()∧∀ (x:Int
 × Unit) (y:Unit),I x y→∀ a,a=decide (x.1<(↑p.2.2.2.2.2.2.length:Int))→Br a (∃ (h:(0:Int)≤x.1∧x.1<(↑p.2.2.2.2.2.2.length:Int)),∃ (h:True),∀ a,a =
 Zce (Z3o p.1).1 ((p.2.2.2.2.2.2.getD x.1.toNat Zh.dflt).1,(p.2.2.2.2.2.2.getD x.1.toNat Zh.dflt).2.1,(p.2.2.2.2.2.2.getD x.1.toNat Zh.dflt).2.2.1,
 (p.2.2.2.2.2.2.getD x.1.toNat Zh.dflt).2.2.2)→∀ a_2,a_2=a.1→Br (!a_2) (∀ a,a=decide (x.1≥(0:Int))→Br a (post ((18:Int),())) (post ((0:Int),()))) (HS
 (Zm3 ty25 p ty3)∧I (i64.wrap (x.1+(1:Int)),()) ()∧μ (i64.wrap (x.1+(1:Int)),()) ()<μ x y)) (∀ a,a=decide ((-1:Int)≥(0:Int)) →
 Br a (post ((18:Int),())) (post ((0:Int),()))))))))))
theorem Z1ai (ty0 ty1:Nat) (p:YP) (h:Zhm p) (w:KS.wf [Z78] (p,())):Zpz ty0 ty1 p (fun r=>r=Zv4 p):=by
 obtain ⟨hn,⟨hd,hg,hr⟩,hl⟩:=h
 have W0:W64 0:=by unfold W64; decide
 have WM:W64 4652218415073722368:=by unfold W64; decide
 have hll:p.2.2.2.2.2.2.length≤maxN:=w.1.2.2.2.2.2.2.1
 have hm:maxN≤9223372036854775806:=by decide
 refine ⟨hn,?_⟩
 rintro _ rfl
 refine Br.intro (fun e0=>?_) fun e0=>?_
 ·have e0:Z1 p.1=0:=beq_iff_eq.1 e0
  show (10,())=r1 (Z10 p)
  unfold Z10; rw [if_pos e0]; rfl
 have c0:¬ Z1 p.1=0:=fun z=>by
  have e0:(Z1 p.1==0)=false:=e0
  rw [z] at e0; cases e0
 rintro _ rfl
 refine Br.intro (fun e1=>?_) fun e1=>?_
 ·have e1:(!gtS p.2.1 0)=true:=e1
  show (11,())=r1 (Z10 p)
  unfold Z10; rw [if_neg c0,if_pos (by simp [e1])]; rfl
 have e1:(!gtS p.2.1 0)=false:=e1
 rintro _ rfl
 refine Br.intro (fun e2=>?_) fun e2=>?_
 ·have e2:gtS p.2.1 Z3y=true:=e2
  show (11,())=r1 (Z10 p)
  unfold Z10; rw [if_neg c0,if_pos (by simp [e2])]; rfl
 have e2:gtS p.2.1 Z3y=false:=e2
 refine ⟨⟨hg,W0,WM⟩,?_⟩
 rintro _ rfl
 refine Br.intro (fun e3=>?_) fun e3=>?_
 ·have e3:(!Z28 p.2.2.1 0 Z3y)=true:=e3
  show (11,())=r1 (Z10 p)
  unfold Z10; rw [if_neg c0,if_pos (by simp [e3])]; rfl
 have e3:(!Z28 p.2.2.1 0 Z3y)=false:=e3
 refine ⟨⟨hr,W0,WM⟩,?_⟩
 rintro _ rfl
 refine Br.intro (fun e4=>?_) fun e4=>?_
 ·have e4:(!Z28 p.2.2.2.1 0 Z3y)=true:=e4
  show (11,())=r1 (Z10 p)
  unfold Z10; rw [if_neg c0,if_pos (by simp [e4])]; rfl
 have e4:(!Z28 p.2.2.2.1 0 Z3y)=false:=e4
 refine ⟨trivial,?_⟩
 rintro _ rfl
 rintro _ rfl
 refine Br.intro (fun e5=>?_) fun e5=>?_
 ·have e5:(!Z4g p.2.2.2.2.1)=true:=e5
  show (11,())=r1 (Z10 p)
  unfold Z10; rw [if_neg c0,if_pos (by simp [e5])]; rfl
 have e5:(!Z4g p.2.2.2.2.1)=false:=e5
 have no11:(!gtS p.2.1 0||gtS p.2.1 Z3y||!Z28 p.2.2.1 0 Z3y||!Z28 p.2.2.2.1 0 Z3y||!Z4g p.2.2.2.2.1)=false:=by simp [e1,e2,e3,e4,e5]
 have hP:Zv4 p=r1 (if decide (1024<(p.2.2.2.2.2.2.length:Int))||p.2.2.2.2.2.2.any (fun r=>!Z27 (Z1 p.1) r) then 18 else 0):=by
  show r1 (Z10 p)=_
  unfold Z10; rw [if_neg c0,if_neg (by rw [no11]; decide)]
 rw [hP]
 rintro _ rfl
 refine Br.intro (fun e6=>?_) fun e6=>?_
 ·have e6:decide (1024<(p.2.2.2.2.2.2.length:Int))=true:=e6
  rw [e6]; rfl
 have e6:decide (1024<(p.2.2.2.2.2.2.length:Int))=false:=e6
 rw [e6]
 have hC:(Z3o p.1).fst=Z1 p.1:=rfl
 refine ⟨rfl,fun x _=>∃ k:Nat,x.1=k∧k≤p.2.2.2.2.2.2.length∧∀ j,j<k→Z27 (Z1 p.1) (p.2.2.2.2.2.2.getD j Zh.dflt)=true,fun x _=>p.2.2.2.2.2.2.length - x.1.toNat,⟨0,rfl,by omega,fun j hj=>by omega⟩,?_⟩
 rintro ⟨_,⟨⟩⟩ ⟨⟩ ⟨k,rfl,hk,hj⟩
 dsimp only
 rintro _ rfl
 refine Br.intro (fun e7=>?_) fun e7=>?_
 rotate_left
 ·have hke:k=p.2.2.2.2.2.2.length:=by have:=of_decide_eq_false e7; omega
  rintro _ rfl
  refine Br.intro (fun z=>absurd z (by decide)) fun _=>?_
  rw [Z1e8 (p:=fun r=>Z27 (Z1 p.1) r) (l:=p.2.2.2.2.2.2) (d:=Zh.dflt) (fun j h=>hj j (Nat.lt_of_lt_of_eq h hke.symm))]; rfl
 have hk2:k<p.2.2.2.2.2.2.length:=by have:=of_decide_eq_true e7; omega
 rw [Int.toNat_natCast]
 refine ⟨⟨by omega,by omega⟩,trivial,?_⟩
 rintro _ rfl
 rintro _ rfl
 refine Br.intro (fun e8=>?_) fun e8=>?_
 ·have e8:(!Z27 (Z1 p.1) (p.2.2.2.2.2.2.getD k Zh.dflt))=true:=e8
  have e8:Z27 (Z1 p.1) (p.2.2.2.2.2.2.getD k Zh.dflt)=false:=by simpa using e8
  rintro _ rfl
  refine Br.intro (fun _=>?_) fun z=>absurd (of_decide_eq_false z) (by omega)
  rw [Z1ic (p:=fun r=>Z27 (Z1 p.1) r) (l:=p.2.2.2.2.2.2) (d:=Zh.dflt) hk2 e8]; rfl
 ·have e8:(!Z27 (Z1 p.1) (p.2.2.2.2.2.2.getD k Zh.dflt))=false:=e8
  have e8:Z27 (Z1 p.1) (p.2.2.2.2.2.2.getD k Zh.dflt)=true:=by simpa using e8
  rw [Zz hk2 (by omega)]
  refine ⟨rfl,⟨k+1,rfl,by omega,fun j h=>?_⟩,by omega⟩
  by_cases ej:j=k
  ·subst ej; exact e8
  ·exact hj j (by omega)
end Go.Lift

namespace Go.Lift
def Zhx:=fun (a b c:Nat) (post:Bool × Unit→Prop)=>∀ a_1,a_1=fcmp Go.BinOp.geq (f64.format.order a b)→Br a_1 (∀ a_2,a_2=fcmp Go.BinOp.leq
 (f64.format.order a c)→Br a_2 (∃ (h:True),∀ a_3,a_3=((Z8c a).1 != (9223372036854775808:Int))→post (a_3,())) (post (false,()))) (post (false,
 ()))
theorem Zy8 (a:Nat) (b:Nat) (c:Nat) (h:W3 a b c):Zhx  a b c (fun r=>r=Zha a b c):=by
 have nz:∀ x:Nat,((x:Int) != (9223372036854775808:Int))=decide (x≠9223372036854775808):=by
  intro x
  show (!((x:Int)==((9223372036854775808:Nat):Int)))=_
  rw [Z1hq]
  by_cases q:x=9223372036854775808
  ·rw [decide_eq_true q,decide_eq_false (by simpa using q)]; rfl
  ·rw [decide_eq_false q,decide_eq_true q]; rfl
 rintro _ rfl
 refine Br.intro (fun e=>?_) fun e=>?_
 ·rintro _ rfl
  refine Br.intro (fun f=>?_) fun f=>?_
  ·refine ⟨trivial,?_⟩
   rintro _ rfl
   refine congrArg r1 ?_
   show ((a:Int) != (9223372036854775808:Int))=Z28 a b c
   unfold Z28
   rw [nz,show fcmp .geq (Ieee.double.order a b)=true from e,show fcmp .leq (Ieee.double.order a c)=true from f]; rfl
  ·exact congrArg r1 (by unfold Z28; rw [show fcmp .leq (Ieee.double.order a c)=false from f,Bool.and_false]; rfl)
 ·exact congrArg r1 (by unfold Z28; rw [show fcmp .geq (Ieee.double.order a b)=false from e]; rfl)
def Zhy (ty22:Nat) (b:Nat):List HObj:=[HObj.box Md.rw ty22 [SV.val (Go.Value.float f64 b)]]
def Zjv:=fun (ty22:Nat) (a:List Nat) (b:Nat) (post:Int × Unit→Prop)=>HS (Zhy ty22 b)∧∃ (I:Int × Unit→Unit→Prop),∃ (μ:Int × Unit →
 Unit→Nat),I (0,()) ()∧∀ (x:Int × Unit) (y:Unit),I x y→∀ a_1,a_1=decide (x.1<(↑a.length:Int))→Br a_1 (∃ (h:(0:Int)≤x.1∧x.1<(↑a.length:Int)),∃ (h
 : W3 (a.getD x.1.toNat (0:Nat)) (Go.Op.negFloat f64 b) b),∀ a_2,a_2=(Zha (a.getD x.1.toNat (0:Nat)) (Go.Op.negFloat f64 b) b).1→Br (!a_2)
 (post (x.1,())) (HS (Zhy ty22 b)∧I (i64.wrap (x.1+1),()) ()∧μ (i64.wrap (x.1+1),()) ()<μ x y)) (post ((-1:Int),()))
theorem Z131 (ty0:Nat) (a:List Nat) (b:Nat) (h:WLF a b) (w:KS.wf [.slice (.flt .f64),.flt .f64] (a,b,())):Zjv ty0 a b (fun r=>r=Zgj a b):=by
 have hl:a.length≤maxN:=w.1.1
 unfold maxN at hl
 refine ⟨rfl,fun x _=>∃ i:Nat,x.1=i∧i≤a.length∧Z2s a b=Zdy (fun x=>!Z28 x (negF b) b) i (a.drop i),fun x _=>a.length - x.1.toNat,⟨0,rfl,by omega,rfl⟩,?_⟩
 rintro ⟨_,⟨⟩⟩ _ ⟨i,rfl,hil,hi⟩
 dsimp only
 rintro _ rfl
 refine Br.intro (fun e=>?_) fun e=>?_
 ·have e:i<a.length:=by have:=of_decide_eq_true e; omega
  refine ⟨⟨by omega,by omega⟩,?_⟩
  rw [Int.toNat_natCast]
  rw [Ziw e 0,Zkn] at hi
  refine ⟨⟨h.1 _ (Zu e 0),Zh4 h.2,h.2⟩,?_⟩
  rintro _ rfl
  refine Br.intro (fun f=>?_) fun f=>?_
  ·refine congrArg r1 ?_
   rw [hi]
   rw [if_pos (show (!Z28 (a.getD i 0) (negF b) b)=true from f)]
  ·rw [if_neg (by rw [show (!Z28 (a.getD i 0) (negF b) b)=false from f]; decide)] at hi
   rw [Zz e (by omega)]
   exact ⟨rfl,⟨i+1,rfl,by omega,hi⟩,by omega⟩
 ·have e:¬ i<a.length:=by have:=of_decide_eq_false e; omega
  refine congrArg r1 ?_
  rw [hi,List.drop_eq_nil_of_le (by omega)]; rfl
def Zjw:=fun (ty2:Nat) (a:List Int) (b:Int) (post:Int × Unit→Prop)=>HS [HObj.box Md.rw ty2 [SV.junk]]∧∃ (I:Int × Int × Unit→Unit→Prop),∃ (μ:Int
 × Int × Unit→Unit→Nat),I (0,b,()) ()∧∀ (x:Int × Int × Unit) (y:Unit),I x y→∀ a_1,a_1=decide (x.1<(↑a.length:Int))→Br a_1 (∃ (h:(0:Int)≤x.1∧x.1 <
 (↑a.length:Int)),∀ a_2,a_2=decide (a.getD x.1.toNat (0:Int)<(0:Int))→Br a_2 (post (x.1,())) (∀ a_3,a_3=decide (a.getD x.1.toNat (0:Int) > i64.wrap
 ((4503599627370496:Int) - x.2.1))→Br a_3 (post (x.1,())) (HS [HObj.box Md.rw ty2 [SV.junk]]∧I (i64.wrap (x.1+1),i64.wrap (x.2.1+a.getD x.1.toNat (0 :
 Int)),()) ()∧μ (i64.wrap (x.1+1),i64.wrap (x.2.1+a.getD x.1.toNat (0:Int)),()) ()<μ x y))) (post ((-1:Int),()))
theorem Z132 (ty0:Nat) (a:List Int) (b:Int) (h:Zuq a b) (w:KS.wf [.slice (.int .i64),.int .i64] (a,b,())):Zjw ty0 a b (fun r=>r=Zgk a b):=by
 have hl:a.length≤maxN:=w.1.1
 unfold maxN at hl
 obtain ⟨ha,hb0,hb1⟩:=h
 refine ⟨rfl,fun x _=>∃ i:Nat,x.1=i∧i≤a.length∧0≤x.2.1∧x.2.1≤4503599627370496∧Z2n 0 b a=Z2n i x.2.1 (a.drop i),fun x _=>a.length - x.1.toNat,⟨0,rfl,by omega,hb0,hb1,rfl⟩,?_⟩
 rintro ⟨_,s,⟨⟩⟩ _ ⟨i,rfl,hil,h0,h1,hi⟩
 dsimp only at h0 h1 hi ⊢
 have ws:i64.wrap (4503599627370496 - s)=4503599627370496 - s:=wi ⟨by omega,by omega⟩
 rintro _ rfl
 refine Br.intro (fun e=>?_) fun e=>?_
 ·have e:i<a.length:=by have:=of_decide_eq_true e; omega
  refine ⟨⟨by omega,by omega⟩,?_⟩
  rw [Int.toNat_natCast,ws]
  rw [Ziw e 0,Zs6] at hi
  have hr:=ha _ (Zu e 0)
  rintro _ rfl
  refine Br.intro (fun f=>?_) fun f=>?_
  ·refine congrArg r1 ?_
   rw [hi]
   rw [if_pos (.inl (of_decide_eq_true f))]
  have f:=of_decide_eq_false f
  rintro _ rfl
  refine Br.intro (fun g=>?_) fun g=>?_
  ·refine congrArg r1 ?_
   rw [hi]
   rw [if_pos (.inr (of_decide_eq_true g))]
  ·have g:=of_decide_eq_false g
   rw [if_neg (by omega)] at hi
   rw [Zz e (by omega),wi (x:=s+a.getD i 0) ⟨by omega,by omega⟩]
   exact ⟨rfl,⟨i+1,rfl,by omega,by omega,by omega,hi⟩,by omega⟩
 ·have e:¬ i<a.length:=by have:=of_decide_eq_false e; omega
  refine congrArg r1 ?_
  rw [hi,List.drop_eq_nil_of_le (by omega)]; rfl
def Zm4:=fun (n:Int) (s:YS) (post:Int × Int × Unit→Prop)=>∃ (h:I64 n),Br ((Z3o n).1==(0:Int)) (post (0,10,())) (∃ (h:(2:Int)≠(0:Int)),∃
 (h:(0:Int)≤(0:Int)∧(0:Int)<(↑(4:Nat):Int)),Br ([(↑s.1.length:Int),(↑s.2.1.length:Int),(↑s.2.2.1.length:Int),i64.wrap ((↑s.2.2.2.1.length :
 Int).tdiv (2:Int))].getD (Int.toNat (0:Int)) (0:Int) != (Z3o n).1) (post (0,12,())) (∃ (h:(0:Int)≤i64.wrap ((0:Int)+(1:Int))∧i64.wrap ((0
 : Int)+(1:Int))<(↑(4:Nat):Int)),Br ([(↑s.1.length:Int),(↑s.2.1.length:Int),(↑s.2.2.1.length:Int),i64.wrap ((↑s.2.2.2.1.length:Int).tdiv (2 :
 Int))].getD (i64.wrap ((0:Int)+(1:Int))).toNat (0:Int) != (Z3o n).1) (post (i64.wrap ((0:Int)+(1:Int)),12,())) (∃ (h:(0:Int) ≤
 i64.wrap (i64.wrap ((0:Int)+(1:Int))+(1:Int))∧i64.wrap (i64.wrap ((0:Int)+(1:Int))+(1:Int))<(↑(4:Nat):Int)),Br
 ([(↑s.1.length:Int),(↑s.2.1.length:Int),(↑s.2.2.1.length:Int),i64.wrap ((↑s.2.2.2.1.length:Int).tdiv (2:Int))].getD (i64.wrap (i64.wrap ((0 :
 Int)+(1:Int))+(1:Int))).toNat (0:Int) != (Z3o n).1) (post (i64.wrap (i64.wrap ((0:Int)+(1:Int))+(1:Int)),12,())) (∃ (h:(0:Int) ≤
 i64.wrap (i64.wrap (i64.wrap ((0:Int)+(1:Int))+(1:Int))+(1:Int))∧i64.wrap (i64.wrap (i64.wrap ((0:Int)+(1 :
 Int))+(1:Int))+(1:Int))<(↑(4:Nat):Int)),Br ([(↑s.1.length:Int),(↑s.2.1.length:Int),(↑s.2.2.1.length:Int),i64.wrap ((↑s.2.2.2.1.length:Int).tdiv
 (2:Int))].getD (i64.wrap (i64.wrap (i64.wrap ((0:Int)+(1:Int))+(1:Int))+(1:Int))).toNat (0:Int) != (Z3o n).1) (post (i64.wrap
 (i64.wrap (i64.wrap ((0:Int)+(1:Int))+(1:Int))+(1:Int)),12,())) (Br ((↑s.2.2.2.1.length:Int) != i64.wrap ((2:Int)*(Z3o n).1))
 (post (i64.wrap (i64.wrap (i64.wrap ((0:Int)+(1:Int))+(1:Int))+(1:Int)),12,())) (∃ (h:WLF s.1 (4697254411347427328:Nat)),Br (decide
 ((Zgj s.1 (4697254411347427328:Nat)).1≥(0:Int))) (post ((Zgj s.1 (4697254411347427328:Nat)).1,13,())) (Br (decide (s.2.2.2.2.1<(0:Int))) (post (0,17,()))
 (Br (decide (s.2.2.2.2.1 > (4503599627370496:Int))) (post (0,17,())) (∃ (h:Zuq s.2.1 s.2.2.2.2.1),Br (decide ((Zgk s.2.1 s.2.2.2.2.1).1≥(0:Int))) (post
 ((Zgk s.2.1 s.2.2.2.2.1).1,14,())) (∃ (h:Zuq s.2.2.1 (0:Int)),Br (decide ((Zgk s.2.2.1 (0:Int)).1≥(0:Int))) (post ((Zgk s.2.2.1 (0:Int)).1,15,()))
 (∃ (h:WLF s.2.2.2.1 (4652218415073722368:Nat)),Br (decide ((Zgj s.2.2.2.1 (4652218415073722368:Nat)).1≥(0:Int))) (post ((Zgj s.2.2.2.1 (4652218415073722368 :
 Nat)).1,16,())) (Br (decide (s.2.2.2.2.2<(0:Int))) (post (0,1,())) (Br (decide (s.2.2.2.2.2 > (4611686018427387904:Int))) (post (0,1,())) (post (0,0,
 ())))))))))))))))
theorem Z160 (n:Int) (s:YS) (h:Zl4 n s) (w:KS.wf [.int .i64,kSea] (n,s,())):Zm4  n s (fun r=>r=Zdz n s):=by
 obtain ⟨hn,hb,hw,ht,hs,h4,h5⟩:=h
 have l1:s.1.length≤maxN:=w.2.1.1.1
 have l2:s.2.2.2.1.length≤maxN:=w.2.1.2.2.2.1.1
 unfold maxN at l1 l2
 obtain ⟨c0,c1⟩:=Z38 n
 have wc:i64.wrap (2*Z1 n)=2*Z1 n:=wi ⟨by omega,by omega⟩
 have td:(s.2.2.2.1.length:Int).tdiv 2=(s.2.2.2.1.length:Int) / 2:=Int.tdiv_eq_ediv_of_nonneg (by omega)
 have wd:i64.wrap ((s.2.2.2.1.length:Int) / 2)=(s.2.2.2.1.length:Int) / 2:=wi ⟨by omega,by omega⟩
 refine ⟨hn,Br.intro (fun e=>?_) fun e=>?_⟩
 ·have e:Z1 n=0:=eq_of_beq e
  show _=((Z17 n s).1,(Z17 n s).2,())
  unfold Z17; rw [if_pos e]
 have e0:¬ Z1 n=0:=by intro q; have e:(Z1 n==0)=false:=e; rw [q] at e; cases e
 refine ⟨by decide,⟨by decide,by decide⟩,Br.intro (fun e=>?_) fun e=>?_⟩
 ·have e:(s.1.length:Int)≠Z1 n:=Z8e.1 e
  show _=((Z17 n s).1,(Z17 n s).2,())
  unfold Z17; rw [if_neg e0,if_pos e]
 have e1:(s.1.length:Int)=Z1 n:=Z8e.2 e
 refine ⟨⟨by decide,by decide⟩,Br.intro (fun e=>?_) fun e=>?_⟩
 ·have e:(s.2.1.length:Int)≠Z1 n:=Z8e.1 e
  show _=((Z17 n s).1,(Z17 n s).2,())
  unfold Z17; rw [if_neg e0,if_neg (by omega),if_pos e]; rfl
 have e2:(s.2.1.length:Int)=Z1 n:=Z8e.2 e
 refine ⟨⟨by decide,by decide⟩,Br.intro (fun e=>?_) fun e=>?_⟩
 ·have e:(s.2.2.1.length:Int)≠Z1 n:=Z8e.1 e
  show _=((Z17 n s).1,(Z17 n s).2,())
  unfold Z17; rw [if_neg e0,if_neg (by omega),if_neg (by omega),if_pos e]; rfl
 have e3:(s.2.2.1.length:Int)=Z1 n:=Z8e.2 e
 have no3:(s.2.2.2.1.length:Int)≠2*Z1 n→((3:Int),(12:Int),())=Zdz n s:=by
  intro e
  show _=((Z17 n s).1,(Z17 n s).2,())
  unfold Z17; rw [if_neg e0,if_neg (by omega),if_neg (by omega),if_neg (by omega),if_pos e]
 refine ⟨⟨by decide,by decide⟩,Br.intro (fun e=>?_) fun e=>?_⟩
 ·have e:i64.wrap ((s.2.2.2.1.length:Int).tdiv 2)≠Z1 n:=Z8e.1 e
  rw [td,wd] at e
  exact no3 (by omega)
 refine Br.intro (fun e=>?_) fun e=>?_
 ·have e:(s.2.2.2.1.length:Int)≠i64.wrap (2*Z1 n):=Z8e.1 e
  rw [wc] at e
  exact no3 e
 have e4:(s.2.2.2.1.length:Int)=i64.wrap (2*Z1 n):=Z8e.2 e
 rw [wc] at e4
 have base:Z17 n s=if 0≤Z2s s.1 4697254411347427328 then (Z2s s.1 4697254411347427328,13)
  else if s.2.2.2.2.1<0∨s.2.2.2.2.1 > 4503599627370496 then (0,17)
  else if 0≤Z2n 0 s.2.2.2.2.1 s.2.1 then (Z2n 0 s.2.2.2.2.1 s.2.1,14)
  else if 0≤Z2n 0 0 s.2.2.1 then (Z2n 0 0 s.2.2.1,15)
  else if 0≤Z2s s.2.2.2.1 4652218415073722368 then (Z2s s.2.2.2.1 4652218415073722368,16)
  else if s.2.2.2.2.2<0∨s.2.2.2.2.2 > 4611686018427387904 then (0,1)
  else (0,0):=by
  show (if Z1 n=0 then _ else _)=_
  rw [if_neg e0,if_neg (by omega),if_neg (by omega),if_neg (by omega),if_neg (by omega)]
 have fin:∀ p q,Z17 n s=(p,q)→(p,q,())=Zdz n s:=by intro p q e; show _=((Z17 n s).1,(Z17 n s).2,()); rw [e]
 refine ⟨⟨hb,by unfold W64; decide⟩,Br.intro (fun e=>fin _ _ ?_) fun e=>?_⟩
 ·have e:0≤Z2s s.1 4697254411347427328:=of_decide_eq_true e
  rw [base,if_pos e]; rfl
 have f1:¬ 0≤Z2s s.1 4697254411347427328:=of_decide_eq_false e
 rw [if_neg f1] at base
 refine Br.intro (fun e=>fin _ _ ?_) fun e=>?_
 ·rw [base,if_pos (.inl (of_decide_eq_true e))]
 have f2:=of_decide_eq_false e
 refine Br.intro (fun e=>fin _ _ ?_) fun e=>?_
 ·rw [base,if_pos (.inr (of_decide_eq_true e))]
 have f3:=of_decide_eq_false e
 rw [if_neg (by omega)] at base
 refine ⟨⟨hw,by omega,by omega⟩,Br.intro (fun e=>fin _ _ ?_) fun e=>?_⟩
 ·have e:0≤Z2n 0 s.2.2.2.2.1 s.2.1:=of_decide_eq_true e
  rw [base,if_pos e]; rfl
 have f4:¬ 0≤Z2n 0 s.2.2.2.2.1 s.2.1:=of_decide_eq_false e
 rw [if_neg f4] at base
 refine ⟨⟨ht,by omega,by omega⟩,Br.intro (fun e=>fin _ _ ?_) fun e=>?_⟩
 ·have e:0≤Z2n 0 0 s.2.2.1:=of_decide_eq_true e
  rw [base,if_pos e]; rfl
 have f5:¬ 0≤Z2n 0 0 s.2.2.1:=of_decide_eq_false e
 rw [if_neg f5] at base
 refine ⟨⟨hs,by unfold W64; decide⟩,Br.intro (fun e=>fin _ _ ?_) fun e=>?_⟩
 ·have e:0≤Z2s s.2.2.2.1 4652218415073722368:=of_decide_eq_true e
  rw [base,if_pos e]; rfl
 have f6:¬ 0≤Z2s s.2.2.2.1 4652218415073722368:=of_decide_eq_false e
 rw [if_neg f6] at base
 refine Br.intro (fun e=>fin _ _ ?_) fun e=>?_
 ·rw [base,if_pos (.inl (of_decide_eq_true e))]
 have f7:=of_decide_eq_false e
 refine Br.intro (fun e=>fin _ _ ?_) fun e=>fin _ _ ?_
 ·rw [base,if_pos (.inr (of_decide_eq_true e))]
 have f8:=of_decide_eq_false e
 rw [base,if_neg (by omega)]
end Go.Lift

namespace Go.Lift
open Go.Proofs
def Zx2:Cx:=⟨Z1o Z1w,Z1t [(100,Z6s),(48,Z4t)],SqG⟩
theorem Zm5:CxOk Tryz.prog Zx2:=⟨Zl Zv,Zq ⟨Zb4,Z6b,trivial⟩⟩
def Z8s:Con:=.det [.flt .f64,.flt .f64,.flt .f64] [.snap .bool] (fun x=>W3 x.1 x.2.1 x.2.2.1) (fun x=>Zha x.1 x.2.1 x.2.2.1)
theorem Zfc:SqH Z8s 60 :=
 dP Zm5 Z3 Zb nHn Tryz.func60 (fun x p=>Zhx  x.1 x.2.1 x.2.2.1 p) fun x h _=>Zy8  x.1 x.2.1 x.2.2.1 h
def Zx3:Cx:=addC 60 Z8s Zx2
theorem Zcr:CxOk Tryz.prog Zx3:=Zk Zm5 Zfc
def Zhz:Con:=.det [.slice (.flt .f64),.flt .f64] [.snap (.int .i64)] (fun x=>WLF x.1 x.2.1) (fun x=>Zgj x.1 x.2.1)
theorem Zy9:SqH Zhz 65 :=
 dPI Zcr Z3 Zb ({ loops:=fun _=>none,joins:=fun _=>none,named:=true,inl:=inlL [145] }) (Z3f Zcr Z3 Z19c 6) Tryz.func65 (fun x p=>Zjv 22 x.1 x.2.1 p) fun x h w=>Z131 22 x.1 x.2.1 h w
def Zx4:Cx:=addC 65 Zhz Zx3
theorem Zcs:CxOk Tryz.prog Zx4:=Zk Zcr Zy9
def Zi0:Con:=.det [.slice (.int .i64),.int .i64] [.snap (.int .i64)] (fun x=>Zuq x.1 x.2.1) (fun x=>Zgk x.1 x.2.1)
theorem Zya:SqH Zi0 66 :=
 dPI Zcs Z3 Zb ({ loops:=fun _=>none,joins:=fun _=>none,named:=true,inl:=inlL [147] }) (Z3f Zcs Z3 Z19d 6) Tryz.func66 (fun x p=>Zjw 2 x.1 x.2.1 p) fun x h w=>Z132 2 x.1 x.2.1 h w
def Z1gr:Cx:=addC 66 Zi0 Zx4
theorem Z161:CxOk Tryz.prog Z1gr:=Zk Zcs Zya
def Z7g:Con:=.det [.int .i64,kSea] [.snap (.int .i64),.snap (.int .i64)] (fun x=>Zl4 x.1 x.2.1) (fun x=>Zdz x.1 x.2.1)
theorem Zbd:SqH Z7g 21 :=
 dP Z161 Z3 Zb ({ loops:=fun _=>none,joins:=fun _=>none,unroll:=fun _=>some 5 }) Tryz.func21 (fun x p=>Zm4  x.1 x.2.1 p) fun x h w=>Z160  x.1 x.2.1 h w
end Go.Lift

namespace Go.Lift
def Zx5:=fun (a b:Nat) (post:Nat × Unit→Prop)=>∀ a_1,a_1=fcmp Go.BinOp.neq (f64.format.order a a)→Br a_1 (∃ (h:True),post (qnR.1,())) (∀ a_2,
 a_2=fcmp Go.BinOp.neq (f64.format.order b b)→Br a_2 (∃ (h:True),post (qnR.1,())) (∃ (h:W2 a b),∀ a_3,a_3=decide ((ordR a b).1<(0:Int))→Br a_3
 (post (b,())) (post (a,()))))
theorem Z1gs (a:Nat) (b:Nat) (h:W2 a b):Zx5  a b (fun r=>r=Z10x a b):=by
 have e1:fcmp .neq (f64.format.order a a)=isN a:=Z6m a
 have e2:fcmp .neq (f64.format.order b b)=isN b:=Z6m b
 rintro _ rfl
 rw [e1]
 refine Br.intro (fun e=>⟨trivial,?_⟩) fun e=>?_
 ·show (QN,())=r1 (maxQ a b)
  unfold maxQ; rw [if_pos (by rw [e]; rfl)]; rfl
 rintro _ rfl
 rw [e2]
 refine Br.intro (fun e'=>⟨trivial,?_⟩) fun e'=>?_
 ·show (QN,())=r1 (maxQ a b)
  unfold maxQ; rw [if_pos (by rw [e']; simp)]; rfl
 refine ⟨h,?_⟩
 rintro _ rfl
 refine Br.intro (fun q=>?_) fun q=>?_
 ·have q:ordF a b<0:=of_decide_eq_true q
  show (b,())=r1 (maxQ a b)
  unfold maxQ; rw [if_neg (by rw [e,e']; decide),if_pos q]; rfl
 ·have q:¬ ordF a b<0:=of_decide_eq_false q
  show (a,())=r1 (maxQ a b)
  unfold maxQ; rw [if_neg (by rw [e,e']; decide),if_neg q]; rfl
def Zx6:=fun (a b:Nat) (post:Nat × Unit→Prop)=>∀ a_1,a_1=fcmp Go.BinOp.neq (f64.format.order a a)→Br a_1 (∃ (h:True),post (qnR.1,())) (∀ a_2,
 a_2=fcmp Go.BinOp.neq (f64.format.order b b)→Br a_2 (∃ (h:True),post (qnR.1,())) (∃ (h:W2 a b),∀ a_3,a_3=decide ((ordR a b).1 > (0:Int))→Br a_3
 (post (b,())) (post (a,()))))
theorem Z1gt (a:Nat) (b:Nat) (h:W2 a b):Zx6  a b (fun r=>r=Zg0 a b):=by
 have e1:fcmp .neq (f64.format.order a a)=isN a:=Z6m a
 have e2:fcmp .neq (f64.format.order b b)=isN b:=Z6m b
 rintro _ rfl
 rw [e1]
 refine Br.intro (fun e=>⟨trivial,?_⟩) fun e=>?_
 ·show (QN,())=r1 (minQ a b)
  unfold minQ; rw [if_pos (by rw [e]; rfl)]; rfl
 rintro _ rfl
 rw [e2]
 refine Br.intro (fun e'=>⟨trivial,?_⟩) fun e'=>?_
 ·show (QN,())=r1 (minQ a b)
  unfold minQ; rw [if_pos (by rw [e']; simp)]; rfl
 refine ⟨h,?_⟩
 rintro _ rfl
 refine Br.intro (fun q=>?_) fun q=>?_
 ·have q:0<ordF a b:=of_decide_eq_true q
  show (b,())=r1 (minQ a b)
  unfold minQ; rw [if_neg (by rw [e,e']; decide),if_pos q]; rfl
 ·have q:¬ 0<ordF a b:=of_decide_eq_false q
  show (a,())=r1 (minQ a b)
  unfold minQ; rw [if_neg (by rw [e,e']; decide),if_neg q]; rfl
def Zm6:=fun (bed:Nat) (w a:Int) (post:Nat × Unit→Prop)=>∃ (h:II w a),∀ (a_1:Nat),FRes f64 (f64.format.add bed (Z4d w a).1)
 a_1→∃ (h:True),post ((Zp a_1).1,())
theorem Z162 (bed:Nat) (w:Int) (a:Int) (h:Zsa bed w a):Zm6  bed w a (fun r=>r=Zs9 bed w a):=by
 refine ⟨⟨h.2.1,h.2.2⟩,?_⟩
 intro r hr
 refine ⟨trivial,?_⟩
 show (Z12 r,())=r1 (Zl8 bed w a)
 unfold Zl8
 rw [show addQ bed (Z94 w a)=Z5 r from (fadd hr).1.symm,Z55]; rfl
def Zq0:=fun (x:Nat) (m:Int) (post:Int × Unit→Prop)=>∃ (h:True),∀ a,a=(nanR x).1→Br a (post (0,())) (∃ (h:W64 x),∀ a,a=fcmp Go.BinOp.lss
 (f64.format.order (absR x).1 (4890909195324358656:Nat))→Br a (∃ (h:Zno (absR x).1),∀ a,a=fcmp Go.BinOp.lss (f64.format.order x (0:Nat)) →
 Br a (post (i64.wrap ((0:Int) - imin (imax m (0:Int)) (i64.wrap (Znn (absR x).1).1)),())) (post (imin (imax m (0:Int)) (i64.wrap (Znn (absR
 x).1).1),()))) (∀ a,a=fcmp Go.BinOp.lss (f64.format.order x (0:Nat))→Br a (post (i64.wrap ((0:Int) - imax m (0:Int)),())) (post (imax m (0 :
 Int),()))))
theorem Z1aj (x:Nat) (m:Int) (h:Z1du x m):Zq0  x m (fun r=>r=Z1dt x m):=by
 obtain ⟨hx,hm⟩:=h
 have eN:(nanR x).1=isN x:=rfl
 refine ⟨trivial,?_⟩
 rintro _ rfl
 rw [eN]
 refine Br.intro (fun e=>?_) fun e=>?_
 ·show ((0:Int),())=r1 (Z4f x m)
  unfold Z4f; rw [if_pos e]; rfl
 refine ⟨hx,?_⟩
 have eA:(absR x).1=Z0 x:=rfl
 rw [eA]
 have eL:fcmp .lss (f64.format.order (Z0 x) 4890909195324358656)=decide (Z0 x<Z1l):=Zxq x
 rintro _ rfl
 rw [eL]
 have eS:fcmp .lss (f64.format.order x 0)=(sgn x&&decide (Z0 x≠0)):=Znp e
 have im:0≤imax m 0∧imax m 0≤9223372036854775807:=by
  obtain ⟨m1,m2⟩:=hm
  unfold imax; split <;> omega
 have key:Z4f x m=if (sgn x&&decide (Z0 x≠0))=true then -(Z7s x m) else Z7s x m:=by
  unfold Z4f; rw [if_neg (by rw [e]; decide)]
 refine Br.intro (fun g=>?_) fun g=>?_
 ·have g':=of_decide_eq_true g
  obtain ⟨n0,n1⟩:=Z11q g'
  have ew:i64.wrap (Znn (Z0 x)).1=Z5f (Z0 x):=wi (x:=Z5f (Z0 x)) ⟨by omega,by omega⟩
  have ca:Z7s x m=imin (imax m 0) (Z5f (Z0 x)):=by unfold Z7s; rw [if_pos g']
  have cr:0≤imin (imax m 0) (Z5f (Z0 x))∧imin (imax m 0) (Z5f (Z0 x))≤9223372036854775807:=by unfold imin; split <;> omega
  refine ⟨g',?_⟩
  rw [ew]
  rintro _ rfl
  rw [eS]
  refine Br.intro (fun q=>?_) fun q=>?_
  ·show (_,())=r1 (Z4f x m)
   rw [key,if_pos q,ca,wi ⟨by omega,by omega⟩,Int.zero_sub]; rfl
  ·show (_,())=r1 (Z4f x m)
   rw [key,if_neg (by rw [q]; decide),ca]; rfl
 ·have g':=of_decide_eq_false g
  have ca:Z7s x m=imax m 0:=by unfold Z7s; rw [if_neg g']
  rintro _ rfl
  rw [eS]
  refine Br.intro (fun q=>?_) fun q=>?_
  ·show (_,())=r1 (Z4f x m)
   rw [key,if_pos q,ca,wi ⟨by omega,by omega⟩,Int.zero_sub]; rfl
  ·show (_,())=r1 (Z4f x m)
   rw [key,if_neg (by rw [q]; decide),ca]; rfl
def Zm7:=fun (k:Int) (post:Bool × Unit→Prop)=>∀ a,a=decide (k≥(0:Int))→Br a (∀ a,a=decide (k≤(3:Int))→post (a,())) (post (false,()))
theorem Z163 (k:Int):Zm7  k (fun r=>r=Zhi k):=by
 rintro _ rfl
 refine Br.intro (fun e=>?_) fun e=>?_
 ·rintro _ rfl
  have e:decide (0≤k)=true:=e
  show (decide (k≤3),())=r1 (Z4g k)
  unfold Z4g; rw [e]; rfl
 ·have e:decide (0≤k)=false:=e
  show (false,())=r1 (Z4g k)
  unfold Z4g; rw [e]; rfl
def Zbe:=fun (a b:Nat) (post:Nat × Unit→Prop)=>post (0,())
theorem Zoc (a:Nat) (b:Nat):Zbe  a b (fun r=>r=Zee a b):=by
 exact rfl
def Zbf:=fun (a b:Nat) (post:Nat × Unit→Prop)=>∀ (a_1:Nat),FRes f64 (f64.format.mul (4611686018427387904:Nat) a) a_1→∃ (h
 : W2 a_1 b),∀ a_2,a_2=Zg0 a_1 b→∀ (a_3:Nat),FRes f64 (f64.format.mul (4611686018427387904:Nat) b) a_3→∃ (h:W2 a a_3),∀ a_4,a_4=Zg0
 a a_3→∃ (h:W2 a_2.1 a_4.1),∀ a,a=Z10x a_2.1 a_4.1→post (a.1,())
theorem Zod (a:Nat) (b:Nat) (h:Zda a b):Zbf  a b (fun r=>r=supR a b):=by
 obtain ⟨ha,hb⟩:=h
 intro x f1
 obtain rfl:x=mulQ twoS a:=Z184 (fmul f1).1 (Z151 ha) (fmul f1).2
 have p1:=Z151 ha
 have p2:=Z151 hb
 refine ⟨⟨p1.1,hb.1⟩,?_⟩
 rintro _ rfl
 intro y f2
 obtain rfl:y=mulQ twoS b:=Z184 (fmul f2).1 p2 (fmul f2).2
 refine ⟨⟨ha.1,p2.1⟩,?_⟩
 rintro _ rfl
 refine ⟨⟨(Z1i9 p1 hb).1,(Z1i9 ha p2).1⟩,?_⟩
 rintro _ rfl
 rfl
def Zbg:=fun (a b:Nat) (post:Nat × Unit→Prop)=>∀ (a_1:Nat),FRes f64 (f64.format.mul (4611686018427387904:Nat) a) a_1→∀
 (a_2:Nat),FRes f64 (f64.format.mul a_1 b) a_2→∀ (a_3:Nat),FRes f64 (f64.format.add a b) a_3→∀ (a:Nat),FRes
 f64 (f64.format.div a_2 a_3) a→∀ a_4,a_4=fcmp Go.BinOp.neq (f64.format.order a a)→Br a_4 (post (0,())) (∃ (h:WI a (0:Int)),∀
 a_5,a_5=(Z106 a (0:Int)).1→Br a_5 (post (0,())) (post (a,())))
theorem Zoe (a:Nat) (b:Nat) (h:Zda a b):Zbg  a b (fun r=>r=Z111 a b):=by
 intro x f1
 have q1:=fmul f1
 intro y f2
 have q2:=fmul f2
 intro z f3
 have q3:=fadd f3
 intro s f4
 have q4:=fdiv f4
 have e:Z5 s=Z10y a b:=by
  unfold Z10y
  rw [q4.1]
  exact Zd3 (by rw [q2.1,Z3n]; exact Z3w (by rw [q1.1,Z3n]; rfl) rfl) (by rw [q3.1,Zl2])
 have en:fcmp .neq (f64.format.order s s)=isN s:=Z6m s
 rintro _ rfl
 rw [en]
 have key:Zd9 a b=if isN s||decide (Z0 (Z5 s)=infR) then 0 else Z5 s:=by
  unfold Zd9
  rw [← e,Z2r]
 refine Br.intro (fun g=>?_) fun g=>?_
 ·show (0,())=r1 (Zd9 a b)
  rw [key,if_pos (by rw [g]; rfl)]; rfl
 have hq:Z5 s=s:=Zh7 g
 rw [hq] at key
 refine ⟨q4.2,?_⟩
 rintro _ rfl
 have hi:(Z106 s 0).1=decide (Z0 s=infR):=by
  show infS s 0=_
  unfold infS; rw [if_pos rfl]
 rw [hi]
 refine Br.intro (fun g2=>?_) fun g2=>?_
 ·show (0,())=r1 (Zd9 a b)
  rw [key,if_pos (by rw [g2]; simp)]; rfl
 ·show (s,())=r1 (Zd9 a b)
  rw [key,if_neg (by rw [g,g2]; decide)]; rfl
end Go.Lift

namespace Go.Lift
end Go.Lift

namespace Go.Lift
open Go.Proofs
end Go.Lift

namespace Go.Lift
end Go.Lift

namespace Go.Lift
open Go.Proofs
end Go.Lift

namespace Go.Lift
open Go.Proofs
def Z18g:Cx:=⟨Z1o Z1w,Z1t [(172,Zck),(204,Z8p),(89,Z5o),(99,Z3t),(201,Zcl),(152,Z80),(202,Zew),(240,Zcn)],SqG⟩
theorem Ztd:CxOk Tryz.prog Z18g:=⟨Zl Zv,Zq ⟨Zlj,Zcm,Z7f,Z4v,Zlm,Zb5,Zpp,Zlp,trivial⟩⟩
def Zi1:Con:=Con.nam [.flt .f64,.flt .f64] [.snap (.flt .f64)] (fun x=>W2 x.1 x.2.1) (fun x=>Z10x x.1 x.2.1)
theorem Zte:SqH Zi1 157 :=
 nP Ztd Z3 Zb ({ loops:=Zw [],joins:=fun _=>none,named:=true }) Tryz.func157 (fun x p=>Zx5  x.1 x.2.1 p) fun x h _=>Z1gs  x.1 x.2.1 h
def Z18h:Cx:=addC 157 Zi1 Z18g
theorem Ztf:CxOk Tryz.prog Z18h:=Zk Ztd Zte
def Zbh:Con:=Con.nam [.flt .f64,.flt .f64] [.snap (.flt .f64)] (fun x=>W2 x.1 x.2.1) (fun x=>Zg0 x.1 x.2.1)
theorem Zi2:SqH Zbh 158 :=
 nP Ztf Z3 Zb ({ loops:=Zw [],joins:=fun _=>none,named:=true }) Tryz.func158 (fun x p=>Zx6  x.1 x.2.1 p) fun x h _=>Z1gt  x.1 x.2.1 h
def Z1o8:Cx:=addC 158 Zbh Z18h
theorem Z6c:CxOk Tryz.prog Z1o8:=Zk Ztf Zi2
def Zbi:Con:=Con.nam [.flt .f64,.int .i64,.int .i64] [.snap (.flt .f64)] (fun x=>Zsa x.1 x.2.1 x.2.2.1) (fun x=>Zs9 x.1 x.2.1 x.2.2.1)
theorem Zjx:SqH Zbi 92 :=
 nP Z6c Z3 Zb nHn Tryz.func92 (fun x p=>Zm6  x.1 x.2.1 x.2.2.1 p) fun x h _=>Z162  x.1 x.2.1 x.2.2.1 h
def Zm8:Con:=Con.nam [.flt .f64,.int .i64] [.snap (.int .i64)] (fun x=>Z1du x.1 x.2.1) (fun x=>Z1dt x.1 x.2.1)
theorem Z164:SqH Zm8 153 :=
 nP Z6c Z3 Zb ({ loops:=Zw [],joins:=fun _=>none,named:=true }) Tryz.func153 (fun x p=>Zq0  x.1 x.2.1 p) fun x h _=>Z1aj  x.1 x.2.1 h
def Zbj:Con:=Con.nam [.int .i64] [.snap .bool] (fun _=>True) (fun x=>Zhi x.1)
theorem Zjy:SqH Zbj 61 :=
 nP Z6c Z3 Zb ({ loops:=Zw [],joins:=fun _=>none,named:=true }) Tryz.func61 (fun x p=>Zm7  x.1 p) fun x _ _=>Z163  x.1
def Za6:Con:=Con.nam [.flt .f64,.flt .f64] [.snap (.flt .f64)] (fun _=>True) (fun x=>Zee x.1 x.2.1)
theorem Zm9:SqH Za6 237 :=
 nP Z6c Z3 Zb nHn Tryz.func237 (fun x p=>Zbe  x.1 x.2.1 p) fun x _ _=>Zoc  x.1 x.2.1
def Za7:Con:=Con.nam [.flt .f64,.flt .f64] [.snap (.flt .f64)] (fun x=>Zda x.1 x.2.1) (fun x=>supR x.1 x.2.1)
theorem Zma:SqH Za7 238 :=
 nP Z6c Z3 Zb nHn Tryz.func238 (fun x p=>Zbf  x.1 x.2.1 p) fun x h _=>Zod  x.1 x.2.1 h
def Za8:Con:=Con.nam [.flt .f64,.flt .f64] [.snap (.flt .f64)] (fun x=>Zda x.1 x.2.1) (fun x=>Z111 x.1 x.2.1)
theorem Zmb:SqH Za8 239 :=
 nP Z6c Z3 Zb ({ loops:=Zw [],joins:=fun _=>none,named:=true }) Tryz.func239 (fun x p=>Zbg  x.1 x.2.1 p) fun x h _=>Zoe  x.1 x.2.1 h
end Go.Lift

namespace Go.Lift
end Go.Lift

namespace Go.Lift
open Go.Proofs
end Go.Lift

namespace Go.Lift
open Go.Proofs
def Z18i:Cx:=⟨Z1o Z1w,Z1t [(48,Z4t),(60,Z8s),(61,Zbj)],SqG⟩
theorem Ztg:CxOk Tryz.prog Z18i:=⟨Zl Zv,Zq ⟨Z6b,Zfc,Zjy,trivial⟩⟩
def Zct:Con:=Con.nam [.int .i64,Zh] [.snap .bool] (fun _=>True) (fun x=>Zce x.1 x.2.1)
theorem Zmc:SqH Zct 64 :=
 nP Ztg Z3 Zb ({ loops:=Zw [],joins:=fun _=>none,named:=true }) Tryz.func64 (fun x p=>Zpy  x.1 x.2.1 p) fun x _ _=>Z1ah  x.1 x.2.1
def Z1o9:Cx:=addC 64 Zct Z18i
theorem Zth:CxOk Tryz.prog Z1o9:=Zk Ztg Zmc
def Z8q:Con:=Con.nam [Z78] [.snap (.int .i64)] (fun x=>Zhm x.1) (fun x=>Zv4 x.1)
theorem Zcu:SqH Z8q 20 :=
 nPI Zth Z3 Zb ({ loops:=fun _=>none,joins:=fun _=>none,named:=true,inl:=inlL [62] }) (Z3f Zth Z3 Z19f 6) Tryz.func20 (fun x p=>Zpz 25 3 x.1 p) fun x h w=>Z1ai 25 3 x.1 h w
end Go.Lift

namespace Go.Lift
open Go.Proofs
def Z133:Cx:=⟨Z1o Z1w,Z1t [(23,Zkr),(20,Z8q),(21,Z7g),(13,Zb8)],SqG⟩
theorem Zey:CxOk Tryz.prog Z133:=⟨Zl Zv,Zq ⟨Zx1,Zcu,Zbd,Zhw,trivial⟩⟩
def Zjz:Con:=Con.nam [] [.snap Z78] (fun _=>True) (fun x=>Zsc)
theorem Z134:SqH Zjz 43 :=
 nP Zey Z3 Zb ({ loops:=Zw [],joins:=fun _=>none,named:=true }) Tryz.func43 (fun x p=>Zm0   p) fun x _ _=>Z15w
def Zbk:Con:=Con.nam [.slice (.int .i64),.slice (.int .i64)] [.snap .bool] (fun _=>True) (fun x=>Z10p x.1 x.2.1)
theorem Zk0:SqH Zbk 18 :=
 nP Zey Z3 Zb ({ loops:=Zw [(4,{ ls:=[(.slot 5,.data (.int .i64))],os:=[] })],joins:=fun _=>none,named:=true }) Tryz.func18 (fun x p=>Zm1  x.1 x.2.1 p) fun x _ w=>Z15x  x.1 x.2.1 w
def Z1ko:Cx:=addC 18 Zbk Z133
theorem Zez:CxOk Tryz.prog Z1ko:=Zk Zey Zk0
def Zmd:Con:=Con.nam [kSea,kSea] [.snap .bool] (fun _=>True) (fun x=>Zuv x.1 x.2.1)
theorem Z165:SqH Zmd 16 :=
 nP Zez Z3 Zb nHn Tryz.func16 (fun x p=>Zpw  x.1 x.2.1 p) fun x _ _=>Z1af  x.1 x.2.1
def Zme:Con:=Con.nam [Z78,kSea] [.snap (.ptr Z22),.snap .bool] (fun x=>Zsb x.1 x.2.1) (fun x=>Z69 x.1 x.2.1)
theorem Z166:SqH Zme 19 :=
 nP Zez Z3 Zb ({ loops:=Zw [],joins:=fun _=>none,named:=true }) Tryz.func19 (fun x p=>Zpx  x.1 x.2.1 p) fun x h _=>Z1ag  x.1 x.2.1 h
def Zk1:Con:=Con.nam [.slice (.int .i64)] [.snap (.int .i64)] (fun _=>True) (fun x=>Z6x x.1)
theorem Z135:SqH Zk1 22 :=
 nP Zez Z3 Zb ({ loops:=Zw [(3,{ ls:=[(.slot 3,.data (.int .i64)),(.slot 4,.data (.int .i64))],os:=[] })],joins:=fun _=>none,named:=true }) Tryz.func22 (fun x p=>Zm2  x.1 p) fun x _ w=>Z15y  x.1 w
end Go.Lift
