/- tarnlaw19.RiverDownhill: at every input it returns true and leaves the arguments as they were; cube.frames and geom.frames read as the program's text lays them. -/
import Derived.Test.YtplhligfkbgllaaGreatDoorTie
import Derived.Test.YtplhligfkbgllaaGreatDoorCards
import Derived.Test.YtplhligfkbgllaaGreatDoorPtD
set_option linter.unusedVariables false
set_option linter.unusedSimpArgs false
set_option linter.unusedSectionVars false
open Go.IntKind (i64 u64 u32 u8)
open Go.FloatKind (f64 f32)
namespace Go.Lift
def Zas:=fun (post:Nat × Unit→Prop)=>∃ (h:True),post ((Zmz (9221120237041090561:Int)).fst,())
theorem Zyg  : Zas   (fun r=>r=qnR):=by
 exact ⟨trivial,rfl⟩
def Zft:=fun (a:Nat) (post:Nat × Unit→Prop)=>∃ (h:True),∃ (h:True),post ((Zmz (Go.bits Go.BinOp.andNot u64 (Z98 a).fst (9223372036854775808 :
 Int))).fst,())
theorem Z12z (a:Nat) (h:W64 a):Zft  a (fun r=>r=absR a):=by
 refine ⟨trivial,trivial,?_⟩
 show r1 (Go.bits .andNot .u64 (a:Int) 9223372036854775808).toNat=_
 rw [Z12o h]; rfl
def Zat:=fun (a:Nat) (post:Bool × Unit→Prop)=>∀ (a_1:Bool),a_1=fcmp Go.BinOp.neq (f64.format.order a a)→post (a_1,())
theorem Zyh (a:Nat):Zat  a (fun r=>r=nanR a):=by
 rintro _ rfl
 exact congrArg r1 (Zp6 a)
def Zau:=fun (a:Nat) (post:Nat × Unit→Prop)=>∀ (a_1:Bool),a_1=fcmp Go.BinOp.neq (f64.format.order a a)→Br a_1 (∃ (h:True),post (qnR.fst,
 ())) (∀ (a_2:Bool),a_2=fcmp Go.BinOp.eql (f64.format.order a (0:Nat))→Br a_2 (post ((0:Nat),())) (post (a,())))
theorem Zyi (a:Nat):Zau  a (fun r=>r=Zg a):=by
 rintro _ rfl
 refine Br.intro (fun e=>⟨trivial,?_⟩) fun e=>?_
 ·have e:isN a=true:=(Zp6 a).symm.trans e
  exact congrArg r1 (by unfold Z1c; rw [if_pos e]; rfl)
 ·have e:isN a=false:=(Zp6 a).symm.trans e
  rintro _ rfl
  refine Br.intro (fun z=>?_) fun z=>?_
  ·have z:=(Z102 a).symm.trans z
   rw [e] at z
   exact congrArg r1 (by unfold Z1c; rw [e,if_neg (by simp),if_pos (by simpa using z)])
  ·have z:=(Z102 a).symm.trans z
   rw [e] at z
   exact congrArg r1 (by unfold Z1c; rw [e,if_neg (by simp),if_neg (by simpa using z)])
def Zda:=fun (a:Nat) (post:Nat × Unit→Prop)=>∃ (h:True),∀ (a_1:Bool),a_1=(nanR a).fst→Br a_1 (∃ (h:True),post ((Zmz (9221120237041090561 :
 Int)).fst,())) (post (a,()))
theorem Z11k (a:Nat):Zda  a (fun r=>r=Z10q a):=by
 refine ⟨trivial,?_⟩
 rintro _ rfl
 refine Br.intro (fun e=>⟨trivial,?_⟩) fun e=>?_
 ·have e:isN a=true:=e
  exact congrArg r1 (by unfold Zb; rw [if_pos e]; rfl)
 ·have e:isN a=false:=e
  exact congrArg r1 (by unfold Zb; rw [e]; rfl)
def Z6t:=fun (a:Nat) (post:Int × Unit→Prop)=>∃ (h:True),∃ (h:(0:Int)≤(1:Int)),post (u64.wrap ((Z98 a).fst*(2:Int) ^ Min.min
 (Int.toNat (1:Int)) u64.bits),())
theorem Zpr (a:Nat) (h:W64 a):Z6t  a (fun r=>r=Zzj a):=by
 refine ⟨trivial,by decide,?_⟩
 refine congrArg r1 ?_
 show u64.wrap ((a:Int)*2 ^ 1)=_
 rw [IntKind.wrap_u64]; unfold mag2 magI Z0 sw; omega
def Zav:=fun (a:Nat) (post:Int × Unit→Prop)=>∃ (h:True),∀ (a_1:Bool),a_1=decide ((Z98 a).fst≥(9223372036854775808:Int))→Br a_1 (post (Go.bits
 Go.BinOp.xor u64 (if u64.signed=true then (-1:Int) else u64.max) (Z98 a).fst,())) (post (Go.bits Go.BinOp.or u64 (Z98 a).fst
 (9223372036854775808:Int),()))
theorem Zyj (a:Nat) (h:W64 a):Zav  a (fun r=>r=Zrz a):=by
 refine ⟨trivial,?_⟩
 rintro _ rfl
 refine Br.intro (fun e=>?_) fun e=>?_
 ·have e:9223372036854775808≤a:=by have:=of_decide_eq_true e; dsimp only [Z98,r1] at this; omega
  refine congrArg r1 ?_
  show Go.bits .xor .u64 _ (a:Int)=_
  unfold Zgb; rw [if_pos ((Zn0 h).2 e)]
  exact Z19j h
 ·have e:a<9223372036854775808:=by have:=of_decide_eq_false e; dsimp only [Z98,r1] at this; omega
  refine congrArg r1 ?_
  show Go.bits .or .u64 (a:Int) 9223372036854775808=_
  unfold Zgb; rw [if_neg (by rw [Zn0 h]; omega)]
  exact Z1b3 e
def Z4p:=fun (a:Int) (post:Bool × Unit→Prop)=>∀ (a_1:Bool),a_1=(a != a)→post (a_1,())
theorem Zjz (a:Int):Z4p  a (fun r=>r=noR a):=by
 rintro _ rfl
 exact congrArg r1 (by simp)
def Z3s:=fun (a b:Int) (post:Int × Unit→Prop)=>∃ (h:True),∀ (a_1:Bool),a_1=(noR a).fst→∃ (h:True),∀ (a_2:Bool),a_2=(noR b).fst→Br a_1
 (Br a_2 (post ((0:Int),())) (post ((-1:Int),()))) (Br a_2 (post ((1:Int),())) (∀ (a_3:Bool),a_3=decide (a<b)→Br a_3 (post ((-1:Int),())) (∀ (a_4:Bool),a_4
 = decide (a > b)→Br a_4 (post ((1:Int),())) (post ((0:Int),())))))
theorem Zgl (a:Int) (b:Int):Z3s  a b (fun r=>r=cmpR a b):=by
 refine ⟨trivial,?_⟩
 rintro _ rfl
 refine ⟨trivial,?_⟩
 rintro _ rfl
 refine Br.intro (fun e=>by cases e) fun _=>Br.intro (fun e=>by cases e) fun _=>?_
 rintro _ rfl
 refine Br.intro (fun e=>?_) fun e=>?_
 ·exact congrArg r1 (by unfold cmpI; rw [if_pos (of_decide_eq_true e)])
 ·rintro _ rfl
  refine Br.intro (fun f=>?_) fun f=>?_
  ·exact congrArg r1 (by unfold cmpI; rw [if_neg (of_decide_eq_false e),if_pos (of_decide_eq_true f)])
  ·exact congrArg r1 (by unfold cmpI; rw [if_neg (of_decide_eq_false e),if_neg (of_decide_eq_false f)])
def Zaw:=fun (a b:Nat) (post:Int × Unit→Prop)=>∃ (h:W64 a),∃ (h:W64 b),∃ (h:True),post ((cmpR (Zrz a).fst (Zrz b).fst).fst,())
theorem Zyk (a:Nat) (b:Nat) (h:W2 a b):Zaw  a b (fun r=>r=ordR a b):=by
 exact ⟨h.1,h.2,trivial,rfl⟩
def Zax:=fun (a:List Int) (post:Int × Unit→Prop)=>HIs [] []∧∃ (I:Int × Unit→Unit→Prop),∃ (μ:Int × Unit→Unit→Nat),I ((0:Int),()) ()∧∀ (x :
 Int × Unit) (y:Unit),I x y→∀ (a_1:Bool),a_1=decide (x.fst<(↑a.length:Int))→Br a_1 (∃ (h:(0:Int)≤x.fst∧x.fst<(↑a.length:Int)),∀ (a_2:Bool),a_2 =
 (a.getD x.fst.toNat (0:Int) != (0:Int))→Br a_2 (post (a.getD x.fst.toNat (0:Int),())) (HIs [] []∧I (i64.wrap (x.fst+(1:Int)),()) ()∧μ (i64.wrap
 (x.fst+(1:Int)),()) ()<μ x y)) (post ((0:Int),()))
theorem Zyl (a:List Int) (w:KS.wf [.slice (.int .i64)] (a,())):Zax  a (fun r=>r=orR a):=by
 have hl:a.length≤maxN:=w.1.1
 unfold maxN at hl
 refine ⟨rfl,fun x _=>∃ i:Nat,x.1=i∧i≤a.length∧Z8e (a.drop i)=Z8e a,fun x _=>a.length - x.1.toNat,⟨0,rfl,by omega,rfl⟩,?_⟩
 rintro ⟨_,⟨⟩⟩ _ ⟨i,hi,hil,hn⟩
 dsimp only at hi
 subst hi
 rintro _ rfl
 refine Br.intro (fun e=>?_) fun e=>?_
 ·have e:i<a.length:=by have:=of_decide_eq_true e; dsimp only at this; omega
  have hd:a.drop i=a.getD i 0 :: a.drop (i+1):=by
   rw [List.drop_eq_getElem_cons e,List.getD_eq_getElem?_getD,List.getElem?_eq_getElem e]; rfl
  rw [hd] at hn
  simp only [Int.toNat_natCast]
  refine ⟨⟨by omega,by omega⟩,?_⟩
  rintro _ rfl
  refine Br.intro (fun z=>?_) fun z=>⟨rfl,⟨i+1,?_,by omega,?_⟩,?_⟩
  ·have z:a.getD i 0≠0:=by simpa using z
   refine congrArg r1 ?_
   rw [← hn]; unfold Z8e; rw [if_pos z]
  ·rw [wi ⟨by omega,by omega⟩]; omega
  ·have z:a.getD i 0=0:=by simpa using z
   rw [← hn,z]; rfl
  ·rw [wi ⟨by omega,by omega⟩]; omega
 ·have e:a.length≤i:=by have:=of_decide_eq_false e; dsimp only at this; omega
  refine congrArg r1 ?_
  rw [← hn,List.drop_eq_nil_of_le e]; rfl
def Z7r:=fun (a b:Nat) (post:Int × Unit→Prop)=>∃ (h:W64 a),∃ (h:W64 b),∃ (h:True),∃ (h:W2 a b),∃ (h:True),post ((orR [(cmpR (Zzj a).fst (Zzj
 b).fst).fst,(ordR a b).fst]).fst,())
theorem Zt1 (a:Nat) (b:Nat) (h:W2 a b):Z7r  a b (fun r=>r=Zi6 a b):=by
 refine ⟨h.1,h.2,trivial,h,trivial,?_⟩
 refine congrArg r1 ?_
 unfold cmpM
 show Z8e [cmpI (mag2 a) (mag2 b),ordF a b]=_
 simp only [Z8e]
 split
 ·rfl
 ·split
  ·rfl
  ·rename_i z; simpa using (by simpa using z:ordF a b=0).symm
def Zay:=fun (a:Nat) (b:Int) (post:Bool × Unit→Prop)=>∀ (a_1:Bool),a_1=(b==(0:Int))→Br a_1 (∃ (h:W64 a),∀ (a_2:Bool),a_2=fcmp Go.BinOp.gtr
 (f64.format.order (absR a).fst (9218868437227405311:Nat))→post (a_2,())) (∀ (a_2:Bool),a_2=decide (b<(0:Int))→Br a_2 (∀ (a_3:Bool),a_3=fcmp
 Go.BinOp.gtr (f64.format.order (Go.Op.negFloat f64 a) (9218868437227405311:Nat))→post (a_3,())) (∀ (a_3:Bool),a_3=fcmp Go.BinOp.gtr
 (f64.format.order a (9218868437227405311:Nat))→post (a_3,())))
theorem Zym (a:Nat) (b:Int) (h:WI a b):Zay  a b (fun r=>r=Z158 a b):=by
 have h:W64 a:=h
 rintro _ rfl
 refine Br.intro (fun e=>⟨h,?_⟩) fun e=>?_
 ·have e:b=0:=by simpa using e
  rintro _ rfl
  refine congrArg r1 ?_
  show fcmp .gtr (Ieee.double.order (Z0 a) 9218868437227405311)=_
  unfold infS; rw [if_pos e,Z10s]
  have:=Z13t a
  have e1:Z0 (Z0 a)=Z0 a:=Zut this
  have e2:sgn (Z0 a)=false:=by rw [Z13s (by unfold W64; omega)]; simp; omega
  rw [e1,e2]; simp
 ·have e:b≠0:=by simpa using e
  rintro _ rfl
  refine Br.intro (fun f=>?_) fun f=>?_
  ·have f:b<0:=of_decide_eq_true f
   rintro _ rfl
   refine congrArg r1 ?_
   show fcmp .gtr (Ieee.double.order (negF a) 9218868437227405311)=_
   unfold infS; rw [if_neg e,if_pos f,Z10s,(Zxg h).1,Z10r h]; simp
  ·have f:¬ b<0:=of_decide_eq_false f
   rintro _ rfl
   refine congrArg r1 ?_
   show fcmp .gtr (Ieee.double.order a 9218868437227405311)=_
   unfold infS; rw [if_neg e,if_neg f,Z10s]
end Go.Lift

namespace Go.Lift
open Go.Proofs
def Z2p:Con:=.det [.flt .f64] [.snap (.int .u64)] (fun _=>True) (fun x=>Z98 x.1)
theorem Z4c:Z2p.holds Tryz.prog RbG 120:=by
 refine Z15r (fn:=Tryz.f120) Tryz.func120 (by decide) rfl rfl (by kernel_rfl)
def Z25:Con:=.det [.int .u64] [.snap (.flt .f64)] (fun _=>True) (fun x=>Zmz x.1)
theorem Z2z:Z25.holds Tryz.prog RbG 146:=by
 refine Z15s (fn:=Tryz.f146) Tryz.func146 (by decide) rfl rfl (by kernel_rfl)
def Zja:Con:=.rel [.flt .f64] [.snap (.flt .f64)] (fun _=>True) (fun x r=>Zej x.1 r) (fun x h=>Z13r (Z13h _) (Zuh _))
theorem Zyn:Zja.holds Tryz.prog RbG 166:=by
 refine Z1a7 (fn:=Tryz.f166) Tryz.func166 (by decide) rfl rfl (by kernel_rfl)
def Zgm:Con:=.det [] [.snap (.flt .f64)] (fun _=>True) (fun x=>qnR)
def Zgn:Cx:=⟨Zk Zn,Zm [(146,Z25)],RbG⟩
theorem Zno:CxOk Tryz.prog Zgn:=⟨Z4 Z7,Z9 ⟨Z2z,trivial⟩⟩
theorem Zt2:FnAt Tryz.prog 119 Tryz.f119.ntmps Tryz.f119.results.toList (Tryz.f119.body.getD .skip):=⟨Tryz.f119,Tryz.func119,rfl,rfl,by simp,by decide⟩
theorem Zt3  (post:Nat × Unit→Prop):Ze Zgn nHn Tryz.f119.ntmps Tryz.f119.results.toList (Tryz.f119.body.getD .skip) [] [.snap (.flt .f64)] (()) post=Zas   post:=by kernel_rfl
theorem Zvn:Zgm.holds Tryz.prog RbG 119 :=
 detP Zno Z8 nHn Zt2 (F:=fun x post=>Zas   post) (fun x post=>Zt3  post) fun x _ _=>Zyg
def Zdb:Con:=.det [.flt .f64] [.snap (.flt .f64)] (fun x=>W64 x.1) (fun x=>absR x.1)
def Zls:Cx:=⟨Zk Zn,Zm [(120,Z2p),(146,Z25)],RbG⟩
theorem Zt4:CxOk Tryz.prog Zls:=⟨Z4 Z7,Z9 ⟨Z4c,Z2z,trivial⟩⟩
theorem Zyo:FnAt Tryz.prog 151 Tryz.f151.ntmps Tryz.f151.results.toList (Tryz.f151.body.getD .skip):=⟨Tryz.f151,Tryz.func151,rfl,rfl,by simp,by decide⟩
theorem Zyp (a:Nat) (post:Nat × Unit→Prop):Ze Zls nHn Tryz.f151.ntmps Tryz.f151.results.toList (Tryz.f151.body.getD .skip) [.flt .f64] [.snap (.flt .f64)] (a,()) post=Zft  a post:=by kernel_rfl
theorem Zlt:Zdb.holds Tryz.prog RbG 151 :=
 detP Zt4 Z8 nHn Zyo (F:=fun x post=>Zft  x.1 post) (fun x post=>Zyp x.1 post) fun x h _=>Z12z  x.1 h
def Zgo:Con:=.det [.flt .f64] [.snap .bool] (fun _=>True) (fun x=>nanR x.1)
def Zgp:Cx:=⟨Zk Zn,Zm [],RbG⟩
theorem Znp:CxOk Tryz.prog Zgp:=⟨Z4 Z7,fun f c h=>by cases h⟩
theorem Zt5:FnAt Tryz.prog 197 Tryz.f197.ntmps Tryz.f197.results.toList (Tryz.f197.body.getD .skip):=⟨Tryz.f197,Tryz.func197,rfl,rfl,by simp,by decide⟩
theorem Zt6 (a:Nat) (post:Bool × Unit→Prop):Ze Zgp nHn Tryz.f197.ntmps Tryz.f197.results.toList (Tryz.f197.body.getD .skip) [.flt .f64] [.snap .bool] (a,()) post=Zat  a post:=by kernel_rfl
theorem Zvo:Zgo.holds Tryz.prog RbG 197 :=
 detP Znp Z8 nHn Zt5 (F:=fun x post=>Zat  x.1 post) (fun x post=>Zt6 x.1 post) fun x _ _=>Zyh  x.1
def Z2w:Con:=.det [.flt .f64] [.snap (.flt .f64)] (fun _=>True) (fun x=>Zg x.1)
def Zgq:Cx:=⟨Zk Zn,Zm [(119,Zgm)],RbG⟩
theorem Znq:CxOk Tryz.prog Zgq:=⟨Z4 Z7,Z9 ⟨Zvn,trivial⟩⟩
theorem Zt7:FnAt Tryz.prog 88 Tryz.f88.ntmps Tryz.f88.results.toList (Tryz.f88.body.getD .skip):=⟨Tryz.f88,Tryz.func88,rfl,rfl,by simp,by decide⟩
theorem Zt8 (a:Nat) (post:Nat × Unit→Prop):Ze Zgq nHn Tryz.f88.ntmps Tryz.f88.results.toList (Tryz.f88.body.getD .skip) [.flt .f64] [.snap (.flt .f64)] (a,()) post=Zau  a post:=by kernel_rfl
theorem Z3t:Z2w.holds Tryz.prog RbG 88 :=
 detP Znq Z8 nHn Zt7 (F:=fun x post=>Zau  x.1 post) (fun x post=>Zt8 x.1 post) fun x _ _=>Zyi  x.1
def Zjb:Con:=.det [.flt .f64] [.snap (.flt .f64)] (fun _=>True) (fun x=>Z10q x.1)
def Zjc:Cx:=⟨Zk Zn,Zm [(197,Zgo),(146,Z25)],RbG⟩
theorem Zps:CxOk Tryz.prog Zjc:=⟨Z4 Z7,Z9 ⟨Zvo,Z2z,trivial⟩⟩
theorem Zvp:FnAt Tryz.prog 182 Tryz.f182.ntmps Tryz.f182.results.toList (Tryz.f182.body.getD .skip):=⟨Tryz.f182,Tryz.func182,rfl,rfl,by simp,by decide⟩
theorem Zvq (a:Nat) (post:Nat × Unit→Prop):Ze Zjc nHn Tryz.f182.ntmps Tryz.f182.results.toList (Tryz.f182.body.getD .skip) [.flt .f64] [.snap (.flt .f64)] (a,()) post=Zda  a post:=by kernel_rfl
theorem Zyq:Zjb.holds Tryz.prog RbG 182 :=
 detP Zps Z8 nHn Zvp (F:=fun x post=>Zda  x.1 post) (fun x post=>Zvq x.1 post) fun x _ _=>Z11k  x.1
def Zbf:Con:=.det [.flt .f64] [.snap (.int .u64)] (fun x=>W64 x.1) (fun x=>Zzj x.1)
def Zbg:Cx:=⟨Zk Zn,Zm [(120,Z2p)],RbG⟩
theorem Zio:CxOk Tryz.prog Zbg:=⟨Z4 Z7,Z9 ⟨Z4c,trivial⟩⟩
theorem Zlu:FnAt Tryz.prog 170 Tryz.f170.ntmps Tryz.f170.results.toList (Tryz.f170.body.getD .skip):=⟨Tryz.f170,Tryz.func170,rfl,rfl,by simp,by decide⟩
theorem Zlv (a:Nat) (post:Int × Unit→Prop):Ze Zbg nHn Tryz.f170.ntmps Tryz.f170.results.toList (Tryz.f170.body.getD .skip) [.flt .f64] [.snap (.int .u64)] (a,()) post=Z6t  a post:=by kernel_rfl
theorem Znr:Zbf.holds Tryz.prog RbG 170 :=
 detP Zio Z8 nHn Zlu (F:=fun x post=>Z6t  x.1 post) (fun x post=>Zlv x.1 post) fun x h _=>Zpr  x.1 h
def Zgr:Con:=.det [.flt .f64] [.snap (.int .u64)] (fun x=>W64 x.1) (fun x=>Zrz x.1)
def Zgs:Cx:=⟨Zk Zn,Zm [(120,Z2p)],RbG⟩
theorem Zns:CxOk Tryz.prog Zgs:=⟨Z4 Z7,Z9 ⟨Z4c,trivial⟩⟩
theorem Zt9:FnAt Tryz.prog 118 Tryz.f118.ntmps Tryz.f118.results.toList (Tryz.f118.body.getD .skip):=⟨Tryz.f118,Tryz.func118,rfl,rfl,by simp,by decide⟩
theorem Zta (a:Nat) (post:Int × Unit→Prop):Ze Zgs nHn Tryz.f118.ntmps Tryz.f118.results.toList (Tryz.f118.body.getD .skip) [.flt .f64] [.snap (.int .u64)] (a,()) post=Zav  a post:=by kernel_rfl
theorem Zvr:Zgr.holds Tryz.prog RbG 118 :=
 detP Zns Z8 nHn Zt9 (F:=fun x post=>Zav  x.1 post) (fun x post=>Zta x.1 post) fun x h _=>Zyj  x.1 h
def Z7s:Con:=.det [.int .u64] [.snap .bool] (fun _=>True) (fun x=>noR x.1)
def Z7t:Cx:=⟨Zk Zn,Zm [],RbG⟩
theorem Zdz:CxOk Tryz.prog Z7t:=⟨Z4 Z7,fun f c h=>by cases h⟩
theorem Zgt:FnAt Tryz.prog 145 Tryz.f145.ntmps Tryz.f145.results.toList (Tryz.f145.body.getD .skip):=⟨Tryz.f145,Tryz.func145,rfl,rfl,by simp,by decide⟩
theorem Zgu (a:Int) (post:Bool × Unit→Prop):Ze Z7t nHn Tryz.f145.ntmps Tryz.f145.results.toList (Tryz.f145.body.getD .skip) [.int .u64] [.snap .bool] (a,()) post=Z4p  a post:=by kernel_rfl
theorem Zip:Z7s.holds Tryz.prog RbG 145 :=
 detP Zdz Z8 nHn Zgt (F:=fun x post=>Z4p  x.1 post) (fun x post=>Zgu x.1 post) fun x _ _=>Zjz  x.1
def Z3g:Con:=.det [.int .u64,.int .u64] [.snap (.int .i64)] (fun _=>True) (fun x=>cmpR x.1 x.2.1)
def Z6h:Cx:=⟨Zk Zn,Zm [(145,Z7s)],RbG⟩
theorem Zc5:CxOk Tryz.prog Z6h:=⟨Z4 Z7,Z9 ⟨Zip,trivial⟩⟩
theorem Ze0:FnAt Tryz.prog 117 Tryz.f117.ntmps Tryz.f117.results.toList (Tryz.f117.body.getD .skip):=⟨Tryz.f117,Tryz.func117,rfl,rfl,by simp,by decide⟩
theorem Ze1 (a:Int) (b:Int) (post:Int × Unit→Prop):Ze Z6h nHn Tryz.f117.ntmps Tryz.f117.results.toList (Tryz.f117.body.getD .skip) [.int .u64,.int .u64] [.snap (.int .i64)] (a,b,()) post=Z3s  a b post:=by kernel_rfl
theorem Z6i:Z3g.holds Tryz.prog RbG 117 :=
 detP Zc5 Z8 nHn Ze0 (F:=fun x post=>Z3s  x.1 x.2.1 post) (fun x post=>Ze1 x.1 x.2.1 post) fun x _ _=>Zgl  x.1 x.2.1
def Z60:Con:=.det [.flt .f64,.flt .f64] [.snap (.int .i64)] (fun x=>W2 x.1 x.2.1) (fun x=>ordR x.1 x.2.1)
def Zgv:Cx:=⟨Zk Zn,Zm [(118,Zgr),(117,Z3g)],RbG⟩
theorem Znt:CxOk Tryz.prog Zgv:=⟨Z4 Z7,Z9 ⟨Zvr,Z6i,trivial⟩⟩
theorem Ztb:FnAt Tryz.prog 87 Tryz.f87.ntmps Tryz.f87.results.toList (Tryz.f87.body.getD .skip):=⟨Tryz.f87,Tryz.func87,rfl,rfl,by simp,by decide⟩
theorem Ztc (a:Nat) (b:Nat) (post:Int × Unit→Prop):Ze Zgv nHn Tryz.f87.ntmps Tryz.f87.results.toList (Tryz.f87.body.getD .skip) [.flt .f64,.flt .f64] [.snap (.int .i64)] (a,b,()) post=Zaw  a b post:=by kernel_rfl
theorem Z8s:Z60.holds Tryz.prog RbG 87 :=
 detP Znt Z8 nHn Ztb (F:=fun x post=>Zaw  x.1 x.2.1 post) (fun x post=>Ztc x.1 x.2.1 post) fun x h _=>Zyk  x.1 x.2.1 h
def Zgw:Con:=.det [.slice (.int .i64)] [.snap (.int .i64)] (fun _=>True) (fun x=>orR x.1)
def Zex:Hn:={ loops:=fun k=>match k with | 3=>some { ls:=[(.slot 8,.data (.int .i64))],os:=[] } | _=>none,joins:=fun _=>none,named:=true }
def Zgx:Cx:=⟨Zk Zn,Zm [],RbG⟩
theorem Znu:CxOk Tryz.prog Zgx:=⟨Z4 Z7,fun f c h=>by cases h⟩
theorem Ztd:FnAt Tryz.prog 169 Tryz.f169.ntmps Tryz.f169.results.toList (Tryz.f169.body.getD .skip):=⟨Tryz.f169,Tryz.func169,rfl,rfl,by simp,by decide⟩
theorem Zte (a:List Int) (post:Int × Unit→Prop):Ze Zgx Zex Tryz.f169.ntmps Tryz.f169.results.toList (Tryz.f169.body.getD .skip) [.slice (.int .i64)] [.snap (.int .i64)] (a,()) post=Zax  a post:=by kernel_rfl
theorem Zvs:Zgw.holds Tryz.prog RbG 169 :=
 detP Znu Z8 Zex Ztd (F:=fun x post=>Zax  x.1 post) (fun x post=>Zte x.1 post) fun x _ w=>Zyl  x.1 w
def Zdc:Con:=.det [.flt .f64,.flt .f64] [.snap (.int .i64)] (fun x=>W2 x.1 x.2.1) (fun x=>Zi6 x.1 x.2.1)
def Zdd:Cx:=⟨Zk Zn,Zm [(170,Zbf),(117,Z3g),(87,Z60),(169,Zgw)],RbG⟩
theorem Zk0:CxOk Tryz.prog Zdd:=⟨Z4 Z7,Z9 ⟨Znr,Z6i,Z8s,Zvs,trivial⟩⟩
theorem Znv:FnAt Tryz.prog 168 Tryz.f168.ntmps Tryz.f168.results.toList (Tryz.f168.body.getD .skip):=⟨Tryz.f168,Tryz.func168,rfl,rfl,by simp,by decide⟩
theorem Znw (a:Nat) (b:Nat) (post:Int × Unit→Prop):Ze Zdd nHn Tryz.f168.ntmps Tryz.f168.results.toList (Tryz.f168.body.getD .skip) [.flt .f64,.flt .f64] [.snap (.int .i64)] (a,b,()) post=Z7r  a b post:=by kernel_rfl
theorem Zpt:Zdc.holds Tryz.prog RbG 168 :=
 detP Zk0 Z8 nHn Znv (F:=fun x post=>Z7r  x.1 x.2.1 post) (fun x post=>Znw x.1 x.2.1 post) fun x h _=>Zt1  x.1 x.2.1 h
def Zgy:Con:=.det [.flt .f64,.int .i64] [.snap .bool] (fun x=>WI x.1 x.2.1) (fun x=>Z158 x.1 x.2.1)
def Zgz:Cx:=⟨Zk Zn,Zm [(151,Zdb)],RbG⟩
theorem Znx:CxOk Tryz.prog Zgz:=⟨Z4 Z7,Z9 ⟨Zlt,trivial⟩⟩
theorem Ztf:FnAt Tryz.prog 173 Tryz.f173.ntmps Tryz.f173.results.toList (Tryz.f173.body.getD .skip):=⟨Tryz.f173,Tryz.func173,rfl,rfl,by simp,by decide⟩
theorem Ztg (a:Nat) (b:Int) (post:Bool × Unit→Prop):Ze Zgz nHn Tryz.f173.ntmps Tryz.f173.results.toList (Tryz.f173.body.getD .skip) [.flt .f64,.int .i64] [.snap .bool] (a,b,()) post=Zay  a b post:=by kernel_rfl
theorem Zvt:Zgy.holds Tryz.prog RbG 173 :=
 detP Znx Z8 nHn Ztf (F:=fun x post=>Zay  x.1 x.2.1 post) (fun x post=>Ztg x.1 x.2.1 post) fun x h _=>Zym  x.1 x.2.1 h
end Go.Lift

namespace Go.Lift
def Zde:=fun (a b c:Nat) (post:(Nat × Nat × Nat) × Unit→Prop)=>∃ (h:True),∃ (h:True),∃ (h:True),post (((Zg a).fst,(Zg b).fst,(Zg c).fst),
 ())
theorem Z11l (a:Nat) (b:Nat) (c:Nat):Zde  a b c (fun r=>r=Z3p a b c):=by
 exact ⟨trivial,trivial,trivial,rfl⟩
def Zdf:=fun (a b:Nat × Nat × Nat) (post:(Nat × Nat × Nat) × Unit→Prop)=>∀ (a_1:Nat),FRes f64 (f64.format.sub a.fst b.fst) a_1→∀
 (a_2:Nat),FRes f64 (f64.format.sub a.snd.fst b.snd.fst) a_2→∀ (a_3:Nat),FRes f64 (f64.format.sub a.snd.snd b.snd.snd)
 a_3→∃ (h:True),post (((Z3p a_1 a_2 a_3).fst.fst,(Z3p a_1 a_2 a_3).fst.snd.fst,(Z3p a_1 a_2 a_3).fst.snd.snd),())
theorem Z11m (a:Nat × Nat × Nat) (b:Nat × Nat × Nat) (h:WV2 a b):Zdf  a b (fun r=>r=Z6f a b):=by
 intro x hx y hy z hz
 exact ⟨trivial,congrArg r1 (Zcw (fsub hx).1 (fsub hy).1 (fsub hz).1)⟩
def Zdg:=fun (a b:Nat × Nat × Nat) (post:(Nat × Nat × Nat) × Unit→Prop)=>∀ (a_1:Nat),FRes f64 (f64.format.mul a.snd.fst b.snd.snd)
 a_1→∀ (a_2:Nat),FRes f64 (f64.format.mul a.snd.snd b.snd.fst) a_2→∀ (a_3:Nat),FRes f64 (f64.format.sub a_1 a_2) a_3 →
 ∀ (a_4:Nat),FRes f64 (f64.format.mul a.snd.snd b.fst) a_4→∀ (a_5:Nat),FRes f64 (f64.format.mul a.fst b.snd.snd) a_5→∀
 (a_6:Nat),FRes f64 (f64.format.sub a_4 a_5) a_6→∀ (a_7:Nat),FRes f64 (f64.format.mul a.fst b.snd.fst) a_7→∀ (a_8 :
 Nat),FRes f64 (f64.format.mul a.snd.fst b.fst) a_8→∀ (a:Nat),FRes f64 (f64.format.sub a_7 a_8) a→∃ (h:True),post
 (((Z3p a_3 a_6 a).fst.fst,(Z3p a_3 a_6 a).fst.snd.fst,(Z3p a_3 a_6 a).fst.snd.snd),())
theorem Z11n (a:Nat × Nat × Nat) (b:Nat × Nat × Nat):Zdg  a b (fun r=>r=Zlb a b):=by
 intro x1 h1 x2 h2 x3 h3 x4 h4 x5 h5 x6 h6 x7 h7 x8 h8 x9 h9
 exact ⟨trivial,congrArg r1 (Zcw (Zuv (fmul h1).1 (fmul h2).1 (fsub h3).1) (Zuv (fmul h4).1 (fmul h5).1 (fsub h6).1) (Zuv (fmul h7).1 (fmul h8).1 (fsub h9).1))⟩
def Zdh:=fun (a:Nat) (post:Nat × Unit→Prop)=>∃ (h:True),∀ (a_1:Nat × Unit),Zej a a_1→post (a_1.fst,())
theorem Z11o (a:Nat):Zdh  a (fun r=>Zej a r):=by
 exact ⟨trivial,fun x hx=>hx⟩
def Zaz:=fun (a:Nat × Nat × Nat) (post:Nat × Unit→Prop)=>∀ (a_1:Nat),FRes f64 (f64.format.mul a.fst a.fst) a_1→∀ (a_2:Nat),FRes
 f64 (f64.format.mul a.snd.fst a.snd.fst) a_2→∀ (a_3:Nat),FRes f64 (f64.format.mul a.snd.snd a.snd.snd) a_3→∃ (h:W3 a_1
 a_2 a_3),∃ (h:True),∀ (a:Nat × Unit),Zej (Zs0 a_1 a_2 a_3).fst a→∃ (h:True),post ((Zg a.fst).fst,())
theorem Zyr (a:Nat × Nat × Nat) (h:WV a):Zaz  a (fun r=>r=Z3q a):=by
 intro x hx y hy z hz
 exact ⟨⟨(fmul hx).2,(fmul hy).2,(fmul hz).2⟩,trivial,fun w hw=>⟨trivial,congrArg r1 (length_eq (fmul hx).1 (fmul hy).1 (fmul hz).1 hw.1)⟩⟩
def Ziq:=fun (a b:Nat × Nat × Nat) (post:Nat × Unit→Prop)=>∃ (h:WV2 (a.fst,a.snd.fst,a.snd.snd) (b.fst,b.snd.fst,b.snd.snd)),∃ (h:WV (Z6f (a.fst,
 a.snd.fst,a.snd.snd) (b.fst,b.snd.fst,b.snd.snd)).fst),post ((Z3q (Z6f (a.fst,a.snd.fst,a.snd.snd) (b.fst,b.snd.fst,b.snd.snd)).fst).fst,())
theorem Z163 (a:Nat × Nat × Nat) (b:Nat × Nat × Nat) (h:WV2 a b):Ziq  a b (fun r=>r=gapR a b):=by
 exact ⟨h,Z19m _ _,rfl⟩
def Zfu:=fun (a:Nat × Nat × Nat) (post:(Nat × Nat × Nat) × Unit→Prop)=>∃ (h:WV (a.fst,a.snd.fst,a.snd.snd)),∀ (a_1:Bool),a_1=fcmp Go.BinOp.gtr
 (f64.format.order (Z3q (a.fst,a.snd.fst,a.snd.snd)).fst (0:Nat))→Br (!a_1) (post (((0:Nat),(0:Nat),(0:Nat)),())) (∃ (h:WI (Z3q (a.fst,
 a.snd.fst,a.snd.snd)).fst (1:Int)),∀ (a_2:Bool),a_2=(Z158 (Z3q (a.fst,a.snd.fst,a.snd.snd)).fst (1:Int)).fst→Br a_2 (post (((0:Nat),(0:Nat),(0:Nat)),
 ())) (∀ (a_3:Nat),FRes f64 (f64.format.div a.fst (Z3q (a.fst,a.snd.fst,a.snd.snd)).fst) a_3→∀ (a_4:Nat),FRes f64
 (f64.format.div a.snd.fst (Z3q (a.fst,a.snd.fst,a.snd.snd)).fst) a_4→∀ (a_5:Nat),FRes f64 (f64.format.div a.snd.snd (Z3q
 (a.fst,a.snd.fst,a.snd.snd)).fst) a_5→∃ (h:True),post (((Z3p a_3 a_4 a_5).fst.fst,(Z3p a_3 a_4 a_5).fst.snd.fst,(Z3p a_3 a_4 a_5).fst.snd.snd),())))
theorem Z130 (a:Nat × Nat × Nat) (h:WV a):Zfu  a (fun r=>r=Zs2 a):=by
 refine ⟨h,?_⟩
 have hs:=Z12q a
 have hg:=Z1b6 hs
 rintro _ rfl
 refine Br.intro (fun e=>?_) fun e=>⟨Z17o a,?_⟩
 ·have e:(!fcmp .gtr (Ieee.double.order (Z11 a) 0))=true:=e
  rw [hg] at e
  refine (congrArg r1 (Zxh ?_)).symm
  rw [Zuw]
  rintro ⟨h1,h2⟩
  have:isN (Z11 a)=false:=by unfold isN; simp; omega
  rw [this] at e
  simp [h1] at e
 ·have e:(!fcmp .gtr (Ieee.double.order (Z11 a) 0))=false:=e
  rw [hg] at e
  have e:isN (Z11 a)=false∧Z0 (Z11 a)≠0:=by simpa using e
  have hi:infS (Z11 a) 1=decide (Z0 (Z11 a)=infR):=by unfold infS; rw [if_neg (by decide),if_neg (by decide),hs]; simp
  rintro _ rfl
  refine Br.intro (fun f=>?_) fun f=>?_
  ·have f:infS (Z11 a) 1=true:=f
   rw [hi] at f
   have f:=of_decide_eq_true f
   exact (congrArg r1 (Zxh (by rw [Zuw]; rintro ⟨h1,h2⟩; omega))).symm
  ·have f:infS (Z11 a) 1=false:=f
   rw [hi] at f
   have f:=of_decide_eq_false f
   have g:Z0 (Z11 a)≤infR:=by have:=e.1; unfold isN at this; simpa using this
   intro x hx y hy z hz
   exact ⟨trivial,congrArg r1 (Z17p ((Zuw _).2 ⟨e.2,by omega⟩) (fdiv hx).1 (fdiv hy).1 (fdiv hz).1)⟩
end Go.Lift

namespace Go.Lift
def Zir:=fun (a:List Nat) (post:Nat × Unit→Prop)=>∀ (a_1:Bool),a_1=((↑a.length:Int)==(0:Int))→Br a_1 (post ((0:Nat),())) (∃ (h:(0:Int)≤(0 :
 Int)∧(0:Int)<(↑a.length:Int)),∃ (h:(0:Int)≤(1:Int)∧(1:Int)≤(↑a.length:Int)∧(↑a.length:Int)≤(↑a.length:Int)),HIs [] []∧∃ (I:Nat × Int × Unit →
 Unit→Prop),∃ (μ:Nat × Int × Unit→Unit→Nat),I (a.getD (Int.toNat (0:Int)) (0:Nat),(0:Int),()) ()∧∀ (x:Nat × Int × Unit) (y:Unit),I x y→∀ (a_2:Bool),
 a_2=decide (x.snd.fst<(↑(List.take ((↑a.length:Int) - (1:Int)).toNat (List.drop (Int.toNat (1:Int)) a)).length:Int))→Br a_2 (∃ (h:(0:Int)≤x.snd.fst∧x.snd.fst
 < (↑(List.take ((↑a.length:Int) - (1:Int)).toNat (List.drop (Int.toNat (1:Int)) a)).length:Int)),∀ (a_3:Nat),FRes f64 (f64.format.add x.fst
 ((List.take ((↑a.length:Int) - (1:Int)).toNat (List.drop (Int.toNat (1:Int)) a)).getD x.snd.fst.toNat (0:Nat))) a_3→HIs [] []∧I (a_3,i64.wrap (x.snd.fst+(1
 : Int)),()) ()∧μ (a_3,i64.wrap (x.snd.fst+(1:Int)),()) ()<μ x y) (∃ (h:True),post ((Z10q x.fst).fst,())))
theorem Z164 (a:List Nat) (h:WL a) (w:KS.wf [.slice (.flt .f64)] (a,())):Zir  a (fun r=>r=rowR a):=by
 have hl:a.length≤maxN:=w.1.1
 unfold maxN at hl
 rintro _ rfl
 refine Br.intro (fun e=>?_) fun e=>?_
 ·have e:a.length=0:=by have:=eq_of_beq e; omega
  have:a=[]:=List.eq_nil_of_length_eq_zero e
  subst this; rfl
 ·have e:0<a.length:=by
   rcases Nat.eq_zero_or_pos a.length with z | z
   ·rw [z] at e; cases e
   ·exact z
  refine ⟨⟨by omega,by omega⟩,⟨by omega,by omega,by omega⟩,rfl,fun x _=>∃ i:Nat,x.2.1=i∧i+1≤a.length∧W64 x.1∧Zb x.1=rowQ (a.take (i+1)),fun x _=>a.length - x.2.1.toNat,⟨0,rfl,by omega,Z1b5 h 0,(Z19k e).symm⟩,?_⟩
  have ht:List.take ((a.length:Int) - 1).toNat (List.drop (Int.toNat 1) a)=a.drop 1:=by
   show List.take ((a.length:Int) - 1).toNat (List.drop 1 a)=a.drop 1
   apply List.take_of_length_le; rw [List.length_drop]; omega
  rw [ht]
  have hd:∀ i,(a.drop 1).getD i 0=a.getD (i+1) 0:=by
   intro i; rw [List.getD_eq_getElem?_getD,List.getD_eq_getElem?_getD,List.getElem?_drop,Nat.add_comm]
  rintro ⟨acc,_,⟨⟩⟩ _ ⟨i,hi,hil,hw,hq⟩
  dsimp only at hi hw hq
  subst hi
  dsimp only
  rintro _ rfl
  refine Br.intro (fun f=>?_) fun f=>?_
  ·have f:i+1<a.length:=by have:=of_decide_eq_true f; rw [List.length_drop] at this; omega
   refine ⟨⟨by omega,by rw [List.length_drop]; omega⟩,fun r hr=>?_⟩
   rw [Int.toNat_natCast,hd] at hr
   obtain ⟨q1,q2⟩:=fadd hr
   refine ⟨rfl,⟨i+1,?_,by omega,q2,?_⟩,?_⟩
   ·rw [wi ⟨by omega,by omega⟩]; omega
   ·show Zb r=_
    rw [q1,Z1b4 f (by omega),Z14l (x':=rowQ (a.take (i+1))) (by rw [hq,Z1c3]) rfl]
   ·rw [wi ⟨by omega,by omega⟩]; omega
  ·have f:a.length≤i+1:=by have:=of_decide_eq_false f; rw [List.length_drop] at this; omega
   refine ⟨trivial,congrArg r1 ?_⟩
   show Zb acc=_
   rw [hq,List.take_of_length_le f]
def Zdi:=fun (a b c:Nat) (post:Nat × Unit→Prop)=>∃ (h:(List.replicate (3:Nat) (0:Nat)).length=(3:Nat)∧(3:Nat)=(3:Nat)),∃ (h:(0:Int)≤(0 :
 Int)∧(0:Int)≤(3:Int)∧(3:Int)≤(3:Int)∧(3:Nat)=(3:Nat)),∃ (h:Zn1 (3:Int)),∃ (h:(0:Int)≤(1:Int)∧(1:Int)<(3:Int)),∃ (h:(0:Int) ≤
 (0:Int)∧(0:Int)<(3:Int)),∃ (h:W2 b a),Br (decide ((Zi6 b a).fst<(0:Int))) (∃ (h:(0:Int)≤(0:Int)∧(0:Int)<(3:Int)),∃ (h:(0:Int)≤(1:Int)
 ∧ (1:Int)<(3:Int)),∃ (h:(0:Int)≤(1:Int)∧(1:Int)<(3:Int)),∃ (h:(0:Int)≤(0:Int)∧(0:Int)<(3:Int)),∃ (h:(0:Int)≤(2:Int)∧(2:Int) <
 (3:Int)),∃ (h:(0:Int)≤(1:Int)∧(1:Int)<(3:Int)),∃ (h:W2 c a),Br (decide ((Zi6 c a).fst<(0:Int))) (∃ (h:(0:Int)≤(1:Int)∧(1:Int)<(3 :
 Int)),∃ (h:(0:Int)≤(2:Int)∧(2:Int)<(3:Int)),∃ (h:(0:Int)≤(2:Int)∧(2:Int)<(3:Int)),∃ (h:(0:Int)≤(1:Int)∧(1:Int)<(3:Int)),∃ (h :
 (0:Int)≤(1:Int)∧(1:Int)<(3:Int)),∃ (h:(0:Int)≤(0:Int)∧(0:Int)<(3:Int)),∃ (h:W2 c b),Br (decide ((Zi6 c b).fst<(0:Int))) (∃ (h:(0:Int)
 ≤ (0:Int)∧(0:Int)<(3:Int)),∃ (h:(0:Int)≤(1:Int)∧(1:Int)<(3:Int)),∃ (h:(0:Int)≤(1:Int)∧(1:Int)<(3:Int)),∃ (h:(0:Int)≤(0:Int) ∧
 (0:Int)<(3:Int)),∃ (h:(0:Int)≤(0:Int)∧(0:Int)≤(3:Int)∧(3:Int)≤(3:Int)∧(3:Nat)=[c,b,a].length),∃ (h:WL [c,b,a]),post ((rowR [c,b,
 a]).fst,())) (∃ (h:(0:Int)≤(0:Int)∧(0:Int)≤(3:Int)∧(3:Int)≤(3:Int)∧(3:Nat)=[b,c,a].length),∃ (h:WL [b,c,a]),post ((rowR [b,c,a]).fst,
 ()))) (∃ (h:(0:Int)≤(0:Int)∧(0:Int)≤(3:Int)∧(3:Int)≤(3:Int)∧(3:Nat)=[b,a,c].length),∃ (h:WL [b,a,c]),post ((rowR [b,a,c]).fst,()))) (∃ (h
 : (0:Int)≤(2:Int)∧(2:Int)<(3:Int)),∃ (h:(0:Int)≤(1:Int)∧(1:Int)<(3:Int)),∃ (h:W2 c b),Br (decide ((Zi6 c b).fst<(0:Int))) (∃ (h:(0 :
 Int)≤(1:Int)∧(1:Int)<(3:Int)),∃ (h:(0:Int)≤(2:Int)∧(2:Int)<(3:Int)),∃ (h:(0:Int)≤(2:Int)∧(2:Int)<(3:Int)),∃ (h:(0:Int)≤(1 :
 Int)∧(1:Int)<(3:Int)),∃ (h:(0:Int)≤(1:Int)∧(1:Int)<(3:Int)),∃ (h:(0:Int)≤(0:Int)∧(0:Int)<(3:Int)),∃ (h:W2 c a),Br (decide ((Zi6 c
 a).fst<(0:Int))) (∃ (h:(0:Int)≤(0:Int)∧(0:Int)<(3:Int)),∃ (h:(0:Int)≤(1:Int)∧(1:Int)<(3:Int)),∃ (h:(0:Int)≤(1:Int)∧(1:Int)<(3 :
 Int)),∃ (h:(0:Int)≤(0:Int)∧(0:Int)<(3:Int)),∃ (h:(0:Int)≤(0:Int)∧(0:Int)≤(3:Int)∧(3:Int)≤(3:Int)∧(3:Nat)=[c,a,b].length),∃ (h :
 WL [c,a,b]),post ((rowR [c,a,b]).fst,())) (∃ (h:(0:Int)≤(0:Int)∧(0:Int)≤(3:Int)∧(3:Int)≤(3:Int)∧(3:Nat)=[a,c,b].length),∃ (h:WL [a,c,
 b]),post ((rowR [a,c,b]).fst,()))) (∃ (h:(0:Int)≤(0:Int)∧(0:Int)≤(3:Int)∧(3:Int)≤(3:Int)∧(3:Nat)=(3:Nat)),∃ (h:WL [a,b,c]),post ((rowR
 [a,b,c]).fst,())))
theorem Z11p (a:Nat) (b:Nat) (c:Nat) (h:W3 a b c):Zdi  a b c (fun r=>r=Zs0 a b c):=by
 obtain ⟨ha,hb,hc⟩:=h
 have leaf:∀ l,Zbx a b c=l→((rowR l).fst,())=Zs0 a b c:=by rintro _ rfl; rfl
 refine ⟨⟨rfl,rfl⟩,⟨by decide,by decide,by decide,rfl⟩,rfl,by decide,by decide,⟨hb,ha⟩,Br.intro (fun e=>⟨by decide,by decide,by decide,by decide,by decide,by decide,⟨hc,ha⟩,Br.intro (fun f=>⟨by decide,by decide,by decide,by decide,by decide,by decide,⟨hc,hb⟩,Br.intro (fun g=>⟨by decide,by decide,by decide,by decide,⟨by decide,by decide,by decide,rfl⟩,WL3 hc hb ha,leaf _ ?_⟩) fun g=>⟨⟨by decide,by decide,by decide,rfl⟩,WL3 hb hc ha,leaf _ ?_⟩⟩) fun f=>⟨⟨by decide,by decide,by decide,rfl⟩,WL3 hb ha hc,leaf _ ?_⟩⟩) fun e=>⟨by decide,by decide,⟨hc,hb⟩,Br.intro (fun f=>⟨by decide,by decide,by decide,by decide,by decide,by decide,⟨hc,ha⟩,Br.intro (fun g=>⟨by decide,by decide,by decide,by decide,⟨by decide,by decide,by decide,rfl⟩,WL3 hc ha hb,leaf _ ?_⟩) fun g=>⟨⟨by decide,by decide,by decide,rfl⟩,WL3 ha hc hb,leaf _ ?_⟩⟩) fun f=>⟨⟨by decide,by decide,by decide,rfl⟩,WL3 ha hb hc,leaf _ ?_⟩⟩⟩
 ·have e:ltM b a=true:=e
  have f:ltM c a=true:=f
  have g:ltM c b=true:=g
  unfold Zbx; rw [e,f,g]; rfl
 ·have e:ltM b a=true:=e
  have f:ltM c a=true:=f
  have g:ltM c b=false:=g
  unfold Zbx; rw [e,f,g]; rfl
 ·have e:ltM b a=true:=e
  have f:ltM c a=false:=f
  unfold Zbx; rw [e,f]; rfl
 ·have e:ltM b a=false:=e
  have f:ltM c b=true:=f
  have g:ltM c a=true:=g
  unfold Zbx; rw [e,f,g]; rfl
 ·have e:ltM b a=false:=e
  have f:ltM c b=true:=f
  have g:ltM c a=false:=g
  unfold Zbx; rw [e,f,g]; rfl
 ·have e:ltM b a=false:=e
  have f:ltM c b=false:=f
  unfold Zbx; rw [e,f]; rfl
end Go.Lift

namespace Go.Lift
open Go.Proofs
def Zow:Con:=.det [.slice (.flt .f64)] [.snap (.flt .f64)] (fun x=>WL x.1) (fun x=>rowR x.1)
def Zlw:Hn:={ loops:=fun k=>match k with | 5=>some { ls:=[(.slot 3,.data (.flt .f64)),(.slot 15,.data (.int .i64))],os:=[] } | _=>none,joins:=fun _=>none,named:=true }
def Zox:Cx:=⟨Zk Zn,Zm [(182,Zjb)],RbG⟩
theorem Zvu:CxOk Tryz.prog Zox:=⟨Z4 Z7,Z9 ⟨Zyq,trivial⟩⟩
theorem Z11q:FnAt Tryz.prog 171 Tryz.f171.ntmps Tryz.f171.results.toList (Tryz.f171.body.getD .skip):=⟨Tryz.f171,Tryz.func171,rfl,rfl,by simp,by decide⟩
theorem Z11r (a:List Nat) (post:Nat × Unit→Prop):Ze Zox Zlw Tryz.f171.ntmps Tryz.f171.results.toList (Tryz.f171.body.getD .skip) [.slice (.flt .f64)] [.snap (.flt .f64)] (a,()) post=Zir  a post:=by kernel_rfl
theorem Z131:Zow.holds Tryz.prog RbG 171 :=
 detP Zvu Z8 Zlw Z11q (F:=fun x post=>Zir  x.1 post) (fun x post=>Z11r x.1 post) fun x h w=>Z164  x.1 h w
def Zey:Con:=.det [.int .u64] [.snap (.int .i64)] (fun x=>Zn1 x.1) (fun x=>twoR x.1)
def Zez:Cx:=⟨Zk Zn,fun _=>none,RbG⟩
theorem Zlx:CxOk Tryz.prog Zez:=⟨Z4 Z7,fun f c h=>by cases h⟩
theorem Zpu:FnAt Tryz.prog 147 Tryz.f147.ntmps Tryz.f147.results.toList (Tryz.f147.body.getD .skip):=⟨Tryz.f147,Tryz.func147,rfl,rfl,by simp,by decide⟩
theorem Zpv (post:Int × Unit→Prop):Ze Zez noHn Tryz.f147.ntmps Tryz.f147.results.toList (Tryz.f147.body.getD .skip) [.int .u64] [.snap (.int .i64)] ((3:Int),()) post=(∃ (h:(0:Int)≤(3:Int)∧(3:Int)<(256:Int)),post ((2:Int),())):=by kernel_rfl
theorem Zth:Zey.holds Tryz.prog RbG 147:=by
 refine Zxe Zlx Z8 noHn Zpu ?_
 rintro ⟨a,⟨⟩⟩ h
 have h:a=(3:Int):=h
 subst h
 exact (Zpv _).mpr ⟨by decide,rfl⟩
def Zjd:Con:=.det [.int .u64] [.snap (.int .i64)] (fun x=>Zn1 x.1) (fun x=>twoR x.1)
def Zje:Cx:=⟨Zk Zn,Zm [(147,Zey)],RbG⟩
theorem Zpw:CxOk Tryz.prog Zje:=⟨Z4 Z7,Z9 ⟨Zth,trivial⟩⟩
theorem Zvv:FnAt Tryz.prog 181 Tryz.f181.ntmps Tryz.f181.results.toList (Tryz.f181.body.getD .skip):=⟨Tryz.f181,Tryz.func181,rfl,rfl,by simp,by decide⟩
theorem Zvw (post:Int × Unit→Prop):Ze Zje noHn Tryz.f181.ntmps Tryz.f181.results.toList (Tryz.f181.body.getD .skip) [.int .u64] [.snap (.int .i64)] ((3:Int),()) post=(∃ (h:Zn1 3),post ((2:Int),())):=by kernel_rfl
theorem Zys:Zjd.holds Tryz.prog RbG 181:=by
 refine Zxe Zpw Z8 noHn Zvv ?_
 rintro ⟨a,⟨⟩⟩ h
 have h:a=(3:Int):=h
 subst h
 exact (Zvw _).mpr ⟨rfl,rfl⟩
def Zjf:Con:=.det [.flt .f64,.flt .f64,.flt .f64] [.snap (.flt .f64)] (fun x=>W3 x.1 x.2.1 x.2.2.1) (fun x=>Zs0 x.1 x.2.1 x.2.2.1)
def Zh0:Hn:={ loops:=fun _=>none,joins:=fun _=>none,inl:=inlL [167] }
def Zb0:Cx:=⟨Zk Zn,Zm [(168,Zdc),(171,Zow),(181,Zjd)],RbG⟩
theorem Zdj:CxOk Tryz.prog Zb0:=⟨Z4 Z7,Z9 ⟨Zpt,Z131,Zys,trivial⟩⟩
theorem Zvx:FnAt Tryz.prog 149 Tryz.f149.ntmps Tryz.f149.results.toList (Tryz.f149.body.getD .skip):=⟨Tryz.f149,Tryz.func149,rfl,rfl,by simp,by decide⟩
theorem Zvy (a:Nat) (b:Nat) (c:Nat) (post:Nat × Unit→Prop):Z5q Zb0 Zh0 (Zcc Zb0 Zfp 5) Tryz.f149.ntmps Tryz.f149.results.toList (Tryz.f149.body.getD .skip) [.flt .f64,.flt .f64,.flt .f64] [.snap (.flt .f64)] (a,b,c,()) post=Zdi  a b c post:=by kernel_rfl
theorem Zyt:Zjf.holds Tryz.prog RbG 149 :=
 Zzh Zdj Z8 Zh0 (Zbw Zdj Z8 Zv5 5) Zvx (F:=fun x post=>Zdi  x.1 x.2.1 x.2.2.1 post) (fun x post=>Zvy x.1 x.2.1 x.2.2.1 post) fun x h _=>Z11p  x.1 x.2.1 x.2.2.1 h
end Go.Lift

namespace Go.Lift
open Go.Proofs
def Z6o:Con:=.det [.flt .f64,.flt .f64,.flt .f64] [.snap kVec] (fun _=>True) (fun x=>Z3p x.1 x.2.1 x.2.2.1)
def Zjg:Cx:=⟨Zk Zn,Zm [(88,Z2w)],RbG⟩
theorem Zpx:CxOk Tryz.prog Zjg:=⟨Z4 Z7,Z9 ⟨Z3t,trivial⟩⟩
theorem Zvz:FnAt Tryz.prog 150 Tryz.f150.ntmps Tryz.f150.results.toList (Tryz.f150.body.getD .skip):=⟨Tryz.f150,Tryz.func150,rfl,rfl,by simp,by decide⟩
theorem Zw0 (a:Nat) (b:Nat) (c:Nat) (post:(Nat × Nat × Nat) × Unit→Prop):Ze Zjg nHn Tryz.f150.ntmps Tryz.f150.results.toList (Tryz.f150.body.getD .skip) [.flt .f64,.flt .f64,.flt .f64] [.snap kVec] (a,b,c,()) post=Zde  a b c post:=by kernel_rfl
theorem Zb1:Z6o.holds Tryz.prog RbG 150 :=
 detP Zpx Z8 nHn Zvz (F:=fun x post=>Zde  x.1 x.2.1 x.2.2.1 post) (fun x post=>Zw0 x.1 x.2.1 x.2.2.1 post) fun x _ _=>Z11l  x.1 x.2.1 x.2.2.1
def Zb2:Con:=.det [kVec,kVec] [.snap kVec] (fun x=>WV2 x.1 x.2.1) (fun x=>Z6f x.1 x.2.1)
def Zjh:Cx:=⟨Zk Zn,Zm [(150,Z6o)],RbG⟩
theorem Zpy:CxOk Tryz.prog Zjh:=⟨Z4 Z7,Z9 ⟨Zb1,trivial⟩⟩
theorem Zw1:FnAt Tryz.prog 125 Tryz.f125.ntmps Tryz.f125.results.toList (Tryz.f125.body.getD .skip):=⟨Tryz.f125,Tryz.func125,rfl,rfl,by simp,by decide⟩
theorem Zw2 (a:Nat × Nat × Nat) (b:Nat × Nat × Nat) (post:(Nat × Nat × Nat) × Unit→Prop):Ze Zjh nHn Tryz.f125.ntmps Tryz.f125.results.toList (Tryz.f125.body.getD .skip) [kVec,kVec] [.snap kVec] (a,b,()) post=Zdf  a b post:=by kernel_rfl
theorem Zji:Zb2.holds Tryz.prog RbG 125 :=
 detP Zpy Z8 nHn Zw1 (F:=fun x post=>Zdf  x.1 x.2.1 post) (fun x post=>Zw2 x.1 x.2.1 post) fun x h _=>Z11m  x.1 x.2.1 h
def Zjj:Con:=.det [kVec,kVec] [.snap kVec] (fun _=>True) (fun x=>Zlb x.1 x.2.1)
def Zjk:Cx:=⟨Zk Zn,Zm [(150,Z6o)],RbG⟩
theorem Zpz:CxOk Tryz.prog Zjk:=⟨Z4 Z7,Z9 ⟨Zb1,trivial⟩⟩
theorem Zw3:FnAt Tryz.prog 124 Tryz.f124.ntmps Tryz.f124.results.toList (Tryz.f124.body.getD .skip):=⟨Tryz.f124,Tryz.func124,rfl,rfl,by simp,by decide⟩
theorem Zw4 (a:Nat × Nat × Nat) (b:Nat × Nat × Nat) (post:(Nat × Nat × Nat) × Unit→Prop):Ze Zjk nHn Tryz.f124.ntmps Tryz.f124.results.toList (Tryz.f124.body.getD .skip) [kVec,kVec] [.snap kVec] (a,b,()) post=Zdg  a b post:=by kernel_rfl
theorem Zyu:Zjj.holds Tryz.prog RbG 124 :=
 detP Zpz Z8 nHn Zw3 (F:=fun x post=>Zdg  x.1 x.2.1 post) (fun x post=>Zw4 x.1 x.2.1 post) fun x _ _=>Z11n  x.1 x.2.1
def Zjl:Con:=.rel [.flt .f64] [.snap (.flt .f64)] (fun _=>True) (fun x r=>Zej x.1 r) (fun x h=>Z13r (Z13h _) (Zuh _))
def Zjm:Cx:=⟨Zk Zn,Zm [(166,Zja)],RbG⟩
theorem Zq0:CxOk Tryz.prog Zjm:=⟨Z4 Z7,Z9 ⟨Zyn,trivial⟩⟩
theorem Zw5:FnAt Tryz.prog 148 Tryz.f148.ntmps Tryz.f148.results.toList (Tryz.f148.body.getD .skip):=⟨Tryz.f148,Tryz.func148,rfl,rfl,by simp,by decide⟩
theorem Zw6 (a:Nat) (post:Nat × Unit→Prop):Ze Zjm nHn Tryz.f148.ntmps Tryz.f148.results.toList (Tryz.f148.body.getD .skip) [.flt .f64] [.snap (.flt .f64)] (a,()) post=Zdh  a post:=by kernel_rfl
theorem Zyv:Zjl.holds Tryz.prog RbG 148 :=
 relP Zq0 Z8 nHn Zw5 (F:=fun x post=>Zdh  x.1 post) (fun x post=>Zw6 x.1 post) fun x _ _=>Z11o  x.1
def Z61:Con:=.det [kVec] [.snap (.flt .f64)] (fun x=>WV x.1) (fun x=>Z3q x.1)
def Zh1:Cx:=⟨Zk Zn,Zm [(149,Zjf),(148,Zjl),(88,Z2w)],RbG⟩
theorem Zny:CxOk Tryz.prog Zh1:=⟨Z4 Z7,Z9 ⟨Zyt,Zyv,Z3t,trivial⟩⟩
theorem Zti:FnAt Tryz.prog 123 Tryz.f123.ntmps Tryz.f123.results.toList (Tryz.f123.body.getD .skip):=⟨Tryz.f123,Tryz.func123,rfl,rfl,by simp,by decide⟩
theorem Ztj (a:Nat × Nat × Nat) (post:Nat × Unit→Prop):Ze Zh1 nHn Tryz.f123.ntmps Tryz.f123.results.toList (Tryz.f123.body.getD .skip) [kVec] [.snap (.flt .f64)] (a,()) post=Zaz  a post:=by kernel_rfl
theorem Z8t:Z61.holds Tryz.prog RbG 123 :=
 detP Zny Z8 nHn Zti (F:=fun x post=>Zaz  x.1 post) (fun x post=>Ztj x.1 post) fun x h _=>Zyr  x.1 h
def Zfv:Con:=.det [kVec,kVec] [.snap (.flt .f64)] (fun x=>WV2 x.1 x.2.1) (fun x=>gapR x.1 x.2.1)
def Zoy:Cx:=⟨Zk Zn,Zm [(125,Zb2),(123,Z61)],RbG⟩
theorem Zw7:CxOk Tryz.prog Zoy:=⟨Z4 Z7,Z9 ⟨Zji,Z8t,trivial⟩⟩
theorem Z11s:FnAt Tryz.prog 100 Tryz.f100.ntmps Tryz.f100.results.toList (Tryz.f100.body.getD .skip):=⟨Tryz.f100,Tryz.func100,rfl,rfl,by simp,by decide⟩
theorem Z11t (a:Nat × Nat × Nat) (b:Nat × Nat × Nat) (post:Nat × Unit→Prop):Ze Zoy nHn Tryz.f100.ntmps Tryz.f100.results.toList (Tryz.f100.body.getD .skip) [kVec,kVec] [.snap (.flt .f64)] (a,b,()) post=Ziq  a b post:=by kernel_rfl
theorem Zoz:Zfv.holds Tryz.prog RbG 100 :=
 detP Zw7 Z8 nHn Z11s (F:=fun x post=>Ziq  x.1 x.2.1 post) (fun x post=>Z11t x.1 x.2.1 post) fun x h _=>Z163  x.1 x.2.1 h
def Zly:Con:=.det [kVec] [.snap kVec] (fun x=>WV x.1) (fun x=>Zs2 x.1)
def Zlz:Cx:=⟨Zk Zn,Zm [(123,Z61),(173,Zgy),(150,Z6o)],RbG⟩
theorem Ztk:CxOk Tryz.prog Zlz:=⟨Z4 Z7,Z9 ⟨Z8t,Zvt,Zb1,trivial⟩⟩
theorem Zyw:FnAt Tryz.prog 153 Tryz.f153.ntmps Tryz.f153.results.toList (Tryz.f153.body.getD .skip):=⟨Tryz.f153,Tryz.func153,rfl,rfl,by simp,by decide⟩
theorem Zyx (a:Nat × Nat × Nat) (post:(Nat × Nat × Nat) × Unit→Prop):Ze Zlz nHn Tryz.f153.ntmps Tryz.f153.results.toList (Tryz.f153.body.getD .skip) [kVec] [.snap kVec] (a,()) post=Zfu  a post:=by kernel_rfl
theorem Z11u:Zly.holds Tryz.prog RbG 153 :=
 detP Ztk Z8 nHn Zyw (F:=fun x post=>Zfu  x.1 post) (fun x post=>Zyx x.1 post) fun x h _=>Z130  x.1 h
end Go.Lift

namespace Go.Lift
def Z7u:=fun (a:Int) (post:Nat × Unit→Prop)=>post (f64.nearest a,())
theorem Ztl (a:Int):Z7u  a (fun r=>r=ofIR a):=by
 exact rfl
def Z8u:=fun (a b:Int) (post:Nat × Unit→Prop)=>∀ (a_1:Bool),a_1=decide (a<(1:Int))→Br a_1 (post ((0:Nat),())) (∀ (a_2:Bool),a_2=decide (b <
 (1:Int))→Br a_2 (post ((0:Nat),())) (∃ (h:True),∃ (h:True),∀ (a_3:Nat),FRes f64 (f64.format.div (ofIR a).fst (ofIR b).fst) a_3→post
 (a_3,())))
theorem Zw8 (a:Int) (b:Int) (h:II a b):Z8u  a b (fun r=>r=Zs5 a b):=by
 rintro _ rfl
 refine Br.intro (fun e=>?_) fun e=>?_
 ·exact congrArg r1 (by unfold Zs4; rw [if_pos (.inl (of_decide_eq_true e))])
 ·rintro _ rfl
  refine Br.intro (fun f=>?_) fun f=>?_
  ·exact congrArg r1 (by unfold Zs4; rw [if_pos (.inr (of_decide_eq_true f))])
  ·have e:=of_decide_eq_false e
   have f:=of_decide_eq_false f
   refine ⟨trivial,trivial,fun r hr=>congrArg r1 ?_⟩
   rw [Z13w h.1 (by omega) h.2 hr]
   unfold Zs4; rw [if_neg (by omega)]
def Zb3:=fun (a:Nat) (post:Nat × Unit→Prop)=>∃ (h:WNum a),post ((Z9x a).fst,())
theorem Zyy (a:Nat) (h:WNum a):Zb3  a (fun r=>r=Z9x a):=by
 exact ⟨h,rfl⟩
def Zdk:=fun (a:Nat) (post:Int × Unit→Prop)=>∃ (h:WNum a),∀ (a_1:Int),F2I f64 (Z9x a).fst u64 a_1→∀ (a_2:Nat),FRes
 f64 (f64.format.sub a (Z9x a).fst) a_2→∀ (a:Bool),a=fcmp Go.BinOp.gtr (f64.format.order a_2 (4602678819172646912:Nat))→Br a
 (post (u64.wrap (a_1+(1:Int)),())) (∀ (a:Bool),a=fcmp Go.BinOp.eql (f64.format.order a_2 (4602678819172646912:Nat))→Br a (∃ (h:(2:Int)≠(0
 : Int)),∀ (a:Bool),a=(a_1.tmod (2:Int)==(1:Int))→Br a (post (u64.wrap (a_1+(1:Int)),())) (post (a_1,()))) (post (a_1,())))
theorem Z11v (a:Nat) (h:Zn2 a):Zdk  a (fun r=>r=Zzl a):=by
 have hw:W64 a:=by unfold Zn2 Z1f at h; unfold W64; omega
 have hn:isN a=false:=by
  have:=(Zen (r:=a) (by unfold Zn2 Z1f at h; omega)).2.1
  unfold isN; rw [this,decide_eq_false_iff_not]; unfold Zn2 Z1f at h; unfold infR; omega
 refine ⟨⟨hw,hn⟩,?_⟩
 intro n hn2
 have hn2:=Z17u h hn2
 subst hn2
 intro d hd
 have hd:∀ z,Ieee.double.order d z=Ieee.double.order (subQ a (Z15 a)) z:=Zsa hd
 obtain ⟨_,r1',r2'⟩:=Zxi h
 have hwp:u64.wrap (Z3r (Z15 a)+1)=Z3r (Z15 a)+1:=wu1 ⟨by omega,by omega⟩
 have tm:(Z3r (Z15 a)).tmod 2=Z3r (Z15 a) % 2:=Int.tmod_eq_emod_of_nonneg r1'
 rintro _ rfl
 refine Br.intro (fun e=>?_) fun e=>?_
 ·rw [show f64.format.order d 4602678819172646912=_ from hd _] at e
  exact congrArg r1 (by rw [hwp]; unfold Zi8; rw [if_pos (by rw [show fcmp .gtr (Ieee.double.order (subQ a (Z15 a)) Z6l)=true from e]; rfl)])
 ·rw [show f64.format.order d 4602678819172646912=_ from hd _] at e
  rintro _ rfl
  refine Br.intro (fun f=>?_) fun f=>?_
  ·rw [show f64.format.order d 4602678819172646912=_ from hd _] at f
   refine ⟨by decide,?_⟩
   rintro _ rfl
   refine Br.intro (fun g=>?_) fun g=>?_
   ·rw [tm] at g
    exact congrArg r1 (by rw [hwp]; unfold Zi8; rw [if_pos (by rw [show fcmp .eql (Ieee.double.order (subQ a (Z15 a)) Z6l)=true from f,g,Bool.true_and,Bool.or_true])])
   ·rw [tm] at g
    exact congrArg r1 (by unfold Zi8; rw [if_neg (by rw [show fcmp .gtr (Ieee.double.order (subQ a (Z15 a)) Z6l)=false from e,g,Bool.and_false]; decide)])
  ·rw [show f64.format.order d 4602678819172646912=_ from hd _] at f
   exact congrArg r1 (by unfold Zi8; rw [if_neg (by rw [show fcmp .gtr (Ieee.double.order (subQ a (Z15 a)) Z6l)=false from e,show fcmp .eql (Ieee.double.order (subQ a (Z15 a)) Z6l)=false from f,Bool.false_and]; decide)])
def Zb4:=fun (a:Nat) (post:Int × Bool × Unit→Prop)=>∃ (h:W64 a),∀ (a_1:Bool),a_1=fcmp Go.BinOp.lss (f64.format.order (absR a).fst
 (4890909195324358656:Nat))→Br a_1 (∃ (h:Zn2 (absR a).fst),∀ (a_2:Bool),a_2=fcmp Go.BinOp.lss (f64.format.order a (0:Nat))→Br a_2 (post
 (i64.wrap ((0:Int) - i64.wrap (Zzl (absR a).fst).fst),true,())) (post (i64.wrap (Zzl (absR a).fst).fst,true,()))) (∀ (a_2:Bool),a_2
 = fcmp Go.BinOp.eql (f64.format.order a (14114281232179134464:Nat))→Br a_2 (post ((-9223372036854775808:Int),true,())) (post ((0:Int),false,
 ())))
theorem Zyz (a:Nat) (h:W64 a):Zb4  a (fun r=>r=Zcx a):=by
 refine ⟨h,?_⟩
 rintro _ rfl
 refine Br.intro (fun e=>?_) fun e=>?_
 ·have e:fcmp .lss (Ieee.double.order (Z0 a) Z1f)=true:=e
  rw [Z10x] at e
  have e:=of_decide_eq_true e
  have hn:isN a=false:=by unfold isN; rw [decide_eq_false_iff_not]; unfold Z1f at e; unfold infR; omega
  refine ⟨e,?_⟩
  rintro _ rfl
  refine Br.intro (fun f=>?_) fun f=>?_
  ·rw [show fcmp .lss (f64.format.order a 0)=_ from Zs9 hn] at f
   unfold Zcx Z39; rw [if_pos e,if_pos f]; rfl
  ·rw [show fcmp .lss (f64.format.order a 0)=_ from Zs9 hn] at f
   unfold Zcx Z39; rw [if_pos e,if_neg (by rw [f]; decide)]; rfl
 ·have e:fcmp .lss (Ieee.double.order (Z0 a) Z1f)=false:=e
  rw [Z10x] at e
  have e:=of_decide_eq_false e
  rintro _ rfl
  refine Br.intro (fun f=>?_) fun f=>?_
  ·rw [show fcmp .eql (f64.format.order a 14114281232179134464)=_ from Z13u h] at f
   unfold Zcx Z39; rw [if_neg e,if_pos (show a=Z1f+9223372036854775808 from of_decide_eq_true f)]
  ·rw [show fcmp .eql (f64.format.order a 14114281232179134464)=_ from Z13u h] at f
   unfold Zcx Z39; rw [if_neg e,if_neg (show ¬ a=Z1f+9223372036854775808 from of_decide_eq_false f)]
end Go.Lift

namespace Go.Lift
open Go.Proofs
def Zdl:Con:=.det [.int .i64] [.snap (.flt .f64)] (fun _=>True) (fun x=>ofIR x.1)
def Zdm:Cx:=⟨Zk Zn,Zm [],RbG⟩
theorem Zk1:CxOk Tryz.prog Zdm:=⟨Z4 Z7,fun f c h=>by cases h⟩
theorem Znz:FnAt Tryz.prog 89 Tryz.f89.ntmps Tryz.f89.results.toList (Tryz.f89.body.getD .skip):=⟨Tryz.f89,Tryz.func89,rfl,rfl,by simp,by decide⟩
theorem Zo0 (a:Int) (post:Nat × Unit→Prop):Ze Zdm nHn Tryz.f89.ntmps Tryz.f89.results.toList (Tryz.f89.body.getD .skip) [.int .i64] [.snap (.flt .f64)] (a,()) post=Z7u  a post:=by kernel_rfl
theorem Zq1:Zdl.holds Tryz.prog RbG 89 :=
 detP Zk1 Z8 nHn Znz (F:=fun x post=>Z7u  x.1 post) (fun x post=>Zo0 x.1 post) fun x _ _=>Ztl  x.1
def Zf0:Con:=.det [.int .i64,.int .i64] [.snap (.flt .f64)] (fun x=>II x.1 x.2.1) (fun x=>Zs5 x.1 x.2.1)
def Zf1:Cx:=⟨Zk Zn,Zm [(89,Zdl)],RbG⟩
theorem Zm0:CxOk Tryz.prog Zf1:=⟨Z4 Z7,Z9 ⟨Zq1,trivial⟩⟩
theorem Zq2:FnAt Tryz.prog 37 Tryz.f37.ntmps Tryz.f37.results.toList (Tryz.f37.body.getD .skip):=⟨Tryz.f37,Tryz.func37,rfl,rfl,by simp,by decide⟩
theorem Zq3 (a:Int) (b:Int) (post:Nat × Unit→Prop):Ze Zf1 nHn Tryz.f37.ntmps Tryz.f37.results.toList (Tryz.f37.body.getD .skip) [.int .i64,.int .i64] [.snap (.flt .f64)] (a,b,()) post=Z8u  a b post:=by kernel_rfl
theorem Ztm:Zf0.holds Tryz.prog RbG 37 :=
 detP Zm0 Z8 nHn Zq2 (F:=fun x post=>Z8u  x.1 x.2.1 post) (fun x post=>Zq3 x.1 x.2.1 post) fun x h _=>Zw8  x.1 x.2.1 h
def Zac:Con:=.det [.flt .f64] [.snap (.flt .f64)] (fun x=>WNum x.1) (fun x=>Z9x x.1)
theorem Zm1:Zac.holds Tryz.prog RbG 183:=by
 refine Z18f (fn:=Tryz.f183) Tryz.func183 (by decide) rfl rfl (by kernel_rfl)
def Zh2:Con:=.det [.flt .f64] [.snap (.flt .f64)] (fun x=>WNum x.1) (fun x=>Z9x x.1)
def Zh3:Cx:=⟨Zk Zn,Zm [(183,Zac)],RbG⟩
theorem Zo1:CxOk Tryz.prog Zh3:=⟨Z4 Z7,Z9 ⟨Zm1,trivial⟩⟩
theorem Ztn:FnAt Tryz.prog 172 Tryz.f172.ntmps Tryz.f172.results.toList (Tryz.f172.body.getD .skip):=⟨Tryz.f172,Tryz.func172,rfl,rfl,by simp,by decide⟩
theorem Zto (a:Nat) (post:Nat × Unit→Prop):Ze Zh3 nHn Tryz.f172.ntmps Tryz.f172.results.toList (Tryz.f172.body.getD .skip) [.flt .f64] [.snap (.flt .f64)] (a,()) post=Zb3  a post:=by kernel_rfl
theorem Zw9:Zh2.holds Tryz.prog RbG 172 :=
 detP Zo1 Z8 nHn Ztn (F:=fun x post=>Zb3  x.1 post) (fun x post=>Zto x.1 post) fun x h _=>Zyy  x.1 h
def Zjn:Con:=.det [.flt .f64] [.snap (.int .u64)] (fun x=>Zn2 x.1) (fun x=>Zzl x.1)
def Zjo:Cx:=⟨Zk Zn,Zm [(172,Zh2)],RbG⟩
theorem Zq4:CxOk Tryz.prog Zjo:=⟨Z4 Z7,Z9 ⟨Zw9,trivial⟩⟩
theorem Zwa:FnAt Tryz.prog 152 Tryz.f152.ntmps Tryz.f152.results.toList (Tryz.f152.body.getD .skip):=⟨Tryz.f152,Tryz.func152,rfl,rfl,by simp,by decide⟩
theorem Zwb (a:Nat) (post:Int × Unit→Prop):Ze Zjo nHn Tryz.f152.ntmps Tryz.f152.results.toList (Tryz.f152.body.getD .skip) [.flt .f64] [.snap (.int .u64)] (a,()) post=Zdk  a post:=by kernel_rfl
theorem Zz0:Zjn.holds Tryz.prog RbG 152 :=
 detP Zq4 Z8 nHn Zwa (F:=fun x post=>Zdk  x.1 post) (fun x post=>Zwb x.1 post) fun x h _=>Z11v  x.1 h
def Zh4:Con:=.det [.flt .f64] [.snap (.int .i64),.snap .bool] (fun x=>W64 x.1) (fun x=>Zcx x.1)
def Zh5:Cx:=⟨Zk Zn,Zm [(151,Zdb),(152,Zjn)],RbG⟩
theorem Zo2:CxOk Tryz.prog Zh5:=⟨Z4 Z7,Z9 ⟨Zlt,Zz0,trivial⟩⟩
theorem Ztp:FnAt Tryz.prog 126 Tryz.f126.ntmps Tryz.f126.results.toList (Tryz.f126.body.getD .skip):=⟨Tryz.f126,Tryz.func126,rfl,rfl,by simp,by decide⟩
theorem Ztq (a:Nat) (post:Int × Bool × Unit→Prop):Ze Zh5 nHn Tryz.f126.ntmps Tryz.f126.results.toList (Tryz.f126.body.getD .skip) [.flt .f64] [.snap (.int .i64),.snap .bool] (a,()) post=Zb4  a post:=by kernel_rfl
theorem Zwc:Zh4.holds Tryz.prog RbG 126 :=
 detP Zo2 Z8 nHn Ztp (F:=fun x post=>Zb4  x.1 post) (fun x post=>Ztq x.1 post) fun x h _=>Zyz  x.1 h
end Go.Lift

namespace Go.Lift
open Go.Proofs
def Z8v:Con:=.det [.int .i64,.int .i64] [.snap (.flt .f64)] (fun x=>Zcy x.1 x.2.1) (fun x=>Z29 x.1 x.2.1)
def Zh6:Cx:=⟨Zk Zn,Zm [],RbG⟩
theorem Zo3:CxOk Tryz.prog Zh6:=⟨Z4 Z7,fun f c h=>by cases h⟩
theorem Ztr:FnAt Tryz.prog 129 Tryz.f129.ntmps Tryz.f129.results.toList (Tryz.f129.body.getD .skip):=⟨Tryz.f129,Tryz.func129,rfl,rfl,by simp,by decide⟩
theorem Zts (a:Int) (b:Int) (post:Nat × Unit→Prop):Ze Zh6 nHn Tryz.f129.ntmps Tryz.f129.results.toList (Tryz.f129.body.getD .skip) [.int .i64,.int .i64] [.snap (.flt .f64)] (a,b,()) post=Zaq  a b post:=by kernel_rfl
theorem Zh7:Z8v.holds Tryz.prog RbG 129 :=
 detP Zo3 Z8 nHn Ztr (F:=fun x post=>Zaq  x.1 x.2.1 post) (fun x post=>Zts x.1 x.2.1 post) fun x h _=>Zye  x.1 x.2.1 h
def Z8w:Con:=.det [.int .i64,.flt .f64,.flt .f64] [.snap kVec] (fun x=>Zs6 x.1 x.2.1 x.2.2.1) (fun x=>Z9y x.1 x.2.1 x.2.2.1)
def Zf2:Hn:={ loops:=fun _=>none,joins:=Z2i [(13,{ ls:=[],os:=[(1,169,.flt .f64)] })],unroll:=fun _=>some 4 }
def Zh8:Cx:=⟨Zk Zn,Zm [(88,Z2w),(153,Zly)],RbG⟩
theorem Zo4:CxOk Tryz.prog Zh8:=⟨Z4 Z7,Z9 ⟨Z3t,Z11u,trivial⟩⟩
theorem Ztt:FnAt Tryz.prog 128 Tryz.f128.ntmps Tryz.f128.results.toList (Tryz.f128.body.getD .skip):=⟨Tryz.f128,Tryz.func128,rfl,rfl,by simp,by decide⟩
theorem Ztu (f:Int) (s:Nat) (t:Nat) (post:(Nat × Nat × Nat) × Unit→Prop):Ze Zh8 Zf2 Tryz.f128.ntmps Tryz.f128.results.toList (Tryz.f128.body.getD .skip) [.int .i64,.flt .f64,.flt .f64] [.snap kVec] (f,s,t,()) post=Zar 130 169 f s t post:=by kernel_rfl
theorem Zh9:Z8w.holds Tryz.prog RbG 128 :=
 detP Zo4 Z8 Zf2 Ztt (F:=fun x post=>Zar 130 169 x.1 x.2.1 x.2.2.1 post) (fun x post=>Ztu x.1 x.2.1 x.2.2.1 post) fun x h _=>Zyf 130 169 x.1 x.2.1 x.2.2.1 h
def Zf3:Con:=.det [.int .i64,.int .i64,.int .i64,.int .i64] [.snap kVec,.snap .bool] (fun x=>IIII x.1 x.2.1 x.2.2.1 x.2.2.2.1) (fun x=>Zy x.1 x.2.1 x.2.2.1 x.2.2.2.1)
def Zf4:Cx:=⟨Zk Zn,Zm [(58,Z5x),(129,Z8v),(128,Z8w)],RbG⟩
theorem Zm2:CxOk Tryz.prog Zf4:=⟨Z4 Z7,Z9 ⟨Z8l,Zh7,Zh9,trivial⟩⟩
theorem Zq5:FnAt Tryz.prog 127 Tryz.f127.ntmps Tryz.f127.results.toList (Tryz.f127.body.getD .skip):=⟨Tryz.f127,Tryz.func127,rfl,rfl,by simp,by decide⟩
theorem Zq6 (n:Int) (f:Int) (i:Int) (j:Int) (post:(Nat × Nat × Nat) × Bool × Unit→Prop):Ze Zf4 nHn Tryz.f127.ntmps Tryz.f127.results.toList (Tryz.f127.body.getD .skip) [.int .i64,.int .i64,.int .i64,.int .i64] [.snap kVec,.snap .bool] (n,f,i,j,()) post=Z8r  n f i j post:=by kernel_rfl
theorem Ztv:Zf3.holds Tryz.prog RbG 127 :=
 detP Zm2 Z8 nHn Zq5 (F:=fun x post=>Z8r  x.1 x.2.1 x.2.2.1 x.2.2.2.1 post) (fun x post=>Zq6 x.1 x.2.1 x.2.2.1 x.2.2.2.1 post) fun x h _=>Zvm  x.1 x.2.1 x.2.2.1 x.2.2.2.1 h
def Z6u:Con:=.det [.int .i64,.int .i64] [.snap (.arr 4 kVec),.snap .bool] (fun x=>II x.1 x.2.1) (fun x=>Zo x.1 x.2.1)
def Zbh:Hn:={ loops:=fun _=>none,joins:=fun _=>none,unroll:=fun _=>some 5 }
def Zdn:Cx:=⟨Zk Zn,Zm [(79,Z5y),(127,Zf3)],RbG⟩
theorem Zk2:CxOk Tryz.prog Zdn:=⟨Z4 Z7,Z9 ⟨Z8m,Ztv,trivial⟩⟩
theorem Zo5:FnAt Tryz.prog 99 Tryz.f99.ntmps Tryz.f99.results.toList (Tryz.f99.body.getD .skip):=⟨Tryz.f99,Tryz.func99,rfl,rfl,by simp,by decide⟩
theorem Zo6 (n:Int) (c:Int) (post:(List (Nat × Nat × Nat)) × Bool × Unit→Prop):Ze Zdn Zbh Tryz.f99.ntmps Tryz.f99.results.toList (Tryz.f99.body.getD .skip) [.int .i64,.int .i64] [.snap (.arr 4 kVec),.snap .bool] (n,c,()) post=Z7q  n c post:=by kernel_rfl
theorem Zdo:Z6u.holds Tryz.prog RbG 99 :=
 detP Zk2 Z8 Zbh Zo5 (F:=fun x post=>Z7q  x.1 x.2.1 post) (fun x post=>Zo6 x.1 x.2.1 post) fun x h _=>Zt0  x.1 x.2.1 h
def Zjp:Con:=.det [.int .i64,.int .i64] [.snap (.int .i64)] (fun x=>II x.1 x.2.1) (fun x=>Zs8 x.1 x.2.1)
def Zjq:Cx:=⟨Zk Zn,Zm [(99,Z6u),(125,Zb2),(124,Zjj),(123,Z61),(126,Zh4)],RbG⟩
theorem Zq7:CxOk Tryz.prog Zjq:=⟨Z4 Z7,Z9 ⟨Zdo,Zji,Zyu,Z8t,Zwc,trivial⟩⟩
theorem Zwd:FnAt Tryz.prog 98 Tryz.f98.ntmps Tryz.f98.results.toList (Tryz.f98.body.getD .skip):=⟨Tryz.f98,Tryz.func98,rfl,rfl,by simp,by decide⟩
theorem Zwe (n:Int) (c:Int) (post:Int × Unit→Prop):Ze Zjq nHn Tryz.f98.ntmps Tryz.f98.results.toList (Tryz.f98.body.getD .skip) [.int .i64,.int .i64] [.snap (.int .i64)] (n,c,()) post=Zd9  n c post:=by kernel_rfl
theorem Zz1:Zjp.holds Tryz.prog RbG 98 :=
 detP Zq7 Z8 nHn Zwd (F:=fun x post=>Zd9  x.1 x.2.1 post) (fun x post=>Zwe x.1 x.2.1 post) fun x h _=>Z11j  x.1 x.2.1 h
end Go.Lift

namespace Go.Lift
open Go.Proofs
def Zf5:Con:=Con.nam [.int .i64,.int .i64] [.snap kVec,.snap .bool] (fun x=>II x.1 x.2.1) (fun x=>Z5t x.1 x.2.1)
def Zf6:Cx:=⟨Zk Zn,Zm [(79,Z5y),(129,Z8v),(128,Z8w)],RbG⟩
theorem Zm3:CxOk Tryz.prog Zf6:=⟨Z4 Z7,Z9 ⟨Z8m,Zh7,Zh9,trivial⟩⟩
theorem Zq8:FnAt Tryz.prog 101 Tryz.f101.ntmps Tryz.f101.results.toList (Tryz.f101.body.getD .skip):=⟨Tryz.f101,Tryz.func101,rfl,rfl,by simp,by decide⟩
theorem Zq9 (n:Int) (c:Int) (post:(Nat × Nat × Nat) × Bool × Unit→Prop):Ze Zf6 nHn Tryz.f101.ntmps Tryz.f101.results.toList (Tryz.f101.body.getD .skip) [.int .i64,.int .i64] [.snap kVec,.snap .bool] (n,c,()) post=Z8p  n c post:=by kernel_rfl
theorem Ztw:Zf5.holds Tryz.prog RbG 101 :=
 Zx (detP Zm3 Z8 nHn Zq8 (F:=fun x post=>Z8p  x.1 x.2.1 post) (fun x post=>Zq9 x.1 x.2.1 post) fun x h _=>Zvk  x.1 x.2.1 h)
def Zf7:Con:=Con.nam [.int .i64,.int .i64,.int .i64] [.snap (.flt .f64)] (fun x=>III x.1 x.2.1 x.2.2.1) (fun x=>Zd0 x.1 x.2.1 x.2.2.1)
def Zdp:Hn:=nHn
def Zf8:Cx:=⟨Zk Zn,Zm [(99,Z6u),(100,Zfv)],RbG⟩
theorem Zm4:CxOk Tryz.prog Zf8:=⟨Z4 Z7,Z9 ⟨Zdo,Zoz,trivial⟩⟩
theorem Zqa:FnAt Tryz.prog 61 Tryz.f61.ntmps Tryz.f61.results.toList (Tryz.f61.body.getD .skip):=⟨Tryz.f61,Tryz.func61,rfl,rfl,by simp,by decide⟩
theorem Zqb (n:Int) (c:Int) (o:Int) (post:Nat × Unit→Prop):Ze Zf8 Zdp Tryz.f61.ntmps Tryz.f61.results.toList (Tryz.f61.body.getD .skip) [.int .i64,.int .i64,.int .i64] [.snap (.flt .f64)] (n,c,o,()) post=Z8q  n c o post:=by kernel_rfl
theorem Ztx:Zf7.holds Tryz.prog RbG 61 :=
 Zx (detP Zm4 Z8 Zdp Zqa (F:=fun x post=>Z8q  x.1 x.2.1 x.2.2.1 post) (fun x post=>Zqb x.1 x.2.1 x.2.2.1 post) fun x h _=>Zvl  x.1 x.2.1 x.2.2.1 h)
def Zm5:Con:=Con.nam [.int .i64,.int .i64,.int .i64] [.snap (.flt .f64)] (fun x=>III x.1 x.2.1 x.2.2.1) (fun x=>Z15e x.1 x.2.1 x.2.2.1)
def Zjr:Hn:=nHn
def Zm6:Cx:=⟨Zk Zn,Zm [(35,Z52),(101,Zf5),(100,Zfv)],RbG⟩
theorem Zty:CxOk Tryz.prog Zm6:=⟨Z4 Z7,Z9 ⟨Z7p,Ztw,Zoz,trivial⟩⟩
theorem Zz2:FnAt Tryz.prog 62 Tryz.f62.ntmps Tryz.f62.results.toList (Tryz.f62.body.getD .skip):=⟨Tryz.f62,Tryz.func62,rfl,rfl,by simp,by decide⟩
theorem Zz3 (n:Int) (c:Int) (o:Int) (post:Nat × Unit→Prop):Ze Zm6 Zjr Tryz.f62.ntmps Tryz.f62.results.toList (Tryz.f62.body.getD .skip) [.int .i64,.int .i64,.int .i64] [.snap (.flt .f64)] (n,c,o,()) post=Zfs  n c o post:=by kernel_rfl
theorem Z11w:Zm5.holds Tryz.prog RbG 62 :=
 Zx (detP Zty Z8 Zjr Zz2 (F:=fun x post=>Zfs  x.1 x.2.1 x.2.2.1 post) (fun x post=>Zz3 x.1 x.2.1 x.2.2.1 post) fun x h _=>Z12y  x.1 x.2.1 x.2.2.1 h)
end Go.Lift

namespace Go.Lift
open Go.Proofs
def Zdq:Con:=.det [.int .i64] [.snap (.ptr Zu),.snap (.int .i64)] (fun x=>I64 x.1) (fun x=>newR x.1)
def Zjs:Hn:={ loops:=Z2i [(9,{ ls:=[(.slot 36,.data (.int .i64)),(.cell 1 1,.row 91 Z1x),(.cell 1 4,.row 2 (.int .i64))],os:=[(0,83,.ent (.pair (.int .i64) (.int .i64)) (.int .i64))] }),(15,{ ls:=[(.slot 49,.data (.int .i64)),(.cell 1 3,.row 92 (.arr 2 (.int .i64))),(.cell 1 5,.row 59 (.flt .f64)),(.cell 1 6,.row 59 (.flt .f64))],os:=[] })],joins:=fun _=>none,inl:=inlL [59,60],unroll:=fun k=>if k=6 then some 3 else none }
def Zdr:Cx:=⟨Zk Zn,Zm [(58,Z5x),(35,Z52),(98,Zjp),(61,Zf7),(62,Zm5)],RbG⟩
theorem Zf9:CxOk Tryz.prog Zdr:=⟨Z4 Z7,Z9 ⟨Z8l,Z7p,Zz1,Ztx,Z11w,trivial⟩⟩
theorem Zz4:FnAt Tryz.prog 24 Tryz.f24.ntmps Tryz.f24.results.toList (Tryz.f24.body.getD .skip):=⟨Tryz.f24,Tryz.func24,rfl,rfl,by simp,by decide⟩
theorem Zz5 (n:Int) (post:(Option (Int × (List (Int × Int × Int × Int)) × (List ((Int × Int) × Int)) × (List (List Int)) × (List Int) × (List Nat) × List Nat)) × Int × Unit→Prop):Z5q Zdr Zjs (Zcc Zdr Zih 6) Tryz.f24.ntmps Tryz.f24.results.toList (Tryz.f24.body.getD .skip) [.int .i64] [.snap (.ptr Zu),.snap (.int .i64)] (n,()) post=Zfr 87 88 2 91 59 60 n post:=by kernel_rfl
theorem Zm7:Zdq.holds Tryz.prog RbG 24 :=
 Zzh Zf9 Z8 Zjs (Zbw Zf9 Z8 Zy8 6) Zz4 (F:=fun x post=>Zfr 87 88 2 91 59 60 x.1 post) (fun x post=>Zz5 x.1 post) fun x h _=>Z12x 87 88 2 91 59 60 x.1 h
end Go.Lift

namespace Go.Lift
def Z8x:=fun (s:List Nat × List Int × List Int × List Nat × Int × Int) (post:List Int × List Int × Int × Unit→Prop)=>post ([],[],(2:Int),())
theorem Zwf (s:(List Nat) × (List Int) × (List Int) × (List Nat) × Int × Int) (h:WRun none s) (w:KS.wf [.ptr Zu,kSea] (none,s,())):Z8x  s (fun r=>r=Z6n none s):=by
 exact rfl
def Z8y:=fun (ty39 ty2 ty3:Nat) (g:Int × List (Int × Int × Int × Int) × List ((Int × Int) × Int) × List (List Int) × List Int × List Nat × List Nat) (s:List Nat ×
 List Int × List Int × List Nat × Int × Int) (post:List Int × List Int × Int × Unit→Prop)=>∃ (h:True),∀ (a:Bool),a=((↑s.fst.length:Int) != (Za (some
 g)).fst)→Br a (post ([],[],(1:Int),())) (∀ (a:Bool),a=((↑s.snd.fst.length:Int) != (Za (some g)).fst)→Br a (post ([],[],(1:Int),())) (∀ (a:Bool),
 a=((↑s.snd.snd.fst.length:Int) != (Za (some g)).fst)→Br a (post ([],[],(1:Int),())) (∃ (h:True),∀ (a:Bool),a=((↑s.snd.snd.snd.fst.length:Int) !=
 (Z8g (some g)).fst)→Br a (post ([],[],(1:Int),())) (∃ (h:True),∀ (a:Bool × Unit),a=Zzu s.snd.fst→∀ (a_1:Bool),a_1=a.fst→Br (!a_1) (post ([],
 [],(1:Int),())) (∃ (h:True),∀ (a:Bool × Unit),a=Zzu s.snd.snd.fst→∀ (a_2:Bool),a_2=a.fst→Br (!a_2) (post ([],[],(1:Int),())) (∃ (h:Zzv s.snd.fst),
 ∀ (a:List Int × Unit),a=Zli s.snd.fst→∃ (h:Zzv s.snd.snd.fst),∀ (a_3:List Int × Unit),a_3=Zli s.snd.snd.fst→∃ (h:WOrd s.fst),∀ (a_4:List Int × Unit),
 a_4=Zif s.fst→HIs [HObj.box Md.rw ty39 [SV.data (K.flt f64).slice s.fst,SV.data (K.int i64).slice s.snd.fst,SV.data (K.int i64).slice
 s.snd.snd.fst,SV.data (K.flt f64).slice s.snd.snd.snd.fst,SV.val (Go.Value.int i64 s.snd.snd.snd.snd.fst),SV.val (Go.Value.int i64
 s.snd.snd.snd.snd.snd)],HObj.row Md.rw ty2 (K.int i64) a.fst,HObj.row Md.rw ty2 (K.int i64) a_3.fst,HObj.row Md.rw ty3 (K.int i64) a_4.fst] [HObj.box
 Md.rw ty39 [SV.data (K.flt f64).slice s.fst,SV.data (K.int i64).slice s.snd.fst,SV.data (K.int i64).slice s.snd.snd.fst,SV.data (K.flt
 f64).slice s.snd.snd.snd.fst,SV.val (Go.Value.int i64 s.snd.snd.snd.snd.fst),SV.val (Go.Value.int i64 s.snd.snd.snd.snd.snd)],HObj.row Md.rw ty2
 (K.int i64) a.fst,HObj.row Md.rw ty2 (K.int i64) a_3.fst,HObj.row Md.rw ty3 (K.int i64) a_4.fst]∧∃ (I:Int × Unit→List Int × List Int × Unit →
 Prop),∃ (μ:Int × Unit→List Int × List Int × Unit→Nat),I ((0:Int),()) (a.fst,a_3.fst,())∧∀ (x:Int × Unit) (y:List Int × List Int × Unit),I x y→∀ (a_5:Bool),
 a_5=decide (x.fst<(↑a_4.fst.length:Int))→Br a_5 (∃ (h:(0:Int)≤x.fst∧x.fst<(↑a_4.fst.length:Int)),∃ (h:Z4o (some g) s.fst (a_4.fst.getD ((0:Nat)
 + x.fst.toNat) (0:Int))),∀ (a_6:Int × Unit),a_6=Z26 (some g) s.fst (a_4.fst.getD ((0:Nat)+x.fst.toNat) (0:Int))→∀ (a_7:Bool),a_7=decide (a_6.fst <
 (0:Int))→Br a_7 (HIs [HObj.box Md.rw ty39 [SV.data (K.flt f64).slice s.fst,SV.data (K.int i64).slice s.snd.fst,SV.data (K.int i64).slice
 s.snd.snd.fst,SV.data (K.flt f64).slice s.snd.snd.snd.fst,SV.val (Go.Value.int i64 s.snd.snd.snd.snd.fst),SV.val (Go.Value.int i64
 s.snd.snd.snd.snd.snd)],HObj.row Md.rw ty2 (K.int i64) y.fst,HObj.row Md.rw ty2 (K.int i64) y.snd.fst,HObj.row Md.rw ty3 (K.int i64) a_4.fst] [HObj.box
 Md.rw ty39 [SV.data (K.flt f64).slice s.fst,SV.data (K.int i64).slice s.snd.fst,SV.data (K.int i64).slice s.snd.snd.fst,SV.data (K.flt
 f64).slice s.snd.snd.snd.fst,SV.val (Go.Value.int i64 s.snd.snd.snd.snd.fst),SV.val (Go.Value.int i64 s.snd.snd.snd.snd.snd)],HObj.row Md.rw ty2
 (K.int i64) y.fst,HObj.row Md.rw ty2 (K.int i64) y.snd.fst,HObj.row Md.rw ty3 (K.int i64) a_4.fst]∧I (i64.wrap (x.fst+(1:Int)),()) (y.fst,
 y.snd.fst,())∧μ (i64.wrap (x.fst+(1:Int)),()) (y.fst,y.snd.fst,())<μ x y) (∃ (h:(0:Int)≤a_4.fst.getD ((0:Nat)+x.fst.toNat) (0:Int)∧a_4.fst.getD
 ((0:Nat)+x.fst.toNat) (0:Int)<(↑a.fst.length:Int)),∀ (a_8:Bool),a_8=decide (y.fst.getD ((0:Nat)+Int.toNat (a_4.fst.getD ((0:Nat)+x.fst.toNat) (0:Int)))
 (0:Int)≤(0:Int))→Br a_8 (HIs [HObj.box Md.rw ty39 [SV.data (K.flt f64).slice s.fst,SV.data (K.int i64).slice s.snd.fst,SV.data (K.int
 i64).slice s.snd.snd.fst,SV.data (K.flt f64).slice s.snd.snd.snd.fst,SV.val (Go.Value.int i64 s.snd.snd.snd.snd.fst),SV.val (Go.Value.int
 i64 s.snd.snd.snd.snd.snd)],HObj.row Md.rw ty2 (K.int i64) y.fst,HObj.row Md.rw ty2 (K.int i64) y.snd.fst,HObj.row Md.rw ty3 (K.int i64)
 a_4.fst] [HObj.box Md.rw ty39 [SV.data (K.flt f64).slice s.fst,SV.data (K.int i64).slice s.snd.fst,SV.data (K.int i64).slice s.snd.snd.fst,SV.data
 (K.flt f64).slice s.snd.snd.snd.fst,SV.val (Go.Value.int i64 s.snd.snd.snd.snd.fst),SV.val (Go.Value.int i64 s.snd.snd.snd.snd.snd)],HObj.row Md.rw
 ty2 (K.int i64) y.fst,HObj.row Md.rw ty2 (K.int i64) y.snd.fst,HObj.row Md.rw ty3 (K.int i64) a_4.fst]∧I (i64.wrap (x.fst+(1:Int)),())
 (y.fst,y.snd.fst,())∧μ (i64.wrap (x.fst+(1:Int)),()) (y.fst,y.snd.fst,())<μ x y) (∃ (h:(0:Int)≤a_4.fst.getD ((0:Nat)+x.fst.toNat) (0:Int) ∧
 a_4.fst.getD ((0:Nat)+x.fst.toNat) (0:Int)<(↑a.fst.length:Int)),∃ (h:True),∃ (h:II (y.fst.getD ((0:Nat)+Int.toNat (a_4.fst.getD ((0:Nat)+x.fst.toNat) (0 :
 Int))) (0:Int)) (Z24 (some g) (a_4.fst.getD ((0:Nat)+x.fst.toNat) (0:Int))).fst),∀ (a_9:Bool),a_9=fcmp Go.BinOp.lss (f64.format.order (Zs5
 (y.fst.getD ((0:Nat)+Int.toNat (a_4.fst.getD ((0:Nat)+x.fst.toNat) (0:Int))) (0:Int)) (Z24 (some g) (a_4.fst.getD ((0:Nat)+x.fst.toNat) (0 :
 Int))).fst).fst (4602678819172646912:Nat))→Br (!a_9) (HIs [HObj.box Md.rw ty39 [SV.data (K.flt f64).slice s.fst,SV.data (K.int i64).slice s.snd.fst,
 SV.data (K.int i64).slice s.snd.snd.fst,SV.data (K.flt f64).slice s.snd.snd.snd.fst,SV.val (Go.Value.int i64 s.snd.snd.snd.snd.fst),SV.val
 (Go.Value.int i64 s.snd.snd.snd.snd.snd)],HObj.row Md.rw ty2 (K.int i64) y.fst,HObj.row Md.rw ty2 (K.int i64) y.snd.fst,HObj.row Md.rw ty3 (K.int
 i64) a_4.fst] [HObj.box Md.rw ty39 [SV.data (K.flt f64).slice s.fst,SV.data (K.int i64).slice s.snd.fst,SV.data (K.int i64).slice
 s.snd.snd.fst,SV.data (K.flt f64).slice s.snd.snd.snd.fst,SV.val (Go.Value.int i64 s.snd.snd.snd.snd.fst),SV.val (Go.Value.int i64
 s.snd.snd.snd.snd.snd)],HObj.row Md.rw ty2 (K.int i64) y.fst,HObj.row Md.rw ty2 (K.int i64) y.snd.fst,HObj.row Md.rw ty3 (K.int i64) a_4.fst]∧I
 (i64.wrap (x.fst+(1:Int)),()) (y.fst,y.snd.fst,())∧μ (i64.wrap (x.fst+(1:Int)),()) (y.fst,y.snd.fst,())<μ x y) (∃ (h:(0:Int)≤a_4.fst.getD
 ((0:Nat)+x.fst.toNat) (0:Int)∧a_4.fst.getD ((0:Nat)+x.fst.toNat) (0:Int)<(↑a.fst.length:Int)),∃ (h:(4:Int)≠(0:Int)),∃ (h:(0:Int)≤a_4.fst.getD ((0
 : Nat)+x.fst.toNat) (0:Int)∧a_4.fst.getD ((0:Nat)+x.fst.toNat) (0:Int)<(↑a_3.fst.length:Int)),∃ (h:(0:Int)≤a_4.fst.getD ((0:Nat)+x.fst.toNat) (0:Int)
 ∧ a_4.fst.getD ((0:Nat)+x.fst.toNat) (0:Int)<(↑a.fst.length:Int)),∃ (h:III (y.snd.fst.getD ((0:Nat)+Int.toNat (a_4.fst.getD ((0:Nat)+x.fst.toNat) (0:Int)))
 (0:Int)) (i64.wrap (Int.tdiv (y.fst.getD ((0:Nat)+Int.toNat (a_4.fst.getD ((0:Nat)+x.fst.toNat) (0:Int))) (0:Int)) (4:Int))) (y.fst.getD ((0:Nat) +
 Int.toNat (a_4.fst.getD ((0:Nat)+x.fst.toNat) (0:Int))) (0:Int))),∃ (h:(0:Int)≤a_4.fst.getD ((0:Nat)+x.fst.toNat) (0:Int)∧a_4.fst.getD ((0:Nat) +
 x.fst.toNat) (0:Int)<(↑a.fst.length:Int)),∃ (h:(0:Int)≤a_4.fst.getD ((0:Nat)+x.fst.toNat) (0:Int)∧a_4.fst.getD ((0:Nat)+x.fst.toNat) (0:Int) <
 (↑a.fst.length:Int)),∃ (h:(0:Int)≤a_6.fst∧a_6.fst<(↑a.fst.length:Int)),∃ (h:(0:Int)≤a_6.fst∧a_6.fst<(↑a.fst.length:Int)),∃ (h:(0:Int) ≤
 a_4.fst.getD ((0:Nat)+x.fst.toNat) (0:Int)∧a_4.fst.getD ((0:Nat)+x.fst.toNat) (0:Int)<(↑a_3.fst.length:Int)),∃ (h:(0:Int)≤a_4.fst.getD ((0:Nat) +
 x.fst.toNat) (0:Int)∧a_4.fst.getD ((0:Nat)+x.fst.toNat) (0:Int)<(↑a_3.fst.length:Int)),∃ (h:(0:Int)≤a_6.fst∧a_6.fst<(↑a_3.fst.length:Int)),∃ (h:(0 :
 Int)≤a_6.fst∧a_6.fst<(↑a_3.fst.length:Int)),HIs [HObj.box Md.rw ty39 [SV.data (K.flt f64).slice s.fst,SV.data (K.int i64).slice s.snd.fst,SV.data
 (K.int i64).slice s.snd.snd.fst,SV.data (K.flt f64).slice s.snd.snd.snd.fst,SV.val (Go.Value.int i64 s.snd.snd.snd.snd.fst),SV.val (Go.Value.int
 i64 s.snd.snd.snd.snd.snd)],HObj.row Md.rw ty2 (K.int i64) ((y.fst.set ((0:Nat)+Int.toNat (a_4.fst.getD ((0:Nat)+x.fst.toNat) (0:Int)))
 (i64.wrap (y.fst.getD ((0:Nat)+Int.toNat (a_4.fst.getD ((0:Nat)+x.fst.toNat) (0:Int))) (0:Int) - i64.wrap (Int.tdiv (y.fst.getD ((0:Nat)+Int.toNat
 (a_4.fst.getD ((0:Nat)+x.fst.toNat) (0:Int))) (0:Int)) (4:Int))))).set ((0:Nat)+a_6.fst.toNat) (i64.wrap ((y.fst.set ((0:Nat)+Int.toNat (a_4.fst.getD ((0
 : Nat)+x.fst.toNat) (0:Int))) (i64.wrap (y.fst.getD ((0:Nat)+Int.toNat (a_4.fst.getD ((0:Nat)+x.fst.toNat) (0:Int))) (0:Int) - i64.wrap (Int.tdiv
 (y.fst.getD ((0:Nat)+Int.toNat (a_4.fst.getD ((0:Nat)+x.fst.toNat) (0:Int))) (0:Int)) (4:Int))))).getD ((0:Nat)+a_6.fst.toNat) (0:Int)+i64.wrap
 (Int.tdiv (y.fst.getD ((0:Nat)+Int.toNat (a_4.fst.getD ((0:Nat)+x.fst.toNat) (0:Int))) (0:Int)) (4:Int))))),HObj.row Md.rw ty2 (K.int i64) ((y.snd.fst.set
 ((0:Nat)+Int.toNat (a_4.fst.getD ((0:Nat)+x.fst.toNat) (0:Int))) (i64.wrap (y.snd.fst.getD ((0:Nat)+Int.toNat (a_4.fst.getD ((0:Nat)+x.fst.toNat) (0 :
 Int))) (0:Int) - (prtR (y.snd.fst.getD ((0:Nat)+Int.toNat (a_4.fst.getD ((0:Nat)+x.fst.toNat) (0:Int))) (0:Int)) (i64.wrap (Int.tdiv (y.fst.getD ((0:Nat) +
 Int.toNat (a_4.fst.getD ((0:Nat)+x.fst.toNat) (0:Int))) (0:Int)) (4:Int))) (y.fst.getD ((0:Nat)+Int.toNat (a_4.fst.getD ((0:Nat)+x.fst.toNat) (0:Int))) (0 :
 Int))).fst))).set ((0:Nat)+a_6.fst.toNat) (i64.wrap ((y.snd.fst.set ((0:Nat)+Int.toNat (a_4.fst.getD ((0:Nat)+x.fst.toNat) (0:Int))) (i64.wrap
 (y.snd.fst.getD ((0:Nat)+Int.toNat (a_4.fst.getD ((0:Nat)+x.fst.toNat) (0:Int))) (0:Int) - (prtR (y.snd.fst.getD ((0:Nat)+Int.toNat (a_4.fst.getD ((0:Nat) +
 x.fst.toNat) (0:Int))) (0:Int)) (i64.wrap (Int.tdiv (y.fst.getD ((0:Nat)+Int.toNat (a_4.fst.getD ((0:Nat)+x.fst.toNat) (0:Int))) (0:Int)) (4:Int)))
 (y.fst.getD ((0:Nat)+Int.toNat (a_4.fst.getD ((0:Nat)+x.fst.toNat) (0:Int))) (0:Int))).fst))).getD ((0:Nat)+a_6.fst.toNat) (0:Int)+(prtR (y.snd.fst.getD ((0 :
 Nat)+Int.toNat (a_4.fst.getD ((0:Nat)+x.fst.toNat) (0:Int))) (0:Int)) (i64.wrap (Int.tdiv (y.fst.getD ((0:Nat)+Int.toNat (a_4.fst.getD ((0:Nat) +
 x.fst.toNat) (0:Int))) (0:Int)) (4:Int))) (y.fst.getD ((0:Nat)+Int.toNat (a_4.fst.getD ((0:Nat)+x.fst.toNat) (0:Int))) (0:Int))).fst))),HObj.row Md.rw ty3
 (K.int i64) a_4.fst] [HObj.box Md.rw ty39 [SV.data (K.flt f64).slice s.fst,SV.data (K.int i64).slice s.snd.fst,SV.data (K.int i64).slice
 s.snd.snd.fst,SV.data (K.flt f64).slice s.snd.snd.snd.fst,SV.val (Go.Value.int i64 s.snd.snd.snd.snd.fst),SV.val (Go.Value.int i64
 s.snd.snd.snd.snd.snd)],HObj.row Md.rw ty2 (K.int i64) ((y.fst.set ((0:Nat)+Int.toNat (a_4.fst.getD ((0:Nat)+x.fst.toNat) (0:Int))) (i64.wrap
 (y.fst.getD ((0:Nat)+Int.toNat (a_4.fst.getD ((0:Nat)+x.fst.toNat) (0:Int))) (0:Int) - i64.wrap (Int.tdiv (y.fst.getD ((0:Nat)+Int.toNat (a_4.fst.getD ((0
 : Nat)+x.fst.toNat) (0:Int))) (0:Int)) (4:Int))))).set ((0:Nat)+a_6.fst.toNat) (i64.wrap ((y.fst.set ((0:Nat)+Int.toNat (a_4.fst.getD ((0:Nat) +
 x.fst.toNat) (0:Int))) (i64.wrap (y.fst.getD ((0:Nat)+Int.toNat (a_4.fst.getD ((0:Nat)+x.fst.toNat) (0:Int))) (0:Int) - i64.wrap (Int.tdiv
 (y.fst.getD ((0:Nat)+Int.toNat (a_4.fst.getD ((0:Nat)+x.fst.toNat) (0:Int))) (0:Int)) (4:Int))))).getD ((0:Nat)+a_6.fst.toNat) (0:Int)+i64.wrap
 (Int.tdiv (y.fst.getD ((0:Nat)+Int.toNat (a_4.fst.getD ((0:Nat)+x.fst.toNat) (0:Int))) (0:Int)) (4:Int))))),HObj.row Md.rw ty2 (K.int i64) ((y.snd.fst.set
 ((0:Nat)+Int.toNat (a_4.fst.getD ((0:Nat)+x.fst.toNat) (0:Int))) (i64.wrap (y.snd.fst.getD ((0:Nat)+Int.toNat (a_4.fst.getD ((0:Nat)+x.fst.toNat) (0 :
 Int))) (0:Int) - (prtR (y.snd.fst.getD ((0:Nat)+Int.toNat (a_4.fst.getD ((0:Nat)+x.fst.toNat) (0:Int))) (0:Int)) (i64.wrap (Int.tdiv (y.fst.getD ((0:Nat) +
 Int.toNat (a_4.fst.getD ((0:Nat)+x.fst.toNat) (0:Int))) (0:Int)) (4:Int))) (y.fst.getD ((0:Nat)+Int.toNat (a_4.fst.getD ((0:Nat)+x.fst.toNat) (0:Int))) (0 :
 Int))).fst))).set ((0:Nat)+a_6.fst.toNat) (i64.wrap ((y.snd.fst.set ((0:Nat)+Int.toNat (a_4.fst.getD ((0:Nat)+x.fst.toNat) (0:Int))) (i64.wrap
 (y.snd.fst.getD ((0:Nat)+Int.toNat (a_4.fst.getD ((0:Nat)+x.fst.toNat) (0:Int))) (0:Int) - (prtR (y.snd.fst.getD ((0:Nat)+Int.toNat (a_4.fst.getD ((0:Nat) +
 x.fst.toNat) (0:Int))) (0:Int)) (i64.wrap (Int.tdiv (y.fst.getD ((0:Nat)+Int.toNat (a_4.fst.getD ((0:Nat)+x.fst.toNat) (0:Int))) (0:Int)) (4:Int)))
 (y.fst.getD ((0:Nat)+Int.toNat (a_4.fst.getD ((0:Nat)+x.fst.toNat) (0:Int))) (0:Int))).fst))).getD ((0:Nat)+a_6.fst.toNat) (0:Int)+(prtR (y.snd.fst.getD ((0 :
 Nat)+Int.toNat (a_4.fst.getD ((0:Nat)+x.fst.toNat) (0:Int))) (0:Int)) (i64.wrap (Int.tdiv (y.fst.getD ((0:Nat)+Int.toNat (a_4.fst.getD ((0:Nat) +
 x.fst.toNat) (0:Int))) (0:Int)) (4:Int))) (y.fst.getD ((0:Nat)+Int.toNat (a_4.fst.getD ((0:Nat)+x.fst.toNat) (0:Int))) (0:Int))).fst))),HObj.row Md.rw ty3
 (K.int i64) a_4.fst]∧I (i64.wrap (x.fst+(1:Int)),()) ((y.fst.set ((0:Nat)+Int.toNat (a_4.fst.getD ((0:Nat)+x.fst.toNat) (0:Int)))
 (i64.wrap (y.fst.getD ((0:Nat)+Int.toNat (a_4.fst.getD ((0:Nat)+x.fst.toNat) (0:Int))) (0:Int) - i64.wrap (Int.tdiv (y.fst.getD ((0:Nat)+Int.toNat
 (a_4.fst.getD ((0:Nat)+x.fst.toNat) (0:Int))) (0:Int)) (4:Int))))).set ((0:Nat)+a_6.fst.toNat) (i64.wrap ((y.fst.set ((0:Nat)+Int.toNat (a_4.fst.getD ((0
 : Nat)+x.fst.toNat) (0:Int))) (i64.wrap (y.fst.getD ((0:Nat)+Int.toNat (a_4.fst.getD ((0:Nat)+x.fst.toNat) (0:Int))) (0:Int) - i64.wrap (Int.tdiv
 (y.fst.getD ((0:Nat)+Int.toNat (a_4.fst.getD ((0:Nat)+x.fst.toNat) (0:Int))) (0:Int)) (4:Int))))).getD ((0:Nat)+a_6.fst.toNat) (0:Int)+i64.wrap
 (Int.tdiv (y.fst.getD ((0:Nat)+Int.toNat (a_4.fst.getD ((0:Nat)+x.fst.toNat) (0:Int))) (0:Int)) (4:Int)))),(y.snd.fst.set ((0:Nat)+Int.toNat (a_4.fst.getD ((0 :
 Nat)+x.fst.toNat) (0:Int))) (i64.wrap (y.snd.fst.getD ((0:Nat)+Int.toNat (a_4.fst.getD ((0:Nat)+x.fst.toNat) (0:Int))) (0:Int) - (prtR (y.snd.fst.getD ((0
 : Nat)+Int.toNat (a_4.fst.getD ((0:Nat)+x.fst.toNat) (0:Int))) (0:Int)) (i64.wrap (Int.tdiv (y.fst.getD ((0:Nat)+Int.toNat (a_4.fst.getD ((0:Nat) +
 x.fst.toNat) (0:Int))) (0:Int)) (4:Int))) (y.fst.getD ((0:Nat)+Int.toNat (a_4.fst.getD ((0:Nat)+x.fst.toNat) (0:Int))) (0:Int))).fst))).set ((0:Nat) +
 a_6.fst.toNat) (i64.wrap ((y.snd.fst.set ((0:Nat)+Int.toNat (a_4.fst.getD ((0:Nat)+x.fst.toNat) (0:Int))) (i64.wrap (y.snd.fst.getD ((0:Nat) +
 Int.toNat (a_4.fst.getD ((0:Nat)+x.fst.toNat) (0:Int))) (0:Int) - (prtR (y.snd.fst.getD ((0:Nat)+Int.toNat (a_4.fst.getD ((0:Nat)+x.fst.toNat) (0:Int))) (0 :
 Int)) (i64.wrap (Int.tdiv (y.fst.getD ((0:Nat)+Int.toNat (a_4.fst.getD ((0:Nat)+x.fst.toNat) (0:Int))) (0:Int)) (4:Int))) (y.fst.getD ((0:Nat)+Int.toNat
 (a_4.fst.getD ((0:Nat)+x.fst.toNat) (0:Int))) (0:Int))).fst))).getD ((0:Nat)+a_6.fst.toNat) (0:Int)+(prtR (y.snd.fst.getD ((0:Nat)+Int.toNat (a_4.fst.getD ((0
 : Nat)+x.fst.toNat) (0:Int))) (0:Int)) (i64.wrap (Int.tdiv (y.fst.getD ((0:Nat)+Int.toNat (a_4.fst.getD ((0:Nat)+x.fst.toNat) (0:Int))) (0:Int)) (4 :
 Int))) (y.fst.getD ((0:Nat)+Int.toNat (a_4.fst.getD ((0:Nat)+x.fst.toNat) (0:Int))) (0:Int))).fst)),())∧μ (i64.wrap (x.fst+(1:Int)),()) ((y.fst.set ((0
 : Nat)+Int.toNat (a_4.fst.getD ((0:Nat)+x.fst.toNat) (0:Int))) (i64.wrap (y.fst.getD ((0:Nat)+Int.toNat (a_4.fst.getD ((0:Nat)+x.fst.toNat) (0:Int))) (0
 : Int) - i64.wrap (Int.tdiv (y.fst.getD ((0:Nat)+Int.toNat (a_4.fst.getD ((0:Nat)+x.fst.toNat) (0:Int))) (0:Int)) (4:Int))))).set ((0:Nat)+a_6.fst.toNat)
 (i64.wrap ((y.fst.set ((0:Nat)+Int.toNat (a_4.fst.getD ((0:Nat)+x.fst.toNat) (0:Int))) (i64.wrap (y.fst.getD ((0:Nat)+Int.toNat (a_4.fst.getD ((0 :
 Nat)+x.fst.toNat) (0:Int))) (0:Int) - i64.wrap (Int.tdiv (y.fst.getD ((0:Nat)+Int.toNat (a_4.fst.getD ((0:Nat)+x.fst.toNat) (0:Int))) (0:Int)) (4 :
 Int))))).getD ((0:Nat)+a_6.fst.toNat) (0:Int)+i64.wrap (Int.tdiv (y.fst.getD ((0:Nat)+Int.toNat (a_4.fst.getD ((0:Nat)+x.fst.toNat) (0:Int))) (0:Int))
 (4:Int)))),(y.snd.fst.set ((0:Nat)+Int.toNat (a_4.fst.getD ((0:Nat)+x.fst.toNat) (0:Int))) (i64.wrap (y.snd.fst.getD ((0:Nat)+Int.toNat (a_4.fst.getD ((0
 : Nat)+x.fst.toNat) (0:Int))) (0:Int) - (prtR (y.snd.fst.getD ((0:Nat)+Int.toNat (a_4.fst.getD ((0:Nat)+x.fst.toNat) (0:Int))) (0:Int)) (i64.wrap
 (Int.tdiv (y.fst.getD ((0:Nat)+Int.toNat (a_4.fst.getD ((0:Nat)+x.fst.toNat) (0:Int))) (0:Int)) (4:Int))) (y.fst.getD ((0:Nat)+Int.toNat (a_4.fst.getD ((0:Nat)
 + x.fst.toNat) (0:Int))) (0:Int))).fst))).set ((0:Nat)+a_6.fst.toNat) (i64.wrap ((y.snd.fst.set ((0:Nat)+Int.toNat (a_4.fst.getD ((0:Nat)+x.fst.toNat) (0 :
 Int))) (i64.wrap (y.snd.fst.getD ((0:Nat)+Int.toNat (a_4.fst.getD ((0:Nat)+x.fst.toNat) (0:Int))) (0:Int) - (prtR (y.snd.fst.getD ((0:Nat)+Int.toNat
 (a_4.fst.getD ((0:Nat)+x.fst.toNat) (0:Int))) (0:Int)) (i64.wrap (Int.tdiv (y.fst.getD ((0:Nat)+Int.toNat (a_4.fst.getD ((0:Nat)+x.fst.toNat) (0:Int)))
 (0:Int)) (4:Int))) (y.fst.getD ((0:Nat)+Int.toNat (a_4.fst.getD ((0:Nat)+x.fst.toNat) (0:Int))) (0:Int))).fst))).getD ((0:Nat)+a_6.fst.toNat) (0:Int)+(prtR
 (y.snd.fst.getD ((0:Nat)+Int.toNat (a_4.fst.getD ((0:Nat)+x.fst.toNat) (0:Int))) (0:Int)) (i64.wrap (Int.tdiv (y.fst.getD ((0:Nat)+Int.toNat (a_4.fst.getD
 ((0:Nat)+x.fst.toNat) (0:Int))) (0:Int)) (4:Int))) (y.fst.getD ((0:Nat)+Int.toNat (a_4.fst.getD ((0:Nat)+x.fst.toNat) (0:Int))) (0:Int))).fst)),())<μ x
 y)))) (((0:Nat)=(0:Nat)∧a.fst.length=y.fst.length)∧((0:Nat)=(0:Nat)∧a_3.fst.length=y.snd.fst.length)∧post (y.fst,y.snd.fst,(0:Int),()))))))))
theorem Zwg (ty0 ty1 ty2:Nat) (g:Int × (List (Int × Int × Int × Int)) × (List ((Int × Int) × Int)) × (List (List Int)) × (List Int) × (List Nat) × List Nat) (s:(List Nat) × (List Int) × (List Int) × (List Nat) × Int × Int) (h:WRun (some g) s) (w:KS.wf [.ptr Zu,kSea] ((some g),s,())):Z8y ty0 ty1 ty2 g s (fun r=>r=Z6n (some g) s):=by
 obtain ⟨hg,hw,hi1,hi2⟩:=h
 obtain ⟨n,gn,rfl⟩:=Zxp hg
 obtain ⟨m,hm⟩:∃ m,(Z8g (some (netG n))).1=m:=⟨_,rfl⟩
 have hC:(Za (some (netG n))).1=Zc n:=Z3c n
 have hR:Z6n (some (netG n)) s=runF true (Zc n) m (Z14 n) (Z1t true (Zc n) n s.1) s:=by rw [← hm]; unfold Z6n; rw [Z3c]; rfl
 have cr:=Z77 n
 have hD:∀ c,(Z26 (some (netG n)) s.1 c).fst=Z1t true (Zc n) n s.1 c:=fun c=>by unfold Z26; rw [Z3c]; rfl
 have bad:((Zc2 (Zc n) m s&&Z1y 0 s.2.1)&&Z1y 0 s.2.2.1)=false→([],[],1,())=Z6n (some (netG n)) s:=fun h=>by rw [hR,Z1ad h]
 have main:Zc2 (Zc n) m s=true→Z1y 0 s.2.1=true→Z1y 0 s.2.2.1=true→∀ area down,area=Z14 n→down=Z1t true (Zc n) n s.1→Z6n (some (netG n)) s=((runA area down (ordL s.1) (s.2.1,s.2.2.1)).1,(runA area down (ordL s.1) (s.2.1,s.2.2.1)).2,0,()):=by
  rintro h1 h2 h3 _ _ rfl rfl
  rw [hR,Zxq h1 h2 h3]
 refine ⟨trivial,?_⟩
 rw [hC,hm]
 have bad1:∀ {b:Bool},Zc2 (Zc n) m s=b→b=false→([],[],1,())=Z6n (some (netG n)) s:=fun {b} h1 h2=>bad (by rw [h1,h2]; rfl)
 have nofit:¬ ((s.1.length:Int)=Zc n∧(s.2.1.length:Int)=Zc n∧(s.2.2.1.length:Int)=Zc n∧(s.2.2.2.1.length:Int)=m)→([],[],1,())=Z6n (some (netG n)) s:=fun h=>bad1 rfl (by rw [Bool.eq_false_iff]; exact fun q=>h (Zlk.1 q))
 rintro _ rfl
 refine Br.intro (fun e=>nofit fun q=>absurd q.1 (bne_iff_ne.1 e)) fun f1=>?_
 have f1:(s.1.length:Int)=Zc n:=by simpa using f1
 rintro _ rfl
 refine Br.intro (fun e=>nofit fun q=>absurd q.2.1 (bne_iff_ne.1 e)) fun f2=>?_
 have f2:(s.2.1.length:Int)=Zc n:=by simpa using f2
 rintro _ rfl
 refine Br.intro (fun e=>nofit fun q=>absurd q.2.2.1 (bne_iff_ne.1 e)) fun f3=>?_
 have f3:(s.2.2.1.length:Int)=Zc n:=by simpa using f3
 refine ⟨trivial,?_⟩
 rintro _ rfl
 refine Br.intro (fun e=>nofit fun q=>absurd q.2.2.2 (bne_iff_ne.1 e)) fun f4=>?_
 have f4:(s.2.2.2.1.length:Int)=m:=by simpa using f4
 have hf:Zc2 (Zc n) m s=true:=Zlk.2 ⟨f1,f2,f3,f4⟩
 refine ⟨trivial,?_⟩
 rintro _ rfl
 rintro _ rfl
 refine Br.intro (fun e=>bad (by
  have e:(!Z1y 0 s.2.1)=true:=e
  have e:Z1y 0 s.2.1=false:=by simpa using e
  rw [hf,e]; rfl)) fun e=>?_
 have hk1:Z1y 0 s.2.1=true:=by
  have e:(!Z1y 0 s.2.1)=false:=e
  simpa using e
 refine ⟨trivial,?_⟩
 rintro _ rfl
 rintro _ rfl
 refine Br.intro (fun e=>bad (by
  have e:(!Z1y 0 s.2.2.1)=true:=e
  have e:Z1y 0 s.2.2.1=false:=by simpa using e
  rw [hf,hk1,e]; rfl)) fun e=>?_
 have hk2:Z1y 0 s.2.2.1=true:=by
  have e:(!Z1y 0 s.2.2.1)=false:=e
  simpa using e
 clear bad1 nofit
 have e1:=Zlk.1 hf
 have q1:=Zik hk1 (by decide)
 have q2:=Zik hk2 (by decide)
 have p1:Pool s.1.length s.2.1.sum s.2.1:=⟨by omega,q1.1,rfl⟩
 have p2:Pool s.1.length s.2.2.1.sum s.2.2.1:=⟨by omega,q2.1,rfl⟩
 refine ⟨by show s.2.1.length≤65536; omega,?_⟩
 rintro _ rfl
 refine ⟨by show s.2.2.1.length≤65536; omega,?_⟩
 rintro _ rfl
 refine ⟨⟨hw,by omega⟩,?_⟩
 rintro _ rfl
 have hm2:=main hf hk1 hk2 _ _ rfl rfl
 rw [hm2]
 clear hm2 main bad hR
 dsimp only [Zif,Zli]
 have lo:(ordL s.1).length=s.1.length:=by unfold ordL; rw [Z15v]; simp
 have mo:∀ c ∈ ordL s.1,0≤c∧c<(s.1.length:Int):=fun c hc=>by have:=Zsn hc; simp at this; omega
 have hdr:=Z18m (n:=n) (bed:=s.1) e1.1
 simp only [hD]
 obtain ⟨down,hdn⟩:∃ down,Z1t true (Zc n) n s.1=down:=⟨_,rfl⟩
 rw [hdn] at hdr ⊢
 have pk:∀ k:Nat,Pool s.1.length s.2.1.sum (runA (Z14 n) down ((ordL s.1).take k) (s.2.1,s.2.2.1)).1∧Pool s.1.length s.2.2.1.sum (runA (Z14 n) down ((ordL s.1).take k) (s.2.1,s.2.2.1)).2:=fun k=>Z148 hdr _ (fun c hc=>mo c (List.mem_of_mem_take hc)) p1 p2
 refine ⟨rfl,fun x y=>∃ k:Nat,x.1=k∧k≤(ordL s.1).length∧y.1=(runA (Z14 n) down ((ordL s.1).take k) (s.2.1,s.2.2.1)).1∧y.2.1=(runA (Z14 n) down ((ordL s.1).take k) (s.2.1,s.2.2.1)).2,fun x _=>(ordL s.1).length - x.1.toNat,⟨0,rfl,by omega,rfl,rfl⟩,?_⟩
 rintro ⟨_,⟨⟩⟩ ⟨_,_,⟨⟩⟩ ⟨k,rfl,hk,rfl,rfl⟩
 dsimp only
 obtain ⟨st,hst⟩:∃ st,runA (Z14 n) down ((ordL s.1).take k) (s.2.1,s.2.2.1)=st:=⟨_,rfl⟩
 have pst:=pk k
 rw [hst] at pst ⊢
 obtain ⟨pw,pt⟩:=pst
 have lw:=pw.len
 have lt:=pt.len
 rintro _ rfl
 refine Br.intro (fun d=>?_) fun d=>?_
 rotate_left
 ·have d:k=(ordL s.1).length:=by have d:¬ (k:Int)<(ordL s.1).length:=of_decide_eq_false d; omega
  rw [d,List.take_length] at hst
  rw [hst]
  exact ⟨⟨by trivial,by omega⟩,⟨by trivial,by omega⟩,rfl⟩
 have d:k<(ordL s.1).length:=by have d:(k:Int)<(ordL s.1).length:=of_decide_eq_true d; omega
 have hs1:=Z18l (area:=Z14 n) (down:=down) (st:=(s.2.1,s.2.2.1)) d
 rw [hst] at hs1
 have hcm:=mo _ (Zn9 d)
 simp only [Int.toNat_natCast,Nat.zero_add]
 rw [Z2b d (by omega)]
 obtain ⟨c,hc⟩:∃ c,(ordL s.1).getD k 0=c:=⟨_,rfl⟩
 have hc':at0 (ordL s.1) k=c:=hc
 rw [hc'] at hs1 hcm
 simp only [hc]
 have hdc:=hdr c hcm.1 hcm.2
 have cw:0≤c∧c<(s.2.1.length:Int):=by omega
 have ct:0≤c∧c<(s.2.2.1.length:Int):=by omega
 have aw:=pw.at (i:=c.toNat) (by omega)
 have at_:=pt.at (i:=c.toNat) (by omega)
 have aw:0≤st.1.getD c.toNat 0∧st.1.getD c.toNat 0≤s.2.1.sum:=aw
 have at_:0≤st.2.getD c.toNat 0∧st.2.getD c.toNat 0≤s.2.2.1.sum:=at_
 have next:∀ w t:List Int,(w,t)=Z2v (Z14 n) down st c→(∃ j:Nat,((k+1:Nat):Int)=j∧j≤(ordL s.1).length∧w=(runA (Z14 n) down ((ordL s.1).take j) (s.2.1,s.2.2.1)).1∧t=(runA (Z14 n) down ((ordL s.1).take j) (s.2.1,s.2.2.1)).2)∧(ordL s.1).length - (((k+1:Nat):Int)).toNat<(ordL s.1).length - k:=fun w t h=>⟨⟨k+1,rfl,by omega,by rw [hs1,← h],by rw [hs1,← h]⟩,by omega⟩
 have skip:(down c<0∨st.1.getD c.toNat 0≤0∨Zd1 (st.1.getD c.toNat 0) (Z14 n c)=false)→(st.1,st.2)=Z2v (Z14 n) down st c:=fun h=>by unfold Z2v; rw [if_pos h]
 refine ⟨⟨by omega,by omega⟩,⟨hg,hw⟩,?_⟩
 rintro _ rfl
 simp only [hD,hdn]
 rintro _ rfl
 refine Br.intro (fun e=>⟨rfl,next _ _ (skip (.inl (of_decide_eq_true e)))⟩) fun e=>?_
 have e:=of_decide_eq_false e
 refine ⟨cw,?_⟩
 rintro _ rfl
 refine Br.intro (fun f=>⟨rfl,next _ _ (skip (.inr (.inl (of_decide_eq_true f))))⟩) fun f=>?_
 have f:=of_decide_eq_false f
 have ar:=Z19r n c
 have hA:(Z24 (some (netG n)) c).fst=Z14 n c:=Z18n hcm.1 (by omega)
 rw [hA]
 refine ⟨cw,trivial,⟨⟨by omega,by omega⟩,ar.1⟩,?_⟩
 rintro _ rfl
 refine Br.intro (fun g=>⟨rfl,next _ _ (skip (.inr (.inr (by
  have g:(!Zd1 (st.1.getD c.toNat 0) (Z14 n c))=true:=g
  simpa using g))))⟩) fun g=>?_
 have g:Zd1 (st.1.getD c.toNat 0) (Z14 n c)=true:=by
  have g:(!Zd1 (st.1.getD c.toNat 0) (Z14 n c))=false:=g
  simpa using g
 have w4:i64.wrap (Int.tdiv (st.1.getD c.toNat 0) 4)=st.1.getD c.toNat 0 / 4:=by
  rw [Int.tdiv_eq_ediv_of_nonneg aw.1]; exact Zt (by omega) (by omega)
 have pr:∀ a b c:Int,(prtR a b c).fst=part a b c:=fun _ _ _=>rfl
 simp only [w4,pr]
 have pin:=Zv8 (a:=st.2.getD c.toNat 0) (b:=st.1.getD c.toNat 0 / 4) (c:=st.1.getD c.toNat 0) at_.1 (by omega) (by omega) (by omega)
 obtain ⟨_,m1,m2,m3,m4⟩:=pw.mv (i:=c) (j:=down c) (d:=st.1.getD c.toNat 0 / 4) hcm.1 hcm.2 (by omega) (by omega) (by omega) (by omega)
 obtain ⟨_,m5,m6,m7,m8⟩:=pt.mv (i:=c) (j:=down c) hcm.1 hcm.2 (by omega) (by omega) pin.1 pin.2
 have dw:0≤down c∧down c<(s.2.1.length:Int):=by omega
 have dt:0≤down c∧down c<(s.2.2.1.length:Int):=by omega
 rw [Zt (x:=st.1.getD c.toNat 0 - st.1.getD c.toNat 0 / 4) (by omega) (by omega),Zt (x:=st.2.getD c.toNat 0 - part (st.2.getD c.toNat 0) (st.1.getD c.toNat 0 / 4) (st.1.getD c.toNat 0)) (by omega) (by omega),
  Zt (x:=(st.1.set c.toNat (st.1.getD c.toNat 0 - st.1.getD c.toNat 0 / 4)).getD (down c).toNat 0+st.1.getD c.toNat 0 / 4) (by omega) (by omega),
  Zt (x:=(st.2.set c.toNat (st.2.getD c.toNat 0 - part (st.2.getD c.toNat 0) (st.1.getD c.toNat 0 / 4) (st.1.getD c.toNat 0))).getD (down c).toNat 0+part (st.2.getD c.toNat 0) (st.1.getD c.toNat 0 / 4) (st.1.getD c.toNat 0)) (by omega) (by omega)]
 refine ⟨cw,by decide,ct,cw,⟨⟨by omega,by omega⟩,⟨by omega,by omega⟩,by omega,by omega⟩,cw,cw,dw,dw,ct,ct,dt,dt,rfl,next _ _ ?_⟩
 unfold Z2v
 rw [if_neg (fun h=>by rcases h with h | h | h <;> first | omega | (rw [g] at h; cases h))]
 rfl
end Go.Lift

namespace Go.Lift
def Z4d:=fun (post:Int × Unit→Prop)=>post ((0:Int),())
theorem Zis  (w:KS.wf [.ptr Zu] (none,())):Z4d   (fun r=>r=Za none):=by
 exact rfl
def Z4e:=fun (g:Int × List (Int × Int × Int × Int) × List ((Int × Int) × Int) × List (List Int) × List Int × List Nat × List Nat) (post:Int × Unit→Prop) =>
 ∃ (h:some g≠none),post ((↑g.snd.snd.snd.snd.fst.length:Int),())
theorem Zit (g:Int × (List (Int × Int × Int × Int)) × (List ((Int × Int) × Int)) × (List (List Int)) × (List Int) × (List Nat) × List Nat) (w:KS.wf [.ptr Zu] ((some g),())):Z4e  g (fun r=>r=Za (some g)):=by
 exact ⟨by simp,rfl⟩
def Z4f:=fun (post:Int × Unit→Prop)=>post ((0:Int),())
theorem Ziu  (w:KS.wf [.ptr Zu] (none,())):Z4f   (fun r=>r=Z8g none):=by
 exact rfl
def Z4g:=fun (g:Int × List (Int × Int × Int × Int) × List ((Int × Int) × Int) × List (List Int) × List Int × List Nat × List Nat) (post:Int × Unit→Prop) =>
 ∃ (h:some g≠none),post ((↑g.snd.fst.length:Int),())
theorem Ziv (g:Int × (List (Int × Int × Int × Int)) × (List ((Int × Int) × Int)) × (List (List Int)) × (List Int) × (List Nat) × List Nat) (w:KS.wf [.ptr Zu] ((some g),())):Z4g  g (fun r=>r=Z8g (some g)):=by
 exact ⟨by simp,rfl⟩
def Z4q:=fun (c:Int) (post:Int × Unit→Prop)=>post ((0:Int),())
theorem Zk3 (c:Int) (w:KS.wf [.ptr Zu,.int .i64] (none,c,())):Z4q  c (fun r=>r=Z24 none c):=by
 exact rfl
def Z4r:=fun (g:Int × List (Int × Int × Int × Int) × List ((Int × Int) × Int) × List (List Int) × List Int × List Nat × List Nat) (c:Int) (post:Int × Unit →
 Prop)=>∀ (a:Bool),a=decide (c<(0:Int))→Br a (post ((0:Int),())) (∃ (h:some g≠none),∀ (a:Bool),a=decide (c≥(↑g.snd.snd.snd.snd.fst.length
 : Int))→Br a (post ((0:Int),())) (∃ (h:some g≠none),∃ (h:(0:Int)≤c∧c<(↑g.snd.snd.snd.snd.fst.length:Int)),post (g.snd.snd.snd.snd.fst.getD
 c.toNat (0:Int),())))
theorem Zk4 (g:Int × (List (Int × Int × Int × Int)) × (List ((Int × Int) × Int)) × (List (List Int)) × (List Int) × (List Nat) × List Nat) (c:Int) (w:KS.wf [.ptr Zu,.int .i64] ((some g),c,())):Z4r  g c (fun r=>r=Z24 (some g) c):=by
 rintro _ rfl
 refine Br.intro (fun e=>congrArg r1 ?_) fun e=>?_
 ·have e:=of_decide_eq_true e
  show (0:Int)=if 0≤c∧c<(g.2.2.2.2.1.length:Nat) then g.2.2.2.2.1.getD c.toNat 0 else 0
  rw [if_neg (by omega)]
 have e:=of_decide_eq_false e
 refine ⟨by simp,?_⟩
 rintro _ rfl
 refine Br.intro (fun f=>congrArg r1 ?_) fun f=>?_
 ·have f:=of_decide_eq_true f
  show (0:Int)=if 0≤c∧c<(g.2.2.2.2.1.length:Nat) then g.2.2.2.2.1.getD c.toNat 0 else 0
  rw [if_neg (by omega)]
 have f:=of_decide_eq_false f
 refine ⟨by simp,⟨by omega,by omega⟩,congrArg r1 ?_⟩
 show g.2.2.2.2.1.getD c.toNat 0=if 0≤c∧c<(g.2.2.2.2.1.length:Nat) then g.2.2.2.2.1.getD c.toNat 0 else 0
 rw [if_pos ⟨by omega,by omega⟩]
end Go.Lift

namespace Go.Lift
open Go.Proofs
def Z2a:Con:=.det [.ptr Zu] [.snap (.int .i64)] (fun _=>True) (fun x=>Za x.1)
def Z4s:Cx:=⟨Zk Zn,Zm [],RbG⟩
theorem Zfw:CxOk Tryz.prog Z4s:=⟨Z4 Z7,fun f c h=>by cases h⟩
theorem Ziw:FnAt Tryz.prog 31 Tryz.f31.ntmps Tryz.f31.results.toList (Tryz.f31.body.getD .skip):=⟨Tryz.f31,Tryz.func31,rfl,rfl,by simp,by decide⟩
theorem Zfx  (post:Int × Unit→Prop):Ze Z4s nHn Tryz.f31.ntmps Tryz.f31.results.toList (Tryz.f31.body.getD .skip) [.ptr Zu] [.snap (.int .i64)] (none,()) post=Z4d   post:=by kernel_rfl
theorem Zfy (g:Int × (List (Int × Int × Int × Int)) × (List ((Int × Int) × Int)) × (List (List Int)) × (List Int) × (List Nat) × List Nat) (post:Int × Unit→Prop):Ze Z4s nHn Tryz.f31.ntmps Tryz.f31.results.toList (Tryz.f31.body.getD .skip) [.ptr Zu] [.snap (.int .i64)] ((some g),()) post=Z4e  g post:=by kernel_rfl
def Zk5 (x:KS [.ptr Zu]) (post:RS [.snap (.int .i64)]→Prop):Prop:=match x with
 | (none,y)=>Z4d   post
 | (some g,y)=>Z4e  g post
theorem Z31:Z2a.holds Tryz.prog RbG 31 :=
 detP Zfw Z8 nHn Ziw (F:=Zk5) (fun x post=>match x with
  | (none,y)=>Zfx  post
  | (some g,y)=>Zfy g post) fun x h w=>match x,h,w with
  | (none,y),h,w=>Zis   w
  | (some g,y),h,w=>Zit  g w
def Z4t:Con:=.det [.ptr Zu] [.snap (.int .i64)] (fun _=>True) (fun x=>Z8g x.1)
def Z4u:Cx:=⟨Zk Zn,Zm [],RbG⟩
theorem Zfz:CxOk Tryz.prog Z4u:=⟨Z4 Z7,fun f c h=>by cases h⟩
theorem Zix:FnAt Tryz.prog 55 Tryz.f55.ntmps Tryz.f55.results.toList (Tryz.f55.body.getD .skip):=⟨Tryz.f55,Tryz.func55,rfl,rfl,by simp,by decide⟩
theorem Zg0  (post:Int × Unit→Prop):Ze Z4u nHn Tryz.f55.ntmps Tryz.f55.results.toList (Tryz.f55.body.getD .skip) [.ptr Zu] [.snap (.int .i64)] (none,()) post=Z4f   post:=by kernel_rfl
theorem Zg1 (g:Int × (List (Int × Int × Int × Int)) × (List ((Int × Int) × Int)) × (List (List Int)) × (List Int) × (List Nat) × List Nat) (post:Int × Unit→Prop):Ze Z4u nHn Tryz.f55.ntmps Tryz.f55.results.toList (Tryz.f55.body.getD .skip) [.ptr Zu] [.snap (.int .i64)] ((some g),()) post=Z4g  g post:=by kernel_rfl
def Zk6 (x:KS [.ptr Zu]) (post:RS [.snap (.int .i64)]→Prop):Prop:=match x with
 | (none,y)=>Z4f   post
 | (some g,y)=>Z4g  g post
theorem Z83:Z4t.holds Tryz.prog RbG 55 :=
 detP Zfz Z8 nHn Zix (F:=Zk6) (fun x post=>match x with
  | (none,y)=>Zg0  post
  | (some g,y)=>Zg1 g post) fun x h w=>match x,h,w with
  | (none,y),h,w=>Ziu   w
  | (some g,y),h,w=>Ziv  g w
def Z5f:Con:=.det [.ptr Zu,.int .i64] [.snap (.int .i64)] (fun _=>True) (fun x=>Z24 x.1 x.2.1)
def Z4v:Hn:=nHn
def Z5g:Cx:=⟨Zk Zn,Zm [],RbG⟩
theorem Zha:CxOk Tryz.prog Z5g:=⟨Z4 Z7,fun f c h=>by cases h⟩
theorem Zk7:FnAt Tryz.prog 38 Tryz.f38.ntmps Tryz.f38.results.toList (Tryz.f38.body.getD .skip):=⟨Tryz.f38,Tryz.func38,rfl,rfl,by simp,by decide⟩
theorem Zhb (c:Int) (post:Int × Unit→Prop):Ze Z5g Z4v Tryz.f38.ntmps Tryz.f38.results.toList (Tryz.f38.body.getD .skip) [.ptr Zu,.int .i64] [.snap (.int .i64)] (none,c,()) post=Z4q  c post:=by kernel_rfl
theorem Zhc (g:Int × (List (Int × Int × Int × Int)) × (List ((Int × Int) × Int)) × (List (List Int)) × (List Int) × (List Nat) × List Nat) (c:Int) (post:Int × Unit→Prop):Ze Z5g Z4v Tryz.f38.ntmps Tryz.f38.results.toList (Tryz.f38.body.getD .skip) [.ptr Zu,.int .i64] [.snap (.int .i64)] ((some g),c,()) post=Z4r  g c post:=by kernel_rfl
def Zm8 (x:KS [.ptr Zu,.int .i64]) (post:RS [.snap (.int .i64)]→Prop):Prop:=match x with
 | (none,y)=>Z4q  y.1 post
 | (some g,y)=>Z4r  g y.1 post
theorem Zad:Z5f.holds Tryz.prog RbG 38 :=
 detP Zha Z8 Z4v Zk7 (F:=Zm8) (fun x post=>match x with
  | (none,y)=>Zhb y.1 post
  | (some g,y)=>Zhc g y.1 post) fun x h w=>match x,h,w with
  | (none,y),h,w=>Zk3  y.1 w
  | (some g,y),h,w=>Zk4  g y.1 w
end Go.Lift

namespace Go.Lift
def Zb5:=fun (l:List Int) (post:Bool × Unit→Prop)=>HIs [] []∧∃ (I:Int × Int × Unit→Unit→Prop),∃ (μ:Int × Int × Unit→Unit→Nat),I ((0:Int),(0 :
 Int),()) ()∧∀ (x:Int × Int × Unit) (y:Unit),I x y→∀ (a:Bool),a=decide (x.fst<(↑l.length:Int))→Br a (∃ (h:(0:Int)≤x.fst∧x.fst<(↑l.length:Int)),∀
 (a:Bool),a=decide (l.getD x.fst.toNat (0:Int)<(0:Int))→Br a (post (false,())) (∀ (a:Bool),a=decide (l.getD x.fst.toNat (0:Int) > i64.wrap
 ((4503599627370496:Int) - x.snd.fst))→Br a (post (false,())) (HIs [] []∧I (i64.wrap (x.fst+(1:Int)),i64.wrap (x.snd.fst+l.getD x.fst.toNat (0 :
 Int)),()) ()∧μ (i64.wrap (x.fst+(1:Int)),i64.wrap (x.snd.fst+l.getD x.fst.toNat (0:Int)),()) ()<μ x y))) (post (true,()))
theorem Zz6 (l:List Int) (w:KS.wf [.slice (.int .i64)] (l,())):Zb5  l (fun r=>r=Zzu l):=by
 have hl:l.length≤281474976710656:=w.1.1
 refine ⟨rfl,fun x _=>∃ k:Nat,x.1=k∧k≤l.length∧0≤x.2.1∧x.2.1≤4503599627370496∧Z1y x.2.1 (l.drop k)=Z1y 0 l,fun x _=>l.length - x.1.toNat,⟨0,rfl,by omega,by decide,by decide,rfl⟩,?_⟩
 rintro ⟨_,s,⟨⟩⟩ _ ⟨k,rfl,hk,s0,s1,hs⟩
 dsimp only at s0 s1 hs ⊢
 rintro _ rfl
 refine Br.intro (fun d=>?_) fun d=>?_
 rotate_left
 ·have d:k=l.length:=by have d:¬ (k:Int)<l.length:=of_decide_eq_false d; omega
  rw [d,List.drop_length] at hs
  exact congrArg r1 hs
 have d:k<l.length:=by have d:(k:Int)<l.length:=of_decide_eq_true d; omega
 rw [Z1bq d,Zso] at hs
 rw [Int.toNat_natCast,Zt (x:=4503599627370496 - s) (by omega) (by omega),Z2b d (by omega)]
 refine ⟨⟨by omega,by omega⟩,?_⟩
 rintro _ rfl
 refine Br.intro (fun e=>?_) fun e=>?_
 ·have e:at0 l k<0:=of_decide_eq_true e
  rw [if_pos (.inl e)] at hs
  exact congrArg r1 hs
 have e:¬ at0 l k<0:=of_decide_eq_false e
 rintro _ rfl
 refine Br.intro (fun f=>?_) fun f=>?_
 ·have f:at0 l k > 4503599627370496 - s:=of_decide_eq_true f
  rw [if_pos (.inr f)] at hs
  exact congrArg r1 hs
 have f:¬ at0 l k > 4503599627370496 - s:=of_decide_eq_false f
 rw [if_neg (by omega)] at hs
 have ws:i64.wrap (s+l.getD k 0)=s+at0 l k:=Zt (by show _≤s+at0 l k; omega) (by show s+at0 l k<_; omega)
 rw [ws]
 exact ⟨rfl,⟨k+1,rfl,by omega,by omega,by omega,hs⟩,by omega⟩
def Z2g:=fun (l:List Int) (post:List Int × Unit→Prop)=>∀ (a:Bool),(a=true→l.length=(0:Nat))→∀ (a_1:Bool),(a_1=if false
 = true then !a else a)→Br a_1 (post ([],())) (∃ (h:(0:Nat)=(0:Nat)∧((0:Nat)+l.length)*(8:Nat)≤(140737488355328:Nat)),((0:Nat)=(0:Nat)∧(0 :
 Nat)+l.length=([]++l).length)∧post ([]++l,()))
theorem Zae (l:List Int) (h:Zzv l):Z2g  l (fun r=>r=Zli l):=by
 intro a ha a1 h1
 have h1:a1=a:=h1
 subst h1
 refine Br.intro (fun e=>?_) fun e=>?_
 ·have:=List.eq_nil_of_length_eq_zero (ha e)
  subst this; rfl
 ·have hl:l.length≤65536:=h
  exact ⟨⟨by trivial,by omega⟩,⟨by trivial,by rw [List.nil_append]; omega⟩,by rw [List.nil_append]; rfl⟩
def Z7v:=fun (bed:List Nat) (c:Int) (post:Int × Unit→Prop)=>post ((-1:Int),())
theorem Ztz (bed:List Nat) (c:Int) (h:Z4o none bed c) (w:KS.wf [.ptr Zu,.slice (.flt .f64),.int .i64] (none,bed,c,())):Z7v  bed c (fun r=>r=Z26 none bed c):=by
 exact rfl
def Z7w:=fun (g:Int × List (Int × Int × Int × Int) × List ((Int × Int) × Int) × List (List Int) × List Int × List Nat × List Nat) (bed:List Nat) (c:Int) (post :
 Int × Unit→Prop)=>∃ (h:True),∀ (a:Bool),a=((↑bed.length:Int) != (Za (some g)).fst)→Br a (post ((-1:Int),())) (∀ (a:Bool),a=decide (c<(0 :
 Int))→Br a (post ((-1:Int),())) (∀ (a:Bool),a=decide (c≥(↑bed.length:Int))→Br a (post ((-1:Int),())) (HIs [] []∧∃ (I:Int × Int × Unit→Unit→Prop),∃ (μ :
 Int × Int × Unit→Unit→Nat),I ((0:Int),(-1:Int),()) ()∧∀ (x:Int × Int × Unit) (y:Unit),I x y→∀ (a:Bool),a=decide (x.fst<(4:Int))→Br a (∃ (h:WNet
 (some g) c x.fst),∀ (a:Int × Int × Unit),a=Z6q (some g) c x.fst→∃ (h:Zc0 (some g) a.fst),∀ (a_1:Bool),a_1=decide (x.snd.fst≥(0 :
 Int))→Br a_1 (∃ (h:(0:Int)≤i64.wrap (i64.wrap ((Z1g (some g) a.fst).fst.fst+(Z1g (some g) a.fst).fst.snd.snd.fst) - c) ∧
 i64.wrap (i64.wrap ((Z1g (some g) a.fst).fst.fst+(Z1g (some g) a.fst).fst.snd.snd.fst) - c)<(↑bed.length:Int)),∃ (h:(0:Int) ≤
 x.snd.fst∧x.snd.fst<(↑bed.length:Int)),∃ (h:W2 (bed.getD (i64.wrap (i64.wrap ((Z1g (some g) a.fst).fst.fst+(Z1g (some g)
 a.fst).fst.snd.snd.fst) - c)).toNat (0:Nat)) (bed.getD x.snd.fst.toNat (0:Nat))),∀ (a_2:Int × Unit),a_2=Z5u (bed.getD (i64.wrap (i64.wrap ((Z1g
 (some g) a.fst).fst.fst+(Z1g (some g) a.fst).fst.snd.snd.fst) - c)).toNat (0:Nat)) (bed.getD x.snd.fst.toNat (0:Nat))→∀ (a_3:Bool),a_3=decide
 (a_2.fst > (0:Int))→Br a_3 (HIs [] []∧I (i64.wrap (x.fst+(1:Int)),x.snd.fst,()) ()∧μ (i64.wrap (x.fst+(1:Int)),x.snd.fst,()) ()<μ x y) (∀
 (a_4:Bool),a_4=(a_2.fst==(0:Int))→Br a_4 (∀ (a_5:Bool),a_5=decide (i64.wrap (i64.wrap ((Z1g (some g) a.fst).fst.fst+(Z1g
 (some g) a.fst).fst.snd.snd.fst) - c) > x.snd.fst)→Br a_5 (HIs [] []∧I (i64.wrap (x.fst+(1:Int)),x.snd.fst,()) ()∧μ (i64.wrap (x.fst+(1 :
 Int)),x.snd.fst,()) ()<μ x y) (HIs [] []∧I (i64.wrap (x.fst+(1:Int)),i64.wrap (i64.wrap ((Z1g (some g) a.fst).fst.fst+(Z1g
 (some g) a.fst).fst.snd.snd.fst) - c),()) ()∧μ (i64.wrap (x.fst+(1:Int)),i64.wrap (i64.wrap ((Z1g (some g) a.fst).fst.fst +
 (Z1g (some g) a.fst).fst.snd.snd.fst) - c),()) ()<μ x y)) (HIs [] []∧I (i64.wrap (x.fst+(1:Int)),i64.wrap (i64.wrap ((Z1g
 (some g) a.fst).fst.fst+(Z1g (some g) a.fst).fst.snd.snd.fst) - c),()) ()∧μ (i64.wrap (x.fst+(1:Int)),i64.wrap (i64.wrap
 ((Z1g (some g) a.fst).fst.fst+(Z1g (some g) a.fst).fst.snd.snd.fst) - c),()) ()<μ x y))) (HIs [] []∧I (i64.wrap (x.fst+(1:Int)),
 i64.wrap (i64.wrap ((Z1g (some g) a.fst).fst.fst+(Z1g (some g) a.fst).fst.snd.snd.fst) - c),()) ()∧μ (i64.wrap (x.fst+(1 :
 Int)),i64.wrap (i64.wrap ((Z1g (some g) a.fst).fst.fst+(Z1g (some g) a.fst).fst.snd.snd.fst) - c),()) ()<μ x y)) (∃ (h:(0:Int) ≤
 x.snd.fst∧x.snd.fst<(↑bed.length:Int)),∃ (h:(0:Int)≤c∧c<(↑bed.length:Int)),∃ (h:W2 (bed.getD x.snd.fst.toNat (0:Nat)) (bed.getD c.toNat (0:Nat))),∀ (a :
 Int × Unit),a=Z5u (bed.getD x.snd.fst.toNat (0:Nat)) (bed.getD c.toNat (0:Nat))→∀ (a_1:Bool),a_1=decide (a.fst≥(0:Int))→Br a_1 (post ((-1:Int),()))
 (post (x.snd.fst,()))))))
theorem Zu0 (g:Int × (List (Int × Int × Int × Int)) × (List ((Int × Int) × Int)) × (List (List Int)) × (List Int) × (List Nat) × List Nat) (bed:List Nat) (c:Int) (h:Z4o (some g) bed c) (w:KS.wf [.ptr Zu,.slice (.flt .f64),.int .i64] ((some g),bed,c,())):Z7w  g bed c (fun r=>r=Z26 (some g) bed c):=by
 obtain ⟨hg,hw⟩:=h
 obtain ⟨n,gn,rfl⟩:=Zxp hg
 have hC:(Za (some (netG n))).1=Zc n:=Z3c n
 have hR:Z26 (some (netG n)) bed c=r1 (Z1t true (Zc n) n bed c):=by unfold Z26; rw [Z3c]; rfl
 have cr:=Z77 n
 refine ⟨trivial,?_⟩
 rw [hC,hR]
 rintro _ rfl
 refine Br.intro (fun e=>congrArg r1 (Za7 (.inl (bne_iff_ne.1 e))).symm) fun e=>?_
 have e1:(bed.length:Int)=Zc n:=by simpa using e
 rintro _ rfl
 refine Br.intro (fun e=>congrArg r1 (Za7 (.inr (.inl (of_decide_eq_true e)))).symm) fun e=>?_
 have e2:=of_decide_eq_false e
 rintro _ rfl
 refine Br.intro (fun e=>congrArg r1 (Za7 (.inr (.inr (of_decide_eq_true e)))).symm) fun e=>?_
 have e3:=of_decide_eq_false e
 rw [Zij e1 (by omega) (by omega)]
 have hp:Zh n c=true:=by
  obtain ⟨k,rfl⟩:∃ k:Nat,c=k:=⟨c.toNat,by omega⟩
  exact Zep (by omega)
 refine ⟨rfl,fun x _=>∃ k:Nat,x.1=k∧k≤4∧x.2.1=Z13 n bed c k,fun x _=>4 - x.1.toNat,⟨0,rfl,by omega,rfl⟩,?_⟩
 rintro ⟨_,_,⟨⟩⟩ _ ⟨k,rfl,hk,rfl⟩
 dsimp only
 have wg:∀ i:Int,0≤i→i<(bed.length:Int)→W64 (bed.getD i.toNat 0):=fun i h1 h2=>hw _ (Z4a (by omega) 0)
 rintro _ rfl
 refine Br.intro (fun d=>?_) fun d=>?_
 rotate_left
 ·have d:k=4:=by have d:¬ (k:Int)<4:=of_decide_eq_false d; omega
  subst d
  obtain ⟨b1,b2⟩:=Z15x (bed:=bed) hp
  refine ⟨⟨by omega,by omega⟩,⟨by omega,by omega⟩,⟨wg _ (by omega) (by omega),wg _ (by omega) (by omega)⟩,?_⟩
  rintro _ rfl
  rintro _ rfl
  refine Br.intro (fun q=>?_) fun q=>?_
  ·have q:¬ Zp bed (Z13 n bed c 4)<Zp bed c:=fun w=>absurd (of_decide_eq_true q) (by
    have:(Z5u (bed.getD (Z13 n bed c 4).toNat 0) (bed.getD c.toNat 0)).fst<0:=Zv6.2 w
    omega)
   show ((-1:Int),())=(Z5v n bed c,())
   unfold Z5v
   rw [if_neg q]
  ·have q:Zp bed (Z13 n bed c 4)<Zp bed c:=Zv6.1 (by
    have:¬ (Z5u (bed.getD (Z13 n bed c 4).toNat 0) (bed.getD c.toNat 0)).fst≥0:=of_decide_eq_false q
    show (Z5u (bed.getD (Z13 n bed c 4).toNat 0) (bed.getD c.toNat 0)).fst<0
    omega)
   show (Z13 n bed c 4,())=(Z5v n bed c,())
   unfold Z5v
   rw [if_pos q]
 have d:k<4:=by have d:(k:Int)<4:=of_decide_eq_true d; omega
 obtain ⟨f1,f2,f3,f4⟩:=Z9e (bed:=bed) hp k hk
 obtain ⟨t1,t2⟩:=Z5d hp d
 have hs:Z13 n bed c (k+1)=Zig bed (Z13 n bed c k) (Z3 n c k).1:=rfl
 have wk:i64.wrap ((k:Int)+1)=((k+1:Nat):Int):=Z2b d (by omega)
 have ok:Zr n c (k:Int)=true:=Z19.2 ⟨hp,by omega,by omega⟩
 obtain ⟨q,hq,ha,ht⟩:=Z1bs ok
 have hE:=(Zv3 n (Zc n).toNat (by omega)).2
 have hE:(netE n).1.length≤4*(Zc n).toNat:=hE
 have et:i64.wrap (i64.wrap ((Z6m (some (netG n)) q).1+(Z6m (some (netG n)) q).2.2.1) - c)=(Z3 n c k).1:=by
  rw [ht,Zt (x:=c+(Z3 n c k).1) (by omega) (by omega),Zt (by omega) (by omega)]; omega
 refine ⟨⟨hg,⟨by omega,by omega⟩,by omega,by omega⟩,?_⟩
 rintro _ rfl
 have hA:(Z6q (some (netG n)) c k).fst=q:=ha
 have hEd:(Z1g (some (netG n)) q).fst=Z6m (some (netG n)) q:=rfl
 rw [hA,hEd,et,wk]
 refine ⟨⟨hg,by omega,by omega⟩,?_⟩
 have nskip:Z13 n bed c (k+1)=Z13 n bed c k→HIs [] []∧(∃ j:Nat,((k+1:Nat):Int)=j∧j≤4∧Z13 n bed c k=Z13 n bed c j)∧4 - (((k+1:Nat):Int)).toNat<4 - ((k:Nat):Int).toNat:=fun h=>⟨rfl,⟨k+1,rfl,by omega,h.symm⟩,by omega⟩
 have ntake:Z13 n bed c (k+1)=(Z3 n c k).1→HIs [] []∧(∃ j:Nat,((k+1:Nat):Int)=j∧j≤4∧(Z3 n c k).1=Z13 n bed c j)∧4 - (((k+1:Nat):Int)).toNat<4 - ((k:Nat):Int).toNat:=fun h=>⟨rfl,⟨k+1,rfl,by omega,h.symm⟩,by omega⟩
 rintro _ rfl
 refine Br.intro (fun f=>?_) fun f=>ntake (by rw [hs]; exact Zc3 (.inl (by have:=of_decide_eq_false f; omega)))
 have f:=of_decide_eq_true f
 refine ⟨⟨t1,by omega⟩,⟨by omega,by omega⟩,⟨wg _ t1 (by omega),wg _ (by omega) (by omega)⟩,?_⟩
 rintro _ rfl
 have hcm:(Z5u (bed.getD (Z3 n c k).1.toNat 0) (bed.getD (Z13 n bed c k).toNat 0)).fst=cmpI (Zp bed (Z3 n c k).1) (Zp bed (Z13 n bed c k)):=rfl
 rw [hcm]
 rintro _ rfl
 refine Br.intro (fun g1=>nskip (by rw [hs]; exact Zii (by omega) (.inl (Z145.1 (of_decide_eq_true g1))))) fun g1=>?_
 have g1:¬ Zp bed (Z3 n c k).1 > Zp bed (Z13 n bed c k):=fun w=>of_decide_eq_false g1 (Z145.2 w)
 rintro _ rfl
 refine Br.intro (fun g2=>?_) fun g2=>ntake (by
  rw [hs]
  have g2:¬ cmpI (Zp bed (Z3 n c k).1) (Zp bed (Z13 n bed c k))=0:=by simpa using g2
  rw [Z146] at g2
  exact Zc3 (.inr (.inl (by omega))))
 have g2:Zp bed (Z3 n c k).1=Zp bed (Z13 n bed c k):=Z146.1 (by simpa using g2)
 rintro _ rfl
 exact Br.intro (fun g3=>nskip (by rw [hs]; exact Zii (by omega) (.inr ⟨g2,by have:=of_decide_eq_true g3; omega⟩))) fun g3=>ntake (by rw [hs]; exact Zc3 (.inr (.inr ⟨g2,by have:=of_decide_eq_false g3; omega⟩)))
def Z6v:=fun (a b:List Int) (post:Bool × Unit→Prop)=>∀ (a_1:Bool),a_1=((↑a.length:Int) != (↑b.length:Int))→Br a_1 (post (false,())) (HIs []
 []∧∃ (I:Int × Unit→Unit→Prop),∃ (μ:Int × Unit→Unit→Nat),I ((0:Int),()) ()∧∀ (x:Int × Unit) (y:Unit),I x y→∀ (a_2:Bool),a_2=decide (x.fst <
 (↑a.length:Int))→Br a_2 (∃ (h:(0:Int)≤x.fst∧x.fst<(↑a.length:Int)),∃ (h:(0:Int)≤x.fst∧x.fst<(↑b.length:Int)),∀ (a_3:Bool),a_3=(a.getD
 x.fst.toNat (0:Int) != b.getD x.fst.toNat (0:Int))→Br a_3 (post (false,())) (HIs [] []∧I (i64.wrap (x.fst+(1:Int)),()) ()∧μ (i64.wrap (x.fst +
 (1:Int)),()) ()<μ x y)) (post (true,())))
theorem Zqc (a:List Int) (b:List Int) (w:KS.wf [.slice (.int .i64),.slice (.int .i64)] (a,b,())):Z6v  a b (fun r=>r=Z15q a b):=by
 have ha:a.length≤maxN:=w.1.1
 have hm:maxN≤9223372036854775807:=by decide
 rintro _ rfl
 refine Br.intro (fun e=>congrArg r1 ?_) fun e=>?_
 ·have e:¬ a.length=b.length:=fun q=>by rw [q] at e; simp at e
  exact (beq_eq_false_iff_ne.2 fun q=>e (congrArg List.length q)).symm
 have e:a.length=b.length:=by
  have:((a.length:Int)==(b.length:Int))=true:=by
   have e:(!((a.length:Int)==(b.length:Int)))=false:=e
   simpa using e
  have:=beq_iff_eq.1 this
  omega
 refine ⟨rfl,fun x _=>∃ k:Nat,x.1=k∧k≤a.length∧a.take k=b.take k,fun x _=>a.length - x.1.toNat,⟨0,rfl,by omega,rfl⟩,?_⟩
 rintro ⟨_,⟨⟩⟩ _ ⟨k,rfl,hk,hq⟩
 dsimp only
 rintro _ rfl
 refine Br.intro (fun e1=>?_) fun e1=>?_
 ·have e1:k<a.length:=by have:=of_decide_eq_true e1; omega
  rw [Int.toNat_natCast,Z2b e1 (by omega)]
  have ta:=Zlf e1 0
  have tb:=Zlf (l:=b) (i:=k) (by omega) 0
  refine ⟨⟨by omega,by omega⟩,⟨by omega,by omega⟩,?_⟩
  rintro _ rfl
  refine Br.intro (fun e2=>congrArg r1 ?_) fun e2=>?_
  ·have e2:¬ a.getD k 0=b.getD k 0:=bne_iff_ne.1 e2
   refine (beq_eq_false_iff_ne.2 fun q=>e2 ?_).symm
   rw [q]
  ·have e2:a.getD k 0=b.getD k 0:=by
    have e2:(!(a.getD k 0==b.getD k 0))=false:=e2
    simpa using e2
   exact ⟨rfl,⟨k+1,rfl,by omega,by rw [ta,tb,hq,e2]⟩,by omega⟩
 ·have e1:k=a.length:=by have:=of_decide_eq_false e1; omega
  subst e1
  refine congrArg r1 (beq_iff_eq.2 ?_).symm
  rw [List.take_length] at hq
  rw [hq,e,List.take_length]
end Go.Lift

namespace Go.Lift
end Go.Lift

namespace Go.Lift
end Go.Lift

namespace Go.Lift
open Go.Proofs
end Go.Lift

namespace Go.Lift
end Go.Lift

namespace Go.Lift
open Go.Proofs
end Go.Lift

namespace Go.Lift
open Go.Proofs
end Go.Lift

namespace Go.Lift
end Go.Lift

namespace Go.Lift
end Go.Lift

namespace Go.Lift
end Go.Lift

namespace Go.Lift
open Go.Proofs
end Go.Lift

namespace Go.Lift
open Go.Proofs
end Go.Lift

namespace Go.Lift
open Ieee
end Go.Lift

namespace Go.Lift
end Go.Lift

namespace Go.Lift
end Go.Lift

namespace Go.Lift
open Go.Proofs
end Go.Lift

namespace Go.Lift
open Go.Proofs
end Go.Lift

namespace Go.Lift
open Go.Proofs
end Go.Lift

namespace Go.Lift
def Z67:=fun (e:Int) (post:Bool × Unit→Prop)=>post (false,())
theorem Zo7 (e:Int) (h:Zc0 none e) (w:KS.wf [.ptr Zu,.int .i64] (none,e,())):Z67  e (fun r=>r=nIsR none e):=by
 exact rfl
def Z68:=fun (g:Int × List (Int × Int × Int × Int) × List ((Int × Int) × Int) × List (List Int) × List Int × List Nat × List Nat) (e:Int) (post:Bool × Unit →
 Prop)=>∀ (a:Bool),a=decide (e≥(0:Int))→Br a (∃ (h:some g≠none),∀ (a:Bool),a=decide (e<(↑g.snd.fst.length:Int))→post (a,())) (post
 (false,()))
theorem Zo8 (g:Int × (List (Int × Int × Int × Int)) × (List ((Int × Int) × Int)) × (List (List Int)) × (List Int) × (List Nat) × List Nat) (e:Int) (h:Zc0 (some g) e) (w:KS.wf [.ptr Zu,.int .i64] ((some g),e,())):Z68  g e (fun r=>r=nIsR (some g) e):=by
 rintro _ rfl
 refine Br.intro (fun e1=>?_) fun e1=>?_
 ·refine ⟨by simp,?_⟩
  rintro _ rfl
  show _=(decide (0≤e)&&decide (e<(g.2.1.length:Nat)),())
  rw [decide_eq_true (p:=0≤e) (of_decide_eq_true e1)]; rfl
 ·show _=(decide (0≤e)&&decide (e<(g.2.1.length:Nat)),())
  rw [decide_eq_false (p:=0≤e) (of_decide_eq_false e1)]; rfl
def Z4w:=fun (e:Int) (post:(Int × Int × Int × Int) × Bool × Unit→Prop)=>∃ (h:Zc0 none e),∀ (a:Bool),a=(nIsR none e).fst→Br (!a)
 (post (((0:Int),(0:Int),(0:Int),(0:Int)),false,())) (∃ (h:(none:Option (Int × (List (Int × Int × Int × Int)) × (List ((Int × Int) × Int)) × (List
 (List Int)) × (List Int) × (List Nat) × List Nat))≠none),False)
theorem Zk8 (e:Int) (h:Zc0 none e) (w:KS.wf [.ptr Zu,.int .i64] (none,e,())):Z4w  e (fun r=>r=Z1g none e):=by
 refine ⟨h,?_⟩
 rintro _ rfl
 exact Br.intro (fun _=>rfl) fun q=>by cases q
def Z4x:=fun (g:Int × List (Int × Int × Int × Int) × List ((Int × Int) × Int) × List (List Int) × List Int × List Nat × List Nat) (e:Int) (post:(Int × Int ×
 Int × Int) × Bool × Unit→Prop)=>∃ (h:Zc0 (some g) e),∀ (a:Bool),a=(nIsR (some g) e).fst→Br (!a) (post (((0:Int),(0:Int),(0:Int),(0:Int)),
 false,())) (∃ (h:some g≠none),∃ (h:(0:Int)≤e∧e<(↑g.snd.fst.length:Int)),post (((g.snd.fst.getD e.toNat ((K.int i64).pair ((K.int
 i64).pair ((K.int i64).pair (K.int i64)))).dflt).fst,(g.snd.fst.getD e.toNat ((K.int i64).pair ((K.int i64).pair ((K.int i64).pair
 (K.int i64)))).dflt).snd.fst,(g.snd.fst.getD e.toNat ((K.int i64).pair ((K.int i64).pair ((K.int i64).pair (K.int
 i64)))).dflt).snd.snd.fst,(g.snd.fst.getD e.toNat ((K.int i64).pair ((K.int i64).pair ((K.int i64).pair (K.int i64)))).dflt).snd.snd.snd),
 true,()))
theorem Zk9 (g:Int × (List (Int × Int × Int × Int)) × (List ((Int × Int) × Int)) × (List (List Int)) × (List Int) × (List Nat) × List Nat) (e:Int) (h:Zc0 (some g) e) (w:KS.wf [.ptr Zu,.int .i64] ((some g),e,())):Z4x  g e (fun r=>r=Z1g (some g) e):=by
 refine ⟨h,?_⟩
 rintro _ rfl
 have hi:(nIsR (some g) e).1=(decide (0≤e)&&decide (e<(g.2.1.length:Nat))):=rfl
 refine Br.intro (fun q=>?_) fun q=>?_
 ·have q:(nIsR (some g) e).1=false:=by simpa using q
  have hn:¬ (0≤e∧e<(g.2.1.length:Nat)):=fun z=>by rw [hi,decide_eq_true z.1,decide_eq_true z.2] at q; cases q
  show _=(Z6m (some g) e,nIs (some g) e,())
  have q2:nIs (some g) e=false:=q
  unfold Z6m
  dsimp only
  rw [q2,if_neg hn]; rfl
 ·have q:(nIsR (some g) e).1=true:=by simpa using q
  have hy:0≤e∧e<(g.2.1.length:Nat):=by
   rw [hi] at q
   simpa using q
  refine ⟨by simp,hy,?_⟩
  show _=(Z6m (some g) e,nIs (some g) e,())
  have q2:nIs (some g) e=true:=q
  unfold Z6m
  dsimp only
  rw [q2,if_pos hy]; rfl
def Z3u:=fun (c o:Int) (post:Int × Int × Unit→Prop)=>post ((0:Int),(0:Int),())
theorem Zhd (c:Int) (o:Int) (h:WNet none c o) (w:KS.wf [.ptr Zu,.int .i64,.int .i64] (none,c,o,())):Z3u  c o (fun r=>r=Z6q none c o):=by
 exact rfl
def Z3v:=fun (g:Int × List (Int × Int × Int × Int) × List ((Int × Int) × Int) × List (List Int) × List Int × List Nat × List Nat) (c o:Int) (post:Int × Int
 × Unit→Prop)=>∃ (h:some g≠none),Br (!(mget (c,o) g.snd.snd.fst).isSome) (post ((0:Int),(0:Int),())) (∃ (h:some g≠none),∃ (h:(0 :
 Int)≤(mget (c,o) g.snd.snd.fst).getD (0:Int)∧(mget (c,o) g.snd.snd.fst).getD (0:Int)<(↑g.snd.fst.length:Int)),∀ (a:Bool),a=((g.snd.fst.getD ((mget (c,o)
 g.snd.snd.fst).getD (0:Int)).toNat ((K.int i64).pair ((K.int i64).pair ((K.int i64).pair (K.int i64)))).dflt).fst==c)→Br a (post ((mget (c,
 o) g.snd.snd.fst).getD (0:Int),(1:Int),())) (post ((mget (c,o) g.snd.snd.fst).getD (0:Int),(-1:Int),())))
theorem Zhe (g:Int × (List (Int × Int × Int × Int)) × (List ((Int × Int) × Int)) × (List (List Int)) × (List Int) × (List Nat) × List Nat) (c:Int) (o:Int) (h:WNet (some g) c o) (w:KS.wf [.ptr Zu,.int .i64,.int .i64] ((some g),c,o,())):Z3v  g c o (fun r=>r=Z6q (some g) c o):=by
 obtain ⟨hg,hc,ho⟩:=h
 obtain ⟨n,gn,hgn⟩:∃ n,Z1j n=true∧g=netG n:=by
  rcases hg with hg | ⟨n,gn,hg⟩
  ·cases hg
  ·exact ⟨n,gn,Option.some.inj hg⟩
 subst hgn
 refine ⟨by simp,?_⟩
 have hr:Z6q (some (netG n)) c o=match mget (c,o) (netE n).2 with
   | none=>((0:Int),(0:Int),())
   | some e=>if ((netE n).1.getD e.toNat dEd).1=c then (e,(1:Int),()) else (e,(-1:Int),()):=by
  unfold Z6q Z8i netG
  dsimp only
  cases mget (c,o) (netE n).2 with
  | none=>rfl
  | some e=>dsimp only; split <;> rfl
 rw [hr]
 by_cases ok:Zr n c o=true
 ·obtain ⟨k,hk,k1,_,_⟩:=Z119 ok
  have k1':mget (c,o) (netG n).2.2.1=some (k:Int):=k1
  rw [k1',k1]
  refine Br.intro (fun q=>by cases q) fun _=>?_
  refine ⟨by simp,⟨by show (0:Int)≤k; omega,by show (k:Int)<((netE n).1.length:Nat); omega⟩,?_⟩
  intro a ha
  have ha:a=decide (((netE n).1.getD (k:Int).toNat dEd).1=c):=ha
  rw [ha]
  dsimp only
  refine Br.intro (fun q=>?_) fun q=>?_
  ·rw [if_pos (of_decide_eq_true q)]; rfl
  ·rw [if_neg (of_decide_eq_false q)]; rfl
 ·have k1:=Z1a2 ok
  have k1':mget (c,o) (netG n).2.2.1=none:=k1
  rw [k1',k1]
  exact Br.intro (fun _=>rfl) fun q=>by cases q
end Go.Lift

namespace Go.Lift
open Go.Proofs
def Zds:Con:=.det [.ptr Zu,.int .i64] [.snap .bool] (fun x=>Zc0 x.1 x.2.1) (fun x=>nIsR x.1 x.2.1)
def Z69:Hn:=nHn
def Z6w:Cx:=⟨Zk Zn,Zm [],RbG⟩
theorem Zka:CxOk Tryz.prog Z6w:=⟨Z4 Z7,fun f c h=>by cases h⟩
theorem Zo9:FnAt Tryz.prog 113 Tryz.f113.ntmps Tryz.f113.results.toList (Tryz.f113.body.getD .skip):=⟨Tryz.f113,Tryz.func113,rfl,rfl,by simp,by decide⟩
theorem Zkb (e:Int) (post:Bool × Unit→Prop):Ze Z6w Z69 Tryz.f113.ntmps Tryz.f113.results.toList (Tryz.f113.body.getD .skip) [.ptr Zu,.int .i64] [.snap .bool] (none,e,()) post=Z67  e post:=by kernel_rfl
theorem Zkc (g:Int × (List (Int × Int × Int × Int)) × (List ((Int × Int) × Int)) × (List (List Int)) × (List Int) × (List Nat) × List Nat) (e:Int) (post:Bool × Unit→Prop):Ze Z6w Z69 Tryz.f113.ntmps Tryz.f113.results.toList (Tryz.f113.body.getD .skip) [.ptr Zu,.int .i64] [.snap .bool] ((some g),e,()) post=Z68  g e post:=by kernel_rfl
def Zqd (x:KS [.ptr Zu,.int .i64]) (post:RS [.snap .bool]→Prop):Prop:=match x with
 | (none,y)=>Z67  y.1 post
 | (some g,y)=>Z68  g y.1 post
theorem Zqe:Zds.holds Tryz.prog RbG 113 :=
 detP Zka Z8 Z69 Zo9 (F:=Zqd) (fun x post=>match x with
  | (none,y)=>Zkb y.1 post
  | (some g,y)=>Zkc g y.1 post) fun x h w=>match x,h,w with
  | (none,y),h,w=>Zo7  y.1 h w
  | (some g,y),h,w=>Zo8  g y.1 h w
def Zaf:Con:=.det [.ptr Zu,.int .i64] [.snap Z1x,.snap .bool] (fun x=>Zc0 x.1 x.2.1) (fun x=>Z1g x.1 x.2.1)
def Z4y:Hn:=nHn
def Z5h:Cx:=⟨Zk Zn,Zm [(113,Zds)],RbG⟩
theorem Zhf:CxOk Tryz.prog Z5h:=⟨Z4 Z7,Z9 ⟨Zqe,trivial⟩⟩
theorem Zkd:FnAt Tryz.prog 75 Tryz.f75.ntmps Tryz.f75.results.toList (Tryz.f75.body.getD .skip):=⟨Tryz.f75,Tryz.func75,rfl,rfl,by simp,by decide⟩
theorem Zhg (e:Int) (post:(Int × Int × Int × Int) × Bool × Unit→Prop):Ze Z5h Z4y Tryz.f75.ntmps Tryz.f75.results.toList (Tryz.f75.body.getD .skip) [.ptr Zu,.int .i64] [.snap Z1x,.snap .bool] (none,e,()) post=Z4w  e post:=by kernel_rfl
theorem Zhh (g:Int × (List (Int × Int × Int × Int)) × (List ((Int × Int) × Int)) × (List (List Int)) × (List Int) × (List Nat) × List Nat) (e:Int) (post:(Int × Int × Int × Int) × Bool × Unit→Prop):Ze Z5h Z4y Tryz.f75.ntmps Tryz.f75.results.toList (Tryz.f75.body.getD .skip) [.ptr Zu,.int .i64] [.snap Z1x,.snap .bool] ((some g),e,()) post=Z4x  g e post:=by kernel_rfl
def Zm9 (x:KS [.ptr Zu,.int .i64]) (post:RS [.snap Z1x,.snap .bool]→Prop):Prop:=match x with
 | (none,y)=>Z4w  y.1 post
 | (some g,y)=>Z4x  g y.1 post
theorem Zma:Zaf.holds Tryz.prog RbG 75 :=
 detP Zhf Z8 Z4y Zkd (F:=Zm9) (fun x post=>match x with
  | (none,y)=>Zhg y.1 post
  | (some g,y)=>Zhh g y.1 post) fun x h w=>match x,h,w with
  | (none,y),h,w=>Zk8  y.1 h w
  | (some g,y),h,w=>Zk9  g y.1 h w
def Z7x:Con:=Con.nam [.ptr Zu,.int .i64,.int .i64] [.snap (.int .i64),.snap (.int .i64)] (fun x=>WNet x.1 x.2.1 x.2.2.1) (fun x=>Z6q x.1 x.2.1 x.2.2.1)
def Z3w:Hn:=nHn
def Z4h:Cx:=⟨Zk Zn,Zm [],RbG⟩
theorem Ze2:CxOk Tryz.prog Z4h:=⟨Z4 Z7,fun f c h=>by cases h⟩
theorem Zhi:FnAt Tryz.prog 46 Tryz.f46.ntmps Tryz.f46.results.toList (Tryz.f46.body.getD .skip):=⟨Tryz.f46,Tryz.func46,rfl,rfl,by simp,by decide⟩
theorem Ze3 (c:Int) (o:Int) (post:Int × Int × Unit→Prop):Ze Z4h Z3w Tryz.f46.ntmps Tryz.f46.results.toList (Tryz.f46.body.getD .skip) [.ptr Zu,.int .i64,.int .i64] [.snap (.int .i64),.snap (.int .i64)] (none,c,o,()) post=Z3u  c o post:=by kernel_rfl
theorem Ze4 (g:Int × (List (Int × Int × Int × Int)) × (List ((Int × Int) × Int)) × (List (List Int)) × (List Int) × (List Nat) × List Nat) (c:Int) (o:Int) (post:Int × Int × Unit→Prop):Ze Z4h Z3w Tryz.f46.ntmps Tryz.f46.results.toList (Tryz.f46.body.getD .skip) [.ptr Zu,.int .i64,.int .i64] [.snap (.int .i64),.snap (.int .i64)] ((some g),c,o,()) post=Z3v  g c o post:=by kernel_rfl
def Ziy (x:KS [.ptr Zu,.int .i64,.int .i64]) (post:RS [.snap (.int .i64),.snap (.int .i64)]→Prop):Prop:=match x with
 | (none,y)=>Z3u  y.1 y.2.1 post
 | (some g,y)=>Z3v  g y.1 y.2.1 post
theorem Ziz:Z7x.holds Tryz.prog RbG 46 :=
 Zx (detP Ze2 Z8 Z3w Zhi (F:=Ziy) (fun x post=>match x with
  | (none,y)=>Ze3 y.1 y.2.1 post
  | (some g,y)=>Ze4 g y.1 y.2.1 post) fun x h w=>match x,h,w with
  | (none,y),h,w=>Zhd  y.1 y.2.1 h w
  | (some g,y),h,w=>Zhe  g y.1 y.2.1 h w)
end Go.Lift

namespace Go.Lift
def Z6x:=fun (a b:Nat) (post:Int × Unit→Prop)=>∃ (h:True),∃ (h:True),∃ (h:W2 (Zg a).fst (Zg b).fst),post ((ordR (Zg a).fst (Zg
 b).fst).fst,())
theorem Zqf (a:Nat) (b:Nat) (h:W2 a b):Z6x  a b (fun r=>r=Z5u a b):=by
 exact ⟨trivial,trivial,⟨Z3d h.1,Z3d h.2⟩,rfl⟩
def Zb6:=fun (a b:Nat) (post:Bool × Unit→Prop)=>∃ (h:True),∃ (h:True),∃ (h:W2 (Zg a).fst (Zg b).fst),∀ (a_1:Bool),a_1=decide ((ordR (Zg
 a).fst (Zg b).fst).fst<(0:Int))→post (a_1,())
theorem Zz7 (a:Nat) (b:Nat) (h:W2 a b):Zb6  a b (fun r=>r=Za5 a b):=by
 refine ⟨by first | trivial | exact h.1,by first | trivial | exact h.2,⟨Z3d h.1,Z3d h.2⟩,?_⟩
 rintro _ rfl
 rfl
def Z4z:=fun (x y:Int) (post:Int × Unit→Prop)=>False
theorem Zke (x:Int) (y:Int) (h:WCmp x y none):Z4z  x y (fun r=>r=Z7n x y none):=by
 obtain ⟨_,e,_⟩:=h
 cases e
def Z50:=fun (x y:Int) (p:List Nat) (post:Int × Unit→Prop)=>∃ (h:(0:Int)≤y∧y<(↑p.length:Int)),∃ (h:(0:Int)≤x∧x<(↑p.length:Int)),
 ∃ (h:W2 (p.getD y.toNat (0:Nat)) (p.getD x.toNat (0:Nat))),∀ (a:Int × Unit),a=Z5u (p.getD y.toNat (0:Nat)) (p.getD x.toNat (0:Nat))→post (a.fst,())
theorem Zkf (x:Int) (y:Int) (p:List Nat) (h:WCmp x y (some p)):Z50  x y p (fun r=>r=Z7n x y (some p)):=by
 obtain ⟨bed,e,hx,hy,hw⟩:=h
 cases e
 refine ⟨hy,hx,⟨hw _ (Z4a (by omega) 0),hw _ (Z4a (by omega) 0)⟩,?_⟩
 rintro _ rfl
 rfl
end Go.Lift

namespace Go.Lift
open Go.Proofs
def Z6a:Con:=Con.nam [.flt .f64,.flt .f64] [.snap (.int .i64)] (fun x=>W2 x.1 x.2.1) (fun x=>Z5u x.1 x.2.1)
def Zbi:Cx:=⟨Zk Zn,Zm [(88,Z2w),(87,Z60)],RbG⟩
theorem Zj0:CxOk Tryz.prog Zbi:=⟨Z4 Z7,Z9 ⟨Z3t,Z8s,trivial⟩⟩
theorem Zmb:FnAt Tryz.prog 73 Tryz.f73.ntmps Tryz.f73.results.toList (Tryz.f73.body.getD .skip):=⟨Tryz.f73,Tryz.func73,rfl,rfl,by simp,by decide⟩
theorem Zmc (a:Nat) (b:Nat) (post:Int × Unit→Prop):Ze Zbi nHn Tryz.f73.ntmps Tryz.f73.results.toList (Tryz.f73.body.getD .skip) [.flt .f64,.flt .f64] [.snap (.int .i64)] (a,b,()) post=Z6x  a b post:=by kernel_rfl
theorem Zbj:Z6a.holds Tryz.prog RbG 73 :=
 Zx (detP Zj0 Z8 nHn Zmb (F:=fun x post=>Z6x  x.1 x.2.1 post) (fun x post=>Zmc x.1 x.2.1 post) fun x h _=>Zqf  x.1 x.2.1 h)
def Zhj:Con:=Con.nam [.flt .f64,.flt .f64] [.snap .bool] (fun x=>W2 x.1 x.2.1) (fun x=>Za5 x.1 x.2.1)
def Zhk:Cx:=⟨Zk Zn,Zm [(88,Z2w),(87,Z60)],RbG⟩
theorem Zoa:CxOk Tryz.prog Zhk:=⟨Z4 Z7,Z9 ⟨Z3t,Z8s,trivial⟩⟩
theorem Zu1:FnAt Tryz.prog 36 Tryz.f36.ntmps Tryz.f36.results.toList (Tryz.f36.body.getD .skip):=⟨Tryz.f36,Tryz.func36,rfl,rfl,by simp,by decide⟩
theorem Zu2 (a:Nat) (b:Nat) (post:Bool × Unit→Prop):Ze Zhk nHn Tryz.f36.ntmps Tryz.f36.results.toList (Tryz.f36.body.getD .skip) [.flt .f64,.flt .f64] [.snap .bool] (a,b,()) post=Zb6  a b post:=by kernel_rfl
theorem Zwh:Zhj.holds Tryz.prog RbG 36 :=
 Zx (detP Zoa Z8 nHn Zu1 (F:=fun x post=>Zb6  x.1 x.2.1 post) (fun x post=>Zu2 x.1 x.2.1 post) fun x h _=>Zz7  x.1 x.2.1 h)
def Zag:Con:=Con.nam [.int .i64,.int .i64,.ptr (.slice (.flt .f64))] [.snap (.int .i64)] (fun x=>WCmp x.1 x.2.1 x.2.2.1) (fun x=>Z7n x.1 x.2.1 x.2.2.1)
def Z51:Hn:=nHn
def Z5i:Cx:=⟨Zk Zn,Zm [(73,Z6a)],RbG⟩
theorem Zhl:CxOk Tryz.prog Z5i:=⟨Z4 Z7,Z9 ⟨Zbj,trivial⟩⟩
theorem Zkg:FnAt Tryz.prog 72 Tryz.f72.ntmps Tryz.f72.results.toList (Tryz.f72.body.getD .skip):=⟨Tryz.f72,Tryz.func72,rfl,rfl,by simp,by decide⟩
theorem Zhm (x:Int) (y:Int) (post:Int × Unit→Prop):Ze Z5i Z51 Tryz.f72.ntmps Tryz.f72.results.toList (Tryz.f72.body.getD .skip) [.int .i64,.int .i64,.ptr (.slice (.flt .f64))] [.snap (.int .i64)] (x,y,none,()) post=Z4z  x y post:=by kernel_rfl
theorem Zhn (x:Int) (y:Int) (p:List Nat) (post:Int × Unit→Prop):Ze Z5i Z51 Tryz.f72.ntmps Tryz.f72.results.toList (Tryz.f72.body.getD .skip) [.int .i64,.int .i64,.ptr (.slice (.flt .f64))] [.snap (.int .i64)] (x,y,(some p),()) post=Z50  x y p post:=by kernel_rfl
def Zmd (x:KS [.int .i64,.int .i64,.ptr (.slice (.flt .f64))]) (post:RS [.snap (.int .i64)]→Prop):Prop:=match x with
 | (z0,z1,none,y)=>Z4z  z0 z1 post
 | (z0,z1,some g,y)=>Z50  z0 z1 g post
theorem Zme:Zag.holds Tryz.prog RbG 72 :=
 Zx (detP Zhl Z8 Z51 Zkg (F:=Zmd) (fun x post=>match x with
  | (z0,z1,none,y)=>Zhm z0 z1 post
  | (z0,z1,some g,y)=>Zhn z0 z1 g post) fun x h w=>match x,h,w with
  | (z0,z1,none,y),h,w=>Zke  z0 z1 h
  | (z0,z1,some g,y),h,w=>Zkf  z0 z1 g h )
end Go.Lift

namespace Go.Lift
open Go.Proofs
def Zho:Con:=Con.nam [.slice (.int .i64)] [.snap .bool] (fun _=>True) (fun x=>Zzu x.1)
def Zfa:Hn:={ loops:=Z2i [(3,{ ls:=[(.slot 8,.data (.int .i64)),(.slot 3,.data (.int .i64))],os:=[] })],joins:=fun _=>none,named:=true }
def Zhp:Cx:=⟨Zk Zn,Zm [],RbG⟩
theorem Zob:CxOk Tryz.prog Zhp:=⟨Z4 Z7,fun f c h=>by cases h⟩
theorem Zu3:FnAt Tryz.prog 56 Tryz.f56.ntmps Tryz.f56.results.toList (Tryz.f56.body.getD .skip):=⟨Tryz.f56,Tryz.func56,rfl,rfl,by simp,by decide⟩
theorem Zu4 (l:List Int) (post:Bool × Unit→Prop):Ze Zhp Zfa Tryz.f56.ntmps Tryz.f56.results.toList (Tryz.f56.body.getD .skip) [.slice (.int .i64)] [.snap .bool] (l,()) post=Zb5  l post:=by kernel_rfl
theorem Zwi:Zho.holds Tryz.prog RbG 56 :=
 Zx (detP Zob Z8 Zfa Zu3 (F:=fun x post=>Zb5  x.1 post) (fun x post=>Zu4 x.1 post) fun x _ w=>Zz6  x.1 w)
def Z3x:Con:=Con.nam [.slice (.int .i64)] [.own 2 (.int .i64)] (fun x=>Zzv x.1) (fun x=>Zli x.1)
def Z3h:Hn:={ loops:=fun _=>none,joins:=fun _=>none,named:=true }
def Z3y:Cx:=⟨Zk Zn,Zm [],RbG⟩
theorem Z7a:CxOk Tryz.prog Z3y:=⟨Z4 Z7,fun f c h=>by cases h⟩
theorem Z81:FnAt Tryz.prog 57 Tryz.f57.ntmps Tryz.f57.results.toList (Tryz.f57.body.getD .skip):=⟨Tryz.f57,Tryz.func57,rfl,rfl,by simp,by decide⟩
theorem Z82 (l:List Int) (post:(List Int) × Unit→Prop):Ze Z3y Z3h Tryz.f57.ntmps Tryz.f57.results.toList (Tryz.f57.body.getD .skip) [.slice (.int .i64)] [.own 2 (.int .i64)] (l,()) post=Z2g  l post:=by kernel_rfl
theorem Z8z:Z3x.holds Tryz.prog RbG 57 :=
 Zx (detP Z7a Z8 Z3h Z81 (F:=fun x post=>Z2g  x.1 post) (fun x post=>Z82 x.1 post) fun x h _=>Zae  x.1 h)
def Z62:Con:=Con.nam [.ptr Zu,.slice (.flt .f64),.int .i64] [.snap (.int .i64)] (fun x=>Z4o x.1 x.2.1 x.2.2.1) (fun x=>Z26 x.1 x.2.1 x.2.2.1)
def Z7y:Hn:={ loops:=Z2i [(5,{ ls:=[(.slot 34,.data (.int .i64)),(.slot 7,.data (.int .i64))],os:=[] })],joins:=fun _=>none,named:=true }
def Z90:Cx:=⟨Zk Zn,Zm [(31,Z2a),(46,Z7x),(75,Zaf),(73,Z6a)],RbG⟩
theorem Zoc:CxOk Tryz.prog Z90:=⟨Z4 Z7,Z9 ⟨Z31,Ziz,Zma,Zbj,trivial⟩⟩
theorem Zu5:FnAt Tryz.prog 32 Tryz.f32.ntmps Tryz.f32.results.toList (Tryz.f32.body.getD .skip):=⟨Tryz.f32,Tryz.func32,rfl,rfl,by simp,by decide⟩
theorem Zod (bed:List Nat) (c:Int) (post:Int × Unit→Prop):Ze Z90 Z7y Tryz.f32.ntmps Tryz.f32.results.toList (Tryz.f32.body.getD .skip) [.ptr Zu,.slice (.flt .f64),.int .i64] [.snap (.int .i64)] (none,bed,c,()) post=Z7v  bed c post:=by kernel_rfl
theorem Zoe (g:Int × (List (Int × Int × Int × Int)) × (List ((Int × Int) × Int)) × (List (List Int)) × (List Int) × (List Nat) × List Nat) (bed:List Nat) (c:Int) (post:Int × Unit→Prop):Ze Z90 Z7y Tryz.f32.ntmps Tryz.f32.results.toList (Tryz.f32.body.getD .skip) [.ptr Zu,.slice (.flt .f64),.int .i64] [.snap (.int .i64)] ((some g),bed,c,()) post=Z7w  g bed c post:=by kernel_rfl
def Zwj (x:KS [.ptr Zu,.slice (.flt .f64),.int .i64]) (post:RS [.snap (.int .i64)]→Prop):Prop:=match x with
 | (none,y)=>Z7v  y.1 y.2.1 post
 | (some g,y)=>Z7w  g y.1 y.2.1 post
theorem Z91:Z62.holds Tryz.prog RbG 32 :=
 Zx (detP Zoc Z8 Z7y Zu5 (F:=Zwj) (fun x post=>match x with
  | (none,y)=>Zod y.1 y.2.1 post
  | (some g,y)=>Zoe g y.1 y.2.1 post) fun x h w=>match x,h,w with
  | (none,y),h,w=>Ztz  y.1 y.2.1 h w
  | (some g,y),h,w=>Zu0  g y.1 y.2.1 h w)
def Zbk:Con:=Con.nam [.slice (.int .i64),.slice (.int .i64)] [.snap .bool] (fun _=>True) (fun x=>Z15q x.1 x.2.1)
def Zah:Hn:={ loops:=Z2i [(4,{ ls:=[(.slot 5,.data (.int .i64))],os:=[] })],joins:=fun _=>none,named:=true }
def Zbl:Cx:=⟨Zk Zn,Zm [],RbG⟩
theorem Zj1:CxOk Tryz.prog Zbl:=⟨Z4 Z7,fun f c h=>by cases h⟩
theorem Zmf:FnAt Tryz.prog 28 Tryz.f28.ntmps Tryz.f28.results.toList (Tryz.f28.body.getD .skip):=⟨Tryz.f28,Tryz.func28,rfl,rfl,by simp,by decide⟩
theorem Zmg (a:List Int) (b:List Int) (post:Bool × Unit→Prop):Ze Zbl Zah Tryz.f28.ntmps Tryz.f28.results.toList (Tryz.f28.body.getD .skip) [.slice (.int .i64),.slice (.int .i64)] [.snap .bool] (a,b,()) post=Z6v  a b post:=by kernel_rfl
theorem Zof:Zbk.holds Tryz.prog RbG 28 :=
 Zx (detP Zj1 Z8 Zah Zmf (F:=fun x post=>Z6v  x.1 x.2.1 post) (fun x post=>Zmg x.1 x.2.1 post) fun x _ w=>Zqc  x.1 x.2.1 w)
end Go.Lift

namespace Go.Lift
end Go.Lift

namespace Go.Lift
def Z92:=fun (ty37 ty3:Nat) (bed:List Nat) (post:List Int × Unit→Prop)=>∃ (h:(0:Int)≤(↑bed.length:Int)∧(↑bed.length:Int)≤(↑bed.length:Int) ∧
 (↑bed.length:Int)*(↑(8:Nat):Int)≤(281474976710656:Int)),HIs [HObj.box Md.rw ty37 [SV.data (K.flt f64).slice bed],HObj.row Md.rw ty3 (K.int i64)
 (List.replicate bed.length (0:Int))] [HObj.box Md.rw ty37 [SV.data (K.flt f64).slice bed],HObj.row Md.rw ty3 (K.int i64) (List.replicate bed.length (0 :
 Int))]∧∃ (I:Int × Unit→List Int × Unit→Prop),∃ (μ:Int × Unit→List Int × Unit→Nat),I ((0:Int),()) (List.replicate bed.length (0:Int),())∧∀ (x:Int × Unit)
 (y:List Int × Unit),I x y→∀ (a:Bool),a=decide (x.fst<(↑bed.length:Int))→Br a (∃ (h:(0:Int)≤x.fst∧x.fst<(↑bed.length:Int)),HIs [HObj.box Md.rw ty37
 [SV.data (K.flt f64).slice bed],HObj.row Md.rw ty3 (K.int i64) (y.fst.set ((0:Nat)+x.fst.toNat) x.fst)] [HObj.box Md.rw ty37 [SV.data (K.flt
 f64).slice bed],HObj.row Md.rw ty3 (K.int i64) (y.fst.set ((0:Nat)+x.fst.toNat) x.fst)]∧I (i64.wrap (x.fst+(1:Int)),()) (y.fst.set ((0 :
 Nat)+x.fst.toNat) x.fst,())∧μ (i64.wrap (x.fst+(1:Int)),()) (y.fst.set ((0:Nat)+x.fst.toNat) x.fst,())<μ x y) (∃ (x:(ty3=ty3)∧(72:Nat)=(72 :
 Nat)∧bed.length=y.fst.length∧Z2f bed y.fst),∀ (ys:List Int),Rr (keyB bed) (0:Nat) y.fst.length y.fst ys∧Sgm (keyB bed) ys (0:Nat) y.fst.length→((0:Nat)=(0
 : Nat)∧bed.length=ys.length)∧post (ys,()))
theorem Zwk (ty0 ty1:Nat) (bed:List Nat) (h:WOrd bed):Z92 ty0 ty1 bed (fun r=>r=Zif bed):=by
 obtain ⟨hw,hb⟩:=h
 have mx:maxN=281474976710656:=rfl
 refine ⟨⟨by omega,by omega,by omega⟩,rfl,fun x y=>∃ k:Nat,x.1=k∧k≤bed.length∧y.1.length=bed.length∧∀ j,j<k→at0 y.1 j=j,fun x _=>bed.length - x.1.toNat,⟨0,rfl,by omega,List.length_replicate,fun j h=>by omega⟩,?_⟩
 rintro ⟨_,⟨⟩⟩ ⟨y,⟨⟩⟩ ⟨k,rfl,hk,ly,hy⟩
 dsimp only at ly hy ⊢
 rintro _ rfl
 refine Br.intro (fun d=>?_) fun d=>?_
 ·have d:k<bed.length:=by have d:(k:Int)<bed.length:=of_decide_eq_true d; omega
  rw [Int.toNat_natCast,Nat.zero_add,Z2b d (by omega)]
  refine ⟨⟨by omega,by omega⟩,rfl,⟨k+1,rfl,by omega,by rw [List.length_set]; exact ly,fun j hj=>?_⟩,by omega⟩
  rw [Z8j (by omega)]
  split
  ·rename_i e; rw [e]
  ·exact hy j (by omega)
 have d:k=bed.length:=by have d:¬ (k:Int)<bed.length:=of_decide_eq_false d; omega
 have e:y=seg 0 bed.length:=Z1cg ly fun j hj=>hy j (by omega)
 refine ⟨⟨by trivial,by trivial,ly.symm,hw,fun x hx=>?_,by omega⟩,?_⟩
 ·rw [e] at hx
  have:=Z144 hx
  omega
 rintro ys ⟨h1,h2⟩
 have q:=Z15w (n:=bed.length) e h1 h2
 exact ⟨⟨by trivial,by rw [h1.len]; exact ly.symm⟩,by rw [q]; rfl⟩
end Go.Lift

namespace Go.Lift
def Zu6:=fun (ty3:Nat) (m:Md) (tb:Nat) (cs:List SV) (xs:List Int) (a b n:Int) (fv:EV) (k:EV→List HObj→Prop)=>HIs [HObj.box m tb cs,HObj.row Md.rw ty3
 (K.int i64) xs] [HObj.box m tb cs,HObj.row Md.rw ty3 (K.int i64) xs]∧∃ (I:Int × Unit→List Int × Unit→Prop),∃ (μ:Int × Unit→List Int × Unit→Nat),I
 ((0:Int),()) (xs,())∧∀ (x:Int × Unit) (y:List Int × Unit),I x y→∀ (a_1:Bool),a_1=decide (x.fst<n)→Br a_1 (∃ (h:(0:Int)≤i64.wrap (b+x.fst) ∧
 i64.wrap (b+x.fst)<(↑xs.length:Int)),∃ (h:(0:Int)≤i64.wrap (a+x.fst)∧i64.wrap (a+x.fst)<(↑xs.length:Int)),∃ (h:(0:Int) ≤
 i64.wrap (a+x.fst)∧i64.wrap (a+x.fst)<(↑xs.length:Int)),∃ (h:(0:Int)≤i64.wrap (b+x.fst)∧i64.wrap (b+x.fst)<(↑xs.length :
 Int)),HIs [HObj.box m tb cs,HObj.row Md.rw ty3 (K.int i64) ((y.fst.set ((0:Nat)+(i64.wrap (a+x.fst)).toNat) (y.fst.getD ((0:Nat)+(i64.wrap (b +
 x.fst)).toNat) (0:Int))).set ((0:Nat)+(i64.wrap (b+x.fst)).toNat) (y.fst.getD ((0:Nat)+(i64.wrap (a+x.fst)).toNat) (0:Int)))] [HObj.box m tb cs,
 HObj.row Md.rw ty3 (K.int i64) ((y.fst.set ((0:Nat)+(i64.wrap (a+x.fst)).toNat) (y.fst.getD ((0:Nat)+(i64.wrap (b+x.fst)).toNat) (0 :
 Int))).set ((0:Nat)+(i64.wrap (b+x.fst)).toNat) (y.fst.getD ((0:Nat)+(i64.wrap (a+x.fst)).toNat) (0:Int)))]∧I (i64.wrap (x.fst+(1 :
 Int)),()) ((y.fst.set ((0:Nat)+(i64.wrap (a+x.fst)).toNat) (y.fst.getD ((0:Nat)+(i64.wrap (b+x.fst)).toNat) (0:Int))).set ((0:Nat) +
 (i64.wrap (b+x.fst)).toNat) (y.fst.getD ((0:Nat)+(i64.wrap (a+x.fst)).toNat) (0:Int)),())∧μ (i64.wrap (x.fst+(1:Int)),()) ((y.fst.set ((0
 : Nat)+(i64.wrap (a+x.fst)).toNat) (y.fst.getD ((0:Nat)+(i64.wrap (b+x.fst)).toNat) (0:Int))).set ((0:Nat)+(i64.wrap (b+x.fst)).toNat)
 (y.fst.getD ((0:Nat)+(i64.wrap (a+x.fst)).toNat) (0:Int)),())<μ x y) (k (EV.tup []) [HObj.box m tb cs,HObj.row Md.rw ty3 (K.int i64) y.fst])
theorem Z165 (ty0:Nat) (m:Md) (tb:Nat) (cs:List SV) (xs:List Int) (a b n:Int) (fv:EV) (k:EV→List HObj→Prop) (h:List.length xs≤maxN∧0≤a∧0≤n∧a+n≤b∧b+n≤(List.length xs:Int)) (hk:∀ ys:List Int,ys=Z22 xs (swI a.toNat b.toNat n.toNat)∧ys.Perm xs→k (.tup []) [.box m tb cs,.row .rw ty0 (.int .i64) ys]):Zu6 ty0 m tb cs xs a b n fv k:=by
 obtain ⟨hl,ha,hn,hab,hb⟩:=h
 have mx:maxN=281474976710656:=rfl
 obtain ⟨A,rfl⟩:∃ q:Nat,a=(q:Int):=⟨a.toNat,by omega⟩
 obtain ⟨B,rfl⟩:∃ q:Nat,b=(q:Int):=⟨b.toNat,by omega⟩
 obtain ⟨N,rfl⟩:∃ q:Nat,n=(q:Int):=⟨n.toNat,by omega⟩
 simp only [Int.toNat_natCast] at hk
 refine ⟨rfl,fun x y=>∃ j:Nat,x.1=j∧j≤N∧y.1=Z22 xs (swI A B j)∧y.1.Perm xs,fun x _=>N - x.1.toNat,⟨0,rfl,by omega,(Z11c fun p _=>Z1a3 A B p).symm,.refl _⟩,?_⟩
 rintro ⟨_,⟨⟩⟩ ⟨y,⟨⟩⟩ ⟨j,rfl,hj,hy,hp⟩
 dsimp only at hy hp ⊢
 have ly:y.length=xs.length:=by rw [hy,Z1a]
 rintro _ rfl
 refine Br.intro (fun d=>?_) fun d=>?_
 ·have d:j<N:=by have d:(j:Int)<N:=of_decide_eq_true d; omega
  rw [Zt (x:=(B:Int)+j) (by omega) (by omega),Zt (x:=(A:Int)+j) (by omega) (by omega),Zt (x:=(j:Int)+1) (by omega) (by omega),show ((B:Int)+j).toNat=B+j by omega,show ((A:Int)+j).toNat=A+j by omega,Nat.zero_add,Nat.zero_add]
  refine ⟨⟨by omega,by omega⟩,⟨by omega,by omega⟩,⟨by omega,by omega⟩,⟨by omega,by omega⟩,rfl,⟨j+1,by omega,by omega,?_,?_⟩,by omega⟩
  ·show swp y (A+j) (B+j)=_
   rw [hy]; exact Z18e (by omega) (by omega)
  ·exact (Z11b (by omega) (by omega)).trans hp
 have d:j=N:=by have d:¬ (j:Int)<N:=of_decide_eq_false d; omega
 subst d
 exact hk _ ⟨hy,hp⟩
def Zmh:=fun (ty3:Nat) (md:Md) (tb:Nat) (cs:List SV) (xs:List Int) (a m b:Int) (fv:EV) (k:EV→List HObj→Prop)=>HIs [HObj.box md tb cs,HObj.row Md.rw
 ty3 (K.int i64) xs] [HObj.box md tb cs,HObj.row Md.rw ty3 (K.int i64) xs]∧∃ (I:Int × Int × Unit→List Int × Unit→Prop),∃ (μ:Int × Int × Unit→List Int
 × Unit→Nat),I (i64.wrap (m - a),i64.wrap (b - m),()) (xs,())∧∀ (x:Int × Int × Unit) (y:List Int × Unit),I x y→∀ (a:Bool),a=(x.fst != x.snd.fst)
 → Br a (∀ (a:Bool),a=decide (x.fst > x.snd.fst)→Br a (∃ (x_4:(ty3=ty3)∧xs.length=y.fst.length∧y.fst.length≤maxN∧(0:Int)≤i64.wrap (m - x.fst)∧(0
 : Int)≤x.snd.fst∧i64.wrap (m - x.fst)+x.snd.fst≤m∧m+x.snd.fst≤(↑y.fst.length:Int)),∀ (ys:List Int),ys=Z22 y.fst (swI (i64.wrap (m -
 x.fst)).toNat m.toNat x.snd.fst.toNat)∧ys.Perm y.fst→HIs [HObj.box md tb cs,HObj.row Md.rw ty3 (K.int i64) ys] [HObj.box md tb cs,HObj.row Md.rw ty3 (K.int
 i64) ys]∧I (i64.wrap (x.fst - x.snd.fst),x.snd.fst,()) (ys,())∧μ (i64.wrap (x.fst - x.snd.fst),x.snd.fst,()) (ys,())<μ x y) (∃ (x_4:(ty3 =
 ty3)∧xs.length=y.fst.length∧y.fst.length≤maxN∧(0:Int)≤i64.wrap (m - x.fst)∧(0:Int)≤x.fst∧i64.wrap (m - x.fst)+x.fst≤i64.wrap
 (i64.wrap (m+x.snd.fst) - x.fst)∧i64.wrap (i64.wrap (m+x.snd.fst) - x.fst)+x.fst≤(↑y.fst.length:Int)),∀ (ys:List Int),ys=Z22 y.fst (swI
 (i64.wrap (m - x.fst)).toNat (i64.wrap (i64.wrap (m+x.snd.fst) - x.fst)).toNat x.fst.toNat)∧ys.Perm y.fst→HIs [HObj.box md tb cs,HObj.row Md.rw ty3
 (K.int i64) ys] [HObj.box md tb cs,HObj.row Md.rw ty3 (K.int i64) ys]∧I (x.fst,i64.wrap (x.snd.fst - x.fst),()) (ys,())∧μ (x.fst,i64.wrap
 (x.snd.fst - x.fst),()) (ys,())<μ x y)) (∃ (x_3:(ty3=ty3)∧xs.length=y.fst.length∧y.fst.length≤maxN∧(0:Int)≤i64.wrap (m - x.fst)∧(0:Int)≤x.fst ∧
 i64.wrap (m - x.fst)+x.fst≤m∧m+x.fst≤(↑y.fst.length:Int)),∀ (ys:List Int),ys=Z22 y.fst (swI (i64.wrap (m - x.fst)).toNat m.toNat x.fst.toNat) ∧
 ys.Perm y.fst→k (EV.tup []) [HObj.box md tb cs,HObj.row Md.rw ty3 (K.int i64) ys])
theorem Z18w (ty0:Nat) (md:Md) (tb:Nat) (cs:List SV) (xs:List Int) (a m b:Int) (fv:EV) (k:EV→List HObj→Prop) (h:List.length xs≤maxN∧0≤a∧a<m∧m<b∧b≤(List.length xs:Int)) (hk:∀ ys:List Int,ys=Z22 xs (rotI a.toNat m.toNat b.toNat)∧ys.Perm xs→k (.tup []) [.box md tb cs,.row .rw ty0 (.int .i64) ys]):Zmh ty0 md tb cs xs a m b fv k:=by
 unfold Zmh
 obtain ⟨hl,ha,ham,hmb,hb⟩:=h
 have mx:maxN=281474976710656:=rfl
 obtain ⟨A,rfl⟩:∃ q:Nat,a=(q:Int):=⟨a.toNat,by omega⟩
 obtain ⟨M,rfl⟩:∃ q:Nat,m=(q:Int):=⟨m.toNat,by omega⟩
 obtain ⟨B,rfl⟩:∃ q:Nat,b=(q:Int):=⟨b.toNat,by omega⟩
 simp only [Int.toNat_natCast] at hk
 have wsub:∀ u v:Nat,v≤u→u≤xs.length→i64.wrap ((u:Int) - v)=((u - v:Nat):Int):=fun u v h1 h2=>by rw [Zt (by omega) (by omega)]; omega
 rw [wsub M A (by omega) (by omega),wsub B M (by omega) (by omega)]
 refine ⟨rfl,fun x y=>∃ i j:Nat,x.1=i∧x.2.1=j∧0<i∧0<j∧i≤M∧M+j≤xs.length∧y.1.length=xs.length∧Z22 y.1 (rotI (M - i) M (M+j))=Z22 xs (rotI A M B)∧y.1.Perm xs,fun x _=>(x.1+x.2.1).toNat,⟨M - A,B - M,rfl,rfl,by omega,by omega,by omega,by omega,rfl,by rw [show M - (M - A)=A by omega,show M+(B - M)=B by omega],.refl _⟩,?_⟩
 rintro ⟨_,_,⟨⟩⟩ ⟨y,⟨⟩⟩ ⟨i,j,rfl,rfl,hi,hj,hiM,hMj,ly,hy,hp⟩
 dsimp only at ly hy hp ⊢
 rintro _ rfl
 refine Br.intro (fun d=>?_) fun d=>?_
 ·have d:i≠j:=fun e=>by subst e; simp at d
  rintro _ rfl
  refine Br.intro (fun e=>?_) fun e=>?_
  ·have e:j<i:=by have e:(j:Int)<i:=of_decide_eq_true e; omega
   rw [wsub M i (by omega) (by omega),Int.toNat_natCast,Int.toNat_natCast,Int.toNat_natCast,Zt (x:=(i:Int) - j) (by omega) (by omega)]
   refine ⟨⟨rfl,ly.symm,by omega,by omega,by omega,by omega,by omega⟩,?_⟩
   rintro ys ⟨rfl,hps⟩
   refine ⟨rfl,⟨i - j,j,by omega,rfl,by omega,hj,by omega,hMj,by rw [Z1a]; exact ly,?_,hps.trans hp⟩,by omega⟩
   rw [Zov (υ:=rotI (M - i) M (M+j)) (fun p hp=>Zv4 (by omega) (by omega) (by omega) hp) fun p _=>Z1a4 hj e hiM p]
   exact hy
  ·have e:i<j:=by have e:¬ (j:Int)<i:=of_decide_eq_false e; omega
   have w2:i64.wrap (i64.wrap ((M:Int)+j) - i)=((M+j - i:Nat):Int):=by rw [Zt (x:=(M:Int)+j) (by omega) (by omega),Zt (by omega) (by omega)]; omega
   rw [w2,wsub M i (by omega) (by omega),Int.toNat_natCast,Int.toNat_natCast,Int.toNat_natCast,Zt (x:=(j:Int) - i) (by omega) (by omega)]
   refine ⟨⟨rfl,ly.symm,by omega,by omega,by omega,by omega,by omega⟩,?_⟩
   rintro ys ⟨rfl,hps⟩
   refine ⟨rfl,⟨i,j - i,rfl,by omega,hi,by omega,by omega,by omega,by rw [Z1a]; exact ly,?_,hps.trans hp⟩,by omega⟩
   rw [Zov (υ:=rotI (M - i) M (M+j)) (fun p hp=>Zv4 (by omega) (by omega) (by omega) hp) fun p _=>Z1a5 hi e hiM p]
   exact hy
 have d:i=j:=by
  have d:(i:Int)=j:=by simpa using d
  omega
 subst d
 rw [wsub M i (by omega) (by omega),Int.toNat_natCast,Int.toNat_natCast,Int.toNat_natCast]
 refine ⟨⟨rfl,ly.symm,by omega,by omega,by omega,by omega,by omega⟩,?_⟩
 rintro ys ⟨hys,hps⟩
 refine hk _ ⟨?_,hps.trans hp⟩
 rw [← hy,hys]
 congr 1
 funext p
 exact Z1a6 hi hiM p
def Zmi:=fun (ty3:Nat) (m:Md) (tb:Nat) (bed:List Nat) (xs:List Int) (a b:Int) (k:EV→List HObj→Prop)=>HIs [HObj.box m tb [SV.data (K.flt
 f64).slice bed],HObj.row Md.rw ty3 (K.int i64) xs] [HObj.box m tb [SV.data (K.flt f64).slice bed],HObj.row Md.rw ty3 (K.int i64) xs] ∧
 ∃ (I:Int × Unit→List Int × Unit→Prop),∃ (μ:Int × Unit→List Int × Unit→Nat),I (i64.wrap (a+(1:Int)),()) (xs,())∧∀ (x:Int × Unit) (y:List Int ×
 Unit),I x y→∀ (a_1:Bool),a_1=decide (x.fst<b)→Br a_1 (HIs [HObj.box m tb [SV.data (K.flt f64).slice bed],HObj.row Md.rw ty3 (K.int i64) y.fst]
 [HObj.box m tb [SV.data (K.flt f64).slice bed],HObj.row Md.rw ty3 (K.int i64) y.fst]∧∃ (I_1:Int × Unit→List Int × Unit→Prop),∃ (μ_1:Int × Unit →
 List Int × Unit→Nat),I_1 (x.fst,()) (y.fst,())∧∀ (x_3:Int × Unit) (y_1:List Int × Unit),I_1 x_3 y_1→∀ (a_2:Bool),a_2=decide (x_3.fst > a)→Br a_2 (∃ (h:(0 :
 Int)≤x_3.fst∧x_3.fst<(↑xs.length:Int)),∃ (h:(0:Int)≤i64.wrap (x_3.fst - (1:Int))∧i64.wrap (x_3.fst - (1:Int))<(↑xs.length:Int)),∃ (h :
 WCmp (y_1.fst.getD ((0:Nat)+x_3.fst.toNat) (0:Int)) (y_1.fst.getD ((0:Nat)+(i64.wrap (x_3.fst - (1:Int))).toNat) (0:Int)) (some bed)),∀ (a:Int ×
 Unit),a=Z7n (y_1.fst.getD ((0:Nat)+x_3.fst.toNat) (0:Int)) (y_1.fst.getD ((0:Nat)+(i64.wrap (x_3.fst - (1:Int))).toNat) (0:Int)) (some bed)→∀
 (a_3:Bool),a_3=decide (a.fst<(0:Int))→Br a_3 (∃ (h:(0:Int)≤i64.wrap (x_3.fst - (1:Int))∧i64.wrap (x_3.fst - (1:Int))<(↑xs.length:Int)),
 ∃ (h:(0:Int)≤x_3.fst∧x_3.fst<(↑xs.length:Int)),∃ (h:(0:Int)≤x_3.fst∧x_3.fst<(↑xs.length:Int)),∃ (h:(0:Int)≤i64.wrap (x_3.fst - (1:Int)) ∧
 i64.wrap (x_3.fst - (1:Int))<(↑xs.length:Int)),HIs [HObj.box m tb [SV.data (K.flt f64).slice bed],HObj.row Md.rw ty3 (K.int i64) ((y_1.fst.set
 ((0:Nat)+x_3.fst.toNat) (y_1.fst.getD ((0:Nat)+(i64.wrap (x_3.fst - (1:Int))).toNat) (0:Int))).set ((0:Nat)+(i64.wrap (x_3.fst - (1:Int))).toNat)
 (y_1.fst.getD ((0:Nat)+x_3.fst.toNat) (0:Int)))] [HObj.box m tb [SV.data (K.flt f64).slice bed],HObj.row Md.rw ty3 (K.int i64) ((y_1.fst.set ((0:Nat)
 + x_3.fst.toNat) (y_1.fst.getD ((0:Nat)+(i64.wrap (x_3.fst - (1:Int))).toNat) (0:Int))).set ((0:Nat)+(i64.wrap (x_3.fst - (1:Int))).toNat)
 (y_1.fst.getD ((0:Nat)+x_3.fst.toNat) (0:Int)))]∧I_1 (i64.wrap (x_3.fst - (1:Int)),()) ((y_1.fst.set ((0:Nat)+x_3.fst.toNat) (y_1.fst.getD ((0:Nat) +
 (i64.wrap (x_3.fst - (1:Int))).toNat) (0:Int))).set ((0:Nat)+(i64.wrap (x_3.fst - (1:Int))).toNat) (y_1.fst.getD ((0:Nat)+x_3.fst.toNat) (0:Int)),
 ())∧μ_1 (i64.wrap (x_3.fst - (1:Int)),()) ((y_1.fst.set ((0:Nat)+x_3.fst.toNat) (y_1.fst.getD ((0:Nat)+(i64.wrap (x_3.fst - (1:Int))).toNat) (0 :
 Int))).set ((0:Nat)+(i64.wrap (x_3.fst - (1:Int))).toNat) (y_1.fst.getD ((0:Nat)+x_3.fst.toNat) (0:Int)),())<μ_1 x_3 y_1) (HIs [HObj.box m tb [SV.data
 (K.flt f64).slice bed],HObj.row Md.rw ty3 (K.int i64) y_1.fst] [HObj.box m tb [SV.data (K.flt f64).slice bed],HObj.row Md.rw ty3 (K.int
 i64) y_1.fst]∧I (i64.wrap (x.fst+(1:Int)),()) (y_1.fst,())∧μ (i64.wrap (x.fst+(1:Int)),()) (y_1.fst,())<μ x y)) (HIs [HObj.box m tb
 [SV.data (K.flt f64).slice bed],HObj.row Md.rw ty3 (K.int i64) y_1.fst] [HObj.box m tb [SV.data (K.flt f64).slice bed],HObj.row Md.rw ty3
 (K.int i64) y_1.fst]∧I (i64.wrap (x.fst+(1:Int)),()) (y_1.fst,())∧μ (i64.wrap (x.fst+(1:Int)),()) (y_1.fst,())<μ x y)) (k (EV.tup [])
 [HObj.box m tb [SV.data (K.flt f64).slice bed],HObj.row Md.rw ty3 (K.int i64) y.fst])
theorem Z18x (ty0:Nat) (m:Md) (tb:Nat) (bed:List Nat) (xs:List Int) (a b:Int) (k:EV→List HObj→Prop) (h:Z2f bed xs∧0≤a∧a≤b∧b≤(List.length xs:Int)) (hk:∀ ys:List Int,Rr (keyB bed) a.toNat b.toNat xs ys∧Sgm (keyB bed) ys a.toNat b.toNat→k (.tup []) [.box m tb [.data (.slice (.flt .f64)) bed],.row .rw ty0 (.int .i64) ys]):Zmi ty0 m tb bed xs a b k:=by
 unfold Zmi
 obtain ⟨bo,ha,hab,hb⟩:=h
 have mx:maxN=281474976710656:=rfl
 have hmx:=bo.2.2
 obtain ⟨A,rfl⟩:∃ q:Nat,a=(q:Int):=⟨a.toNat,by omega⟩
 obtain ⟨B,rfl⟩:∃ q:Nat,b=(q:Int):=⟨b.toNat,by omega⟩
 simp only [Int.toNat_natCast] at hk
 rw [Zt (x:=(A:Int)+1) (by omega) (by omega)]
 refine ⟨rfl,fun x y=>∃ i:Nat,x.1=i∧A<i∧Rr (keyB bed) A B xs y.1∧Sgm (keyB bed) y.1 A i,fun x _=>B - x.1.toNat,⟨A+1,by omega,by omega,.refl _ _ _,.one (by omega)⟩,?_⟩
 rintro ⟨_,⟨⟩⟩ ⟨y,⟨⟩⟩ ⟨i,rfl,hi,hr,hs⟩
 dsimp only at hr hs ⊢
 rintro _ rfl
 refine Br.intro (fun d=>?_) fun d=>?_
 rotate_left
 ·have d:B≤i:=by have d:¬ (i:Int)<B:=of_decide_eq_false d; omega
  exact hk _ ⟨hr,hs.sub (Nat.le_refl _) d⟩
 have d:i<B:=by have d:(i:Int)<B:=of_decide_eq_true d; omega
 rw [Zt (x:=(i:Int)+1) (by omega) (by omega)]
 refine ⟨rfl,fun x y=>∃ j:Nat,x.1=j∧A≤j∧j≤i∧Rr (keyB bed) A B xs y.1∧InsI (keyB bed) y.1 A i j,fun x _=>x.1.toNat,⟨i,rfl,by omega,by omega,hr,.start hs⟩,?_⟩
 rintro ⟨_,⟨⟩⟩ ⟨z,⟨⟩⟩ ⟨j,rfl,hj1,hj2,hz,hI⟩
 dsimp only at hz hI ⊢
 have lz:=hz.len
 have bz:=bo.perm hz.perm
 rintro _ rfl
 refine Br.intro (fun e=>?_) fun e=>?_
 rotate_left
 ·have e:j=A:=by have e:¬ (A:Int)<j:=of_decide_eq_false e; omega
  exact ⟨rfl,⟨i+1,by omega,by omega,hz,hI.done hj2 (.inl e)⟩,by omega⟩
 have e:A<j:=by have e:(A:Int)<j:=of_decide_eq_true e; omega
 obtain ⟨j',rfl⟩:∃ j',j=j'+1:=⟨j - 1,by omega⟩
 have w1:i64.wrap (((j'+1:Nat):Int) - 1)=(j':Int):=by rw [Zt (by omega) (by omega)]; omega
 rw [w1,Int.toNat_natCast,Int.toNat_natCast,Nat.zero_add,Nat.zero_add]
 refine ⟨⟨by omega,by omega⟩,⟨by omega,by omega⟩,bz.cmp (by omega) (by omega),?_⟩
 rintro _ rfl
 rintro _ rfl
 refine Br.intro (fun c=>?_) fun c=>?_
 ·have c:keyB bed (at0 z (j'+1))<keyB bed (at0 z j'):=(Z5c _ _ _).1 (of_decide_eq_true c)
  exact ⟨⟨by omega,by omega⟩,⟨by omega,by omega⟩,⟨by omega,by omega⟩,⟨by omega,by omega⟩,rfl,⟨j',rfl,by omega,by omega,hz.trans (Z11d (i:=j') (by omega) (by omega) (by omega) c),hI.step hj2 (by omega) (by omega) c⟩,by omega⟩
 ·have c:¬ keyB bed (at0 z (j'+1))<keyB bed (at0 z j'):=fun q=>of_decide_eq_false c ((Z5c _ _ _).2 q)
  exact ⟨rfl,⟨i+1,by omega,by omega,hz,hI.done hj2 (.inr ⟨e,by show keyB bed (at0 z (j'+1 - 1))≤_; rw [show j'+1 - 1=j' by omega]; omega⟩)⟩,by omega⟩
def Zmj:=fun (ty3 fn72:Nat) (md:Md) (tb N:Nat) (bed:List Nat) (xs:List Int) (a m b:Int) (k:EV→List HObj→Prop)=>∀ (a_1:Bool),a_1=(i64.wrap (m
 - a)==(1:Int))→Br a_1 (HIs [HObj.box md tb [SV.data (K.flt f64).slice bed],HObj.row Md.rw ty3 (K.int i64) xs] [HObj.box md tb [SV.data (K.flt
 f64).slice bed],HObj.row Md.rw ty3 (K.int i64) xs]∧∃ (I:Int × Int × Unit→Unit→Prop),∃ (μ:Int × Int × Unit→Unit→Nat),I (m,b,()) ()∧∀ (x :
 Int × Int × Unit) (y:Unit),I x y→∀ (a_2:Bool),a_2=decide (x.fst<x.snd.fst)→Br a_2 (∃ (h:(0:Int)≤(1:Int)),∃ (h:(0:Int)≤i64.wrap
 ((u64.wrap (i64.wrap (x.fst+x.snd.fst))).fdiv ((2:Int) ^ Min.min (Int.toNat (1:Int)) u64.bits))∧i64.wrap ((u64.wrap
 (i64.wrap (x.fst+x.snd.fst))).fdiv ((2:Int) ^ Min.min (Int.toNat (1:Int)) u64.bits))<(↑xs.length:Int)),∃ (h:(0:Int)≤a∧a<(↑xs.length:Int)),∃
 (h:WCmp (xs.getD ((0:Nat)+(i64.wrap ((u64.wrap (i64.wrap (x.fst+x.snd.fst))).fdiv ((2:Int) ^ Min.min (Int.toNat (1:Int))
 u64.bits))).toNat) (0:Int)) (xs.getD ((0:Nat)+a.toNat) (0:Int)) (some bed)),∀ (a_3:Int × Unit),a_3=Z7n (xs.getD ((0:Nat)+(i64.wrap
 ((u64.wrap (i64.wrap (x.fst+x.snd.fst))).fdiv ((2:Int) ^ Min.min (Int.toNat (1:Int)) u64.bits))).toNat) (0:Int)) (xs.getD ((0:Nat)+a.toNat) (0
 : Int)) (some bed)→∀ (a:Bool),a=decide (a_3.fst<(0:Int))→Br a (HIs [HObj.box md tb [SV.data (K.flt f64).slice bed],HObj.row Md.rw ty3 (K.int
 i64) xs] [HObj.box md tb [SV.data (K.flt f64).slice bed],HObj.row Md.rw ty3 (K.int i64) xs]∧I (i64.wrap (i64.wrap
 ((u64.wrap (i64.wrap (x.fst+x.snd.fst))).fdiv ((2:Int) ^ Min.min (Int.toNat (1:Int)) u64.bits))+(1:Int)),x.snd.fst,()) ()∧μ (i64.wrap
 (i64.wrap ((u64.wrap (i64.wrap (x.fst+x.snd.fst))).fdiv ((2:Int) ^ Min.min (Int.toNat (1:Int)) u64.bits))+(1:Int)),x.snd.fst,()) ()<μ
 x y) (HIs [HObj.box md tb [SV.data (K.flt f64).slice bed],HObj.row Md.rw ty3 (K.int i64) xs] [HObj.box md tb [SV.data (K.flt f64).slice bed],
 HObj.row Md.rw ty3 (K.int i64) xs]∧I (x.fst,i64.wrap ((u64.wrap (i64.wrap (x.fst+x.snd.fst))).fdiv ((2:Int) ^ Min.min (Int.toNat (1:Int))
 u64.bits)),()) ()∧μ (x.fst,i64.wrap ((u64.wrap (i64.wrap (x.fst+x.snd.fst))).fdiv ((2:Int) ^ Min.min (Int.toNat (1:Int))
 u64.bits)),()) ()<μ x y)) (HIs [HObj.box md tb [SV.data (K.flt f64).slice bed],HObj.row Md.rw ty3 (K.int i64) xs] [HObj.box md tb [SV.data (K.flt
 f64).slice bed],HObj.row Md.rw ty3 (K.int i64) xs]∧∃ (I:Int × Unit→List Int × Unit→Prop),∃ (μ:Int × Unit→List Int × Unit→Nat),I (a,()) (xs,
 ())∧∀ (x_3:Int × Unit) (y:List Int × Unit),I x_3 y→∀ (a:Bool),a=decide (x_3.fst<i64.wrap (x.fst - (1:Int)))→Br a (∃ (h:(0:Int)≤i64.wrap
 (x_3.fst+(1:Int))∧i64.wrap (x_3.fst+(1:Int))<(↑xs.length:Int)),∃ (h:(0:Int)≤x_3.fst∧x_3.fst<(↑xs.length:Int)),∃ (h:(0:Int)≤x_3.fst ∧
 x_3.fst<(↑xs.length:Int)),∃ (h:(0:Int)≤i64.wrap (x_3.fst+(1:Int))∧i64.wrap (x_3.fst+(1:Int))<(↑xs.length:Int)),HIs [HObj.box md tb
 [SV.data (K.flt f64).slice bed],HObj.row Md.rw ty3 (K.int i64) ((y.fst.set ((0:Nat)+x_3.fst.toNat) (y.fst.getD ((0:Nat)+(i64.wrap (x_3.fst +
 (1:Int))).toNat) (0:Int))).set ((0:Nat)+(i64.wrap (x_3.fst+(1:Int))).toNat) (y.fst.getD ((0:Nat)+x_3.fst.toNat) (0:Int)))] [HObj.box md tb [SV.data
 (K.flt f64).slice bed],HObj.row Md.rw ty3 (K.int i64) ((y.fst.set ((0:Nat)+x_3.fst.toNat) (y.fst.getD ((0:Nat)+(i64.wrap (x_3.fst+(1 :
 Int))).toNat) (0:Int))).set ((0:Nat)+(i64.wrap (x_3.fst+(1:Int))).toNat) (y.fst.getD ((0:Nat)+x_3.fst.toNat) (0:Int)))]∧I (i64.wrap (x_3.fst+(1
 : Int)),()) ((y.fst.set ((0:Nat)+x_3.fst.toNat) (y.fst.getD ((0:Nat)+(i64.wrap (x_3.fst+(1:Int))).toNat) (0:Int))).set ((0:Nat)+(i64.wrap
 (x_3.fst+(1:Int))).toNat) (y.fst.getD ((0:Nat)+x_3.fst.toNat) (0:Int)),())∧μ (i64.wrap (x_3.fst+(1:Int)),()) ((y.fst.set ((0:Nat)+x_3.fst.toNat)
 (y.fst.getD ((0:Nat)+(i64.wrap (x_3.fst+(1:Int))).toNat) (0:Int))).set ((0:Nat)+(i64.wrap (x_3.fst+(1:Int))).toNat) (y.fst.getD ((0:Nat) +
 x_3.fst.toNat) (0:Int)),())<μ x_3 y) (k (EV.tup []) [HObj.box md tb [SV.data (K.flt f64).slice bed],HObj.row Md.rw ty3 (K.int i64) y.fst]))) (∀ (a_2 :
 Bool),a_2=(i64.wrap (b - m)==(1:Int))→Br a_2 (HIs [HObj.box md tb [SV.data (K.flt f64).slice bed],HObj.row Md.rw ty3 (K.int i64) xs]
 [HObj.box md tb [SV.data (K.flt f64).slice bed],HObj.row Md.rw ty3 (K.int i64) xs]∧∃ (I:Int × Int × Unit→Unit→Prop),∃ (μ:Int × Int × Unit→Unit →
 Nat),I (a,m,()) ()∧∀ (x:Int × Int × Unit) (y:Unit),I x y→∀ (a:Bool),a=decide (x.fst<x.snd.fst)→Br a (∃ (h:(0:Int)≤(1:Int)),∃ (h:(0:Int)≤m∧m <
 (↑xs.length:Int)),∃ (h:(0:Int)≤i64.wrap ((u64.wrap (i64.wrap (x.fst+x.snd.fst))).fdiv ((2:Int) ^ Min.min (Int.toNat (1:Int))
 u64.bits))∧i64.wrap ((u64.wrap (i64.wrap (x.fst+x.snd.fst))).fdiv ((2:Int) ^ Min.min (Int.toNat (1:Int)) u64.bits))<(↑xs.length :
 Int)),∃ (h:WCmp (xs.getD ((0:Nat)+m.toNat) (0:Int)) (xs.getD ((0:Nat)+(i64.wrap ((u64.wrap (i64.wrap (x.fst+x.snd.fst))).fdiv ((2:Int) ^
 Min.min (Int.toNat (1:Int)) u64.bits))).toNat) (0:Int)) (some bed)),∀ (a:Int × Unit),a=Z7n (xs.getD ((0:Nat)+m.toNat) (0:Int)) (xs.getD ((0:Nat)
 + (i64.wrap ((u64.wrap (i64.wrap (x.fst+x.snd.fst))).fdiv ((2:Int) ^ Min.min (Int.toNat (1:Int)) u64.bits))).toNat) (0:Int)) (some
 bed)→∀ (a_3:Bool),a_3=decide (a.fst<(0:Int))→Br (!a_3) (HIs [HObj.box md tb [SV.data (K.flt f64).slice bed],HObj.row Md.rw ty3 (K.int i64) xs]
 [HObj.box md tb [SV.data (K.flt f64).slice bed],HObj.row Md.rw ty3 (K.int i64) xs]∧I (i64.wrap (i64.wrap ((u64.wrap
 (i64.wrap (x.fst+x.snd.fst))).fdiv ((2:Int) ^ Min.min (Int.toNat (1:Int)) u64.bits))+(1:Int)),x.snd.fst,()) ()∧μ (i64.wrap (i64.wrap
 ((u64.wrap (i64.wrap (x.fst+x.snd.fst))).fdiv ((2:Int) ^ Min.min (Int.toNat (1:Int)) u64.bits))+(1:Int)),x.snd.fst,()) ()<μ x y) (HIs
 [HObj.box md tb [SV.data (K.flt f64).slice bed],HObj.row Md.rw ty3 (K.int i64) xs] [HObj.box md tb [SV.data (K.flt f64).slice bed],HObj.row
 Md.rw ty3 (K.int i64) xs]∧I (x.fst,i64.wrap ((u64.wrap (i64.wrap (x.fst+x.snd.fst))).fdiv ((2:Int) ^ Min.min (Int.toNat (1:Int))
 u64.bits)),()) ()∧μ (x.fst,i64.wrap ((u64.wrap (i64.wrap (x.fst+x.snd.fst))).fdiv ((2:Int) ^ Min.min (Int.toNat (1:Int))
 u64.bits)),()) ()<μ x y)) (HIs [HObj.box md tb [SV.data (K.flt f64).slice bed],HObj.row Md.rw ty3 (K.int i64) xs] [HObj.box md tb [SV.data (K.flt
 f64).slice bed],HObj.row Md.rw ty3 (K.int i64) xs]∧∃ (I:Int × Unit→List Int × Unit→Prop),∃ (μ:Int × Unit→List Int × Unit→Nat),I (m,()) (xs,
 ())∧∀ (x_3:Int × Unit) (y:List Int × Unit),I x_3 y→∀ (a:Bool),a=decide (x_3.fst > x.fst)→Br a (∃ (h:(0:Int)≤i64.wrap (x_3.fst - (1:Int)) ∧
 i64.wrap (x_3.fst - (1:Int))<(↑xs.length:Int)),∃ (h:(0:Int)≤x_3.fst∧x_3.fst<(↑xs.length:Int)),∃ (h:(0:Int)≤x_3.fst∧x_3.fst<(↑xs.length :
 Int)),∃ (h:(0:Int)≤i64.wrap (x_3.fst - (1:Int))∧i64.wrap (x_3.fst - (1:Int))<(↑xs.length:Int)),HIs [HObj.box md tb [SV.data (K.flt
 f64).slice bed],HObj.row Md.rw ty3 (K.int i64) ((y.fst.set ((0:Nat)+x_3.fst.toNat) (y.fst.getD ((0:Nat)+(i64.wrap (x_3.fst - (1 :
 Int))).toNat) (0:Int))).set ((0:Nat)+(i64.wrap (x_3.fst - (1:Int))).toNat) (y.fst.getD ((0:Nat)+x_3.fst.toNat) (0:Int)))] [HObj.box md tb [SV.data (K.flt
 f64).slice bed],HObj.row Md.rw ty3 (K.int i64) ((y.fst.set ((0:Nat)+x_3.fst.toNat) (y.fst.getD ((0:Nat)+(i64.wrap (x_3.fst - (1 :
 Int))).toNat) (0:Int))).set ((0:Nat)+(i64.wrap (x_3.fst - (1:Int))).toNat) (y.fst.getD ((0:Nat)+x_3.fst.toNat) (0:Int)))]∧I (i64.wrap (x_3.fst - (1
 : Int)),()) ((y.fst.set ((0:Nat)+x_3.fst.toNat) (y.fst.getD ((0:Nat)+(i64.wrap (x_3.fst - (1:Int))).toNat) (0:Int))).set ((0:Nat)+(i64.wrap
 (x_3.fst - (1:Int))).toNat) (y.fst.getD ((0:Nat)+x_3.fst.toNat) (0:Int)),())∧μ (i64.wrap (x_3.fst - (1:Int)),()) ((y.fst.set ((0:Nat)+x_3.fst.toNat)
 (y.fst.getD ((0:Nat)+(i64.wrap (x_3.fst - (1:Int))).toNat) (0:Int))).set ((0:Nat)+(i64.wrap (x_3.fst - (1:Int))).toNat) (y.fst.getD ((0:Nat) +
 x_3.fst.toNat) (0:Int)),())<μ x_3 y) (k (EV.tup []) [HObj.box md tb [SV.data (K.flt f64).slice bed],HObj.row Md.rw ty3 (K.int i64) y.fst]))) (∃ (h:(0
 : Int)≤(1:Int)),∃ (post:Int × Int × Unit→Unit→Prop),(∀ (a_3:Bool),a_3=decide (m > i64.wrap ((u64.wrap (i64.wrap (a+b))).fdiv ((2:Int)
 ^ Min.min (Int.toNat (1:Int)) u64.bits)))→Br a_3 (HIs [HObj.box md tb [SV.data (K.flt f64).slice bed],HObj.row Md.rw ty3 (K.int i64) xs]
 [HObj.box md tb [SV.data (K.flt f64).slice bed],HObj.row Md.rw ty3 (K.int i64) xs]∧post (i64.wrap (i64.wrap (i64.wrap
 ((u64.wrap (i64.wrap (a+b))).fdiv ((2:Int) ^ Min.min (Int.toNat (1:Int)) u64.bits))+m) - b),i64.wrap ((u64.wrap (i64.wrap
 (a+b))).fdiv ((2:Int) ^ Min.min (Int.toNat (1:Int)) u64.bits)),()) ()) (HIs [HObj.box md tb [SV.data (K.flt f64).slice bed],HObj.row Md.rw ty3 (K.int
 i64) xs] [HObj.box md tb [SV.data (K.flt f64).slice bed],HObj.row Md.rw ty3 (K.int i64) xs]∧post (a,m,()) ()))∧∀ (x:Int × Int × Unit) (y :
 Unit),post x y→HIs [HObj.box md tb [SV.data (K.flt f64).slice bed],HObj.row Md.rw ty3 (K.int i64) xs] [HObj.box md tb [SV.data (K.flt
 f64).slice bed],HObj.row Md.rw ty3 (K.int i64) xs]∧∃ (I:Int × Int × Unit→Unit→Prop),∃ (μ:Int × Int × Unit→Unit→Nat),I (x.fst,x.snd.fst,())
 ()∧∀ (x:Int × Int × Unit) (y:Unit),I x y→∀ (a_3:Bool),a_3=decide (x.fst<x.snd.fst)→Br a_3 (∃ (h:(0:Int)≤(1:Int)),∃ (h:(0:Int)≤i64.wrap
 (i64.wrap (i64.wrap (i64.wrap ((u64.wrap (i64.wrap (a+b))).fdiv ((2:Int) ^ Min.min (Int.toNat (1:Int)) u64.bits))+m) - (1 :
 Int)) - i64.wrap ((u64.wrap (i64.wrap (x.fst+x.snd.fst))).fdiv ((2:Int) ^ Min.min (Int.toNat (1:Int)) u64.bits)))∧i64.wrap
 (i64.wrap (i64.wrap (i64.wrap ((u64.wrap (i64.wrap (a+b))).fdiv ((2:Int) ^ Min.min (Int.toNat (1:Int)) u64.bits))+m) - (1 :
 Int)) - i64.wrap ((u64.wrap (i64.wrap (x.fst+x.snd.fst))).fdiv ((2:Int) ^ Min.min (Int.toNat (1:Int)) u64.bits)))<(↑xs.length:Int)),∃ (h
 : (0:Int)≤i64.wrap ((u64.wrap (i64.wrap (x.fst+x.snd.fst))).fdiv ((2:Int) ^ Min.min (Int.toNat (1:Int)) u64.bits))∧i64.wrap
 ((u64.wrap (i64.wrap (x.fst+x.snd.fst))).fdiv ((2:Int) ^ Min.min (Int.toNat (1:Int)) u64.bits))<(↑xs.length:Int)),∃ (h:WCmp (xs.getD ((0 :
 Nat)+(i64.wrap (i64.wrap (i64.wrap (i64.wrap ((u64.wrap (i64.wrap (a+b))).fdiv ((2:Int) ^ Min.min (Int.toNat (1:Int))
 u64.bits))+m) - (1:Int)) - i64.wrap ((u64.wrap (i64.wrap (x.fst+x.snd.fst))).fdiv ((2:Int) ^ Min.min (Int.toNat (1:Int))
 u64.bits)))).toNat) (0:Int)) (xs.getD ((0:Nat)+(i64.wrap ((u64.wrap (i64.wrap (x.fst+x.snd.fst))).fdiv ((2:Int) ^ Min.min (Int.toNat (1 :
 Int)) u64.bits))).toNat) (0:Int)) (some bed)),∀ (a_4:Int × Unit),a_4=Z7n (xs.getD ((0:Nat)+(i64.wrap (i64.wrap (i64.wrap
 (i64.wrap ((u64.wrap (i64.wrap (a+b))).fdiv ((2:Int) ^ Min.min (Int.toNat (1:Int)) u64.bits))+m) - (1:Int)) - i64.wrap
 ((u64.wrap (i64.wrap (x.fst+x.snd.fst))).fdiv ((2:Int) ^ Min.min (Int.toNat (1:Int)) u64.bits)))).toNat) (0:Int)) (xs.getD ((0:Nat) +
 (i64.wrap ((u64.wrap (i64.wrap (x.fst+x.snd.fst))).fdiv ((2:Int) ^ Min.min (Int.toNat (1:Int)) u64.bits))).toNat) (0:Int)) (some
 bed)→∀ (a:Bool),a=decide (a_4.fst<(0:Int))→Br (!a) (HIs [HObj.box md tb [SV.data (K.flt f64).slice bed],HObj.row Md.rw ty3 (K.int i64) xs]
 [HObj.box md tb [SV.data (K.flt f64).slice bed],HObj.row Md.rw ty3 (K.int i64) xs]∧I (i64.wrap (i64.wrap ((u64.wrap
 (i64.wrap (x.fst+x.snd.fst))).fdiv ((2:Int) ^ Min.min (Int.toNat (1:Int)) u64.bits))+(1:Int)),x.snd.fst,()) ()∧μ (i64.wrap (i64.wrap
 ((u64.wrap (i64.wrap (x.fst+x.snd.fst))).fdiv ((2:Int) ^ Min.min (Int.toNat (1:Int)) u64.bits))+(1:Int)),x.snd.fst,()) ()<μ x y) (HIs
 [HObj.box md tb [SV.data (K.flt f64).slice bed],HObj.row Md.rw ty3 (K.int i64) xs] [HObj.box md tb [SV.data (K.flt f64).slice bed],HObj.row
 Md.rw ty3 (K.int i64) xs]∧I (x.fst,i64.wrap ((u64.wrap (i64.wrap (x.fst+x.snd.fst))).fdiv ((2:Int) ^ Min.min (Int.toNat (1:Int))
 u64.bits)),()) ()∧μ (x.fst,i64.wrap ((u64.wrap (i64.wrap (x.fst+x.snd.fst))).fdiv ((2:Int) ^ Min.min (Int.toNat (1:Int))
 u64.bits)),()) ()<μ x y)) (∃ (post:Unit→List Int × Unit→Prop),(∀ (a_4:Bool),a_4=decide (x.fst<m)→Br a_4 (∀ (a_5:Bool),a_5=decide (m <
 i64.wrap (i64.wrap (i64.wrap ((u64.wrap (i64.wrap (a+b))).fdiv ((2:Int) ^ Min.min (Int.toNat (1:Int)) u64.bits))+m) -
 x.fst))→Br a_5 (∃ (x_6:(ty3=ty3)∧xs.length=xs.length∧xs.length≤maxN∧(0:Int)≤x.fst∧x.fst<m∧m<i64.wrap (i64.wrap (i64.wrap
 ((u64.wrap (i64.wrap (a+b))).fdiv ((2:Int) ^ Min.min (Int.toNat (1:Int)) u64.bits))+m) - x.fst)∧i64.wrap (i64.wrap
 (i64.wrap ((u64.wrap (i64.wrap (a+b))).fdiv ((2:Int) ^ Min.min (Int.toNat (1:Int)) u64.bits))+m) - x.fst)≤(↑xs.length:Int)),∀ (ys :
 List Int),ys=Z22 xs (rotI x.fst.toNat m.toNat (i64.wrap (i64.wrap (i64.wrap ((u64.wrap (i64.wrap (a+b))).fdiv ((2:Int) ^ Min.min
 (Int.toNat (1:Int)) u64.bits))+m) - x.fst)).toNat)∧ys.Perm xs→HIs [HObj.box md tb [SV.data (K.flt f64).slice bed],HObj.row Md.rw ty3 (K.int
 i64) ys] [HObj.box md tb [SV.data (K.flt f64).slice bed],HObj.row Md.rw ty3 (K.int i64) ys]∧post () (ys,())) (HIs [HObj.box md tb [SV.data (K.flt
 f64).slice bed],HObj.row Md.rw ty3 (K.int i64) xs] [HObj.box md tb [SV.data (K.flt f64).slice bed],HObj.row Md.rw ty3 (K.int i64) xs] ∧
 post () (xs,()))) (HIs [HObj.box md tb [SV.data (K.flt f64).slice bed],HObj.row Md.rw ty3 (K.int i64) xs] [HObj.box md tb [SV.data (K.flt
 f64).slice bed],HObj.row Md.rw ty3 (K.int i64) xs]∧post () (xs,())))∧∀ (x_4:Unit) (y:List Int × Unit),post x_4 y→∃ (post:Unit→List Int × Unit
 → Prop),(∀ (a_4:Bool),a_4=decide (a<x.fst)→Br a_4 (∀ (a_5:Bool),a_5=decide (x.fst<i64.wrap ((u64.wrap (i64.wrap (a+b))).fdiv ((2:Int)
 ^ Min.min (Int.toNat (1:Int)) u64.bits)))→Br a_5 (∃ (x:(ty3=ty3)∧(fn72=fn72)∧xs.length=y.fst.length∧Z2f bed y.fst∧(0:Int)≤a∧a<x.fst∧x.fst <
 i64.wrap ((u64.wrap (i64.wrap (a+b))).fdiv ((2:Int) ^ Min.min (Int.toNat (1:Int)) u64.bits))∧i64.wrap ((u64.wrap
 (i64.wrap (a+b))).fdiv ((2:Int) ^ Min.min (Int.toNat (1:Int)) u64.bits))≤(↑y.fst.length:Int)∧(i64.wrap ((u64.wrap (i64.wrap (a
 + b))).fdiv ((2:Int) ^ Min.min (Int.toNat (1:Int)) u64.bits)) - a).toNat<N∧Sgm (keyB bed) y.fst a.toNat x.fst.toNat∧Sgm (keyB bed) y.fst x.fst.toNat
 (i64.wrap ((u64.wrap (i64.wrap (a+b))).fdiv ((2:Int) ^ Min.min (Int.toNat (1:Int)) u64.bits))).toNat),∀ (ys:List Int),Rr (keyB bed)
 a.toNat (i64.wrap ((u64.wrap (i64.wrap (a+b))).fdiv ((2:Int) ^ Min.min (Int.toNat (1:Int)) u64.bits))).toNat y.fst ys∧Sgm (keyB bed) ys
 a.toNat (i64.wrap ((u64.wrap (i64.wrap (a+b))).fdiv ((2:Int) ^ Min.min (Int.toNat (1:Int)) u64.bits))).toNat→HIs [HObj.box md tb [SV.data
 (K.flt f64).slice bed],HObj.row Md.rw ty3 (K.int i64) ys] [HObj.box md tb [SV.data (K.flt f64).slice bed],HObj.row Md.rw ty3 (K.int
 i64) ys]∧post () (ys,())) (HIs [HObj.box md tb [SV.data (K.flt f64).slice bed],HObj.row Md.rw ty3 (K.int i64) y.fst] [HObj.box md tb [SV.data
 (K.flt f64).slice bed],HObj.row Md.rw ty3 (K.int i64) y.fst]∧post () (y.fst,()))) (HIs [HObj.box md tb [SV.data (K.flt f64).slice bed],
 HObj.row Md.rw ty3 (K.int i64) y.fst] [HObj.box md tb [SV.data (K.flt f64).slice bed],HObj.row Md.rw ty3 (K.int i64) y.fst]∧post () (y.fst,()))) ∧
 ∀ (x_6:Unit) (y:List Int × Unit),post x_6 y→∀ (a_4:Bool),a_4=decide (i64.wrap ((u64.wrap (i64.wrap (a+b))).fdiv ((2:Int) ^ Min.min
 (Int.toNat (1:Int)) u64.bits))<i64.wrap (i64.wrap (i64.wrap ((u64.wrap (i64.wrap (a+b))).fdiv ((2:Int) ^ Min.min (Int.toNat
 (1:Int)) u64.bits))+m) - x.fst))→Br a_4 (∀ (a_5:Bool),a_5=decide (i64.wrap (i64.wrap (i64.wrap ((u64.wrap (i64.wrap (a +
 b))).fdiv ((2:Int) ^ Min.min (Int.toNat (1:Int)) u64.bits))+m) - x.fst)<b)→Br a_5 (∃ (x:(ty3=ty3)∧(fn72=fn72)∧xs.length=y.fst.length∧Z2f bed
 y.fst∧(0:Int)≤i64.wrap ((u64.wrap (i64.wrap (a+b))).fdiv ((2:Int) ^ Min.min (Int.toNat (1:Int)) u64.bits))∧i64.wrap
 ((u64.wrap (i64.wrap (a+b))).fdiv ((2:Int) ^ Min.min (Int.toNat (1:Int)) u64.bits))<i64.wrap (i64.wrap (i64.wrap
 ((u64.wrap (i64.wrap (a+b))).fdiv ((2:Int) ^ Min.min (Int.toNat (1:Int)) u64.bits))+m) - x.fst)∧i64.wrap (i64.wrap
 (i64.wrap ((u64.wrap (i64.wrap (a+b))).fdiv ((2:Int) ^ Min.min (Int.toNat (1:Int)) u64.bits))+m) - x.fst)<b∧b≤(↑y.fst.length:Int) ∧
 (b - i64.wrap ((u64.wrap (i64.wrap (a+b))).fdiv ((2:Int) ^ Min.min (Int.toNat (1:Int)) u64.bits))).toNat<N∧Sgm (keyB bed) y.fst
 (i64.wrap ((u64.wrap (i64.wrap (a+b))).fdiv ((2:Int) ^ Min.min (Int.toNat (1:Int)) u64.bits))).toNat (i64.wrap (i64.wrap
 (i64.wrap ((u64.wrap (i64.wrap (a+b))).fdiv ((2:Int) ^ Min.min (Int.toNat (1:Int)) u64.bits))+m) - x.fst)).toNat∧Sgm (keyB bed) y.fst
 (i64.wrap (i64.wrap (i64.wrap ((u64.wrap (i64.wrap (a+b))).fdiv ((2:Int) ^ Min.min (Int.toNat (1:Int)) u64.bits))+m) -
 x.fst)).toNat b.toNat),∀ (ys:List Int),Rr (keyB bed) (i64.wrap ((u64.wrap (i64.wrap (a+b))).fdiv ((2:Int) ^ Min.min (Int.toNat (1:Int))
 u64.bits))).toNat b.toNat y.fst ys∧Sgm (keyB bed) ys (i64.wrap ((u64.wrap (i64.wrap (a+b))).fdiv ((2:Int) ^ Min.min (Int.toNat (1:Int))
 u64.bits))).toNat b.toNat→k (EV.tup []) [HObj.box md tb [SV.data (K.flt f64).slice bed],HObj.row Md.rw ty3 (K.int i64) ys]) (k (EV.tup [])
 [HObj.box md tb [SV.data (K.flt f64).slice bed],HObj.row Md.rw ty3 (K.int i64) y.fst])) (k (EV.tup []) [HObj.box md tb [SV.data (K.flt
 f64).slice bed],HObj.row Md.rw ty3 (K.int i64) y.fst]))))
theorem Z18y (ty0 ty1:Nat) (md:Md) (tb N:Nat) (bed:List Nat) (xs:List Int) (a m b:Int) (k:EV→List HObj→Prop) (h:Z2f bed xs∧0≤a∧a<m∧m<b∧b≤(List.length xs:Int)∧(b - a).toNat<N+1∧Sgm (keyB bed) xs a.toNat m.toNat∧Sgm (keyB bed) xs m.toNat b.toNat) (hk:∀ ys:List Int,Rr (keyB bed) a.toNat b.toNat xs ys∧Sgm (keyB bed) ys a.toNat b.toNat→k (.tup []) [.box md tb [.data (.slice (.flt .f64)) bed],.row .rw ty0 (.int .i64) ys]):Zmj ty0 ty1 md tb N bed xs a m b k:=by
 unfold Zmj
 obtain ⟨bo,ha,ham,hmb,hb,hN,hs1,hs2⟩:=h
 have mx:maxN=281474976710656:=rfl
 have hmx:=bo.2.2
 obtain ⟨A,rfl⟩:∃ q:Nat,a=(q:Int):=⟨a.toNat,by omega⟩
 obtain ⟨M,rfl⟩:∃ q:Nat,m=(q:Int):=⟨m.toNat,by omega⟩
 obtain ⟨B,rfl⟩:∃ q:Nat,b=(q:Int):=⟨b.toNat,by omega⟩
 simp only [Int.toNat_natCast] at hk hs1 hs2
 have ham:A<M:=by omega
 have hmb:M<B:=by omega
 have hb:B≤xs.length:=by omega
 have wsub:∀ u v:Nat,v≤u→u≤2*xs.length→i64.wrap ((u:Int) - v)=((u - v:Nat):Int):=fun u v h1 h2=>by rw [Zt (by omega) (by omega)]; omega
 have whalf:∀ u v:Nat,u≤xs.length→v≤xs.length→i64.wrap ((u64.wrap (i64.wrap ((u:Int)+v))).fdiv (2 ^ Min.min (Int.toNat 1) u64.bits))=(((u+v) / 2:Nat):Int):=fun u v h1 h2=>by
  rw [Z18g (by omega) (by omega)]; omega
 have wadd:∀ u:Nat,u≤xs.length→i64.wrap ((u:Int)+1)=((u+1:Nat):Int):=fun u h1=>by rw [Zt (by omega) (by omega)]; omega
 rw [wsub M A (by omega) (by omega),wsub B M (by omega) (by omega),whalf A B (by omega) (by omega)]
 have wdec:∀ u:Nat,1≤u→u≤2*xs.length→i64.wrap ((u:Int) - 1)=((u - 1:Nat):Int):=fun u h1 h2=>by rw [Zt (by omega) (by omega)]; omega
 have dle:∀ u v:Nat,decide ((u:Int)<v)=true→u<v:=fun u v d=>by have d:(u:Int)<v:=of_decide_eq_true d; omega
 have dge:∀ u v:Nat,decide ((u:Int)<v)=false→v≤u:=fun u v d=>by have d:¬ (u:Int)<v:=of_decide_eq_false d; omega
 rintro _ rfl
 refine Br.intro (fun e=>?_) fun e=>?_
 ·have e:M=A+1:=by
   have e:((M - A:Nat):Int)=1:=by simpa using e
   omega
  refine ⟨rfl,fun x _=>∃ i j:Nat,x.1=i∧x.2.1=j∧M≤i∧i≤j∧j≤B∧(∀ p,M≤p→p<i→keyB bed (at0 xs p)<keyB bed (at0 xs A))∧(∀ p,j≤p→p<B→keyB bed (at0 xs A)≤keyB bed (at0 xs p)),fun x _=>(x.2.1 - x.1).toNat,⟨M,B,rfl,rfl,by omega,by omega,by omega,fun p h1 h2=>by omega,fun p h1 h2=>by omega⟩,?_⟩
  rintro ⟨_,_,⟨⟩⟩ _ ⟨i,j,rfl,rfl,h1,h2,h3,hlo,hhi⟩
  dsimp only
  rintro _ rfl
  refine Br.intro (fun d=>?_) fun d=>?_
  ·have d:=dle _ _ d
   obtain ⟨c,hc⟩:∃ c,(i+j) / 2=c:=⟨_,rfl⟩
   rw [whalf i j (by omega) (by omega),hc,Int.toNat_natCast,Int.toNat_natCast,Nat.zero_add,Nat.zero_add,wadd c (by omega)]
   refine ⟨by decide,⟨by omega,by omega⟩,⟨by omega,by omega⟩,bo.cmp (by omega) (by omega),?_⟩
   rintro _ rfl
   rintro _ rfl
   refine Br.intro (fun q=>?_) fun q=>?_
   ·have q:keyB bed (at0 xs c)<keyB bed (at0 xs A):=(Z5c _ _ _).1 (of_decide_eq_true q)
    refine ⟨rfl,⟨c+1,j,rfl,rfl,by omega,by omega,h3,fun p h1 h2=>?_,hhi⟩,by omega⟩
    have:=Za6 hs2 (i:=p) (j:=c) h1 (by omega) (by omega)
    omega
   ·have q:¬ keyB bed (at0 xs c)<keyB bed (at0 xs A):=fun w=>of_decide_eq_false q ((Z5c _ _ _).2 w)
    refine ⟨rfl,⟨i,c,rfl,rfl,h1,by omega,by omega,hlo,fun p h1 h2=>?_⟩,by omega⟩
    have:=Za6 hs2 (i:=c) (j:=p) (by omega) (by omega) (by omega)
    omega
  have d:=dge _ _ d
  have ij:i=j:=by omega
  subst ij
  refine ⟨rfl,fun x y=>∃ k:Nat,x.1=k∧A≤k∧k≤i - 1∧Rr (keyB bed) A B xs y.1∧ShU xs y.1 A k,fun x _=>i - 1 - x.1.toNat,⟨A,rfl,by omega,by omega,.refl _ _ _,.start _ _⟩,?_⟩
  rintro ⟨_,⟨⟩⟩ ⟨y,⟨⟩⟩ ⟨k,rfl,k1,k2,hr,hu⟩
  dsimp only at hr hu ⊢
  have ly:=hr.len
  rw [wdec i (by omega) (by omega)]
  rintro _ rfl
  refine Br.intro (fun d=>?_) fun d=>?_
  ·have d:=dle _ _ d
   rw [wadd k (by omega),Int.toNat_natCast,Int.toNat_natCast,Nat.zero_add,Nat.zero_add]
   have q:keyB bed (at0 y (k+1))<keyB bed (at0 y k):=by
    rw [hu (k+1),hu k,if_neg (by omega),if_neg (by omega),if_neg (by omega),if_pos rfl]
    exact hlo _ (by omega) (by omega)
   have hst:(y.set k (at0 y (k+1))).set (k+1) (at0 y k)=swp y (k+1) k:=Z1ab (by omega)
   refine ⟨⟨by omega,by omega⟩,⟨by omega,by omega⟩,⟨by omega,by omega⟩,⟨by omega,by omega⟩,rfl,⟨k+1,rfl,by omega,by omega,?_,?_⟩,by omega⟩
   ·show Rr (keyB bed) A B xs ((y.set k (at0 y (k+1))).set (k+1) (at0 y k))
    rw [hst]; exact hr.trans (Z11d (by omega) (by omega) (by omega) q)
   ·show ShU xs ((y.set k (at0 y (k+1))).set (k+1) (at0 y k)) A (k+1)
    rw [hst]; exact hu.step ly (by omega) (by omega)
  have d:=dge _ _ d
  have ek:k=i - 1:=by omega
  subst ek
  exact hk _ ⟨hr,hu.done (by omega) h3 (by rw [← e]; exact hs2) (fun p h1 h2=>hlo p (by omega) h2) hhi⟩
 rintro _ rfl
 refine Br.intro (fun e2=>?_) fun e2=>?_
 ·have e2:B=M+1:=by
   have e2:((B - M:Nat):Int)=1:=by simpa using e2
   omega
  refine ⟨rfl,fun x _=>∃ i j:Nat,x.1=i∧x.2.1=j∧A≤i∧i≤j∧j≤M∧(∀ p,A≤p→p<i→keyB bed (at0 xs p)≤keyB bed (at0 xs M))∧(∀ p,j≤p→p<M→keyB bed (at0 xs M)<keyB bed (at0 xs p)),fun x _=>(x.2.1 - x.1).toNat,⟨A,M,rfl,rfl,by omega,by omega,by omega,fun p h1 h2=>by omega,fun p h1 h2=>by omega⟩,?_⟩
  rintro ⟨_,_,⟨⟩⟩ _ ⟨i,j,rfl,rfl,h1,h2,h3,hlo,hhi⟩
  dsimp only
  rintro _ rfl
  refine Br.intro (fun d=>?_) fun d=>?_
  ·have d:=dle _ _ d
   obtain ⟨c,hc⟩:∃ c,(i+j) / 2=c:=⟨_,rfl⟩
   rw [whalf i j (by omega) (by omega),hc,Int.toNat_natCast,Int.toNat_natCast,Nat.zero_add,Nat.zero_add,wadd c (by omega)]
   refine ⟨by decide,⟨by omega,by omega⟩,⟨by omega,by omega⟩,bo.cmp (by omega) (by omega),?_⟩
   rintro _ rfl
   rintro _ rfl
   refine Br.intro (fun q=>?_) fun q=>?_
   ·have q:¬ keyB bed (at0 xs M)<keyB bed (at0 xs c):=fun w=>by
     have:decide ((Z7n (at0 xs M) (at0 xs c) (some bed)).fst<0)=true:=decide_eq_true ((Z5c _ _ _).2 w)
     unfold at0 at this
     rw [this] at q; exact absurd q (by decide)
    refine ⟨rfl,⟨c+1,j,rfl,rfl,by omega,by omega,h3,fun p h1 h2=>?_,hhi⟩,by omega⟩
    have:=Za6 hs1 (i:=p) (j:=c) h1 (by omega) (by omega)
    omega
   ·have q:keyB bed (at0 xs M)<keyB bed (at0 xs c):=(Z5c _ _ _).1 (by
     have q:decide ((Z7n (at0 xs M) (at0 xs c) (some bed)).fst<0)=true:=by simpa using q
     exact of_decide_eq_true q)
    refine ⟨rfl,⟨i,c,rfl,rfl,h1,by omega,by omega,hlo,fun p h1 h2=>?_⟩,by omega⟩
    have:=Za6 hs1 (i:=c) (j:=p) (by omega) (by omega) (by omega)
    omega
  have d:=dge _ _ d
  have ij:i=j:=by omega
  subst ij
  refine ⟨rfl,fun x y=>∃ k:Nat,x.1=k∧i≤k∧k≤M∧Rr (keyB bed) A B xs y.1∧ShD xs y.1 M k,fun x _=>x.1.toNat,⟨M,rfl,by omega,by omega,.refl _ _ _,.start _ _⟩,?_⟩
  rintro ⟨_,⟨⟩⟩ ⟨y,⟨⟩⟩ ⟨k,rfl,k1,k2,hr,hu⟩
  dsimp only at hr hu ⊢
  have ly:=hr.len
  rintro _ rfl
  refine Br.intro (fun d=>?_) fun d=>?_
  ·have d:=dle _ _ d
   obtain ⟨k',rfl⟩:∃ k',k=k'+1:=⟨k - 1,by omega⟩
   rw [wdec (k'+1) (by omega) (by omega),show k'+1 - 1=k' by omega,Int.toNat_natCast,Int.toNat_natCast,Nat.zero_add,Nat.zero_add]
   have q:keyB bed (at0 y (k'+1))<keyB bed (at0 y k'):=by
    rw [hu (k'+1),hu k',if_neg (by omega),if_pos rfl,if_neg (by omega),if_neg (by omega)]
    exact hhi _ (by omega) (by omega)
   exact ⟨⟨by omega,by omega⟩,⟨by omega,by omega⟩,⟨by omega,by omega⟩,⟨by omega,by omega⟩,rfl,⟨k',rfl,by omega,by omega,hr.trans (Z11d (by omega) (by omega) (by omega) q),hu.step ly (by omega) (by omega)⟩,by omega⟩
  have d:=dge _ _ d
  have ek:k=i:=by omega
  subst ek
  rw [e2] at hk
  rw [e2] at hr
  exact hk _ ⟨hr,hu.done h1 h3 hs1 hlo hhi⟩
 obtain ⟨mid,hm⟩:∃ mid,mid=(A+B) / 2:=⟨_,rfl⟩
 rw [← hm]
 refine ⟨by decide,fun x _=>∃ s0 r0:Nat,x.1=s0∧x.2.1=r0∧((M > mid∧s0+B=mid+M∧r0=mid)∨(M≤mid∧s0=A∧r0=M)),?_,?_⟩
 ·have wn:i64.wrap (i64.wrap ((mid:Int)+M) - B)=((mid+M - B:Nat):Int)∨M≤mid:=by
   by_cases q:M≤mid
   ·exact .inr q
   ·exact .inl (by rw [Zt (x:=(mid:Int)+M) (by omega) (by omega),Zt (by omega) (by omega)]; omega)
  rintro _ rfl
  refine Br.intro (fun d=>?_) fun d=>?_
  ·have d:=dle _ _ d
   rcases wn with wn | wn
   ·rw [wn]; exact ⟨rfl,_,_,rfl,rfl,.inl ⟨d,by omega,rfl⟩⟩
   ·omega
  ·have d:=dge _ _ d
   exact ⟨rfl,_,_,rfl,rfl,.inr ⟨d,rfl,rfl⟩⟩
 rintro ⟨_,_,⟨⟩⟩ _ ⟨s0,r0,rfl,rfl,h0⟩
 dsimp only
 have h00:A≤s0∧s0≤r0∧r0≤M∧∀ q,s0≤q→q<r0→M≤mid+M - 1 - q∧mid+M - 1 - q<B∧q≤mid+M - 1:=by
  rcases h0 with h0 | h0
  ·exact ⟨by omega,by omega,by omega,fun q q1 q2=>by omega⟩
  ·exact ⟨by omega,by omega,by omega,fun q q1 q2=>by omega⟩
 obtain ⟨h01,h02,h03,h04⟩:=h00
 refine ⟨rfl,fun x _=>∃ s r:Nat,x.1=s∧x.2.1=r∧s0≤s∧s≤r∧r≤r0∧(∀ q,s0≤q→q<s→keyB bed (at0 xs q)≤keyB bed (at0 xs (mid+M - 1 - q)))∧(∀ q,r≤q→q<r0→keyB bed (at0 xs (mid+M - 1 - q))<keyB bed (at0 xs q)),fun x _=>(x.2.1 - x.1).toNat,⟨s0,r0,rfl,rfl,by omega,by omega,by omega,fun q q1 q2=>by omega,fun q q1 q2=>by omega⟩,?_⟩
 rintro ⟨_,_,⟨⟩⟩ _ ⟨s,r,rfl,rfl,h1,h2,h3,hlo,hhi⟩
 dsimp only
 rintro _ rfl
 refine Br.intro (fun d=>?_) fun d=>?_
 ·have d:=dle _ _ d
  obtain ⟨c,hc⟩:∃ c,(s+r) / 2=c:=⟨_,rfl⟩
  obtain ⟨c1,c2,c3⟩:=h04 c (by omega) (by omega)
  have w3:i64.wrap (i64.wrap (i64.wrap ((mid:Int)+M) - 1) - c)=((mid+M - 1 - c:Nat):Int):=by
   rw [Zt (x:=(mid:Int)+M) (by omega) (by omega),Zt (x:=(mid:Int)+M - 1) (by omega) (by omega),Zt (by omega) (by omega)]; omega
  rw [whalf s r (by omega) (by omega),hc,w3,Int.toNat_natCast,Int.toNat_natCast,Nat.zero_add,Nat.zero_add,wadd c (by omega)]
  refine ⟨by decide,⟨by omega,by omega⟩,⟨by omega,by omega⟩,bo.cmp (by omega) (by omega),?_⟩
  rintro _ rfl
  rintro _ rfl
  refine Br.intro (fun q=>?_) fun q=>?_
  ·have q:¬ keyB bed (at0 xs (mid+M - 1 - c))<keyB bed (at0 xs c):=fun w=>by
    have:decide ((Z7n (at0 xs (mid+M - 1 - c)) (at0 xs c) (some bed)).fst<0)=true:=decide_eq_true ((Z5c _ _ _).2 w)
    unfold at0 at this
    rw [this] at q; exact absurd q (by decide)
   refine ⟨rfl,⟨c+1,r,rfl,rfl,by omega,by omega,h3,fun p p1 p2=>?_,hhi⟩,by omega⟩
   have:=Za6 hs1 (i:=p) (j:=c) (by omega) (by omega) (by omega)
   have:=Za6 hs2 (i:=mid+M - 1 - c) (j:=mid+M - 1 - p) (by omega) (by omega) (h04 p p1 (by omega)).2.1
   omega
  ·have q:keyB bed (at0 xs (mid+M - 1 - c))<keyB bed (at0 xs c):=(Z5c _ _ _).1 (by
    have q:decide ((Z7n (at0 xs (mid+M - 1 - c)) (at0 xs c) (some bed)).fst<0)=true:=by simpa using q
    exact of_decide_eq_true q)
   refine ⟨rfl,⟨s,c,rfl,rfl,h1,by omega,by omega,hlo,fun p p1 p2=>?_⟩,by omega⟩
   have:=Za6 hs1 (i:=c) (j:=p) (by omega) (by omega) (by omega)
   have:=Za6 hs2 (i:=mid+M - 1 - p) (j:=mid+M - 1 - c) (h04 p (by omega) p2).1 (by omega) (by omega)
   omega
 have d:=dge _ _ d
 have sr:s=r:=by omega
 subst sr
 have cd:=cutd hm ham hmb h0 hs1 hs2 h1 h3 hlo hhi
 obtain ⟨l1,l2,l3,l4⟩:=cd.le
 have we:i64.wrap (i64.wrap ((mid:Int)+M) - s)=((mid+M - s:Nat):Int):=by rw [Zt (x:=(mid:Int)+M) (by omega) (by omega),Zt (by omega) (by omega)]; omega
 rw [we]
 have smid:A≤s∧s≤mid∧mid<B∧A<mid∧mid≤mid+M - s:=by omega
 refine ⟨fun _ y=>Trnd (keyB bed) xs y.1 A M B s (mid+M - s) mid,?_,?_⟩
 ·have same:s=M∨M=mid+M - s→Trnd (keyB bed) xs xs A M B s (mid+M - s) mid:=fun q=>trnd cd hm ham hmb hb hs1 hs2 (.refl _) (Z18h l2 l3 q).symm
  rintro _ rfl
  refine Br.intro (fun d=>?_) fun d=>⟨rfl,same (.inl (by have:=dge _ _ d; omega))⟩
  have d:=dle _ _ d
  rintro _ rfl
  refine Br.intro (fun d2=>?_) fun d2=>⟨rfl,same (.inr (by have:=dge _ _ d2; omega))⟩
  have d2:=dle _ _ d2
  refine ⟨⟨rfl,rfl,hmx,by omega,by omega,by omega,by omega⟩,?_⟩
  simp only [Int.toNat_natCast]
  rintro ys ⟨q1,q2⟩
  exact ⟨rfl,trnd cd hm ham hmb hb hs1 hs2 q2 q1⟩
 rintro _ ⟨y,⟨⟩⟩ ⟨hr,g1,g2,g3,g4,cr⟩
 dsimp only at hr g1 g2 g3 g4 cr ⊢
 have ly:=hr.len
 simp only [Int.toNat_natCast]
 have gA:s=A→Sgm (keyB bed) y A mid:=fun e=>by rw [← e]; exact g2
 have gM:s=mid→Sgm (keyB bed) y A mid:=fun e=>by rw [← e]; exact g1
 refine ⟨fun _ y=>Rr (keyB bed) A B xs y.1∧Sgm (keyB bed) y.1 A mid∧Sgm (keyB bed) y.1 mid (mid+M - s)∧Sgm (keyB bed) y.1 (mid+M - s) B∧Crs (keyB bed) y.1 A mid B,?_,?_⟩
 ·rintro _ rfl
  refine Br.intro (fun d=>?_) fun d=>⟨rfl,hr,gA (by have:=dge _ _ d; omega),g3,g4,cr⟩
  have d:=dle _ _ d
  rintro _ rfl
  refine Br.intro (fun d2=>?_) fun d2=>⟨rfl,hr,gM (by have:=dge _ _ d2; omega),g3,g4,cr⟩
  have d2:=dle _ _ d2
  refine ⟨⟨by trivial,by trivial,ly.symm,bo.perm hr.perm,by omega,by omega,by omega,by omega,by omega,g1,g2⟩,?_⟩
  rintro ys ⟨q1,q2⟩
  exact ⟨rfl,hr.trans (q1.wide (Nat.le_refl _) (by omega)),q2,q1.sgm g3 (.inr (Nat.le_refl _)),q1.sgm g4 (.inr (by omega)),cr.left q1⟩
 clear gA gM hr g1 g2 g3 g4 cr ly
 rintro _ ⟨y,⟨⟩⟩ ⟨hr,g1,g3,g4,cr⟩
 dsimp only at hr g1 g3 g4 cr ⊢
 have ly:=hr.len
 rintro _ rfl
 refine Br.intro (fun d=>?_) fun d=>hk _ ⟨hr,by
  have:=dge _ _ d
  have e:mid+M - s=mid:=by omega
  rw [e] at g4
  exact cr.join g1 g4⟩
 have d:=dle _ _ d
 rintro _ rfl
 refine Br.intro (fun d2=>?_) fun d2=>hk _ ⟨hr,by
  have:=dge _ _ d2
  have e:mid+M - s=B:=by omega
  rw [e] at g3
  exact cr.join g1 g3⟩
 have d2:=dle _ _ d2
 refine ⟨⟨by trivial,by trivial,ly.symm,bo.perm hr.perm,by omega,by omega,by omega,by omega,by omega,g3,g4⟩,?_⟩
 rintro ys ⟨q1,q2⟩
 exact hk _ ⟨hr.trans (q1.wide (by omega) (Nat.le_refl _)),(cr.right q1).join (q1.sgm g1 (.inl (Nat.le_refl _))) q2⟩
def Zmk:=fun (ty3 fn72:Nat) (m:Md) (tb N:Nat) (bed:List Nat) (xs:List Int) (n:Int) (k:EV→List HObj→Prop)=>HIs [HObj.box m tb [SV.data (K.flt
 f64).slice bed],HObj.row Md.rw ty3 (K.int i64) xs] [HObj.box m tb [SV.data (K.flt f64).slice bed],HObj.row Md.rw ty3 (K.int i64) xs] ∧
 ∃ (I:Int × Int × Unit→List Int × Unit→Prop),∃ (μ:Int × Int × Unit→List Int × Unit→Nat),I ((0:Int),(20:Int),()) (xs,())∧∀ (x:Int × Int × Unit) (y:List
 Int × Unit),I x y→∀ (a:Bool),a=decide (x.snd.fst≤n)→Br a (∃ (x_3:(ty3=ty3)∧(fn72=fn72)∧xs.length=y.fst.length∧Z2f bed y.fst∧(0:Int)≤x.fst∧x.fst
 ≤ x.snd.fst∧x.snd.fst≤(↑y.fst.length:Int)),∀ (ys:List Int),Rr (keyB bed) x.fst.toNat x.snd.fst.toNat y.fst ys∧Sgm (keyB bed) ys x.fst.toNat x.snd.fst.toNat→HIs
 [HObj.box m tb [SV.data (K.flt f64).slice bed],HObj.row Md.rw ty3 (K.int i64) ys] [HObj.box m tb [SV.data (K.flt f64).slice bed],HObj.row Md.rw
 ty3 (K.int i64) ys]∧I (x.snd.fst,i64.wrap (x.snd.fst+(20:Int)),()) (ys,())∧μ (x.snd.fst,i64.wrap (x.snd.fst+(20:Int)),()) (ys,())<μ x
 y) (∃ (x_3:(ty3=ty3)∧(fn72=fn72)∧xs.length=y.fst.length∧Z2f bed y.fst∧(0:Int)≤x.fst∧x.fst≤n∧n≤(↑y.fst.length:Int)),∀ (ys:List Int),Rr (keyB
 bed) x.fst.toNat n.toNat y.fst ys∧Sgm (keyB bed) ys x.fst.toNat n.toNat→HIs [HObj.box m tb [SV.data (K.flt f64).slice bed],HObj.row Md.rw ty3 (K.int i64)
 ys] [HObj.box m tb [SV.data (K.flt f64).slice bed],HObj.row Md.rw ty3 (K.int i64) ys]∧∃ (I:Int × Unit→List Int × Unit→Prop),∃ (μ:Int × Unit→List
 Int × Unit→Nat),I ((20:Int),()) (ys,())∧∀ (x:Int × Unit) (y:List Int × Unit),I x y→∀ (a:Bool),a=decide (x.fst<n)→Br a (HIs [HObj.box m tb [SV.data (K.flt
 f64).slice bed],HObj.row Md.rw ty3 (K.int i64) y.fst] [HObj.box m tb [SV.data (K.flt f64).slice bed],HObj.row Md.rw ty3 (K.int i64)
 y.fst]∧∃ (I_1:Int × Int × Unit→List Int × Unit→Prop),∃ (μ_1:Int × Int × Unit→List Int × Unit→Nat),I_1 ((0:Int),i64.wrap ((2:Int)*x.fst),()) (y.fst,
 ())∧∀ (x_6:Int × Int × Unit) (y_1:List Int × Unit),I_1 x_6 y_1→∀ (a:Bool),a=decide (x_6.snd.fst≤n)→Br a (∃ (x_9:(ty3=ty3)∧(fn72=fn72)∧xs.length =
 y_1.fst.length∧Z2f bed y_1.fst∧(0:Int)≤x_6.fst∧x_6.fst<i64.wrap (x_6.fst+x.fst)∧i64.wrap (x_6.fst+x.fst)<x_6.snd.fst∧x_6.snd.fst ≤
 (↑y_1.fst.length:Int)∧(x_6.snd.fst - x_6.fst).toNat<N∧Sgm (keyB bed) y_1.fst x_6.fst.toNat (i64.wrap (x_6.fst+x.fst)).toNat∧Sgm (keyB bed) y_1.fst
 (i64.wrap (x_6.fst+x.fst)).toNat x_6.snd.fst.toNat),∀ (ys:List Int),Rr (keyB bed) x_6.fst.toNat x_6.snd.fst.toNat y_1.fst ys∧Sgm (keyB bed) ys x_6.fst.toNat
 x_6.snd.fst.toNat→HIs [HObj.box m tb [SV.data (K.flt f64).slice bed],HObj.row Md.rw ty3 (K.int i64) ys] [HObj.box m tb [SV.data (K.flt
 f64).slice bed],HObj.row Md.rw ty3 (K.int i64) ys]∧I_1 (x_6.snd.fst,i64.wrap (x_6.snd.fst+i64.wrap ((2:Int)*x.fst)),()) (ys,()) ∧
 μ_1 (x_6.snd.fst,i64.wrap (x_6.snd.fst+i64.wrap ((2:Int)*x.fst)),()) (ys,())<μ_1 x_6 y_1) (∃ (post:Int × Unit→List Int × Unit→Prop),(∀ (a :
 Bool),a=decide (i64.wrap (x_6.fst+x.fst)<n)→Br a (∃ (x_10:(ty3=ty3)∧(fn72=fn72)∧xs.length=y_1.fst.length∧Z2f bed y_1.fst∧(0:Int)≤x_6.fst ∧
 x_6.fst<i64.wrap (x_6.fst+x.fst)∧i64.wrap (x_6.fst+x.fst)<n∧n≤(↑y_1.fst.length:Int)∧(n - x_6.fst).toNat<N∧Sgm (keyB bed) y_1.fst
 x_6.fst.toNat (i64.wrap (x_6.fst+x.fst)).toNat∧Sgm (keyB bed) y_1.fst (i64.wrap (x_6.fst+x.fst)).toNat n.toNat),∀ (ys:List Int),Rr (keyB bed)
 x_6.fst.toNat n.toNat y_1.fst ys∧Sgm (keyB bed) ys x_6.fst.toNat n.toNat→HIs [HObj.box m tb [SV.data (K.flt f64).slice bed],HObj.row Md.rw ty3 (K.int
 i64) ys] [HObj.box m tb [SV.data (K.flt f64).slice bed],HObj.row Md.rw ty3 (K.int i64) ys]∧post (x.fst,()) (ys,())) (HIs [HObj.box m tb [SV.data
 (K.flt f64).slice bed],HObj.row Md.rw ty3 (K.int i64) y_1.fst] [HObj.box m tb [SV.data (K.flt f64).slice bed],HObj.row Md.rw ty3 (K.int
 i64) y_1.fst]∧post (x.fst,()) (y_1.fst,())))∧∀ (x_9:Int × Unit) (y_2:List Int × Unit),post x_9 y_2→HIs [HObj.box m tb [SV.data (K.flt f64).slice
 bed],HObj.row Md.rw ty3 (K.int i64) y_2.fst] [HObj.box m tb [SV.data (K.flt f64).slice bed],HObj.row Md.rw ty3 (K.int i64) y_2.fst]∧I
 (i64.wrap (x_9.fst*(2:Int)),()) (y_2.fst,())∧μ (i64.wrap (x_9.fst*(2:Int)),()) (y_2.fst,())<μ x y)) (k (EV.tup []) [HObj.box m tb [SV.data (K.flt
 f64).slice bed],HObj.row Md.rw ty3 (K.int i64) y.fst]))
theorem Z18z (ty0 ty1:Nat) (m:Md) (tb N:Nat) (bed:List Nat) (xs:List Int) (n:Int) (k:EV→List HObj→Prop) (h:Z2f bed xs∧n=(List.length xs:Int)∧List.length xs<N) (hk:∀ ys:List Int,Rr (keyB bed) 0 n.toNat xs ys∧Sgm (keyB bed) ys 0 n.toNat→k (.tup []) [.box m tb [.data (.slice (.flt .f64)) bed],.row .rw ty0 (.int .i64) ys]):Zmk ty0 ty1 m tb N bed xs n k:=by
 unfold Zmk
 obtain ⟨bo,hn,hN⟩:=h
 have mx:maxN=281474976710656:=rfl
 have hmx:=bo.2.2
 obtain ⟨n0,hn0⟩:∃ n0,xs.length=n0:=⟨_,rfl⟩
 rw [hn0] at hn hN hmx
 subst hn
 simp only [Int.toNat_natCast] at hk
 have dle:∀ u v:Nat,decide ((u:Int)<v)=true→u<v:=fun u v d=>by have d:(u:Int)<v:=of_decide_eq_true d; omega
 have dge:∀ u v:Nat,decide ((u:Int)<v)=false→v≤u:=fun u v d=>by have d:¬ (u:Int)<v:=of_decide_eq_false d; omega
 have ele:∀ u v:Nat,decide ((u:Int)≤v)=true→u≤v:=fun u v d=>by have d:(u:Int)≤v:=of_decide_eq_true d; omega
 have ege:∀ u v:Nat,decide ((u:Int)≤v)=false→v<u:=fun u v d=>by have d:¬ (u:Int)≤v:=of_decide_eq_false d; omega
 have wadd:∀ u v:Nat,u≤4*n0+40→v≤4*n0+40→i64.wrap ((u:Int)+v)=((u+v:Nat):Int):=fun u v h1 h2=>by rw [Zt (by omega) (by omega)]; omega
 refine ⟨rfl,fun x y=>∃ q:Nat,x.1=(q*20:Nat)∧x.2.1=(q*20+20:Nat)∧q*20≤n0∧Rr (keyB bed) 0 n0 xs y.1∧∀ q',q'<q→Sgm (keyB bed) y.1 (q'*20) (q'*20+20),fun x _=>n0+20 - x.1.toNat,⟨0,rfl,rfl,by omega,.refl _ _ _,fun q' h=>by omega⟩,?_⟩
 rintro ⟨_,_,⟨⟩⟩ ⟨y,⟨⟩⟩ ⟨q,rfl,rfl,hq,hr,hs⟩
 dsimp only at hr hs ⊢
 have ly:=hr.len
 rintro _ rfl
 refine Br.intro (fun d=>?_) fun d=>?_
 ·have d:=ele _ _ d
  rw [show i64.wrap (((q*20+20:Nat):Int)+20)=((q*20+20+20:Nat):Int) from wadd (q*20+20) 20 (by omega) (by omega)]
  refine ⟨⟨by trivial,by trivial,ly.symm,bo.perm hr.perm,by omega,by omega,by omega⟩,?_⟩
  simp only [Int.toNat_natCast]
  rintro ys ⟨r1,r2⟩
  refine ⟨rfl,⟨q+1,by omega,by omega,by omega,hr.trans (r1.wide (by omega) d),fun q' h=>?_⟩,by omega⟩
  by_cases e:q'=q
  ·subst e; exact r2
  ·exact r1.sgm (hs q' (by omega)) (.inl (by omega))
 have d:=ege _ _ d
 refine ⟨⟨by trivial,by trivial,ly.symm,bo.perm hr.perm,by omega,by omega,by omega⟩,?_⟩
 simp only [Int.toNat_natCast]
 rintro ys ⟨r1,r2⟩
 have hr1:=hr.trans (r1.wide (Nat.zero_le _) (Nat.le_refl _))
 have hb0:∀ q',Sgm (keyB bed) ys (q'*20) (min (q'*20+20) n0):=fun q'=>by
  by_cases e:q'=q
  ·subst e; exact r2.sub (Nat.le_refl _) (by omega)
  ·by_cases e2:q'<q
   ·exact (r1.sgm (hs q' e2) (.inl (by omega))).sub (Nat.le_refl _) (by omega)
   ·exact .one (by omega)
 clear hr hs r1 r2 ly d hq
 refine ⟨rfl,fun x y=>∃ s:Nat,x.1=s∧0<s∧s≤2*n0+20∧Rr (keyB bed) 0 n0 xs y.1∧∀ q',Sgm (keyB bed) y.1 (q'*s) (min (q'*s+s) n0),fun x _=>n0 - x.1.toNat,⟨20,rfl,by decide,by omega,hr1,hb0⟩,?_⟩
 rintro ⟨_,⟨⟩⟩ ⟨y,⟨⟩⟩ ⟨s,rfl,hs0,hsn,hr,hb⟩
 dsimp only at hr hb ⊢
 clear hr1 hb0
 have ly:=hr.len
 rintro _ rfl
 refine Br.intro (fun d=>?_) fun d=>?_
 rotate_left
 ·have d:=dge _ _ d
  have:=hb 0
  rw [Nat.zero_mul,Nat.zero_add,Nat.min_eq_right d] at this
  exact hk _ ⟨hr,this⟩
 have d:=dle _ _ d
 have w2:i64.wrap (2*(s:Int))=((2*s:Nat):Int):=by rw [Zt (by omega) (by omega)]; omega
 rw [w2]
 refine ⟨rfl,fun x y=>∃ q:Nat,x.1=(q*(2*s):Nat)∧x.2.1=(q*(2*s)+2*s:Nat)∧q*(2*s)≤n0∧Rr (keyB bed) 0 n0 xs y.1∧(∀ q',q'<q→Sgm (keyB bed) y.1 (q'*(2*s)) (q'*(2*s)+2*s))∧∀ q',2*q≤q'→Sgm (keyB bed) y.1 (q'*s) (min (q'*s+s) n0),fun x _=>n0+2*s - x.1.toNat,⟨0,by simp,by simp,by omega,hr,fun q' h=>by omega,fun q' _=>hb q'⟩,?_⟩
 rintro ⟨_,_,⟨⟩⟩ ⟨z,⟨⟩⟩ ⟨q,rfl,rfl,hq,hz,hd,ht⟩
 dsimp only at hz hd ht ⊢
 have lz:=hz.len
 have ht0:=ht (2*q) (Nat.le_refl _)
 have ht1:=ht (2*q+1) (by omega)
 have e0:2*q*s=q*(2*s):=by rw [Nat.mul_comm 2 q,Nat.mul_assoc]
 have e1:(2*q+1)*s=q*(2*s)+s:=by rw [Nat.add_mul,e0,Nat.one_mul]
 have ep:∀ q',q'*(2*s)=2*q'*s:=fun q'=>by rw [Nat.mul_comm 2 q',Nat.mul_assoc]
 have en:(q+1)*(2*s)=q*(2*s)+2*s:=by rw [Nat.add_mul,Nat.one_mul]
 have lt:∀ q',q'<q→q'*(2*s)+2*s≤q*(2*s):=fun q' h=>by
  have:=Nat.mul_le_mul_right (2*s) (show q'+1≤q from h)
  rw [Nat.add_mul,Nat.one_mul] at this; exact this
 have gt:∀ q',2*(q+1)≤q'→q*(2*s)+2*s≤q'*s:=fun q' h=>by
  have:=Nat.mul_le_mul_right s h
  rw [← ep,en] at this; exact this
 rw [e0] at ht0
 rw [e1] at ht1
 obtain ⟨A,hA⟩:∃ A,q*(2*s)=A:=⟨_,rfl⟩
 rw [hA] at ht0 ht1 hq en lt gt ⊢
 rw [wadd A s (by omega) (by omega)]
 rintro _ rfl
 refine Br.intro (fun d2=>?_) fun d2=>?_
 ·have d2:=ele _ _ d2
  rw [wadd (A+2*s) (2*s) (by omega) (by omega)]
  simp only [Int.toNat_natCast]
  rw [Nat.min_eq_left (by omega)] at ht0 ht1
  have f1:A+s+s=A+2*s:=by omega
  rw [f1] at ht1
  refine ⟨⟨by trivial,by trivial,lz.symm,bo.perm hz.perm,by omega,by omega,by omega,by omega,by omega,ht0,ht1⟩,?_⟩
  rintro ys ⟨r1,r2⟩
  refine ⟨rfl,⟨q+1,by rw [en],by rw [en],by omega,hz.trans (r1.wide (Nat.zero_le _) d2),fun q' h=>?_,fun q' h=>?_⟩,by omega⟩
  ·by_cases e:q'=q
   ·subst e; rw [hA]; exact r2
   ·have:=lt q' (by omega)
    exact r1.sgm (hd q' (by omega)) (.inl (by omega))
  ·have:=gt q' h
   exact r1.sgm (ht q' (by omega)) (.inr (by omega))
 have d2:=ege _ _ d2
 have fin:∀ ys,Rr (keyB bed) A n0 z ys→Sgm (keyB bed) ys A n0→Rr (keyB bed) 0 n0 xs ys∧∀ q',Sgm (keyB bed) ys (q'*(2*s)) (min (q'*(2*s)+2*s) n0):=fun ys r1 r2=>⟨hz.trans (r1.wide (Nat.zero_le _) (Nat.le_refl _)),fun q'=>by
  by_cases e:q'=q
  ·subst e; rw [hA]; exact r2.sub (Nat.le_refl _) (by omega)
  ·by_cases e2:q'<q
   ·have:=lt q' e2
    exact (r1.sgm (hd q' e2) (.inl (by omega))).sub (Nat.le_refl _) (by omega)
   ·have:=lt
    have h3:=Nat.mul_le_mul_right (2*s) (show q+1≤q' by omega)
    rw [en] at h3
    exact .one (by omega)⟩
 refine ⟨fun x y=>x.1=(s:Int)∧Rr (keyB bed) 0 n0 xs y.1∧∀ q',Sgm (keyB bed) y.1 (q'*(2*s)) (min (q'*(2*s)+2*s) n0),?_,?_⟩
 ·rintro _ rfl
  refine Br.intro (fun d3=>?_) fun d3=>?_
  ·have d3:=dle _ _ d3
   simp only [Int.toNat_natCast]
   rw [Nat.min_eq_left (by omega)] at ht0
   rw [Nat.min_eq_right (by omega)] at ht1
   refine ⟨⟨by trivial,by trivial,lz.symm,bo.perm hz.perm,by omega,by omega,by omega,by omega,by omega,ht0,ht1⟩,?_⟩
   rintro ys ⟨r1,r2⟩
   exact ⟨rfl,by trivial,fin ys r1 r2⟩
  ·have d3:=dge _ _ d3
   rw [Nat.min_eq_right (by omega)] at ht0
   exact ⟨rfl,by trivial,fin z (.refl _ _ _) ht0⟩
 rintro ⟨_,⟨⟩⟩ ⟨w,⟨⟩⟩ ⟨rfl,h1,h2⟩
 dsimp only at h1 h2 ⊢
 have w3:i64.wrap ((s:Int)*2)=((2*s:Nat):Int):=by rw [Zt (by omega) (by omega)]; omega
 rw [w3]
 exact ⟨rfl,⟨2*s,rfl,by omega,by omega,h1,h2⟩,by omega⟩
def Zu7:=fun (ty3 fn72:Nat) (m:Md) (tb N:Nat) (bed:List Nat) (xs:List Int) (k:EV→List HObj→Prop)=>∃ (x:(ty3=ty3)∧(fn72=fn72)∧xs.length =
 xs.length∧Z2f bed xs∧(↑xs.length:Int)=(↑xs.length:Int)),∀ (ys:List Int),Rr (keyB bed) (0:Nat) xs.length xs ys∧Sgm (keyB bed) ys (0:Nat) xs.length→k (EV.tup
 []) [HObj.box m tb [SV.data (K.flt f64).slice bed],HObj.row Md.rw ty3 (K.int i64) ys]
theorem Z166 (ty0 ty1:Nat) (m:Md) (tb N:Nat) (bed:List Nat) (xs:List Int) (k:EV→List HObj→Prop) (h:Z2f bed xs) (hk:∀ ys:List Int,Rr (keyB bed) 0 xs.length xs ys∧Sgm (keyB bed) ys 0 xs.length→k (.tup []) [.box m tb [.data (.slice (.flt .f64)) bed],.row .rw ty0 (.int .i64) ys]):Zu7 ty0 ty1 m tb N bed xs k:=by
 refine ⟨⟨rfl,rfl,rfl,h,rfl⟩,?_⟩
 rintro ys ⟨h1,h2⟩
 exact hk ys ⟨by simpa using h1,by simpa using h2⟩
end Go.Lift

namespace Go.Lift
open Go.Proofs
def Z1w:Cx:=⟨Zk Zn,Zm [(72,Zag)],RbG⟩
theorem Z5j:CxOk Tryz.prog Z1w:=⟨Z4 Z7,Z9 ⟨Zme,trivial⟩⟩
def Zml:Hn:={ loops:=Z2i [(1,{ ls:=[(.slot 10,.data (.int .i64))],os:=[(1,3,.int .i64)] })],joins:=fun _=>none,named:=true }
theorem Z11x:FnAt Tryz.prog 179 Tryz.f179.ntmps Tryz.f179.results.toList (Tryz.f179.body.getD .skip):=⟨Tryz.f179,Tryz.func179,rfl,rfl,by simp,by decide⟩
theorem Z11y (m:Md) (tb:Nat) (cs:List SV) (xs:List Int) (a b n:Int) (fv:EV) (k:EV→List HObj→Prop):Za4 Z1w Zml (Z2x) Tryz.f179.ntmps Tryz.f179.results.toList (Tryz.f179.body.getD .skip) [.x (.one (.osl 1 0 (List.length xs))),.x (.one (.val (.int .i64 a))),.x (.one (.val (.int .i64 b))),.x (.one (.val (.int .i64 n))),fv] [.box m tb cs,.row .rw 3 (.int .i64) xs] k=Zu6 3 m tb cs xs a b n fv k:=by kernel_rfl
theorem Z11z:EvOk Tryz.prog Z1w 179 (Z5b 3):=(Z78 Z5j Z8 Z72 Z11x Zml).of fun args hp k q=>by
 unfold Z5b at q
 split at q
 ·rename_i len a b n fv m tb cs t xs
  obtain ⟨⟨rfl,rfl,h⟩,hk⟩:=q
  have e:=Z11y m tb cs xs a b n fv k
  have f:=Z165 3 m tb cs xs a b n fv k h hk
  first | (rw [e]; exact f) | exact Eq.mpr e f
 ·exact q.elim
theorem Z149:Z20 Tryz.prog Z1w (Z1d 179 (Z5b 3) (Z2x)):=Z6r Z11z Z72
def Zp0:Hn:={ loops:=Z2i [(2,{ ls:=[(.slot 10,.data (.int .i64)),(.slot 11,.data (.int .i64))],os:=[(1,3,.int .i64)] })],joins:=fun _=>none,named:=true,inl:=inlL [179] }
theorem Z132:FnAt Tryz.prog 165 Tryz.f165.ntmps Tryz.f165.results.toList (Tryz.f165.body.getD .skip):=⟨Tryz.f165,Tryz.func165,rfl,rfl,by simp,by decide⟩
theorem Z133 (md:Md) (tb:Nat) (cs:List SV) (xs:List Int) (a m b:Int) (fv:EV) (k:EV→List HObj→Prop):Za4 Z1w Zp0 (Z1d 179 (Z5b 3) (Z2x)) Tryz.f165.ntmps Tryz.f165.results.toList (Tryz.f165.body.getD .skip) [.x (.one (.osl 1 0 (List.length xs))),.x (.one (.val (.int .i64 a))),.x (.one (.val (.int .i64 m))),.x (.one (.val (.int .i64 b))),fv] [.box md tb cs,.row .rw 3 (.int .i64) xs] k=Zmh 3 md tb cs xs a m b fv k:=by kernel_rfl
theorem Z134:EvOk Tryz.prog Z1w 165 (Zc1 3):=(Z78 Z5j Z8 Z149 Z132 Zp0).of fun args hp k q=>by
 unfold Zc1 at q
 split at q
 ·rename_i len a m b fv md tb cs t xs
  obtain ⟨⟨rfl,rfl,h⟩,hk⟩:=q
  have e:=Z133 md tb cs xs a m b fv k
  have f:=Z18w 3 md tb cs xs a m b fv k h hk
  first | (rw [e]; exact f) | exact Eq.mpr e f
 ·exact q.elim
theorem Z1bu:Z20 Tryz.prog Z1w (Z1d 165 (Zc1 3) (Z1d 179 (Z5b 3) (Z2x))):=Z6r Z134 Z149
def Zp1:Hn:={ loops:=Z2i [(1,{ ls:=[(.slot 8,.data (.int .i64))],os:=[(1,3,.int .i64)] }),(4,{ ls:=[(.slot 9,.data (.int .i64))],os:=[(1,3,.int .i64)] })],joins:=fun _=>none,named:=true,inl:=fun _=>false }
theorem Z135:FnAt Tryz.prog 138 Tryz.f138.ntmps Tryz.f138.results.toList (Tryz.f138.body.getD .skip):=⟨Tryz.f138,Tryz.func138,rfl,rfl,by simp,by decide⟩
theorem Z136 (m:Md) (tb:Nat) (bed:List Nat) (xs:List Int) (a b:Int) (k:EV→List HObj→Prop):Za4 Z1w Zp1 (Z2x) Tryz.f138.ntmps Tryz.f138.results.toList (Tryz.f138.body.getD .skip) [.x (.one (.osl 1 0 (List.length xs))),.x (.one (.val (.int .i64 a))),.x (.one (.val (.int .i64 b))),.x (.one (.clo 72 [] [.ref 0 0]))] [.box m tb [.data (.slice (.flt .f64)) bed],.row .rw 3 (.int .i64) xs] k=Zmi 3 m tb bed xs a b k:=by kernel_rfl
theorem Z137:EvOk Tryz.prog Z1w 138 (Zeq 3 72):=(Z78 Z5j Z8 Z72 Z135 Zp1).of fun args hp k q=>by
 unfold Zeq at q
 split at q
 ·rename_i len a b f m tb bed t xs
  obtain ⟨⟨rfl,rfl,rfl,h⟩,hk⟩:=q
  have e:=Z136 m tb bed xs a b k
  have f:=Z18x 3 m tb bed xs a b k h hk
  first | (rw [e]; exact f) | exact Eq.mpr e f
 ·exact q.elim
theorem Z14a:Z20 Tryz.prog Z1w (Z1d 138 (Zeq 3 72) (Z1d 165 (Zc1 3) (Z1d 179 (Z5b 3) (Z2x)))):=Z6r Z137 Z1bu
def Zp2:Hn:={ loops:=Z2i [(3,{ ls:=[(.slot 10,.data (.int .i64)),(.slot 11,.data (.int .i64))],os:=[] }),(9,{ ls:=[(.slot 13,.data (.int .i64))],os:=[(1,3,.int .i64)] }),(15,{ ls:=[(.slot 14,.data (.int .i64)),(.slot 15,.data (.int .i64))],os:=[] }),(21,{ ls:=[(.slot 17,.data (.int .i64))],os:=[(1,3,.int .i64)] }),(33,{ ls:=[(.slot 20,.data (.int .i64)),(.slot 21,.data (.int .i64))],os:=[] })],joins:=Z2i [(32,{ ls:=[(.slot 20,.data (.int .i64)),(.slot 21,.data (.int .i64))],os:=[] }),(41,{ ls:=[],os:=[(1,3,.int .i64)] }),(43,{ ls:=[],os:=[(1,3,.int .i64)] })],named:=true,inl:=inlL [165,139] }
theorem Z138:FnAt Tryz.prog 139 Tryz.f139.ntmps Tryz.f139.results.toList (Tryz.f139.body.getD .skip):=⟨Tryz.f139,Tryz.func139,rfl,rfl,by simp,by decide⟩
theorem Z139 (md:Md) (tb N:Nat) (bed:List Nat) (xs:List Int) (a m b:Int) (k:EV→List HObj→Prop):Za4 Z1w Zp2 (Z1d 139 (Zer 3 72 N) (Z1d 138 (Zeq 3 72) (Z1d 165 (Zc1 3) (Z1d 179 (Z5b 3) (Z2x))))) Tryz.f139.ntmps Tryz.f139.results.toList (Tryz.f139.body.getD .skip) [.x (.one (.osl 1 0 (List.length xs))),.x (.one (.val (.int .i64 a))),.x (.one (.val (.int .i64 m))),.x (.one (.val (.int .i64 b))),.x (.one (.clo 72 [] [.ref 0 0]))] [.box md tb [.data (.slice (.flt .f64)) bed],.row .rw 3 (.int .i64) xs] k=Zmj 3 72 md tb N bed xs a m b k:=by kernel_rfl
theorem Zp3:∀ N,EvOk Tryz.prog Z1w 139 (Zer 3 72 N)
 | 0=>fun c hi hg args vs k hall q=>by
  unfold Zer at q
  split at q
  ·obtain ⟨⟨_,_,_,_,_,_,_,_,hN,_⟩,_⟩:=q
   exact absurd hN (Nat.not_lt_zero _)
  ·exact q.elim
 | N+1=>(Z78 Z5j Z8 (Z6r (Zp3 N) Z14a) Z138 Zp2).of fun args hp k q=>by
  unfold Zer at q
  split at q
  ·rename_i len a m b f md tb bed t xs
   obtain ⟨⟨rfl,rfl,rfl,h⟩,hk⟩:=q
   have e:=Z139 md tb N bed xs a m b k
   have f:=Z18y 3 72 md tb N bed xs a m b k h hk
   first | (rw [e]; exact f) | exact Eq.mpr e f
  ·exact q.elim
theorem Z14b (N:Nat):Z20 Tryz.prog Z1w (Z1d 139 (Zer 3 72 N) (Z1d 138 (Zeq 3 72) (Z1d 165 (Zc1 3) (Z1d 179 (Z5b 3) (Z2x))))):=Z6r (Zp3 N) Z14a
def Zp4:Hn:={ loops:=Z2i [(2,{ ls:=[(.slot 7,.data (.int .i64)),(.slot 8,.data (.int .i64))],os:=[(1,3,.int .i64)] }),(7,{ ls:=[(.slot 6,.data (.int .i64))],os:=[(1,3,.int .i64)] }),(9,{ ls:=[(.slot 7,.data (.int .i64)),(.slot 8,.data (.int .i64))],os:=[(1,3,.int .i64)] })],joins:=Z2i [(16,{ ls:=[(.slot 6,.data (.int .i64))],os:=[(1,3,.int .i64)] })],named:=true,inl:=inlL [138,139] }
theorem Z13a:FnAt Tryz.prog 111 Tryz.f111.ntmps Tryz.f111.results.toList (Tryz.f111.body.getD .skip):=⟨Tryz.f111,Tryz.func111,rfl,rfl,by simp,by decide⟩
theorem Z13b (m:Md) (tb N:Nat) (bed:List Nat) (xs:List Int) (n:Int) (k:EV→List HObj→Prop):Za4 Z1w Zp4 (Z1d 139 (Zer 3 72 N) (Z1d 138 (Zeq 3 72) (Z1d 165 (Zc1 3) (Z1d 179 (Z5b 3) (Z2x))))) Tryz.f111.ntmps Tryz.f111.results.toList (Tryz.f111.body.getD .skip) [.x (.one (.osl 1 0 (List.length xs))),.x (.one (.val (.int .i64 n))),.x (.one (.clo 72 [] [.ref 0 0]))] [.box m tb [.data (.slice (.flt .f64)) bed],.row .rw 3 (.int .i64) xs] k=Zmk 3 72 m tb N bed xs n k:=by kernel_rfl
theorem Z13c:EvOk Tryz.prog Z1w 111 (Zzs 3 72):=.ofN (fun N=>Z78 Z5j Z8 (Z14b N) Z13a Zp4) fun args hp k q=>by
 unfold Zzs at q
 split at q
 ·rename_i len n f m tb bed t xs
  obtain ⟨⟨rfl,rfl,rfl,h1,h2⟩,hk⟩:=q
  refine ⟨List.length xs+1,?_⟩
  have e:=Z13b m tb (List.length xs+1) bed xs n k
  have f:=Z18z 3 72 m tb (List.length xs+1) bed xs n k ⟨h1,h2,Nat.lt_succ_self _⟩ hk
  first | (rw [e]; exact f) | exact Eq.mpr e f
 ·exact q.elim
theorem Z1bv (N:Nat):Z20 Tryz.prog Z1w (Z1d 111 (Zzs 3 72) (Z1d 139 (Zer 3 72 N) (Z1d 138 (Zeq 3 72) (Z1d 165 (Zc1 3) (Z1d 179 (Z5b 3) (Z2x)))))):=Z6r Z13c (Z14b N)
def Zmm:Hn:={ loops:=fun _=>none,joins:=fun _=>none,named:=true,inl:=inlL [111] }
theorem Z120:FnAt Tryz.prog 71 Tryz.f71.ntmps Tryz.f71.results.toList (Tryz.f71.body.getD .skip):=⟨Tryz.f71,Tryz.func71,rfl,rfl,by simp,by decide⟩
theorem Z121 (m:Md) (tb N:Nat) (bed:List Nat) (xs:List Int) (k:EV→List HObj→Prop):Za4 Z1w Zmm (Z1d 111 (Zzs 3 72) (Z1d 139 (Zer 3 72 N) (Z1d 138 (Zeq 3 72) (Z1d 165 (Zc1 3) (Z1d 179 (Z5b 3) (Z2x)))))) Tryz.f71.ntmps Tryz.f71.results.toList (Tryz.f71.body.getD .skip) [.x (.one (.osl 1 0 (List.length xs))),.x (.one (.clo 72 [] [.ref 0 0]))] [.box m tb [.data (.slice (.flt .f64)) bed],.row .rw 3 (.int .i64) xs] k=Zu7 3 72 m tb N bed xs k:=by kernel_rfl
theorem Z122:EvOk Tryz.prog Z1w 71 (Zsk 3 72):=(Z78 Z5j Z8 (Z1bv 0) Z120 Zmm).of fun args hp k q=>by
 unfold Zsk at q
 split at q
 ·rename_i len f m tb bed t xs
  obtain ⟨⟨rfl,rfl,rfl,h⟩,hk⟩:=q
  have e:=Z121 m tb 0 bed xs k
  have f:=Z166 3 72 m tb 0 bed xs k h hk
  first | (rw [e]; exact f) | exact Eq.mpr e f
 ·exact q.elim
theorem Z1bw:Z20 Tryz.prog Z1w (Z1d 71 (Zsk 3 72) Z2x):=Z6r Z122 Z72
end Go.Lift

namespace Go.Lift
open Go.Proofs
def Z7z:Con:=Con.nam [.slice (.flt .f64)] [.own 3 (.int .i64)] (fun x=>WOrd x.1) (fun x=>Zif x.1)
def Zdt:Hn:={ loops:=Z2i [(3,{ ls:=[(.slot 10,.data (.int .i64))],os:=[(1,3,.int .i64)] })],joins:=fun _=>none,named:=true,inl:=inlL [71] }
abbrev Zu8:Cx:=Z1w
theorem Zmn:CxOk Tryz.prog Zu8:=Z5j
theorem Zqg:FnAt Tryz.prog 29 Tryz.f29.ntmps Tryz.f29.results.toList (Tryz.f29.body.getD .skip):=⟨Tryz.f29,Tryz.func29,rfl,rfl,by simp,by decide⟩
theorem Zqh (bed:List Nat) (post:(List Int) × Unit→Prop):Z5q Z1w Zdt (Z1d 71 (Zsk 3 72) Z2x) Tryz.f29.ntmps Tryz.f29.results.toList (Tryz.f29.body.getD .skip) [.slice (.flt .f64)] [.own 3 (.int .i64)] (bed,()) post=Z92 37 3 bed post:=by kernel_rfl
theorem Zfb:Z7z.holds Tryz.prog RbG 29 :=
 Zx (Zzh Zmn Z8 Zdt Z1bw Zqg (F:=fun x post=>Z92 37 3 x.1 post) (fun x post=>Zqh x.1 post) fun x h _=>Zwk 37 3 x.1 h)
end Go.Lift

namespace Go.Lift
def Z93:=F18
theorem Zwl (a:Int) (b:Int) (h:WU2 a b):Z93  a b (fun r=>r=Z1an a b):=by
 exact Z15g h.1.1 h.1.2 h.2.1 h.2.2 rfl
def Z94:=F19
theorem Zwm (a:Int) (b:Int) (c:Int) (h:WDiv a b c):Z94  a b c (fun r=>r=Z1ao a b c):=by
 obtain ⟨ha,hb,hc,hac⟩:=h
 have hc0:(0:Int)<c:=Int.lt_of_le_of_lt ha.1 hac
 obtain ⟨s0,s1,s2,s3⟩:=Z1bd hc0 hc.2
 exact Z15j (a:=a) (b:=b) (c:=c) rfl hc s0 s1 s2 s3 ha.1 hac hb.1 hb.2 rfl
def Zb7:=F12
theorem Zz8 (a:Int) (b:Int) (c:Int) (h:III a b c):Zb7  a b c (fun r=>r=prtR a b c):=by
 exact Z185 h.1 h.2.1 h.2.2 rfl
end Go.Lift

namespace Go.Lift
open Go.Proofs
def Zfc:Con:=.det [.int .u64,.int .u64] [.snap (.int .u64),.snap (.int .u64)] (fun x=>WU2 x.1 x.2.1) (fun x=>Z1an x.1 x.2.1)
def Zfd:Cx:=⟨Zk Zn,Zm [],RbG⟩
theorem Zmo:CxOk Tryz.prog Zfd:=⟨Z4 Z7,fun f c h=>by cases h⟩
theorem Zqi:FnAt Tryz.prog 91 Tryz.f91.ntmps Tryz.f91.results.toList (Tryz.f91.body.getD .skip):=⟨Tryz.f91,Tryz.func91,rfl,rfl,by simp,by decide⟩
theorem Zqj (a:Int) (b:Int) (post:Int × Int × Unit→Prop):Ze Zfd nHn Tryz.f91.ntmps Tryz.f91.results.toList (Tryz.f91.body.getD .skip) [.int .u64,.int .u64] [.snap (.int .u64),.snap (.int .u64)] (a,b,()) post=Z93  a b post:=by kernel_rfl
theorem Zu9:Zfc.holds Tryz.prog RbG 91 :=
 detP Zmo Z8 nHn Zqi (F:=fun x post=>Z93  x.1 x.2.1 post) (fun x post=>Zqj x.1 x.2.1 post) fun x h _=>Zwl  x.1 x.2.1 h
def Z5k:Con:=.det [.int .u64] [.snap (.int .i64)] (fun x=>U64 x.1) (fun x=>lzR x.1)
def Z14c:Cx:=⟨Zk Zn,fun _=>none,RbG⟩
theorem Z167:CxOk Tryz.prog Z14c:=⟨Z4 Z7,fun f c h=>by cases h⟩
def Zxt:Con:=.det [.int .u64] [.snap (.int .i64)] (fun x=>U64 x.1) (fun x=>(Z1s x.1,()))
theorem Z168:FnAt Tryz.prog 147 Tryz.f147.ntmps Tryz.f147.results.toList (Tryz.f147.body.getD .skip):=⟨Tryz.f147,Tryz.func147,rfl,rfl,by simp,by decide⟩
theorem Z169 (a:Int) (post:Int × Unit→Prop):Ze Z14c Zzr Tryz.f147.ntmps Tryz.f147.results.toList (Tryz.f147.body.getD .skip) [.int .u64] [.snap (.int .i64)] (a,()) post=F22 a post:=by kernel_rfl
theorem Z190:Zxt.holds Tryz.prog RbG 147:=detP Z167 Z8 Zzr Z168 (F:=fun x post=>F22 x.1 post) (fun x post=>Z169 x.1 post) fun x h _=>Z15i h.1 h.2 rfl
def Z5l:Cx:=⟨Zk Zn,Zm [(147,Zxt)],RbG⟩
theorem Zai:CxOk Tryz.prog Z5l:=⟨Z4 Z7,Z9 ⟨Z190,trivial⟩⟩
theorem Zc6:FnAt Tryz.prog 121 Tryz.f121.ntmps Tryz.f121.results.toList (Tryz.f121.body.getD .skip):=⟨Tryz.f121,Tryz.func121,rfl,rfl,by simp,by decide⟩
theorem Zc7 (a:Int) (post:Int × Unit→Prop):Ze Z5l Zzr Tryz.f121.ntmps Tryz.f121.results.toList (Tryz.f121.body.getD .skip) [.int .u64] [.snap (.int .i64)] (a,()) post=F21 a post:=by kernel_rfl
theorem Zdu:Z5k.holds Tryz.prog RbG 121:=detP Zai Z8 Zzr Zc6 (F:=fun x post=>F21 x.1 post) (fun x post=>Zc7 x.1 post) fun x h _=>Z1bo h
def Zfe:Con:=.det [.int .u64,.int .u64,.int .u64] [.snap (.int .u64),.snap (.int .u64)] (fun x=>WDiv x.1 x.2.1 x.2.2.1) (fun x=>Z1ao x.1 x.2.1 x.2.2.1)
def Zdv:Hn:=hn19
def Zff:Cx:=⟨Zk Zn,Zm [(121,Z5k)],RbG⟩
theorem Zmp:CxOk Tryz.prog Zff:=⟨Z4 Z7,Z9 ⟨Zdu,trivial⟩⟩
theorem Zqk:FnAt Tryz.prog 92 Tryz.f92.ntmps Tryz.f92.results.toList (Tryz.f92.body.getD .skip):=⟨Tryz.f92,Tryz.func92,rfl,rfl,by simp,by decide⟩
theorem Zql (a:Int) (b:Int) (c:Int) (post:Int × Int × Unit→Prop):Ze Zff Zdv Tryz.f92.ntmps Tryz.f92.results.toList (Tryz.f92.body.getD .skip) [.int .u64,.int .u64,.int .u64] [.snap (.int .u64),.snap (.int .u64)] (a,b,c,()) post=Z94  a b c post:=by kernel_rfl
theorem Zua:Zfe.holds Tryz.prog RbG 92 :=
 detP Zmp Z8 Zdv Zqk (F:=fun x post=>Z94  x.1 x.2.1 x.2.2.1 post) (fun x post=>Zql x.1 x.2.1 x.2.2.1 post) fun x h _=>Zwm  x.1 x.2.1 x.2.2.1 h
def Zhq:Con:=.det [.int .i64,.int .i64,.int .i64] [.snap (.int .i64)] (fun x=>III x.1 x.2.1 x.2.2.1) (fun x=>prtR x.1 x.2.1 x.2.2.1)
def Zfg:Hn:={ loops:=fun _=>none,joins:=fun _=>none }
def Zhr:Cx:=⟨Zk Zn,Zm [(91,Zfc),(92,Zfe)],RbG⟩
theorem Zog:CxOk Tryz.prog Zhr:=⟨Z4 Z7,Z9 ⟨Zu9,Zua,trivial⟩⟩
theorem Zub:FnAt Tryz.prog 44 Tryz.f44.ntmps Tryz.f44.results.toList (Tryz.f44.body.getD .skip):=⟨Tryz.f44,Tryz.func44,rfl,rfl,by simp,by decide⟩
theorem Zuc (a:Int) (b:Int) (c:Int) (post:Int × Unit→Prop):Ze Zhr Zfg Tryz.f44.ntmps Tryz.f44.results.toList (Tryz.f44.body.getD .skip) [.int .i64,.int .i64,.int .i64] [.snap (.int .i64)] (a,b,c,()) post=Zb7  a b c post:=by kernel_rfl
theorem Zwn:Zhq.holds Tryz.prog RbG 44 :=
 detP Zog Z8 Zfg Zub (F:=fun x post=>Zb7  x.1 x.2.1 x.2.2.1 post) (fun x post=>Zuc x.1 x.2.1 x.2.2.1 post) fun x h _=>Zz8  x.1 x.2.1 x.2.2.1 h
end Go.Lift

namespace Go.Lift
open Go.Proofs
def Zjt:Con:=Con.nam [.ptr Zu,kSea] [.own 2 (.int .i64),.own 2 (.int .i64),.snap (.int .i64)] (fun x=>WRun x.1 x.2.1) (fun x=>Z6n x.1 x.2.1)
def Z95:Hn:={ loops:=Z2i [(8,{ ls:=[(.slot 68,.data (.int .i64))],os:=[(1,2,.int .i64),(2,2,.int .i64)] })],joins:=fun _=>none,named:=true }
def Zb8:Cx:=⟨Zk Zn,Zm [(31,Z2a),(55,Z4t),(56,Zho),(57,Z3x),(29,Z7z),(32,Z62),(38,Z5f),(37,Zf0),(44,Zhq)],RbG⟩
theorem Zqm:CxOk Tryz.prog Zb8:=⟨Z4 Z7,Z9 ⟨Z31,Z83,Zwi,Z8z,Zfb,Z91,Zad,Ztm,Zwn,trivial⟩⟩
theorem Zwo:FnAt Tryz.prog 23 Tryz.f23.ntmps Tryz.f23.results.toList (Tryz.f23.body.getD .skip):=⟨Tryz.f23,Tryz.func23,rfl,rfl,by simp,by decide⟩
theorem Zqn (s:(List Nat) × (List Int) × (List Int) × (List Nat) × Int × Int) (post:(List Int) × (List Int) × Int × Unit→Prop):Ze Zb8 Z95 Tryz.f23.ntmps Tryz.f23.results.toList (Tryz.f23.body.getD .skip) [.ptr Zu,kSea] [.own 2 (.int .i64),.own 2 (.int .i64),.snap (.int .i64)] (none,s,()) post=Z8x  s post:=by kernel_rfl
theorem Zqo (g:Int × (List (Int × Int × Int × Int)) × (List ((Int × Int) × Int)) × (List (List Int)) × (List Int) × (List Nat) × List Nat) (s:(List Nat) × (List Int) × (List Int) × (List Nat) × Int × Int) (post:(List Int) × (List Int) × Int × Unit→Prop):Ze Zb8 Z95 Tryz.f23.ntmps Tryz.f23.results.toList (Tryz.f23.body.getD .skip) [.ptr Zu,kSea] [.own 2 (.int .i64),.own 2 (.int .i64),.snap (.int .i64)] ((some g),s,()) post=Z8y 39 2 3 g s post:=by kernel_rfl
def Zz9 (x:KS [.ptr Zu,kSea]) (post:RS [.own 2 (.int .i64),.own 2 (.int .i64),.snap (.int .i64)]→Prop):Prop:=match x with
 | (none,y)=>Z8x  y.1 post
 | (some g,y)=>Z8y 39 2 3 g y.1 post
theorem Zza:Zjt.holds Tryz.prog RbG 23 :=
 Zx (detP Zqm Z8 Z95 Zwo (F:=Zz9) (fun x post=>match x with
  | (none,y)=>Zqn y.1 post
  | (some g,y)=>Zqo g y.1 post) fun x h w=>match x,h,w with
  | (none,y),h,w=>Zwf  y.1 h w
  | (some g,y),h,w=>Zwg 39 2 3 g y.1 h w)
end Go.Lift

namespace Go.Lift
open Go.Proofs
def Zfh:Con:=Con.nam [] [.snap .bool] (fun _=>True) (fun x=>yesR)
def Zdw:Hn:={ loops:=Z2i [(8,{ ls:=[(.slot 4,.data (.int .i64))],os:=[(2,59,.flt .f64),(3,2,.int .i64)] })],joins:=fun _=>none,named:=true,inl:=inlL [54] }
def Z80:Cx:=⟨Zk Zn,Zm [(24,Zdq),(31,Z2a),(55,Z4t),(38,Z5f),(23,Zjt),(32,Z62),(29,Z7z),(28,Zbk)],RbG⟩
theorem Zaj:CxOk Tryz.prog Z80:=⟨Z4 Z7,Z9 ⟨Zm7,Z31,Z83,Zad,Zza,Z91,Zfb,Zof,trivial⟩⟩
theorem Zqp:FnAt Tryz.prog 22 Tryz.f22.ntmps Tryz.f22.results.toList (Tryz.f22.body.getD .skip):=⟨Tryz.f22,Tryz.func22,rfl,rfl,by simp,by decide⟩
theorem Zqq  (post:Bool × Unit→Prop):Z5q Z80 Zdw (Zcc Z80 Zd2 6) Tryz.f22.ntmps Tryz.f22.results.toList (Tryz.f22.body.getD .skip) [] [.snap .bool] (()) post=Z5w 39 59 2  post:=by kernel_rfl
theorem Zud:Zfh.holds Tryz.prog RbG 22 :=
 Zx (Zzh Zaj Z8 Zdw (Zbw Zaj Z8 Zsl 6) Zqp (F:=fun x post=>Z5w 39 59 2  post) (fun x post=>Zqq  post) fun x _ _=>Zvb 39 59 2 )
end Go.Lift

namespace Go.Lift
open Go.Proofs
def Ze5:Con:=.det [.int .i64,.slice (.flt .f64),.int .i64] [.snap .bool] (fun x=>Z1aq x.1 x.2.1 x.2.2.1) (fun x=>yesD x.1 x.2.1 x.2.2.1)
def Z5m:Hn:={ loops:=Z2i [(8,{ ls:=[(.slot 9,.data (.int .i64)),(.slot 10,.data (.int .i64))],os:=[] }),(15,{ ls:=[(.slot 12,.data (.int .i64))],os:=[] }),(25,{ ls:=[(.slot 15,.data (.bool)),(.slot 16,.data (.int .i64))],os:=[] })],joins:=fun _=>none,named:=true }
def Z63:Cx:=⟨Zk Zn,Zm [(22,Zfh),(24,Zdq),(31,Z2a),(32,Z62),(35,Z52),(36,Zhj)],RbG⟩
theorem Zb9:CxOk Tryz.prog Z63:=⟨Z4 Z7,Z9 ⟨Zud,Zm7,Z31,Z91,Z7p,Zwh,trivial⟩⟩
theorem Zdx:FnAt Tryz.prog 8 Tryz.f8.ntmps Tryz.f8.results.toList (Tryz.f8.body.getD .skip):=⟨Tryz.f8,Tryz.func8,rfl,rfl,by simp,by decide⟩
theorem Zdy (n:Int) (bed:List Nat) (c:Int) (post:Bool × Unit→Prop):Ze Z63 Z5m Tryz.f8.ntmps Tryz.f8.results.toList (Tryz.f8.body.getD .skip) [.int .i64,.slice (.flt .f64),.int .i64] [.snap .bool] (n,bed,c,()) post=Z3f  n bed c post:=by kernel_rfl
theorem Ze6:Ze5.holds Tryz.prog RbG 8 :=
 detP Zb9 Z8 Z5m Zdx (F:=fun x post=>Z3f  x.1 x.2.1 x.2.2.1 post) (fun x post=>Zdy x.1 x.2.1 x.2.2.1 post) fun x h w=>Zfq  x.1 x.2.1 x.2.2.1 h w
end Go.Lift

namespace Go.Proofs.YtplhligfkbgllaaGreatDoor
open Go.Lift
theorem riverDownhill_law:Z13q Rows.riverDownhillSpec 3:=⟨rfl,fun H ds h=>by
 match ds,h with
 | [d1,d2,d3],_=>rfl⟩
set_option maxRecDepth 100000 in
theorem riverDownhill_lifted (os:Os) (started:os.Started) (H:Type) (enc:TypeId × Value→H) :
  ReturnsInHanded {} Tryz.checked os 8 .any (fun w args=>(Rows.riverDownhillSpec.pre enc Tryz.prog Tryz.f8 [] false w args∧laidMetH Tryz.prog Zsm w)∧sizedMet enc Tryz.prog Tryz.f8 (OpenSpec.ofChange Rows.riverDownhillSpec) false w args) (Rows.riverDownhillSpec.post enc Tryz.prog Tryz.f8 false true false false) :=
 Z1a9 (C:=Tryz.checked) (X:=fun w _=>laidMetH Tryz.prog Zsm w) (fun _ _ _ hh h=>h.of_heap hh) (fun w _ h=>Z15u w h) own started (by kernel_rfl) Tryz.func8 rfl (by decide)
  (ChangeSpec.witness_shaped (enc:=enc) (C:=Tryz.checked) (os:=os) (X:=fun w _=>laidMetH Tryz.prog Zsm w) false (World.doorLaid Tryz.prog 400 os) #[.int .i64 0,.slice none 0 0,.int .i64 0] 12 rfl (World.shaped_of_RefB (by kernel_rfl) (by kernel_rfl)) (by kernel_rfl) (by kernel_rfl) (by kernel_rfl) (Z1aa os _))
  Z1bp (Zry _ [.int .i64,.slice (.flt .f64),.int .i64] (by kernel_rfl)) (by decide +kernel) rfl (by kernel_rfl) riverDownhill_law Ze6 (fun x h w=>⟨rngI h.1,rngL h.2.1,rngI h.2.2.1⟩)
theorem riverDownhill_holds:Rows.RiverDownhillSaid :=
 OpenClaim.holds_of_wide 8 Tryz.f8 rfl rfl rfl rfl rfl rfl rfl ⟨rfl,rfl,rfl,rfl,rfl⟩ rfl rfl rfl rfl rfl (by kernel_rfl) Tryz.func8 (by kernel_rfl)
  (of_decide_eq_true (by kernel_rfl)) (by unfold Func.isWrapper; first | (rw [if_pos (by decide +kernel)]; kernel_rfl) | (rw [if_neg (by decide +kernel)]; exact ⟨rfl,rfl⟩))
  (fun os started H enc _=>riverDownhill_lifted os started H enc)
theorem riverDownhill_card:Rows.RiverDownhillCardSaid :=
 Claim7.holds_tied_plain_at .later [] [.wider,.data] true (true, "78fee6c63abe0f1848884245aa960bf780b6b198ac179e9f617ebec8ad318169") false
  riverDownhill_holds (fun _ h=>by cases h) (by kernel_rfl) (fun _ h=>by cases h) riverDownhill_row_tie rfl ⟨rfl,rfl⟩ (by kernel_rfl) rfl
  (fun f fn hf hfn=>by
   obtain rfl:f=8:=Option.some.inj ((show Tryz.prog.funcNamed "tarn/tarnlaw19.RiverDownhill" = some 8 by kernel_rfl).symm.trans hf) |>.symm
   obtain rfl:fn=Tryz.f8:=(Option.some.inj (Tryz.func8.symm.trans hfn)).symm
   exact ⟨by kernel_rfl,fun j t ht=>by
    rw [Tryz.params8] at ht
    have hm:t ∈ [3,37,3]:=by simpa using Array.mem_of_getElem? ht
    have hall:([3,37,3].all fun u=>!Tryz.prog.wantsStandIn u)=true:=by kernel_rfl
    exact (show Tryz.prog.wantsStandIn t=false by simpa using List.all_eq_true.1 hall t hm)⟩)
  (by kernel_rfl)
end Go.Proofs.YtplhligfkbgllaaGreatDoor
