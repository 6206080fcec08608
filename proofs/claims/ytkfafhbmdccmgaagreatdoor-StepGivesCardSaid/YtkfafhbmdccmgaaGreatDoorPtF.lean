/- A part of the proof of StepGivesCard: an own lifter of code into plain terms, and plain laws. -/
import Derived.Test.YtkfafhbmdccmgaaGreatDoorPtE
set_option linter.unusedVariables false
set_option linter.unusedSimpArgs false
set_option linter.unusedSectionVars false
open Go.IntKind (i64 u64 u32 u8)
open Go.FloatKind (f64 f32)
namespace Go.Lift
open Go.Proofs
def Zx8:Cx:=⟨Z1t Z23,Z21 [(100,Z71),(48,Z4y)],SqG⟩
theorem Zm4:CxOk Tryz.prog Zx8:=⟨Zn Zy,Zu ⟨Zb5,Z6j,trivial⟩⟩
def Z8s:Con:=.det [.flt .f64,.flt .f64,.flt .f64] [.snap .bool] (fun x=>W3 x.1 x.2.1 x.2.2.1) (fun x=>Zha x.1 x.2.1 x.2.2.1)
theorem Zfb:SqH Z8s 60:=
 dP Zm4 Z3 Zd nHn Tryz.func60 (fun x p=>Zhw  x.1 x.2.1 x.2.2.1 p) fun x h _=>Zyf  x.1 x.2.1 x.2.2.1 h
def Zx9:Cx:=addC 60 Z8s Zx8
theorem Zcq:CxOk Tryz.prog Zx9:=Zm Zm4 Zfb
def Zhy:Con:=.det [.slice (.flt .f64),.flt .f64] [.snap (.int .i64)] (fun x=>WLF x.1 x.2.1) (fun x=>Zgh x.1 x.2.1)
theorem Zyg:SqH Zhy 65:=
 dPI Zcq Z3 Zd ({loops:=fun _=>none,joins:=fun _=>none,named:=true,inl:=inlL [145]}) (Z3n Zcq Z3 Z19g 6) Tryz.func65 (fun x p=>Zjv 22 x.1 x.2.1 p) fun x h w=>Z138 22 x.1 x.2.1 h w
def Zxa:Cx:=addC 65 Zhy Zx9
theorem Zcr:CxOk Tryz.prog Zxa:=Zm Zcq Zyg
def Zhz:Con:=.det [.slice (.int .i64),.int .i64] [.snap (.int .i64)] (fun x=>Zuw x.1 x.2.1) (fun x=>Zgi x.1 x.2.1)
theorem Zyh:SqH Zhz 66:=
 dPI Zcr Z3 Zd ({loops:=fun _=>none,joins:=fun _=>none,named:=true,inl:=inlL [147]}) (Z3n Zcr Z3 Z19h 6) Tryz.func66 (fun x p=>Zjw 2 x.1 x.2.1 p) fun x h w=>Z139 2 x.1 x.2.1 h w
def Z1gy:Cx:=addC 66 Zhz Zxa
theorem Z163:CxOk Tryz.prog Z1gy:=Zm Zcr Zyh
def Zbd:Con:=.det [.int .i64,kSea] [.snap (.int .i64),.snap (.int .i64)] (fun x=>Z10m x.1 x.2.1) (fun x=>Zl3 x.1 x.2.1)
theorem Zjx:SqH Zbd 21:=
 dP Z163 Z3 Zd ({loops:=fun _=>none,joins:=fun _=>none,unroll:=fun _=>some 5}) Tryz.func21 (fun x p=>Zm3  x.1 x.2.1 p) fun x h w=>Z162  x.1 x.2.1 h w
end Go.Lift

namespace Go.Lift
def Zxb:=fun(a b:Nat)(post:Nat × Unit→Prop)=>∀ a_1,a_1=fcmp Go.BinOp.neq (f64.format.order a a)→Br a_1 (∃(h:True),post (qnR.1,())) (∀ a_2,
 a_2=fcmp Go.BinOp.neq (f64.format.order b b)→Br a_2 (∃(h:True),post (qnR.1,())) (∃(h:W2 a b),∀ a_3,a_3=decide ((ordR a b).1<(0:Int))→Br a_3
 (post (b,())) (post (a,()))))
theorem Z1gz(a:Nat)(b:Nat)(h:W2 a b):Zxb  a b (fun r=>r=Z115 a b):=by
 have e1:fcmp .neq (f64.format.order a a)=isN a:=Z6v a
 have e2:fcmp .neq (f64.format.order b b)=isN b:=Z6v b
 rintro _ rfl
 rw[e1]
 refine Br.intro (fun e=>⟨trivial,?_⟩) fun e=>?_
 ·show(QN,())=r1 (maxQ a b)
  unfold maxQ; rw[if_pos (by rw[e]; rfl)]; rfl
 rintro _ rfl
 rw[e2]
 refine Br.intro (fun e'=>⟨trivial,?_⟩) fun e'=>?_
 ·show(QN,())=r1 (maxQ a b)
  unfold maxQ; rw[if_pos (by rw[e']; simp)]; rfl
 refine⟨h,?_⟩
 rintro _ rfl
 refine Br.intro (fun q=>?_) fun q=>?_
 ·have q:ordF a b<0:=of_decide_eq_true q
  show(b,())=r1 (maxQ a b)
  unfold maxQ; rw[if_neg (by rw[e,e']; decide),if_pos q]; rfl
 ·have q:¬ ordF a b<0:=of_decide_eq_false q
  show(a,())=r1 (maxQ a b)
  unfold maxQ; rw[if_neg (by rw[e,e']; decide),if_neg q]; rfl
def Zxc:=fun(a b:Nat)(post:Nat × Unit→Prop)=>∀ a_1,a_1=fcmp Go.BinOp.neq (f64.format.order a a)→Br a_1 (∃(h:True),post (qnR.1,())) (∀ a_2,
 a_2=fcmp Go.BinOp.neq (f64.format.order b b)→Br a_2 (∃(h:True),post (qnR.1,())) (∃(h:W2 a b),∀ a_3,a_3=decide ((ordR a b).1 > (0:Int))→Br a_3
 (post (b,())) (post (a,()))))
theorem Z1h0(a:Nat)(b:Nat)(h:W2 a b):Zxc  a b (fun r=>r=Zfz a b):=by
 have e1:fcmp .neq (f64.format.order a a)=isN a:=Z6v a
 have e2:fcmp .neq (f64.format.order b b)=isN b:=Z6v b
 rintro _ rfl
 rw[e1]
 refine Br.intro (fun e=>⟨trivial,?_⟩) fun e=>?_
 ·show(QN,())=r1 (minQ a b)
  unfold minQ; rw[if_pos (by rw[e]; rfl)]; rfl
 rintro _ rfl
 rw[e2]
 refine Br.intro (fun e'=>⟨trivial,?_⟩) fun e'=>?_
 ·show(QN,())=r1 (minQ a b)
  unfold minQ; rw[if_pos (by rw[e']; simp)]; rfl
 refine⟨h,?_⟩
 rintro _ rfl
 refine Br.intro (fun q=>?_) fun q=>?_
 ·have q:0<ordF a b:=of_decide_eq_true q
  show(b,())=r1 (minQ a b)
  unfold minQ; rw[if_neg (by rw[e,e']; decide),if_pos q]; rfl
 ·have q:¬ 0<ordF a b:=of_decide_eq_false q
  show(a,())=r1 (minQ a b)
  unfold minQ; rw[if_neg (by rw[e,e']; decide),if_neg q]; rfl
def Zm5:=fun(bed:Nat)(w a:Int)(post:Nat × Unit→Prop)=>∃(h:II w a),∀(a_1:Nat),FRes f64 (f64.format.add bed (Z4k w a).1)
 a_1→∃(h:True),post ((Zt a_1).1,())
theorem Z164(bed:Nat)(w:Int)(a:Int)(h:Zsi bed w a):Zm5  bed w a (fun r=>r=Zsh bed w a):=by
 refine⟨⟨h.2.1,h.2.2⟩,?_⟩
 intro r hr
 refine⟨trivial,?_⟩
 show(Z14 r,())=r1 (Zl7 bed w a)
 unfold Zl7
 rw[show addQ bed (Z94 w a)=Z5 r from(fadd hr).1.symm,Z5f]; rfl
def Zq3:=fun(x:Nat)(m:Int)(post:Int × Unit→Prop)=>∃(h:True),∀ a,a=(nanR x).1→Br a (post (0,())) (∃(h:W64 x),∀ a,a=fcmp Go.BinOp.lss
 (f64.format.order (absR x).1 (4890909195324358656:Nat))→Br a (∃(h:Zno (absR x).1),∀ a,a=fcmp Go.BinOp.lss (f64.format.order x (0:Nat))→
 Br a (post (i64.wrap ((0:Int) - imin (imax m (0:Int)) (i64.wrap (Znn (absR x).1).1)),())) (post (imin (imax m (0:Int)) (i64.wrap (Znn (absR
 x).1).1),()))) (∀ a,a=fcmp Go.BinOp.lss (f64.format.order x (0:Nat))→Br a (post (i64.wrap ((0:Int) - imax m (0:Int)),())) (post (imax m (0:
 Int),()))))
theorem Z1an(x:Nat)(m:Int)(h:Z1dy x m):Zq3  x m (fun r=>r=Z1dx x m):=by
 obtain⟨hx,hm⟩:=h
 have eN:(nanR x).1=isN x:=rfl
 refine⟨trivial,?_⟩
 rintro _ rfl
 rw[eN]
 refine Br.intro (fun e=>?_) fun e=>?_
 ·show((0:Int),())=r1 (Z3p x m)
  unfold Z3p; rw[if_pos e]; rfl
 refine⟨hx,?_⟩
 have eA:(absR x).1=Z0 x:=rfl
 rw[eA]
 have eL:fcmp .lss (f64.format.order (Z0 x) 4890909195324358656)=decide (Z0 x<Z1o):=Zxx x
 rintro _ rfl
 rw[eL]
 have eS:fcmp .lss (f64.format.order x 0)=(sgn x&&decide (Z0 x≠0)):=Znp e
 have im:0≤imax m 0∧imax m 0≤9223372036854775807:=by
  obtain⟨m1,m2⟩:=hm
  unfold imax; split <;> omega
 have key:Z3p x m=if(sgn x&&decide (Z0 x≠0))=true then -(Z56 x m)else Z56 x m:=by
  unfold Z3p; rw[if_neg (by rw[e]; decide)]
 refine Br.intro (fun g=>?_) fun g=>?_
 ·have g':=of_decide_eq_true g
  obtain⟨n0,n1⟩:=Zo0 g'
  have ew:i64.wrap (Znn (Z0 x)).1=Z5a (Z0 x):=wi (x:=Z5a (Z0 x)) ⟨by omega,by omega⟩
  have ca:Z56 x m=imin (imax m 0) (Z5a (Z0 x)):=by unfold Z56; rw[if_pos g']
  have cr:0≤imin (imax m 0) (Z5a (Z0 x))∧imin (imax m 0) (Z5a (Z0 x))≤9223372036854775807:=by unfold imin; split <;> omega
  refine⟨g',?_⟩
  rw[ew]
  rintro _ rfl
  rw[eS]
  refine Br.intro (fun q=>?_) fun q=>?_
  ·show(_,())=r1 (Z3p x m)
   rw[key,if_pos q,ca,wi ⟨by omega,by omega⟩,Int.zero_sub]; rfl
  ·show(_,())=r1 (Z3p x m)
   rw[key,if_neg (by rw[q]; decide),ca]; rfl
 ·have g':=of_decide_eq_false g
  have ca:Z56 x m=imax m 0:=by unfold Z56; rw[if_neg g']
  rintro _ rfl
  rw[eS]
  refine Br.intro (fun q=>?_) fun q=>?_
  ·show(_,())=r1 (Z3p x m)
   rw[key,if_pos q,ca,wi ⟨by omega,by omega⟩,Int.zero_sub]; rfl
  ·show(_,())=r1 (Z3p x m)
   rw[key,if_neg (by rw[q]; decide),ca]; rfl
def Zm6:=fun(k:Int)(post:Bool × Unit→Prop)=>∀ a,a=decide (k≥(0:Int))→Br a (∀ a,a=decide (k≤(3:Int))→post (a,())) (post (false,()))
theorem Z165(k:Int):Zm6  k (fun r=>r=Zhh k):=by
 rintro _ rfl
 refine Br.intro (fun e=>?_) fun e=>?_
 ·rintro _ rfl
  have e:decide (0≤k)=true:=e
  show(decide (k≤3),())=r1 (Z49 k)
  unfold Z49; rw[e]; rfl
 ·have e:decide (0≤k)=false:=e
  show(false,())=r1 (Z49 k)
  unfold Z49; rw[e]; rfl
def Zbe:=fun(a b:Nat)(post:Nat × Unit→Prop)=>post (0,())
theorem Zof(a:Nat)(b:Nat):Zbe  a b (fun r=>r=Zed a b):=by
 exact rfl
def Zbf:=fun(a b:Nat)(post:Nat × Unit→Prop)=>∀(a_1:Nat),FRes f64 (f64.format.mul (4611686018427387904:Nat) a) a_1→∃(h
 : W2 a_1 b),∀ a_2,a_2=Zfz a_1 b→∀(a_3:Nat),FRes f64 (f64.format.mul (4611686018427387904:Nat) b) a_3→∃(h:W2 a a_3),∀ a_4,a_4=Zfz
 a a_3→∃(h:W2 a_2.1 a_4.1),∀ a,a=Z115 a_2.1 a_4.1→post (a.1,())
theorem Zog(a:Nat)(b:Nat)(h:Zd9 a b):Zbf  a b (fun r=>r=supR a b):=by
 obtain⟨ha,hb⟩:=h
 intro x f1
 obtain rfl:x=mulQ twoS a:=Z186 (fmul f1).1 (Z154 ha) (fmul f1).2
 have p1:=Z154 ha
 have p2:=Z154 hb
 refine⟨⟨p1.1,hb.1⟩,?_⟩
 rintro _ rfl
 intro y f2
 obtain rfl:y=mulQ twoS b:=Z186 (fmul f2).1 p2 (fmul f2).2
 refine⟨⟨ha.1,p2.1⟩,?_⟩
 rintro _ rfl
 refine⟨⟨(Z1ig p1 hb).1,(Z1ig ha p2).1⟩,?_⟩
 rintro _ rfl
 rfl
def Zbg:=fun(a b:Nat)(post:Nat × Unit→Prop)=>∀(a_1:Nat),FRes f64 (f64.format.mul (4611686018427387904:Nat) a) a_1→∀
 (a_2:Nat),FRes f64 (f64.format.mul a_1 b) a_2→∀(a_3:Nat),FRes f64 (f64.format.add a b) a_3→∀(a:Nat),FRes
 f64 (f64.format.div a_2 a_3) a→∀ a_4,a_4=fcmp Go.BinOp.neq (f64.format.order a a)→Br a_4 (post (0,())) (∃(h:WI a (0:Int)),∀
 a_5,a_5=(Z10e a (0:Int)).1→Br a_5 (post (0,())) (post (a,())))
theorem Zoh(a:Nat)(b:Nat)(h:Zd9 a b):Zbg  a b (fun r=>r=Z118 a b):=by
 intro x f1
 have q1:=fmul f1
 intro y f2
 have q2:=fmul f2
 intro z f3
 have q3:=fadd f3
 intro s f4
 have q4:=fdiv f4
 have e:Z5 s=Z116 a b:=by
  unfold Z116
  rw[q4.1]
  exact Zd2 (by rw[q2.1,Z3x]; exact Z46 (by rw[q1.1,Z3x]; rfl) rfl) (by rw[q3.1,Zl1])
 have en:fcmp .neq (f64.format.order s s)=isN s:=Z6v s
 rintro _ rfl
 rw[en]
 have key:Zd8 a b=if isN s||decide (Z0 (Z5 s)=infR)then 0 else Z5 s:=by
  unfold Zd8
  rw[← e,Z2w]
 refine Br.intro (fun g=>?_) fun g=>?_
 ·show(0,())=r1 (Zd8 a b)
  rw[key,if_pos (by rw[g]; rfl)]; rfl
 have hq:Z5 s=s:=Zh7 g
 rw[hq]at key
 refine⟨q4.2,?_⟩
 rintro _ rfl
 have hi:(Z10e s 0).1=decide (Z0 s=infR):=by
  show infS s 0=_
  unfold infS; rw[if_pos rfl]
 rw[hi]
 refine Br.intro (fun g2=>?_) fun g2=>?_
 ·show(0,())=r1 (Zd8 a b)
  rw[key,if_pos (by rw[g2]; simp)]; rfl
 ·show(s,())=r1 (Zd8 a b)
  rw[key,if_neg (by rw[g,g2]; decide)]; rfl
end Go.Lift

namespace Go.Lift
end Go.Lift

namespace Go.Lift
open Go.Proofs
end Go.Lift

namespace Go.Lift
end Go.Lift

namespace Go.Lift
open Go.Proofs
end Go.Lift

namespace Go.Lift
open Go.Proofs
def Z18k:Cx:=⟨Z1t Z23,Z21 [(172,Zcj),(204,Z8q),(89,Z5x),(99,Z43),(201,Zck),(152,Z83),(202,Zew),(240,Zcm)],SqG⟩
theorem Ztl:CxOk Tryz.prog Z18k:=⟨Zn Zy,Zu ⟨Zlj,Zcl,Z7m,Z50,Zlm,Zb6,Zps,Zlp,trivial⟩⟩
def Zi0:Con:=Con.nam [.flt .f64,.flt .f64] [.snap (.flt .f64)] (fun x=>W2 x.1 x.2.1) (fun x=>Z115 x.1 x.2.1)
theorem Ztm:SqH Zi0 157:=
 nP Ztl Z3 Zd ({loops:=Z10 [],joins:=fun _=>none,named:=true}) Tryz.func157 (fun x p=>Zxb  x.1 x.2.1 p) fun x h _=>Z1gz  x.1 x.2.1 h
def Z18l:Cx:=addC 157 Zi0 Z18k
theorem Ztn:CxOk Tryz.prog Z18l:=Zm Ztl Ztm
def Zbh:Con:=Con.nam [.flt .f64,.flt .f64] [.snap (.flt .f64)] (fun x=>W2 x.1 x.2.1) (fun x=>Zfz x.1 x.2.1)
theorem Zi1:SqH Zbh 158:=
 nP Ztn Z3 Zd ({loops:=Z10 [],joins:=fun _=>none,named:=true}) Tryz.func158 (fun x p=>Zxc  x.1 x.2.1 p) fun x h _=>Z1h0  x.1 x.2.1 h
def Z1om:Cx:=addC 158 Zbh Z18l
theorem Z6k:CxOk Tryz.prog Z1om:=Zm Ztn Zi1
def Zbi:Con:=Con.nam [.flt .f64,.int .i64,.int .i64] [.snap (.flt .f64)] (fun x=>Zsi x.1 x.2.1 x.2.2.1) (fun x=>Zsh x.1 x.2.1 x.2.2.1)
theorem Zjy:SqH Zbi 92:=
 nP Z6k Z3 Zd nHn Tryz.func92 (fun x p=>Zm5  x.1 x.2.1 x.2.2.1 p) fun x h _=>Z164  x.1 x.2.1 x.2.2.1 h
def Zm7:Con:=Con.nam [.flt .f64,.int .i64] [.snap (.int .i64)] (fun x=>Z1dy x.1 x.2.1) (fun x=>Z1dx x.1 x.2.1)
theorem Z166:SqH Zm7 153:=
 nP Z6k Z3 Zd ({loops:=Z10 [],joins:=fun _=>none,named:=true}) Tryz.func153 (fun x p=>Zq3  x.1 x.2.1 p) fun x h _=>Z1an  x.1 x.2.1 h
def Zbj:Con:=Con.nam [.int .i64] [.snap .bool] (fun _=>True) (fun x=>Zhh x.1)
theorem Zjz:SqH Zbj 61:=
 nP Z6k Z3 Zd ({loops:=Z10 [],joins:=fun _=>none,named:=true}) Tryz.func61 (fun x p=>Zm6  x.1 p) fun x _ _=>Z165  x.1
def Za7:Con:=Con.nam [.flt .f64,.flt .f64] [.snap (.flt .f64)] (fun _=>True) (fun x=>Zed x.1 x.2.1)
theorem Zm8:SqH Za7 237:=
 nP Z6k Z3 Zd nHn Tryz.func237 (fun x p=>Zbe  x.1 x.2.1 p) fun x _ _=>Zof  x.1 x.2.1
def Za8:Con:=Con.nam [.flt .f64,.flt .f64] [.snap (.flt .f64)] (fun x=>Zd9 x.1 x.2.1) (fun x=>supR x.1 x.2.1)
theorem Zm9:SqH Za8 238:=
 nP Z6k Z3 Zd nHn Tryz.func238 (fun x p=>Zbf  x.1 x.2.1 p) fun x h _=>Zog  x.1 x.2.1 h
def Za9:Con:=Con.nam [.flt .f64,.flt .f64] [.snap (.flt .f64)] (fun x=>Zd9 x.1 x.2.1) (fun x=>Z118 x.1 x.2.1)
theorem Zma:SqH Za9 239:=
 nP Z6k Z3 Zd ({loops:=Z10 [],joins:=fun _=>none,named:=true}) Tryz.func239 (fun x p=>Zbg  x.1 x.2.1 p) fun x h _=>Zoh  x.1 x.2.1 h
end Go.Lift

namespace Go.Lift
end Go.Lift

namespace Go.Lift
open Go.Proofs
end Go.Lift

namespace Go.Lift
open Go.Proofs
def Z18m:Cx:=⟨Z1t Z23,Z21 [(48,Z4y),(60,Z8s),(61,Zbj)],SqG⟩
theorem Zto:CxOk Tryz.prog Z18m:=⟨Zn Zy,Zu ⟨Z6j,Zfb,Zjz,trivial⟩⟩
def Zcs:Con:=Con.nam [.int .i64,Zj] [.snap .bool] (fun _=>True) (fun x=>Zcc x.1 x.2.1)
theorem Zmb:SqH Zcs 64:=
 nP Zto Z3 Zd ({loops:=Z10 [],joins:=fun _=>none,named:=true}) Tryz.func64 (fun x p=>Zq1  x.1 x.2.1 p) fun x _ _=>Z1al  x.1 x.2.1
def Z1on:Cx:=addC 64 Zcs Z18m
theorem Ztp:CxOk Tryz.prog Z1on:=Zm Zto Zmb
def Zct:Con:=Con.nam [Z7f] [.snap (.int .i64)] (fun x=>Zl9 x.1) (fun x=>Z11e x.1)
theorem Zmc:SqH Zct 20:=
 nPI Ztp Z3 Zd ({loops:=fun _=>none,joins:=fun _=>none,named:=true,inl:=inlL [62]}) (Z3n Ztp Z3 Z19j 6) Tryz.func20 (fun x p=>Zq2 25 3 x.1 p) fun x h w=>Z1am 25 3 x.1 h w
end Go.Lift

namespace Go.Lift
open Go.Proofs
def Z13a:Cx:=⟨Z1t Z23,Z21 [(23,Zx7),(20,Zct),(21,Zbd),(13,Zhv)],SqG⟩
theorem Zey:CxOk Tryz.prog Z13a:=⟨Zn Zy,Zu ⟨Z1gx,Zmc,Zjx,Ztk,trivial⟩⟩
def Zk0:Con:=Con.nam [] [.snap Z7f] (fun _=>True) (fun x=>Zsk)
theorem Z13b:SqH Zk0 43:=
 nP Zey Z3 Zd ({loops:=Z10 [],joins:=fun _=>none,named:=true}) Tryz.func43 (fun x p=>Zm0   p) fun x _ _=>Z15z
def Zbk:Con:=Con.nam [.slice (.int .i64),.slice (.int .i64)] [.snap .bool] (fun _=>True) (fun x=>Z10x x.1 x.2.1)
theorem Zk1:SqH Zbk 18:=
 nP Zey Z3 Zd ({loops:=Z10 [(4,{ls:=[(.slot 5,.data (.int .i64))],os:=[]})],joins:=fun _=>none,named:=true}) Tryz.func18 (fun x p=>Zm1  x.1 x.2.1 p) fun x _ w=>Z160  x.1 x.2.1 w
def Z1l0:Cx:=addC 18 Zbk Z13a
theorem Zq4:CxOk Tryz.prog Z1l0:=Zm Zey Zk1
def Zmd:Con:=Con.nam [kSea,kSea] [.snap .bool] (fun _=>True) (fun x=>Zv1 x.1 x.2.1)
theorem Z167:SqH Zmd 16:=
 nP Zq4 Z3 Zd nHn Tryz.func16 (fun x p=>Zpz  x.1 x.2.1 p) fun x _ _=>Z1aj  x.1 x.2.1
def Zme:Con:=Con.nam [Z7f,kSea] [.snap (.ptr Z28),.snap .bool] (fun x=>Zsj x.1 x.2.1) (fun x=>Z6h x.1 x.2.1)
theorem Z168:SqH Zme 19:=
 nP Zq4 Z3 Zd ({loops:=Z10 [],joins:=fun _=>none,named:=true}) Tryz.func19 (fun x p=>Zq0  x.1 x.2.1 p) fun x h _=>Z1ak  x.1 x.2.1 h
end Go.Lift

namespace Go.Lift
def Zbv:=fun(post:Int × Unit→Prop)=>post (0,())
theorem Zqv  : Zbv   (fun r=>r=Z10v none):=by
 exact rfl
def Zbw:=fun(g:YG)(post:Int × Unit→Prop)=>∃(h:some g≠none),post (g.1,())
theorem Zqw(g:YG):Zbw  g (fun r=>r=Z10v (some g)):=by
 exact⟨by simp,rfl⟩
def Zq5:=fun(p:YP)(s:YS)(post:Int × Unit→Prop)=>post (2,())
theorem Z1ao(p:YP)(s:YS)(h:Z5u none p s):Zq5  p s (fun r=>r=canR none p s):=by
 exact rfl
def Zq6:=fun(g:YG)(p:YP)(s:YS)(post:Int × Unit→Prop)=>∃(h:True),∀ a,a=Z10v (some g)→∀ a_1,a_1=(a.1 != p.1)→Br a_1 (post (1,()))
 (∃(h:Zl9 p),∀ a,a=Z11e p→∀ a_2,a_2=(a.1 != (0:Int))→Br a_2 (post (a.1,())) (∃(h:Z10m p.1 s),post ((Zl3 p.1 s).2.1,())))
theorem Z1ap(g:YG)(p:YP)(s:YS)(h:Z5u (some g) p s):Zq6  g p s (fun r=>r=canR (some g) p s):=by
 obtain⟨hN,hP,hS⟩:=h
 obtain⟨n,hn,rfl⟩:=Z48 hN
 have e0:canE (some (netG n)) p s=if Z4m (some (netG n))≠p.1 then 1 else if Z1g p≠0 then Z1g p else(Z1i p.1 s).2:=by unfold canE; rw[if_neg (by simp)]
 refine⟨trivial,?_⟩
 rintro _ rfl _ rfl
 refine Br.intro (fun e=>?_) fun e=>?_
 ·have e:(Z4m (some (netG n)) != p.1)=true:=e
  have e:Z4m (some (netG n))≠p.1:=by simpa using e
  show((1:Int),())=r1 (canE _ _ _)
  rw[e0,if_pos e]; rfl
 ·have e:(Z4m (some (netG n)) != p.1)=false:=e
  have e:¬ Z4m (some (netG n))≠p.1:=by simpa using e
  refine⟨hP,?_⟩
  rintro _ rfl _ rfl
  refine Br.intro (fun q=>?_) fun q=>?_
  ·have q:(Z1g p != 0)=true:=q
   have q:Z1g p≠0:=by simpa using q
   show(Z1g p,())=r1 (canE _ _ _)
   rw[e0,if_neg e,if_pos q]; rfl
  ·have q:(Z1g p != 0)=false:=q
   have q:¬ Z1g p≠0:=by simpa using q
   refine⟨⟨hP.1,hS⟩,?_⟩
   show((Z1i p.1 s).2,())=r1 (canE _ _ _)
   rw[e0,if_neg e,if_neg q]; rfl
def Ztq:=fun(g:Option YG)(p:YP)(s:YS)(post:List Nat × (List Int × List Int) × Int × Unit→Prop)=>∃(h:Zv8 g p s),∀ a,a=Za2 g p s→∀ a_1,a_1
 = (a.2.1 != (0:Int))→Br a_1 (post ([],([],[]),a.2.1,())) (∃(h:Z1c8 g p (s.1,s.2.1,s.2.2.1,List.take a.1.length (List.drop (0:Nat) a.1),s.2.2.2.2.1,
 s.2.2.2.2.2)),∀ a_2,a_2=Zj4 g p (s.1,s.2.1,s.2.2.1,List.take a.1.length (List.drop (0:Nat) a.1),s.2.2.2.2.1,s.2.2.2.2.2)→∀ a_3,a_3=(a_2.2.1 != (0:Int))→Br
 a_3 (post ([],([],[]),a_2.2.1,())) (∃(h:WAll g s.2.1 (List.take a_2.1.length (List.drop (0:Nat) a_2.1))),∀ a_4,a_4=Znv g s.2.1 (List.take a_2.1.length (List.drop (0
 : Nat) a_2.1))→∀ a_5,a_5=(a_4.2.1 != (0:Int))→Br a_5 (post ([],([],[]),a_4.2.1,())) (∃(h:Z1dp g s.2.1 s.2.2.1 (List.take a_4.1.length (List.drop (0:Nat)
 a_4.1))),∀ a_6,a_6=Zgk g s.2.1 s.2.2.1 (List.take a_4.1.length (List.drop (0:Nat) a_4.1))→∀ a_7,a_7=(a_6.2.1 != (0:Int))→Br a_7 (post ([],([],[]),a_6.2.1,
 ())) (((0:Nat)=(0:Nat)∧a.1.length=a.1.length)∧((0:Nat)=(0:Nat)∧a_4.1.length=a_4.1.length)∧((0:Nat)=(0:Nat)∧a_6.1.length=a_6.1.length)∧post
 (a.1,(a_4.1,a_6.1),0,())))))
theorem Z1f4(g:Option YG)(p:YP)(s:YS)(h:Z11l g p s):Ztq  g p s (fun r=>r=Z11k g p s):=by
 obtain⟨⟨hN,hP,hS⟩,hc⟩:=h
 obtain⟨rfl,hp,C⟩:=Z1eh hN hc
 have S:=Zvj rfl hp C
 obtain⟨k0,k3⟩:=Z1iq (Zo7 hp).2.2.2
 have e1:Za2 (some (netG p.1)) p s=(Z1c (some (netG p.1)) p s,0,()):=by unfold Za2; rw[S.spd.2.2]
 have e2:Zj4 (some (netG p.1)) p (Zb1 s (Z1c (some (netG p.1)) p s))=(Z2x (some (netG p.1)) p s,0,()):=by unfold Zj4; rw[S.want.1]
 have e3:Znv (some (netG p.1)) s.2.1 (Z2x (some (netG p.1)) p s)=(Zi (some (netG p.1)) p s,0,()):=by unfold Znv; rw[S.wat]
 have e4:Zgk (some (netG p.1)) s.2.1 s.2.2.1 (Zi (some (netG p.1)) p s)=(Z20 (some (netG p.1)) p s,0,()):=by unfold Zgk; rw[S.wth]
 refine⟨⟨hN,hP.2.1,hS.1,hS.2.1,hS.2.2.2.1⟩,fun a ha=>?_⟩
 have ha:a=_:=ha.trans e1
 subst ha
 rintro _ rfl
 refine Br.intro (fun q=>absurd (show((0:Int) != 0)=true from q) (by decide)) fun _=>?_
 dsimp only
 try simp only[Zce]
 refine⟨⟨hN,hP.2.1.1,k0,k3,hS.1,hS.2.1,S.spd.2.1⟩,fun a ha=>?_⟩
 have ha:a=_:=ha.trans e2
 subst ha
 rintro _ rfl
 refine Br.intro (fun q=>absurd (show((0:Int) != 0)=true from q) (by decide)) fun _=>?_
 dsimp only
 try simp only[Zce]
 refine⟨⟨hN,hS.2.1,Z1ei S.want.2.1⟩,fun a ha=>?_⟩
 have ha:a=_:=ha.trans e3
 subst ha
 rintro _ rfl
 refine Br.intro (fun q=>absurd (show((0:Int) != 0)=true from q) (by decide)) fun _=>?_
 dsimp only
 try simp only[Zce]
 refine⟨⟨hN,hS.2.1,hS.2.2.1,Z1ei S.watF⟩,fun a ha=>?_⟩
 have ha:a=_:=ha.trans e4
 subst ha
 rintro _ rfl
 refine Br.intro (fun q=>absurd (show((0:Int) != 0)=true from q) (by decide)) fun _=>?_
 exact⟨(by first | trivial | exact⟨rfl,rfl⟩ | exact⟨trivial,trivial⟩),(by first | trivial | exact⟨rfl,rfl⟩ | exact⟨trivial,trivial⟩),(by first | trivial | exact⟨rfl,rfl⟩ | exact⟨trivial,trivial⟩),rfl⟩
def Zxd:=fun(g:Option YG)(p:YP)(s:YS)(post:YS × Int × Unit→Prop)=>∃(h:Z5u g p s),∀ a,a=canR g p s→∀ a_1,a_1=(a.1 != (0:Int))→Br a_1 (post
 (([],[],[],[],0,0),a.1,())) (∃(h:Z11l g p s),∀ a,a=Z11k g p s→∀ a_2,a_2=(a.2.2.1 != (0:Int))→Br a_2 (post (([],[],[],[],0,0),a.2.2.1,())) (∃(h:
 Z1e4 s.1),∀ a_3,a_3=Z1e3 s.1→∃(h:Z11h g s.2.1 (List.take a.2.1.1.length (List.drop (0:Nat) a.2.1.1))),∀ a_4,a_4=Zb0 g s.2.1 (List.take a.2.1.1.length
 (List.drop (0:Nat) a.2.1.1))→∀ a_5,a_5=(a_4.2.1 != (0:Int))→Br a_5 (post (([],[],[],[],0,0),a_4.2.1,())) (∃(h:Z11h g s.2.2.1 (List.take a.2.1.2.length
 (List.drop (0:Nat) a.2.1.2))),∀ a_6,a_6=Zb0 g s.2.2.1 (List.take a.2.1.2.length (List.drop (0:Nat) a.2.1.2))→∀ a_7,a_7=(a_6.2.1 != (0:Int))→Br a_7 (post (([],
 [],[],[],0,0),a_6.2.1,())) (∃(h:Z1ke (List.take a_4.1.length (List.drop (0:Nat) a_4.1)) s.2.2.2.2.1 p.2.2.2.2.2.2 s.2.2.2.2.2),∀ a_8,a_8=Z11i (List.take
 a_4.1.length (List.drop (0:Nat) a_4.1)) s.2.2.2.2.1 p.2.2.2.2.2.2 s.2.2.2.2.2→∀ a_9,a_9=(a_8.2.2.1 != (0:Int))→Br a_9 (post (([],[],[],[],0,0),a_8.2.2.1,())) (Br
 (!p.2.2.2.2.2.1) (((0:Nat)=(0:Nat)∧a_3.1.length=a_3.1.length)∧((0:Nat)=(0:Nat)∧a_8.1.length=a_8.1.length)∧((0:Nat)=(0:Nat)∧a_6.1.length=
 a_6.1.length)∧((0:Nat)=(0:Nat)∧a.1.length=a.1.length)∧post ((a_3.1,a_8.1,a_6.1,a.1,a_8.2.1,i64.wrap (imin s.2.2.2.2.2 (4611686018427387903:Int)+(1:
 Int))),0,())) (∃(h:WRun g (List.take a_3.1.length (List.drop (0:Nat) a_3.1),List.take a_8.1.length (List.drop (0:Nat) a_8.1),List.take a_6.1.length (List.drop (0:Nat)
 a_6.1),List.take a.1.length (List.drop (0:Nat) a.1),a_8.2.1,i64.wrap (imin s.2.2.2.2.2 (4611686018427387903:Int)+(1:Int)))),∀ a_10,a_10=Z6x g (List.take
 a_3.1.length (List.drop (0:Nat) a_3.1),List.take a_8.1.length (List.drop (0:Nat) a_8.1),List.take a_6.1.length (List.drop (0:Nat) a_6.1),List.take a.1.length (List.drop
 (0:Nat) a.1),a_8.2.1,i64.wrap (imin s.2.2.2.2.2 (4611686018427387903:Int)+(1:Int)))→∀ a_11,a_11=(a_10.2.2.1 != (0:Int))→Br a_11 (post (([],[],[],[],
 0,0),a_10.2.2.1,())) (((0:Nat)=(0:Nat)∧a_3.1.length=a_3.1.length)∧((0:Nat)=(0:Nat)∧a_10.1.length=a_10.1.length)∧((0:Nat)=(0:Nat)∧a_10.2.1.length
 = a_10.2.1.length)∧((0:Nat)=(0:Nat)∧a.1.length=a.1.length)∧post ((a_3.1,a_10.1,a_10.2.1,a.1,a_8.2.1,i64.wrap (imin s.2.2.2.2.2 (4611686018427387903:
 Int)+(1:Int))),0,()))))))))
theorem Z1h1(g:Option YG)(p:YP)(s:YS)(h:Z5u g p s)(w:KS.wf [.ptr Z28,Z7f,kSea] (g,p,s,())):Zxd  g p s (fun r=>r=Z8n g p s):=by
 refine⟨h,fun a ha=>?_⟩
 have ha:a=canR g p s:=ha
 subst ha
 rintro _ rfl
 refine Br.intro (fun q=>?_) fun q=>?_
 ·have q:(canE g p s != 0)=true:=q
  have q:¬ canE g p s=0:=by simpa using q
  show(([],[],[],[],0,0),canE g p s,())=Z8n g p s
  unfold Z8n; rw[if_neg q]; rfl
 have q:(canE g p s != 0)=false:=q
 have q:canE g p s=0:=by simpa using q
 obtain⟨hN,hP,hS⟩:=h
 obtain⟨rfl,hp,C⟩:=Z1eh hN q
 have S:=Zvj rfl hp C
 have cr:=Z37 p.1
 have lb:=C.bed
 have num:=C.num
 have e3:Zb0 (some (netG p.1)) s.2.1 (Zi (some (netG p.1)) p s)=(Za3 (some (netG p.1)) p s,0,()):=by unfold Zb0; rw[S.mv.1]
 have e4:Zb0 (some (netG p.1)) s.2.2.1 (Z20 (some (netG p.1)) p s)=(Zg4 (some (netG p.1)) p s,0,()):=by unfold Zb0; rw[S.hs.1]
 have e5:Z11i (Za3 (some (netG p.1)) p s) s.2.2.2.2.1 p.2.2.2.2.2.2 s.2.2.2.2.2=((Z4a (some (netG p.1)) p s).1,(Z4a (some (netG p.1)) p s).2.1,0,()):=by
  have:=S.fall.ok
  unfold Z11i
  show(_,_,(Z4a (some (netG p.1)) p s).2.2,())=_
  rw[this]; rfl
 have e6:i64.wrap (imin s.2.2.2.2.2 4611686018427387903+1)=Zj5 s:=by
  have:0≤imin s.2.2.2.2.2 4611686018427387903∧imin s.2.2.2.2.2 4611686018427387903≤4611686018427387903:=by unfold imin; split <;> omega
  exact Zq (by omega) (by omega)
 have sk:=S.fall.sky
 have mI:AllI (Za3 (some (netG p.1)) p s):=nn_I S.mv.2.nn (T:=s.2.1.sum) (by rw[S.mv.2.sum]; omega) (by have:=S.wsum; have:=C.sky; omega)
 have fI:AllI (Z4a (some (netG p.1)) p s).1:=nn_I S.fall.pool.nn (T:=4503599627370496) (by rw[S.fall.pool.sum]; have:=S.wsum; omega) (by decide)
 have hI:AllI (Zg4 (some (netG p.1)) p s):=nn_I S.hs.2.nn (T:=4503599627370496) (by rw[S.hs.2.sum]; have:=S.tsum; omega) (by decide)
 refine⟨⟨⟨hN,hP,hS⟩,q⟩,fun a ha=>?_⟩
 have ha:a=(Z1c (some (netG p.1)) p s,(Zi (some (netG p.1)) p s,Z20 (some (netG p.1)) p s),0,()):=ha
 subst ha
 rintro _ rfl
 refine Br.intro (fun q=>absurd (show((0:Int) != 0)=true from q) (by decide)) fun _=>?_
 dsimp only
 try simp only[Zce]
 refine⟨show s.1.length≤65536 by omega,fun a ha=>?_⟩
 have ha:a=(s.1,()):=ha
 subst ha
 refine⟨⟨hN,hS.2.1,Z1ei S.watF⟩,fun a ha=>?_⟩
 have ha:a=_:=ha.trans e3
 subst ha
 rintro _ rfl
 refine Br.intro (fun q=>absurd (show((0:Int) != 0)=true from q) (by decide)) fun _=>?_
 refine⟨⟨hN,hS.2.2.1,S.wthI⟩,fun a ha=>?_⟩
 have ha:a=_:=ha.trans e4
 subst ha
 rintro _ rfl
 refine Br.intro (fun q=>absurd (show((0:Int) != 0)=true from q) (by decide)) fun _=>?_
 dsimp only
 try simp only[Zce]
 refine⟨⟨mI,hS.2.2.2.2.1,hS.2.2.2.2.2,by have:=S.mv.2.len; omega⟩,fun a ha=>?_⟩
 have ha:a=_:=ha.trans e5
 subst ha
 rintro _ rfl
 refine Br.intro (fun q=>absurd (show((0:Int) != 0)=true from q) (by decide)) fun _=>?_
 dsimp only
 try simp only[Zce]
 rw[e6]
 have fin:Z8n (some (netG p.1)) p s=(Zg5 (some (netG p.1)) p s,0,()):=by unfold Z8n; rw[if_pos q]
 rw[fin]
 refine Br.intro (fun r=>?_) fun r=>?_
 ·have r:p.2.2.2.2.2.1=false:=by simpa using r
  refine⟨(by first | trivial | exact⟨rfl,rfl⟩ | exact⟨trivial,trivial⟩),(by first | trivial | exact⟨rfl,rfl⟩ | exact⟨trivial,trivial⟩),(by first | trivial | exact⟨rfl,rfl⟩ | exact⟨trivial,trivial⟩),(by first | trivial | exact⟨rfl,rfl⟩ | exact⟨trivial,trivial⟩),?_⟩
  unfold Zg5
  rw[r]; rfl
 ·have r:p.2.2.2.2.2.1=true:=by simpa using r
  obtain⟨w,t,h1,R⟩:=S.run
  have h2:Z6x (some (netG p.1)) (Zb2 (some (netG p.1)) p s)=(w,t,0,()):=h1
  refine⟨⟨hN,hS.1,fI,hI⟩,fun a ha=>?_⟩
  have ha:a=_:=ha.trans h2
  subst ha
  rintro _ rfl
  refine Br.intro (fun q=>absurd (show((0:Int) != 0)=true from q) (by decide)) fun _=>?_
  refine⟨(by first | trivial | exact⟨rfl,rfl⟩ | exact⟨trivial,trivial⟩),(by first | trivial | exact⟨rfl,rfl⟩ | exact⟨trivial,trivial⟩),(by first | trivial | exact⟨rfl,rfl⟩ | exact⟨trivial,trivial⟩),(by first | trivial | exact⟨rfl,rfl⟩ | exact⟨trivial,trivial⟩),?_⟩
  unfold Zg5
  rw[r,h1]; rfl
def Ztr:=fun(g:Option YG)(p:YP)(s:YS)(post:(List Int × List Int) × Int × Unit→Prop)=>∃(h:Z5u g p s),∀ a,a=canR g p s→∀ a_1,a_1=(a.1 != (0:
 Int))→Br a_1 (post (([],[]),a.1,())) (∃(h:Z11l g p s),∀ a,a=Z11k g p s→((0:Nat)=(0:Nat)∧a.2.1.1.length=a.2.1.1.length)∧((0:Nat)=(0:Nat)∧
 a.2.1.2.length=a.2.1.2.length)∧post (a.2.1,a.2.2.1,()))
theorem Z1f5(g:Option YG)(p:YP)(s:YS)(h:Z5u g p s):Ztr  g p s (fun r=>r=Z79 g p s):=by
 refine⟨h,fun a ha=>?_⟩
 have ha:a=canR g p s:=ha
 subst ha
 rintro _ rfl
 refine Br.intro (fun q=>?_) fun q=>?_
 ·have q:(canE g p s != 0)=true:=q
  have q:¬ canE g p s=0:=by simpa using q
  show(([],[]),canE g p s,())=Z79 g p s
  unfold Z79; rw[if_neg q]
 have q:(canE g p s != 0)=false:=q
 have q:canE g p s=0:=by simpa using q
 refine⟨⟨h,q⟩,fun a ha=>?_⟩
 have ha:a=(Z1c g p s,(Zi g p s,Z20 g p s),0,()):=ha
 subst ha
 refine⟨(by first | trivial | exact⟨rfl,rfl⟩ | exact⟨trivial,trivial⟩),(by first | trivial | exact⟨rfl,rfl⟩ | exact⟨trivial,trivial⟩),?_⟩
 unfold Z79; rw[if_pos q]; rfl
end Go.Lift

namespace Go.Lift
def Zfc:=fun(p:YP)(s:YS)(post:List Nat × Int × Unit→Prop)=>post ([],2,())
theorem Zvs(p:YP)(s:YS)(h:Zv8 none p s):Zfc  p s (fun r=>r=Za2 none p s):=by
 exact rfl
def Zts(ty25:Nat)(p:YP)(ty29:Nat)(s:YS)(ty22:Nat)(g:YG):List HObj:=[HObj.box Md.rw ty25 [SV.val (Go.Value.int i64 p.1),SV.val (Go.Value.float f64 p.2.1),SV.val (Go.Value.float f64 p.2.2.1),SV.val (Go.Value.float f64 p.2.2.2.1),SV.val (Go.Value.int i64 p.2.2.2.2.1),SV.val (Go.Value.bool p.2.2.2.2.2.1),SV.data ((K.int i64).pair ((K.int i64).pair ((K.int i64).pair (K.int i64)))).slice p.2.2.2.2.2.2],HObj.box Md.rw ty29 [SV.data (K.flt f64).slice s.1,SV.data (K.int i64).slice s.2.1,SV.data (K.int i64).slice s.2.2.1,SV.data (K.flt f64).slice s.2.2.2.1,SV.val (Go.Value.int i64 s.2.2.2.2.1),SV.val (Go.Value.int i64 s.2.2.2.2.2)],HObj.row Md.rw ty22 (K.flt f64) (List.replicate (Z1b (some g)).1.toNat (0:Nat))]
def Ztt(ty25:Nat)(p:YP)(ty29:Nat)(s:YS)(ty22:Nat)(y:List Nat × Unit)(x:Int × Unit)(a:Nat × Unit):List HObj:=[HObj.box Md.rw ty25 [SV.val (Go.Value.int i64 p.1),SV.val (Go.Value.float f64 p.2.1),SV.val (Go.Value.float f64 p.2.2.1),SV.val (Go.Value.float f64 p.2.2.2.1),SV.val (Go.Value.int i64 p.2.2.2.2.1),SV.val (Go.Value.bool p.2.2.2.2.2.1),SV.data ((K.int i64).pair ((K.int i64).pair ((K.int i64).pair (K.int i64)))).slice p.2.2.2.2.2.2],HObj.box Md.rw ty29 [SV.data (K.flt f64).slice s.1,SV.data (K.int i64).slice s.2.1,SV.data (K.int i64).slice s.2.2.1,SV.data (K.flt f64).slice s.2.2.2.1,SV.val (Go.Value.int i64 s.2.2.2.2.1),SV.val (Go.Value.int i64 s.2.2.2.2.2)],HObj.row Md.rw ty22 (K.flt f64) (y.1.set ((0:Nat)+x.1.toNat) a.1)]
def Zfd:=fun(ty25 ty29 ty22:Nat)(g:YG)(p:YP)(s:YS)(post:List Nat × Int × Unit→Prop)=>∃(h:Z11c (some g) s),∀ a,a=Zhl
 (some g) s→∀ a_1,a_1=a.1→Br (!a_1) (post ([],1,())) (∃(h:True),∃(h:(0:Int)≤(Z1b (some g)).1∧(Z1b (some g)).1≤(Z1b
 (some g)).1∧(Z1b (some g)).1*(↑(8:Nat):Int)≤(281474976710656:Int)),HS (Zts ty25 p ty29 s ty22 g)∧∃(I:Int × Unit→List Nat ×
 Unit→Prop),∃(μ:Int × Unit→List Nat × Unit→Nat),I (0,()) (List.replicate (Z1b (some g)).1.toNat (0:Nat),())∧∀(x:Int × Unit)(y:List Nat × Unit),I
 x y→∀ a,a=decide (x.1<(↑(Z1b (some g)).1.toNat:Int))→Br a (∃(h:Z1e1 (some g) p s x.1),∀ a,a=Zv7 (some g) p s x.1→∃(h:(0:
 Int)≤x.1∧x.1<(↑(Z1b (some g)).1.toNat:Int)),HS (Ztt ty25 p ty29 s ty22 y x a)∧I (i64.wrap (x.1+1),()) (y.1.set ((0:Nat)+
 x.1.toNat) a.1,())∧μ (i64.wrap (x.1+1),()) (y.1.set ((0:Nat)+x.1.toNat) a.1,())<μ x y) (((0:Nat)=(0:Nat)∧(Z1b (some g)).1.toNat=
 y.1.length)∧post (y.1,0,())))
theorem Zvt(ty0 ty1 ty2:Nat)(g:YG)(p:YP)(s:YS)(h:Zv8 (some g) p s):Zfd ty0 ty1 ty2 g p s (fun r=>r=Za2 (some g) p s):=by
 obtain⟨hg,hp,hw,hi,hs⟩:=h
 obtain⟨n,gn,hgn⟩:=Z48 hg
 obtain rfl:g=netG n:=hgn
 obtain⟨m,hm⟩:∃ m,(netE n).1.length=m:=⟨_,rfl⟩
 have hE:(Z1b (some (netG n))).fst=(m:Int):=by rw[← hm]; rfl
 have hE2:Zp (some (netG n))=(m:Int):=hE
 have cr:=Z37 n
 have mb:m≤4*(Z2 n).toNat:=by
  rw[← hm]; exact(Z9x n (Z2 n).toNat (by omega)).2
 refine⟨hg,?_⟩
 rintro _ rfl
 rintro _ rfl
 have hf:(Zhl (some (netG n)) (s.1,s.2.1,s.2.2.1,s.2.2.2.1,s.2.2.2.2.1,s.2.2.2.2.2)).fst=Z2g (Zg (some (netG n))) (Zp (some (netG n))) s:=rfl
 rw[hf]
 have key:Za2 (some (netG n)) p s=if Z2g (Zg (some (netG n))) (Zp (some (netG n))) s=true then((List.range m).map fun k:Nat=>Z5t (some (netG n)) p s k,0,())else([],1,()):=by
  have hm2:(Zp (some (netG n))).toNat=m:=by omega
  unfold Za2 Za1; rw[if_neg (by simp),hm2]; split <;> rfl
 refine Br.intro (fun e=>?_) fun e=>?_
 ·have e:Z2g (Zg (some (netG n))) (Zp (some (netG n))) s=false:=by simpa using e
  rw[key,if_neg (by rw[e]; decide)]
 have e:Z2g (Zg (some (netG n))) (Zp (some (netG n))) s=true:=by simpa using e
 rw[key,if_pos e,hE,Int.toNat_natCast]
 refine⟨trivial,⟨by omega,by omega,by omega⟩,?_⟩
 refine⟨rfl,fun x y=>∃ k:Nat,x.1=k∧k≤m∧y.1=(List.range k).map (fun k:Nat=>Z5t (some (netG n)) p s k)++List.replicate (m - k) 0,fun x _=>m - x.1.toNat,⟨0,rfl,by omega,rfl⟩,?_⟩
 rintro⟨_,⟨⟩⟩ ⟨_,⟨⟩⟩ ⟨k,rfl,hk,rfl⟩
 dsimp only
 rintro _ rfl
 have lk:((List.range k).map (fun k:Nat=>Z5t (some (netG n)) p s k)).length=k:=by rw[List.length_map,List.length_range]
 refine Br.intro (fun e3=>?_) fun e3=>?_
 ·have e3:k<m:=by have:=of_decide_eq_true e3; omega
  refine⟨⟨hg,hp,hw,hi,hs,by omega,by omega⟩,?_⟩
  rintro _ rfl
  refine⟨⟨by omega,by omega⟩,?_⟩
  rw[Int.toNat_natCast,Z12 e3 (by omega),Zo4 lk e3]
  refine⟨rfl,⟨k+1,rfl,by omega,?_⟩,by omega⟩
  rw[List.range_succ,List.map_append,List.map_singleton]; rfl
 have e3:k=m:=by have:=of_decide_eq_false e3; omega
 subst e3
 rw[Nat.sub_self,List.replicate_zero,List.append_nil]
 exact⟨⟨rfl,lk.symm⟩,rfl⟩
def Zmf:=fun(g:Option YG)(lim:Int)(s:YS)(e:Int)(u:Nat)(post:Nat × Unit→Prop)=>∃(h:Z2s g e),Br (!(Z7 g e).2.1) (post (0,())) (∃(h:
 True),∀ a,a=((↑s.1.length:Int) != (Z1u g).1)→Br a (post (0,())) (∃(h:True),∀ a,a=((↑s.2.1.length:Int) != (Z1u g).1)→Br a (post (0,())) (∃(h:Z2s g
 e),∀ a,a=Zhk g e→∀ a_1,a_1=fcmp Go.BinOp.gtr (f64.format.order u (0:Nat))→Br a_1 (∃(h:(0:Int)≤(Z7 g e).1.1∧(Z7 g e).1.1 <
 (↑s.2.1.length:Int)),∃(h:True),∃(h:II (s.2.1.getD (Z7 g e).1.1.toNat (0:Int)) (Z18 g (Z7 g e).1.1).1),∃(h:(0:Int)≤a.1∧a.1<(↑s.2.1.length:
 Int)),∃(h:True),∃(h:II (s.2.1.getD a.1.toNat (0:Int)) (Z18 g a.1).1),∀(a_2:Nat),FRes f64 (f64.format.sub (Z4k (s.2.1.getD (Z7 g
 e).1.1.toNat (0:Int)) (Z18 g (Z7 g e).1.1).1).1 (Z4k (s.2.1.getD a.1.toNat (0:Int)) (Z18 g a.1).1).1) a_2→∃(h:(0:Int)≤(Z7 g e).1.2.2.1∧(Z7 g
 e).1.2.2.1<(↑s.2.1.length:Int)),∃(h:True),∃(h:II (s.2.1.getD (Z7 g e).1.2.2.1.toNat (0:Int)) (Z18 g (Z7 g e).1.2.2.1).1),∃(h:(0:Int)≤(Z7 g
 e).1.1∧(Z7 g e).1.1<(↑s.2.1.length:Int)),∃(h:True),∃(h:II (s.2.1.getD (Z7 g e).1.1.toNat (0:Int)) (Z18 g (Z7 g e).1.1).1),∀(a:Nat),FRes
 f64 (f64.format.sub (Z4k (s.2.1.getD (Z7 g e).1.2.2.1.toNat (0:Int)) (Z18 g (Z7 g e).1.2.2.1).1).1 (Z4k (s.2.1.getD (Z7 g
 e).1.1.toNat (0:Int)) (Z18 g (Z7 g e).1.1).1).1) a→∃(h:(0:Int)≤(Z7 g e).1.1∧(Z7 g e).1.1<(↑s.2.1.length:Int)),∃(h:True),∃(h:II (s.2.1.getD
 (Z7 g e).1.1.toNat (0:Int)) (Z18 g (Z7 g e).1.1).1),∃(h:Zec lim a_2 a),∀ a_3,a_3=Zeb lim a_2 a→∀(a:Nat),FRes f64
 (f64.format.mul (4602678819172646912:Nat) a_3.1) a→∀(a_4:Nat),FRes f64 (f64.format.add (Z4k (s.2.1.getD (Z7 g e).1.1.toNat (0
 : Int)) (Z18 g (Z7 g e).1.1).1).1 a) a_4→∃(h:(0:Int)≤(Z7 g e).1.1∧(Z7 g e).1.1<(↑s.1.length:Int)),∃(h:(0:Int)≤(Z7 g e).1.1∧(Z7 g
 e).1.1<(↑s.2.1.length:Int)),∃(h:True),∃(h:Zsi (s.1.getD (Z7 g e).1.1.toNat (0:Nat)) (s.2.1.getD (Z7 g e).1.1.toNat (0:Int)) (Z18 g (Z7 g
 e).1.1).1),∀ a,a=Zsh (s.1.getD (Z7 g e).1.1.toNat (0:Nat)) (s.2.1.getD (Z7 g e).1.1.toNat (0:Int)) (Z18 g (Z7 g e).1.1).1→∃(h:(0:Int)≤(Z7 g
 e).1.1∧(Z7 g e).1.1<(↑s.1.length:Int)),∃(h:(0:Int)≤(Z7 g e).1.2.2.1∧(Z7 g e).1.2.2.1<(↑s.1.length:Int)),∃(h:W2 (s.1.getD (Z7 g e).1.1.toNat
 (0:Nat)) (s.1.getD (Z7 g e).1.2.2.1.toNat (0:Nat))),∀ a_5,a_5=Z115 (s.1.getD (Z7 g e).1.1.toNat (0:Nat)) (s.1.getD (Z7 g e).1.2.2.1.toNat (0:Nat))→∀
 (a_6:Nat),FRes f64 (f64.format.sub a.1 a_5.1) a_6→∃(h:W2 a_4 a_6),∀ a,a=Zfz a_4 a_6→∀ a_7,a_7=fcmp Go.BinOp.gtr
 (f64.format.order a.1 (0:Nat))→Br a_7 (post (a.1,())) (post (0,()))) (∀ a_2,a_2=fcmp Go.BinOp.lss (f64.format.order u (0:Nat))→Br a_2 (∃(h
 : (0:Int)≤(Z7 g e).1.2.2.1∧(Z7 g e).1.2.2.1<(↑s.2.1.length:Int)),∃(h:True),∃(h:II (s.2.1.getD (Z7 g e).1.2.2.1.toNat (0:Int)) (Z18 g (Z7 g
 e).1.2.2.1).1),∃(h:(0:Int)≤a.2.1∧a.2.1<(↑s.2.1.length:Int)),∃(h:True),∃(h:II (s.2.1.getD a.2.1.toNat (0:Int)) (Z18 g a.2.1).1),∀(a_3:Nat),FRes
 f64 (f64.format.sub (Z4k (s.2.1.getD (Z7 g e).1.2.2.1.toNat (0:Int)) (Z18 g (Z7 g e).1.2.2.1).1).1 (Z4k (s.2.1.getD a.2.1.toNat (0:
 Int)) (Z18 g a.2.1).1).1) a_3→∃(h:(0:Int)≤(Z7 g e).1.1∧(Z7 g e).1.1<(↑s.2.1.length:Int)),∃(h:True),∃(h:II (s.2.1.getD (Z7 g e).1.1.toNat (0:
 Int)) (Z18 g (Z7 g e).1.1).1),∃(h:(0:Int)≤(Z7 g e).1.2.2.1∧(Z7 g e).1.2.2.1<(↑s.2.1.length:Int)),∃(h:True),∃(h:II (s.2.1.getD (Z7 g
 e).1.2.2.1.toNat (0:Int)) (Z18 g (Z7 g e).1.2.2.1).1),∀(a:Nat),FRes f64 (f64.format.sub (Z4k (s.2.1.getD (Z7 g e).1.1.toNat (0:
 Int)) (Z18 g (Z7 g e).1.1).1).1 (Z4k (s.2.1.getD (Z7 g e).1.2.2.1.toNat (0:Int)) (Z18 g (Z7 g e).1.2.2.1).1).1) a→∃(h:(0:Int)≤(Z7 g e).1.2.2.1
 ∧ (Z7 g e).1.2.2.1<(↑s.2.1.length:Int)),∃(h:True),∃(h:II (s.2.1.getD (Z7 g e).1.2.2.1.toNat (0:Int)) (Z18 g (Z7 g e).1.2.2.1).1),∃(h:Zec lim
 a_3 a),∀ a_4,a_4=Zeb lim a_3 a→∀(a:Nat),FRes f64 (f64.format.mul (4602678819172646912:Nat) a_4.1) a→∀(a_5:Nat),FRes f64
 (f64.format.add (Z4k (s.2.1.getD (Z7 g e).1.2.2.1.toNat (0:Int)) (Z18 g (Z7 g e).1.2.2.1).1).1 a) a_5→∃(h:(0:Int)≤(Z7 g e).1.2.2.1∧
 (Z7 g e).1.2.2.1<(↑s.1.length:Int)),∃(h:(0:Int)≤(Z7 g e).1.2.2.1∧(Z7 g e).1.2.2.1<(↑s.2.1.length:Int)),∃(h:True),∃(h:Zsi (s.1.getD (Z7
 g e).1.2.2.1.toNat (0:Nat)) (s.2.1.getD (Z7 g e).1.2.2.1.toNat (0:Int)) (Z18 g (Z7 g e).1.2.2.1).1),∀ a,a=Zsh (s.1.getD (Z7 g e).1.2.2.1.toNat (0:Nat))
 (s.2.1.getD (Z7 g e).1.2.2.1.toNat (0:Int)) (Z18 g (Z7 g e).1.2.2.1).1→∃(h:(0:Int)≤(Z7 g e).1.2.2.1∧(Z7 g e).1.2.2.1<(↑s.1.length:Int)),∃(h:
 (0:Int)≤(Z7 g e).1.1∧(Z7 g e).1.1<(↑s.1.length:Int)),∃(h:W2 (s.1.getD (Z7 g e).1.2.2.1.toNat (0:Nat)) (s.1.getD (Z7 g e).1.1.toNat (0:Nat))),∀
 a_6,a_6=Z115 (s.1.getD (Z7 g e).1.2.2.1.toNat (0:Nat)) (s.1.getD (Z7 g e).1.1.toNat (0:Nat))→∀(a_7:Nat),FRes f64 (f64.format.sub
 a.1 a_6.1) a_7→∃(h:W2 a_5 a_7),∀ a,a=Zfz a_5 a_7→∀ a_8,a_8=fcmp Go.BinOp.gtr (f64.format.order a.1 (0:Nat))→Br a_8 (post (a.1,())) (post (0,
 ()))) (post (0,()))))))
theorem Z169(g:Option YG)(lim:Int)(s:YS)(e:Int)(u:Nat)(h:Z1e2 g lim s e u):Zmf  g lim s e u (fun r=>r=Zl8 g lim s e u):=by
 obtain⟨hg,l0,l3,hw,hi,he,hu⟩:=h
 refine⟨⟨hg,he⟩,?_⟩
 refine Br.intro (fun e1=>?_) fun e1=>?_
 ·have e1:(!nIs g e)=true:=e1
  have e1:nIs g e=false:=by simpa using e1
  show(0,())=r1 (Z57 g lim s e u)
  unfold Z57; rw[e1]; rfl
 have e1:(!nIs g e)=false:=e1
 have e1:nIs g e=true:=by simpa using e1
 have hC:(Z1u g).fst=Zg g:=rfl
 rw[hC]
 refine⟨trivial,?_⟩
 rintro _ rfl
 refine Br.intro (fun e2=>?_) fun e2=>?_
 ·have e2:¬ (s.1.length:Int)=Zg g:=by simpa using e2
  show(0,())=r1 (Z57 g lim s e u)
  unfold Z57; rw[e1,decide_eq_false e2]; rfl
 have e2:(s.1.length:Int)=Zg g:=by simpa using e2
 refine⟨trivial,?_⟩
 rintro _ rfl
 refine Br.intro (fun e3=>?_) fun e3=>?_
 ·have e3:¬ (s.2.1.length:Int)=Zg g:=by simpa using e3
  show(0,())=r1 (Z57 g lim s e u)
  unfold Z57; rw[e1,decide_eq_true e2,decide_eq_false e3]; rfl
 have e3:(s.2.1.length:Int)=Zg g:=by simpa using e3
 obtain⟨n,gn,rfl⟩:∃ n,Z22 n=true∧g=some (netG n):=by
  rcases hg with rfl | ⟨n,gn,rfl⟩
  ·cases(show false=true from e1)
  ·exact⟨n,gn,rfl⟩
 refine⟨⟨hg,he⟩,?_⟩
 rintro _ rfl
 have ce:=Zg8 e1
 have cb:=Z1eb e1
 have hR:Zl8 (some (netG n)) lim s e u=r1 (recF n lim (Z19 (some (netG n)) e) (Z3a (some (netG n)) e) s.1 s.2.1 u):=by
  show r1 (Z57 (some (netG n)) lim s e u)=_
  unfold Z57; rw[e1,decide_eq_true e2,decide_eq_true e3]; rfl
 rw[Z1w]at e2 e3
 obtain⟨ed,hed⟩:∃ ed,Z19 (some (netG n)) e=ed:=⟨_,rfl⟩
 obtain⟨bh,hbh⟩:∃ bh,Z3a (some (netG n)) e=bh:=⟨_,rfl⟩
 rw[hed,hbh]at hR
 rw[hed]at ce
 rw[hbh]at cb
 have hE:Z7 (some (netG n)) e=(ed,true,()):=by
  show(Z19 (some (netG n)) e,nIs (some (netG n)) e,())=_
  rw[hed,e1]
 have hB:Zhk (some (netG n)) e=(bh.1,bh.2,true,()):=by
  show((Z3a (some (netG n)) e).1,(Z3a (some (netG n)) e).2,nIs (some (netG n)) e,())=_
  rw[hbh,e1]
 rw[hE,hB]
 dsimp only
 have aL:(Z18 (some (netG n)) ed.1).fst=Z1a n ed.1:=Z81 ce.1.1 ce.1.2
 have aR:(Z18 (some (netG n)) ed.2.2.1).fst=Z1a n ed.2.2.1:=Z81 ce.2.1 ce.2.2
 have a1:(Z18 (some (netG n)) bh.1).fst=Z1a n bh.1:=Z81 cb.1.1 cb.1.2
 have a2:(Z18 (some (netG n)) bh.2).fst=Z1a n bh.2:=Z81 cb.2.1 cb.2.2
 simp only[aL,aR,a1,a2]
 have ix:∀ c:Int,0≤c∧c<Z2 n→0≤c∧c<(s.2.1.length:Int):=fun c h=>⟨h.1,by omega⟩
 have bx:∀ c:Int,0≤c∧c<Z2 n→0≤c∧c<(s.1.length:Int):=fun c h=>⟨h.1,by omega⟩
 have jx:∀ c:Int,0≤c∧c<Z2 n→II (s.2.1.getD c.toNat 0) (Z1a n c):=fun c h=>⟨hi _ (Zw (by omega) 0),(Zxy n c).1⟩
 have wx:∀ c:Int,0≤c∧c<Z2 n→W64 (s.1.getD c.toNat 0):=fun c h=>hw _ (Zw (by omega) 0)
 have iUL:=ix _ ce.1
 have iUR:=ix _ ce.2
 have iB1:=ix _ cb.1
 have iB2:=ix _ cb.2
 have bUL:=bx _ ce.1
 have bUR:=bx _ ce.2
 have jUL:=jx _ ce.1
 have jUR:=jx _ ce.2
 have jB1:=jx _ cb.1
 have jB2:=jx _ cb.2
 have wUL:=wx _ ce.1
 have wUR:=wx _ ce.2
 rintro _ rfl
 refine Br.intro (fun g1=>?_) fun g1=>?_
 ·have g1:gtS u 0=true:=g1
  refine⟨iUL,trivial,jUL,iB1,trivial,jB1,?_⟩
  intro x2 f2
  have q2:=fsub f2
  refine⟨iUR,trivial,jUR,iUL,trivial,jUL,?_⟩
  intro x3 f3
  have q3:=fsub f3
  refine⟨iUL,trivial,jUL,⟨l0,l3,q2.2,q3.2⟩,?_⟩
  rintro _ rfl
  intro x4 f4
  have q4:=fmul f4
  intro x5 f5
  have q5:=fadd f5
  refine⟨bUL,iUL,trivial,⟨wUL,jUL⟩,?_⟩
  rintro _ rfl
  refine⟨bUL,bUR,⟨wUL,wUR⟩,?_⟩
  rintro _ rfl
  intro x6 f6
  have q6:=fsub f6
  refine⟨⟨q5.2,q6.2⟩,?_⟩
  rintro _ rfl
  have hV:Z5 x5=Z5 (recV n lim s.1 s.2.1 ed.1 ed.2.2.1 bh.1):=by
   rw[q5.1]; unfold recV; rw[Zl1]
   refine Zfs rfl ?_
   rw[q4.1,Z3x]
   refine Z46 rfl (congrArg Z5 ?_)
   show Z1d lim x2 x3=_
   exact Zwq (by rw[q2.1,Zds]; rfl) (by rw[q3.1,Zds]; rfl)
  have hG:Z5 x6=Z5 (recG n s.1 s.2.1 ed.1 ed.2.2.1):=by
   rw[q6.1]; unfold recG; rw[Zds]; rfl
  have hM:minQ x5 x6=minQ (recV n lim s.1 s.2.1 ed.1 ed.2.2.1 bh.1) (recG n s.1 s.2.1 ed.1 ed.2.2.1):=Z11y hV hG
  have hF:recF n lim ed bh s.1 s.2.1 u=recD n lim s.1 s.2.1 ed.1 ed.2.2.1 bh.1:=by unfold recF; rw[if_pos g1]
  rw[hR,hF]
  unfold recD
  rw[← hM]
  rintro _ rfl
  refine Br.intro (fun z=>?_) fun z=>?_
  ·have z:gtS (minQ x5 x6) 0=true:=z
   show(minQ x5 x6,())=r1 _
   rw[if_pos z]; rfl
  ·have z:gtS (minQ x5 x6) 0=false:=z
   show(0,())=r1 _
   rw[if_neg (by rw[z]; decide)]; rfl
 have g1:gtS u 0=false:=g1
 rintro _ rfl
 refine Br.intro (fun g2=>?_) fun g2=>?_
 ·have g2:ltS u 0=true:=g2
  refine⟨iUR,trivial,jUR,iB2,trivial,jB2,?_⟩
  intro x2 f2
  have q2:=fsub f2
  refine⟨iUL,trivial,jUL,iUR,trivial,jUR,?_⟩
  intro x3 f3
  have q3:=fsub f3
  refine⟨iUR,trivial,jUR,⟨l0,l3,q2.2,q3.2⟩,?_⟩
  rintro _ rfl
  intro x4 f4
  have q4:=fmul f4
  intro x5 f5
  have q5:=fadd f5
  refine⟨bUR,iUR,trivial,⟨wUR,jUR⟩,?_⟩
  rintro _ rfl
  refine⟨bUR,bUL,⟨wUR,wUL⟩,?_⟩
  rintro _ rfl
  intro x6 f6
  have q6:=fsub f6
  refine⟨⟨q5.2,q6.2⟩,?_⟩
  rintro _ rfl
  have hV:Z5 x5=Z5 (recV n lim s.1 s.2.1 ed.2.2.1 ed.1 bh.2):=by
   rw[q5.1]; unfold recV; rw[Zl1]
   refine Zfs rfl ?_
   rw[q4.1,Z3x]
   refine Z46 rfl (congrArg Z5 ?_)
   show Z1d lim x2 x3=_
   exact Zwq (by rw[q2.1,Zds]; rfl) (by rw[q3.1,Zds]; rfl)
  have hG:Z5 x6=Z5 (recG n s.1 s.2.1 ed.2.2.1 ed.1):=by
   rw[q6.1]; unfold recG; rw[Zds]; rfl
  have hM:minQ x5 x6=minQ (recV n lim s.1 s.2.1 ed.2.2.1 ed.1 bh.2) (recG n s.1 s.2.1 ed.2.2.1 ed.1):=Z11y hV hG
  have hF:recF n lim ed bh s.1 s.2.1 u=recD n lim s.1 s.2.1 ed.2.2.1 ed.1 bh.2:=by unfold recF; rw[if_neg (by rw[g1]; decide),if_pos g2]
  rw[hR,hF]
  unfold recD
  rw[← hM]
  rintro _ rfl
  refine Br.intro (fun z=>?_) fun z=>?_
  ·have z:gtS (minQ x5 x6) 0=true:=z
   show(minQ x5 x6,())=r1 _
   rw[if_pos z]; rfl
  ·have z:gtS (minQ x5 x6) 0=false:=z
   show(0,())=r1 _
   rw[if_neg (by rw[z]; decide)]; rfl
 have g2:ltS u 0=false:=g2
 show(0,())=_
 rw[hR]
 unfold recF; rw[if_neg (by rw[g1]; decide),if_neg (by rw[g2]; decide)]; rfl
def Zq7:=fun(p:YP)(s:YS)(post:List Int × Int × Unit→Prop)=>post ([],2,())
theorem Z1aq(p:YP)(s:YS)(h:Z1c8 none p s):Zq7  p s (fun r=>r=Zj4 none p s):=by
 exact rfl
def Z16a(ty25:Nat)(p:YP)(ty29:Nat)(s:YS)(ty2:Nat)(g:YG):List HObj:=[HObj.box Md.rw ty25 [SV.val (Go.Value.int i64 p.1),SV.val (Go.Value.float f64 p.2.1),SV.val (Go.Value.float f64 p.2.2.1),SV.val (Go.Value.float f64 p.2.2.2.1),SV.val (Go.Value.int i64 p.2.2.2.2.1),SV.val (Go.Value.bool p.2.2.2.2.2.1),SV.data ((K.int i64).pair ((K.int i64).pair ((K.int i64).pair (K.int i64)))).slice p.2.2.2.2.2.2],HObj.box Md.rw ty29 [SV.data (K.flt f64).slice s.1,SV.data (K.int i64).slice s.2.1,SV.data (K.int i64).slice s.2.2.1,SV.data (K.flt f64).slice s.2.2.2.1,SV.val (Go.Value.int i64 s.2.2.2.2.1),SV.val (Go.Value.int i64 s.2.2.2.2.2)],HObj.row Md.rw ty2 (K.int i64) (List.replicate (Z1b (some g)).1.toNat (0:Int))]
def Z16b(ty25:Nat)(p:YP)(ty29:Nat)(s:YS)(ty2:Nat)(y:List Int × Unit)(x:Int × Unit)(a_2:Int × Unit):List HObj:=[HObj.box Md.rw ty25 [SV.val (Go.Value.int i64 p.1),SV.val (Go.Value.float f64 p.2.1),SV.val (Go.Value.float f64 p.2.2.1),SV.val (Go.Value.float f64 p.2.2.2.1),SV.val (Go.Value.int i64 p.2.2.2.2.1),SV.val (Go.Value.bool p.2.2.2.2.2.1),SV.data ((K.int i64).pair ((K.int i64).pair ((K.int i64).pair (K.int i64)))).slice p.2.2.2.2.2.2],HObj.box Md.rw ty29 [SV.data (K.flt f64).slice s.1,SV.data (K.int i64).slice s.2.1,SV.data (K.int i64).slice s.2.2.1,SV.data (K.flt f64).slice s.2.2.2.1,SV.val (Go.Value.int i64 s.2.2.2.2.1),SV.val (Go.Value.int i64 s.2.2.2.2.2)],HObj.row Md.rw ty2 (K.int i64) (y.1.set ((0:Nat)+x.1.toNat) a_2.1)]
def Zez:=fun(ty25 ty29 ty2:Nat)(g:YG)(p:YP)(s:YS)(post:List Int × Int × Unit→Prop)=>∃(h:True),∀ a,a=((↑s.1.length:Int) != (Z1u
 (some g)).1)→Br a (post ([],1,())) (∃(h:True),∀ a,a=((↑s.2.1.length:Int) != (Z1u (some g)).1)→Br a (post ([],1,())) (∃(h:True),∀ a,a=
 ((↑s.2.2.1.length:Int) != (Z1u (some g)).1)→Br a (post ([],1,())) (∃(h:True),∀ a,a=((↑s.2.2.2.1.length:Int) != (Z1b (some g)).1)→Br a (post
 ([],1,())) (∃(h:True),∃(h:(0:Int)≤(Z1b (some g)).1∧(Z1b (some g)).1≤(Z1b (some g)).1∧(Z1b (some g)).1*(↑(8:Nat)
 : Int)≤(281474976710656:Int)),HS (Z16a ty25 p ty29 s ty2 g)∧∃(I:Int × Unit→List Int × Unit→Prop),∃(μ:Int × Unit→List Int × Unit→Nat),I (0,())
 (List.replicate (Z1b (some g)).1.toNat (0:Int),())∧∀(x:Int × Unit)(y:List Int × Unit),I x y→∀ a,a=decide (x.1<(↑(Z1b (some g)).1.toNat:
 Int))→Br a (∃(h:(0:Int)≤x.1∧x.1<(↑s.2.2.2.1.length:Int)),∃(h:Z1e2 (some g) p.2.2.2.2.1 s x.1 (s.2.2.2.1.getD x.1.toNat (0:Nat))),∀ a,a=Zl8
 (some g) p.2.2.2.2.1 s x.1 (s.2.2.2.1.getD x.1.toNat (0:Nat))→∃(h:Z2s (some g) x.1),∀ a_1,a_1=Zhj (some g) x.1→∃(h:W4 (s.2.2.2.1.getD
 x.1.toNat (0:Nat)) a.1 a_1.1 p.2.1),∀ a_2,a_2=Z1dz (s.2.2.2.1.getD x.1.toNat (0:Nat)) a.1 a_1.1 p.2.1→∃(h:(0:Int)≤x.1∧x.1<(↑(Z1b (some
 g)).1.toNat:Int)),HS (Z16b ty25 p ty29 s ty2 y x a_2)∧I (i64.wrap (x.1+1),()) (y.1.set ((0:Nat)+x.1.toNat) a_2.1,())∧μ (i64.wrap (x.1+
 1),()) (y.1.set ((0:Nat)+x.1.toNat) a_2.1,())<μ x y) (((0:Nat)=(0:Nat)∧(Z1b (some g)).1.toNat=y.1.length)∧post (y.1,0,()))))))
theorem Z1ar(ty0 ty1 ty2:Nat)(g:YG)(p:YP)(s:YS)(h:Z1c8 (some g) p s):Zez ty0 ty1 ty2 g p s (fun r=>r=Zj4 (some g) p s):=by
 obtain⟨hg,pt,l0,l3,hw,hi,hs⟩:=h
 obtain⟨n,gn,hgn⟩:=Z48 hg
 obtain rfl:g=netG n:=hgn
 obtain⟨m,hm⟩:∃ m,(netE n).1.length=m:=⟨_,rfl⟩
 have hE:(Z1b (some (netG n))).fst=(m:Int):=by rw[← hm]; rfl
 have hE2:Zp (some (netG n))=(m:Int):=hE
 have cr:=Z37 n
 have mb:m≤4*(Z2 n).toNat:=by
  rw[← hm]; exact(Z9x n (Z2 n).toNat (by omega)).2
 have hC:(Z1u (some (netG n))).fst=Zg (some (netG n)):=rfl
 have key:Zj4 (some (netG n)) p s=if Z2g (Zg (some (netG n))) m s=true then((List.range m).map fun k:Nat=>Zj2 (some (netG n)) p s k,0,())else([],1,()):=by
  unfold Zj4 Zj3; rw[if_neg (by simp),hE2,Int.toNat_natCast]; split <;> rfl
 unfold Zez
 rw[hC,hE,key]
 have bad:Z2g (Zg (some (netG n))) m s=false→(([]:List Int),(1:Int),())=if Z2g (Zg (some (netG n))) m s=true then((List.range m).map fun k:Nat=>Zj2 (some (netG n)) p s k,0,())else([],1,()):=fun e=>by rw[if_neg (by rw[e]; decide)]
 refine⟨trivial,?_⟩
 rintro _ rfl
 refine Br.intro (fun e=>bad ?_) fun e1=>?_
 ·have e:¬ (s.1.length:Int)=Zg (some (netG n)):=by simpa using e
  unfold Z2g; rw[decide_eq_false e]; simp
 have e1:(s.1.length:Int)=Zg (some (netG n)):=by simpa using e1
 refine⟨trivial,?_⟩
 rintro _ rfl
 refine Br.intro (fun e=>bad ?_) fun e2=>?_
 ·have e:¬ (s.2.1.length:Int)=Zg (some (netG n)):=by simpa using e
  unfold Z2g; rw[decide_eq_false e]; simp
 have e2:(s.2.1.length:Int)=Zg (some (netG n)):=by simpa using e2
 refine⟨trivial,?_⟩
 rintro _ rfl
 refine Br.intro (fun e=>bad ?_) fun e3=>?_
 ·have e:¬ (s.2.2.1.length:Int)=Zg (some (netG n)):=by simpa using e
  unfold Z2g; rw[decide_eq_false e]; simp
 have e3:(s.2.2.1.length:Int)=Zg (some (netG n)):=by simpa using e3
 refine⟨trivial,?_⟩
 rintro _ rfl
 refine Br.intro (fun e=>bad ?_) fun e4=>?_
 ·have e:¬ (s.2.2.2.1.length:Int)=(m:Int):=by simpa using e
  unfold Z2g; rw[decide_eq_false e]; simp
 have e4:(s.2.2.2.1.length:Int)=(m:Int):=by simpa using e4
 have e:Z2g (Zg (some (netG n))) m s=true:=Z4t.2 ⟨e1,e2,e3,e4⟩
 rw[if_pos e,Int.toNat_natCast]
 refine⟨trivial,⟨by omega,by omega,by omega⟩,?_⟩
 refine⟨rfl,fun x y=>∃ k:Nat,x.1=k∧k≤m∧y.1=(List.range k).map (fun k:Nat=>Zj2 (some (netG n)) p s k)++List.replicate (m - k) 0,fun x _=>m - x.1.toNat,⟨0,rfl,by omega,rfl⟩,?_⟩
 rintro⟨_,⟨⟩⟩ ⟨_,⟨⟩⟩ ⟨k,rfl,hk,rfl⟩
 dsimp only
 rintro _ rfl
 have lk:((List.range k).map (fun k:Nat=>Zj2 (some (netG n)) p s k)).length=k:=by rw[List.length_map,List.length_range]
 refine Br.intro (fun e5=>?_) fun e5=>?_
 ·have e5:k<m:=by have:=of_decide_eq_true e5; omega
  have ik:I64 (k:Int):=⟨by omega,by omega⟩
  rw[Int.toNat_natCast]
  have ws:W64 (s.2.2.2.1.getD k 0):=hs _ (Zw (by omega) 0)
  refine⟨⟨by omega,by omega⟩,⟨hg,l0,l3,hw,hi,ik,ws⟩,?_⟩
  rintro _ rfl
  refine⟨⟨hg,ik⟩,?_⟩
  rintro _ rfl
  refine⟨⟨ws,Z1sk,Z1o0 n k,pt⟩,?_⟩
  rintro _ rfl
  refine⟨⟨by omega,by omega⟩,?_⟩
  rw[Z12 e5 (by omega),Zo4 lk e5]
  refine⟨rfl,⟨k+1,rfl,by omega,?_⟩,by omega⟩
  rw[List.range_succ,List.map_append,List.map_singleton]; rfl
 have e5:k=m:=by have:=of_decide_eq_false e5; omega
 subst e5
 rw[Nat.sub_self,List.replicate_zero,List.append_nil]
 exact⟨⟨rfl,lk.symm⟩,rfl⟩
end Go.Lift

namespace Go.Lift
def Zaa:=fun(e:Int)(post:Nat × Unit→Prop)=>∃(h:Z2s none e),∀ a,a=(nIsR none e).1→Br (!a) (post (0,())) (∃(h:(none:
 Option (Int × (List (Int × Int × Int × Int)) × (List ((Int × Int) × Int)) × (List (List Int)) × (List Int) × (List Nat) × List Nat))≠none),False)
theorem Zmg(e:Int)(h:Z2s none e):Zaa  e (fun r=>r=Zhj none e):=by
 refine⟨h,?_⟩
 rintro _ rfl
 exact Br.intro (fun _=>rfl) fun q=>by cases q
def Zab:=fun(g:YG)(e:Int)(post:Nat × Unit→Prop)=>∃(h:Z2s (some g) e),∀ a,a=(nIsR (some g) e).1→Br (!a) (post (0,())) (∃(h
 : some g≠none),∃(h:(0:Int)≤e∧e<(↑g.2.2.2.2.2.1.length:Int)),post (g.2.2.2.2.2.1.getD e.toNat (0:Nat),()))
theorem Zmh(g:YG)(e:Int)(h:Z2s (some g) e):Zab  g e (fun r=>r=Zhj (some g) e):=by
 obtain⟨hg,he⟩:=h
 obtain⟨n,gn,hgn⟩:=Z48 hg
 obtain rfl:g=netG n:=hgn
 refine⟨⟨hg,he⟩,?_⟩
 rintro _ rfl
 have hi:(nIsR (some (netG n)) e).1=(decide (0≤e)&&decide (e<((netE n).1.length:Nat))):=rfl
 refine Br.intro (fun q=>?_) fun q=>?_
 ·have q:(nIsR (some (netG n)) e).1=false:=by simpa using q
  have hn:¬ (0≤e∧e<((netE n).1.length:Nat)):=fun z=>by rw[hi,decide_eq_true z.1,decide_eq_true z.2]at q; cases q
  show(0,())=r1 (if 0≤e∧e<((netE n).1.length:Nat)then((netE n).1.map (fun e=>Z3g n e.1 e.2.1)).getD e.toNat 0 else 0)
  rw[if_neg hn]; rfl
 ·have q:(nIsR (some (netG n)) e).1=true:=by simpa using q
  have hy:0≤e∧e<((netE n).1.length:Nat):=by
   rw[hi]at q
   simpa using q
  have ob:0≤e∧e<((((netE n).1.map (fun e=>Z3g n e.1 e.2.1)).length:Nat):Int):=⟨hy.1,by rw[List.length_map]; exact hy.2⟩
  refine⟨by simp,ob,?_⟩
  show _=r1 (if 0≤e∧e<((netE n).1.length:Nat)then((netE n).1.map (fun e=>Z3g n e.1 e.2.1)).getD e.toNat 0 else 0)
  rw[if_pos hy]; rfl
def Zek:=fun(e:Int)(post:Nat × Unit→Prop)=>∃(h:Z2s none e),∀ a,a=(nIsR none e).1→Br (!a) (post (0,())) (∃(h:(none:
 Option (Int × (List (Int × Int × Int × Int)) × (List ((Int × Int) × Int)) × (List (List Int)) × (List Int) × (List Nat) × List Nat))≠none),False)
theorem Ztu(e:Int)(h:Z2s none e):Zek  e (fun r=>r=Z1c5 none e):=by
 refine⟨h,?_⟩
 rintro _ rfl
 exact Br.intro (fun _=>rfl) fun q=>by cases q
def Zel:=fun(g:YG)(e:Int)(post:Nat × Unit→Prop)=>∃(h:Z2s (some g) e),∀ a,a=(nIsR (some g) e).1→Br (!a) (post (0,())) (∃(h:
 some g≠none),∃(h:(0:Int)≤e∧e<(↑g.2.2.2.2.2.2.length:Int)),post (g.2.2.2.2.2.2.getD e.toNat (0:Nat),()))
theorem Ztv(g:YG)(e:Int)(h:Z2s (some g) e):Zel  g e (fun r=>r=Z1c5 (some g) e):=by
 obtain⟨hg,he⟩:=h
 obtain⟨n,gn,hgn⟩:=Z48 hg
 obtain rfl:g=netG n:=hgn
 refine⟨⟨hg,he⟩,?_⟩
 rintro _ rfl
 have hi:(nIsR (some (netG n)) e).1=(decide (0≤e)&&decide (e<((netE n).1.length:Nat))):=rfl
 refine Br.intro (fun q=>?_) fun q=>?_
 ·have q:(nIsR (some (netG n)) e).1=false:=by simpa using q
  have hn:¬ (0≤e∧e<((netE n).1.length:Nat)):=fun z=>by rw[hi,decide_eq_true z.1,decide_eq_true z.2]at q; cases q
  show(0,())=r1 (if 0≤e∧e<((netE n).1.length:Nat)then((netE n).1.map (fun e=>gapG n e.1 e.2.1)).getD e.toNat 0 else 0)
  rw[if_neg hn]; rfl
 ·have q:(nIsR (some (netG n)) e).1=true:=by simpa using q
  have hy:0≤e∧e<((netE n).1.length:Nat):=by
   rw[hi]at q
   simpa using q
  have ob:0≤e∧e<((((netE n).1.map (fun e=>gapG n e.1 e.2.1)).length:Nat):Int):=⟨hy.1,by rw[List.length_map]; exact hy.2⟩
  refine⟨by simp,ob,?_⟩
  show _=r1 (if 0≤e∧e<((netE n).1.length:Nat)then((netE n).1.map (fun e=>gapG n e.1 e.2.1)).getD e.toNat 0 else 0)
  rw[if_pos hy]; rfl
def Zac:=fun(e:Int)(post:Int × Int × Bool × Unit→Prop)=>∃(h:Z2s none e),∀ a,a=(nIsR none e).1→Br (!a) (post (0,0,false,
 ())) (∃(h:(none:Option (Int × (List (Int × Int × Int × Int)) × (List ((Int × Int) × Int)) × (List (List Int)) × (List Int) × (List Nat) × List Nat))≠none),
 False)
theorem Zmi(e:Int)(h:Z2s none e):Zac  e (fun r=>r=Zhk none e):=by
 refine⟨h,?_⟩
 rintro _ rfl
 exact Br.intro (fun _=>rfl) fun q=>by cases q
def Zad:=fun(g:YG)(e:Int)(post:Int × Int × Bool × Unit→Prop)=>∃(h:Z2s (some g) e),∀ a,a=(nIsR (some g) e).1→Br (!a) (post
 ((0:Int),(0:Int),false,())) (∃(h:some g≠none),∃(h:(0:Int)≤e∧e<(↑g.2.2.2.1.length:Int)),∃(h:(0:Int)≤(0:Int)∧(0:Int) <
 (↑(2:Nat):Int)),∃(h:some g≠none),∃(h:(0:Int)≤e∧e<(↑g.2.2.2.1.length:Int)),∃(h:(0:Int)≤(1:Int)∧(1:Int)<(↑(2:Nat):Int)),
 post (List.getD (g.2.2.2.1.getD e.toNat (K.arr (2:Nat) (K.int i64)).dflt) (Int.toNat (0:Int)) (0:Int),List.getD (g.2.2.2.1.getD e.toNat (K.arr (2:Nat) (K.int
 i64)).dflt) (Int.toNat (1:Int)) (0:Int),true,()))
theorem Zmj(g:YG)(e:Int)(h:Z2s (some g) e):Zad  g e (fun r=>r=Zhk (some g) e):=by
 obtain⟨hg,he⟩:=h
 obtain⟨n,gn,hgn⟩:=Z48 hg
 obtain rfl:g=netG n:=hgn
 refine⟨⟨hg,he⟩,?_⟩
 rintro _ rfl
 have hi:(nIsR (some (netG n)) e).1=(decide (0≤e)&&decide (e<((netE n).1.length:Nat))):=rfl
 refine Br.intro (fun q=>?_) fun q=>?_
 ·have q:(nIsR (some (netG n)) e).1=false:=by simpa using q
  have hn:¬ (0≤e∧e<((netE n).1.length:Nat)):=fun z=>by rw[hi,decide_eq_true z.1,decide_eq_true z.2]at q; cases q
  have e2:Z3a (some (netG n)) e=(0,0):=by
   show(if 0≤e∧e<((netE n).1.length:Nat)then _ else _)=_
   rw[if_neg hn]
  show(0,0,false,())=((Z3a (some (netG n)) e).1,(Z3a (some (netG n)) e).2,(nIsR (some (netG n)) e).1,())
  rw[e2,q]
 ·have q:(nIsR (some (netG n)) e).1=true:=by simpa using q
  have hy:0≤e∧e<((netE n).1.length:Nat):=by
   rw[hi]at q
   simpa using q
  have ob:0≤e∧e<((((netE n).1.map (Z8i n)).length:Nat):Int):=⟨hy.1,by rw[List.length_map]; exact hy.2⟩
  refine⟨by simp,ob,⟨by decide,by decide⟩,by simp,ob,⟨by decide,by decide⟩,?_⟩
  have e2:Z3a (some (netG n)) e=((((netE n).1.map (Z8i n)).getD e.toNat [0,0]).getD 0 0,(((netE n).1.map (Z8i n)).getD e.toNat [0,0]).getD 1 0):=by
   show(if 0≤e∧e<((netE n).1.length:Nat)then _ else _)=_
   rw[if_pos hy]; rfl
  show _=((Z3a (some (netG n)) e).1,(Z3a (some (netG n)) e).2,(nIsR (some (netG n)) e).1,())
  rw[e2,q]; rfl
def Zq8:=fun(g:Option YG)(s:YS)(post:Bool × Unit→Prop)=>∃(h:True),∀ a,a=((↑s.1.length:Int)==(Z1u g).1)→Br a (∀ a,a=((↑s.2.1.length:
 Int)==(Z1u g).1)→Br a (∀ a,a=((↑s.2.2.1.length:Int)==(Z1u g).1)→Br a (∃(h:True),∀ a,a=((↑s.2.2.2.1.length:Int)==(Z1b g).1)→post (a,()))
 (post (false,()))) (post (false,()))) (post (false,()))
theorem Z1as(g:Option YG)(s:YS)(h:Z11c g s):Zq8  g s (fun r=>r=Zhl g s):=by
 have d:∀ x y:Int,(x==y)=decide (x=y):=fun x y=>by rw[Bool.eq_iff_iff]; simp
 have key:Zhl g s=r1 (decide ((s.1.length:Int)=(Z1u g).fst)&&decide ((s.2.1.length:Int)=(Z1u g).fst)&&decide ((s.2.2.1.length:Int)=(Z1u g).fst)&&decide ((s.2.2.2.1.length:Int)=(Z1b g).fst)):=rfl
 rw[key]
 refine⟨trivial,?_⟩
 rintro _ rfl
 rw[d]
 refine Br.intro (fun e1=>?_) fun e1=>?_
 rotate_left
 ·rw[e1]; rfl
 rintro _ rfl
 rw[d]
 refine Br.intro (fun e2=>?_) fun e2=>?_
 rotate_left
 ·rw[e1,e2]; rfl
 rintro _ rfl
 rw[d]
 refine Br.intro (fun e3=>?_) fun e3=>?_
 rotate_left
 ·rw[e1,e2,e3]; rfl
 refine⟨trivial,?_⟩
 rintro _ rfl
 rw[d,e1,e2,e3]; rfl
def Zf0:=fun(g:Option YG)(s:YS)(c:Int)(post:(Nat × Nat × Nat × Bool) × Unit→Prop)=>∃(h:True),∃(h:(0:Int)≤c∧c<(↑s.1.length:Int)),∃(h:
 (0:Int)≤c∧c<(↑s.2.1.length:Int)),∃(h:II (s.2.1.getD c.toNat (0:Int)) (Z18 g c).1),∃(h:(0:Int)≤c∧c<(↑s.1.length:Int)),∃(h:(0:Int)≤c∧c <
 (↑s.2.1.length:Int)),∃(h:Zsi (s.1.getD c.toNat (0:Nat)) (s.2.1.getD c.toNat (0:Int)) (Z18 g c).1),∀ a,a=Zsh (s.1.getD c.toNat (0:Nat)) (s.2.1.getD c.toNat
 (0:Int)) (Z18 g c).1→∃(h:(0:Int)≤c∧c<(↑s.2.1.length:Int)),∀ a_1,a_1=decide (s.2.1.getD c.toNat (0:Int) > (0:Int))→post ((s.1.getD c.toNat (0:Nat),
 (Z4k (s.2.1.getD c.toNat (0:Int)) (Z18 g c).1).1,a.1,a_1),())
theorem Z1at(g:Option YG)(s:YS)(c:Int)(h:Z11d g s c):Zf0  g s c (fun r=>r=Z1c7 g s c):=by
 obtain⟨hg,hw,hi,hf,c0,c1⟩:=h
 rcases hg with rfl | ⟨n,gn,rfl⟩
 ·exact absurd c1 (by show ¬ c<0; omega)
 have f:=Z4t.1 hf
 rw[Z1w]at c1 f
 have hA:(Z18 (some (netG n)) c).fst=Z1a n c:=Z81 c0 c1
 have i1:0≤c∧c<(s.1.length:Int):=⟨c0,by omega⟩
 have i2:0≤c∧c<(s.2.1.length:Int):=⟨c0,by omega⟩
 have w1:=hw _ (Zw (l:=s.1) (i:=c.toNat) (by omega) 0)
 have w2:=hi _ (Zw (l:=s.2.1) (i:=c.toNat) (by omega) 0)
 have ar:=(Zxy n c).1
 unfold Zf0
 rw[hA]
 refine⟨trivial,i1,i2,⟨w2,ar⟩,i1,i2,⟨w1,w2,ar⟩,?_⟩
 rintro _ rfl
 refine⟨i2,?_⟩
 rintro _ rfl
 rfl
def Zq9:=fun(l m:Nat × Nat × Nat × Bool)(post:Bool × Unit→Prop)=>Br (!l.2.2.2) (Br (!m.2.2.2) (post (false,())) (Br (!l.2.2.2) (∀ a,a=fcmp
 Go.BinOp.leq (f64.format.order m.2.2.1 l.1)→Br a (post (false,())) (Br (!m.2.2.2) (∀ a,a=fcmp Go.BinOp.leq (f64.format.order l.2.2.1 m.1)→Br
 a (post (false,())) (post (true,()))) (post (true,())))) (Br (!m.2.2.2) (∀ a,a=fcmp Go.BinOp.leq (f64.format.order l.2.2.1 m.1)→Br a (post
 (false,())) (post (true,()))) (post (true,()))))) (Br (!l.2.2.2) (∀ a,a=fcmp Go.BinOp.leq (f64.format.order m.2.2.1 l.1)→Br a (post
 (false,())) (Br (!m.2.2.2) (∀ a,a=fcmp Go.BinOp.leq (f64.format.order l.2.2.1 m.1)→Br a (post (false,())) (post (true,()))) (post (true,
 ())))) (Br (!m.2.2.2) (∀ a,a=fcmp Go.BinOp.leq (f64.format.order l.2.2.1 m.1)→Br a (post (false,())) (post (true,()))) (post (true,()))))
theorem Z1au(l:Nat × Nat × Nat × Bool)(m:Nat × Nat × Nat × Bool)(h:Z1kc l m):Zq9  l m (fun r=>r=Z11a l m):=by
 obtain⟨lb,ld,ll,lw⟩:=l
 obtain⟨rb,rd,rl,rw'⟩:=m
 cases lw
 ·cases rw'
  ·exact Br.intro (fun _=>Br.intro (fun _=>rfl) (fun e=>by cases e)) (fun e=>by cases e)
  ·refine Br.intro (fun _=>?_) (fun e=>by cases e)
   refine Br.intro (fun e=>by cases e) (fun _=>?_)
   refine Br.intro (fun _=>?_) (fun e=>by cases e)
   rintro _ rfl
   refine Br.intro (fun e=>?_) fun e=>?_
   ·have e:fcmp .leq (Ieee.double.order rl lb)=true:=e
    show(false,())=r1 (Zg0 false lb ll true rb rl)
    unfold Zg0; rw[if_neg (by decide),if_pos (by rw[e]; rfl)]; rfl
   ·have e:fcmp .leq (Ieee.double.order rl lb)=false:=e
    refine Br.intro (fun e=>by cases e) (fun _=>?_)
    show(true,())=r1 (Zg0 false lb ll true rb rl)
    unfold Zg0; rw[if_neg (by decide),if_neg (by rw[e]; decide),if_neg (by simp)]; rfl
 ·cases rw'
  ·refine Br.intro (fun e=>by cases e) (fun _=>?_)
   refine Br.intro (fun e=>by cases e) (fun _=>?_)
   refine Br.intro (fun _=>?_) (fun e=>by cases e)
   rintro _ rfl
   refine Br.intro (fun e=>?_) fun e=>?_
   ·have e:fcmp .leq (Ieee.double.order ll rb)=true:=e
    show(false,())=r1 (Zg0 true lb ll false rb rl)
    unfold Zg0; rw[if_neg (by decide),if_neg (by simp),if_pos (by rw[e]; rfl)]; rfl
   ·have e:fcmp .leq (Ieee.double.order ll rb)=false:=e
    show(true,())=r1 (Zg0 true lb ll false rb rl)
    unfold Zg0; rw[if_neg (by decide),if_neg (by simp),if_neg (by rw[e]; decide)]; rfl
  ·refine Br.intro (fun e=>by cases e) (fun _=>?_)
   refine Br.intro (fun e=>by cases e) (fun _=>?_)
   refine Br.intro (fun e=>by cases e) (fun _=>?_)
   rfl
def Zqa:=fun(g:Option YG)(s:YS)(e:Int)(post:(Nat × Nat × Nat × Bool) × (Nat × Nat × Nat × Bool) × Bool × Unit→Prop)=>∃(h:Z2s g e),Br (!(Z7 g
 e).2.1) (post ((0,0,0,false),(0,0,0,false),false,())) (∃(h:Z11c g s),∀ a,a=Zhl g s→∀ a_1,a_1=a.1→Br (!a_1) (post ((0,0,0,false),
 (0,0,0,false),false,())) (∃(h:Z11d g s (Z7 g e).1.1),∀ a,a=Z1c7 g s (Z7 g e).1.1→∃(h:Z11d g s (Z7 g e).1.2.2.1),∀ a_2,a_2=Z1c7 g s
 (Z7 g e).1.2.2.1→post (a.1,a_2.1,true,())))
theorem Z1av(g:Option YG)(s:YS)(e:Int)(h:Z1kd g s e):Zqa  g s e (fun r=>r=Zg2 g s e):=by
 obtain⟨hg,hw,hi,he⟩:=h
 refine⟨⟨hg,he⟩,?_⟩
 refine Br.intro (fun e1=>?_) fun e1=>?_
 ·have e1:(!nIs g e)=true:=e1
  have e1:nIs g e=false:=by simpa using e1
  have hb:Z7y g s e=false:=by unfold Z7y; rw[e1]; rfl
  unfold Zg2; rw[if_neg (by rw[hb]; decide)]
 have e1:(!nIs g e)=false:=e1
 have e1:nIs g e=true:=by simpa using e1
 refine⟨hg,?_⟩
 rintro _ rfl
 rintro _ rfl
 have hf:(Zhl g (s.1,s.2.1,s.2.2.1,s.2.2.2.1,s.2.2.2.2.1,s.2.2.2.2.2)).fst=Z2g (Zg g) (Zp g) s:=rfl
 rw[hf]
 refine Br.intro (fun e2=>?_) fun e2=>?_
 ·have e2:Z2g (Zg g) (Zp g) s=false:=by simpa using e2
  have hb:Z7y g s e=false:=by unfold Z7y; rw[e2]; simp
  unfold Zg2; rw[if_neg (by rw[hb]; decide)]
 have e2:Z2g (Zg g) (Zp g) s=true:=by simpa using e2
 have hb:Z7y g s e=true:=by unfold Z7y; rw[e1,e2]; rfl
 obtain⟨n,gn,rfl,_,_⟩:=Z187 hg hb
 have hc:=Zg8 e1
 have wl:∀ c,0≤c→c<Z2 n→Z11d (some (netG n)) (s.1,s.2.1,s.2.2.1,s.2.2.2.1,s.2.2.2.2.1,s.2.2.2.2.2) c:=fun c h0 h1=>⟨hg,hw,hi,e2,h0,by rw[Z1w]; exact h1⟩
 refine⟨wl _ hc.1.1 hc.1.2,?_⟩
 rintro _ rfl
 refine⟨wl _ hc.2.1 hc.2.2,?_⟩
 rintro _ rfl
 unfold Zg2; rw[if_pos hb]; rfl
def Zmk:=fun(g:Option YG)(p:YP)(s:YS)(e:Int)(post:Nat × Unit→Prop)=>∃(h:Z1kd g s e),∀ a,a=Zg2 g s e→Br (!a.2.2.1) (post (0,())) (∃(h:
 Z1kc a.1 a.2.1),∀ a_1,a_1=Z11a a.1 a.2.1→∀ a_2,a_2=a_1.1→Br (!a_2) (post (0,())) (∀(a_3:Nat),FRes f64 (f64.format.mul p.2.2.1 p.2.1)
 a_3→∀(a_4:Nat),FRes f64 (f64.format.sub a.2.1.2.2.1 a.1.2.2.1) a_4→∀(a_5:Nat),FRes f64 (f64.format.mul a_3 a_4) a_5
 → ∃(h:Z2s g e),∀ a_6,a_6=Z1c5 g e→∀(a_7:Nat),FRes f64 (f64.format.div a_5 a_6.1) a_7→∃(h:(0:Int)≤e∧e<(↑s.2.2.2.1.length:
 Int)),∀(a_8:Nat),FRes f64 (f64.format.sub (s.2.2.2.1.getD e.toNat (0:Nat)) a_7) a_8→∀(a_9:Nat),FRes f64
 (f64.format.add a.1.2.1 a.2.1.2.1) a_9→∀(a:Nat),FRes f64 (f64.format.mul (4602678819172646912:Nat) a_9) a→∀ a_10,a_10=fcmp
 Go.BinOp.gtr (f64.format.order a (0:Nat))→Br (!a_10) (post (0,())) (∀(a_11:Nat),FRes f64 (f64.format.mul p.2.2.2.1 p.2.1) a_11→∃
 (h:W64 a_8),∀(a_12:Nat),FRes f64 (f64.format.mul a_11 (absR a_8).1) a_12→∀(a_13:Nat),FRes f64 (f64.format.div a_12
 a) a_13→∀(a:Nat),FRes f64 (f64.format.add (4607182418800017408:Nat) a_13) a→∀(a_14:Nat),FRes f64 (f64.format.div
 a_8 a) a_14→∀ a,a=fcmp Go.BinOp.gtr (f64.format.order a_14 (4652218415073722368:Nat))→Br a (post (4652218415073722368,())) (∀ a,a=fcmp Go.BinOp.lss
 (f64.format.order a_14 (13875590451928498176:Nat))→Br a (post (13875590451928498176,())) (∀ a,a=fcmp Go.BinOp.neq (f64.format.order a_14 a_14)→
 Br a (post (0,())) (∃(h:True),post ((Zt a_14).1,())))))))
theorem Z16c(g:Option YG)(p:YP)(s:YS)(e:Int)(h:Z1e1 g p s e):Zmk  g p s e (fun r=>r=Zv7 g p s e):=by
 obtain⟨hg,⟨pt,pg,pd⟩,hw,hi,hs,he⟩:=h
 refine⟨⟨hg,hw,hi,he⟩,?_⟩
 rintro a ha
 have ha:a=Zg2 g s e:=ha
 by_cases hb:Z7y g s e=true
 rotate_left
 ·have ha:a=((0,0,0,false),(0,0,0,false),false,()):=by rw[ha]; unfold Zg2; rw[if_neg hb]
  subst ha
  refine Br.intro (fun _=>?_) fun q=>by cases q
  show(0,())=r1 (Z5t g p s e)
  unfold Z5t; rw[if_neg hb]; rfl
 obtain⟨n,gn,rfl,e1,e2⟩:=Z187 hg hb
 have f:=Z4t.1 e2
 rw[Z1w]at f
 have hc:=Zg8 e1
 have hr:0≤e∧e<((netE n).1.length:Int):=by
  have h:(decide (0≤e)&&decide (e<((netE n).1.length:Int)))=true:=e1
  simpa using h
 obtain⟨L,hL⟩:∃ L,Zj1 (Z4m (some (netG n))) s.1 s.2.1 (Z19 (some (netG n)) e).1=L:=⟨_,rfl⟩
 obtain⟨R,hR⟩:∃ R,Zj1 (Z4m (some (netG n))) s.1 s.2.1 (Z19 (some (netG n)) e).2.2.1=R:=⟨_,rfl⟩
 have wL:Z11b L:=by rw[← hL]; exact Z1nz hw (by omega)
 have wR:Z11b R:=by rw[← hR]; exact Z1nz hw (by omega)
 have ha:a=(L,R,true,()):=by rw[ha]; unfold Zg2; rw[if_pos hb,hL,hR]
 subst ha
 have hS:Zv7 (some (netG n)) p s e=r1 (Zaz p.2.2.1 p.2.1 p.2.2.2.1 (nGap (some (netG n)) e) (s.2.2.2.1.getD e.toNat 0) L R):=by
  show r1 (Z5t (some (netG n)) p s e)=_
  unfold Z5t; rw[if_pos hb,hL,hR]
 rw[hS]
 clear hS
 refine Br.intro (fun q=>by cases q) fun _=>?_
 refine⟨⟨wL,wR⟩,?_⟩
 rintro _ rfl
 rintro _ rfl
 have hO:(Z11a (L.1,L.2.1,L.2.2.1,L.2.2.2) (R.1,R.2.1,R.2.2.1,R.2.2.2)).fst=Z1c6 L R:=rfl
 rw[hO]
 refine Br.intro (fun q=>?_) fun q=>?_
 ·unfold Zaz; rw[if_pos q]; rfl
 have q:Z1c6 L R=true:=by simpa using q
 intro x3 f3
 have q3:=fmul f3
 intro x4 g4
 have q4:=fsub g4
 intro x5 f5
 have q5:=fmul f5
 refine⟨⟨hg,he⟩,?_⟩
 rintro _ rfl
 intro x7 f7
 have q7:=fdiv f7
 have hpull:Z5 x7=Zv6 p.2.2.1 p.2.1 L.2.2.1 R.2.2.1 (nGap (some (netG n)) e):=by
  rw[q7.1]; unfold Zv6
  exact Zd2 (by rw[q5.1,Z3x]; exact Z46 (by rw[q3.1,Z3x]) (by rw[q4.1,Zds])) rfl
 have f4:=f.2.2.2
 rw[show Zp (some (netG n))=((netE n).1.length:Int)from rfl]at f4
 refine⟨⟨hr.1,by omega⟩,?_⟩
 intro x8 f8
 have q8:=fsub f8
 obtain⟨U,hU⟩:∃ U,subQ (s.2.2.2.1.getD e.toNat 0) (Zv6 p.2.2.1 p.2.1 L.2.2.1 R.2.2.1 (nGap (some (netG n)) e))=U:=⟨_,rfl⟩
 have h8:Z5 x8=Z5 U:=by
  rw[q8.1,← hU,Zds]
  exact Z107 rfl (by rw[hpull]; unfold Zv6; rw[Z14l])
 intro x9 f9
 have q9:=fadd f9
 intro h1 fh
 have qh:=fmul fh
 obtain⟨H,hH⟩:∃ H,mulQ Z3i (addQ L.2.1 R.2.1)=H:=⟨_,rfl⟩
 have hh:Z5 h1=Z5 H:=by
  rw[qh.1,← hH,Z3x]
  exact Z46 rfl (by rw[q9.1,Zl1])
 have hg0:fcmp .gtr (f64.format.order h1 0)=gtS H 0:=by
  show fcmp .gtr (Ieee.double.order h1 0)=fcmp .gtr (Ieee.double.order H 0)
  rw[← Zvf h1,hh,Zvf]
 have hSp:Zaz p.2.2.1 p.2.1 p.2.2.2.1 (nGap (some (netG n)) e) (s.2.2.2.1.getD e.toNat 0) L R=if(!gtS H 0)=true then 0 else cutQ (Z31 U (Z1c4 p.2.2.2.1 p.2.1 U H)):=by
  unfold Zaz; rw[if_neg (by rw[q]; decide),hU,hH]
 rw[hSp]
 rintro _ rfl
 rw[hg0]
 refine Br.intro (fun z=>by rw[if_pos z]; rfl) fun z=>?_
 rw[if_neg (by rw[z]; decide)]
 intro x11 f11
 have q11:=fmul f11
 refine⟨q8.2,?_⟩
 intro x12 f12
 have q12:=fmul f12
 intro x13 f13
 have q13:=fdiv f13
 intro x14 f14
 have q14:=fadd f14
 intro v fv
 have qv:=fdiv fv
 obtain⟨V,hV⟩:∃ V,Z31 U (Z1c4 p.2.2.2.1 p.2.1 U H)=V:=⟨_,rfl⟩
 have hv:Z5 v=Z5 V:=by
  rw[qv.1,← hV,Z14l]
  refine Zd2 h8 ?_
  rw[q14.1]; unfold Z1c4; rw[Zl1]
  refine Zfs rfl ?_
  rw[q13.1,Z14l]
  refine Zd2 ?_ hh
  rw[q12.1,Z3x]
  refine Z46 (by rw[q11.1,Z3x]) ?_
  exact Z1tq h8
 rw[hV]
 have hcut:cutQ V=cutQ v:=by rw[← Z11z V,← hv,Z11z]
 rw[hcut]
 have en:fcmp .neq (f64.format.order v v)=isN v:=Z6v v
 rintro _ rfl
 refine Br.intro (fun z=>?_) fun z=>?_
 ·have z:gtS v Z3l=true:=z
  show(Z3l,())=r1 (cutQ v)
  unfold cutQ; rw[if_pos z]; rfl
 have z1:gtS v Z3l=false:=z
 rintro _ rfl
 refine Br.intro (fun z=>?_) fun z=>?_
 ·have z:ltS v Zg1=true:=z
  show(Zg1,())=r1 (cutQ v)
  unfold cutQ; rw[if_neg (by rw[z1]; decide),if_pos z]; rfl
 have z2:ltS v Zg1=false:=z
 rintro _ rfl
 rw[en]
 refine Br.intro (fun z=>?_) fun z=>?_
 ·show(0,())=r1 (cutQ v)
  unfold cutQ; rw[if_neg (by rw[z1]; decide),if_neg (by rw[z2]; decide),if_pos z]; rfl
 refine⟨trivial,?_⟩
 show(Z14 v,())=r1 (cutQ v)
 unfold cutQ; rw[if_neg (by rw[z1]; decide),if_neg (by rw[z2]; decide),if_neg (by rw[z]; decide)]; rfl
end Go.Lift

namespace Go.Lift
def Zfe:=fun(e:Int)(post:Bool × Unit→Prop)=>post (false,())
theorem Zvu(e:Int)(h:Z2s none e):Zfe  e (fun r=>r=nIsR none e):=by
 exact rfl
def Zff:=fun(g:YG)(e:Int)(post:Bool × Unit→Prop)=>∀ a,a=decide (e≥(0:Int))→Br a (∃(h:some g≠none),∀ a,a=decide (e <
 (↑g.2.1.length:Int))→post (a,())) (post (false,()))
theorem Zvv(g:YG)(e:Int)(h:Z2s (some g) e):Zff  g e (fun r=>r=nIsR (some g) e):=by
 rintro _ rfl
 refine Br.intro (fun e1=>?_) fun e1=>?_
 ·refine⟨by simp,?_⟩
  rintro _ rfl
  show _=(decide (0≤e)&&decide (e<(g.2.1.length:Nat)),())
  rw[decide_eq_true (p:=0≤e) (of_decide_eq_true e1)]; rfl
 ·show _=(decide (0≤e)&&decide (e<(g.2.1.length:Nat)),())
  rw[decide_eq_false (p:=0≤e) (of_decide_eq_false e1)]; rfl
def Zbx:=fun(e:Int)(post:(Int × Int × Int × Int) × Bool × Unit→Prop)=>∃(h:Z2s none e),∀ a,a=(nIsR none e).1→Br (!a) (post ((0,
 0,0,0),false,())) (∃(h:(none:Option (Int × (List (Int × Int × Int × Int)) × (List ((Int × Int) × Int)) × (List (List Int)) × (List Int) × (List Nat) × List
 Nat))≠none),False)
theorem Zqx(e:Int)(h:Z2s none e):Zbx  e (fun r=>r=Z7 none e):=by
 refine⟨h,?_⟩
 rintro _ rfl
 exact Br.intro (fun _=>rfl) fun q=>by cases q
def Zby:=fun(g:YG)(e:Int)(post:(Int × Int × Int × Int) × Bool × Unit→Prop)=>∃(h:Z2s (some g) e),∀ a,a=(nIsR (some g) e).1→Br
 (!a) (post (((0:Int),(0:Int),(0:Int),(0:Int)),false,())) (∃(h:some g≠none),∃(h:(0:Int)≤e∧e<(↑g.2.1.length:Int)),post
 (((g.2.1.getD e.toNat ((K.int i64).pair ((K.int i64).pair ((K.int i64).pair (K.int i64)))).dflt).1,(g.2.1.getD e.toNat ((K.int i64).pair
 ((K.int i64).pair ((K.int i64).pair (K.int i64)))).dflt).2.1,(g.2.1.getD e.toNat ((K.int i64).pair ((K.int i64).pair ((K.int
 i64).pair (K.int i64)))).dflt).2.2.1,(g.2.1.getD e.toNat ((K.int i64).pair ((K.int i64).pair ((K.int i64).pair (K.int
 i64)))).dflt).2.2.2),true,()))
theorem Zqy(g:YG)(e:Int)(h:Z2s (some g) e):Zby  g e (fun r=>r=Z7 (some g) e):=by
 refine⟨h,?_⟩
 rintro _ rfl
 have hi:(nIsR (some g) e).1=(decide (0≤e)&&decide (e<(g.2.1.length:Nat))):=rfl
 refine Br.intro (fun q=>?_) fun q=>?_
 ·have q:(nIsR (some g) e).1=false:=by simpa using q
  have hn:¬ (0≤e∧e<(g.2.1.length:Nat)):=fun z=>by rw[hi,decide_eq_true z.1,decide_eq_true z.2]at q; cases q
  show _=(Z19 (some g) e,nIs (some g) e,())
  have q2:nIs (some g) e=false:=q
  unfold Z19
  dsimp only
  rw[q2,if_neg hn]; rfl
 ·have q:(nIsR (some g) e).1=true:=by simpa using q
  have hy:0≤e∧e<(g.2.1.length:Nat):=by
   rw[hi]at q
   simpa using q
  refine⟨by simp,hy,?_⟩
  show _=(Z19 (some g) e,nIs (some g) e,())
  have q2:nIs (some g) e=true:=q
  unfold Z19
  dsimp only
  rw[q2,if_pos hy]; rfl
def Zae:=fun(c o:Int)(post:Int × Int × Unit→Prop)=>post (0,0,())
theorem Zml(c:Int)(o:Int)(h:WNet none c o):Zae  c o (fun r=>r=Z40 none c o):=by
 exact rfl
def Zaf:=fun(g:YG)(c o:Int)(post:Int × Int × Unit→Prop)=>∃(h:some g≠none),Br (!(mget (c,o) g.2.2.1).isSome) (post ((0:Int),
 (0:Int),())) (∃(h:some g≠none),∃(h:(0:Int)≤(mget (c,o) g.2.2.1).getD (0:Int)∧(mget (c,o) g.2.2.1).getD (0:Int)<(↑g.2.1.length:Int)),∀ a,
 a=((g.2.1.getD ((mget (c,o) g.2.2.1).getD (0:Int)).toNat ((K.int i64).pair ((K.int i64).pair ((K.int i64).pair (K.int i64)))).dflt).1==c)→
 Br a (post ((mget (c,o) g.2.2.1).getD (0:Int),(1:Int),())) (post ((mget (c,o) g.2.2.1).getD (0:Int),(-1:Int),())))
theorem Zmm(g:YG)(c:Int)(o:Int)(h:WNet (some g) c o):Zaf  g c o (fun r=>r=Z40 (some g) c o):=by
 obtain⟨hg,hc,ho⟩:=h
 obtain⟨n,gn,hgn⟩:∃ n,Z22 n=true∧g=netG n:=by
  rcases hg with hg | ⟨n,gn,hg⟩
  ·cases hg
  ·exact⟨n,gn,Option.some.inj hg⟩
 subst hgn
 refine⟨by simp,?_⟩
 have hr:Z40 (some (netG n)) c o=match mget (c,o) (netE n).2 with
   | none=>((0:Int),(0:Int),())
   | some e=>if((netE n).1.getD e.toNat dEd).1=c then(e,(1:Int),())else(e,(-1:Int),()):=by
  unfold Z40 Za netG
  dsimp only
  cases mget (c,o) (netE n).2 with
  | none=>rfl
  | some e=>dsimp only; split <;> rfl
 rw[hr]
 by_cases ok:Zh n c o=true
 ·obtain⟨k,hk,k1,_,_⟩:=Z1dn ok
  have k1':mget (c,o) (netG n).2.2.1=some (k:Int):=k1
  rw[k1',k1]
  refine Br.intro (fun q=>by cases q) fun _=>?_
  refine⟨by simp,⟨by show(0:Int)≤k; omega,by show(k:Int)<((netE n).1.length:Nat); omega⟩,?_⟩
  intro a ha
  have ha:a=decide (((netE n).1.getD (k:Int).toNat dEd).1=c):=ha
  rw[ha]
  dsimp only
  refine Br.intro (fun q=>?_) fun q=>?_
  ·rw[if_pos (of_decide_eq_true q)]; rfl
  ·rw[if_neg (of_decide_eq_false q)]; rfl
 ·have k1:=Z1q6 ok
  have k1':mget (c,o) (netG n).2.2.1=none:=k1
  rw[k1',k1]
  exact Br.intro (fun _=>rfl) fun q=>by cases q
end Go.Lift

namespace Go.Lift
open Go.Proofs
def Zxe:Cx:=⟨Z1t Z23,Z21 [],SqG⟩
theorem Zmn:CxOk Tryz.prog Zxe:=⟨Zn Zy,fun f c h=>by cases h⟩
def Z9k:Con:=.det [.ptr Z28,.int .i64] [.snap .bool] (fun x=>Z2s x.1 x.2.1) (fun x=>nIsR x.1 x.2.1)
theorem Zi2:SqH Z9k 159:=
 dPs Zmn Z3 Zd nHn Tryz.func159 (fun y p=>Zfe  y.1 p) (fun z y p=>Zff  z y.1 p) (fun y h _=>Zvu  y.1 h) fun z y h _=>Zvv  z y.1 h
def Z1h2:Cx:=addC 159 Z9k Zxe
theorem Zmo:CxOk Tryz.prog Z1h2:=Zm Zmn Zi2
def Z4c:Con:=.det [.ptr Z28,.int .i64] [.snap Z3u,.snap .bool] (fun x=>Z2s x.1 x.2.1) (fun x=>Z7 x.1 x.2.1)
theorem Z5z:SqH Z4c 77:=
 dPs Zmo Z3 Zd nHn Tryz.func77 (fun y p=>Zbx  y.1 p) (fun z y p=>Zby  z y.1 p) (fun y h _=>Zqx  y.1 h) fun z y h _=>Zqy  z y.1 h
def Z3q:Con:=Con.nam [.ptr Z28,.int .i64,.int .i64] [.snap (.int .i64),.snap (.int .i64)] (fun x=>WNet x.1 x.2.1 x.2.2.1) (fun x=>Z40 x.1 x.2.1 x.2.2.1)
theorem Z4o:SqH Z3q 33:=
 nPs Zmo Z3 Zd nHn Tryz.func33 (fun y p=>Zae  y.1 y.2.1 p) (fun z y p=>Zaf  z y.1 y.2.1 p) (fun y h _=>Zml  y.1 y.2.1 h) fun z y h _=>Zmm  z y.1 y.2.1 h
end Go.Lift

namespace Go.Lift
open Go.Proofs
def Z18n:Cx:=⟨Z1t Z23,Z21 [(159,Z9k),(32,Z29),(31,Z2j),(90,Z4b),(89,Z5x),(92,Zbi),(77,Z4c),(152,Z83),(99,Z43)],SqG⟩
theorem Zi3:CxOk Tryz.prog Z18n:=⟨Zn Zy,Zu ⟨Zi2,Z2i,Z2u,Z5y,Z7m,Zjy,Z5z,Zb6,Z50,trivial⟩⟩
def Zbl:Con:=Con.nam [.ptr Z28,.int .i64] [.snap (.flt .f64)] (fun x=>Z2s x.1 x.2.1) (fun x=>Zhj x.1 x.2.1)
theorem Zoi:SqH Zbl 71:=
 nPs Zi3 Z3 Zd nHn Tryz.func71 (fun y p=>Zaa  y.1 p) (fun z y p=>Zab  z y.1 p) (fun y h _=>Zmg  y.1 h) fun z y h _=>Zmh  z y.1 h
def Zfg:Con:=Con.nam [.ptr Z28,.int .i64] [.snap (.flt .f64)] (fun x=>Z2s x.1 x.2.1) (fun x=>Z1c5 x.1 x.2.1)
theorem Zvw:SqH Zfg 151:=
 nPs Zi3 Z3 Zd nHn Tryz.func151 (fun y p=>Zek  y.1 p) (fun z y p=>Zel  z y.1 p) (fun y h _=>Ztu  y.1 h) fun z y h _=>Ztv  z y.1 h
def Z18o:Cx:=addC 151 Zfg Z18n
theorem Zi4:CxOk Tryz.prog Z18o:=Zm Zi3 Zvw
def Zbm:Con:=Con.nam [.ptr Z28,.int .i64] [.snap (.int .i64),.snap (.int .i64),.snap .bool] (fun x=>Z2s x.1 x.2.1) (fun x=>Zhk x.1 x.2.1)
theorem Zoj:SqH Zbm 154:=
 nPs Zi4 Z3 Zd nHn Tryz.func154 (fun y p=>Zac  y.1 p) (fun z y p=>Zad  z y.1 p) (fun y h _=>Zmi  y.1 h) fun z y h _=>Zmj  z y.1 h
def Zcu:Con:=Con.nam [.ptr Z28,kSea] [.snap .bool] (fun x=>Z11c x.1 x.2.1) (fun x=>Zhl x.1 x.2.1)
theorem Zmp:SqH Zcu 67:=
 nP Zi4 Z3 Zd ({loops:=Z10 [],joins:=fun _=>none,named:=true}) Tryz.func67 (fun x p=>Zq8  x.1 x.2.1 p) fun x h _=>Z1as  x.1 x.2.1 h
def Z18p:Cx:=addC 67 Zcu Z18o
theorem Ztw:CxOk Tryz.prog Z18p:=Zm Zi4 Zmp
def Zmq:Con:=Con.nam [.ptr Z28,kSea,.int .i64] [.snap Z119] (fun x=>Z11d x.1 x.2.1 x.2.2.1) (fun x=>Z1c7 x.1 x.2.1 x.2.2.1)
theorem Z16d:SqH Zmq 199:=
 nP Ztw Z3 Zd ({loops:=Z10 [],joins:=fun _=>none,named:=true}) Tryz.func199 (fun x p=>Zf0  x.1 x.2.1 x.2.2.1 p) fun x h _=>Z1at  x.1 x.2.1 x.2.2.1 h
def Z18q:Cx:=addC 199 Zmq Z18p
theorem Ztx:CxOk Tryz.prog Z18q:=Zm Ztw Z16d
def Zmr:Con:=Con.nam [Z119,Z119] [.snap .bool] (fun x=>Z1kc x.1 x.2.1) (fun x=>Z11a x.1 x.2.1)
theorem Z16e:SqH Zmr 150:=
 nP Ztx Z3 Zd ({loops:=Z10 [],joins:=fun _=>none,named:=true}) Tryz.func150 (fun x p=>Zq9  x.1 x.2.1 p) fun x h _=>Z1au  x.1 x.2.1 h
def Z18r:Cx:=addC 150 Zmr Z18q
theorem Zty:CxOk Tryz.prog Z18r:=Zm Ztx Z16e
def Zms:Con:=Con.nam [.ptr Z28,kSea,.int .i64] [.snap Z119,.snap Z119,.snap .bool] (fun x=>Z1kd x.1 x.2.1 x.2.2.1) (fun x=>Zg2 x.1 x.2.1 x.2.2.1)
theorem Z16f:SqH Zms 149:=
 nP Zty Z3 Zd ({loops:=Z10 [],joins:=fun _=>none,named:=true}) Tryz.func149 (fun x p=>Zqa  x.1 x.2.1 x.2.2.1 p) fun x h _=>Z1av  x.1 x.2.1 x.2.2.1 h
def Z1oo:Cx:=addC 149 Zms Z18r
theorem Z1f6:CxOk Tryz.prog Z1oo:=Zm Zty Z16f
def Zk2:Con:=Con.nam [.ptr Z28,Z7f,kSea,.int .i64] [.snap (.flt .f64)] (fun x=>Z1e1 x.1 x.2.1 x.2.2.1 x.2.2.2.1) (fun x=>Zv7 x.1 x.2.1 x.2.2.1 x.2.2.2.1)
theorem Z13c:SqH Zk2 68:=
 nP Z1f6 Z3 Zd ({loops:=Z10 [],joins:=fun _=>none,named:=true}) Tryz.func68 (fun x p=>Zmk  x.1 x.2.1 x.2.2.1 x.2.2.2.1 p) fun x h _=>Z16c  x.1 x.2.1 x.2.2.1 x.2.2.2.1 h
end Go.Lift

namespace Go.Lift
def Z8t:=fun(a b:Nat)(post:Nat × Unit→Prop)=>∃(h:True),∀ a_1,a_1=Zhh (0:Int)→∀ a_2,a_2=a_1.1→Br (!a_2) (post (0,())) (∃(h:(0:Int)
 ≤ (0:Int)∧(0:Int)<(↑(4:Nat):Int)),∀ a_3,a_3=fcmp Go.BinOp.gtr (f64.format.order a (0:Nat))→Br a_3 (∀ a_4,a_4=fcmp Go.BinOp.gtr
 (f64.format.order b (0:Nat))→Br a_4 (∃(h:True),∀ a_5,a_5=Zed a b→∃(h:True),post ((Zt a_5.1).1,())) (∀ a_5,a_5=fcmp Go.BinOp.lss
 (f64.format.order a (0:Nat))→Br a_5 (∀ a_6,a_6=fcmp Go.BinOp.lss (f64.format.order b (0:Nat))→Br a_6 (∃(h:True),∀ a_7,a_7=Zed
 (Go.Op.negFloat f64 a) (Go.Op.negFloat f64 b)→∃(h:True),post ((Zt (Go.Op.negFloat f64 a_7.1)).1,())) (post (0,()))) (post (0,
 ())))) (∀ a_4,a_4=fcmp Go.BinOp.lss (f64.format.order a (0:Nat))→Br a_4 (∀ a_5,a_5=fcmp Go.BinOp.lss (f64.format.order b (0:Nat))→Br a_5 (∃
 (h:True),∀ a_6,a_6=Zed (Go.Op.negFloat f64 a) (Go.Op.negFloat f64 b)→∃(h:True),post ((Zt (Go.Op.negFloat f64 a_6.1)).1,
 ())) (post (0,()))) (post (0,()))))
theorem Zvx(a:Nat)(b:Nat)(h:Zec (0:Int) a b):Z8t  a b (fun r=>r=Zeb (0:Int) a b):=by
 obtain⟨_,_,ha,hb⟩:=h
 have k0:(0:Int)≤0:=by decide
 have k3:0≤(3:Int):=by decide
 refine⟨trivial,?_⟩
 rintro _ rfl
 rintro _ rfl
 refine Br.intro (fun e=>absurd e (by decide)) fun _=>?_
 refine⟨⟨by decide,by decide⟩,?_⟩
 rintro _ rfl
 refine Br.intro (fun e1=>?_) fun e1=>?_
 ·rintro _ rfl
  refine Br.intro (fun e2=>?_) fun e2=>?_
  ·refine⟨trivial,?_⟩
   rintro _ rfl
   refine⟨trivial,?_⟩
   show(Z14 ((Zed a b).1),())=r1 (Z1d 0 a b)
   rw[Zj8 k0 k3 e1 e2]; rfl
  ·rintro _ rfl
   refine Br.intro (fun e3=>?_) fun e3=>?_
   ·rintro _ rfl
    refine Br.intro (fun e4=>?_) fun e4=>?_
    ·refine⟨trivial,?_⟩
     rintro _ rfl
     refine⟨trivial,?_⟩
     show(Z14 (negF ((Zed (negF a) (negF b)).1)),())=r1 (Z1d 0 a b)
     rw[Z6o k0 k3 (.inr e2) e3 e4]; rfl
    ·show((0:Nat),())=r1 (Z1d 0 a b)
     rw[Z2m k0 k3 (.inr e2) (.inr e4)]; rfl
   ·show((0:Nat),())=r1 (Z1d 0 a b)
    rw[Z2m k0 k3 (.inr e2) (.inl e3)]; rfl
 ·rintro _ rfl
  refine Br.intro (fun e3=>?_) fun e3=>?_
  ·rintro _ rfl
   refine Br.intro (fun e4=>?_) fun e4=>?_
   ·refine⟨trivial,?_⟩
    rintro _ rfl
    refine⟨trivial,?_⟩
    show(Z14 (negF ((Zed (negF a) (negF b)).1)),())=r1 (Z1d 0 a b)
    rw[Z6o k0 k3 (.inl e1) e3 e4]; rfl
   ·show((0:Nat),())=r1 (Z1d 0 a b)
    rw[Z2m k0 k3 (.inl e1) (.inr e4)]; rfl
  ·show((0:Nat),())=r1 (Z1d 0 a b)
   rw[Z2m k0 k3 (.inl e1) (.inl e3)]; rfl
def Z8u:=fun(a b:Nat)(post:Nat × Unit→Prop)=>∃(h:True),∀ a_1,a_1=Zhh (1:Int)→∀ a_2,a_2=a_1.1→Br (!a_2) (post (0,())) (∃(h:(0:Int)
 ≤ (1:Int)∧(1:Int)<(↑(4:Nat):Int)),∀ a_3,a_3=fcmp Go.BinOp.gtr (f64.format.order a (0:Nat))→Br a_3 (∀ a_4,a_4=fcmp Go.BinOp.gtr
 (f64.format.order b (0:Nat))→Br a_4 (∃(h:W2 a b),∀ a_5,a_5=Zfz a b→∃(h:True),post ((Zt a_5.1).1,())) (∀ a_5,a_5=fcmp Go.BinOp.lss
 (f64.format.order a (0:Nat))→Br a_5 (∀ a_6,a_6=fcmp Go.BinOp.lss (f64.format.order b (0:Nat))→Br a_6 (∃(h:W2 (Go.Op.negFloat
 f64 a) (Go.Op.negFloat f64 b)),∀ a_7,a_7=Zfz (Go.Op.negFloat f64 a) (Go.Op.negFloat f64 b)→∃(h:True),post ((Zt
 (Go.Op.negFloat f64 a_7.1)).1,())) (post (0,()))) (post (0,())))) (∀ a_4,a_4=fcmp Go.BinOp.lss (f64.format.order a (0:Nat))→Br a_4 (∀ a_5,a_5
 = fcmp Go.BinOp.lss (f64.format.order b (0:Nat))→Br a_5 (∃(h:W2 (Go.Op.negFloat f64 a) (Go.Op.negFloat f64 b)),∀ a_6,a_6=Zfz
 (Go.Op.negFloat f64 a) (Go.Op.negFloat f64 b)→∃(h:True),post ((Zt (Go.Op.negFloat f64 a_6.1)).1,())) (post (0,()))) (post (0,
 ()))))
theorem Zvy(a:Nat)(b:Nat)(h:Zec (1:Int) a b):Z8u  a b (fun r=>r=Zeb (1:Int) a b):=by
 obtain⟨_,_,ha,hb⟩:=h
 have k0:(0:Int)≤1:=by decide
 have k3:1≤(3:Int):=by decide
 refine⟨trivial,?_⟩
 rintro _ rfl
 rintro _ rfl
 refine Br.intro (fun e=>absurd e (by decide)) fun _=>?_
 refine⟨⟨by decide,by decide⟩,?_⟩
 rintro _ rfl
 refine Br.intro (fun e1=>?_) fun e1=>?_
 ·rintro _ rfl
  refine Br.intro (fun e2=>?_) fun e2=>?_
  ·refine⟨⟨ha,hb⟩,?_⟩
   rintro _ rfl
   refine⟨trivial,?_⟩
   show(Z14 (minQ a b),())=r1 (Z1d 1 a b)
   rw[Zj8 k0 k3 e1 e2]; rfl
  ·rintro _ rfl
   refine Br.intro (fun e3=>?_) fun e3=>?_
   ·rintro _ rfl
    refine Br.intro (fun e4=>?_) fun e4=>?_
    ·refine⟨⟨Zh4 ha,Zh4 hb⟩,?_⟩
     rintro _ rfl
     refine⟨trivial,?_⟩
     show(Z14 (negF (minQ (negF a) (negF b))),())=r1 (Z1d 1 a b)
     rw[Z6o k0 k3 (.inr e2) e3 e4]; rfl
    ·show((0:Nat),())=r1 (Z1d 1 a b)
     rw[Z2m k0 k3 (.inr e2) (.inr e4)]; rfl
   ·show((0:Nat),())=r1 (Z1d 1 a b)
    rw[Z2m k0 k3 (.inr e2) (.inl e3)]; rfl
 ·rintro _ rfl
  refine Br.intro (fun e3=>?_) fun e3=>?_
  ·rintro _ rfl
   refine Br.intro (fun e4=>?_) fun e4=>?_
   ·refine⟨⟨Zh4 ha,Zh4 hb⟩,?_⟩
    rintro _ rfl
    refine⟨trivial,?_⟩
    show(Z14 (negF (minQ (negF a) (negF b))),())=r1 (Z1d 1 a b)
    rw[Z6o k0 k3 (.inl e1) e3 e4]; rfl
   ·show((0:Nat),())=r1 (Z1d 1 a b)
    rw[Z2m k0 k3 (.inl e1) (.inr e4)]; rfl
  ·show((0:Nat),())=r1 (Z1d 1 a b)
   rw[Z2m k0 k3 (.inl e1) (.inl e3)]; rfl
def Z8v:=fun(a b:Nat)(post:Nat × Unit→Prop)=>∃(h:True),∀ a_1,a_1=Zhh (2:Int)→∀ a_2,a_2=a_1.1→Br (!a_2) (post (0,())) (∃(h:(0:Int)
 ≤ (2:Int)∧(2:Int)<(↑(4:Nat):Int)),∀ a_3,a_3=fcmp Go.BinOp.gtr (f64.format.order a (0:Nat))→Br a_3 (∀ a_4,a_4=fcmp Go.BinOp.gtr
 (f64.format.order b (0:Nat))→Br a_4 (∃(h:Zd9 a b),∀ a_5,a_5=supR a b→∃(h:True),post ((Zt a_5.1).1,())) (∀ a_5,a_5=fcmp Go.BinOp.lss
 (f64.format.order a (0:Nat))→Br a_5 (∀ a_6,a_6=fcmp Go.BinOp.lss (f64.format.order b (0:Nat))→Br a_6 (∃(h:Zd9 (Go.Op.negFloat
 f64 a) (Go.Op.negFloat f64 b)),∀ a_7,a_7=supR (Go.Op.negFloat f64 a) (Go.Op.negFloat f64 b)→∃(h:True),post ((Zt
 (Go.Op.negFloat f64 a_7.1)).1,())) (post (0,()))) (post (0,())))) (∀ a_4,a_4=fcmp Go.BinOp.lss (f64.format.order a (0:Nat))→Br a_4 (∀ a_5,a_5
 = fcmp Go.BinOp.lss (f64.format.order b (0:Nat))→Br a_5 (∃(h:Zd9 (Go.Op.negFloat f64 a) (Go.Op.negFloat f64 b)),∀ a_6,a_6=supR
 (Go.Op.negFloat f64 a) (Go.Op.negFloat f64 b)→∃(h:True),post ((Zt (Go.Op.negFloat f64 a_6.1)).1,())) (post (0,()))) (post (0,
 ()))))
theorem Zvz(a:Nat)(b:Nat)(h:Zec (2:Int) a b):Z8v  a b (fun r=>r=Zeb (2:Int) a b):=by
 obtain⟨_,_,ha,hb⟩:=h
 have k0:(0:Int)≤2:=by decide
 have k3:2≤(3:Int):=by decide
 refine⟨trivial,?_⟩
 rintro _ rfl
 rintro _ rfl
 refine Br.intro (fun e=>absurd e (by decide)) fun _=>?_
 refine⟨⟨by decide,by decide⟩,?_⟩
 rintro _ rfl
 refine Br.intro (fun e1=>?_) fun e1=>?_
 ·rintro _ rfl
  refine Br.intro (fun e2=>?_) fun e2=>?_
  ·refine⟨⟨Zj7 ha e1,Zj7 hb e2⟩,?_⟩
   rintro _ rfl
   refine⟨trivial,?_⟩
   show(Z14 (maxQ (minQ (mulQ twoS a) b) (minQ a (mulQ twoS b))),())=r1 (Z1d 2 a b)
   rw[Zj8 k0 k3 e1 e2]; rfl
  ·rintro _ rfl
   refine Br.intro (fun e3=>?_) fun e3=>?_
   ·rintro _ rfl
    refine Br.intro (fun e4=>?_) fun e4=>?_
    ·refine⟨⟨Za4 ha e3,Za4 hb e4⟩,?_⟩
     rintro _ rfl
     refine⟨trivial,?_⟩
     show(Z14 (negF (maxQ (minQ (mulQ twoS (negF a)) (negF b)) (minQ (negF a) (mulQ twoS (negF b))))),())=r1 (Z1d 2 a b)
     rw[Z6o k0 k3 (.inr e2) e3 e4]; rfl
    ·show((0:Nat),())=r1 (Z1d 2 a b)
     rw[Z2m k0 k3 (.inr e2) (.inr e4)]; rfl
   ·show((0:Nat),())=r1 (Z1d 2 a b)
    rw[Z2m k0 k3 (.inr e2) (.inl e3)]; rfl
 ·rintro _ rfl
  refine Br.intro (fun e3=>?_) fun e3=>?_
  ·rintro _ rfl
   refine Br.intro (fun e4=>?_) fun e4=>?_
   ·refine⟨⟨Za4 ha e3,Za4 hb e4⟩,?_⟩
    rintro _ rfl
    refine⟨trivial,?_⟩
    show(Z14 (negF (maxQ (minQ (mulQ twoS (negF a)) (negF b)) (minQ (negF a) (mulQ twoS (negF b))))),())=r1 (Z1d 2 a b)
    rw[Z6o k0 k3 (.inl e1) e3 e4]; rfl
   ·show((0:Nat),())=r1 (Z1d 2 a b)
    rw[Z2m k0 k3 (.inl e1) (.inr e4)]; rfl
  ·show((0:Nat),())=r1 (Z1d 2 a b)
   rw[Z2m k0 k3 (.inl e1) (.inl e3)]; rfl
def Z8w:=fun(a b:Nat)(post:Nat × Unit→Prop)=>∃(h:True),∀ a_1,a_1=Zhh (3:Int)→∀ a_2,a_2=a_1.1→Br (!a_2) (post (0,())) (∃(h:(0:Int)
 ≤ (3:Int)∧(3:Int)<(↑(4:Nat):Int)),∀ a_3,a_3=fcmp Go.BinOp.gtr (f64.format.order a (0:Nat))→Br a_3 (∀ a_4,a_4=fcmp Go.BinOp.gtr
 (f64.format.order b (0:Nat))→Br a_4 (∃(h:Zd9 a b),∀ a_5,a_5=Z118 a b→∃(h:True),post ((Zt a_5.1).1,())) (∀ a_5,a_5=fcmp Go.BinOp.lss
 (f64.format.order a (0:Nat))→Br a_5 (∀ a_6,a_6=fcmp Go.BinOp.lss (f64.format.order b (0:Nat))→Br a_6 (∃(h:Zd9 (Go.Op.negFloat
 f64 a) (Go.Op.negFloat f64 b)),∀ a_7,a_7=Z118 (Go.Op.negFloat f64 a) (Go.Op.negFloat f64 b)→∃(h:True),post ((Zt
 (Go.Op.negFloat f64 a_7.1)).1,())) (post (0,()))) (post (0,())))) (∀ a_4,a_4=fcmp Go.BinOp.lss (f64.format.order a (0:Nat))→Br a_4 (∀ a_5,a_5
 = fcmp Go.BinOp.lss (f64.format.order b (0:Nat))→Br a_5 (∃(h:Zd9 (Go.Op.negFloat f64 a) (Go.Op.negFloat f64 b)),∀ a_6,a_6=Z118
 (Go.Op.negFloat f64 a) (Go.Op.negFloat f64 b)→∃(h:True),post ((Zt (Go.Op.negFloat f64 a_6.1)).1,())) (post (0,()))) (post (0,
 ()))))
theorem Zw0(a:Nat)(b:Nat)(h:Zec (3:Int) a b):Z8w  a b (fun r=>r=Zeb (3:Int) a b):=by
 obtain⟨_,_,ha,hb⟩:=h
 have k0:(0:Int)≤3:=by decide
 have k3:3≤(3:Int):=by decide
 refine⟨trivial,?_⟩
 rintro _ rfl
 rintro _ rfl
 refine Br.intro (fun e=>absurd e (by decide)) fun _=>?_
 refine⟨⟨by decide,by decide⟩,?_⟩
 rintro _ rfl
 refine Br.intro (fun e1=>?_) fun e1=>?_
 ·rintro _ rfl
  refine Br.intro (fun e2=>?_) fun e2=>?_
  ·refine⟨⟨Zj7 ha e1,Zj7 hb e2⟩,?_⟩
   rintro _ rfl
   refine⟨trivial,?_⟩
   show(Z14 (Zd8 a b),())=r1 (Z1d 3 a b)
   rw[Zj8 k0 k3 e1 e2]; rfl
  ·rintro _ rfl
   refine Br.intro (fun e3=>?_) fun e3=>?_
   ·rintro _ rfl
    refine Br.intro (fun e4=>?_) fun e4=>?_
    ·refine⟨⟨Za4 ha e3,Za4 hb e4⟩,?_⟩
     rintro _ rfl
     refine⟨trivial,?_⟩
     show(Z14 (negF (Zd8 (negF a) (negF b))),())=r1 (Z1d 3 a b)
     rw[Z6o k0 k3 (.inr e2) e3 e4]; rfl
    ·show((0:Nat),())=r1 (Z1d 3 a b)
     rw[Z2m k0 k3 (.inr e2) (.inr e4)]; rfl
   ·show((0:Nat),())=r1 (Z1d 3 a b)
    rw[Z2m k0 k3 (.inr e2) (.inl e3)]; rfl
 ·rintro _ rfl
  refine Br.intro (fun e3=>?_) fun e3=>?_
  ·rintro _ rfl
   refine Br.intro (fun e4=>?_) fun e4=>?_
   ·refine⟨⟨Za4 ha e3,Za4 hb e4⟩,?_⟩
    rintro _ rfl
    refine⟨trivial,?_⟩
    show(Z14 (negF (Zd8 (negF a) (negF b))),())=r1 (Z1d 3 a b)
    rw[Z6o k0 k3 (.inl e1) e3 e4]; rfl
   ·show((0:Nat),())=r1 (Z1d 3 a b)
    rw[Z2m k0 k3 (.inl e1) (.inr e4)]; rfl
  ·show((0:Nat),())=r1 (Z1d 3 a b)
   rw[Z2m k0 k3 (.inl e1) (.inl e3)]; rfl
def Zmt:=fun(u d l t:Nat)(post:Int × Unit→Prop)=>∀(a:Nat),FRes f64 (f64.format.mul u d) a→∀(a_1:Nat),FRes f64
 (f64.format.mul a l) a_1→∀(a:Nat),FRes f64 (f64.format.mul a_1 t) a→∀(a_2:Nat),FRes f64
 (f64.format.mul a (4742290407621132288:Nat)) a_2→∃(h:Z1dy a_2 (4503599627370496:Int)),∀ a,a=Z1dx a_2 (4503599627370496:Int)→post (a.1,())
theorem Z16g(u:Nat)(d:Nat)(l:Nat)(t:Nat)(h:W4 u d l t):Zmt  u d l t (fun r=>r=Z1dz u d l t):=by
 intro x f1
 have q1:=fmul f1
 intro y f2
 have q2:=fmul f2
 intro z f3
 have q3:=fmul f3
 intro v f4
 have q4:=fmul f4
 have e:Z5 v=mulQ (mulQ (mulQ (mulQ u d) l) t) Zj0:=by
  rw[q4.1]
  exact Z46 (by rw[q3.1,Z3x]; exact Z46 (by rw[q2.1,Z3x]; exact Z46 (by rw[q1.1,Z3x]) rfl) rfl) rfl
 refine⟨⟨q4.2,by decide,by decide⟩,?_⟩
 rintro _ rfl
 show(Z3p v 4503599627370496,())=r1 (Z3p _ 4503599627370496)
 rw[← e,Z1gj]; rfl
end Go.Lift

namespace Go.Lift
open Go.Proofs
def Z18s:Cx:=⟨Z1t Z23,Z21 [(61,Zbj),(237,Za7),(238,Za8),(239,Za9),(158,Zbh),(99,Z43),(153,Zm7)],SqG⟩
theorem Ztz:CxOk Tryz.prog Z18s:=⟨Zn Zy,Zu ⟨Zjz,Zm8,Zm9,Zma,Zi1,Z50,Z166,trivial⟩⟩
def Zk3:Con:=Con.nam [.int .i64,.flt .f64,.flt .f64] [.snap (.flt .f64)] (fun x=>Zec x.1 x.2.1 x.2.2.1) (fun x=>Zeb x.1 x.2.1 x.2.2.1)
def Z3d:Hn:={loops:=fun _=>none,joins:=fun _=>none,named:=true,inl:=inlL [203]}
abbrev Z1x:Cx:=Z18s
theorem Zem:CxOk Tryz.prog Z1x:=Ztz
theorem Zyi:FnAt Tryz.prog 156 Tryz.f156.ntmps Tryz.f156.results.toList (Tryz.f156.body.getD .skip):=⟨Tryz.f156,Tryz.func156,rfl,rfl,by simp,by decide⟩
theorem Zqz(a:Nat)(b:Nat)(post:Nat × Unit→Prop):Z4e Z1x Z3d (Z8a Z1x Z5v 6) Tryz.f156.ntmps Tryz.f156.results.toList (Tryz.f156.body.getD .skip) [.int .i64,.flt .f64,.flt .f64] [.snap (.flt .f64)] ((0:Int),a,b,()) post=Z8t  a b post:=by kernel_rfl
theorem Zr0(a:Nat)(b:Nat)(post:Nat × Unit→Prop):Z4e Z1x Z3d (Z8a Z1x Z5v 6) Tryz.f156.ntmps Tryz.f156.results.toList (Tryz.f156.body.getD .skip) [.int .i64,.flt .f64,.flt .f64] [.snap (.flt .f64)] ((1:Int),a,b,()) post=Z8u  a b post:=by kernel_rfl
theorem Zr1(a:Nat)(b:Nat)(post:Nat × Unit→Prop):Z4e Z1x Z3d (Z8a Z1x Z5v 6) Tryz.f156.ntmps Tryz.f156.results.toList (Tryz.f156.body.getD .skip) [.int .i64,.flt .f64,.flt .f64] [.snap (.flt .f64)] ((2:Int),a,b,()) post=Z8v  a b post:=by kernel_rfl
theorem Zr2(a:Nat)(b:Nat)(post:Nat × Unit→Prop):Z4e Z1x Z3d (Z8a Z1x Z5v 6) Tryz.f156.ntmps Tryz.f156.results.toList (Tryz.f156.body.getD .skip) [.int .i64,.flt .f64,.flt .f64] [.snap (.flt .f64)] ((3:Int),a,b,()) post=Z8w  a b post:=by kernel_rfl
noncomputable def Z60(x:KS [.int .i64,.flt .f64,.flt .f64])(post:RS [.snap (.flt .f64)]→Prop):Prop:=ifK (x.1) (0) (Z8t  x.2.1 x.2.2.1 post) (ifK (x.1) (1) (Z8u  x.2.1 x.2.2.1 post) (ifK (x.1) (2) (Z8v  x.2.1 x.2.2.1 post) (ifK (x.1) (3) (Z8w  x.2.1 x.2.2.1 post) (Z4e Z1x Z3d (Z8a Z1x Z5v 6) Tryz.f156.ntmps Tryz.f156.results.toList (Tryz.f156.body.getD .skip) [.int .i64,.flt .f64,.flt .f64] [.snap (.flt .f64)] x post))))
theorem Zyj(x:KS [.int .i64,.flt .f64,.flt .f64])(post:RS [.snap (.flt .f64)]→Prop):Z4e Z1x Z3d (Z8a Z1x Z5v 6) Tryz.f156.ntmps Tryz.f156.results.toList (Tryz.f156.body.getD .skip) [.int .i64,.flt .f64,.flt .f64] [.snap (.flt .f64)] x post=Z60 x post:=by
 obtain⟨k,a,b,⟨⟩⟩:=x
 unfold Z60
 by_cases q:k=(0:Int)
 ·subst q; exact(Zqz a b post).trans (Zsl rfl).symm
 refine Eq.trans ?_ (Zsm q).symm
 clear q
 by_cases q:k=(1:Int)
 ·subst q; exact(Zr0 a b post).trans (Zsl rfl).symm
 refine Eq.trans ?_ (Zsm q).symm
 clear q
 by_cases q:k=(2:Int)
 ·subst q; exact(Zr1 a b post).trans (Zsl rfl).symm
 refine Eq.trans ?_ (Zsm q).symm
 clear q
 by_cases q:k=(3:Int)
 ·subst q; exact(Zr2 a b post).trans (Zsl rfl).symm
 refine Eq.trans ?_ (Zsm q).symm
 clear q
 rfl
theorem Z13d(k:Int)(a:Nat)(b:Nat)(h:Zec k a b):Z60 (k,a,b,()) (fun r=>r=Zeb k a b):=by
 obtain⟨k0,k1,_⟩:=id h
 have k0:(0:Int)≤k:=k0
 have k1:k≤(3:Int):=k1
 unfold Z60
 by_cases q0:k=(0:Int)
 ·subst q0; exact Z11m rfl (Zvx  a b h )
 refine Zva q0 ?_
 by_cases q1:k=(1:Int)
 ·subst q1; exact Z11m rfl (Zvy  a b h )
 refine Zva q1 ?_
 by_cases q2:k=(2:Int)
 ·subst q2; exact Z11m rfl (Zvz  a b h )
 refine Zva q2 ?_
 by_cases q3:k=(3:Int)
 ·subst q3; exact Z11m rfl (Zw0  a b h )
 refine Zva q3 ?_
 omega
theorem Z13e:Zk3.holds Tryz.prog SqG 156:=
 Z5k (Z1bn Zem Z3 Z3d (Z3n Zem Z3 Z19i 6) Zyi (F:=Z60) Zyj fun x h w=>Z13d x.1 x.2.1 x.2.2.1 h )
def Zk4:Con:=Con.nam [.flt .f64,.flt .f64,.flt .f64,.flt .f64] [.snap (.int .i64)] (fun x=>W4 x.1 x.2.1 x.2.2.1 x.2.2.2.1) (fun x=>Z1dz x.1 x.2.1 x.2.2.1 x.2.2.2.1)
theorem Z13f:SqH Zk4 69:=
 nP Ztz Z3 Zd ({loops:=Z10 [],joins:=fun _=>none,named:=true}) Tryz.func69 (fun x p=>Zmt  x.1 x.2.1 x.2.2.1 x.2.2.2.1 p) fun x h _=>Z16g  x.1 x.2.1 x.2.2.1 x.2.2.2.1 h
end Go.Lift

namespace Go.Lift
open Go.Proofs
def Z18t:Cx:=⟨Z1t Z23,Z21 [(67,Zcu),(31,Z2j),(68,Zk2),(77,Z4c),(32,Z29),(154,Zbm),(90,Z4b),(89,Z5x),(92,Zbi),(156,Zk3),(157,Zi0),(158,Zbh),(71,Zbl),(69,Zk4)],SqG⟩
theorem Zbn:CxOk Tryz.prog Z18t:=⟨Zn Zy,Zu ⟨Zmp,Z2u,Z13c,Z5z,Z2i,Zoj,Z5y,Z7m,Zjy,Z13e,Ztm,Zi1,Zoi,Z13f,trivial⟩⟩
def Zi5:Con:=Con.nam [.ptr Z28,Z7f,kSea] [.own 22 (.flt .f64),.snap (.int .i64)] (fun x=>Zv8 x.1 x.2.1 x.2.2.1) (fun x=>Za2 x.1 x.2.1 x.2.2.1)
theorem Zyk:SqH Zi5 24:=
 nPs Zbn Z3 Zd ({loops:=Z10 [(7,{ls:=[(.slot 21,.data (.int .i64))],os:=[(2,22,.flt .f64)]})],joins:=fun _=>none,named:=true}) Tryz.func24 (fun y p=>Zfc  y.1 y.2.1 p) (fun z y p=>Zfd 25 29 22 z y.1 y.2.1 p) (fun y h _=>Zvs  y.1 y.2.1 h) fun z y h _=>Zvt 25 29 22 z y.1 y.2.1 h
def Zk5:Con:=Con.nam [.ptr Z28,.int .i64,kSea,.int .i64,.flt .f64] [.snap (.flt .f64)] (fun x=>Z1e2 x.1 x.2.1 x.2.2.1 x.2.2.2.1 x.2.2.2.2.1) (fun x=>Zl8 x.1 x.2.1 x.2.2.1 x.2.2.2.1 x.2.2.2.2.1)
theorem Z13g:SqH Zk5 70:=
 nPI Zbn Z3 Zd ({loops:=fun _=>none,joins:=fun _=>none,named:=true,inl:=inlL [155]}) (Z3n Zbn Z3 Z1e5 6) Tryz.func70 (fun x p=>Zmf  x.1 x.2.1 x.2.2.1 x.2.2.2.1 x.2.2.2.2.1 p) fun x h _=>Z169  x.1 x.2.1 x.2.2.1 x.2.2.2.1 x.2.2.2.2.1 h
def Z1op:Cx:=addC 70 Zk5 Z18t
theorem Z1f7:CxOk Tryz.prog Z1op:=Zm Zbn Z13g
def Zu0:Con:=Con.nam [.ptr Z28,Z7f,kSea] [.own 2 (.int .i64),.snap (.int .i64)] (fun x=>Z1c8 x.1 x.2.1 x.2.2.1) (fun x=>Zj4 x.1 x.2.1 x.2.2.1)
theorem Z1f8:SqH Zu0 25:=
 nPs Z1f7 Z3 Zd ({loops:=Z10 [(7,{ls:=[(.slot 48,.data (.int .i64))],os:=[(2,2,.int .i64)]})],joins:=fun _=>none,named:=true}) Tryz.func25 (fun y p=>Zq7  y.1 y.2.1 p) (fun z y p=>Zez 25 29 2 z y.1 y.2.1 p) (fun y h _=>Z1aq  y.1 y.2.1 h) fun z y h _=>Z1ar 25 29 2 z y.1 y.2.1 h
end Go.Lift

namespace Go.Lift
def Zqb:=fun(g:Option YG)(s f:List Int)(post:Bool × Unit→Prop)=>∃(h:True),∀ a,a=((↑s.length:Int) != (Z1u g).1)→Br a (post (false,()))
 (∃(h:True),∀ a,a=((↑f.length:Int) != (Z1b g).1)→Br a (post (false,())) (HS []∧∃(I:Int × Unit→Unit→Prop),∃(μ:Int × Unit→Unit→Nat),I (0,())
 ()∧∀(x:Int × Unit)(y:Unit),I x y→∀ a,a=decide (x.1<(↑s.length:Int))→Br a (∃(h:(0:Int)≤x.1∧x.1<(↑s.length:Int)),∀ a,a=decide (s.getD x.1.toNat
 (0:Int)<(0:Int))→Br a (post (false,())) (HS []∧I (i64.wrap (x.1+1),()) ()∧μ (i64.wrap (x.1+1),()) ()<μ x y)) (HS []∧∃(I:Int × Unit→
 Unit→Prop),∃(μ:Int × Unit→Unit→Nat),I (0,()) ()∧∀(x:Int × Unit)(y:Unit),I x y→∀ a,a=decide (x.1<(↑f.length:Int))→Br a (∃(h:(0:Int)≤x.1∧x.1
 < (↑f.length:Int)),∀ a,a=decide (f.getD x.1.toNat (0:Int)<(-4503599627370496:Int))→Br a (post (false,())) (∀ a,a=decide (f.getD x.1.toNat (0:Int) >
 (4503599627370496:Int))→Br a (post (false,())) (HS []∧I (i64.wrap (x.1+1),()) ()∧μ (i64.wrap (x.1+1),()) ()<μ x y))) (post (true,
 ())))))
theorem Z1aw(g:Option YG)(s:List Int)(f:List Int)(h:Z1k7 g s f)(w:KS.wf [.ptr Z28,.slice (.int .i64),.slice (.int .i64)] (g,s,f,())):Zqb  g s f (fun r=>r=Zhe g s f):=by
 have ls:s.length≤maxN:=w.2.1.1
 have lf:f.length≤maxN:=w.2.2.1.1
 have hm:maxN≤9223372036854775806:=by decide
 have key:Zhe g s f=(decide ((s.length:Int)=Zg g)&&decide ((f.length:Int)=Zp g)&&s.all (fun x=>decide (0≤x))&&f.all Z1z,()):=rfl
 refine⟨trivial,?_⟩
 rintro _ rfl
 refine Br.intro (fun e=>?_) fun e=>?_
 ·have e:(s.length:Int)≠Zg g:=bne_iff_ne.1 e
  rw[key,decide_eq_false e]; rfl
 have e:(s.length:Int)=Zg g:=by
  have e:((s.length:Int) != Zg g)=false:=e
  simpa using e
 rw[decide_eq_true e,Bool.true_and]at key
 refine⟨trivial,?_⟩
 rintro _ rfl
 refine Br.intro (fun e2=>?_) fun e2=>?_
 ·have e2:(f.length:Int)≠Zp g:=bne_iff_ne.1 e2
  rw[key,decide_eq_false e2]; rfl
 have e2:(f.length:Int)=Zp g:=by
  have e2:((f.length:Int) != Zp g)=false:=e2
  simpa using e2
 rw[decide_eq_true e2,Bool.true_and]at key
 refine⟨rfl,fun x _=>∃ k:Nat,x.1=k∧k≤s.length∧Zhe g s f=((s.drop k).all (fun x=>decide (0≤x))&&f.all Z1z,()),fun x _=>s.length - x.1.toNat,⟨0,rfl,by omega,key⟩,?_⟩
 rintro⟨_,⟨⟩⟩ _ ⟨k,rfl,hk,hi⟩
 dsimp only
 rintro _ rfl
 refine Br.intro (fun g1=>?_) fun g1=>?_
 ·have g1:k<s.length:=by have g1:(k:Int)<s.length:=of_decide_eq_true g1; omega
  rw[Z1i7 g1]at hi
  refine⟨⟨by omega,by omega⟩,?_⟩
  rw[Int.toNat_natCast,Z12 g1 (by omega)]
  rintro _ rfl
  refine Br.intro (fun z=>?_) fun z=>?_
  ·have z:=of_decide_eq_true z
   rw[hi,decide_eq_false (by omega)]; rfl
  ·have z:=of_decide_eq_false z
   rw[decide_eq_true (p:=0≤s.getD k 0) (by omega),Bool.true_and]at hi
   exact⟨rfl,⟨k+1,rfl,by omega,hi⟩,by omega⟩
 have g1:k=s.length:=by have g1:¬ (k:Int)<s.length:=of_decide_eq_false g1; omega
 subst g1
 rw[List.drop_length]at hi
 have hi:Zhe g s f=(f.all Z1z,()):=hi
 refine⟨rfl,fun x _=>∃ k:Nat,x.1=k∧k≤f.length∧Zhe g s f=((f.drop k).all Z1z,()),fun x _=>f.length - x.1.toNat,⟨0,rfl,by omega,hi⟩,?_⟩
 clear hi
 rintro⟨_,⟨⟩⟩ _ ⟨k,rfl,hk,hi⟩
 dsimp only
 rintro _ rfl
 refine Br.intro (fun g2=>?_) fun g2=>?_
 ·have g2:k<f.length:=by have g2:(k:Int)<f.length:=of_decide_eq_true g2; omega
  rw[Z1i7 g2]at hi
  refine⟨⟨by omega,by omega⟩,?_⟩
  rw[Int.toNat_natCast,Z12 g2 (by omega)]
  rintro _ rfl
  refine Br.intro (fun z=>?_) fun z=>?_
  ·have z:=of_decide_eq_true z
   rw[hi,show Z1z (f.getD k 0)=false by unfold Z1z; rw[decide_eq_false (p:=-4503599627370496≤f.getD k 0) (by omega)]; rfl]; rfl
  have z:=of_decide_eq_false z
  rintro _ rfl
  refine Br.intro (fun y=>?_) fun y=>?_
  ·have y:=of_decide_eq_true y
   rw[hi,show Z1z (f.getD k 0)=false by unfold Z1z; rw[decide_eq_false (p:=f.getD k 0≤4503599627370496) (by omega),Bool.and_false]]; rfl
  ·have y:=of_decide_eq_false y
   rw[show Z1z (f.getD k 0)=true from Z5s.2 ⟨by omega,by omega⟩,Bool.true_and]at hi
   exact⟨rfl,⟨k+1,rfl,by omega,hi⟩,by omega⟩
 have g2:k=f.length:=by have g2:¬ (k:Int)<f.length:=of_decide_eq_false g2; omega
 subst g2
 rw[List.drop_length]at hi
 rw[hi]; rfl
def Z1ax(ty2:Nat)(f:List Int):List HObj:=[HObj.row Md.rw ty2 (K.int i64) (List.replicate f.length (0:Int))]
def Z1ay(ty2:Nat)(y:List Int × Unit)(ty119:Nat)(ty111:Nat):List HObj:=[HObj.row Md.rw ty2 (K.int i64) y.1,HObj.row Md.rw ty119 (K.int i64) (List.replicate (4:Nat) (0:Int)),HObj.row Md.rw ty111 (K.int i64) (List.replicate (4:Nat) (0:Int)),HObj.row Md.rw ty111 (K.int i64) (List.replicate (4:Nat) (0:Int))]
def Z1az(ty2:Nat)(y:List Int × Unit)(ty119:Nat)(y_1:List Int × List Int × List Int × Unit)(x_3:Int × Unit)(f:List Int)(a:Int × Int × Unit)(ty111:Nat):List HObj:=[HObj.row Md.rw ty2 (K.int i64) y.1,HObj.row Md.rw ty119 (K.int i64) (y_1.1.set x_3.1.toNat (imax (0:Int) (i64.wrap (f.getD a.1.toNat (0:Int)*a.2.1)))),HObj.row Md.rw ty111 (K.int i64) (y_1.2.1.set x_3.1.toNat a.1),HObj.row Md.rw ty111 (K.int i64) (y_1.2.2.1.set x_3.1.toNat a.2.1)]
def Z1b0(ty2:Nat)(y:List Int × Unit)(ty119:Nat)(y_1:List Int × List Int × List Int × Unit)(ty111:Nat)(s:List Int)(x:Int × Unit):List HObj:=[HObj.row Md.rw ty2 (K.int i64) y.1,HObj.row Md.rw ty119 (K.int i64) y_1.1,HObj.row Md.rw ty111 (K.int i64) y_1.2.1,HObj.row Md.rw ty111 (K.int i64) y_1.2.2.1,HObj.row Md.rw ty2 (K.int i64) (cuR (s.getD x.1.toNat (0:Int)) (List.take ((↑(4:Nat):Int) - (0:Int)).toNat (List.drop (Int.toNat (0:Int)) y_1.1))).1]
def Z1b1(ty2:Nat)(y_2:List Int × Unit)(y_1:List Int × List Int × List Int × Unit)(x_7:Int × Unit)(s:List Int)(x:Int × Unit)(ty119:Nat)(ty111:Nat):List HObj:=[HObj.row Md.rw ty2 (K.int i64) (y_2.1.set ((0:Nat)+Int.toNat (y_1.2.1.getD x_7.1.toNat (0:Int))) (i64.wrap ((cuR (s.getD x.1.toNat (0:Int)) (List.take ((↑(4:Nat):Int) - (0:Int)).toNat (List.drop (Int.toNat (0:Int)) y_1.1))).1.getD ((0:Nat)+x_7.1.toNat) (0:Int)*y_1.2.2.1.getD x_7.1.toNat (0:Int)))),HObj.row Md.rw ty119 (K.int i64) y_1.1,HObj.row Md.rw ty111 (K.int i64) y_1.2.1,HObj.row Md.rw ty111 (K.int i64) y_1.2.2.1,HObj.row Md.rw ty2 (K.int i64) (cuR (s.getD x.1.toNat (0:Int)) (List.take ((↑(4:Nat):Int) - (0:Int)).toNat (List.drop (Int.toNat (0:Int)) y_1.1))).1]
def Z1b2(ty2:Nat)(y_2:List Int × Unit)(ty119:Nat)(y_1:List Int × List Int × List Int × Unit)(ty111:Nat)(s:List Int)(x:Int × Unit):List HObj:=[HObj.row Md.rw ty2 (K.int i64) y_2.1,HObj.row Md.rw ty119 (K.int i64) y_1.1,HObj.row Md.rw ty111 (K.int i64) y_1.2.1,HObj.row Md.rw ty111 (K.int i64) y_1.2.2.1,HObj.row Md.rw ty2 (K.int i64) (cuR (s.getD x.1.toNat (0:Int)) (List.take ((↑(4:Nat):Int) - (0:Int)).toNat (List.drop (Int.toNat (0:Int)) y_1.1))).1]
def Z1b3(ty2:Nat)(y_2:List Int × Unit):List HObj:=[HObj.row Md.rw ty2 (K.int i64) y_2.1]
def Zu1:=fun(ty2 ty119 ty111:Nat)(g:Option YG)(s f:List Int)(post:List Int × Int × Unit→Prop)=>Br g.isNone (post ([],2,())) (∃(h:Z1k7 g s f),∀ a,a
 = (Zhe g s f).1→Br (!a) (post ([],1,())) (∃(h:(0:Int)≤(↑f.length:Int)∧(↑f.length:Int)≤(↑f.length:Int)∧(↑f.length:Int)*(↑(8:Nat):Int)≤
 (281474976710656:Int)),HS (Z1ax ty2 f)∧∃(I:Int × Unit→List Int × Unit→Prop),∃(μ:Int × Unit→List Int × Unit→Nat),I (0,()) (List.replicate f.length (0
 : Int),())∧∀(x:Int × Unit)(y:List Int × Unit),I x y→∀ a,a=decide (x.1<(↑s.length:Int))→Br a (∃(h:(0:Int)≤x.1∧x.1<(↑s.length:Int)),HS
 (Z1ay ty2 y ty119 ty111)∧∃(I_1:Int × Unit→List Int × List Int × List Int × Unit→Prop),∃(μ_1:Int × Unit→List Int × List Int × List Int × Unit→Nat),I_1
 (0,()) (List.replicate (4:Nat) (0:Int),List.replicate (4:Nat) (0:Int),List.replicate (4:Nat) (0:Int),())∧∀(x_3:Int × Unit)(y_1:List Int × List Int × List
 Int × Unit),I_1 x_3 y_1→∀ a,a=decide (x_3.1<(4:Int))→Br a (∃(h:WNet g x.1 x_3.1),∀ a,a=Z40 g x.1 x_3.1→∃(h:(0:Int)≤x_3.1∧x_3.1<(↑(4:Nat):
 Int)∧(4:Nat)≤y_1.2.1.length),∃(h:(0:Int)≤x_3.1∧x_3.1<(↑(4:Nat):Int)∧(4:Nat)≤y_1.2.2.1.length),∃(h:(0:Int)≤a.1∧a.1<(↑f.length:Int)),∃(h
 : (0:Int)≤x_3.1∧x_3.1<(↑(4:Nat):Int)∧(4:Nat)≤y_1.1.length),HS (Z1az ty2 y ty119 y_1 x_3 f a ty111)∧I_1 (i64.wrap (x_3.1+1),()) (y_1.1.set
 x_3.1.toNat (imax (0:Int) (i64.wrap (f.getD a.1.toNat (0:Int)*a.2.1))),y_1.2.1.set x_3.1.toNat a.1,y_1.2.2.1.set x_3.1.toNat a.2.1,())∧μ_1 (i64.wrap
 (x_3.1+1),()) (y_1.1.set x_3.1.toNat (imax (0:Int) (i64.wrap (f.getD a.1.toNat (0:Int)*a.2.1))),y_1.2.1.set x_3.1.toNat a.1,y_1.2.2.1.set x_3.1.toNat a.2.1,())
 < μ_1 x_3 y_1) (∃(h:(0:Int)≤(0:Int)∧(0:Int)≤(↑(4:Nat):Int)∧(↑(4:Nat):Int)≤(↑(4:Nat):Int)∧(4:Nat)=y_1.1.length),∃(h:WCu (s.getD x.1.toNat
 (0:Int)) (List.take ((↑(4:Nat):Int) - (0:Int)).toNat (List.drop (Int.toNat (0:Int)) y_1.1))),∀ a,a=((cuR (s.getD x.1.toNat (0:Int)) (List.take ((↑(4:Nat):Int)
 - (0:Int)).toNat (List.drop (Int.toNat (0:Int)) y_1.1))).2.1 != (0:Int))→Br a (post ([],(cuR (s.getD x.1.toNat (0:Int)) (List.take ((↑(4:Nat):Int) - (0:
 Int)).toNat (List.drop (Int.toNat (0:Int)) y_1.1))).2.1,())) (HS (Z1b0 ty2 y ty119 y_1 ty111 s x)∧∃(I_2:Int × Unit→List Int × Unit→Prop),∃(μ_2:Int × Unit
 → List Int × Unit→Nat),I_2 (0,()) (y.1,())∧∀(x_7:Int × Unit)(y_2:List Int × Unit),I_2 x_7 y_2→∀ a,a=decide (x_7.1<(4:Int))→Br a (∃(h:(0:Int)≤x_7.1
 ∧ x_7.1<(↑(4:Nat):Int)∧(4:Nat)≤y_1.1.length),∀ a,a=decide (y_1.1.getD x_7.1.toNat (0:Int) > (0:Int))→Br a (∃(h:(0:Int)≤x_7.1∧x_7.1<(↑(4:Nat):
 Int)∧(4:Nat)≤y_1.2.1.length),∃(h:(0:Int)≤x_7.1∧x_7.1<(↑(cuR (s.getD x.1.toNat (0:Int)) (List.take ((↑(4:Nat):Int) - (0:Int)).toNat (List.drop (Int.toNat
 (0:Int)) y_1.1))).1.length:Int)),∃(h:(0:Int)≤x_7.1∧x_7.1<(↑(4:Nat):Int)∧(4:Nat)≤y_1.2.2.1.length),∃(h:(0:Int)≤y_1.2.1.getD x_7.1.toNat (0:Int)
 ∧ y_1.2.1.getD x_7.1.toNat (0:Int)<(↑f.length:Int)),HS (Z1b1 ty2 y_2 y_1 x_7 s x ty119 ty111)∧I_2 (i64.wrap (x_7.1+1),()) (y_2.1.set ((0:Nat)+
 Int.toNat (y_1.2.1.getD x_7.1.toNat (0:Int))) (i64.wrap ((cuR (s.getD x.1.toNat (0:Int)) (List.take ((↑(4:Nat):Int) - (0:Int)).toNat (List.drop (Int.toNat (0:
 Int)) y_1.1))).1.getD ((0:Nat)+x_7.1.toNat) (0:Int)*y_1.2.2.1.getD x_7.1.toNat (0:Int))),())∧μ_2 (i64.wrap (x_7.1+1),()) (y_2.1.set ((0:Nat)+Int.toNat
 (y_1.2.1.getD x_7.1.toNat (0:Int))) (i64.wrap ((cuR (s.getD x.1.toNat (0:Int)) (List.take ((↑(4:Nat):Int) - (0:Int)).toNat (List.drop (Int.toNat (0:Int))
 y_1.1))).1.getD ((0:Nat)+x_7.1.toNat) (0:Int)*y_1.2.2.1.getD x_7.1.toNat (0:Int))),())<μ_2 x_7 y_2) (HS (Z1b2 ty2 y_2 ty119 y_1 ty111 s x)∧I_2
 (i64.wrap (x_7.1+1),()) (y_2.1,())∧μ_2 (i64.wrap (x_7.1+1),()) (y_2.1,())<μ_2 x_7 y_2)) (HS (Z1b3 ty2 y_2)∧I (i64.wrap (x.1+1),
 ()) (y_2.1,())∧μ (i64.wrap (x.1+1),()) (y_2.1,())<μ x y)))) (((0:Nat)=(0:Nat)∧f.length=y.1.length)∧post (y.1,0,()))))
theorem Z1f9(ty0 ty1 ty2:Nat)(g:Option YG)(s:List Int)(f:List Int)(h:WAll g s f)(w:KS.wf [.ptr Z28,.slice (.int .i64),.slice (.int .i64)] (g,s,f,())):Zu1 ty0 ty1 ty2 g s f (fun r=>r=Znv g s f):=by
 obtain⟨hg,hs,hf0⟩:=h
 cases g with
 | none=>exact Br.intro (fun _=>rfl) fun e=>by cases e
 | some g=>
 obtain⟨n,gn,rfl⟩:=Z48 hg
 refine Br.intro (fun e=>by cases e) fun _=>?_
 refine⟨⟨hs,hf0⟩,?_⟩
 rintro _ rfl
 have A:=Z75 n
 have hAr:∀ c o,Z40 (some (netG n)) c o=((Za (some (netG n)) c o).1,(Za (some (netG n)) c o).2,()):=fun _ _=>rfl
 have hres:∀ b,Z9b (Zg (some (netG n))) (Zp (some (netG n))) s f=b→Znv (some (netG n)) s f=if b then(allP (Za (some (netG n))) f (cutG (Za (some (netG n))) s f) s.length,0,())else([],1,()):=by
  rintro _ rfl
  unfold Znv Ze6
  rw[show(some (netG n)).isNone=false from rfl,if_neg (by decide)]
  split <;> rfl
 refine Br.intro (fun e=>?_) fun e=>?_
 ·have e:Z9b (Zg (some (netG n))) (Zp (some (netG n))) s f=false:=by
   have e:(!Z9b (Zg (some (netG n))) (Zp (some (netG n))) s f)=true:=e
   simpa using e
  rw[hres _ e]; rfl
 have e:Z9b (Zg (some (netG n))) (Zp (some (netG n))) s f=true:=by
  have e:(!Z9b (Zg (some (netG n))) (Zp (some (netG n))) s f)=false:=e
  simpa using e
 rw[hres _ e,if_pos rfl]
 obtain⟨h1,h2,h3,h4⟩:=Z1ds e
 clear hres e
 have cr:=Z37 n
 have hE:=(Z9x n (Z2 n).toNat (by omega)).2
 have hE:(netE n).1.length≤4*(Z2 n).toNat:=hE
 generalize Za (some (netG n))=ar at *
 obtain⟨gv,hgv⟩:∃ gv,cutG ar s f=gv:=⟨_,rfl⟩
 rw[hgv]
 refine⟨⟨by omega,by omega,by omega⟩,rfl,fun x y=>∃ k:Nat,x.1=k∧k≤s.length∧y.1=allP ar f gv k,fun x _=>s.length - x.1.toNat,⟨0,rfl,by omega,rfl⟩,?_⟩
 rintro⟨_,⟨⟩⟩ ⟨_,⟨⟩⟩ ⟨k,rfl,hk,rfl⟩
 dsimp only
 rintro _ rfl
 refine Br.intro (fun d=>?_) fun d=>?_
 rotate_left
 ·have d:k=s.length:=by have d:¬ (k:Int)<s.length:=of_decide_eq_false d; omega
  have hlen:(allP ar f gv k).length=f.length:=(Ze9 A h4 h2 k (by omega)).1.trans h2.symm
  exact⟨⟨rfl,hlen.symm⟩,by rw[d]⟩
 have d:k<s.length:=by have d:(k:Int)<s.length:=of_decide_eq_true d; omega
 have hp:Ze n (k:Int)=true:=Z3t (by omega)
 refine⟨⟨by omega,by omega⟩,rfl,fun x y=>∃ j:Nat,x.1=j∧j≤4∧y.1=Ziu j (outN ar f k)∧y.2.1=Ziu j (fun o=>(ar k o).1)∧y.2.2.1=Ziu j (fun o=>(ar k o).2),fun x _=>4 - x.1.toNat,⟨0,rfl,by omega,rfl,rfl,rfl⟩,?_⟩
 rintro⟨_,⟨⟩⟩ ⟨_,_,_,⟨⟩⟩ ⟨j,rfl,hj,rfl,rfl,rfl⟩
 dsimp only
 rintro _ rfl
 refine Br.intro (fun e1=>?_) fun e1=>?_
 ·have e1:j<4:=by have e1:(j:Int)<4:=of_decide_eq_true e1; omega
  refine⟨⟨hg,⟨by omega,by omega⟩,by omega,by omega⟩,?_⟩
  rintro _ rfl
  obtain⟨s1,s2,s3,s4,s5⟩:=Zfx A h4 h2 (c:=k) (o:=j) (Zc.2 ⟨hp,by omega,by omega⟩)
  rw[hAr]
  dsimp only
  rw[Z12 e1 (by omega),Zq (by omega) (by omega),Int.toNat_natCast]
  exact⟨⟨by omega,by show(j:Int)<4; omega,Nat.le_refl 4⟩,⟨by omega,by show(j:Int)<4; omega,Nat.le_refl 4⟩,⟨s1,s2⟩,⟨by omega,by show(j:Int)<4; omega,Nat.le_refl 4⟩,rfl,⟨j+1,rfl,by omega,Ziv e1 (outN ar f k),Ziv e1 (fun o=>(ar k o).1),Ziv e1 (fun o=>(ar k o).2)⟩,by omega⟩
 have e1:j=4:=by have e1:¬ (j:Int)<4:=of_decide_eq_false e1; omega
 subst e1
 have f4:∀ g,Ziu 4 g=four g:=fun g=>rfl
 rw[f4,f4,f4]
 have hw0:0≤s.getD k 0:=h3 _ (Zw d 0)
 obtain⟨c1,c2,c3⟩:=Z181 A h4 (w:=s.getD k 0) hw0 hp
 have hc:cuR (s.getD k 0) (four (outN ar f k))=(Z1v (s.getD k 0) (Z1e ar f k),0,()):=by
  show((cutF (s.getD k 0) (Z1e ar f k)).1,(cutF (s.getD k 0) (Z1e ar f k)).2,())=_
  rw[c1]
 have hgk:gv k=Z1v (s.getD k 0) (Z1e ar f k):=by rw[← hgv]; exact congrArg Prod.fst c1
 obtain⟨o1,o2,o3⟩:=Zv2 (Z9y A h4 hp)
 rw[Z180,Int.toNat_natCast,hc]
 refine⟨⟨by decide,by decide,by decide,rfl⟩,⟨hs _ (Zw d 0),o2,o3⟩,?_⟩
 rintro _ rfl
 refine Br.intro (fun q=>by simp at q) fun _=>?_
 refine⟨rfl,fun x y=>∃ j:Nat,x.1=j∧j≤4∧y.1=Zd7 ar f (gv k) k (allP ar f gv k) j,fun x _=>4 - x.1.toNat,⟨0,rfl,by omega,rfl⟩,?_⟩
 rintro⟨_,⟨⟩⟩ ⟨_,⟨⟩⟩ ⟨i,rfl,hi,rfl⟩
 dsimp only
 rintro _ rfl
 refine Br.intro (fun e2=>?_) fun e2=>?_
 rotate_left
 ·have e2:i=4:=by have e2:¬ (i:Int)<4:=of_decide_eq_false e2; omega
  subst e2
  rw[Z12 d (by omega)]
  exact⟨rfl,⟨k+1,rfl,by omega,rfl⟩,by omega⟩
 have e2:i<4:=by have e2:(i:Int)<4:=of_decide_eq_true e2; omega
 obtain⟨s1,s2,s3,s4,s5⟩:=Zfx A h4 h2 (c:=k) (o:=i) (Zc.2 ⟨hp,by omega,by omega⟩)
 obtain⟨g1,g2⟩:=c3 i e2
 have g3:=(Z9y A h4 hp i e2).2
 rw[Int.toNat_natCast,Z9h e2,Z9h e2,Z9h e2,Nat.zero_add,Z12 e2 (by omega)]
 have hst:Zd7 ar f (gv k) k (allP ar f gv k) (i+1)=putP ar f (gv k) k i (Zd7 ar f (gv k) k (allP ar f gv k) i):=rfl
 refine⟨⟨by omega,by show(i:Int)<4; omega,Nat.le_refl 4⟩,?_⟩
 rintro _ rfl
 refine Br.intro (fun z=>?_) fun z=>?_
 ·have z:0<outN ar f k i:=of_decide_eq_true z
  have hm2:i64.wrap ((Z1v (s.getD k 0) (Z1e ar f k)).getD i 0*(ar k i).2)=(Z1v (s.getD k 0) (Z1e ar f k)).getD i 0*(ar k i).2:=by
   rcases s3 with q | q <;> rw[q] <;> exact Zq (by omega) (by omega)
  rw[Nat.zero_add,hm2]
  refine⟨⟨by omega,by show(i:Int)<4; omega,Nat.le_refl 4⟩,⟨by omega,by rw[c2]; omega⟩,⟨by omega,by show(i:Int)<4; omega,Nat.le_refl 4⟩,⟨s1,s2⟩,rfl,⟨i+1,rfl,by omega,?_⟩,by omega⟩
  rw[hst]; unfold putP; rw[if_pos z,hgk,Int.toNat_natCast]
 ·have z:¬ 0<outN ar f k i:=of_decide_eq_false z
  exact⟨rfl,⟨i+1,rfl,by omega,by rw[hst]; unfold putP; rw[if_neg z]⟩,by omega⟩
end Go.Lift

namespace Go.Lift
end Go.Lift

namespace Go.Lift
end Go.Lift

namespace Go.Lift
open Go.Proofs
end Go.Lift

namespace Go.Lift
end Go.Lift

namespace Go.Lift
open Go.Proofs
end Go.Lift

namespace Go.Lift
open Go.Proofs
end Go.Lift

namespace Go.Lift
def Z1b4(ty2:Nat)(c:List Int):List HObj:=[HObj.row Md.rw ty2 (K.int i64) (List.replicate c.length (0:Int))]
def Zqc(ty2:Nat)(y:List Int × Unit):List HObj:=[HObj.row Md.rw ty2 (K.int i64) y.1]
def Z1b5(ty2:Nat)(y:List Int × Unit)(x_2:Int × Unit)(x:Int × Unit):List HObj:=[HObj.row Md.rw ty2 (K.int i64) (y.1.set ((0:Nat)+x_2.1.toNat) x.1)]
def Zbo:=fun(ty2:Nat)(a:Int)(c:List Int)(post:List Int × Int × Unit→Prop)=>Br (decide (a<(0:Int))) (post ([],1,())) (HS []∧∃(I:Int × Int × Unit
 → Unit→Prop),∃(μ:Int × Int × Unit→Unit→Nat),I (0,0,()) ()∧∀(x:Int × Int × Unit)(y:Unit),I x y→Br (decide (x.2.1<(↑c.length:Int))) (∃(h:(0:Int)≤
 x.2.1∧x.2.1<(↑c.length:Int)),Br (decide (c.getD x.2.1.toNat (0:Int)<(0:Int))) (post ([],1,())) (Br (decide (c.getD x.2.1.toNat (0:Int) > i64.wrap
 ((9223372036854775807:Int) - x.1))) (post ([],1,())) (∀ m,m=i64.wrap (x.1+c.getD x.2.1.toNat (0:Int))→HS []∧I (m,i64.wrap (x.2.1+1),()) ()∧μ
 (m,i64.wrap (x.2.1+1),()) ()<μ x y))) (∃(h:(0:Int)≤(↑c.length:Int)∧(↑c.length:Int)≤(↑c.length:Int)∧(↑c.length:Int)*(↑(8:Nat):Int)≤
 (281474976710656:Int)),HS (Z1b4 ty2 c)∧∃(I:Int × Unit→List Int × Unit→Prop),∃(μ:Int × Unit→List Int × Unit→Nat),I (0,()) (List.replicate c.length (0
 : Int),())∧∀(x_2:Int × Unit)(y:List Int × Unit),I x_2 y→Br (decide (x_2.1<(↑c.length:Int))) (∃(h:(0:Int)≤x_2.1∧x_2.1<(↑c.length:Int)),∃(post:Int ×
 Unit→Unit→Prop),Br (decide (x.1 > a)) (∃(h:III (c.getD x_2.1.toNat (0:Int)) a x.1),HS (Zqc ty2 y)∧post ((prtR (c.getD x_2.1.toNat (0:Int)) a x.1).1,())
 ()) (HS (Zqc ty2 y)∧post (c.getD x_2.1.toNat (0:Int),()) ())∧∀(x:Int × Unit)(y_1:Unit),post x y_1→∃(h:(0:Int)≤x_2.1∧x_2.1<(↑c.length:Int)),
 HS (Z1b5 ty2 y x_2 x)∧I (i64.wrap (x_2.1+1),()) (y.1.set ((0:Nat)+x_2.1.toNat) x.1,())∧μ (i64.wrap (x_2.1+1),()) (y.1.set ((0:Nat)+
 x_2.1.toNat) x.1,())<μ x_2 y) (((0:Nat)=(0:Nat)∧c.length=y.1.length)∧post (y.1,0,()))))
theorem Z1fa(ty0:Nat)(a:Int)(c:List Int)(h:WCu a c):Zbo ty0 a c (fun r=>r=cuR a c):=by
 obtain⟨ha,hc,hl⟩:=h
 have hl:c.length≤65536:=hl
 have hc:∀ x ∈ c,I64 x:=hc
 suffices H:∀ post:List Int × Int × Unit→Prop,post ((cutF a c).1,(cutF a c).2,())→Zbo ty0 a c post from H _ rfl
 intro post h
 unfold Zbo
 refine Br.intro (fun e=>?_) fun e=>?_
 all_goals simp only[decide_eq_true_eq,decide_eq_false_iff_not,Int.not_lt]at e
 ·rw[Z1q7 e]at h; exact h
 ·refine⟨rfl,fun x y=>∃ i:Nat,x.2.1=i∧i≤c.length∧okTo 9223372036854775807 c i∧x.1=psum c i,fun x _=>c.length - x.2.1.toNat,⟨0,rfl,by omega,Z17p _ c,(Z3f c).symm⟩,?_⟩
  rintro⟨sum,_,⟨⟩⟩ ⟨⟩ ⟨i,hi,hil,hok,hg⟩
  dsimp only at hi hg ⊢
  subst hi hg
  have p0:=Z95 hok hil
  have p1:=Zl6 (by omega) hok
  refine Br.intro (fun d=>?_) fun d=>?_
  all_goals simp only[decide_eq_true_eq,decide_eq_false_iff_not,Int.not_lt]at d
  ·have hlt:i<c.length:=by omega
   have hs:=Z36 c i hlt
   have hx:I64 (c.getD i 0):=hc _ (Zh2 hlt)
   obtain⟨x1,x2⟩:=hx
   refine⟨⟨by omega,d⟩,?_⟩
   simp only[Int.toNat_natCast]
   rw[wi (x:=9223372036854775807 - psum c i) ⟨by omega,by omega⟩]
   refine Br.intro (fun g=>?_) fun g=>Br.intro (fun g'=>?_) fun g'=>?_
   all_goals simp only[decide_eq_true_eq,decide_eq_false_iff_not,Int.not_lt,gt_iff_lt]at g
   ·rw[Z1dq hlt (by omega)]at h; exact h
   ·simp only[decide_eq_true_eq,gt_iff_lt]at g'
    rw[Z1dq hlt (by omega)]at h; exact h
   ·simp only[decide_eq_false_iff_not,Int.not_lt,gt_iff_lt]at g'
    rintro m hm
    rw[← hs,wi (x:=psum c (i+1)) ⟨by omega,by omega⟩]at hm
    subst hm
    refine⟨rfl,⟨i+1,?_,by omega,Z17q hok g (by omega),rfl⟩,?_⟩
    ·rw[wi ⟨by omega,by omega⟩]; omega
    ·rw[wi ⟨by omega,by omega⟩]; omega
  ·have:i=c.length:=by omega
   subst this
   rw[Z1i5 e hok]at h
   refine⟨⟨by omega,by omega,by omega⟩,rfl,fun x y=>∃ i:Nat,x.1=i∧i≤c.length∧y.1=Z6c 0 (Z1v a c) i,fun x _=>c.length - x.1.toNat,⟨0,rfl,by omega,?_⟩,?_⟩
   ·rw[Zwf,Z8j]
   ·rintro⟨_,⟨⟩⟩ ⟨y,⟨⟩⟩ ⟨i,hi,hil,hy⟩
    dsimp only at hi hy ⊢
    subst hi hy
    refine Br.intro (fun d=>?_) fun d=>?_
    all_goals simp only[decide_eq_true_eq,decide_eq_false_iff_not,Int.not_lt]at d
    ·have hlt:i<c.length:=by omega
     simp only[Int.toNat_natCast]
     refine⟨⟨by omega,d⟩,fun x _=>(Z1v a c)[i]?=some x.1,Br.intro (fun g=>?_) fun g=>?_,?_⟩
     all_goals try simp only[decide_eq_true_eq,decide_eq_false_iff_not,Int.not_lt]at g
     ·refine⟨⟨hc _ (Zh2 hlt),ha,by omega,by omega⟩,rfl,?_⟩
      rw[Zfw a c i hlt,if_pos g]
      try rfl
     ·refine⟨rfl,?_⟩
      rw[Zfw a c i hlt,if_neg (by omega)]
     ·rintro⟨x,⟨⟩⟩ _ hx
      refine⟨⟨by omega,d⟩,rfl,⟨i+1,?_,by omega,?_⟩,?_⟩
      ·rw[wi ⟨by omega,by omega⟩]; omega
      ·rw[Nat.zero_add]
       exact Z10a 0 _ i (by rw[Z8j]; exact hlt) hx
      ·rw[wi ⟨by omega,by omega⟩]; omega
    ·have:i=c.length:=by omega
     subst this
     have e2:=Z109 0 (Z1v a c)
     rw[Z8j]at e2
     rw[e2,Z8j]
     exact⟨⟨by trivial,by trivial⟩,h⟩
def Zyl(ty2:Nat)(c:List Int):List HObj:=[HObj.row Md.rw ty2 (K.int i64) (List.replicate c.length (0:Int))]
def Zym(ty2:Nat)(y:List Int × Unit)(x:Int × Int × Int × Unit)(m_1:Int):List HObj:=[HObj.row Md.rw ty2 (K.int i64) (y.1.set ((0:Nat)+x.2.2.1.toNat) (i64.wrap (m_1 - x.2.1)))]
def Z7n:=fun(ty2:Nat)(a b:Int)(c:List Int)(post:List Int × Int × Unit→Prop)=>Br (decide (a<(0:Int))) (post ([],1,())) (Br (decide (b<(0:
 Int))) (post ([],1,())) (∃(h:(0:Int)≤(↑c.length:Int)∧(↑c.length:Int)≤(↑c.length:Int)∧(↑c.length:Int)*(↑(8:Nat):Int)≤(281474976710656:Int)),HS
 (Zyl ty2 c)∧∃(I:Int × Int × Int × Unit→List Int × Unit→Prop),∃(μ:Int × Int × Int × Unit→List Int × Unit→Nat),I (0,0,0,()) (List.replicate
 c.length (0:Int),())∧∀(x:Int × Int × Int × Unit)(y:List Int × Unit),I x y→Br (decide (x.2.2.1<(↑c.length:Int))) (∃(h:(0:Int)≤x.2.2.1∧x.2.2.1 <
 (↑c.length:Int)),Br (decide (c.getD x.2.2.1.toNat (0:Int)<(0:Int))) (post ([],1,())) (Br (decide (c.getD x.2.2.1.toNat (0:Int) > i64.wrap (a - x.1))) (post
 ([],1,())) (∀ m,m=i64.wrap (x.1+c.getD x.2.2.1.toNat (0:Int))→∃(h:III b m a),∀ m_1,m_1=(prtR b m a).1→∃(h:(0:Int)≤x.2.2.1∧x.2.2.1<(↑c.length
 : Int)),HS (Zym ty2 y x m_1)∧I (m,m_1,i64.wrap (x.2.2.1+1),()) (y.1.set ((0:Nat)+x.2.2.1.toNat) (i64.wrap (m_1 - x.2.1)),())∧μ (m,m_1,
 i64.wrap (x.2.2.1+1),()) (y.1.set ((0:Nat)+x.2.2.1.toNat) (i64.wrap (m_1 - x.2.1)),())<μ x y))) (((0:Nat)=(0:Nat)∧c.length=y.1.length)∧post
 (y.1,0,()))))
theorem Z13h(ty0:Nat)(a:Int)(b:Int)(c:List Int)(h:WTk a b c):Z7n ty0 a b c (fun r=>r=tkR a b c):=by
 obtain⟨ha,hb,hc,hl⟩:=h
 have hl:c.length≤65536:=hl
 have hc:∀ x ∈ c,I64 x:=hc
 suffices H:∀ post:List Int × Int × Unit→Prop,post ((Z2o a b c).1,(Z2o a b c).2,())→Z7n ty0 a b c post from H _ rfl
 intro post h
 unfold Z7n
 refine Br.intro (fun e=>?_) fun e=>Br.intro (fun f=>?_) fun f=>?_
 all_goals simp only[decide_eq_true_eq,decide_eq_false_iff_not,Int.not_lt]at *
 ·rw[Zwk e]at h; exact h
 ·rw[Zwl f]at h; exact h
 ·refine⟨⟨by omega,by omega,by omega⟩,rfl,fun x y=>∃ i:Nat,x.2.2.1=i∧i≤c.length∧okTo a c i∧x.1=psum c i∧x.2.1=part b (psum c i) a∧y.1=Z6c 0 (Z26 a b c) i,
   fun x _=>c.length - x.2.2.1.toNat,?_,?_⟩
  ·refine⟨0,rfl,by omega,Z17p a c,(Z3f c).symm,?_,?_⟩
   ·dsimp only; rw[Z3f,Z17o]
   ·rw[Zwf,Z55]
  ·rintro⟨gone,ahead,_,⟨⟩⟩ ⟨y,⟨⟩⟩ ⟨i,hi,hil,hok,hg,ha',hy⟩
   dsimp only at hi hg ha' hy ⊢
   subst hi hg ha' hy
   have p0:=Z95 hok hil
   have p1:=Zl6 e hok
   obtain⟨a1,a2⟩:=ha
   refine Br.intro (fun d=>?_) fun d=>?_
   all_goals simp only[decide_eq_true_eq,decide_eq_false_iff_not,Int.not_lt]at d
   ·have hlt:i<c.length:=by omega
    have hs:=Z36 c i hlt
    have hx:I64 (c.getD i 0):=hc _ (Zh2 hlt)
    refine⟨⟨by omega,d⟩,?_⟩
    simp only[Int.toNat_natCast]
    rw[wi (x:=a - psum c i) ⟨by omega,by omega⟩]
    refine Br.intro (fun g=>?_) fun g=>Br.intro (fun g'=>?_) fun g'=>?_
    all_goals simp only[decide_eq_true_eq,decide_eq_false_iff_not,Int.not_lt,gt_iff_lt]at g
    ·rw[Z10y hlt (by omega)]at h; exact h
    ·simp only[decide_eq_true_eq,gt_iff_lt]at g'
     rw[Z10y hlt (by omega)]at h; exact h
    ·simp only[decide_eq_false_iff_not,Int.not_lt,gt_iff_lt]at g'
     rintro m hm
     rw[← hs,wi (x:=psum c (i+1)) ⟨by omega,by omega⟩]at hm
     subst hm
     refine⟨⟨hb,⟨by omega,by omega⟩,a1,a2⟩,?_⟩
     rintro t rfl
     have r1:=Zav b (psum c (i+1)) a
     have r2:=Zav b (psum c i) a
     refine⟨⟨by omega,by omega⟩,rfl,⟨i+1,?_,by omega,Z17q hok g (by omega),rfl,rfl,?_⟩,?_⟩
     ·rw[wi ⟨by omega,by omega⟩]; omega
     ·try dsimp only
      show(Z6c 0 (Z26 a b c) i).set (0+i) (i64.wrap (part b (psum c (i+1)) a - part b (psum c i) a))=_
      rw[wi (x:=part b (psum c (i+1)) a - part b (psum c i) a) ⟨by omega,by omega⟩,Nat.zero_add]
      exact Z10a 0 _ i (by rw[Z55]; exact hlt) (Zhd a b c i hlt)
     ·try dsimp only
      rw[wi ⟨by omega,by omega⟩]; omega
   ·have:i=c.length:=by omega
    subst this
    have hlen:(Z6c 0 (Z26 a b c) c.length).length=c.length:=by rw[Z1jq _ _ _ (by rw[Z55]; omega),Z55]
    refine⟨⟨by trivial,by rw[hlen]⟩,?_⟩
    rw[Zsg e f hok]at h
    have e2:=Z109 0 (Z26 a b c)
    rw[Z55]at e2
    rw[e2]; exact h
end Go.Lift

namespace Go.Lift
def Zmu:=F18
theorem Z16h(a:Int)(b:Int)(h:WU2 a b):Zmu  a b (fun r=>r=Z1r8 a b):=by
 exact Z1jy h.1.1 h.1.2 h.2.1 h.2.2 rfl
def Zmv:=F19
theorem Z16i(a:Int)(b:Int)(c:Int)(h:WDiv a b c):Zmv  a b c (fun r=>r=Z1r9 a b c):=by
 obtain⟨ha,hb,hc,hac⟩:=h
 have hc0:(0:Int)<c:=Int.lt_of_le_of_lt ha.1 hac
 obtain⟨s0,s1,s2,s3⟩:=Z1s1 hc0 hc.2
 exact Z1k1 (a:=a) (b:=b) (c:=c) rfl hc s0 s1 s2 s3 ha.1 hac hb.1 hb.2 rfl
def Zqd:=F12
theorem Z1b6(a:Int)(b:Int)(c:Int)(h:III a b c):Zqd  a b c (fun r=>r=prtR a b c):=by
 exact Z1n5 h.1 h.2.1 h.2.2 rfl
end Go.Lift

namespace Go.Lift
open Go.Proofs
def Z1fb:Cx:=⟨Z1t Z23,Z21 [(245,Z7l)],SqG⟩
theorem Zxf:CxOk Tryz.prog Z1fb:=⟨Zn Zy,Zu ⟨Zb8,trivial⟩⟩
def Zk6:Con:=.det [.int .u64,.int .u64] [.snap (.int .u64),.snap (.int .u64)] (fun x=>WU2 x.1 x.2.1) (fun x=>Z1r8 x.1 x.2.1)
theorem Z13i:SqH Zk6 168:=
 dP Zxf Z3 Zd nHn Tryz.func168 (fun x p=>Zmu  x.1 x.2.1 p) fun x h _=>Z16h  x.1 x.2.1 h
def Z1fc:Cx:=addC 168 Zk6 Z1fb
theorem Z1h3:CxOk Tryz.prog Z1fc:=Zm Zxf Z13i
def Z84:Con:=.det [.int .u64] [.snap (.int .i64)] (fun x=>U64 x.1) (fun x=>lzR x.1)
def Z1is:Cx:=⟨Z1t Z23,fun _=>none,SqG⟩
theorem Z1l1:CxOk Tryz.prog Z1is:=⟨Zn Zy,fun f c h=>by cases h⟩
def Z18u:Con:=.det [.int .u64] [.snap (.int .i64)] (fun x=>U64 x.1) (fun x=>(Z38 x.1,()))
theorem Z1l2:FnAt Tryz.prog 245 Tryz.f245.ntmps Tryz.f245.results.toList (Tryz.f245.body.getD .skip):=⟨Tryz.f245,Tryz.func245,rfl,rfl,by simp,by decide⟩
theorem Z1l3(a:Int)(post:Int × Unit→Prop):Z3w Z1is Z1bz Tryz.f245.ntmps Tryz.f245.results.toList (Tryz.f245.body.getD .skip) [.int .u64] [.snap (.int .i64)] (a,()) post=F22 a post:=by kernel_rfl
theorem Z1oq:Z18u.holds Tryz.prog SqG 245:=detP Z1l1 Z3 Z1bz Z1l2 (F:=fun x post=>F22 x.1 post) (fun x post=>Z1l3 x.1 post) fun x h _=>Z1k0 h.1 h.2 rfl
def Z85:Cx:=⟨Z1t Z23,Z21 [(245,Z18u)],SqG⟩
theorem Zen:CxOk Tryz.prog Z85:=⟨Zn Zy,Zu ⟨Z1oq,trivial⟩⟩
theorem Zgb:FnAt Tryz.prog 206 Tryz.f206.ntmps Tryz.f206.results.toList (Tryz.f206.body.getD .skip):=⟨Tryz.f206,Tryz.func206,rfl,rfl,by simp,by decide⟩
theorem Zgc(a:Int)(post:Int × Unit→Prop):Z3w Z85 Z1bz Tryz.f206.ntmps Tryz.f206.results.toList (Tryz.f206.body.getD .skip) [.int .u64] [.snap (.int .i64)] (a,()) post=F21 a post:=by kernel_rfl
theorem Zi6:Z84.holds Tryz.prog SqG 206:=detP Zen Z3 Z1bz Zgb (F:=fun x post=>F21 x.1 post) (fun x post=>Zgc x.1 post) fun x h _=>Z1sc h
def Z1fd:Cx:=addC 206 Z84 Z1fc
theorem Zxg:CxOk Tryz.prog Z1fd:=Zm Z1h3 Zi6
def Zk7:Con:=.det [.int .u64,.int .u64,.int .u64] [.snap (.int .u64),.snap (.int .u64)] (fun x=>WDiv x.1 x.2.1 x.2.2.1) (fun x=>Z1r9 x.1 x.2.1 x.2.2.1)
theorem Z13j:SqH Zk7 169:=
 dP Zxg Z3 Zd hn19 Tryz.func169 (fun x p=>Zmv  x.1 x.2.1 x.2.2.1 p) fun x h _=>Z16i  x.1 x.2.1 x.2.2.1 h
def Z1qz:Cx:=addC 169 Zk7 Z1fd
theorem Z1h4:CxOk Tryz.prog Z1qz:=Zm Zxg Z13j
def Zcv:Con:=.det [.int .i64,.int .i64,.int .i64] [.snap (.int .i64)] (fun x=>III x.1 x.2.1 x.2.2.1) (fun x=>prtR x.1 x.2.1 x.2.2.1)
theorem Zmw:SqH Zcv 91:=
 dP Z1h4 Z3 Zd ({loops:=fun _=>none,joins:=fun _=>none}) Tryz.func91 (fun x p=>Zqd  x.1 x.2.1 x.2.2.1 p) fun x h _=>Z1b6  x.1 x.2.1 x.2.2.1 h
end Go.Lift

namespace Go.Lift
open Go.Proofs
def Z1or:Cx:=⟨Z1t Z23,Z21 [(91,Zcv)],SqG⟩
theorem Zu2:CxOk Tryz.prog Z1or:=⟨Zn Zy,Zu ⟨Zmw,trivial⟩⟩
def Zqe:Con:=.det [.int .i64,.slice (.int .i64)] [.own 2 (.int .i64),.snap (.int .i64)] (fun x=>WCu x.1 x.2.1) (fun x=>cuR x.1 x.2.1)
theorem Z1b7:SqH Zqe 73:=
 dP Zu2 Z3 Zd ({loops:=Z10 [(5,{ls:=[(.slot 6,.data (.int .i64)),(.slot 16,.data (.int .i64))],os:=[]}),(13,{ls:=[(.slot 37,.data (.int .i64))],os:=[(0,2,.int .i64)]})],joins:=Z10 [(17,{ls:=[(.slot 11,.data (.int .i64))],os:=[]})],binds:=fun k=>match k with | 9=>[6] | _=>[]}) Tryz.func73 (fun x p=>Zbo 2 x.1 x.2.1 p) fun x h _=>Z1fa 2 x.1 x.2.1 h
def Zi7:Con:=.det [.int .i64,.int .i64,.slice (.int .i64)] [.own 2 (.int .i64),.snap (.int .i64)] (fun x=>WTk x.1 x.2.1 x.2.2.1) (fun x=>tkR x.1 x.2.1 x.2.2.1)
theorem Zyn:SqH Zi7 75:=
 dP Zu2 Z3 Zd ({loops:=Z10 [(7,{ls:=[(.slot 9,.data (.int .i64)),(.slot 10,.data (.int .i64)),(.slot 25,.data (.int .i64))],os:=[(0,2,.int .i64)]})],joins:=fun _=>none,binds:=fun k=>match k with | 11=>[9] | 12=>[13] | _=>[]}) Tryz.func75 (fun x p=>Z7n 2 x.1 x.2.1 x.2.2.1 p) fun x h _=>Z13h 2 x.1 x.2.1 x.2.2.1 h
end Go.Lift

namespace Go.Lift
open Go.Proofs
def Z18v:Cx:=⟨Z1t Z23,Z21 [(32,Z29),(31,Z2j),(33,Z3q),(73,Zqe)],SqG⟩
theorem Zu3:CxOk Tryz.prog Z18v:=⟨Zn Zy,Zu ⟨Z2i,Z2u,Z4o,Z1b7,trivial⟩⟩
def Zmx:Con:=.det [.ptr Z28,.slice (.int .i64),.slice (.int .i64)] [.snap .bool] (fun x=>Z1k7 x.1 x.2.1 x.2.2.1) (fun x=>Zhe x.1 x.2.1 x.2.2.1)
theorem Z16j:SqH Zmx 72:=
 dP Zu3 Z3 Zd ({loops:=Z10 [(4,{ls:=[(.slot 25,.data (.int .i64))],os:=[]}),(10,{ls:=[(.slot 34,.data (.int .i64))],os:=[]})],joins:=fun _=>none,named:=true}) Tryz.func72 (fun x p=>Zqb  x.1 x.2.1 x.2.2.1 p) fun x h w=>Z1aw  x.1 x.2.1 x.2.2.1 h w
def Z1os:Cx:=addC 72 Zmx Z18v
theorem Z1fe:CxOk Tryz.prog Z1os:=Zm Zu3 Z16j
def Zqf:Con:=Con.nam [.ptr Z28,.slice (.int .i64),.slice (.int .i64)] [.own 2 (.int .i64),.snap (.int .i64)] (fun x=>WAll x.1 x.2.1 x.2.2.1) (fun x=>Znv x.1 x.2.1 x.2.2.1)
theorem Z1b8:SqH Zqf 26:=
 nP Z1fe Z3 Zd ({loops:=Z10 [(7,{ls:=[(.slot 32,.data (.int .i64))],os:=[(0,2,.int .i64)]}),(12,{ls:=[(.slot 37,.data (.int .i64))],os:=[(1,119,.int .i64),(2,111,.int .i64),(3,111,.int .i64)]}),(22,{ls:=[(.slot 72,.data (.int .i64))],os:=[(0,2,.int .i64)]})],joins:=fun _=>none,named:=true}) Tryz.func26 (fun x p=>Zu1 2 119 111 x.1 x.2.1 x.2.2.1 p) fun x h w=>Z1f9 2 119 111 x.1 x.2.1 x.2.2.1 h w
end Go.Lift

namespace Go.Lift
def Zmy:=fun(g:Option YG)(s t f:List Int)(post:Bool × Unit→Prop)=>∃(h:True),∀ a,a=((↑s.length:Int) != (Z1u g).1)→Br a (post (false,
 ())) (∃(h:True),∀ a,a=((↑t.length:Int) != (Z1u g).1)→Br a (post (false,())) (∃(h:True),∀ a,a=((↑f.length:Int) != (Z1b g).1)→Br a (post
 (false,())) (HS []∧∃(I:Int × Unit→Unit→Prop),∃(μ:Int × Unit→Unit→Nat),I (0,()) ()∧∀(x:Int × Unit)(y:Unit),I x y→∀ a,a=decide (x.1 <
 (↑s.length:Int))→Br a (∃(h:(0:Int)≤x.1∧x.1<(↑s.length:Int)),∀ a,a=decide (s.getD x.1.toNat (0:Int)<(0:Int))→Br a (∀ a,a=decide (x.1≥(0:Int))→
 Br a (post (false,())) (HS []∧∃(I:Int × Unit→Unit→Prop),∃(μ:Int × Unit→Unit→Nat),I (0,()) ()∧∀(x:Int × Unit)(y:Unit),I x y→∀ a,a=decide (x.1
 < (↑t.length:Int))→Br a (∃(h:(0:Int)≤x.1∧x.1<(↑t.length:Int)),∀ a,a=decide (t.getD x.1.toNat (0:Int)<(0:Int))→Br a (∀ a,a=decide (x.1≥(0:Int))
 → Br a (post (false,())) (HS []∧∃(I:Int × Unit→Unit→Prop),∃(μ:Int × Unit→Unit→Nat),I (0,()) ()∧∀(x:Int × Unit)(y:Unit),I x y→∀ a,a=decide
 (x.1<(↑f.length:Int))→Br a (∃(h:(0:Int)≤x.1∧x.1<(↑f.length:Int)),∀ a,a=decide (f.getD x.1.toNat (0:Int)<(-4503599627370496:Int))→Br a (∀ a,a=
 decide (x.1≥(0:Int))→post (!a,())) (∀ a,a=decide (f.getD x.1.toNat (0:Int) > (4503599627370496:Int))→Br a (∀ a,a=decide (x.1≥(0:Int))→post (!a,())) (HS
 []∧I (i64.wrap (x.1+1),()) ()∧μ (i64.wrap (x.1+1),()) ()<μ x y))) (∀ a,a=decide ((-1:Int)≥(0:Int))→post (!a,())))) (HS []∧I
 (i64.wrap (x.1+1),()) ()∧μ (i64.wrap (x.1+1),()) ()<μ x y)) (∀ a,a=decide ((-1:Int)≥(0:Int))→Br a (post (false,())) (HS []∧∃(I:Int
 × Unit→Unit→Prop),∃(μ:Int × Unit→Unit→Nat),I (0,()) ()∧∀(x:Int × Unit)(y:Unit),I x y→∀ a,a=decide (x.1<(↑f.length:Int))→Br a (∃(h:(0:Int)≤
 x.1∧x.1<(↑f.length:Int)),∀ a,a=decide (f.getD x.1.toNat (0:Int)<(-4503599627370496:Int))→Br a (∀ a,a=decide (x.1≥(0:Int))→post (!a,())) (∀ a,a=
 decide (f.getD x.1.toNat (0:Int) > (4503599627370496:Int))→Br a (∀ a,a=decide (x.1≥(0:Int))→post (!a,())) (HS []∧I (i64.wrap (x.1+1),()) ()∧μ
 (i64.wrap (x.1+1),()) ()<μ x y))) (∀ a,a=decide ((-1:Int)≥(0:Int))→post (!a,())))))) (HS []∧I (i64.wrap (x.1+1),()) ()∧μ (i64.wrap
 (x.1+1),()) ()<μ x y)) (∀ a,a=decide ((-1:Int)≥(0:Int))→Br a (post (false,())) (HS []∧∃(I:Int × Unit→Unit→Prop),∃(μ:Int × Unit→Unit→Nat),I
 (0,()) ()∧∀(x:Int × Unit)(y:Unit),I x y→∀ a,a=decide (x.1<(↑t.length:Int))→Br a (∃(h:(0:Int)≤x.1∧x.1<(↑t.length:Int)),∀ a,a=decide (t.getD
 x.1.toNat (0:Int)<(0:Int))→Br a (∀ a,a=decide (x.1≥(0:Int))→Br a (post (false,())) (HS []∧∃(I:Int × Unit→Unit→Prop),∃(μ:Int × Unit→Unit→
 Nat),I (0,()) ()∧∀(x:Int × Unit)(y:Unit),I x y→∀ a,a=decide (x.1<(↑f.length:Int))→Br a (∃(h:(0:Int)≤x.1∧x.1<(↑f.length:Int)),∀ a,a=decide
 (f.getD x.1.toNat (0:Int)<(-4503599627370496:Int))→Br a (∀ a,a=decide (x.1≥(0:Int))→post (!a,())) (∀ a,a=decide (f.getD x.1.toNat (0:Int) >
 (4503599627370496:Int))→Br a (∀ a,a=decide (x.1≥(0:Int))→post (!a,())) (HS []∧I (i64.wrap (x.1+1),()) ()∧μ (i64.wrap (x.1+1),()) ()<μ x
 y))) (∀ a,a=decide ((-1:Int)≥(0:Int))→post (!a,())))) (HS []∧I (i64.wrap (x.1+1),()) ()∧μ (i64.wrap (x.1+1),()) ()<μ x y)) (∀ a,a=decide
 ((-1:Int)≥(0:Int))→Br a (post (false,())) (HS []∧∃(I:Int × Unit→Unit→Prop),∃(μ:Int × Unit→Unit→Nat),I (0,()) ()∧∀(x:Int × Unit)(y:Unit),I
 x y→∀ a,a=decide (x.1<(↑f.length:Int))→Br a (∃(h:(0:Int)≤x.1∧x.1<(↑f.length:Int)),∀ a,a=decide (f.getD x.1.toNat (0:Int)<(-4503599627370496:Int))
 → Br a (∀ a,a=decide (x.1≥(0:Int))→post (!a,())) (∀ a,a=decide (f.getD x.1.toNat (0:Int) > (4503599627370496:Int))→Br a (∀ a,a=decide (x.1≥(0:Int))→
 post (!a,())) (HS []∧I (i64.wrap (x.1+1),()) ()∧μ (i64.wrap (x.1+1),()) ()<μ x y))) (∀ a,a=decide ((-1:Int)≥(0:Int))→post (!a,())))))))))
theorem Z16k(g:Option YG)(s:List Int)(t:List Int)(f:List Int)(h:Z1do g s t f)(w:KS.wf [.ptr Z28,.slice (.int .i64),.slice (.int .i64),.slice (.int .i64)] (g,s,t,f,())):Zmy  g s t f (fun r=>r=Ze7 g s t f):=by
 have ls:s.length≤maxN:=w.2.1.1
 have lt:t.length≤maxN:=w.2.2.1.1
 have lf:f.length≤maxN:=w.2.2.2.1.1
 have hm:maxN≤9223372036854775806:=by decide
 have no:¬ ((s.length:Int)=Zg g∧(f.length:Int)=Zp g∧(∀ x ∈ s,0≤x)∧(∀ x ∈ f,Z1z x=true)∧t.length=s.length∧∀ x ∈ t,0≤x)→(false,())=Ze7 g s t f:=fun q=>by
  unfold Ze7
  rw[show Z9c (Zg g) (Zp g) s t f=false from by rw[Bool.eq_false_iff]; exact fun z=>q (Zix.1 z)]
 refine⟨trivial,?_⟩
 rintro _ rfl
 refine Br.intro (fun e=>no fun q=>(bne_iff_ne.1 e) q.1) fun e=>?_
 have e:(s.length:Int)=Zg g:=by
  have e:((s.length:Int) != Zg g)=false:=e
  simpa using e
 refine⟨trivial,?_⟩
 rintro _ rfl
 refine Br.intro (fun e2=>no fun q=>(bne_iff_ne.1 e2) (by show(t.length:Int)=Zg g; have:=q.2.2.2.2.1; omega)) fun e2=>?_
 have e2:(t.length:Int)=Zg g:=by
  have e2:((t.length:Int) != Zg g)=false:=e2
  simpa using e2
 refine⟨trivial,?_⟩
 rintro _ rfl
 refine Br.intro (fun e3=>no fun q=>(bne_iff_ne.1 e3) q.2.1) fun e3=>?_
 have e3:(f.length:Int)=Zp g:=by
  have e3:((f.length:Int) != Zp g)=false:=e3
  simpa using e3
 refine⟨rfl,fun x _=>∃ k:Nat,x.1=k∧k≤s.length∧∀ j,j<k→0≤s.getD j 0,fun x _=>s.length - x.1.toNat,⟨0,rfl,by omega,fun j hj=>by omega⟩,?_⟩
 rintro⟨_,⟨⟩⟩ _ ⟨k,rfl,hk,hi⟩
 dsimp only
 rintro _ rfl
 refine Br.intro (fun g1=>?_) fun g1=>?_
 ·have g1:k<s.length:=by have g1:(k:Int)<s.length:=of_decide_eq_true g1; omega
  refine⟨⟨by omega,by omega⟩,?_⟩
  rw[Int.toNat_natCast,Z12 g1 (by omega)]
  rintro _ rfl
  refine Br.intro (fun z=>?_) fun z=>?_
  ·rintro _ rfl
   refine Br.intro (fun _=>no fun q=>?_) fun y=>?_
   ·have:=q.2.2.1 _ (Zw g1 0)
    have z:=of_decide_eq_true z
    omega
   ·have:=of_decide_eq_false y
    omega
  ·refine⟨rfl,⟨k+1,rfl,by omega,fun j hj=>?_⟩,by omega⟩
   by_cases e:j=k
   ·subst e; have:=of_decide_eq_false z; omega
   ·exact hi j (by omega)
 have hS:∀ x ∈ s,0≤x:=by
  have g1:k=s.length:=by have g1:¬ (k:Int)<s.length:=of_decide_eq_false g1; omega
  subst g1
  exact Z14x hi
 clear hi hk g1
 rintro _ rfl
 refine Br.intro (fun y=>absurd y (by decide)) fun _=>?_
 refine⟨rfl,fun x _=>∃ k:Nat,x.1=k∧k≤t.length∧∀ j,j<k→0≤t.getD j 0,fun x _=>t.length - x.1.toNat,⟨0,rfl,by omega,fun j hj=>by omega⟩,?_⟩
 rintro⟨_,⟨⟩⟩ _ ⟨k,rfl,hk,hi⟩
 dsimp only
 rintro _ rfl
 refine Br.intro (fun g1=>?_) fun g1=>?_
 ·have g1:k<t.length:=by have g1:(k:Int)<t.length:=of_decide_eq_true g1; omega
  refine⟨⟨by omega,by omega⟩,?_⟩
  rw[Int.toNat_natCast,Z12 g1 (by omega)]
  rintro _ rfl
  refine Br.intro (fun z=>?_) fun z=>?_
  ·rintro _ rfl
   refine Br.intro (fun _=>no fun q=>?_) fun y=>?_
   ·have:=q.2.2.2.2.2 _ (Zw g1 0)
    have z:=of_decide_eq_true z
    omega
   ·have:=of_decide_eq_false y
    omega
  ·refine⟨rfl,⟨k+1,rfl,by omega,fun j hj=>?_⟩,by omega⟩
   by_cases e:j=k
   ·subst e; have:=of_decide_eq_false z; omega
   ·exact hi j (by omega)
 have hT:∀ x ∈ t,0≤x:=by
  have g1:k=t.length:=by have g1:¬ (k:Int)<t.length:=of_decide_eq_false g1; omega
  subst g1
  exact Z14x hi
 clear hi hk g1
 rintro _ rfl
 refine Br.intro (fun y=>absurd y (by decide)) fun _=>?_
 refine⟨rfl,fun x _=>∃ k:Nat,x.1=k∧k≤f.length∧∀ j,j<k→Z1z (f.getD j 0)=true,fun x _=>f.length - x.1.toNat,⟨0,rfl,by omega,fun j hj=>by omega⟩,?_⟩
 rintro⟨_,⟨⟩⟩ _ ⟨k,rfl,hk,hi⟩
 dsimp only
 rintro _ rfl
 have bad:k<f.length→¬ Z1z (f.getD k 0)=true→∀ a:Bool,a=decide ((k:Int)≥0)→(!a,())=Ze7 g s t f:=by
  rintro g1 hb _ rfl
  rw[decide_eq_true (p:=(k:Int)≥0) (by omega)]
  exact no fun q=>hb (q.2.2.2.1 _ (Zw g1 0))
 refine Br.intro (fun g1=>?_) fun g1=>?_
 ·have g1:k<f.length:=by have g1:(k:Int)<f.length:=of_decide_eq_true g1; omega
  refine⟨⟨by omega,by omega⟩,?_⟩
  rw[Int.toNat_natCast,Z12 g1 (by omega)]
  rintro _ rfl
  refine Br.intro (fun z=>?_) fun z=>?_
  ·exact bad g1 fun q=>by have:=Z5s.1 q; have:=of_decide_eq_true z; omega
  have z:=of_decide_eq_false z
  rintro _ rfl
  refine Br.intro (fun y=>?_) fun y=>?_
  ·exact bad g1 fun q=>by have:=Z5s.1 q; have:=of_decide_eq_true y; omega
  ·have y:=of_decide_eq_false y
   refine⟨rfl,⟨k+1,rfl,by omega,fun j hj=>?_⟩,by omega⟩
   by_cases e:j=k
   ·subst e; exact Z5s.2 ⟨by omega,by omega⟩
   ·exact hi j (by omega)
 have hF:∀ x ∈ f,Z1z x=true:=by
  have g1:k=f.length:=by have g1:¬ (k:Int)<f.length:=of_decide_eq_false g1; omega
  subst g1
  exact Z14x (p:=fun x=>Z1z x=true) hi
 rintro _ rfl
 show(true,())=Ze7 g s t f
 unfold Ze7
 rw[Zix.2 ⟨e,e3,hS,hF,by omega,hT⟩]
def Zyo(ty2:Nat)(f:List Int):List HObj:=[HObj.row Md.rw ty2 (K.int i64) (List.replicate f.length (0:Int))]
def Zyp(ty2:Nat)(y:List Int × Unit)(ty119:Nat):List HObj:=[HObj.row Md.rw ty2 (K.int i64) y.1,HObj.row Md.rw ty119 (K.int i64) (List.replicate (4:Nat) (0:Int))]
def Zyq(ty2:Nat)(y:List Int × Unit)(ty119:Nat)(y_1:List Int × Unit)(x_3:Int × Unit)(f:List Int)(a:Int × Int × Unit):List HObj:=[HObj.row Md.rw ty2 (K.int i64) y.1,HObj.row Md.rw ty119 (K.int i64) (y_1.1.set x_3.1.toNat (imax (0:Int) (i64.wrap (f.getD a.1.toNat (0:Int)*a.2.1))))]
def Zyr(ty2:Nat)(y:List Int × Unit)(ty119:Nat)(y_1:List Int × Unit)(s:List Int)(x:Int × Unit)(t:List Int):List HObj:=[HObj.row Md.rw ty2 (K.int i64) y.1,HObj.row Md.rw ty119 (K.int i64) y_1.1,HObj.row Md.rw ty2 (K.int i64) (tkR (s.getD x.1.toNat (0:Int)) (t.getD x.1.toNat (0:Int)) (List.take ((↑(4:Nat):Int) - (0:Int)).toNat (List.drop (Int.toNat (0:Int)) y_1.1))).1]
def Zys(ty2:Nat)(y_2:List Int × Unit)(a:Int × Int × Unit)(s:List Int)(x:Int × Unit)(t:List Int)(y_1:List Int × Unit)(x_7:Int × Unit)(ty119:Nat):List HObj:=[HObj.row Md.rw ty2 (K.int i64) (y_2.1.set ((0:Nat)+a.1.toNat) (i64.wrap ((tkR (s.getD x.1.toNat (0:Int)) (t.getD x.1.toNat (0:Int)) (List.take ((↑(4:Nat):Int) - (0:Int)).toNat (List.drop (Int.toNat (0:Int)) y_1.1))).1.getD ((0:Nat)+x_7.1.toNat) (0:Int)*a.2.1))),HObj.row Md.rw ty119 (K.int i64) y_1.1,HObj.row Md.rw ty2 (K.int i64) (tkR (s.getD x.1.toNat (0:Int)) (t.getD x.1.toNat (0:Int)) (List.take ((↑(4:Nat):Int) - (0:Int)).toNat (List.drop (Int.toNat (0:Int)) y_1.1))).1]
def Zyt(ty2:Nat)(y_2:List Int × Unit)(ty119:Nat)(y_1:List Int × Unit)(s:List Int)(x:Int × Unit)(t:List Int):List HObj:=[HObj.row Md.rw ty2 (K.int i64) y_2.1,HObj.row Md.rw ty119 (K.int i64) y_1.1,HObj.row Md.rw ty2 (K.int i64) (tkR (s.getD x.1.toNat (0:Int)) (t.getD x.1.toNat (0:Int)) (List.take ((↑(4:Nat):Int) - (0:Int)).toNat (List.drop (Int.toNat (0:Int)) y_1.1))).1]
def Zyu(ty2:Nat)(y_2:List Int × Unit):List HObj:=[HObj.row Md.rw ty2 (K.int i64) y_2.1]
def Zk8:=fun(ty2 ty119:Nat)(g:Option YG)(s t f:List Int)(post:List Int × Int × Unit→Prop)=>Br g.isNone (post ([],2,())) (∃(h:Z1do g s t f),∀ a,
 a=(Ze7 g s t f).1→Br (!a) (post ([],1,())) (∃(h:(0:Int)≤(↑f.length:Int)∧(↑f.length:Int)≤(↑f.length:Int)∧(↑f.length:Int)*(↑(8:Nat):Int)≤
 (281474976710656:Int)),HS (Zyo ty2 f)∧∃(I:Int × Unit→List Int × Unit→Prop),∃(μ:Int × Unit→List Int × Unit→Nat),I (0,()) (List.replicate f.length
 (0:Int),())∧∀(x:Int × Unit)(y:List Int × Unit),I x y→∀ a,a=decide (x.1<(↑s.length:Int))→Br a (∃(h:(0:Int)≤x.1∧x.1<(↑s.length:Int)),HS
 (Zyp ty2 y ty119)∧∃(I_1:Int × Unit→List Int × Unit→Prop),∃(μ_1:Int × Unit→List Int × Unit→Nat),I_1 (0,()) (List.replicate (4:Nat) (0:Int),())
 ∧ ∀(x_3:Int × Unit)(y_1:List Int × Unit),I_1 x_3 y_1→∀ a,a=decide (x_3.1<(4:Int))→Br a (∃(h:WNet g x.1 x_3.1),∀ a,a=Z40 g x.1 x_3.1→∃(h:(0:
 Int)≤a.1∧a.1<(↑f.length:Int)),∃(h:(0:Int)≤x_3.1∧x_3.1<(↑(4:Nat):Int)∧(4:Nat)≤y_1.1.length),HS (Zyq ty2 y ty119 y_1 x_3 f a)∧I_1
 (i64.wrap (x_3.1+1),()) (y_1.1.set x_3.1.toNat (imax (0:Int) (i64.wrap (f.getD a.1.toNat (0:Int)*a.2.1))),())∧μ_1 (i64.wrap (x_3.1+1),())
 (y_1.1.set x_3.1.toNat (imax (0:Int) (i64.wrap (f.getD a.1.toNat (0:Int)*a.2.1))),())<μ_1 x_3 y_1) (∃(h:(0:Int)≤x.1∧x.1<(↑t.length:Int)),∃(h:(0:
 Int)≤(0:Int)∧(0:Int)≤(↑(4:Nat):Int)∧(↑(4:Nat):Int)≤(↑(4:Nat):Int)∧(4:Nat)=y_1.1.length),∃(h:WTk (s.getD x.1.toNat (0:Int)) (t.getD x.1.toNat
 (0:Int)) (List.take ((↑(4:Nat):Int) - (0:Int)).toNat (List.drop (Int.toNat (0:Int)) y_1.1))),∀ a,a=((tkR (s.getD x.1.toNat (0:Int)) (t.getD x.1.toNat (0:Int))
 (List.take ((↑(4:Nat):Int) - (0:Int)).toNat (List.drop (Int.toNat (0:Int)) y_1.1))).2.1 != (0:Int))→Br a (post ([],(tkR (s.getD x.1.toNat (0:Int)) (t.getD x.1.toNat
 (0:Int)) (List.take ((↑(4:Nat):Int) - (0:Int)).toNat (List.drop (Int.toNat (0:Int)) y_1.1))).2.1,())) (HS (Zyr ty2 y ty119 y_1 s x t)∧∃(I_2:Int × Unit
 → List Int × Unit→Prop),∃(μ_2:Int × Unit→List Int × Unit→Nat),I_2 (0,()) (y.1,())∧∀(x_7:Int × Unit)(y_2:List Int × Unit),I_2 x_7 y_2→∀ a,a=decide (x_7.1
 < (4:Int))→Br a (∃(h:WNet g x.1 x_7.1),∀ a,a=Z40 g x.1 x_7.1→∃(h:(0:Int)≤x_7.1∧x_7.1<(↑(4:Nat):Int)∧(4:Nat)≤y_1.1.length),∀ a_1,a_1=
 decide (y_1.1.getD x_7.1.toNat (0:Int) > (0:Int))→Br a_1 (∃(h:(0:Int)≤x_7.1∧x_7.1<(↑(tkR (s.getD x.1.toNat (0:Int)) (t.getD x.1.toNat (0:Int)) (List.take
 ((↑(4:Nat):Int) - (0:Int)).toNat (List.drop (Int.toNat (0:Int)) y_1.1))).1.length:Int)),∃(h:(0:Int)≤a.1∧a.1<(↑f.length:Int)),HS (Zys ty2 y_2
 a s x t y_1 x_7 ty119)∧I_2 (i64.wrap (x_7.1+1),()) (y_2.1.set ((0:Nat)+a.1.toNat) (i64.wrap ((tkR (s.getD x.1.toNat (0:Int)) (t.getD x.1.toNat (0:
 Int)) (List.take ((↑(4:Nat):Int) - (0:Int)).toNat (List.drop (Int.toNat (0:Int)) y_1.1))).1.getD ((0:Nat)+x_7.1.toNat) (0:Int)*a.2.1)),())∧μ_2 (i64.wrap
 (x_7.1+1),()) (y_2.1.set ((0:Nat)+a.1.toNat) (i64.wrap ((tkR (s.getD x.1.toNat (0:Int)) (t.getD x.1.toNat (0:Int)) (List.take ((↑(4:Nat):Int) - (0:
 Int)).toNat (List.drop (Int.toNat (0:Int)) y_1.1))).1.getD ((0:Nat)+x_7.1.toNat) (0:Int)*a.2.1)),())<μ_2 x_7 y_2) (HS (Zyt ty2 y_2 ty119 y_1 s x t)∧I_2
 (i64.wrap (x_7.1+1),()) (y_2.1,())∧μ_2 (i64.wrap (x_7.1+1),()) (y_2.1,())<μ_2 x_7 y_2)) (HS (Zyu ty2 y_2)∧I (i64.wrap (x.1+1),
 ()) (y_2.1,())∧μ (i64.wrap (x.1+1),()) (y_2.1,())<μ x y)))) (((0:Nat)=(0:Nat)∧f.length=y.1.length)∧post (y.1,0,()))))
theorem Z13k(ty0 ty1:Nat)(g:Option YG)(s:List Int)(t:List Int)(f:List Int)(h:Z1dp g s t f)(w:KS.wf [.ptr Z28,.slice (.int .i64),.slice (.int .i64),.slice (.int .i64)] (g,s,t,f,())):Zk8 ty0 ty1 g s t f (fun r=>r=Zgk g s t f):=by
 obtain⟨hg,hs,ht0,hf0⟩:=h
 cases g with
 | none=>exact Br.intro (fun _=>rfl) fun e=>by cases e
 | some g=>
 obtain⟨n,gn,rfl⟩:=Z48 hg
 refine Br.intro (fun e=>by cases e) fun _=>?_
 refine⟨⟨hs,ht0,hf0⟩,?_⟩
 rintro _ rfl
 have A:=Z75 n
 have hAr:∀ c o,Z40 (some (netG n)) c o=((Za (some (netG n)) c o).1,(Za (some (netG n)) c o).2,()):=fun _ _=>rfl
 have hres:Zgk (some (netG n)) s t f=((Z6f false (Zg (some (netG n))) (Zp (some (netG n))) (Za (some (netG n))) s t f).1,(Z6f false (Zg (some (netG n))) (Zp (some (netG n))) (Za (some (netG n))) s t f).2,()):=rfl
 refine Br.intro (fun e=>?_) fun e=>?_
 ·have e:¬ Z9c (Zg (some (netG n))) (Zp (some (netG n))) s t f=true:=by
   have e:(!Z9c (Zg (some (netG n))) (Zp (some (netG n))) s t f)=true:=e
   simpa using e
  rw[hres,Z1nj e]
 have e:Z9c (Zg (some (netG n))) (Zp (some (netG n))) s t f=true:=by
  have e:(!Z9c (Zg (some (netG n))) (Zp (some (netG n))) s t f)=false:=e
  simpa using e
 rw[hres]
 have gH:=Zix.1 e
 obtain⟨h1,h2,h3,h4⟩:=Z1ds (n:=n) (s:=s) (f:=f) (Ziw.2 ⟨gH.1,gH.2.1,gH.2.2.1,gH.2.2.2.1⟩)
 have hTl:t.length=s.length:=gH.2.2.2.2.1
 have hgood:=e
 have cr:=Z37 n
 have hE:=(Z9x n (Z2 n).toNat (by omega)).2
 have hE:(netE n).1.length≤4*(Z2 n).toNat:=hE
 obtain⟨N,hN⟩:∃ N,N=Zg (some (netG n)):=⟨_,rfl⟩
 obtain⟨M,hM⟩:∃ M,M=Zp (some (netG n)):=⟨_,rfl⟩
 rw[← hN,← hM]
 rw[← hN,← hM]at hgood
 generalize Za (some (netG n))=ar at *
 obtain⟨gv,hgv⟩:∃ gv,Z34 ar s t f=gv:=⟨_,rfl⟩
 refine⟨⟨by omega,by omega,by omega⟩,rfl,fun x y=>∃ k:Nat,x.1=k∧k≤s.length∧(∀ j,j<k→Z97 ar s t f j=0)∧y.1=allP ar f gv k,fun x _=>s.length - x.1.toNat,⟨0,rfl,by omega,fun j hj=>by omega,rfl⟩,?_⟩
 rintro⟨_,⟨⟩⟩ ⟨_,⟨⟩⟩ ⟨k,rfl,hk,hz,rfl⟩
 dsimp only
 rintro _ rfl
 refine Br.intro (fun d=>?_) fun d=>?_
 rotate_left
 ·have d:k=s.length:=by have d:¬ (k:Int)<s.length:=of_decide_eq_false d; omega
  have hlen:(allP ar f gv k).length=f.length:=(Ze9 A h4 h2 k (by omega)).1.trans h2.symm
  refine⟨⟨rfl,hlen.symm⟩,?_⟩
  rw[Z1dt hgood (fun j hj=>hz j (by omega)),hgv,d]
 have d:k<s.length:=by have d:(k:Int)<s.length:=of_decide_eq_true d; omega
 have hp:Ze n (k:Int)=true:=Z3t (by omega)
 refine⟨⟨by omega,by omega⟩,rfl,fun x y=>∃ j:Nat,x.1=j∧j≤4∧y.1=Ziu j (outN ar f k),fun x _=>4 - x.1.toNat,⟨0,rfl,by omega,rfl⟩,?_⟩
 rintro⟨_,⟨⟩⟩ ⟨_,⟨⟩⟩ ⟨j,rfl,hj,rfl⟩
 dsimp only
 rintro _ rfl
 refine Br.intro (fun e1=>?_) fun e1=>?_
 ·have e1:j<4:=by have e1:(j:Int)<4:=of_decide_eq_true e1; omega
  refine⟨⟨hg,⟨by omega,by omega⟩,by omega,by omega⟩,?_⟩
  rintro _ rfl
  obtain⟨s1,s2,s3,s4,s5⟩:=Zfx A h4 h2 (c:=k) (o:=j) (Zc.2 ⟨hp,by omega,by omega⟩)
  rw[hAr]
  dsimp only
  rw[Z12 e1 (by omega),Zq (by omega) (by omega),Int.toNat_natCast]
  exact⟨⟨s1,s2⟩,⟨by omega,by show(j:Int)<4; omega,Nat.le_refl 4⟩,rfl,⟨j+1,rfl,by omega,Ziv e1 (outN ar f k)⟩,by omega⟩
 have e1:j=4:=by have e1:¬ (j:Int)<4:=of_decide_eq_false e1; omega
 subst e1
 have f4:∀ g,Ziu 4 g=four g:=fun g=>rfl
 rw[f4]
 obtain⟨o1,o2,o3⟩:=Zv2 (Z9y A h4 hp)
 rw[Z180,Int.toNat_natCast]
 have hc:tkR (s.getD k 0) (t.getD k 0) (four (outN ar f k))=((Z2o (s.getD k 0) (t.getD k 0) (Z1e ar f k)).1,Z97 ar s t f k,()):=rfl
 rw[hc]
 refine⟨⟨by omega,by show(k:Int)<(t.length:Int); omega⟩,⟨by decide,by decide,by decide,rfl⟩,⟨hs _ (Zw d 0),ht0 _ (Zw (by omega) 0),o2,o3⟩,?_⟩
 rintro _ rfl
 refine Br.intro (fun q=>?_) fun q=>?_
 ·have q:Z97 ar s t f k≠0:=bne_iff_ne.1 q
  rw[Z1nk d q]
  have:Z97 ar s t f k=1:=by
   rcases Z1ni (a:=s.getD k 0) (b:=t.getD k 0) (c:=Z1e ar f k)with z | z
   ·exact absurd z q
   ·exact congrArg Prod.snd z
  rw[this]
 have q:Z97 ar s t f k=0:=by
  have q:(Z97 ar s t f k != 0)=false:=q
  simpa using q
 obtain⟨c1,c2,c3⟩:=Z111 A h4 (w:=s.getD k 0) (h:=t.getD k 0) (ht0 _ (Zw (by omega) 0)) hp q
 have hgk:gv k=Z26 (s.getD k 0) (t.getD k 0) (Z1e ar f k):=by rw[← hgv]; exact congrArg Prod.fst c1
 rw[show(Z2o (s.getD k 0) (t.getD k 0) (Z1e ar f k)).1=Z26 (s.getD k 0) (t.getD k 0) (Z1e ar f k)from congrArg Prod.fst c1]
 refine⟨rfl,fun x y=>∃ j:Nat,x.1=j∧j≤4∧y.1=Zd7 ar f (gv k) k (allP ar f gv k) j,fun x _=>4 - x.1.toNat,⟨0,rfl,by omega,rfl⟩,?_⟩
 rintro⟨_,⟨⟩⟩ ⟨_,⟨⟩⟩ ⟨i,rfl,hi,rfl⟩
 dsimp only
 rintro _ rfl
 refine Br.intro (fun e2=>?_) fun e2=>?_
 rotate_left
 ·have e2:i=4:=by have e2:¬ (i:Int)<4:=of_decide_eq_false e2; omega
  subst e2
  rw[Z12 d (by omega)]
  refine⟨rfl,⟨k+1,rfl,by omega,fun j hj=>?_,rfl⟩,by omega⟩
  by_cases z:j=k
  ·rw[z]; exact q
  ·exact hz j (by omega)
 have e2:i<4:=by have e2:(i:Int)<4:=of_decide_eq_true e2; omega
 obtain⟨s1,s2,s3,s4,s5⟩:=Zfx A h4 h2 (c:=k) (o:=i) (Zc.2 ⟨hp,by omega,by omega⟩)
 obtain⟨g1,g2,g3⟩:=c3 i e2
 rw[Int.toNat_natCast,Z9h e2,Nat.zero_add,Z12 e2 (by omega)]
 have hst:Zd7 ar f (gv k) k (allP ar f gv k) (i+1)=putP ar f (gv k) k i (Zd7 ar f (gv k) k (allP ar f gv k) i):=rfl
 refine⟨⟨hg,⟨by omega,by omega⟩,by omega,by omega⟩,?_⟩
 rintro _ rfl
 rw[hAr]
 dsimp only
 refine⟨⟨by omega,by show(i:Int)<4; omega,Nat.le_refl 4⟩,?_⟩
 rintro _ rfl
 refine Br.intro (fun z=>?_) fun z=>?_
 ·have z:0<outN ar f k i:=of_decide_eq_true z
  have hm2:i64.wrap ((Z26 (s.getD k 0) (t.getD k 0) (Z1e ar f k)).getD i 0*(ar k i).2)=(Z26 (s.getD k 0) (t.getD k 0) (Z1e ar f k)).getD i 0*(ar k i).2:=by
   rcases s3 with q | q <;> rw[q] <;> exact Zq (by omega) (by omega)
  rw[Nat.zero_add,hm2]
  refine⟨⟨by omega,by rw[c2]; omega⟩,⟨s1,s2⟩,rfl,⟨i+1,rfl,by omega,?_⟩,by omega⟩
  rw[hst]; unfold putP; rw[if_pos z,hgk,Int.toNat_natCast]
 ·have z:¬ 0<outN ar f k i:=of_decide_eq_false z
  exact⟨rfl,⟨i+1,rfl,by omega,by rw[hst]; unfold putP; rw[if_neg z]⟩,by omega⟩
end Go.Lift

namespace Go.Lift
open Go.Proofs
def Zxh:Cx:=⟨Z1t Z23,Z21 [(32,Z29),(31,Z2j),(33,Z3q),(75,Zi7)],SqG⟩
theorem Zcw:CxOk Tryz.prog Zxh:=⟨Zn Zy,Zu ⟨Z2i,Z2u,Z4o,Zyn,trivial⟩⟩
def Zk9:Con:=.det [.ptr Z28,.slice (.int .i64),.slice (.int .i64),.slice (.int .i64)] [.snap .bool] (fun x=>Z1do x.1 x.2.1 x.2.2.1 x.2.2.2.1) (fun x=>Ze7 x.1 x.2.1 x.2.2.1 x.2.2.2.1)
theorem Z13l:SqH Zk9 74:=
 dPI Zcw Z3 Zd ({loops:=fun _=>none,joins:=fun _=>none,named:=true,inl:=inlL [82]}) (Z3n Zcw Z3 Z19m 6) Tryz.func74 (fun x p=>Zmy  x.1 x.2.1 x.2.2.1 x.2.2.2.1 p) fun x h w=>Z16k  x.1 x.2.1 x.2.2.1 x.2.2.2.1 h w
def Z1h5:Cx:=addC 74 Zk9 Zxh
theorem Z16l:CxOk Tryz.prog Z1h5:=Zm Zcw Z13l
def Zi8:Con:=Con.nam [.ptr Z28,.slice (.int .i64),.slice (.int .i64),.slice (.int .i64)] [.own 2 (.int .i64),.snap (.int .i64)] (fun x=>Z1dp x.1 x.2.1 x.2.2.1 x.2.2.2.1) (fun x=>Zgk x.1 x.2.1 x.2.2.1 x.2.2.2.1)
theorem Zyv:SqH Zi8 27:=
 nP Z16l Z3 Zd ({loops:=Z10 [(7,{ls:=[(.slot 35,.data (.int .i64))],os:=[(0,2,.int .i64)]}),(11,{ls:=[(.slot 40,.data (.int .i64))],os:=[(1,119,.int .i64)]}),(20,{ls:=[(.slot 73,.data (.int .i64))],os:=[(0,2,.int .i64)]})],joins:=fun _=>none,named:=true}) Tryz.func27 (fun x p=>Zk8 2 119 x.1 x.2.1 x.2.2.1 x.2.2.2.1 p) fun x h w=>Z13k 2 119 x.1 x.2.1 x.2.2.1 x.2.2.2.1 h w
end Go.Lift

namespace Go.Lift
def Z5b:=fun(l:List Nat)(post:List Nat × Unit→Prop)=>∀(a:Bool),(a=true→l.length=(0:Nat))→∀(a_1:Bool),(a_1=if
 false=true then !a else a)→Br a_1 (post ([],())) (∃(h:(0:Nat)=(0:Nat)∧((0:Nat)+l.length)*(8:Nat)≤(140737488355328:Nat)),((0:Nat)=(0:
 Nat)∧(0:Nat)+l.length=([]++l).length)∧post ([]++l,()))
theorem Zag(l:List Nat)(h:Z1e4 l):Z5b  l (fun r=>r=Z1e3 l):=by
 intro a ha a1 h1
 have h1:a1=a:=h1
 subst h1
 refine Br.intro (fun e=>?_) fun e=>?_
 ·have:=List.eq_nil_of_length_eq_zero (ha e)
  subst this; rfl
 ·have hl:l.length≤65536:=h
  exact⟨⟨by trivial,by omega⟩,⟨by trivial,by rw[List.nil_append]; omega⟩,by rw[List.nil_append]; rfl⟩
def Zka:=fun(x:Int)(post:Bool × Unit→Prop)=>∀ a,a=decide (x<(0:Int))→Br a (post (true,())) (∀ a,a=decide (x > (4503599627370496:Int))→
 post (a,()))
theorem Z13m(x:Int):Zka  x (fun r=>r=Zy4 x):=by
 rintro _ rfl
 refine Br.intro (fun e=>?_) fun e=>?_
 ·show(true,())=(Z1y x,())
  unfold Z1y; rw[e]; rfl
 rintro _ rfl
 show(decide (4503599627370496<x),())=(Z1y x,())
 unfold Z1y; rw[e]; rfl
def Z17(ty27:Nat)(s:List Int)(ty2:Nat)(sky:Int):List HObj:=[HObj.box Md.rw ty27 [SV.data (K.int i64).slice s],HObj.box Md.rw ty2 [SV.val (Go.Value.int i64 sky)]]
def Z1b9(ty27:Nat)(s:List Int)(ty2:Nat)(a:List Int × Unit):List HObj:=[HObj.box Md.rw ty27 [SV.data (K.int i64).slice s],HObj.box Md.rw ty2 [SV.junk],HObj.row Md.rw ty2 (K.int i64) a.1,HObj.box Md.rw ty27 [SV.osl (2:Nat) (0:Nat) a.1.length]]
def Zf1(ty27:Nat)(s:List Int)(ty2:Nat)(y:List Int × Unit)(a:List Int × Unit):List HObj:=[HObj.box Md.rw ty27 [SV.data (K.int i64).slice s],HObj.box Md.rw ty2 [SV.junk],HObj.row Md.rw ty2 (K.int i64) y.1,HObj.box Md.rw ty27 [SV.osl (2:Nat) (0:Nat) a.1.length]]
def Z1ba(ty27:Nat)(s:List Int)(ty2:Nat)(y:List Int × Unit)(rs:List (Int × Int × Int × Int))(x:Int × Int × Unit)(a:List Int × Unit):List HObj:=[HObj.box Md.rw ty27 [SV.data (K.int i64).slice s],HObj.box Md.rw ty2 [SV.junk],HObj.row Md.rw ty2 (K.int i64) (y.1.set ((0:Nat)+(rs.getD x.1.toNat Zj.dflt).1.toNat) (i64.wrap (y.1.getD ((0:Nat)+(rs.getD x.1.toNat Zj.dflt).1.toNat) (0:Int)+imin (rs.getD x.1.toNat Zj.dflt).2.1 x.2.1))),HObj.box Md.rw ty27 [SV.osl (2:Nat) (0:Nat) a.1.length]]
def Z1bb(ty27:Nat)(s:List Int)(ty2:Nat)(y:List Int × Unit)(rs:List (Int × Int × Int × Int))(x:Int × Int × Unit)(a:List Int × Unit):List HObj:=[HObj.box Md.rw ty27 [SV.data (K.int i64).slice s],HObj.box Md.rw ty2 [SV.junk],HObj.row Md.rw ty2 (K.int i64) (y.1.set ((0:Nat)+(rs.getD x.1.toNat Zj.dflt).1.toNat) (i64.wrap (y.1.getD ((0:Nat)+(rs.getD x.1.toNat Zj.dflt).1.toNat) (0:Int) - imin (i64.wrap ((0:Int) - (rs.getD x.1.toNat Zj.dflt).2.1)) (y.1.getD ((0:Nat)+(rs.getD x.1.toNat Zj.dflt).1.toNat) (0:Int))))),HObj.box Md.rw ty27 [SV.osl (2:Nat) (0:Nat) a.1.length]]
def Zu4:=fun(ty27 ty2:Nat)(s:List Int)(sky:Int)(rs:List (Int × Int × Int × Int))(step:Int)(post:List Int × Int × Int × Unit→Prop)=>∃(post_1:Bool
 × Unit→Unit→Prop),(∀ a,a=decide (step<(0:Int))→Br a (HS (Z17 ty27 s ty2 sky)∧post_1 (true,()) ()) (∃(h:True),∀ a,a=Zy4 sky→∀ a_1,a_1
 = a.1→Br a_1 (HS (Z17 ty27 s ty2 sky)∧post_1 (true,()) ()) (∀ a,a=decide ((↑rs.length:Int) > (1024:Int))→Br a (HS (Z17 ty27 s ty2 sky)∧
 post_1 (true,()) ()) (HS (Z17 ty27 s ty2 sky)∧∃(I:Int × Unit→Unit→Prop),∃(μ:Int × Unit→Unit→Nat),I ((0:Int),()) ()∧∀(x:Int × Unit)(y:
 Unit),I x y→∀ a,a=decide (x.1<(↑s.length:Int))→Br a (∃(h:(0:Int)≤x.1∧x.1<(↑s.length:Int)),∀ a,a=decide (s.getD x.1.toNat (0:Int)<(0:Int))→Br a
 (∀ a,a=decide (x.1≥(0:Int))→Br a (HS (Z17 ty27 s ty2 sky)∧post_1 (true,()) ()) (HS (Z17 ty27 s ty2 sky)∧∃(I:Int × Unit→Unit→Prop),∃
 (μ:Int × Unit→Unit→Nat),I ((0:Int),()) ()∧∀(x:Int × Unit)(y:Unit),I x y→∀ a,a=decide (x.1<(↑rs.length:Int))→Br a (∃(h:(0:Int)≤x.1∧x.1 <
 (↑rs.length:Int)),∃(h:True),∀ a,a=Zcc (↑s.length:Int) ((rs.getD x.1.toNat Zj.dflt).1,(rs.getD x.1.toNat Zj.dflt).2.1,(rs.getD x.1.toNat Zj.dflt).2.2.1,
 (rs.getD x.1.toNat Zj.dflt).2.2.2)→∀ a_2,a_2=a.1→Br (!a_2) (∀ a,a=decide (x.1≥(0:Int))→HS (Z17 ty27 s ty2 sky)∧post_1 (a,()) ()) (HS (Z17
 ty27 s ty2 sky)∧I (i64.wrap (x.1+(1:Int)),()) ()∧μ (i64.wrap (x.1+(1:Int)),()) ()<μ x y)) (∀ a,a=decide ((-1:Int)≥(0:Int))→HS
 (Z17 ty27 s ty2 sky)∧post_1 (a,()) ()))) (∀ a,a=decide (s.getD x.1.toNat (0:Int) > (4503599627370496:Int))→Br a (∀ a,a=decide (x.1≥(0:Int))→Br a (HS
 (Z17 ty27 s ty2 sky)∧post_1 (true,()) ()) (HS (Z17 ty27 s ty2 sky)∧∃(I:Int × Unit→Unit→Prop),∃(μ:Int × Unit→Unit→Nat),I ((0:Int),
 ()) ()∧∀(x:Int × Unit)(y:Unit),I x y→∀ a,a=decide (x.1<(↑rs.length:Int))→Br a (∃(h:(0:Int)≤x.1∧x.1<(↑rs.length:Int)),∃(h:True),∀ a,a=
 Zcc (↑s.length:Int) ((rs.getD x.1.toNat Zj.dflt).1,(rs.getD x.1.toNat Zj.dflt).2.1,(rs.getD x.1.toNat Zj.dflt).2.2.1,(rs.getD x.1.toNat Zj.dflt).2.2.2)→∀
 a_2,a_2=a.1→Br (!a_2) (∀ a,a=decide (x.1≥(0:Int))→HS (Z17 ty27 s ty2 sky)∧post_1 (a,()) ()) (HS (Z17 ty27 s ty2 sky)∧I (i64.wrap
 (x.1+(1:Int)),()) ()∧μ (i64.wrap (x.1+(1:Int)),()) ()<μ x y)) (∀ a,a=decide ((-1:Int)≥(0:Int))→HS (Z17 ty27 s ty2 sky)∧post_1 (a,())
 ()))) (HS (Z17 ty27 s ty2 sky)∧I (i64.wrap (x.1+(1:Int)),()) ()∧μ (i64.wrap (x.1+(1:Int)),()) ()<μ x y))) (∀ a,a=decide ((-1:Int)≥
 (0:Int))→Br a (HS (Z17 ty27 s ty2 sky)∧post_1 (true,()) ()) (HS (Z17 ty27 s ty2 sky)∧∃(I:Int × Unit→Unit→Prop),∃(μ:Int × Unit→Unit→
 Nat),I ((0:Int),()) ()∧∀(x:Int × Unit)(y:Unit),I x y→∀ a,a=decide (x.1<(↑rs.length:Int))→Br a (∃(h:(0:Int)≤x.1∧x.1<(↑rs.length:Int)),∃(h:
 True),∀ a,a=Zcc (↑s.length:Int) ((rs.getD x.1.toNat Zj.dflt).1,(rs.getD x.1.toNat Zj.dflt).2.1,(rs.getD x.1.toNat Zj.dflt).2.2.1,(rs.getD x.1.toNat
 Zj.dflt).2.2.2)→∀ a_2,a_2=a.1→Br (!a_2) (∀ a,a=decide (x.1≥(0:Int))→HS (Z17 ty27 s ty2 sky)∧post_1 (a,()) ()) (HS (Z17 ty27 s ty2 sky)∧
 I (i64.wrap (x.1+(1:Int)),()) ()∧μ (i64.wrap (x.1+(1:Int)),()) ()<μ x y)) (∀ a,a=decide ((-1:Int)≥(0:Int))→HS (Z17 ty27 s ty2
 sky)∧post_1 (a,()) ())))))))∧∀(x:Bool × Unit)(y:Unit),post_1 x y→Br x.1 (post ([],(0:Int),(1:Int),())) (∃(h:Z113 s),∀ a,a=Zhf s→HS (Z1b9
 ty27 s ty2 a)∧∃(I:Int × Int × Unit→List Int × Unit→Prop),∃(μ:Int × Int × Unit→List Int × Unit→Nat),I ((0:Int),sky,()) (a.1,())∧∀(x:Int × Int × Unit)(y
 : List Int × Unit),I x y→∀ a_1,a_1=decide (x.1<(↑rs.length:Int))→Br a_1 (∃(h:(0:Int)≤x.1∧x.1<(↑rs.length:Int)),∀ a_2,a_2=decide (step<(rs.getD
 x.1.toNat Zj.dflt).2.2.1)→Br a_2 (HS (Zf1 ty27 s ty2 y a)∧I (i64.wrap (x.1+(1:Int)),x.2.1,()) (y.1,())∧μ (i64.wrap (x.1+(1:Int)),
 x.2.1,()) (y.1,())<μ x y) (∀ a_3,a_3=decide (step≥(rs.getD x.1.toNat Zj.dflt).2.2.2)→Br a_3 (HS (Zf1 ty27 s ty2 y a)∧I (i64.wrap (x.1+(1:
 Int)),x.2.1,()) (y.1,())∧μ (i64.wrap (x.1+(1:Int)),x.2.1,()) (y.1,())<μ x y) (∀ a_4,a_4=decide ((rs.getD x.1.toNat Zj.dflt).2.1 > (0:Int))→Br a_4
 (∃(h:(0:Int)≤(rs.getD x.1.toNat Zj.dflt).1∧(rs.getD x.1.toNat Zj.dflt).1<(↑a.1.length:Int)),∃(h:(0:Int)≤(rs.getD x.1.toNat Zj.dflt).1∧(rs.getD
 x.1.toNat Zj.dflt).1<(↑a.1.length:Int)),HS (Z1ba ty27 s ty2 y rs x a)∧I (i64.wrap (x.1+(1:Int)),i64.wrap (x.2.1 - imin (rs.getD x.1.toNat
 Zj.dflt).2.1 x.2.1),()) (y.1.set ((0:Nat)+(rs.getD x.1.toNat Zj.dflt).1.toNat) (i64.wrap (y.1.getD ((0:Nat)+(rs.getD x.1.toNat Zj.dflt).1.toNat) (0:
 Int)+imin (rs.getD x.1.toNat Zj.dflt).2.1 x.2.1)),())∧μ (i64.wrap (x.1+(1:Int)),i64.wrap (x.2.1 - imin (rs.getD x.1.toNat Zj.dflt).2.1 x.2.1),())
 (y.1.set ((0:Nat)+(rs.getD x.1.toNat Zj.dflt).1.toNat) (i64.wrap (y.1.getD ((0:Nat)+(rs.getD x.1.toNat Zj.dflt).1.toNat) (0:Int)+imin (rs.getD x.1.toNat
 Zj.dflt).2.1 x.2.1)),())<μ x y) (∀ a_5,a_5=decide ((rs.getD x.1.toNat Zj.dflt).2.1<(0:Int))→Br a_5 (∃(h:(0:Int)≤(rs.getD x.1.toNat Zj.dflt).1∧
 (rs.getD x.1.toNat Zj.dflt).1<(↑a.1.length:Int)),∃(h:(0:Int)≤(rs.getD x.1.toNat Zj.dflt).1∧(rs.getD x.1.toNat Zj.dflt).1<(↑a.1.length:Int)),∃(h:(0:
 Int)≤(rs.getD x.1.toNat Zj.dflt).1∧(rs.getD x.1.toNat Zj.dflt).1<(↑a.1.length:Int)),HS (Z1bb ty27 s ty2 y rs x a)∧I (i64.wrap (x.1+(1:Int)),
 i64.wrap (x.2.1+imin (i64.wrap ((0:Int) - (rs.getD x.1.toNat Zj.dflt).2.1)) (y.1.getD ((0:Nat)+(rs.getD x.1.toNat Zj.dflt).1.toNat) (0:Int))),())
 (y.1.set ((0:Nat)+(rs.getD x.1.toNat Zj.dflt).1.toNat) (i64.wrap (y.1.getD ((0:Nat)+(rs.getD x.1.toNat Zj.dflt).1.toNat) (0:Int) - imin (i64.wrap
 ((0:Int) - (rs.getD x.1.toNat Zj.dflt).2.1)) (y.1.getD ((0:Nat)+(rs.getD x.1.toNat Zj.dflt).1.toNat) (0:Int)))),())∧μ (i64.wrap (x.1+(1:Int)),
 i64.wrap (x.2.1+imin (i64.wrap ((0:Int) - (rs.getD x.1.toNat Zj.dflt).2.1)) (y.1.getD ((0:Nat)+(rs.getD x.1.toNat Zj.dflt).1.toNat) (0:Int))),())
 (y.1.set ((0:Nat)+(rs.getD x.1.toNat Zj.dflt).1.toNat) (i64.wrap (y.1.getD ((0:Nat)+(rs.getD x.1.toNat Zj.dflt).1.toNat) (0:Int) - imin (i64.wrap
 ((0:Int) - (rs.getD x.1.toNat Zj.dflt).2.1)) (y.1.getD ((0:Nat)+(rs.getD x.1.toNat Zj.dflt).1.toNat) (0:Int)))),())<μ x y) (HS (Zf1 ty27 s ty2 y a)∧I
 (i64.wrap (x.1+(1:Int)),x.2.1,()) (y.1,())∧μ (i64.wrap (x.1+(1:Int)),x.2.1,()) (y.1,())<μ x y))))) (((0:Nat)=(0:Nat)∧a.1.length=
 y.1.length)∧post (y.1,x.2.1,(0:Int),())))
theorem Z1ff(ty0 ty1:Nat)(s:List Int)(sky:Int)(rs:List (Int × Int × Int × Int))(step:Int)(h:Z1ke s sky rs step)(w:KS.wf [.slice (.int .i64),.int .i64,.slice Zj,.int .i64] (s,sky,rs,step,())):Zu4 ty0 ty1 s sky rs step (fun r=>r=Z11i s sky rs step):=by
 refine⟨fun x _=>x.1=Z6g s sky rs step,?_,?_⟩
 ·rintro _ rfl
  refine Br.intro (fun e1=>?_) fun e1=>?_
  ·refine⟨rfl,?_⟩
   show true=_
   unfold Z6g; rw[e1]; rfl
  refine⟨trivial,?_⟩
  rintro _ rfl
  rintro _ rfl
  refine Br.intro (fun e2=>?_) fun e2=>?_
  ·have e2:Z1y sky=true:=e2
   refine⟨rfl,?_⟩
   show true=_
   unfold Z6g; rw[e2,Bool.or_true]; rfl
  have e2:Z1y sky=false:=e2
  rintro _ rfl
  refine Br.intro (fun e3=>?_) fun e3=>?_
  ·have e3:decide (1024<(rs.length:Int))=true:=e3
   refine⟨rfl,?_⟩
   show true=_
   unfold Z6g; rw[e3,Bool.or_true]; rfl
  have e3:decide (1024<(rs.length:Int))=false:=e3
  have key:Z6g s sky rs step=(s.any Z1y||rs.any (fun r=>!Z2d s.length r)):=by
   unfold Z6g; rw[e1,e2,e3]; rfl
  rw[key]
  have wr:=w.1
  refine⟨rfl,fun x _=>∃ k:Nat,x.1=k∧k≤s.length∧∀ j,j<k→Z1y (s.getD j 0)=false,fun x _=>s.length - x.1.toNat,⟨0,rfl,by omega,fun j hj=>by omega⟩,?_⟩
  rintro⟨_,⟨⟩⟩ ⟨⟩ ⟨k,rfl,hk,hj⟩
  dsimp only
  rintro _ rfl
  refine Br.intro (fun e4=>?_) fun e4=>?_
  ·have hk2:k<s.length:=by have:=of_decide_eq_true e4; omega
   rw[Int.toNat_natCast]
   refine⟨⟨by omega,by omega⟩,?_⟩
   have bad:Z1y (s.getD k 0)=true→true=(s.any Z1y||rs.any (fun r=>!Z2d s.length r)):=fun q=>by
    rw[Z1sp hk2 q]; rfl
   rintro _ rfl
   refine Br.intro (fun e5=>?_) fun e5=>?_
   ·rintro _ rfl
    refine Br.intro (fun e6=>?_) fun e6=>absurd (show(k:Int)≥0 by omega) (of_decide_eq_false e6)
    exact⟨rfl,bad (by unfold Z1y; rw[e5]; rfl)⟩
   rintro _ rfl
   refine Br.intro (fun e6=>?_) fun e6=>?_
   ·rintro _ rfl
    refine Br.intro (fun e7=>?_) fun e7=>absurd (show(k:Int)≥0 by omega) (of_decide_eq_false e7)
    have e6:decide (4503599627370496<s.getD k 0)=true:=e6
    exact⟨rfl,bad (by unfold Z1y; rw[e6,Bool.or_true])⟩
   have e6:decide (4503599627370496<s.getD k 0)=false:=e6
   have ok:Z1y (s.getD k 0)=false:=by unfold Z1y; rw[e5,e6]; rfl
   rw[Z12 (n:=65536) (by have:=h.2.2.2; omega) (by omega)]
   refine⟨rfl,⟨k+1,rfl,by omega,fun j h=>?_⟩,by omega⟩
   by_cases ej:j=k
   ·subst ej; exact ok
   ·exact hj j (by omega)
  have hke:k=s.length:=by have:=of_decide_eq_false e4; omega
  subst hke
  rw[Z1ts (p:=Z1y) hj,Bool.false_or]
  rintro _ rfl
  refine Br.intro (fun e=>absurd (of_decide_eq_true e) (by decide)) fun _=>?_
  refine⟨rfl,fun x _=>∃ k:Nat,x.1=k∧k≤rs.length∧∀ j,j<k→Z2d s.length (rs.getD j Zj.dflt)=true,fun x _=>rs.length - x.1.toNat,⟨0,rfl,by omega,fun j hj=>by omega⟩,?_⟩
  rintro⟨_,⟨⟩⟩ ⟨⟩ ⟨k,rfl,hk,hj⟩
  dsimp only
  rintro _ rfl
  refine Br.intro (fun e7=>?_) fun e7=>?_
  rotate_left
  ·have hke:k=rs.length:=by have:=of_decide_eq_false e7; omega
   rintro _ rfl
   refine⟨rfl,?_⟩
   rw[Z1ec (p:=fun r=>Z2d s.length r) (l:=rs) (d:=Zj.dflt) (fun j h=>hj j (Nat.lt_of_lt_of_eq h hke.symm))]; rfl
  have hk2:k<rs.length:=by have:=of_decide_eq_true e7; omega
  rw[Int.toNat_natCast]
  refine⟨⟨by omega,by omega⟩,trivial,?_⟩
  rintro _ rfl
  rintro _ rfl
  refine Br.intro (fun e8=>?_) fun e8=>?_
  ·have e8:(!Z2d s.length (rs.getD k Zj.dflt))=true:=e8
   have e8:Z2d s.length (rs.getD k Zj.dflt)=false:=by simpa using e8
   rw[Z1ij (p:=fun r=>Z2d s.length r) (l:=rs) (d:=Zj.dflt) hk2 e8]
   rintro _ rfl
   refine⟨rfl,?_⟩
   show decide ((k:Int)≥0)=true
   rw[decide_eq_true (by omega)]
  ·have e8:(!Z2d s.length (rs.getD k Zj.dflt))=false:=e8
   have e8:Z2d s.length (rs.getD k Zj.dflt)=true:=by simpa using e8
   rw[Z12 (n:=1024) (by have:=of_decide_eq_false e3; omega) (by omega)]
   refine⟨rfl,⟨k+1,rfl,by omega,fun j h=>?_⟩,by omega⟩
   by_cases ej:j=k
   ·subst ej; exact e8
   ·exact hj j (by omega)
 rintro⟨_,⟨⟩⟩ ⟨⟩ rfl
 dsimp only
 refine Br.intro (fun e=>?_) fun e=>?_
 ·show _=((Z6y s sky rs step).1,(Z6y s sky rs step).2.1,(Z6y s sky rs step).2.2,())
  unfold Z6y; rw[if_pos e]
 obtain⟨s0,hl,B0,hrok⟩:=Z18a e
 refine⟨h.2.2.2,?_⟩
 rintro _ rfl
 refine⟨rfl,fun x y=>∃ k:Nat,x.1=k∧k≤rs.length∧Z9f step rs (s,sky) k=(y.1,x.2.1),fun x _=>rs.length - x.1.toNat,⟨0,rfl,by omega,rfl⟩,?_⟩
 rintro⟨_,sk,⟨⟩⟩ ⟨y,⟨⟩⟩ ⟨k,rfl,hk,hK⟩
 dsimp only at hK ⊢
 have BB:=Zvg (step:=step) B0 hrok k hk
 rw[hK]at BB
 have hsl:(Zhf s).1=s:=rfl
 rw[hsl,Int.toNat_natCast,Nat.zero_add]
 rintro _ rfl
 refine Br.intro (fun e5=>?_) fun e5=>?_
 rotate_left
 ·have e5:k=rs.length:=by have:=of_decide_eq_false e5; omega
  subst e5
  refine⟨⟨rfl,BB.1.symm⟩,?_⟩
  show _=((Z6y s sky rs step).1,(Z6y s sky rs step).2.1,(Z6y s sky rs step).2.2,())
  unfold Z6y; rw[if_neg (by rw[e]; decide),hK]
 have e5:k<rs.length:=by have:=of_decide_eq_true e5; omega
 obtain⟨p1,p2,p3,p4⟩:=BB
 dsimp only at p1 p2 p3 p4
 have rk:=hrok k e5
 have hst:Z9f step rs (s,sky) (k+1)=Z42 step (rs.getD k Zj.dflt) (y,sk):=by rw[Z120,hK]
 generalize rs.getD k Zj.dflt=r at *
 obtain⟨q1,q2,q3⟩:=Zo2 rk
 refine⟨⟨by omega,by omega⟩,?_⟩
 rintro _ rfl
 have same:(decide (step<r.2.2.1)||decide (r.2.2.2≤step))=true→Z42 step r (y,sk)=(y,sk):=fun q=>by
  unfold Z42; rw[if_pos q]
 refine Br.intro (fun e6=>?_) fun e6=>?_
 ·rw[Z12 e5 (by omega)]
  exact⟨rfl,⟨k+1,rfl,by omega,by rw[hst,same (by rw[e6]; rfl)]⟩,by omega⟩
 rintro _ rfl
 refine Br.intro (fun e7=>?_) fun e7=>?_
 ·rw[Z12 e5 (by omega)]
  have e7:decide (r.2.2.2≤step)=true:=e7
  exact⟨rfl,⟨k+1,rfl,by omega,by rw[hst,same (by rw[e7,Bool.or_true])]⟩,by omega⟩
 have e7:decide (r.2.2.2≤step)=false:=e7
 have no:¬ (decide (step<r.2.2.1)||decide (r.2.2.2≤step))=true:=by rw[e6,e7]; decide
 have pc:=p2 r.1.toNat
 rintro _ rfl
 refine Br.intro (fun e8=>?_) fun e8=>?_
 ·have e8:0<r.2.1:=of_decide_eq_true e8
  have im:=Zo3 (a:=r.2.1) (b:=sk) (by omega) p3
  have g1:Z42 step r (y,sk)=(y.set r.1.toNat (y.getD r.1.toNat 0+imin r.2.1 sk),sk - imin r.2.1 sk):=by
   unfold Z42; rw[if_neg no,if_pos e8]
  rw[Z12 e5 (by omega),wi (x:=sk - imin r.2.1 sk) ⟨by omega,by omega⟩,wi (x:=y.getD r.1.toNat 0+imin r.2.1 sk) ⟨by omega,by omega⟩]
  exact⟨q1,q1,rfl,⟨k+1,rfl,by omega,by rw[hst,g1]⟩,by omega⟩
 have e8:¬ 0<r.2.1:=of_decide_eq_false e8
 rintro _ rfl
 refine Br.intro (fun e9=>?_) fun e9=>?_
 ·have e9:r.2.1<0:=of_decide_eq_true e9
  have wn:i64.wrap (0 - r.2.1)=-r.2.1:=by rw[wi ⟨by omega,by omega⟩]; omega
  rw[wn]
  have im:=Zo3 (a:=-r.2.1) (b:=y.getD r.1.toNat 0) (by omega) pc.1
  have g1:Z42 step r (y,sk)=(y.set r.1.toNat (y.getD r.1.toNat 0 - imin (-r.2.1) (y.getD r.1.toNat 0)),sk+imin (-r.2.1) (y.getD r.1.toNat 0)):=by
   unfold Z42; rw[if_neg no,if_neg e8,if_pos e9]
  rw[Z12 e5 (by omega),wi (x:=sk+imin (-r.2.1) (y.getD r.1.toNat 0)) ⟨by omega,by omega⟩,wi (x:=y.getD r.1.toNat 0 - imin (-r.2.1) (y.getD r.1.toNat 0)) ⟨by omega,by omega⟩]
  exact⟨q1,q1,q1,rfl,⟨k+1,rfl,by omega,by rw[hst,g1]⟩,by omega⟩
 have e9:¬ r.2.1<0:=of_decide_eq_false e9
 rw[Z12 e5 (by omega)]
 refine⟨rfl,⟨k+1,rfl,by omega,?_⟩,by omega⟩
 rw[hst]; unfold Z42; rw[if_neg no,if_neg e8,if_neg e9]
end Go.Lift

namespace Go.Lift
def Zqg:=fun(l:List Int)(post:Bool × Unit→Prop)=>HS []∧∃(I:Int × Int × Unit→Unit→Prop),∃(μ:Int × Int × Unit→Unit→Nat),I (0,0,()) ()∧∀(x
 : Int × Int × Unit) (y:Unit),I x y→∀ a,a=decide (x.1<(↑l.length:Int))→Br a (∃(h:(0:Int)≤x.1∧x.1<(↑l.length:Int)),∀ a,a=decide (l.getD x.1.toNat (0:
 Int)<(0:Int))→Br a (post (false,())) (∀ a,a=decide (l.getD x.1.toNat (0:Int) > i64.wrap ((4503599627370496:Int) - x.2.1))→Br a (post (false,()))
 (HS []∧I (i64.wrap (x.1+1),i64.wrap (x.2.1+l.getD x.1.toNat (0:Int)),()) ()∧μ (i64.wrap (x.1+1),i64.wrap (x.2.1+l.getD x.1.toNat
 (0:Int)),()) ()<μ x y))) (post (true,()))
theorem Z1bc(l:List Int)(w:KS.wf [.slice (.int .i64)] (l,())):Zqg  l (fun r=>r=Z1c3 l):=by
 have hl:l.length≤281474976710656:=w.1.1
 refine⟨rfl,fun x _=>∃ k:Nat,x.1=k∧k≤l.length∧0≤x.2.1∧x.2.1≤4503599627370496∧Z2l x.2.1 (l.drop k)=Z2l 0 l,fun x _=>l.length - x.1.toNat,⟨0,rfl,by omega,by decide,by decide,rfl⟩,?_⟩
 rintro⟨_,s,⟨⟩⟩ _ ⟨k,rfl,hk,s0,s1,hs⟩
 dsimp only at s0 s1 hs ⊢
 rintro _ rfl
 refine Br.intro (fun d=>?_) fun d=>?_
 rotate_left
 ·have d:k=l.length:=by have d:¬ (k:Int)<l.length:=of_decide_eq_false d; omega
  rw[d,List.drop_length]at hs
  exact congrArg r1 hs
 have d:k<l.length:=by have d:(k:Int)<l.length:=of_decide_eq_true d; omega
 rw[Z1sf d,Zg6]at hs
 rw[Int.toNat_natCast,Zq (x:=4503599627370496 - s) (by omega) (by omega),Z12 d (by omega)]
 refine⟨⟨by omega,by omega⟩,?_⟩
 rintro _ rfl
 refine Br.intro (fun e=>?_) fun e=>?_
 ·have e:at0 l k<0:=of_decide_eq_true e
  rw[if_pos (.inl e)]at hs
  exact congrArg r1 hs
 have e:¬ at0 l k<0:=of_decide_eq_false e
 rintro _ rfl
 refine Br.intro (fun f=>?_) fun f=>?_
 ·have f:at0 l k > 4503599627370496 - s:=of_decide_eq_true f
  rw[if_pos (.inr f)]at hs
  exact congrArg r1 hs
 have f:¬ at0 l k > 4503599627370496 - s:=of_decide_eq_false f
 rw[if_neg (by omega)]at hs
 have ws:i64.wrap (s+l.getD k 0)=s+at0 l k:=Zq (by show _≤s+at0 l k; omega) (by show s+at0 l k<_; omega)
 rw[ws]
 exact⟨rfl,⟨k+1,rfl,by omega,by omega,by omega,hs⟩,by omega⟩
def Z6q:=fun(l:List Int)(post:List Int × Unit→Prop)=>∀(a:Bool),(a=true→l.length=(0:Nat))→∀(a_1:Bool),(a_1=if false
 = true then !a else a)→Br a_1 (post ([],())) (∃(h:(0:Nat)=(0:Nat)∧((0:Nat)+l.length)*(8:Nat)≤(140737488355328:Nat)),((0:Nat)=(0:Nat)∧(0:
 Nat)+l.length=([]++l).length)∧post ([]++l,()))
theorem Zeo(l:List Int)(h:Z113 l):Z6q  l (fun r=>r=Zhf l):=by
 intro a ha a1 h1
 have h1:a1=a:=h1
 subst h1
 refine Br.intro (fun e=>?_) fun e=>?_
 ·have:=List.eq_nil_of_length_eq_zero (ha e)
  subst this; rfl
 ·have hl:l.length≤65536:=h
  exact⟨⟨by trivial,by omega⟩,⟨by trivial,by rw[List.nil_append]; omega⟩,by rw[List.nil_append]; rfl⟩
def Zkb:=fun(bed:List Nat)(c:Int)(post:Int × Unit→Prop)=>post ((-1:Int),())
theorem Z13n(bed:List Nat)(c:Int)(h:Zv5 none bed c):Zkb  bed c (fun r=>r=Za0 none bed c):=by
 exact rfl
def Zkc:=fun(g:YG)(bed:List Nat)(c:Int)(post:Int × Unit→Prop)=>∃(h:True),∀ a,a=((↑bed.length:Int) != (Z1u (some g)).1)→Br a (post
 ((-1:Int),())) (∀ a,a=decide (c<(0:Int))→Br a (post ((-1:Int),())) (∀ a,a=decide (c≥(↑bed.length:Int))→Br a (post ((-1:Int),())) (HS []∧∃(I:Int ×
 Int × Unit→Unit→Prop),∃(μ:Int × Int × Unit→Unit→Nat),I (0,(-1),()) ()∧∀(x:Int × Int × Unit)(y:Unit),I x y→∀ a,a=decide (x.1<(4:Int))→Br a (∃(h
 : WNet (some g) c x.1),∀ a,a=Z40 (some g) c x.1→∃(h:Z2s (some g) a.1),∀ a_1,a_1=decide (x.2.1≥(0:Int))→Br a_1 (∃(h:(0:Int)≤
 i64.wrap (i64.wrap ((Z7 (some g) a.1).1.1+(Z7 (some g) a.1).1.2.2.1) - c)∧i64.wrap (i64.wrap ((Z7 (some g)
 a.1).1.1+(Z7 (some g) a.1).1.2.2.1) - c)<(↑bed.length:Int)),∃(h:(0:Int)≤x.2.1∧x.2.1<(↑bed.length:Int)),∃(h:W2 (bed.getD (i64.wrap
 (i64.wrap ((Z7 (some g) a.1).1.1+(Z7 (some g) a.1).1.2.2.1) - c)).toNat (0:Nat)) (bed.getD x.2.1.toNat (0:Nat))),∀ a_2,a_2=Z8k
 (bed.getD (i64.wrap (i64.wrap ((Z7 (some g) a.1).1.1+(Z7 (some g) a.1).1.2.2.1) - c)).toNat (0:Nat)) (bed.getD x.2.1.toNat (0:Nat))→∀
 a_3,a_3=decide (a_2.1 > (0:Int))→Br a_3 (HS []∧I (i64.wrap (x.1+1),x.2.1,()) ()∧μ (i64.wrap (x.1+1),x.2.1,()) ()<μ x y) (∀ a_4,a_4=(a_2.1
 == (0:Int))→Br a_4 (∀ a_5,a_5=decide (i64.wrap (i64.wrap ((Z7 (some g) a.1).1.1+(Z7 (some g) a.1).1.2.2.1) - c) > x.2.1)→Br a_5
 (HS []∧I (i64.wrap (x.1+1),x.2.1,()) ()∧μ (i64.wrap (x.1+1),x.2.1,()) ()<μ x y) (HS []∧I (i64.wrap (x.1+1),i64.wrap
 (i64.wrap ((Z7 (some g) a.1).1.1+(Z7 (some g) a.1).1.2.2.1) - c),()) ()∧μ (i64.wrap (x.1+1),i64.wrap (i64.wrap
 ((Z7 (some g) a.1).1.1+(Z7 (some g) a.1).1.2.2.1) - c),()) ()<μ x y)) (HS []∧I (i64.wrap (x.1+1),i64.wrap (i64.wrap
 ((Z7 (some g) a.1).1.1+(Z7 (some g) a.1).1.2.2.1) - c),()) ()∧μ (i64.wrap (x.1+1),i64.wrap (i64.wrap ((Z7 (some g)
 a.1).1.1+(Z7 (some g) a.1).1.2.2.1) - c),()) ()<μ x y))) (HS []∧I (i64.wrap (x.1+1),i64.wrap (i64.wrap ((Z7 (some g)
 a.1).1.1+(Z7 (some g) a.1).1.2.2.1) - c),()) ()∧μ (i64.wrap (x.1+1),i64.wrap (i64.wrap ((Z7 (some g) a.1).1.1+(Z7
 (some g) a.1).1.2.2.1) - c),()) ()<μ x y)) (∃(h:(0:Int)≤x.2.1∧x.2.1<(↑bed.length:Int)),∃(h:(0:Int)≤c∧c<(↑bed.length:Int)),∃(h:W2 (bed.getD
 x.2.1.toNat (0:Nat)) (bed.getD c.toNat (0:Nat))),∀ a,a=Z8k (bed.getD x.2.1.toNat (0:Nat)) (bed.getD c.toNat (0:Nat))→∀ a_1,a_1=decide (a.1≥(0:Int))→Br
 a_1 (post ((-1:Int),())) (post (x.2.1,()))))))
theorem Z13o(g:YG)(bed:List Nat)(c:Int)(h:Zv5 (some g) bed c)(w:KS.wf [.ptr Z28,.slice (.flt .f64),.int .i64] ((some g),bed,c,())):Zkc  g bed c (fun r=>r=Za0 (some g) bed c):=by
 obtain⟨hg,hw⟩:=h
 obtain⟨n,gn,rfl⟩:=Z48 hg
 have hC:(Z1u (some (netG n))).1=Z2 n:=Z1w n
 have hR:Za0 (some (netG n)) bed c=r1 (Z4f true (Z2 n) n bed c):=by unfold Za0; rw[Z1w]; rfl
 have cr:=Z37 n
 refine⟨trivial,?_⟩
 rw[hC,hR]
 rintro _ rfl
 refine Br.intro (fun e=>congrArg r1 (Zso (.inl (bne_iff_ne.1 e))).symm) fun e=>?_
 have e1:(bed.length:Int)=Z2 n:=by simpa using e
 rintro _ rfl
 refine Br.intro (fun e=>congrArg r1 (Zso (.inr (.inl (of_decide_eq_true e)))).symm) fun e=>?_
 have e2:=of_decide_eq_false e
 rintro _ rfl
 refine Br.intro (fun e=>congrArg r1 (Zso (.inr (.inr (of_decide_eq_true e)))).symm) fun e=>?_
 have e3:=of_decide_eq_false e
 rw[Zy5 e1 (by omega) (by omega)]
 have hp:Ze n c=true:=by
  obtain⟨k,rfl⟩:∃ k:Nat,c=k:=⟨c.toNat,by omega⟩
  exact Z3t (by omega)
 refine⟨rfl,fun x _=>∃ k:Nat,x.1=k∧k≤4∧x.2.1=Z24 n bed c k,fun x _=>4 - x.1.toNat,⟨0,rfl,by omega,rfl⟩,?_⟩
 rintro⟨_,_,⟨⟩⟩ _ ⟨k,rfl,hk,rfl⟩
 dsimp only
 have wg:∀ i:Int,0≤i→i<(bed.length:Int)→W64 (bed.getD i.toNat 0):=fun i h1 h2=>hw _ (Zw (by omega) 0)
 rintro _ rfl
 refine Br.intro (fun d=>?_) fun d=>?_
 rotate_left
 ·have d:k=4:=by have d:¬ (k:Int)<4:=of_decide_eq_false d; omega
  subst d
  obtain⟨b1,b2⟩:=Z1rb (bed:=bed) hp
  refine⟨⟨by omega,by omega⟩,⟨by omega,by omega⟩,⟨wg _ (by omega) (by omega),wg _ (by omega) (by omega)⟩,?_⟩
  rintro _ rfl
  rintro _ rfl
  refine Br.intro (fun q=>?_) fun q=>?_
  ·have q:¬ Z1r bed (Z24 n bed c 4)<Z1r bed c:=fun w=>absurd (of_decide_eq_true q) (by
    have:(Z8k (bed.getD (Z24 n bed c 4).toNat 0) (bed.getD c.toNat 0)).fst<0:=Z1ia.2 w
    omega)
   show((-1:Int),())=(Z9d n bed c,())
   unfold Z9d
   rw[if_neg q]
  ·have q:Z1r bed (Z24 n bed c 4)<Z1r bed c:=Z1ia.1 (by
    have:¬ (Z8k (bed.getD (Z24 n bed c 4).toNat 0) (bed.getD c.toNat 0)).fst≥0:=of_decide_eq_false q
    show(Z8k (bed.getD (Z24 n bed c 4).toNat 0) (bed.getD c.toNat 0)).fst<0
    omega)
   show(Z24 n bed c 4,())=(Z9d n bed c,())
   unfold Z9d
   rw[if_pos q]
 have d:k<4:=by have d:(k:Int)<4:=of_decide_eq_true d; omega
 obtain⟨f1,f2,f3,f4⟩:=Zkp (bed:=bed) hp k hk
 obtain⟨t1,t2⟩:=Z6i hp d
 have hs:Z24 n bed c (k+1)=Znw bed (Z24 n bed c k) (Z1 n c k).1:=rfl
 have wk:i64.wrap ((k:Int)+1)=((k+1:Nat):Int):=Z12 d (by omega)
 have ok:Zh n c (k:Int)=true:=Zc.2 ⟨hp,by omega,by omega⟩
 obtain⟨q,hq,ha,ht⟩:=Z1si ok
 have hE:=(Z9x n (Z2 n).toNat (by omega)).2
 have hE:(netE n).1.length≤4*(Z2 n).toNat:=hE
 have et:i64.wrap (i64.wrap ((Z19 (some (netG n)) q).1+(Z19 (some (netG n)) q).2.2.1) - c)=(Z1 n c k).1:=by
  rw[ht,Zq (x:=c+(Z1 n c k).1) (by omega) (by omega),Zq (by omega) (by omega)]; omega
 refine⟨⟨hg,⟨by omega,by omega⟩,by omega,by omega⟩,?_⟩
 rintro _ rfl
 have hA:(Z40 (some (netG n)) c k).fst=q:=ha
 have hEd:(Z7 (some (netG n)) q).fst=Z19 (some (netG n)) q:=rfl
 rw[hA,hEd,et,wk]
 refine⟨⟨hg,by omega,by omega⟩,?_⟩
 have nskip:Z24 n bed c (k+1)=Z24 n bed c k→HIs [] []∧(∃ j:Nat,((k+1:Nat):Int)=j∧j≤4∧Z24 n bed c k=Z24 n bed c j)∧4 - (((k+1:Nat):Int)).toNat<4 - ((k:Nat):Int).toNat:=fun h=>⟨rfl,⟨k+1,rfl,by omega,h.symm⟩,by omega⟩
 have ntake:Z24 n bed c (k+1)=(Z1 n c k).1→HIs [] []∧(∃ j:Nat,((k+1:Nat):Int)=j∧j≤4∧(Z1 n c k).1=Z24 n bed c j)∧4 - (((k+1:Nat):Int)).toNat<4 - ((k:Nat):Int).toNat:=fun h=>⟨rfl,⟨k+1,rfl,by omega,h.symm⟩,by omega⟩
 rintro _ rfl
 refine Br.intro (fun f=>?_) fun f=>ntake (by rw[hs]; exact Zg7 (.inl (by have:=of_decide_eq_false f; omega)))
 have f:=of_decide_eq_true f
 refine⟨⟨t1,by omega⟩,⟨by omega,by omega⟩,⟨wg _ t1 (by omega),wg _ (by omega) (by omega)⟩,?_⟩
 rintro _ rfl
 have hcm:(Z8k (bed.getD (Z1 n c k).1.toNat 0) (bed.getD (Z24 n bed c k).toNat 0)).fst=cmpI (Z1r bed (Z1 n c k).1) (Z1r bed (Z24 n bed c k)):=rfl
 rw[hcm]
 rintro _ rfl
 refine Br.intro (fun g1=>nskip (by rw[hs]; exact Zny (by omega) (.inl (Zvc.1 (of_decide_eq_true g1))))) fun g1=>?_
 have g1:¬ Z1r bed (Z1 n c k).1 > Z1r bed (Z24 n bed c k):=fun w=>of_decide_eq_false g1 (Zvc.2 w)
 rintro _ rfl
 refine Br.intro (fun g2=>?_) fun g2=>ntake (by
  rw[hs]
  have g2:¬ cmpI (Z1r bed (Z1 n c k).1) (Z1r bed (Z24 n bed c k))=0:=by simpa using g2
  rw[Z1ib]at g2
  exact Zg7 (.inr (.inl (by omega))))
 have g2:Z1r bed (Z1 n c k).1=Z1r bed (Z24 n bed c k):=Z1ib.1 (by simpa using g2)
 rintro _ rfl
 exact Br.intro (fun g3=>nskip (by rw[hs]; exact Zny (by omega) (.inr ⟨g2,by have:=of_decide_eq_true g3; omega⟩))) fun g3=>ntake (by rw[hs]; exact Zg7 (.inr (.inr ⟨g2,by have:=of_decide_eq_false g3; omega⟩)))
end Go.Lift

namespace Go.Lift
end Go.Lift

namespace Go.Lift
end Go.Lift

namespace Go.Lift
open Go.Proofs
end Go.Lift

namespace Go.Lift
end Go.Lift

namespace Go.Lift
open Go.Proofs
end Go.Lift

namespace Go.Lift
open Go.Proofs
end Go.Lift

namespace Go.Lift
def Zi9:=fun(a b:Nat)(post:Int × Unit→Prop)=>∃(h:True),∃(h:True),∃(h:W2 (Zt a).1 (Zt b).1),post ((ordR (Zt a).1 (Zt b).1).1,())
theorem Zyw(a:Nat)(b:Nat)(h:W2 a b):Zi9  a b (fun r=>r=Z8k a b):=by
 exact⟨trivial,trivial,⟨Z62 h.1,Z62 h.2⟩,rfl⟩
def Z7a:=fun(x y:Int)(post:Int × Unit→Prop)=>False
theorem Zr3(x:Int)(y:Int)(h:WCmp x y none):Z7a  x y (fun r=>r=Zax x y none):=by
 obtain⟨_,e,_⟩:=h
 cases e
def Z7b:=fun(x y:Int)(p:List Nat)(post:Int × Unit→Prop)=>∃(h:(0:Int)≤y∧y<(↑p.length:Int)),∃(h:(0:Int)≤x∧x<(↑p.length:Int)),
 ∃(h:W2 (p.getD y.toNat (0:Nat)) (p.getD x.toNat (0:Nat))),∀ a,a=Z8k (p.getD y.toNat (0:Nat)) (p.getD x.toNat (0:Nat))→post (a.1,())
theorem Zr4(x:Int)(y:Int)(p:List Nat)(h:WCmp x y (some p)):Z7b  x y p (fun r=>r=Zax x y (some p)):=by
 obtain⟨bed,e,hx,hy,hw⟩:=h
 cases e
 refine⟨hy,hx,⟨hw _ (Zw (by omega) 0),hw _ (Zw (by omega) 0)⟩,?_⟩
 rintro _ rfl
 rfl
end Go.Lift

namespace Go.Lift
open Go.Proofs
def Z18w:Cx:=⟨Z1t Z23,Z21 [(99,Z43),(204,Z8q)],SqG⟩
theorem Zu5:CxOk Tryz.prog Z18w:=⟨Zn Zy,Zu ⟨Z50,Zcl,trivial⟩⟩
def Z8x:Con:=Con.nam [.flt .f64,.flt .f64] [.snap (.int .i64)] (fun x=>W2 x.1 x.2.1) (fun x=>Z8k x.1 x.2.1)
theorem Zfh:SqH Z8x 166:=
 nP Zu5 Z3 Zd nHn Tryz.func166 (fun x p=>Zi9  x.1 x.2.1 p) fun x h _=>Zyw  x.1 x.2.1 h
def Z18x:Cx:=addC 166 Z8x Z18w
theorem Z1fg:CxOk Tryz.prog Z18x:=Zm Zu5 Zfh
def Zep:Con:=Con.nam [.int .i64,.int .i64,.ptr (.slice (.flt .f64))] [.snap (.int .i64)] (fun x=>WCmp x.1 x.2.1 x.2.2.1) (fun x=>Zax x.1 x.2.1 x.2.2.1)
def Z7c:Hn:=nHn
abbrev Z86:Cx:=Z18x
theorem Zmz:CxOk Tryz.prog Z86:=Z1fg
theorem Zr5:FnAt Tryz.prog 165 Tryz.f165.ntmps Tryz.f165.results.toList (Tryz.f165.body.getD .skip):=⟨Tryz.f165,Tryz.func165,rfl,rfl,by simp,by decide⟩
theorem Zn0(x:Int)(y:Int)(post:Int × Unit→Prop):Z3w Z86 Z7c Tryz.f165.ntmps Tryz.f165.results.toList (Tryz.f165.body.getD .skip) [.int .i64,.int .i64,.ptr (.slice (.flt .f64))] [.snap (.int .i64)] (x,y,none,()) post=Z7a  x y post:=by kernel_rfl
theorem Zn1(x:Int)(y:Int)(p:List Nat)(post:Int × Unit→Prop):Z3w Z86 Z7c Tryz.f165.ntmps Tryz.f165.results.toList (Tryz.f165.body.getD .skip) [.int .i64,.int .i64,.ptr (.slice (.flt .f64))] [.snap (.int .i64)] (x,y,(some p),()) post=Z7b  x y p post:=by kernel_rfl
def Zu6(x:KS [.int .i64,.int .i64,.ptr (.slice (.flt .f64))])(post:RS [.snap (.int .i64)]→Prop):Prop:=match x with
 | (z0,z1,none,y)=>Z7a  z0 z1 post
 | (z0,z1,some g,y)=>Z7b  z0 z1 g post
theorem Zu7:Zep.holds Tryz.prog SqG 165:=
 Z5k (detP Zmz Z3 Z7c Zr5 (F:=Zu6) (fun x post=>match x with
  | (z0,z1,none,y)=>Zn0 z0 z1 post
  | (z0,z1,some g,y)=>Zn1 z0 z1 g post) fun x h w=>match x,h,w with
  | (z0,z1,none,y),h,w=>Zr3  z0 z1 h
  | (z0,z1,some g,y),h,w=>Zr4  z0 z1 g h )
end Go.Lift

namespace Go.Lift
open Go.Proofs
def Z1ot:Cx:=⟨Z1t Z23,Z21 [(32,Z29),(33,Z3q),(77,Z4c),(166,Z8x)],SqG⟩
theorem Zia:CxOk Tryz.prog Z1ot:=⟨Zn Zy,Zu ⟨Z2i,Z4o,Z5z,Zfh,trivial⟩⟩
def Zn2:Con:=Con.nam [.slice (.int .i64)] [.snap .bool] (fun _=>True) (fun x=>Z1c3 x.1)
theorem Z16m:SqH Zn2 86:=
 nP Zia Z3 Zd ({loops:=Z10 [(3,{ls:=[(.slot 8,.data (.int .i64)),(.slot 3,.data (.int .i64))],os:=[]})],joins:=fun _=>none,named:=true}) Tryz.func86 (fun x p=>Zqg  x.1 p) fun x _ w=>Z1bc  x.1 w
def Z44:Con:=Con.nam [.slice (.int .i64)] [.own 2 (.int .i64)] (fun x=>Z113 x.1) (fun x=>Zhf x.1)
theorem Z6l:SqH Z44 83:=
 nP Zia Z3 Zd ({loops:=fun _=>none,joins:=fun _=>none,named:=true}) Tryz.func83 (fun x p=>Z6q  x.1 p) fun x h _=>Zeo  x.1 h
def Zn3:Con:=Con.nam [.ptr Z28,.slice (.flt .f64),.int .i64] [.snap (.int .i64)] (fun x=>Zv5 x.1 x.2.1 x.2.2.1) (fun x=>Za0 x.1 x.2.1 x.2.2.1)
theorem Z16n:SqH Zn3 88:=
 nPs Zia Z3 Zd ({loops:=Z10 [(5,{ls:=[(.slot 34,.data (.int .i64)),(.slot 7,.data (.int .i64))],os:=[]})],joins:=fun _=>none,named:=true}) Tryz.func88 (fun y p=>Zkb  y.1 y.2.1 p) (fun z y p=>Zkc  z y.1 y.2.1 p) (fun y h _=>Z13n  y.1 y.2.1 h) fun z y h w=>Z13o  z y.1 y.2.1 h w
end Go.Lift

namespace Go.Lift
open Go.Proofs
def Z13p:Cx:=⟨Z1t Z23,Z21 [(83,Z44),(64,Zcs)],SqG⟩
theorem Zf2:CxOk Tryz.prog Z13p:=⟨Zn Zy,Zu ⟨Z6l,Zmb,trivial⟩⟩
def Z58:Con:=Con.nam [.slice (.flt .f64)] [.own 22 (.flt .f64)] (fun x=>Z1e4 x.1) (fun x=>Z1e3 x.1)
theorem Z9l:SqH Z58 47:=
 nP Zf2 Z3 Zd ({loops:=fun _=>none,joins:=fun _=>none,named:=true}) Tryz.func47 (fun x p=>Z5b  x.1 p) fun x h _=>Zag  x.1 h
def Zib:Con:=Con.nam [.int .i64] [.snap .bool] (fun _=>True) (fun x=>Zy4 x.1)
theorem Zyx:SqH Zib 81:=
 nP Zf2 Z3 Zd ({loops:=Z10 [],joins:=fun _=>none,named:=true}) Tryz.func81 (fun x p=>Zka  x.1 p) fun x _ _=>Z13m  x.1
def Z1l4:Cx:=addC 81 Zib Z13p
theorem Zqh:CxOk Tryz.prog Z1l4:=Zm Zf2 Zyx
def Zqi:Con:=Con.nam [.slice (.int .i64),.int .i64,.slice Zj,.int .i64] [.own 2 (.int .i64),.snap (.int .i64),.snap (.int .i64)] (fun x=>Z1ke x.1 x.2.1 x.2.2.1 x.2.2.2.1) (fun x=>Z11i x.1 x.2.1 x.2.2.1 x.2.2.2.1)
theorem Z1bd:SqH Zqi 29:=
 nPI Zqh Z3 Zd ({loops:=Z10 [(8,{ls:=[(.slot 44,.data (.int .i64)),(.cell 1 0,.data (.int .i64))],os:=[(2,2,.int .i64)]})],joins:=Z10 [(3,{ls:=[(.slot 37,.data .bool)],os:=[]})],named:=true,inl:=inlL [82,62,84,85]}) (Z3n Zqh Z3 Z19k 6) Tryz.func29 (fun x p=>Zu4 27 2 x.1 x.2.1 x.2.2.1 x.2.2.2.1 p) fun x h w=>Z1ff 27 2 x.1 x.2.1 x.2.2.1 x.2.2.2.1 h w
end Go.Lift

namespace Go.Lift
def Zn4:=fun(s f:List Int)(post:List Int × Int × Unit→Prop)=>post ([],2,())
theorem Z16o(s:List Int)(f:List Int)(h:Z11h none s f):Zn4  s f (fun r=>r=Zb0 none s f):=by
 exact rfl
def Z13q(ty126:Nat)(s:List Int):List HObj:=[HObj.row Md.rw ty126 ((K.int u64).pair (K.int u64)) (List.replicate s.length ((K.int u64).pair (K.int u64)).dflt)]
def Z13r(ty126:Nat)(y:List (Int × Int) × Unit)(x:Int × Unit)(a:(Int × Int) × Unit):List HObj:=[HObj.row Md.rw ty126 ((K.int u64).pair (K.int u64)) (y.1.set ((0:Nat)+x.1.toNat) a.1)]
def Zbp(ty126:Nat)(y:List (Int × Int) × Unit):List HObj:=[HObj.row Md.rw ty126 ((K.int u64).pair (K.int u64)) y.1]
def Z13s(ty126:Nat)(y:List (Int × Int) × Unit)(g:YG)(x:Int × Unit)(a:(Int × Int) × Unit)(a_1:(Int × Int) × Unit):List HObj:=[HObj.row Md.rw ty126 ((K.int u64).pair (K.int u64)) ((y.1.set ((0:Nat)+(Z7 (some g) x.1).1.1.toNat) a.1).set ((0:Nat)+(Z7 (some g) x.1).1.2.2.1.toNat) a_1.1)]
def Z13t(ty126:Nat)(y:List (Int × Int) × Unit)(ty2:Nat)(s:List Int):List HObj:=Zbp ty126 y++[HObj.row Md.rw ty2 (K.int i64) (List.replicate s.length (0:Int))]
def Z13u(ty126:Nat)(y:List (Int × Int) × Unit)(ty2:Nat)(y_1:List Int × Unit)(x:Int × Unit)(a:Int × Bool × Unit):List HObj:=Zbp ty126 y++[HObj.row Md.rw ty2 (K.int i64) (y_1.1.set ((0:Nat)+x.1.toNat) a.1)]
def Zcx:=fun(ty126 ty2:Nat)(g:YG)(s f:List Int)(post:List Int × Int × Unit→Prop)=>∃(h:True),∀ a,a=((↑s.length:Int) != (Z1u (some
 g)).1)→Br a (post ([],(1:Int),())) (∃(h:True),∀ a,a=((↑f.length:Int) != (Z1b (some g)).1)→Br a (post ([],(1:Int),())) (∃(h:(0:Int)≤
 (↑s.length:Int)∧(↑s.length:Int)≤(↑s.length:Int)∧(↑s.length:Int)*(↑(16:Nat):Int)≤(281474976710656:Int)),HS (Z13q ty126 s)∧∃(I:Int × Unit→
 List (Int × Int) × Unit→Prop),∃(μ:Int × Unit→List (Int × Int) × Unit→Nat),I ((0:Int),()) (List.replicate s.length ((K.int u64).pair (K.int
 u64)).dflt,())∧∀(x:Int × Unit)(y:List (Int × Int) × Unit),I x y→∀ a,a=decide (x.1<(↑s.length:Int))→Br a (∃(h:(0:Int)≤x.1∧x.1<(↑s.length:
 Int)),∃(h:(0:Int)≤x.1∧x.1<(↑s.length:Int)),∃(h:Z7g (y.1.getD ((0:Nat)+x.1.toNat) ((K.int u64).pair (K.int u64)).dflt) (s.getD x.1.toNat (0
 : Int))),∀ a,a=Z11f (y.1.getD ((0:Nat)+x.1.toNat) ((K.int u64).pair (K.int u64)).dflt) (s.getD x.1.toNat (0:Int))→∃(h:(0:Int)≤x.1∧x.1 <
 (↑s.length:Int)),HS (Z13r ty126 y x a)∧I (i64.wrap (x.1+(1:Int)),()) (y.1.set ((0:Nat)+x.1.toNat) a.1,())∧μ (i64.wrap (x.1+(1:
 Int)),()) (y.1.set ((0:Nat)+x.1.toNat) a.1,())<μ x y) (HS (Zbp ty126 y)∧∃(I:Int × Unit→List (Int × Int) × Unit→Prop),∃(μ:Int × Unit→List (Int ×
 Int) × Unit→Nat),I ((0:Int),()) (y.1,())∧∀(x:Int × Unit)(y:List (Int × Int) × Unit),I x y→∀ a,a=decide (x.1<(↑f.length:Int))→Br a (∃(h:(0:Int)≤
 x.1∧x.1<(↑f.length:Int)),∃(h:Z2s (some g) x.1),∃(h:(0:Int)≤(Z7 (some g) x.1).1.1∧(Z7 (some g) x.1).1.1<(↑s.length:Int)),∃
 (h:Z7g (y.1.getD ((0:Nat)+(Z7 (some g) x.1).1.1.toNat) ((K.int u64).pair (K.int u64)).dflt) (f.getD x.1.toNat (0:Int))),∀ a,a=Zv9
 (y.1.getD ((0:Nat)+(Z7 (some g) x.1).1.1.toNat) ((K.int u64).pair (K.int u64)).dflt) (f.getD x.1.toNat (0:Int))→∃(h:(0:Int)≤(Z7
 (some g) x.1).1.1∧(Z7 (some g) x.1).1.1<(↑s.length:Int)),∃(h:(0:Int)≤(Z7 (some g) x.1).1.2.2.1∧(Z7 (some g) x.1).1.2.2.1 <
 (↑s.length:Int)),∃(h:Z7g ((y.1.set ((0:Nat)+(Z7 (some g) x.1).1.1.toNat) a.1).getD ((0:Nat)+(Z7 (some g) x.1).1.2.2.1.toNat) ((K.int
 u64).pair (K.int u64)).dflt) (f.getD x.1.toNat (0:Int))),∀ a_1,a_1=Z11f ((y.1.set ((0:Nat)+(Z7 (some g) x.1).1.1.toNat) a.1).getD ((0:Nat)
 + (Z7 (some g) x.1).1.2.2.1.toNat) ((K.int u64).pair (K.int u64)).dflt) (f.getD x.1.toNat (0:Int))→∃(h:(0:Int)≤(Z7 (some g)
 x.1).1.2.2.1∧(Z7 (some g) x.1).1.2.2.1<(↑s.length:Int)),HS (Z13s ty126 y g x a a_1)∧I (i64.wrap (x.1+(1:Int)),()) ((y.1.set ((0:Nat)
 + (Z7 (some g) x.1).1.1.toNat) a.1).set ((0:Nat)+(Z7 (some g) x.1).1.2.2.1.toNat) a_1.1,())∧μ (i64.wrap (x.1+(1:Int)),()) ((y.1.set ((0:
 Nat)+(Z7 (some g) x.1).1.1.toNat) a.1).set ((0:Nat)+(Z7 (some g) x.1).1.2.2.1.toNat) a_1.1,())<μ x y) (∃(h:(0:Int)≤(↑s.length:Int)∧
 (↑s.length:Int)≤(↑s.length:Int)∧(↑s.length:Int)*(↑(8:Nat):Int)≤(281474976710656:Int)),HS (Z13t ty126 y ty2 s)∧∃(I:Int × Unit→List Int × Unit
 → Prop),∃(μ:Int × Unit→List Int × Unit→Nat),I ((0:Int),()) (List.replicate s.length (0:Int),())∧∀(x:Int × Unit)(y_1:List Int × Unit),I x y_1→∀ a,a=
 decide (x.1<(↑s.length:Int))→Br a (∃(h:(0:Int)≤x.1∧x.1<(↑s.length:Int)),∃(h:Z11g ((y.1.getD ((0:Nat)+x.1.toNat) ((K.int u64).pair (K.int
 u64)).dflt).1,(y.1.getD ((0:Nat)+x.1.toNat) ((K.int u64).pair (K.int u64)).dflt).2)),∀ a,a=Z9e ((y.1.getD ((0:Nat)+x.1.toNat) ((K.int
 u64).pair (K.int u64)).dflt).1,(y.1.getD ((0:Nat)+x.1.toNat) ((K.int u64).pair (K.int u64)).dflt).2)→Br (!a.2.1) (post ([],(20:Int),()))
 (∀ a_1,a_1=decide (a.1<(0:Int))→Br a_1 (post ([],(20:Int),())) (∃(h:(0:Int)≤x.1∧x.1<(↑s.length:Int)),HS (Z13u ty126 y ty2 y_1 x a)∧I
 (i64.wrap (x.1+(1:Int)),()) (y_1.1.set ((0:Nat)+x.1.toNat) a.1,())∧μ (i64.wrap (x.1+(1:Int)),()) (y_1.1.set ((0:Nat)+x.1.toNat) a.1,())<μ x
 y_1))) (((0:Nat)=(0:Nat)∧s.length=y_1.1.length)∧post (y_1.1,(0:Int),()))))))
theorem Z16p(ty0 ty1:Nat)(g:YG)(s:List Int)(f:List Int)(h:Z11h (some g) s f):Zcx ty0 ty1 g s f (fun r=>r=Zb0 (some g) s f):=by
 obtain⟨hg,hs,hf⟩:=h
 obtain⟨n,gn,hgn⟩:=Z48 hg
 obtain rfl:g=netG n:=hgn
 obtain⟨m,hm⟩:∃ m,(netE n).1.length=m:=⟨_,rfl⟩
 have hE:(Z1b (some (netG n))).fst=(m:Int):=by rw[← hm]; rfl
 have hE2:Zp (some (netG n))=(m:Int):=hE
 have cr:=Z37 n
 have mb:m≤4*(Z2 n).toNat:=by
  rw[← hm]; exact(Z9x n (Z2 n).toNat (by omega)).2
 have hC:(Z1u (some (netG n))).fst=Z2 n:=Z1w n
 have key:Zb0 (some (netG n)) s f=if(!(decide ((s.length:Int)=Z2 n)&&decide ((f.length:Int)=m)))=true then([],1,())else if(List.range s.length).all (fun c=>decide (0≤hasV (some (netG n)) s f c)&&decide (hasV (some (netG n)) s f c<9223372036854775808))=true then((List.range s.length).map (hasV (some (netG n)) s f),0,())else([],20,()):=by
  unfold Zb0 Zg3; rw[if_neg (by simp),Z1w,hE2]; split
  ·rfl
  ·split <;> rfl
 unfold Zcx
 rw[hC,hE,key]
 refine⟨trivial,?_⟩
 rintro _ rfl
 refine Br.intro (fun e=>?_) fun e1=>?_
 ·have e:¬ (s.length:Int)=Z2 n:=by simpa using e
  rw[decide_eq_false e]; rfl
 have e1:(s.length:Int)=Z2 n:=by simpa using e1
 refine⟨trivial,?_⟩
 rintro _ rfl
 refine Br.intro (fun e=>?_) fun e2=>?_
 ·have e:¬ (f.length:Int)=m:=by simpa using e
  rw[decide_eq_false e,Bool.and_false]; rfl
 have e2:(f.length:Int)=m:=by simpa using e2
 rw[decide_eq_true e1,decide_eq_true e2,if_neg (by decide)]
 refine⟨⟨by omega,by omega,by omega⟩,rfl,fun x y=>∃ k:Nat,x.1=k∧k≤s.length∧y.1.length=s.length∧∀ c,c<s.length→y.1.getD c ((K.pair (K.int .u64) (K.int .u64)).dflt)=Z1j (if c<k then s.getD c 0 else 0),fun x _=>s.length - x.1.toNat,⟨0,rfl,by omega,List.length_replicate,fun c hc=>?_⟩,?_⟩
 ·rw[if_neg (Nat.not_lt_zero c)]
  show(List.replicate s.length ((0,0):Int × Int)).getD c (0,0)=_
  rw[List.getD_eq_getElem?_getD,List.getElem?_replicate,if_pos hc]; rfl
 rintro⟨_,⟨⟩⟩ ⟨y,⟨⟩⟩ ⟨k,rfl,hk,hy,hv⟩
 dsimp only at hy hv ⊢
 rintro _ rfl
 refine Br.intro (fun e3=>?_) fun e3=>?_
 ·have e3:k<s.length:=by have:=of_decide_eq_true e3; omega
  rw[Int.toNat_natCast,Nat.zero_add]
  have xi:I64 (s.getD k 0):=hs _ (Zw e3 0)
  have hw:Z7g (y.getD k ((K.pair (K.int .u64) (K.int .u64)).dflt)) (s.getD k 0):=by
   rw[hv k e3]; exact⟨(Z64 _).1,(Z64 _).2,xi⟩
  refine⟨⟨by omega,by omega⟩,⟨by omega,by omega⟩,hw,?_⟩
  rintro _ rfl
  refine⟨⟨by omega,by omega⟩,rfl,?_⟩
  rw[Z12 e3 (by omega)]
  refine⟨⟨k+1,rfl,by omega,by rw[List.length_set]; exact hy,?_⟩,by omega⟩
  exact Z1qr (v:=fun c=>s.getD c 0) e3 hy hv
 have e3:k=s.length:=by have:=of_decide_eq_false e3; omega
 subst e3
 refine⟨rfl,fun x y=>∃ k:Nat,x.1=k∧k≤m∧y.1.length=s.length∧∀ c,c<s.length→y.1.getD c ((K.pair (K.int .u64) (K.int .u64)).dflt)=Z1j (s.getD c 0+Z7z (fun k=>Z19 (some (netG n)) k) f c k),fun x _=>m - x.1.toNat,⟨0,rfl,by omega,hy,fun c hc=>?_⟩,?_⟩
 ·rw[hv c hc,if_pos hc]; unfold Z7z; rw[Int.add_zero]
 clear hv hy y
 rintro⟨_,⟨⟩⟩ ⟨y,⟨⟩⟩ ⟨k,rfl,hk,hy,hv⟩
 dsimp only at hy hv ⊢
 rintro _ rfl
 refine Br.intro (fun e4=>?_) fun e4=>?_
 ·have e4:k<m:=by have:=of_decide_eq_true e4; omega
  have isk:nIs (some (netG n)) k=true:=by
   show(decide (0≤(k:Int))&&decide ((k:Int)<((netE n).1.length:Nat)))=true
   rw[decide_eq_true (by omega),decide_eq_true (by omega)]; rfl
  have ec:=Zg8 isk
  have hL:0≤(Z19 (some (netG n)) k).1∧(Z19 (some (netG n)) k).1<(s.length:Int):=by omega
  have hR:0≤(Z19 (some (netG n)) k).2.2.1∧(Z19 (some (netG n)) k).2.2.1<(s.length:Int):=by omega
  have hE3:(Z7 (some (netG n)) k).fst=Z19 (some (netG n)) k:=rfl
  rw[hE3,Int.toNat_natCast,Nat.zero_add,Nat.zero_add]
  have xi:I64 (f.getD k 0):=hf _ (Zw (by omega) 0)
  have hw:Z7g (y.getD (Z19 (some (netG n)) k).1.toNat ((K.pair (K.int .u64) (K.int .u64)).dflt)) (f.getD k 0):=by
   rw[hv _ (by omega)]; exact⟨(Z64 _).1,(Z64 _).2,xi⟩
  refine⟨⟨by omega,by omega⟩,⟨hg,by omega,by omega⟩,hL,hw,?_⟩
  rintro _ rfl
  refine⟨hL,hR,?_⟩
  have ts:=Z1qs (x:=f.getD k 0) hL hR hy hv
  have hw2:Z7g ((y.set (Z19 (some (netG n)) k).1.toNat (Zv9 (y.getD (Z19 (some (netG n)) k).1.toNat ((K.pair (K.int .u64) (K.int .u64)).dflt)) (f.getD k 0)).1).getD (Z19 (some (netG n)) k).2.2.1.toNat ((K.pair (K.int .u64) (K.int .u64)).dflt)) (f.getD k 0):=Z1ki hL hR hy hv xi
  refine⟨hw2,?_⟩
  rintro _ rfl
  refine⟨hR,rfl,?_⟩
  rw[Z12 e4 (by omega)]
  refine⟨⟨k+1,rfl,by omega,by rw[List.length_set,List.length_set]; exact hy,fun c hc=>?_⟩,by omega⟩
  refine(ts c hc).trans (congrArg Z1j ?_)
  show _+_+_=_+(_+_+_)
  rw[Int.add_assoc,Int.add_assoc,Int.add_assoc]
 have e4:k=m:=by have:=of_decide_eq_false e4; omega
 subst e4
 have hm2:f.length=k:=by omega
 have hv:∀ c,c<s.length→y.getD c ((K.pair (K.int .u64) (K.int .u64)).dflt)=Z1j (hasV (some (netG n)) s f c):=fun c hc=>by
  rw[hv c hc]; unfold hasV; rw[hm2]
 refine⟨⟨by omega,by omega,by omega⟩,rfl,fun x y=>∃ k:Nat,x.1=k∧k≤s.length∧(∀ j,j<k→okV (hasV (some (netG n)) s f j)=true)∧y.1=(List.range k).map (hasV (some (netG n)) s f)++List.replicate (s.length - k) 0,fun x _=>s.length - x.1.toNat,⟨0,rfl,by omega,fun j hj=>by omega,rfl⟩,?_⟩
 rintro⟨_,⟨⟩⟩ ⟨_,⟨⟩⟩ ⟨j,rfl,hj,hok,rfl⟩
 dsimp only
 rintro _ rfl
 have lk:((List.range j).map (hasV (some (netG n)) s f)).length=j:=by rw[List.length_map,List.length_range]
 refine Br.intro (fun e5=>?_) fun e5=>?_
 rotate_left
 ·have e5:j=s.length:=by have:=of_decide_eq_false e5; omega
  subst e5
  rw[if_pos (Z1so hok),Nat.sub_self,List.replicate_zero,List.append_nil]
  exact⟨⟨rfl,lk.symm⟩,rfl⟩
 have e5:j<s.length:=by have:=of_decide_eq_true e5; omega
 rw[Int.toNat_natCast,show y.getD (0+j) ((K.pair (K.int .u64) (K.int .u64)).dflt)=Z1j (hasV (some (netG n)) s f j) by rw[Nat.zero_add]; exact hv j e5]
 have si:I64 (s.getD j 0):=hs _ (Zw e5 0)
 have br:=Z189 (ed:=fun k=>Z19 (some (netG n)) k) (c:=(j:Int)) hf f.length
 have hV:hasV (some (netG n)) s f j=s.getD j 0+Z7z (fun k=>Z19 (some (netG n)) k) f j f.length:=rfl
 have vb:-85070591730234615865843651857942052864≤hasV (some (netG n)) s f j∧hasV (some (netG n)) s f j<85070591730234615865843651857942052864:=by
  rw[hV]; obtain⟨s1,s2⟩:=si; omega
 have q:=Z1tr vb.1 vb.2
 refine⟨⟨by omega,by omega⟩,⟨(Z64 _).1,(Z64 _).2⟩,?_⟩
 rintro _ rfl
 refine Br.intro (fun e6=>?_) fun e6=>?_
 ·have e6:(!(Z9e (Z1j (hasV (some (netG n)) s f j))).2.1)=true:=e6
  have nI:=q.2 (by simpa using e6)
  rw[if_neg (Z1ed e5 fun z=>nI ⟨by omega,z.2⟩)]
 have e6:(!(Z9e (Z1j (hasV (some (netG n)) s f j))).2.1)=false:=e6
 obtain⟨q1,q2⟩:=q.1 (by simpa using e6)
 have q1:(Z9e ((Z1j (hasV (some (netG n)) s f j)).1,(Z1j (hasV (some (netG n)) s f j)).2)).1=hasV (some (netG n)) s f j:=q1
 rw[q1]
 rintro _ rfl
 refine Br.intro (fun e7=>?_) fun e7=>?_
 ·have e7:=of_decide_eq_true e7
  rw[if_neg (Z1ed e5 fun z=>by omega)]
 have e7:=of_decide_eq_false e7
 refine⟨⟨by omega,by omega⟩,rfl,?_⟩
 rw[Z12 e5 (by omega),Zo4 lk e5]
 refine⟨⟨j+1,rfl,by omega,fun i hi=>?_,?_⟩,by omega⟩
 ·by_cases ej:i=j
  ·subst ej; exact Z1ik.2 ⟨by omega,q2.2⟩
  ·exact hok i (by omega)
 rw[List.range_succ,List.map_append,List.map_singleton]
end Go.Lift

namespace Go.Lift
def Z8y:=fun(w:Int × Int)(x:Int)(post:(Int × Int) × Unit→Prop)=>∃(h:Z8l w.2 (u64.wrap x) (0:Int)),∀ a,a=addR w.2 (u64.wrap x)
 (0:Int)→∃(h:(0:Int)≤(63:Int)),∃(h:Z8l w.1 (u64.wrap (x.fdiv ((2:Int) ^ Min.min (Int.toNat (63:Int)) i64.bits))) a.2.1),∀ a_1,a_1=addR
 w.1 (u64.wrap (x.fdiv ((2:Int) ^ Min.min (Int.toNat (63:Int)) i64.bits))) a.2.1→post ((a_1.1,a.1),())
theorem Zw1(w:Int × Int)(x:Int)(h:Z7g w x):Z8y  w x (fun r=>r=Z11f w x):=by
 have hx:=h.2.2
 have c:=Z188 h
 unfold Z8y
 rw[ux hx,sx hx]
 refine⟨c.2.2,?_⟩
 rintro _ rfl
 refine⟨by decide,c.1,?_⟩
 rintro _ rfl
 exact congrArg (fun z=>(z,())) (Z1qq h)
def Z87:=fun(w:Int × Int)(x:Int)(post:(Int × Int) × Unit→Prop)=>∃(h:Z8l w.2 (u64.wrap x) (0:Int)),∀ a,a=subR w.2 (u64.wrap
 x) (0:Int)→∃(h:(0:Int)≤(63:Int)),∃(h:Z8l w.1 (u64.wrap (x.fdiv ((2:Int) ^ Min.min (Int.toNat (63:Int)) i64.bits))) a.2.1),∀ a_1,a_1=subR
 w.1 (u64.wrap (x.fdiv ((2:Int) ^ Min.min (Int.toNat (63:Int)) i64.bits))) a.2.1→post ((a_1.1,a.1),())
theorem Zu8(w:Int × Int)(x:Int)(h:Z7g w x):Z87  w x (fun r=>r=Zv9 w x):=by
 have hx:=h.2.2
 have c:=Z188 h
 unfold Z87
 rw[ux hx,sx hx]
 refine⟨c.2.2,?_⟩
 rintro _ rfl
 refine⟨by decide,c.2.1,?_⟩
 rintro _ rfl
 exact congrArg (fun z=>(z,())) (Z1o1 h)
def Z7d:=fun(w:Int × Int)(post:Int × Bool × Unit→Prop)=>∃(h:(0:Int)≤(63:Int)),∀ a,a=(w.1==u64.wrap ((i64.wrap w.2).fdiv
 ((2:Int) ^ Min.min (Int.toNat (63:Int)) i64.bits)))→post (i64.wrap w.2,a,())
theorem Zr6(w:Int × Int)(h:Z11g w):Z7d  w (fun r=>r=Z9e w):=by
 unfold Z7d
 rw[sx (Zy0 _)]
 refine⟨by decide,?_⟩
 rintro _ rfl
 exact Z1sn h
end Go.Lift

namespace Go.Lift
theorem Z2h.two {w w':World}{k l:K}{x:k.T}{y:l.T}{v u:Value}{ok:Nat→Prop}(h:∀ fr,KRep w' fr k x v)(h2:∀ fr,KRep w' fr l y u):Z2h w w' ok [.snap k,.snap l] (x,y,()) (.tuple #[v,u]):=
 ⟨[v,u],[],rfl,fun i j b h=>by simp at h,v,[u],[],[],rfl,rfl,⟨rfl,h _⟩,u,[],[],[],rfl,rfl,⟨rfl,h2 _⟩,rfl,rfl⟩
def Z1fh:Array Value→Sem Value:=fun args=>do
 let(x,y,b) ← Extern.MathBitsCarry.three "Sub64" args
 pure (Extern.MathBitsCarry.pair ((x+Extern.MathBitsCarry.m64 - y - b) % Extern.MathBitsCarry.m64) (if x<y+b then 1 else 0))
theorem Z1l5 {P:Program}(x y c:Int)(hx:0≤x)(hy:0≤y)(hx2:x<18446744073709551616)(hy2:y<18446744073709551616)(hc0:0≤c)(hc:c≤1)(w:World):
  (Z1fh #[.int .u64 x,.int .u64 y,.int .u64 c]).run P w=.ok (.tuple #[.int .u64 ((x - y - c) % 18446744073709551616),.int .u64 (if x - y - c<0 then 1 else 0)]) w:=by
 have key:∀ k:Nat,k≤1→(Z1fh #[.int .u64 x,.int .u64 y,.int .u64 (k:Int)]).run P w=
   .ok (Extern.MathBitsCarry.pair ((x.toNat+Extern.MathBitsCarry.m64 - y.toNat - k) % Extern.MathBitsCarry.m64) (if x.toNat<y.toNat+k then 1 else 0)) w:=by
  intro k hk
  have:k=0∨k=1:=by omega
  rcases this with rfl | rfl <;> rfl
 obtain⟨k,rfl⟩:=Int.eq_ofNat_of_zero_le hc0
 rw[key k (by omega)]
 obtain⟨X,rfl⟩:=Int.eq_ofNat_of_zero_le hx
 obtain⟨Y,rfl⟩:=Int.eq_ofNat_of_zero_le hy
 have e1:((((X+18446744073709551616 - Y - k) % 18446744073709551616:Nat):Int))=((X:Int) - Y - k) % 18446744073709551616:=by omega
 have e2:(((if X<Y+k then 1 else 0:Nat):Int))=if(X:Int) - Y - k<0 then 1 else 0:=by
  by_cases h:X<Y+k
  ·rw[if_pos h,if_pos (by omega)]; rfl
  ·rw[if_neg h,if_neg (by omega)]; rfl
 have e3:Extern.MathBitsCarry.pair (((X:Int).toNat+Extern.MathBitsCarry.m64 - (Y:Int).toNat - k) % Extern.MathBitsCarry.m64) (if(X:Int).toNat<(Y:Int).toNat+k then 1 else 0)=.tuple #[.int .u64 (((X+18446744073709551616 - Y - k) % 18446744073709551616:Nat):Int),.int .u64 ((if X<Y+k then 1 else 0:Nat):Int)]:=by
  simp only[Extern.MathBitsCarry.pair,Extern.MathBitsCarry.m64,Int.toNat_natCast]
  rfl
 rw[e3,e1,e2]
section
variable {P:Program} {G:Z7e} {f:FuncId} {fn:Func} (hf:P.funcs[f]?=some fn) (hname:(fn.name == "runtime.NumGoroutine")=false) (hb:fn.body.isNone=true) (hn:Extern.findNext fn=none)
include hf hname hb hn
theorem Z1ou(he:Extern.find fn=some add64Entry):(Con.det [.int .u64,.int .u64,.int .u64] [.snap (.int .u64),.snap (.int .u64)] (fun x=>Z8l x.1 x.2.1 x.2.2.1) (fun x=>addR x.1 x.2.1 x.2.2.1)).holds P G f:=by
 have main:∀(w:World)(ok:Nat→Prop)(x y c:Int)(vs:List Value),vs=[.int .u64 x,.int .u64 y,.int .u64 c]→Z8l x y c→Z2r P f vs.toArray w fun v w'=>Grows w w'∧Z2h w w' ok [.snap (.int .u64),.snap (.int .u64)] (addR x y c) v:=by
  rintro w ok x y c _ rfl ⟨hx,hy,h0,h1⟩
  refine .inl ⟨.tuple #[.int .u64 ((x+y+c) % 18446744073709551616),.int .u64 ((x+y+c) / 18446744073709551616)],w,?_,Grows.refl w,Z2h.two (k:=.int .u64) (l:=.int .u64) (fun _=>rfl) (fun _=>rfl)⟩
  rw[run_callFunc_extern hf hname hb hn he,show [Value.int .u64 x,.int .u64 y,.int .u64 c].toArray=#[.int .u64 x,.int .u64 y,.int .u64 c]from rfl,run_add64 x y c hx.1 hy.1 h0 h1]; rfl
 rintro w ok _ ⟨x,y,c,⟨⟩⟩ vs ⟨v,r,rfl,h1,v2,r2,rfl,h2,v3,r3,rfl,h3,rfl⟩ _ hp
 exact main w ok x y c _ (by rw[(List.cons.inj (show [v]=[Value.int .u64 x]from h1)).1,(List.cons.inj (show [v2]=[Value.int .u64 y]from h2)).1,(List.cons.inj (show [v3]=[Value.int .u64 c]from h3)).1]) hp
theorem Z1ov(he:Extern.find fn=some Z1fh):(Con.det [.int .u64,.int .u64,.int .u64] [.snap (.int .u64),.snap (.int .u64)] (fun x=>Z8l x.1 x.2.1 x.2.2.1) (fun x=>subR x.1 x.2.1 x.2.2.1)).holds P G f:=by
 have main:∀(w:World)(ok:Nat→Prop)(x y c:Int)(vs:List Value),vs=[.int .u64 x,.int .u64 y,.int .u64 c]→Z8l x y c→Z2r P f vs.toArray w fun v w'=>Grows w w'∧Z2h w w' ok [.snap (.int .u64),.snap (.int .u64)] (subR x y c) v:=by
  rintro w ok x y c _ rfl ⟨hx,hy,h0,h1⟩
  refine .inl ⟨.tuple #[.int .u64 ((x - y - c) % 18446744073709551616),.int .u64 (if x - y - c<0 then 1 else 0)],w,?_,Grows.refl w,Z2h.two (k:=.int .u64) (l:=.int .u64) (fun _=>rfl) (fun _=>rfl)⟩
  rw[run_callFunc_extern hf hname hb hn he,show [Value.int .u64 x,.int .u64 y,.int .u64 c].toArray=#[.int .u64 x,.int .u64 y,.int .u64 c]from rfl,Z1l5 x y c hx.1 hy.1 hx.2 hy.2 h0 h1]; rfl
 rintro w ok _ ⟨x,y,c,⟨⟩⟩ vs ⟨v,r,rfl,h1,v2,r2,rfl,h2,v3,r3,rfl,h3,rfl⟩ _ hp
 exact main w ok x y c _ (by rw[(List.cons.inj (show [v]=[Value.int .u64 x]from h1)).1,(List.cons.inj (show [v2]=[Value.int .u64 y]from h2)).1,(List.cons.inj (show [v3]=[Value.int .u64 c]from h3)).1]) hp
end
end Go.Lift

namespace Go.Lift
open Go.Proofs
def Z18y:Cx:=⟨Z1t Z23,Z21 [],SqG⟩
theorem Z1fi:CxOk Tryz.prog Z18y:=⟨Zn Zy,fun f c h=>by cases h⟩
def Zkd:Con:=Con.nam [.int .u64,.int .u64,.int .u64] [.snap (.int .u64),.snap (.int .u64)] (fun x=>Z8l x.1 x.2.1 x.2.2.1) (fun x=>addR x.1 x.2.1 x.2.2.1)
theorem Z13v:Zkd.holds Tryz.prog SqG 162:=Z5k (by
 refine Z1ou (fn:=Tryz.f162) Tryz.func162 (by decide) rfl rfl (by kernel_rfl))
def Z18z:Cx:=addC 162 Zkd Z18y
theorem Z1fj:CxOk Tryz.prog Z18z:=Zm Z1fi Z13v
def Zke:Con:=Con.nam [.int .u64,.int .u64,.int .u64] [.snap (.int .u64),.snap (.int .u64)] (fun x=>Z8l x.1 x.2.1 x.2.2.1) (fun x=>subR x.1 x.2.1 x.2.2.1)
theorem Z13w:Zke.holds Tryz.prog SqG 163:=Z5k (by
 refine Z1ov (fn:=Tryz.f163) Tryz.func163 (by decide) rfl rfl (by kernel_rfl))
def Z1ow:Cx:=addC 163 Zke Z18z
theorem Zic:CxOk Tryz.prog Z1ow:=Zm Z1fj Z13w
def Zeq:Con:=Con.nam [Znx,.int .i64] [.snap Znx] (fun x=>Z7g x.1 x.2.1) (fun x=>Z11f x.1 x.2.1)
theorem Zu9:SqH Zeq 76:=
 nP Zic Z3 Zd ({loops:=Z10 [],joins:=fun _=>none,named:=true}) Tryz.func76 (fun x p=>Z8y  x.1 x.2.1 p) fun x h _=>Zw1  x.1 x.2.1 h
def Zbz:Con:=Con.nam [Znx,.int .i64] [.snap Znx] (fun x=>Z7g x.1 x.2.1) (fun x=>Zv9 x.1 x.2.1)
theorem Zr7:SqH Zbz 78:=
 nP Zic Z3 Zd ({loops:=Z10 [],joins:=fun _=>none,named:=true}) Tryz.func78 (fun x p=>Z87  x.1 x.2.1 p) fun x h _=>Zu8  x.1 x.2.1 h
def Zbq:Con:=Con.nam [Znx] [.snap (.int .i64),.snap .bool] (fun x=>Z11g x.1) (fun x=>Z9e x.1)
theorem Zok:SqH Zbq 79:=
 nP Zic Z3 Zd nHn Tryz.func79 (fun x p=>Z7d  x.1 p) fun x h _=>Zr6  x.1 h
end Go.Lift

namespace Go.Lift
open Go.Proofs
def Z1ox:Cx:=⟨Z1t Z23,Z21 [(32,Z29),(31,Z2j),(76,Zeq),(77,Z4c),(78,Zbz),(79,Zbq)],SqG⟩
theorem Z1fk:CxOk Tryz.prog Z1ox:=⟨Zn Zy,Zu ⟨Z2i,Z2u,Zu9,Z5z,Zr7,Zok,trivial⟩⟩
def Zqj:Con:=Con.nam [.ptr Z28,.slice (.int .i64),.slice (.int .i64)] [.own 2 (.int .i64),.snap (.int .i64)] (fun x=>Z11h x.1 x.2.1 x.2.2.1) (fun x=>Zb0 x.1 x.2.1 x.2.2.1)
theorem Z1be:SqH Zqj 28:=
 nPs Z1fk Z3 Zd ({loops:=Z10 [(7,{ls:=[(.slot 39,.data (.int .i64))],os:=[(0,126,Znx)]}),(12,{ls:=[(.slot 56,.data (.int .i64))],os:=[(0,126,Znx)]}),(20,{ls:=[(.slot 95,.data (.int .i64))],os:=[(1,2,.int .i64)]})],joins:=fun _=>none,named:=true}) Tryz.func28 (fun y p=>Zn4  y.1 y.2.1 p) (fun z y p=>Zcx 126 2 z y.1 y.2.1 p) (fun y h _=>Z16o  y.1 y.2.1 h) fun z y h _=>Z16p 126 2 z y.1 y.2.1 h
end Go.Lift

namespace Go.Lift
def Zn5:=fun(s:YS)(post:List Int × List Int × Int × Unit→Prop)=>post ([],[],2,())
theorem Z16q(s:YS)(h:WRun none s):Zn5  s (fun r=>r=Z6x none s):=by
 exact rfl
def Z13x(ty29:Nat)(s:YS)(ty2:Nat)(a:List Int × Unit)(a_3:List Int × Unit)(ty3:Nat)(a_4:List Int × Unit):List HObj:=[HObj.box Md.rw ty29 [SV.data (K.flt f64).slice s.1,SV.data (K.int i64).slice s.2.1,SV.data (K.int i64).slice s.2.2.1,SV.data (K.flt f64).slice s.2.2.2.1,SV.val (Go.Value.int i64 s.2.2.2.2.1),SV.val (Go.Value.int i64 s.2.2.2.2.2)],HObj.row Md.rw ty2 (K.int i64) a.1,HObj.row Md.rw ty2 (K.int i64) a_3.1,HObj.row Md.rw ty3 (K.int i64) a_4.1]
def Zbr(ty29:Nat)(s:YS)(ty2:Nat)(y:List Int × List Int × Unit)(ty3:Nat)(a_4:List Int × Unit):List HObj:=[HObj.box Md.rw ty29 [SV.data (K.flt f64).slice s.1,SV.data (K.int i64).slice s.2.1,SV.data (K.int i64).slice s.2.2.1,SV.data (K.flt f64).slice s.2.2.2.1,SV.val (Go.Value.int i64 s.2.2.2.2.1),SV.val (Go.Value.int i64 s.2.2.2.2.2)],HObj.row Md.rw ty2 (K.int i64) y.1,HObj.row Md.rw ty2 (K.int i64) y.2.1,HObj.row Md.rw ty3 (K.int i64) a_4.1]
def Z13y(ty29:Nat)(s:YS)(ty2:Nat)(y:List Int × List Int × Unit)(a_4:List Int × Unit)(x:Int × Unit)(a_6:Int × Unit)(ty3:Nat):List HObj:=[HObj.box Md.rw ty29 [SV.data (K.flt f64).slice s.1,SV.data (K.int i64).slice s.2.1,SV.data (K.int i64).slice s.2.2.1,SV.data (K.flt f64).slice s.2.2.2.1,SV.val (Go.Value.int i64 s.2.2.2.2.1),SV.val (Go.Value.int i64 s.2.2.2.2.2)],HObj.row Md.rw ty2 (K.int i64) ((y.1.set ((0:Nat)+Int.toNat (a_4.1.getD ((0:Nat)+x.1.toNat) (0:Int))) (i64.wrap (y.1.getD ((0:Nat)+Int.toNat (a_4.1.getD ((0:Nat)+x.1.toNat) (0:Int))) (0:Int) - i64.wrap (Int.tdiv (y.1.getD ((0:Nat)+Int.toNat (a_4.1.getD ((0:Nat)+x.1.toNat) (0:Int))) (0:Int)) (4:Int))))).set ((0:Nat)+a_6.1.toNat) (i64.wrap ((y.1.set ((0:Nat)+Int.toNat (a_4.1.getD ((0:Nat)+x.1.toNat) (0:Int))) (i64.wrap (y.1.getD ((0:Nat)+Int.toNat (a_4.1.getD ((0:Nat)+x.1.toNat) (0:Int))) (0:Int) - i64.wrap (Int.tdiv (y.1.getD ((0:Nat)+Int.toNat (a_4.1.getD ((0:Nat)+x.1.toNat) (0:Int))) (0:Int)) (4:Int))))).getD ((0:Nat)+a_6.1.toNat) (0:Int)+i64.wrap (Int.tdiv (y.1.getD ((0:Nat)+Int.toNat (a_4.1.getD ((0:Nat)+x.1.toNat) (0:Int))) (0:Int)) (4:Int))))),HObj.row Md.rw ty2 (K.int i64) ((y.2.1.set ((0:Nat)+Int.toNat (a_4.1.getD ((0:Nat)+x.1.toNat) (0:Int))) (i64.wrap (y.2.1.getD ((0:Nat)+Int.toNat (a_4.1.getD ((0:Nat)+x.1.toNat) (0:Int))) (0:Int) - (prtR (y.2.1.getD ((0:Nat)+Int.toNat (a_4.1.getD ((0:Nat)+x.1.toNat) (0:Int))) (0:Int)) (i64.wrap (Int.tdiv (y.1.getD ((0:Nat)+Int.toNat (a_4.1.getD ((0:Nat)+x.1.toNat) (0:Int))) (0:Int)) (4:Int))) (y.1.getD ((0:Nat)+Int.toNat (a_4.1.getD ((0:Nat)+x.1.toNat) (0:Int))) (0:Int))).1))).set ((0:Nat)+a_6.1.toNat) (i64.wrap ((y.2.1.set ((0:Nat)+Int.toNat (a_4.1.getD ((0:Nat)+x.1.toNat) (0:Int))) (i64.wrap (y.2.1.getD ((0:Nat)+Int.toNat (a_4.1.getD ((0:Nat)+x.1.toNat) (0:Int))) (0:Int) - (prtR (y.2.1.getD ((0:Nat)+Int.toNat (a_4.1.getD ((0:Nat)+x.1.toNat) (0:Int))) (0:Int)) (i64.wrap (Int.tdiv (y.1.getD ((0:Nat)+Int.toNat (a_4.1.getD ((0:Nat)+x.1.toNat) (0:Int))) (0:Int)) (4:Int))) (y.1.getD ((0:Nat)+Int.toNat (a_4.1.getD ((0:Nat)+x.1.toNat) (0:Int))) (0:Int))).1))).getD ((0:Nat)+a_6.1.toNat) (0:Int)+(prtR (y.2.1.getD ((0:Nat)+Int.toNat (a_4.1.getD ((0:Nat)+x.1.toNat) (0:Int))) (0:Int)) (i64.wrap (Int.tdiv (y.1.getD ((0:Nat)+Int.toNat (a_4.1.getD ((0:Nat)+x.1.toNat) (0:Int))) (0:Int)) (4:Int))) (y.1.getD ((0:Nat)+Int.toNat (a_4.1.getD ((0:Nat)+x.1.toNat) (0:Int))) (0:Int))).1))),HObj.row Md.rw ty3 (K.int i64) a_4.1]
def Zn6:=fun(ty29 ty2 ty3:Nat)(g:YG)(s:YS)(post:List Int × List Int × Int × Unit→Prop)=>∃(h:True),∀ a,a=((↑s.1.length:Int) != (Z1u
 (some g)).1)→Br a (post ([],[],1,())) (∀ a,a=((↑s.2.1.length:Int) != (Z1u (some g)).1)→Br a (post ([],[],1,())) (∀ a,a=((↑s.2.2.1.length:Int)
 != (Z1u (some g)).1)→Br a (post ([],[],1,())) (∃(h:True),∀ a,a=((↑s.2.2.2.1.length:Int) != (Z1b (some g)).1)→Br a (post ([],[],1,())) (∃
 (h:True),∀ a,a=Z1c3 s.2.1→∀ a_1,a_1=a.1→Br (!a_1) (post ([],[],1,())) (∃(h:True),∀ a,a=Z1c3 s.2.2.1→∀ a_2,a_2=a.1→Br (!a_2) (post ([],[],1,()))
 (∃(h:Z113 s.2.1),∀ a,a=Zhf s.2.1→∃(h:Z113 s.2.2.1),∀ a_3,a_3=Zhf s.2.2.1→∃(h:WOrd s.1),∀ a_4,a_4=Z1c2 s.1→HS (Z13x ty29 s ty2 a a_3
 ty3 a_4)∧∃(I:Int × Unit→List Int × List Int × Unit→Prop),∃(μ:Int × Unit→List Int × List Int × Unit→Nat),I (0,()) (a.1,a_3.1,())∧∀(x:Int × Unit)(y:List
 Int × List Int × Unit),I x y→∀ a_5,a_5=decide (x.1<(↑a_4.1.length:Int))→Br a_5 (∃(h:(0:Int)≤x.1∧x.1<(↑a_4.1.length:Int)),∃(h:Zv5 (some g)
 s.1 (a_4.1.getD ((0:Nat)+x.1.toNat) (0:Int))),∀ a_6,a_6=Za0 (some g) s.1 (a_4.1.getD ((0:Nat)+x.1.toNat) (0:Int))→∀ a_7,a_7=decide (a_6.1<(0:
 Int))→Br a_7 (HS (Zbr ty29 s ty2 y ty3 a_4)∧I (i64.wrap (x.1+1),()) (y.1,y.2.1,())∧μ (i64.wrap (x.1+1),()) (y.1,y.2.1,())<μ x y) (∃
 (h:(0:Int)≤a_4.1.getD ((0:Nat)+x.1.toNat) (0:Int)∧a_4.1.getD ((0:Nat)+x.1.toNat) (0:Int)<(↑a.1.length:Int)),∀ a_8,a_8=decide (y.1.getD ((0:Nat)+
 Int.toNat (a_4.1.getD ((0:Nat)+x.1.toNat) (0:Int))) (0:Int)≤(0:Int))→Br a_8 (HS (Zbr ty29 s ty2 y ty3 a_4)∧I (i64.wrap (x.1+1),()) (y.1,
 y.2.1,())∧μ (i64.wrap (x.1+1),()) (y.1,y.2.1,())<μ x y) (∃(h:(0:Int)≤a_4.1.getD ((0:Nat)+x.1.toNat) (0:Int)∧a_4.1.getD ((0:Nat)+x.1.toNat) (0
 : Int)<(↑a.1.length:Int)),∃(h:True),∃(h:II (y.1.getD ((0:Nat)+Int.toNat (a_4.1.getD ((0:Nat)+x.1.toNat) (0:Int))) (0:Int)) (Z18 (some g)
 (a_4.1.getD ((0:Nat)+x.1.toNat) (0:Int))).1),∀ a_9,a_9=fcmp Go.BinOp.lss (f64.format.order (Z4k (y.1.getD ((0:Nat)+Int.toNat (a_4.1.getD ((0:Nat)+
 x.1.toNat) (0:Int))) (0:Int)) (Z18 (some g) (a_4.1.getD ((0:Nat)+x.1.toNat) (0:Int))).1).1 (4602678819172646912:Nat))→Br (!a_9) (HS (Zbr ty29 s
 ty2 y ty3 a_4)∧I (i64.wrap (x.1+1),()) (y.1,y.2.1,())∧μ (i64.wrap (x.1+1),()) (y.1,y.2.1,())<μ x y) (∃(h:(0:Int)≤a_4.1.getD ((0:Nat)+
 x.1.toNat) (0:Int)∧a_4.1.getD ((0:Nat)+x.1.toNat) (0:Int)<(↑a.1.length:Int)),∃(h:(4:Int)≠(0:Int)),∃(h:(0:Int)≤a_4.1.getD ((0:Nat)+x.1.toNat) (0
 : Int)∧a_4.1.getD ((0:Nat)+x.1.toNat) (0:Int)<(↑a_3.1.length:Int)),∃(h:(0:Int)≤a_4.1.getD ((0:Nat)+x.1.toNat) (0:Int)∧a_4.1.getD ((0:Nat)+
 x.1.toNat) (0:Int)<(↑a.1.length:Int)),∃(h:III (y.2.1.getD ((0:Nat)+Int.toNat (a_4.1.getD ((0:Nat)+x.1.toNat) (0:Int))) (0:Int)) (i64.wrap (Int.tdiv
 (y.1.getD ((0:Nat)+Int.toNat (a_4.1.getD ((0:Nat)+x.1.toNat) (0:Int))) (0:Int)) (4:Int))) (y.1.getD ((0:Nat)+Int.toNat (a_4.1.getD ((0:Nat)+x.1.toNat) (0:
 Int))) (0:Int))),∃(h:(0:Int)≤a_4.1.getD ((0:Nat)+x.1.toNat) (0:Int)∧a_4.1.getD ((0:Nat)+x.1.toNat) (0:Int)<(↑a.1.length:Int)),∃(h:(0:Int)≤
 a_4.1.getD ((0:Nat)+x.1.toNat) (0:Int)∧a_4.1.getD ((0:Nat)+x.1.toNat) (0:Int)<(↑a.1.length:Int)),∃(h:(0:Int)≤a_6.1∧a_6.1<(↑a.1.length:Int)),∃(h:
 (0:Int)≤a_6.1∧a_6.1<(↑a.1.length:Int)),∃(h:(0:Int)≤a_4.1.getD ((0:Nat)+x.1.toNat) (0:Int)∧a_4.1.getD ((0:Nat)+x.1.toNat) (0:Int)<(↑a_3.1.length:
 Int)),∃(h:(0:Int)≤a_4.1.getD ((0:Nat)+x.1.toNat) (0:Int)∧a_4.1.getD ((0:Nat)+x.1.toNat) (0:Int)<(↑a_3.1.length:Int)),∃(h:(0:Int)≤a_6.1∧a_6.1 <
 (↑a_3.1.length:Int)),∃(h:(0:Int)≤a_6.1∧a_6.1<(↑a_3.1.length:Int)),HS (Z13y ty29 s ty2 y a_4 x a_6 ty3)∧I (i64.wrap (x.1+1),()) ((y.1.set
 ((0:Nat)+Int.toNat (a_4.1.getD ((0:Nat)+x.1.toNat) (0:Int))) (i64.wrap (y.1.getD ((0:Nat)+Int.toNat (a_4.1.getD ((0:Nat)+x.1.toNat) (0:Int))) (0:Int)
 - i64.wrap (Int.tdiv (y.1.getD ((0:Nat)+Int.toNat (a_4.1.getD ((0:Nat)+x.1.toNat) (0:Int))) (0:Int)) (4:Int))))).set ((0:Nat)+a_6.1.toNat)
 (i64.wrap ((y.1.set ((0:Nat)+Int.toNat (a_4.1.getD ((0:Nat)+x.1.toNat) (0:Int))) (i64.wrap (y.1.getD ((0:Nat)+Int.toNat (a_4.1.getD ((0:Nat)+
 x.1.toNat) (0:Int))) (0:Int) - i64.wrap (Int.tdiv (y.1.getD ((0:Nat)+Int.toNat (a_4.1.getD ((0:Nat)+x.1.toNat) (0:Int))) (0:Int)) (4:Int))))).getD ((0:
 Nat)+a_6.1.toNat) (0:Int)+i64.wrap (Int.tdiv (y.1.getD ((0:Nat)+Int.toNat (a_4.1.getD ((0:Nat)+x.1.toNat) (0:Int))) (0:Int)) (4:Int)))),(y.2.1.set ((0
 : Nat)+Int.toNat (a_4.1.getD ((0:Nat)+x.1.toNat) (0:Int))) (i64.wrap (y.2.1.getD ((0:Nat)+Int.toNat (a_4.1.getD ((0:Nat)+x.1.toNat) (0:Int))) (0:Int) -
 (prtR (y.2.1.getD ((0:Nat)+Int.toNat (a_4.1.getD ((0:Nat)+x.1.toNat) (0:Int))) (0:Int)) (i64.wrap (Int.tdiv (y.1.getD ((0:Nat)+Int.toNat (a_4.1.getD ((0:
 Nat)+x.1.toNat) (0:Int))) (0:Int)) (4:Int))) (y.1.getD ((0:Nat)+Int.toNat (a_4.1.getD ((0:Nat)+x.1.toNat) (0:Int))) (0:Int))).1))).set ((0:Nat)+
 a_6.1.toNat) (i64.wrap ((y.2.1.set ((0:Nat)+Int.toNat (a_4.1.getD ((0:Nat)+x.1.toNat) (0:Int))) (i64.wrap (y.2.1.getD ((0:Nat)+Int.toNat (a_4.1.getD
 ((0:Nat)+x.1.toNat) (0:Int))) (0:Int) - (prtR (y.2.1.getD ((0:Nat)+Int.toNat (a_4.1.getD ((0:Nat)+x.1.toNat) (0:Int))) (0:Int)) (i64.wrap (Int.tdiv
 (y.1.getD ((0:Nat)+Int.toNat (a_4.1.getD ((0:Nat)+x.1.toNat) (0:Int))) (0:Int)) (4:Int))) (y.1.getD ((0:Nat)+Int.toNat (a_4.1.getD ((0:Nat)+x.1.toNat) (0:
 Int))) (0:Int))).1))).getD ((0:Nat)+a_6.1.toNat) (0:Int)+(prtR (y.2.1.getD ((0:Nat)+Int.toNat (a_4.1.getD ((0:Nat)+x.1.toNat) (0:Int))) (0:Int))
 (i64.wrap (Int.tdiv (y.1.getD ((0:Nat)+Int.toNat (a_4.1.getD ((0:Nat)+x.1.toNat) (0:Int))) (0:Int)) (4:Int))) (y.1.getD ((0:Nat)+Int.toNat (a_4.1.getD
 ((0:Nat)+x.1.toNat) (0:Int))) (0:Int))).1)),())∧μ (i64.wrap (x.1+1),()) ((y.1.set ((0:Nat)+Int.toNat (a_4.1.getD ((0:Nat)+x.1.toNat) (0:Int)))
 (i64.wrap (y.1.getD ((0:Nat)+Int.toNat (a_4.1.getD ((0:Nat)+x.1.toNat) (0:Int))) (0:Int) - i64.wrap (Int.tdiv (y.1.getD ((0:Nat)+Int.toNat
 (a_4.1.getD ((0:Nat)+x.1.toNat) (0:Int))) (0:Int)) (4:Int))))).set ((0:Nat)+a_6.1.toNat) (i64.wrap ((y.1.set ((0:Nat)+Int.toNat (a_4.1.getD ((0:Nat)+
 x.1.toNat) (0:Int))) (i64.wrap (y.1.getD ((0:Nat)+Int.toNat (a_4.1.getD ((0:Nat)+x.1.toNat) (0:Int))) (0:Int) - i64.wrap (Int.tdiv (y.1.getD ((0:
 Nat)+Int.toNat (a_4.1.getD ((0:Nat)+x.1.toNat) (0:Int))) (0:Int)) (4:Int))))).getD ((0:Nat)+a_6.1.toNat) (0:Int)+i64.wrap (Int.tdiv (y.1.getD ((0:
 Nat)+Int.toNat (a_4.1.getD ((0:Nat)+x.1.toNat) (0:Int))) (0:Int)) (4:Int)))),(y.2.1.set ((0:Nat)+Int.toNat (a_4.1.getD ((0:Nat)+x.1.toNat) (0:Int)))
 (i64.wrap (y.2.1.getD ((0:Nat)+Int.toNat (a_4.1.getD ((0:Nat)+x.1.toNat) (0:Int))) (0:Int) - (prtR (y.2.1.getD ((0:Nat)+Int.toNat (a_4.1.getD ((0:Nat)+
 x.1.toNat) (0:Int))) (0:Int)) (i64.wrap (Int.tdiv (y.1.getD ((0:Nat)+Int.toNat (a_4.1.getD ((0:Nat)+x.1.toNat) (0:Int))) (0:Int)) (4:Int))) (y.1.getD ((0
 : Nat)+Int.toNat (a_4.1.getD ((0:Nat)+x.1.toNat) (0:Int))) (0:Int))).1))).set ((0:Nat)+a_6.1.toNat) (i64.wrap ((y.2.1.set ((0:Nat)+Int.toNat (a_4.1.getD
 ((0:Nat)+x.1.toNat) (0:Int))) (i64.wrap (y.2.1.getD ((0:Nat)+Int.toNat (a_4.1.getD ((0:Nat)+x.1.toNat) (0:Int))) (0:Int) - (prtR (y.2.1.getD ((0:Nat)+
 Int.toNat (a_4.1.getD ((0:Nat)+x.1.toNat) (0:Int))) (0:Int)) (i64.wrap (Int.tdiv (y.1.getD ((0:Nat)+Int.toNat (a_4.1.getD ((0:Nat)+x.1.toNat) (0:Int)))
 (0:Int)) (4:Int))) (y.1.getD ((0:Nat)+Int.toNat (a_4.1.getD ((0:Nat)+x.1.toNat) (0:Int))) (0:Int))).1))).getD ((0:Nat)+a_6.1.toNat) (0:Int)+(prtR
 (y.2.1.getD ((0:Nat)+Int.toNat (a_4.1.getD ((0:Nat)+x.1.toNat) (0:Int))) (0:Int)) (i64.wrap (Int.tdiv (y.1.getD ((0:Nat)+Int.toNat (a_4.1.getD ((0:Nat)+
 x.1.toNat) (0:Int))) (0:Int)) (4:Int))) (y.1.getD ((0:Nat)+Int.toNat (a_4.1.getD ((0:Nat)+x.1.toNat) (0:Int))) (0:Int))).1)),())<μ x y)))) (((0:Nat)=(0:
 Nat)∧a.1.length=y.1.length)∧((0:Nat)=(0:Nat)∧a_3.1.length=y.2.1.length)∧post (y.1,y.2.1,0,()))))))))
theorem Z16r(ty0 ty1 ty2:Nat)(g:YG)(s:YS)(h:WRun (some g) s)(w:KS.wf [.ptr Z28,kSea] ((some g),s,())):Zn6 ty0 ty1 ty2 g s (fun r=>r=Z6x (some g) s):=by
 obtain⟨hg,hw,hi1,hi2⟩:=h
 obtain⟨n,gn,rfl⟩:=Z48 hg
 obtain⟨m,hm⟩:∃ m,(Z1b (some (netG n))).1=m:=⟨_,rfl⟩
 have hC:(Z1u (some (netG n))).1=Z2 n:=Z1w n
 have hR:Z6x (some (netG n)) s=runF true (Z2 n) m (Z1a n) (Z4f true (Z2 n) n s.1) s:=by rw[← hm]; unfold Z6x; rw[Z1w]; rfl
 have cr:=Z37 n
 have hD:∀ c,(Za0 (some (netG n)) s.1 c).fst=Z4f true (Z2 n) n s.1 c:=fun c=>by unfold Za0; rw[Z1w]; rfl
 have bad:((Z2g (Z2 n) m s&&Z2l 0 s.2.1)&&Z2l 0 s.2.2.1)=false→([],[],1,())=Z6x (some (netG n)) s:=fun h=>by rw[hR,Z1e9 h]
 have main:Z2g (Z2 n) m s=true→Z2l 0 s.2.1=true→Z2l 0 s.2.2.1=true→∀ area down,area=Z1a n→down=Z4f true (Z2 n) n s.1→Z6x (some (netG n)) s=((runA area down (ordL s.1) (s.2.1,s.2.2.1)).1,(runA area down (ordL s.1) (s.2.1,s.2.2.1)).2,0,()):=by
  rintro h1 h2 h3 _ _ rfl rfl
  rw[hR,Zsp h1 h2 h3]
 refine⟨trivial,?_⟩
 rw[hC,hm]
 have bad1:∀ {b:Bool},Z2g (Z2 n) m s=b→b=false→([],[],1,())=Z6x (some (netG n)) s:=fun {b} h1 h2=>bad (by rw[h1,h2]; rfl)
 have nofit:¬ ((s.1.length:Int)=Z2 n∧(s.2.1.length:Int)=Z2 n∧(s.2.2.1.length:Int)=Z2 n∧(s.2.2.2.1.length:Int)=m)→([],[],1,())=Z6x (some (netG n)) s:=fun h=>bad1 rfl (by rw[Bool.eq_false_iff]; exact fun q=>h (Z4t.1 q))
 rintro _ rfl
 refine Br.intro (fun e=>nofit fun q=>absurd q.1 (bne_iff_ne.1 e)) fun f1=>?_
 have f1:(s.1.length:Int)=Z2 n:=by simpa using f1
 rintro _ rfl
 refine Br.intro (fun e=>nofit fun q=>absurd q.2.1 (bne_iff_ne.1 e)) fun f2=>?_
 have f2:(s.2.1.length:Int)=Z2 n:=by simpa using f2
 rintro _ rfl
 refine Br.intro (fun e=>nofit fun q=>absurd q.2.2.1 (bne_iff_ne.1 e)) fun f3=>?_
 have f3:(s.2.2.1.length:Int)=Z2 n:=by simpa using f3
 refine⟨trivial,?_⟩
 rintro _ rfl
 refine Br.intro (fun e=>nofit fun q=>absurd q.2.2.2 (bne_iff_ne.1 e)) fun f4=>?_
 have f4:(s.2.2.2.1.length:Int)=m:=by simpa using f4
 have hf:Z2g (Z2 n) m s=true:=Z4t.2 ⟨f1,f2,f3,f4⟩
 refine⟨trivial,?_⟩
 rintro _ rfl
 rintro _ rfl
 refine Br.intro (fun e=>bad (by
  have e:(!Z2l 0 s.2.1)=true:=e
  have e:Z2l 0 s.2.1=false:=by simpa using e
  rw[hf,e]; rfl)) fun e=>?_
 have hk1:Z2l 0 s.2.1=true:=by
  have e:(!Z2l 0 s.2.1)=false:=e
  simpa using e
 refine⟨trivial,?_⟩
 rintro _ rfl
 rintro _ rfl
 refine Br.intro (fun e=>bad (by
  have e:(!Z2l 0 s.2.2.1)=true:=e
  have e:Z2l 0 s.2.2.1=false:=by simpa using e
  rw[hf,hk1,e]; rfl)) fun e=>?_
 have hk2:Z2l 0 s.2.2.1=true:=by
  have e:(!Z2l 0 s.2.2.1)=false:=e
  simpa using e
 clear bad1 nofit
 have e1:=Z4t.1 hf
 have q1:=Z6z hk1 (by decide)
 have q2:=Z6z hk2 (by decide)
 have p1:Pool s.1.length s.2.1.sum s.2.1:=⟨by omega,q1.1,rfl⟩
 have p2:Pool s.1.length s.2.2.1.sum s.2.2.1:=⟨by omega,q2.1,rfl⟩
 refine⟨by show s.2.1.length≤65536; omega,?_⟩
 rintro _ rfl
 refine⟨by show s.2.2.1.length≤65536; omega,?_⟩
 rintro _ rfl
 refine⟨⟨hw,by omega⟩,?_⟩
 rintro _ rfl
 have hm2:=main hf hk1 hk2 _ _ rfl rfl
 rw[hm2]
 clear hm2 main bad hR
 dsimp only[Z1c2,Zhf]
 have lo:(ordL s.1).length=s.1.length:=by unfold ordL; rw[Z1kg]; simp
 have mo:∀ c ∈ ordL s.1,0≤c∧c<(s.1.length:Int):=fun c hc=>by have:=Z11v hc; simp at this; omega
 have hdr:=Z1nw (n:=n) (bed:=s.1) e1.1
 simp only[hD]
 obtain⟨down,hdn⟩:∃ down,Z4f true (Z2 n) n s.1=down:=⟨_,rfl⟩
 rw[hdn]at hdr ⊢
 have pk:∀ k:Nat,Pool s.1.length s.2.1.sum (runA (Z1a n) down ((ordL s.1).take k) (s.2.1,s.2.2.1)).1∧Pool s.1.length s.2.2.1.sum (runA (Z1a n) down ((ordL s.1).take k) (s.2.1,s.2.2.1)).2:=fun k=>Z152 hdr _ (fun c hc=>mo c (List.mem_of_mem_take hc)) p1 p2
 refine⟨rfl,fun x y=>∃ k:Nat,x.1=k∧k≤(ordL s.1).length∧y.1=(runA (Z1a n) down ((ordL s.1).take k) (s.2.1,s.2.2.1)).1∧y.2.1=(runA (Z1a n) down ((ordL s.1).take k) (s.2.1,s.2.2.1)).2,fun x _=>(ordL s.1).length - x.1.toNat,⟨0,rfl,by omega,rfl,rfl⟩,?_⟩
 rintro⟨_,⟨⟩⟩ ⟨_,_,⟨⟩⟩ ⟨k,rfl,hk,rfl,rfl⟩
 dsimp only
 obtain⟨st,hst⟩:∃ st,runA (Z1a n) down ((ordL s.1).take k) (s.2.1,s.2.2.1)=st:=⟨_,rfl⟩
 have pst:=pk k
 rw[hst]at pst ⊢
 obtain⟨pw,pt⟩:=pst
 have lw:=pw.len
 have lt:=pt.len
 rintro _ rfl
 refine Br.intro (fun d=>?_) fun d=>?_
 rotate_left
 ·have d:k=(ordL s.1).length:=by have d:¬ (k:Int)<(ordL s.1).length:=of_decide_eq_false d; omega
  rw[d,List.take_length]at hst
  rw[hst]
  exact⟨⟨by trivial,by omega⟩,⟨by trivial,by omega⟩,rfl⟩
 have d:k<(ordL s.1).length:=by have d:(k:Int)<(ordL s.1).length:=of_decide_eq_true d; omega
 have hs1:=Z1nv (area:=Z1a n) (down:=down) (st:=(s.2.1,s.2.2.1)) d
 rw[hst]at hs1
 have hcm:=mo _ (Zvb d)
 simp only[Int.toNat_natCast,Nat.zero_add]
 rw[Z12 d (by omega)]
 obtain⟨c,hc⟩:∃ c,(ordL s.1).getD k 0=c:=⟨_,rfl⟩
 have hc':at0 (ordL s.1) k=c:=hc
 rw[hc']at hs1 hcm
 simp only[hc]
 have hdc:=hdr c hcm.1 hcm.2
 have cw:0≤c∧c<(s.2.1.length:Int):=by omega
 have ct:0≤c∧c<(s.2.2.1.length:Int):=by omega
 have aw:=pw.at (i:=c.toNat) (by omega)
 have at_:=pt.at (i:=c.toNat) (by omega)
 have aw:0≤st.1.getD c.toNat 0∧st.1.getD c.toNat 0≤s.2.1.sum:=aw
 have at_:0≤st.2.getD c.toNat 0∧st.2.getD c.toNat 0≤s.2.2.1.sum:=at_
 have next:∀ w t:List Int,(w,t)=Z4x (Z1a n) down st c→(∃ j:Nat,((k+1:Nat):Int)=j∧j≤(ordL s.1).length∧w=(runA (Z1a n) down ((ordL s.1).take j) (s.2.1,s.2.2.1)).1∧t=(runA (Z1a n) down ((ordL s.1).take j) (s.2.1,s.2.2.1)).2)∧(ordL s.1).length - (((k+1:Nat):Int)).toNat<(ordL s.1).length - k:=fun w t h=>⟨⟨k+1,rfl,by omega,by rw[hs1,← h],by rw[hs1,← h]⟩,by omega⟩
 have skip:(down c<0∨st.1.getD c.toNat 0≤0∨Zhg (st.1.getD c.toNat 0) (Z1a n c)=false)→(st.1,st.2)=Z4x (Z1a n) down st c:=fun h=>by unfold Z4x; rw[if_pos h]
 refine⟨⟨by omega,by omega⟩,⟨hg,hw⟩,?_⟩
 rintro _ rfl
 simp only[hD,hdn]
 rintro _ rfl
 refine Br.intro (fun e=>⟨rfl,next _ _ (skip (.inl (of_decide_eq_true e)))⟩) fun e=>?_
 have e:=of_decide_eq_false e
 refine⟨cw,?_⟩
 rintro _ rfl
 refine Br.intro (fun f=>⟨rfl,next _ _ (skip (.inr (.inl (of_decide_eq_true f))))⟩) fun f=>?_
 have f:=of_decide_eq_false f
 have ar:=Zxy n c
 have hA:(Z18 (some (netG n)) c).fst=Z1a n c:=Z81 hcm.1 (by omega)
 rw[hA]
 refine⟨cw,trivial,⟨⟨by omega,by omega⟩,ar.1⟩,?_⟩
 rintro _ rfl
 refine Br.intro (fun g=>⟨rfl,next _ _ (skip (.inr (.inr (by
  have g:(!Zhg (st.1.getD c.toNat 0) (Z1a n c))=true:=g
  simpa using g))))⟩) fun g=>?_
 have g:Zhg (st.1.getD c.toNat 0) (Z1a n c)=true:=by
  have g:(!Zhg (st.1.getD c.toNat 0) (Z1a n c))=false:=g
  simpa using g
 have w4:i64.wrap (Int.tdiv (st.1.getD c.toNat 0) 4)=st.1.getD c.toNat 0 / 4:=by
  rw[Int.tdiv_eq_ediv_of_nonneg aw.1]; exact Zq (by omega) (by omega)
 have pr:∀ a b c:Int,(prtR a b c).fst=part a b c:=fun _ _ _=>rfl
 simp only[w4,pr]
 have pin:=Z151 (a:=st.2.getD c.toNat 0) (b:=st.1.getD c.toNat 0 / 4) (c:=st.1.getD c.toNat 0) at_.1 (by omega) (by omega) (by omega)
 obtain⟨_,m1,m2,m3,m4⟩:=pw.mv (i:=c) (j:=down c) (d:=st.1.getD c.toNat 0 / 4) hcm.1 hcm.2 (by omega) (by omega) (by omega) (by omega)
 obtain⟨_,m5,m6,m7,m8⟩:=pt.mv (i:=c) (j:=down c) hcm.1 hcm.2 (by omega) (by omega) pin.1 pin.2
 have dw:0≤down c∧down c<(s.2.1.length:Int):=by omega
 have dt:0≤down c∧down c<(s.2.2.1.length:Int):=by omega
 rw[Zq (x:=st.1.getD c.toNat 0 - st.1.getD c.toNat 0 / 4) (by omega) (by omega),Zq (x:=st.2.getD c.toNat 0 - part (st.2.getD c.toNat 0) (st.1.getD c.toNat 0 / 4) (st.1.getD c.toNat 0)) (by omega) (by omega),
  Zq (x:=(st.1.set c.toNat (st.1.getD c.toNat 0 - st.1.getD c.toNat 0 / 4)).getD (down c).toNat 0+st.1.getD c.toNat 0 / 4) (by omega) (by omega),
  Zq (x:=(st.2.set c.toNat (st.2.getD c.toNat 0 - part (st.2.getD c.toNat 0) (st.1.getD c.toNat 0 / 4) (st.1.getD c.toNat 0))).getD (down c).toNat 0+part (st.2.getD c.toNat 0) (st.1.getD c.toNat 0 / 4) (st.1.getD c.toNat 0)) (by omega) (by omega)]
 refine⟨cw,by decide,ct,cw,⟨⟨by omega,by omega⟩,⟨by omega,by omega⟩,by omega,by omega⟩,cw,cw,dw,dw,ct,ct,dt,dt,rfl,next _ _ ?_⟩
 unfold Z4x
 rw[if_neg (fun h=>by rcases h with h | h | h <;> first | omega | (rw[g]at h; cases h))]
 rfl
end Go.Lift

namespace Go.Lift
end Go.Lift

namespace Go.Lift
def Z13z(ty26:Nat)(bed:List Nat)(ty3:Nat):List HObj:=[HObj.box Md.rw ty26 [SV.data (K.flt f64).slice bed],HObj.row Md.rw ty3 (K.int i64) (List.replicate bed.length (0:Int))]
def Z140(ty26:Nat)(bed:List Nat)(ty3:Nat)(y:List Int × Unit)(x:Int × Unit):List HObj:=[HObj.box Md.rw ty26 [SV.data (K.flt f64).slice bed],HObj.row Md.rw ty3 (K.int i64) (y.1.set ((0:Nat)+x.1.toNat) x.1)]
def Zcy:=fun(ty26 ty3:Nat)(bed:List Nat)(post:List Int × Unit→Prop)=>∃(h:(0:Int)≤(↑bed.length:Int)∧(↑bed.length:Int)≤(↑bed.length:Int)∧
 (↑bed.length:Int)*(↑(8:Nat):Int)≤(281474976710656:Int)),HS (Z13z ty26 bed ty3)∧∃(I:Int × Unit→List Int × Unit→Prop),∃(μ:Int × Unit→List Int
 × Unit→Nat),I (0,()) (List.replicate bed.length (0:Int),())∧∀(x:Int × Unit)(y:List Int × Unit),I x y→∀ a,a=decide (x.1<(↑bed.length:Int))→Br a (∃(h:
 (0:Int)≤x.1∧x.1<(↑bed.length:Int)),HS (Z140 ty26 bed ty3 y x)∧I (i64.wrap (x.1+1),()) (y.1.set ((0:Nat)+x.1.toNat) x.1,())∧μ
 (i64.wrap (x.1+1),()) (y.1.set ((0:Nat)+x.1.toNat) x.1,())<μ x y) (∃(x:(ty3=ty3)∧(165:Nat)=(165:Nat)∧bed.length=y.1.length∧Z47 bed y.1),∀
 (ys:List Int),Rr (keyB bed) (0:Nat) y.1.length y.1 ys∧Sgm (keyB bed) ys (0:Nat) y.1.length→((0:Nat)=(0:Nat)∧bed.length=ys.length)∧post (ys,()))
theorem Z16s(ty0 ty1:Nat)(bed:List Nat)(h:WOrd bed):Zcy ty0 ty1 bed (fun r=>r=Z1c2 bed):=by
 obtain⟨hw,hb⟩:=h
 have mx:maxN=281474976710656:=rfl
 refine⟨⟨by omega,by omega,by omega⟩,rfl,fun x y=>∃ k:Nat,x.1=k∧k≤bed.length∧y.1.length=bed.length∧∀ j,j<k→at0 y.1 j=j,fun x _=>bed.length - x.1.toNat,⟨0,rfl,by omega,List.length_replicate,fun j h=>by omega⟩,?_⟩
 rintro⟨_,⟨⟩⟩ ⟨y,⟨⟩⟩ ⟨k,rfl,hk,ly,hy⟩
 dsimp only at ly hy ⊢
 rintro _ rfl
 refine Br.intro (fun d=>?_) fun d=>?_
 ·have d:k<bed.length:=by have d:(k:Int)<bed.length:=of_decide_eq_true d; omega
  rw[Int.toNat_natCast,Nat.zero_add,Z12 d (by omega)]
  refine⟨⟨by omega,by omega⟩,rfl,⟨k+1,rfl,by omega,by rw[List.length_set]; exact ly,fun j hj=>?_⟩,by omega⟩
  rw[Zca (by omega)]
  split
  ·rename_i e; rw[e]
  ·exact hy j (by omega)
 have d:k=bed.length:=by have d:¬ (k:Int)<bed.length:=of_decide_eq_false d; omega
 have e:y=seg 0 bed.length:=Z1to ly fun j hj=>hy j (by omega)
 refine⟨⟨by trivial,by trivial,ly.symm,hw,fun x hx=>?_,by omega⟩,?_⟩
 ·rw[e]at hx
  have:=Z1i9 hx
  omega
 rintro ys ⟨h1,h2⟩
 have q:=Z1kh (n:=bed.length) e h1 h2
 exact⟨⟨by trivial,by rw[h1.len]; exact ly.symm⟩,by rw[q]; rfl⟩
end Go.Lift
