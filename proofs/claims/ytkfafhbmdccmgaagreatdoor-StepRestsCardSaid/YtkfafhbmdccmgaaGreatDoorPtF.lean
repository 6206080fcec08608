/- A part of the proof of StepRestsCard: an own lifter of code into plain terms, and plain laws. -/
import Derived.Test.YtkfafhbmdccmgaaGreatDoorPtE
set_option linter.unusedVariables false
set_option linter.unusedSimpArgs false
set_option linter.unusedSectionVars false
open Go.IntKind (i64 u64 u32 u8)
open Go.FloatKind (f64 f32)
namespace Go.Lift
def Z14s:=λ(a:List Nat)(post:Nat × Unit->Prop)=>∀(a_1:Bool),a_1=((↑a.length:Int)==0)->Br a_1 (post (0,())) (∃(h:0<=(0:
 Int)/\0<(↑a.length:Int)),∃(h:(0:Int)<=1/\1<=(↑a.length:Int)/\(↑a.length:Int)<=(↑a.length:Int)),HIs [] []/\∃(I:Nat × Int × Unit->
 Unit->Prop),∃(μ:Nat × Int × Unit->Unit->Nat),I (a.getD (Int.toNat 0) 0,0,()) ()/\∀(x:Nat × Int × Unit)(y:Unit),I x y->∀(a_2:Bool),
 a_2=decide (x.snd.fst<(↑(List.take ((↑a.length:Int) - 1).toNat (List.drop (Int.toNat 1) a)).length:Int))->Br a_2 (∃(h:0<=x.snd.fst/\x.snd.fst
 < (↑(List.take ((↑a.length:Int) - 1).toNat (List.drop (Int.toNat 1) a)).length:Int)),∀(a_3:Nat),FRes f64 (f64.format.add x.fst
 ((List.take ((↑a.length:Int) - 1).toNat (List.drop (Int.toNat 1) a)).getD x.snd.fst.toNat 0)) a_3->HIs [] []/\I (a_3,i64.wrap (x.snd.fst+(1
 : Int)),()) ()/\μ (a_3,i64.wrap (x.snd.fst+1),()) ()<μ x y) (∃(h:True),post ((Z1fk x.fst).fst,())))
theorem Z1nb(a:List Nat)(h:WL a)(w:KS.wf [.slice (.flt .f64)] (a,())):Z14s  a (λr=>r=rowR a):=by
 have hl:a.length<=maxN:=w.1.1;unfold maxN at hl;rintro _ rfl;refine Br.intro (λe=>?_) λe=>?_
 ·have e:a.length=0:=by have:=eq_of_beq e; omega
  have:a=[]:=List.eq_nil_of_length_eq_zero e;subst this; rfl
 ·have e:0<a.length:=by
   rcases Nat.eq_zero_or_pos a.length with z | z
   ·rw[z]at e; cases e
   ·exact z
  refine⟨⟨by omega,by omega⟩,⟨by omega,by omega,by omega⟩,rfl,λx _=>∃ i:Nat,x.2.1=i/\i+1<=a.length/\W64 x.1/\Z8 x.1=rowQ (a.take (i+1)),λx _=>a.length - x.2.1.toNat,⟨0,rfl,by omega,Z1ud h 0,(Z1s3 e).symm⟩,?_⟩
  have ht:List.take ((a.length:Int) - 1).toNat (List.drop (Int.toNat 1) a)=a.drop 1:=by
   show List.take ((a.length:Int) - 1).toNat (List.drop 1 a)=a.drop 1;apply List.take_of_length_le; rw[List.length_drop]; omega
  rw[ht]
  have hd:∀ i,(a.drop 1).getD i 0=a.getD (i+1) 0:=by
   intro i; rw[List.getD_eq_getElem?_getD,List.getD_eq_getElem?_getD,List.getElem?_drop,Nat.add_comm]
  rintro⟨acc,_,⟨⟩⟩ _ ⟨i,hi,hil,hw,hq⟩;dsimp only at hi hw hq;subst hi;dsimp only;rintro _ rfl;refine Br.intro (λf=>?_) λf=>?_
  ·have f:i+1<a.length:=by have:=of_decide_eq_true f; rw[List.length_drop]at this; omega
   refine⟨⟨by omega,by rw[List.length_drop]; omega⟩,λr hr=>?_⟩;rw[Int.toNat_natCast,hd]at hr;obtain⟨q1,q2⟩:=fadd hr;refine⟨rfl,⟨i+1,?_,by omega,q2,?_⟩,?_⟩
   ·rw[wi ⟨by omega,by omega⟩]; omega
   ·show Z8 r=_;rw[q1,Z1uc f (by omega),Zh1 (x':=rowQ (a.take (i+1))) (by rw[hq,Z1w1]) rfl]
   ·rw[wi ⟨by omega,by omega⟩]; omega
  ·have f:a.length<=i+1:=by have:=of_decide_eq_false f; rw[List.length_drop]at this; omega
   refine⟨trivial,congrArg r1 ?_⟩;show Z8 acc=_;rw[hq,List.take_of_length_le f]
def Zvh:=λ(a b c:Nat)(post:Nat × Unit->Prop)=>∃(h:(List.replicate (3:Nat) (0:Nat)).length=(3:Nat)/\(3:Nat)=(3:Nat)),∃(h:(0:Int)<=(0:
 Int)/\(0:Int)<=(3:Int)/\(3:Int)<=(3:Int)/\(3:Nat)=(3:Nat)),∃(h:Zwm (3:Int)),∃(h:(0:Int)<=(1:Int)/\(1:Int)<(3:Int)),∃(h:(0:Int)<=
 (0:Int)/\(0:Int)<(3:Int)),∃(h:W2 b a),Br (decide ((Zp1 b a).fst<(0:Int))) (∃(h:(0:Int)<=(0:Int)/\(0:Int)<(3:Int)),∃(h:(0:Int)<=(1:Int)
 /\ (1:Int)<(3:Int)),∃(h:(0:Int)<=(1:Int)/\(1:Int)<(3:Int)),∃(h:(0:Int)<=(0:Int)/\(0:Int)<(3:Int)),∃(h:(0:Int)<=(2:Int)/\(2:Int) <
 (3:Int)),∃(h:(0:Int)<=(1:Int)/\(1:Int)<(3:Int)),∃(h:W2 c a),Br (decide ((Zp1 c a).fst<(0:Int))) (∃(h:(0:Int)<=(1:Int)/\(1:Int)<(3:
 Int)),∃(h:(0:Int)<=(2:Int)/\(2:Int)<(3:Int)),∃(h:(0:Int)<=(2:Int)/\(2:Int)<(3:Int)),∃(h:(0:Int)<=(1:Int)/\(1:Int)<(3:Int)),∃(h:
 (0:Int)<=(1:Int)/\(1:Int)<(3:Int)),∃(h:(0:Int)<=(0:Int)/\(0:Int)<(3:Int)),∃(h:W2 c b),Br (decide ((Zp1 c b).fst<(0:Int))) (∃(h:(0:Int)
 <= (0:Int)/\(0:Int)<(3:Int)),∃(h:(0:Int)<=(1:Int)/\(1:Int)<(3:Int)),∃(h:(0:Int)<=(1:Int)/\(1:Int)<(3:Int)),∃(h:(0:Int)<=(0:Int)/\
 (0:Int)<(3:Int)),∃(h:(0:Int)<=(0:Int)/\(0:Int)<=(3:Int)/\(3:Int)<=(3:Int)/\(3:Nat)=[c,b,a].length),∃(h:WL [c,b,a]),post ((rowR [c,b,
 a]).fst,())) (∃(h:(0:Int)<=(0:Int)/\(0:Int)<=(3:Int)/\(3:Int)<=(3:Int)/\(3:Nat)=[b,c,a].length),∃(h:WL [b,c,a]),post ((rowR [b,c,a]).fst,
 ()))) (∃(h:(0:Int)<=(0:Int)/\(0:Int)<=(3:Int)/\(3:Int)<=(3:Int)/\(3:Nat)=[b,a,c].length),∃(h:WL [b,a,c]),post ((rowR [b,a,c]).fst,()))) (∃(h
 : (0:Int)<=(2:Int)/\(2:Int)<(3:Int)),∃(h:(0:Int)<=(1:Int)/\(1:Int)<(3:Int)),∃(h:W2 c b),Br (decide ((Zp1 c b).fst<(0:Int))) (∃(h:(0:
 Int)<=(1:Int)/\(1:Int)<(3:Int)),∃(h:(0:Int)<=(2:Int)/\(2:Int)<(3:Int)),∃(h:(0:Int)<=(2:Int)/\(2:Int)<(3:Int)),∃(h:(0:Int)<=(1:
 Int)/\(1:Int)<(3:Int)),∃(h:(0:Int)<=(1:Int)/\(1:Int)<(3:Int)),∃(h:(0:Int)<=(0:Int)/\(0:Int)<(3:Int)),∃(h:W2 c a),Br (decide ((Zp1 c
 a).fst<(0:Int))) (∃(h:(0:Int)<=(0:Int)/\(0:Int)<(3:Int)),∃(h:(0:Int)<=(1:Int)/\(1:Int)<(3:Int)),∃(h:(0:Int)<=(1:Int)/\(1:Int)<(3:
 Int)),∃(h:(0:Int)<=(0:Int)/\(0:Int)<(3:Int)),∃(h:(0:Int)<=(0:Int)/\(0:Int)<=(3:Int)/\(3:Int)<=(3:Int)/\(3:Nat)=[c,a,b].length),∃(h:
 WL [c,a,b]),post ((rowR [c,a,b]).fst,())) (∃(h:(0:Int)<=(0:Int)/\(0:Int)<=(3:Int)/\(3:Int)<=(3:Int)/\(3:Nat)=[a,c,b].length),∃(h:WL [a,c,
 b]),post ((rowR [a,c,b]).fst,()))) (∃(h:(0:Int)<=(0:Int)/\(0:Int)<=(3:Int)/\(3:Int)<=(3:Int)/\(3:Nat)=(3:Nat)),∃(h:WL [a,b,c]),post ((rowR
 [a,b,c]).fst,())))
theorem Z1hj(a:Nat)(b:Nat)(c:Nat)(h:W3 a b c):Zvh  a b c (λr=>r=Z12a a b c):=by
 obtain⟨ha,hb,hc⟩:=h;have leaf:∀ l,Zh3 a b c=l->((rowR l).fst,())=Z12a a b c:=by rintro _ rfl; rfl
 refine⟨⟨rfl,rfl⟩,⟨by decide,by decide,by decide,rfl⟩,rfl,by decide,by decide,⟨hb,ha⟩,Br.intro (λe=>⟨by decide,by decide,by decide,by decide,by decide,by decide,⟨hc,ha⟩,Br.intro (λf=>⟨by decide,by decide,by decide,by decide,by decide,by decide,⟨hc,hb⟩,Br.intro (λg=>⟨by decide,by decide,by decide,by decide,⟨by decide,by decide,by decide,rfl⟩,WL3 hc hb ha,leaf _ ?_⟩) λg=>⟨⟨by decide,by decide,by decide,rfl⟩,WL3 hb hc ha,leaf _ ?_⟩⟩) λf=>⟨⟨by decide,by decide,by decide,rfl⟩,WL3 hb ha hc,leaf _ ?_⟩⟩) λe=>⟨by decide,by decide,⟨hc,hb⟩,Br.intro (λf=>⟨by decide,by decide,by decide,by decide,by decide,by decide,⟨hc,ha⟩,Br.intro (λg=>⟨by decide,by decide,by decide,by decide,⟨by decide,by decide,by decide,rfl⟩,WL3 hc ha hb,leaf _ ?_⟩) λg=>⟨⟨by decide,by decide,by decide,rfl⟩,WL3 ha hc hb,leaf _ ?_⟩⟩) λf=>⟨⟨by decide,by decide,by decide,rfl⟩,WL3 ha hb hc,leaf _ ?_⟩⟩⟩
 ·have e:ltM b a=true:=e;have f:ltM c a=true:=f;have g:ltM c b=true:=g;unfold Zh3; rw[e,f,g]; rfl
 ·have e:ltM b a=true:=e;have f:ltM c a=true:=f;have g:ltM c b=false:=g;unfold Zh3; rw[e,f,g]; rfl
 ·have e:ltM b a=true:=e;have f:ltM c a=false:=f;unfold Zh3; rw[e,f]; rfl
 ·have e:ltM b a=false:=e;have f:ltM c b=true:=f;have g:ltM c a=true:=g;unfold Zh3; rw[e,f,g]; rfl
 ·have e:ltM b a=false:=e;have f:ltM c b=true:=f;have g:ltM c a=false:=g;unfold Zh3; rw[e,f,g]; rfl
 ·have e:ltM b a=false:=e;have f:ltM c b=false:=f;unfold Zh3; rw[e,f]; rfl
section
open Go.Proofs
def Z14t:Cx:=⟨Z1v Z26,Z23 [(276,Zqj),(248,Ziw)],SqG⟩
theorem Zr7:CxOk Tryz.prog Z14t:=⟨Zn Z12,Zr ⟨Z1cb,Z107,trivial⟩⟩
def Zz2:Con:=.det [.slice (.flt .f64)] [.snap (.flt .f64)] (λx=>WL x.1) (λx=>rowR x.1)
theorem Z1jb:SqH Zz2 251:=
 dP Zr7 Z5 Zc ({loops:=λk=>match k with | 5=>some {ls:=[(.slot 3,.data (.flt .f64)),(.slot 15,.data (.int .i64))],os:=[]} | _=>none,joins:=λ_=>none,named:=true}) Tryz.func251 (λx p=>Z14s  x.1 p) λx h w=>Z1nb  x.1 h w
def Z14u:Cx:=addC 251 Zz2 Z14t
theorem Z1cu:CxOk Tryz.prog Z14u:=Zk Zr7 Z1jb
def Z8a:Con:=.det [.int .u64] [.snap (.int .i64)] (λx=>Zwm x.1) (λx=>twoR x.1)
def Zl0:Cx:=⟨Z1v Z26,λ_=>none,SqG⟩
theorem Zvi:CxOk Tryz.prog Zl0:=⟨Zn Z12,λf c h=>by cases h⟩
theorem Z10a:FnAt Tryz.prog 245 Tryz.f245.ntmps Tryz.f245.results.toList (Tryz.f245.body.getD .skip):=⟨Tryz.f245,Tryz.func245,rfl,rfl,by simp,by decide⟩
theorem Z10b(post:Int × Unit->Prop):Z4b Zl0 noHn Tryz.f245.ntmps Tryz.f245.results.toList (Tryz.f245.body.getD .skip) [.int .u64] [.snap (.int .i64)] ((3:Int),()) post=(∃(h:(0:Int)<=(3:Int)/\(3:Int)<(256:Int)),post ((2:Int),())):=by kernel_rfl
theorem Zcl:Z8a.holds Tryz.prog SqG 245:=by
 refine Z19r Zvi Z5 noHn Z10a ?_;rintro⟨a,⟨⟩⟩ h;have h:a=(3:Int):=h;subst h;exact(Z10b _).mpr ⟨by decide,rfl⟩
def Z14v:Cx:=addC 245 Z8a Z14u
theorem Z1cv:CxOk Tryz.prog Z14v:=Zk Z1cu Zcl
def Zr8:Con:=.det [.int .u64] [.snap (.int .i64)] (λx=>Zwm x.1) (λx=>twoR x.1)
def Zr9:Cx:=⟨Z1v Z26,Z23 [(245,Z8a)],SqG⟩
theorem Z10c:CxOk Tryz.prog Zr9:=⟨Zn Z12,Zr ⟨Zcl,trivial⟩⟩
theorem Z18a:FnAt Tryz.prog 275 Tryz.f275.ntmps Tryz.f275.results.toList (Tryz.f275.body.getD .skip):=⟨Tryz.f275,Tryz.func275,rfl,rfl,by simp,by decide⟩
theorem Z18b(post:Int × Unit->Prop):Z4b Zr9 noHn Tryz.f275.ntmps Tryz.f275.results.toList (Tryz.f275.body.getD .skip) [.int .u64] [.snap (.int .i64)] ((3:Int),()) post=(∃(h:Zwm 3),post ((2:Int),())):=by kernel_rfl
theorem Z1cw:Zr8.holds Tryz.prog SqG 275:=by
 refine Z19r Z10c Z5 noHn Z18a ?_;rintro⟨a,⟨⟩⟩ h;have h:a=(3:Int):=h;subst h;exact(Z18b _).mpr ⟨rfl,rfl⟩
def Z1nc:Cx:=addC 275 Zr8 Z14v
theorem Zra:CxOk Tryz.prog Z1nc:=Zk Z1cv Z1cw
def Zrb:Con:=.det [.flt .f64,.flt .f64,.flt .f64] [.snap (.flt .f64)] (λx=>W3 x.1 x.2.1 x.2.2.1) (λx=>Z12a x.1 x.2.1 x.2.2.1)
theorem Z1cx:SqH Zrb 209:=
 dPI Zra Z5 Zc ({loops:=λ_=>none,joins:=λ_=>none,inl:=inlL [247]}) (Z40 Zra Z5 Z175 5) Tryz.func209 (λx p=>Zvh  x.1 x.2.1 x.2.2.1 p) λx h _=>Z1hj  x.1 x.2.1 x.2.2.1 h
end
section
open Go.Proofs
def Z14w:Cx:=⟨Z1v Z26,Z23 [(99,Z4i),(246,Zqi),(209,Zrb),(240,Zdn)],SqG⟩
theorem Zrc:CxOk Tryz.prog Z14w:=⟨Zn Z12,Zr ⟨Z5h,Z1ca,Z1cx,Zn1,trivial⟩⟩
def Zrd:Con:=.det [.flt .f64,.flt .f64,.flt .f64] [.snap kVec] (λ_=>True) (λx=>Z6v x.1 x.2.1 x.2.2.1)
theorem Z1cy:SqH Zrd 210:=
 dP Zrc Z5 Zc nHn Tryz.func210 (λx p=>Zvd  x.1 x.2.1 x.2.2.1 p) λx _ _=>Z1hf  x.1 x.2.1 x.2.2.1
def Z14x:Cx:=addC 210 Zrd Z14w
theorem Zre:CxOk Tryz.prog Z14x:=Zk Zrc Z1cy
def Zg7:Con:=.det [kVec,kVec] [.snap kVec] (λx=>WV2 x.1 x.2.1) (λx=>Z9w x.1 x.2.1)
theorem Zrf:SqH Zg7 175:=
 dP Zre Z5 Zc nHn Tryz.func175 (λx p=>Zve  x.1 x.2.1 p) λx h _=>Z1hg  x.1 x.2.1 h
def Z14y:Cx:=addC 175 Zg7 Z14x
theorem Zg8:CxOk Tryz.prog Z14y:=Zk Zre Zrf
def Zrg:Con:=.det [kVec,kVec] [.snap kVec] (λ_=>True) (λx=>Zu2 x.1 x.2.1)
theorem Z1cz:SqH Zrg 174:=
 dP Zg8 Z5 Zc nHn Tryz.func174 (λx p=>Zvf  x.1 x.2.1 p) λx _ _=>Z1hh  x.1 x.2.1
def Zrh:Con:=.rel [.flt .f64] [.snap (.flt .f64)] (λ_=>True) (λx r=>Zjv x.1 r) (λx h=>Z1ka (Z1k8 _) (Z16o _))
theorem Z1d0:SqH Zrh 208:=
 rP Zg8 Z5 Zc nHn Tryz.func208 (λx p=>Zvg  x.1 p) λx _ _=>Z1hi  x.1
def Z14z:Cx:=addC 208 Zrh Z14y
theorem Zri:CxOk Tryz.prog Z14z:=Zk Zg8 Z1d0
def Zdu:Con:=.det [kVec] [.snap (.flt .f64)] (λx=>WV x.1) (λx=>Z6w x.1)
theorem Znp:SqH Zdu 173:=
 dP Zri Z5 Zc nHn Tryz.func173 (λx p=>Zr6  x.1 p) λx h _=>Z1ct  x.1 h
def Z1nd:Cx:=addC 173 Zdu Z14z
theorem Zrj:CxOk Tryz.prog Z1nd:=Zk Zri Znp
def Zz3:Con:=.det [kVec,kVec] [.snap (.flt .f64)] (λx=>WV2 x.1 x.2.1) (λx=>gapR x.1 x.2.1)
theorem Z1jc:SqH Zz3 113:=
 dP Zrj Z5 Zc nHn Tryz.func113 (λx p=>Z14r  x.1 x.2.1 p) λx h _=>Z1na  x.1 x.2.1 h
def Zvj:Con:=.det [kVec] [.snap kVec] (λx=>WV x.1) (λx=>Z12c x.1)
theorem Z1hk:SqH Zvj 211:=
 dP Zrj Z5 Zc nHn Tryz.func211 (λx p=>Zz1  x.1 p) λx h _=>Z1ja  x.1 h
end
section
open Go.Proofs
def Z150:Cx:=⟨Z1v Z26,Z23 [(99,Z4i),(211,Zvj),(48,Z5i),(104,Z9j),(175,Zg7),(174,Zrg),(173,Zdu),(176,Zn4)],SqG⟩
theorem Zrk:CxOk Tryz.prog Z150:=⟨Zn Z12,Zr ⟨Z5h,Z1hk,Z76,Zds,Zrf,Z1cz,Znp,Z17t,trivial⟩⟩
def Zdv:Con:=.det [.int .i64,.int .i64] [.snap (.flt .f64)] (λx=>Zic x.1 x.2.1) (λx=>Z4e x.1 x.2.1)
theorem Znq:SqH Zdv 180:=
 dP Zrk Z5 Zc nHn Tryz.func180 (λx p=>Zr4  x.1 x.2.1 p) λx h _=>Z1cr  x.1 x.2.1 h
def Z151:Cx:=addC 180 Zdv Z150
theorem Zrl:CxOk Tryz.prog Z151:=Zk Zrk Znq
def Zdw:Con:=.det [.int .i64,.flt .f64,.flt .f64] [.snap kVec] (λx=>Z12g x.1 x.2.1 x.2.2.1) (λx=>Zf5 x.1 x.2.1 x.2.2.1)
theorem Znr:SqH Zdw 179:=
 dP Zrl Z5 Zc ({loops:=λ_=>none,joins:=Z11 [(13,{ls:=[],os:=[(1,236,.flt .f64)]})],unroll:=λ_=>some 4}) Tryz.func179 (λx p=>Zr5 166 236 x.1 x.2.1 x.2.2.1 p) λx h _=>Z1cs 166 236 x.1 x.2.1 x.2.2.1 h
def Z152:Cx:=addC 179 Zdw Z151
theorem Zrm:CxOk Tryz.prog Z152:=Zk Zrl Znr
def Zl1:Con:=.det [.int .i64,.int .i64,.int .i64,.int .i64] [.snap kVec,.snap .bool] (λx=>IIII x.1 x.2.1 x.2.2.1 x.2.2.2.1) (λx=>Z1k x.1 x.2.1 x.2.2.1 x.2.2.2.1)
theorem Z153:SqH Zl1 178:=
 dP Zrm Z5 Zc nHn Tryz.func178 (λx p=>Zno  x.1 x.2.1 x.2.2.1 x.2.2.2.1 p) λx h _=>Z189  x.1 x.2.1 x.2.2.1 x.2.2.2.1 h
def Z154:Cx:=addC 178 Zl1 Z152
theorem Zrn:CxOk Tryz.prog Z154:=Zk Zrm Z153
def Zaf:Con:=.det [.int .i64,.int .i64] [.snap (.arr 4 kVec),.snap .bool] (λx=>II x.1 x.2.1) (λx=>Zs x.1 x.2.1)
theorem Zj4:SqH Zaf 112:=
 dP Zrn Z5 Zc ({loops:=λ_=>none,joins:=λ_=>none,unroll:=λ_=>some 5}) Tryz.func112 (λx p=>Zkz  x.1 x.2.1 p) λx h _=>Z14q  x.1 x.2.1 h
def Z1ne:Cx:=addC 112 Zaf Z154
theorem Z1d1:CxOk Tryz.prog Z1ne:=Zk Zrn Zj4
def Zro:Con:=.det [.int .i64,.int .i64] [.snap (.int .i64)] (λx=>II x.1 x.2.1) (λx=>Z12i x.1 x.2.1)
theorem Z1d2:SqH Zro 103:=
 dP Z1d1 Z5 Zc nHn Tryz.func103 (λx p=>Zvc  x.1 x.2.1 p) λx h _=>Z1he  x.1 x.2.1 h
end
def Zns:=λ(n c:Int)(post:(Nat × Nat × Nat) × Bool × Unit->Prop)=>∃(h:II n c),Br (!(Z7 n c).2.2.2.1) (post ((0,0,0),false,())) (∃(h:
 Zic (i64.wrap (i64.wrap (i64.wrap (2*(Z7 n c).2.1)+1) - n)) n),∃(h:Zic (i64.wrap (i64.wrap
 (i64.wrap (2*(Z7 n c).2.2.1)+1) - n)) n),∃(h:Z12g (Z7 n c).1 (Z4e (i64.wrap (i64.wrap (i64.wrap (2 *
 (Z7 n c).2.1)+1) - n)) n).1 (Z4e (i64.wrap (i64.wrap (i64.wrap (2*(Z7 n c).2.2.1)+1) - n)) n).1),post (((Zf5
 (Z7 n c).1 (Z4e (i64.wrap (i64.wrap (i64.wrap (2*(Z7 n c).2.1)+1) - n)) n).1 (Z4e (i64.wrap (i64.wrap
 (i64.wrap (2*(Z7 n c).2.2.1)+1) - n)) n).1).1.1,(Zf5 (Z7 n c).1 (Z4e (i64.wrap (i64.wrap (i64.wrap (2
 * (Z7 n c).2.1)+1) - n)) n).1 (Z4e (i64.wrap (i64.wrap (i64.wrap (2*(Z7 n c).2.2.1)+1) - n)) n).1).1.2.1,
 (Zf5 (Z7 n c).1 (Z4e (i64.wrap (i64.wrap (i64.wrap (2*(Z7 n c).2.1)+1) - n)) n).1 (Z4e (i64.wrap
 (i64.wrap (i64.wrap (2*(Z7 n c).2.2.1)+1) - n)) n).1).1.2.2),true,()))
theorem Z18c(n:Int)(c:Int)(h:II n c):Zns  n c (λr=>r=Z98 n c):=by
 refine⟨h,?_⟩;by_cases ok:Ze n c=true
 ·rw[Z1fv ok];obtain⟨n1,n2,f0,f5,i0,i1,j0,j1⟩:=Zfc ok;dsimp only;refine Br.intro (λe=>absurd e (by decide)) λ_=>?_
  have w1:i64.wrap (i64.wrap (i64.wrap (2*(c % n))+1) - n)=2*(c % n)+1 - n:=by
   rw[wi (x:=2*(c % n)) ⟨by omega,by omega⟩,wi (x:=2*(c % n)+1) ⟨by omega,by omega⟩,wi ⟨by omega,by omega⟩]
  have w2:i64.wrap (i64.wrap (i64.wrap (2*(c / n % n))+1) - n)=2*(c / n % n)+1 - n:=by
   rw[wi (x:=2*(c / n % n)) ⟨by omega,by omega⟩,wi (x:=2*(c / n % n)+1) ⟨by omega,by omega⟩,wi ⟨by omega,by omega⟩]
  rw[w1,w2];refine⟨⟨⟨by omega,by omega⟩,n1,h.1⟩,⟨⟨by omega,by omega⟩,n1,h.1⟩,⟨f0,f5,Z5v _ _,Z5v _ _⟩,?_⟩;unfold Z98; rw[if_pos ok]; rfl
 ·rw[Z1fw ok];refine Br.intro (λ_=>?_) λe=>absurd e (by decide);unfold Z98; rw[if_neg ok]
def Znt:=λ(n c o:Int)(post:Nat × Unit->Prop)=>∃(h:II n c),∃(h:(List.replicate (4:Nat) ((K.flt f64).pair ((K.flt f64).pair
 (K.flt f64))).dflt).length=(4:Nat)/\(Zs n c).1.length=(4:Nat)),Br (!(Zs n c).2.1) (post ((0:Nat),())) (∀ a,a=decide (o<(0:Int))->Br a
 (post ((0:Nat),())) (∀ a,a=decide (o > (3:Int))->Br a (post ((0:Nat),())) (∃(h:(0:Int)<=o/\o<(↑(4:Nat):Int)),∃(h:(List.replicate (2:Nat) (0:
 Int)).length=(2:Nat)/\List.length ([[(1:Int),(2:Int)],[(3:Int),(2:Int)],[(0:Int),(3:Int)],[(0:Int),(1:Int)]].getD o.toNat (K.arr (2:Nat) (K.int
 i64)).dflt)=(2:Nat)),∃(h:(0:Int)<=(0:Int)/\(0:Int)<(↑(2:Nat):Int)/\(2:Nat)<=List.length ([[(1:Int),(2:Int)],[(3:Int),(2:Int)],[(0:
 Int),(3:Int)],[(0:Int),(1:Int)]].getD o.toNat (K.arr (2:Nat) (K.int i64)).dflt)),∃(h:(0:Int)<=List.getD ([[(1:Int),(2:Int)],[(3:Int),(2:Int)],
 [(0:Int),(3:Int)],[(0:Int),(1:Int)]].getD o.toNat (K.arr (2:Nat) (K.int i64)).dflt) (Int.toNat (0:Int)) (0:Int)/\List.getD ([[(1:Int),(2:Int)],[(3
 : Int),(2:Int)],[(0:Int),(3:Int)],[(0:Int),(1:Int)]].getD o.toNat (K.arr (2:Nat) (K.int i64)).dflt) (Int.toNat (0:Int)) (0:Int)<(↑(4:Nat):Int)/\
 (4:Nat)<=(Zs n c).1.length),∃(h:(0:Int)<=(1:Int)/\(1:Int)<(↑(2:Nat):Int)/\(2:Nat)<=List.length ([[(1:Int),(2:Int)],[(3:Int),(2:Int)],[(0
 : Int),(3:Int)],[(0:Int),(1:Int)]].getD o.toNat (K.arr (2:Nat) (K.int i64)).dflt)),∃(h:(0:Int)<=List.getD ([[(1:Int),(2:Int)],[(3:Int),(2:
 Int)],[(0:Int),(3:Int)],[(0:Int),(1:Int)]].getD o.toNat (K.arr (2:Nat) (K.int i64)).dflt) (Int.toNat (1:Int)) (0:Int)/\List.getD ([[(1:Int),(2:
 Int)],[(3:Int),(2:Int)],[(0:Int),(3:Int)],[(0:Int),(1:Int)]].getD o.toNat (K.arr (2:Nat) (K.int i64)).dflt) (Int.toNat (1:Int)) (0:Int)<(↑(4:
 Nat):Int)/\(4:Nat)<=(Zs n c).1.length),∃(h:WV2 ((Zs n c).1.getD (Int.toNat (List.getD ([[(1:Int),(2:Int)],[(3:Int),(2:Int)],[(0:Int),(3:
 Int)],[(0:Int),(1:Int)]].getD o.toNat (K.arr (2:Nat) (K.int i64)).dflt) (Int.toNat (0:Int)) (0:Int))) ((K.flt f64).pair ((K.flt
 f64).pair (K.flt f64))).dflt) ((Zs n c).1.getD (Int.toNat (List.getD ([[(1:Int),(2:Int)],[(3:Int),(2:Int)],[(0:Int),(3:Int)],[(0
 : Int),(1:Int)]].getD o.toNat (K.arr (2:Nat) (K.int i64)).dflt) (Int.toNat (1:Int)) (0:Int))) ((K.flt f64).pair ((K.flt f64).pair (K.flt
 f64))).dflt)),post ((gapR ((Zs n c).1.getD (Int.toNat (List.getD ([[(1:Int),(2:Int)],[(3:Int),(2:Int)],[(0:Int),(3:Int)],[(0:Int),(1:
 Int)]].getD o.toNat (K.arr (2:Nat) (K.int i64)).dflt) (Int.toNat (0:Int)) (0:Int))) ((K.flt f64).pair ((K.flt f64).pair (K.flt
 f64))).dflt) ((Zs n c).1.getD (Int.toNat (List.getD ([[(1:Int),(2:Int)],[(3:Int),(2:Int)],[(0:Int),(3:Int)],[(0:Int),(1:Int)]].getD
 o.toNat (K.arr (2:Nat) (K.int i64)).dflt) (Int.toNat (1:Int)) (0:Int))) ((K.flt f64).pair ((K.flt f64).pair (K.flt
 f64))).dflt)).1,()))))
theorem Z18d(n:Int)(c:Int)(o:Int)(h:III n c o):Znt  n c o (λr=>r=Zif n c o):=by
 have cl:=Zyc n c;refine⟨⟨h.1,h.2.1⟩,⟨rfl,cl⟩,?_⟩;have no:Zj n c o=false->((0:Nat),())=Zif n c o:=λq=>congrArg r1 (by unfold Z3q; rw[if_neg (by rw[q]; decide)]);rw[Zp6];refine Br.intro (λe=>no ?_) λe=>?_
 ·unfold Zj; rw[show Ze n c=false by simpa using e]; rfl
 have ok:Ze n c=true:=by simpa using e
 rintro _ rfl;refine Br.intro (λe=>no ?_) λe=>?_
 ·have e:=of_decide_eq_true e;unfold Zj; rw[decide_eq_false (p:=0<=o) (by omega)]; simp
 have o0:=of_decide_eq_false e;rintro _ rfl;refine Br.intro (λe=>no ?_) λe=>?_
 ·have e:=of_decide_eq_true e;unfold Zj; rw[decide_eq_false (p:=o<4) (by omega)]; simp
 have o4:=of_decide_eq_false e;have o0:0<=o:=by omega
 have o4:o<4:=by omega
 have okb:Zj n c o=true:=by unfold Zj; rw[ok,decide_eq_true o0,decide_eq_true o4]; rfl
 have hc:∀ i:Int,0<=i->i<=3->(Zs n c).1.getD i.toNat ((K.flt f64).pair ((K.flt f64).pair (K.flt f64))).dflt=Zh5 n c i:=λi a b=>Z1pr ok a b _;have c0:=hc 0 (by decide) (by decide);have c1:=hc 1 (by decide) (by decide);have c2:=hc 2 (by decide) (by decide);have c3:=hc 3 (by decide) (by decide)
 have fin:∀ A B:Nat × Nat × Nat,A=Zh5 n c (endA o)->B=Zh5 n c (endB o)->(gapQ A B,())=Zif n c o:=by
  intro A B hA hB;rw[hA,hB]; exact congrArg r1 (by unfold Z3q; rw[if_pos okb])
 have wA:∀ i,WV (Zh5 n c i):=Z1ur n c;generalize hQ:(Zs n c).fst=Q at *;rcases Z2i o0 o4 with rfl | rfl | rfl | rfl
 ·exact⟨⟨by decide,by decide⟩,⟨rfl,rfl⟩,⟨by decide,by decide,by decide⟩,⟨by decide,by decide,Nat.le_of_eq cl.symm⟩,⟨by decide,by decide,by decide⟩,⟨by decide,by decide,Nat.le_of_eq cl.symm⟩,⟨c1 ▸ wA 1,c2 ▸ wA 2⟩,fin _ _ c1 c2⟩
 ·exact⟨⟨by decide,by decide⟩,⟨rfl,rfl⟩,⟨by decide,by decide,by decide⟩,⟨by decide,by decide,Nat.le_of_eq cl.symm⟩,⟨by decide,by decide,by decide⟩,⟨by decide,by decide,Nat.le_of_eq cl.symm⟩,⟨c3 ▸ wA 3,c2 ▸ wA 2⟩,fin _ _ c3 c2⟩
 ·exact⟨⟨by decide,by decide⟩,⟨rfl,rfl⟩,⟨by decide,by decide,by decide⟩,⟨by decide,by decide,Nat.le_of_eq cl.symm⟩,⟨by decide,by decide,by decide⟩,⟨by decide,by decide,Nat.le_of_eq cl.symm⟩,⟨c0 ▸ wA 0,c3 ▸ wA 3⟩,fin _ _ c0 c3⟩
 ·exact⟨⟨by decide,by decide⟩,⟨rfl,rfl⟩,⟨by decide,by decide,by decide⟩,⟨by decide,by decide,Nat.le_of_eq cl.symm⟩,⟨by decide,by decide,by decide⟩,⟨by decide,by decide,Nat.le_of_eq cl.symm⟩,⟨c0 ▸ wA 0,c1 ▸ wA 1⟩,fin _ _ c0 c1⟩
def Zz4:=λ(n c o:Int)(post:Nat × Unit->Prop)=>∃(h:III n c o),∀ a,a=Z5x n c o->∃(h:II n c),∀ a_1,a_1=Z98 n c->∃(h:II n a.1),∀ a_2,
 a_2=Z98 n a.1->Br (!a_1.2.1) (post (0,())) (Br (!a_2.2.1) (post (0,())) (∃(h:WV2 a_1.1 a_2.1),post ((gapR a_1.1 a_2.1).1,())))
theorem Z1jd(n:Int)(c:Int)(o:Int)(h:III n c o):Zz4  n c o (λr=>r=Z1m9 n c o):=by
 have br:=Z12r n c o;refine⟨h,?_⟩;rintro⟨b,q,⟨⟩⟩ hb;have eb:b=(Z3 n c o).1:=congrArg Prod.fst hb;rw[<- eb]at br;refine⟨⟨h.1,h.2.1⟩,?_⟩;rintro⟨⟨A1,A2,A3⟩,p,⟨⟩⟩ hA;refine⟨⟨h.1,by omega,by omega⟩,?_⟩;rintro⟨⟨B1,B2,B3⟩,r,⟨⟩⟩ hB;have hA:((A1,A2,A3),p,())=Z98 n c:=hA;have hB:((B1,B2,B3),r,())=Z98 n b:=hB;have key:∀ z,Z98 n z=if Ze n z then(Zmf n z,true,())else((0,0,0),false,()):=λz=>rfl
 have bt:∀ {z:Bool},z=true->¬ (!z)=true:=λ {z} e=>by rw[e]; decide
 have bf:∀ {z:Bool},z=false->¬ (!z)=false:=λ {z} e=>by rw[e]; decide
 by_cases o1:Ze n c=true
 ·rw[key,if_pos o1]at hA;obtain⟨eA,e1⟩:=Prod.mk.inj hA;have ep:p=true:=congrArg Prod.fst e1;refine Br.intro (λe=>absurd e (bt ep)) λ_=>?_;by_cases o2:Ze n b=true
  ·rw[key,if_pos o2]at hB;obtain⟨eB,e2⟩:=Prod.mk.inj hB;have er:r=true:=congrArg Prod.fst e2;refine Br.intro (λe=>absurd e (bt er)) λ_=>?_;have hw:WV2 (A1,A2,A3) (B1,B2,B3):=⟨by rw[eA]; exact Z1a6 _ _,by rw[eB]; exact Z1a6 _ _⟩
   have hg:gapQ (A1,A2,A3) (B1,B2,B3)=gapG n c o:=by
    rw[eA,eB]; unfold gapG; rw[<- eb,o1,o2,if_pos (by decide)]
   exact⟨hw,congrArg r1 hg⟩
  ·rw[key,if_neg o2]at hB;obtain⟨eB,e2⟩:=Prod.mk.inj hB;have er:r=false:=congrArg Prod.fst e2;refine Br.intro (λ_=>congrArg r1 ?_) λe=>absurd e (bf er);unfold gapG; rw[<- eb,o1,show Ze n b=false by simpa using o2]; rfl
 ·rw[key,if_neg o1]at hA;obtain⟨eA,e1⟩:=Prod.mk.inj hA;have ep:p=false:=congrArg Prod.fst e1;refine Br.intro (λ_=>congrArg r1 ?_) λe=>absurd e (bf ep);unfold gapG; rw[show Ze n c=false by simpa using o1]; rfl
section
open Go.Proofs
def Zz5:Cx:=⟨Z1v Z26,Z23 [(104,Z9j),(180,Zdv),(179,Zdw),(112,Zaf),(113,Zz3),(51,Zck)],SqG⟩
theorem Znu:CxOk Tryz.prog Zz5:=⟨Zn Z12,Zr ⟨Zds,Znq,Znr,Zj4,Z1jc,Zky,trivial⟩⟩
def Zl2:Con:=Con.nam [.int .i64,.int .i64] [.snap kVec,.snap .bool] (λx=>II x.1 x.2.1) (λx=>Z98 x.1 x.2.1)
theorem Z155:SqH Zl2 114:=
 nP Znu Z5 Zc nHn Tryz.func114 (λx p=>Zns  x.1 x.2.1 p) λx h _=>Z18c  x.1 x.2.1 h
def Z1je:Cx:=addC 114 Zl2 Zz5
theorem Znv:CxOk Tryz.prog Z1je:=Zk Znu Z155
def Zl3:Con:=Con.nam [.int .i64,.int .i64,.int .i64] [.snap (.flt .f64)] (λx=>III x.1 x.2.1 x.2.2.1) (λx=>Zif x.1 x.2.1 x.2.2.1)
theorem Z156:SqH Zl3 52:=
 nP Znv Z5 Zc nHn Tryz.func52 (λx p=>Znt  x.1 x.2.1 x.2.2.1 p) λx h _=>Z18d  x.1 x.2.1 x.2.2.1 h
def Zvk:Con:=Con.nam [.int .i64,.int .i64,.int .i64] [.snap (.flt .f64)] (λx=>III x.1 x.2.1 x.2.2.1) (λx=>Z1m9 x.1 x.2.1 x.2.2.1)
theorem Z1hl:SqH Zvk 53:=
 nP Znv Z5 Zc nHn Tryz.func53 (λx p=>Zz4  x.1 x.2.1 x.2.2.1 p) λx h _=>Z1jd  x.1 x.2.1 x.2.2.1 h
end
section
open Go.Proofs
def Z1nf:Cx:=⟨Z1v Z26,Z23 [(48,Z5i),(51,Zck),(103,Zro),(52,Zl3),(53,Zvk)],SqG⟩
theorem Zrp:CxOk Tryz.prog Z1nf:=⟨Zn Z12,Zr ⟨Z76,Zky,Z1d2,Z156,Z1hl,trivial⟩⟩
def Zcm:Con:=.det [.int .i64] [.snap (.ptr Z25),.snap (.int .i64)] (λx=>I64 x.1) (λx=>newR x.1)
theorem Zj5:SqH Zcm 13:=
 dPI Zrp Z5 Zc ({loops:=Z11 [(9,{ls:=[(.slot 36,.data (.int .i64)),(.cell 1 1,.row 96 Z49),(.cell 1 4,.row 2 (.int .i64))],os:=[(0,88,.ent (.pair (.int .i64) (.int .i64)) (.int .i64))]}),(15,{ls:=[(.slot 49,.data (.int .i64)),(.cell 1 3,.row 98 (.arr 2 (.int .i64))),(.cell 1 5,.row 22 (.flt .f64)),(.cell 1 6,.row 22 (.flt .f64))],os:=[]})],joins:=λ_=>none,inl:=inlL [49,50],unroll:=λk=>if k=6 then some 3 else none}) (Z40 Zrp Z5 Z1by 6) Tryz.func13 (λx p=>Zyy 92 93 2 96 49 50 x.1 p) λx h _=>Z1j8 92 93 2 96 49 50 x.1 h
end
def Zj6:=λ(a b c:Nat)(post:Bool × Unit->Prop)=>∀ a_1,a_1=fcmp Go.BinOp.geq (f64.format.order a b)->Br a_1 (∀ a_2,a_2=fcmp Go.BinOp.leq
 (f64.format.order a c)->Br a_2 (∃(h:True),∀ a_3,a_3=((Z65 a).1 != 9223372036854775808)->post (a_3,())) (post (false,()))) (post (false,
 ()))
theorem Z10d(a:Nat)(b:Nat)(c:Nat)(h:W3 a b c):Zj6  a b c (λr=>r=Zid a b c):=by
 have nz:∀ x:Nat,((x:Int) != (9223372036854775808:Int))=decide (x≠9223372036854775808):=by
  intro x;show(!((x:Int)==((9223372036854775808:Nat):Int)))=_;rw[Z1kc];by_cases q:x=9223372036854775808
  ·rw[decide_eq_true q,decide_eq_false (by simpa using q)]; rfl
  ·rw[decide_eq_false q,decide_eq_true q]; rfl
 rintro _ rfl;refine Br.intro (λe=>?_) λe=>?_
 ·rintro _ rfl;refine Br.intro (λf=>?_) λf=>?_
  ·refine⟨trivial,?_⟩;rintro _ rfl;refine congrArg r1 ?_;show((a:Int) != (9223372036854775808:Int))=Z29 a b c;unfold Z29;rw[nz,show fcmp .geq (Ieee.double.order a b)=true from e,show fcmp .leq (Ieee.double.order a c)=true from f]; rfl
  ·exact congrArg r1 (by unfold Z29; rw[show fcmp .leq (Ieee.double.order a c)=false from f,Bool.and_false]; rfl)
 ·exact congrArg r1 (by unfold Z29; rw[show fcmp .geq (Ieee.double.order a b)=false from e]; rfl)
def Zj7(ty22:Nat)(b:Nat):List HObj:=[HObj.box Md.rw ty22 [SV.val (Go.Value.float f64 b)]]
def Zl4:=λ(ty22:Nat)(a:List Nat)(b:Nat)(post:Int × Unit->Prop)=>HS (Zj7 ty22 b)/\∃(I:Int × Unit->Unit->Prop),∃(μ:Int × Unit->
 Unit->Nat),I (0,()) ()/\∀(x:Int × Unit)(y:Unit),I x y->∀ a_1,a_1=decide (x.1<(↑a.length:Int))->Br a_1 (∃(h:0<=x.1/\x.1<(↑a.length:Int)),∃(h
 : W3 (a.getD x.1.toNat 0) (Go.Op.negFloat f64 b) b),∀ a_2,a_2=(Zid (a.getD x.1.toNat 0) (Go.Op.negFloat f64 b) b).1->Br (!a_2)
 (post (x.1,())) (HS (Zj7 ty22 b)/\I (i64.wrap (x.1+1),()) ()/\μ (i64.wrap (x.1+1),()) ()<μ x y)) (post ((-1:Int),()))
theorem Z157(ty0:Nat)(a:List Nat)(b:Nat)(h:WLF a b)(w:KS.wf [.slice (.flt .f64),.flt .f64] (a,b,())):Zl4 ty0 a b (λr=>r=Zdc a b):=by
 have hl:a.length<=maxN:=w.1.1;unfold maxN at hl;refine⟨rfl,λx _=>∃ i:Nat,x.1=i/\i<=a.length/\Z2e a b=Zbp (λx=>!Z29 x (negF b) b) i (a.drop i),λx _=>a.length - x.1.toNat,⟨0,rfl,by omega,rfl⟩,?_⟩;rintro⟨_,⟨⟩⟩ _ ⟨i,rfl,hil,hi⟩;dsimp only;rintro _ rfl;refine Br.intro (λe=>?_) λe=>?_
 ·have e:i<a.length:=by have:=of_decide_eq_true e; omega
  refine⟨⟨by omega,by omega⟩,?_⟩;rw[Int.toNat_natCast];rw[Zjy e 0,Zec]at hi;refine⟨⟨h.1 _ (Zu e 0),Zi7 h.2,h.2⟩,?_⟩;rintro _ rfl;refine Br.intro (λf=>?_) λf=>?_
  ·refine congrArg r1 ?_;rw[hi];rw[if_pos (show(!Z29 (a.getD i 0) (negF b) b)=true from f)]
  ·rw[if_neg (by rw[show(!Z29 (a.getD i 0) (negF b) b)=false from f]; decide)]at hi;rw[Z19 e (by omega)];exact⟨rfl,⟨i+1,rfl,by omega,hi⟩,by omega⟩
 ·have e:¬ i<a.length:=by have:=of_decide_eq_false e; omega
  refine congrArg r1 ?_;rw[hi,List.drop_eq_nil_of_le (by omega)]; rfl
def Zl5:=λ(ty2:Nat)(a:List Int)(b:Int)(post:Int × Unit->Prop)=>HS [HObj.box Md.rw ty2 [SV.junk]]/\∃(I:Int × Int × Unit->Unit->Prop),∃(μ:Int
 × Int × Unit->Unit->Nat),I (0,b,()) ()/\∀(x:Int × Int × Unit)(y:Unit),I x y->∀ a_1,a_1=decide (x.1<(↑a.length:Int))->Br a_1 (∃(h:0<=x.1/\x.1 <
 (↑a.length:Int)),∀ a_2,a_2=decide (a.getD x.1.toNat (0:Int)<0)->Br a_2 (post (x.1,())) (∀ a_3,a_3=decide (a.getD x.1.toNat 0 > i64.wrap
 (4503599627370496 - x.2.1))->Br a_3 (post (x.1,())) (HS [HObj.box Md.rw ty2 [SV.junk]]/\I (i64.wrap (x.1+1),i64.wrap (x.2.1+a.getD x.1.toNat (0:
 Int)),()) ()/\μ (i64.wrap (x.1+1),i64.wrap (x.2.1+a.getD x.1.toNat 0),()) ()<μ x y))) (post ((-1:Int),()))
theorem Z158(ty0:Nat)(a:List Int)(b:Int)(h:Zmd a b)(w:KS.wf [.slice (.int .i64),.int .i64] (a,b,())):Zl5 ty0 a b (λr=>r=Zdd a b):=by
 have hl:a.length<=maxN:=w.1.1;unfold maxN at hl;obtain⟨ha,hb0,hb1⟩:=h;refine⟨rfl,λx _=>∃ i:Nat,x.1=i/\i<=a.length/\0<=x.2.1/\x.2.1<=4503599627370496/\Z2h 0 b a=Z2h i x.2.1 (a.drop i),λx _=>a.length - x.1.toNat,⟨0,rfl,by omega,hb0,hb1,rfl⟩,?_⟩;rintro⟨_,s,⟨⟩⟩ _ ⟨i,rfl,hil,h0,h1,hi⟩;dsimp only at h0 h1 hi ⊢;have ws:i64.wrap (4503599627370496 - s)=4503599627370496 - s:=wi ⟨by omega,by omega⟩;rintro _ rfl;refine Br.intro (λe=>?_) λe=>?_
 ·have e:i<a.length:=by have:=of_decide_eq_true e; omega
  refine⟨⟨by omega,by omega⟩,?_⟩;rw[Int.toNat_natCast,ws];rw[Zjy e 0,Zu6]at hi;have hr:=ha _ (Zu e 0);rintro _ rfl;refine Br.intro (λf=>?_) λf=>?_
  ·refine congrArg r1 ?_;rw[hi];rw[if_pos (.inl (of_decide_eq_true f))]
  have f:=of_decide_eq_false f;rintro _ rfl;refine Br.intro (λg=>?_) λg=>?_
  ·refine congrArg r1 ?_;rw[hi];rw[if_pos (.inr (of_decide_eq_true g))]
  ·have g:=of_decide_eq_false g;rw[if_neg (by omega)]at hi;rw[Z19 e (by omega),wi (x:=s+a.getD i 0) ⟨by omega,by omega⟩];exact⟨rfl,⟨i+1,rfl,by omega,by omega,by omega,hi⟩,by omega⟩
 ·have e:¬ i<a.length:=by have:=of_decide_eq_false e; omega
  refine congrArg r1 ?_;rw[hi,List.drop_eq_nil_of_le (by omega)]; rfl
def Znw:=λ(n:Int)(s:YS)(post:Int × Int × Unit->Prop)=>∃(h:I64 n),Br ((Z4d n).1==(0:Int)) (post (0,10,())) (∃(h:(2:Int)≠(0:Int)),∃
 (h:(0:Int)<=(0:Int)/\(0:Int)<(↑(4:Nat):Int)),Br ([(↑s.1.length:Int),(↑s.2.1.length:Int),(↑s.2.2.1.length:Int),i64.wrap ((↑s.2.2.2.1.length:
 Int).tdiv (2:Int))].getD (Int.toNat (0:Int)) (0:Int) != (Z4d n).1) (post (0,12,())) (∃(h:(0:Int)<=i64.wrap ((0:Int)+(1:Int))/\i64.wrap ((0
 : Int)+(1:Int))<(↑(4:Nat):Int)),Br ([(↑s.1.length:Int),(↑s.2.1.length:Int),(↑s.2.2.1.length:Int),i64.wrap ((↑s.2.2.2.1.length:Int).tdiv (2:
 Int))].getD (i64.wrap ((0:Int)+(1:Int))).toNat (0:Int) != (Z4d n).1) (post (i64.wrap ((0:Int)+(1:Int)),12,())) (∃(h:(0:Int)<=
 i64.wrap (i64.wrap ((0:Int)+(1:Int))+(1:Int))/\i64.wrap (i64.wrap ((0:Int)+(1:Int))+(1:Int))<(↑(4:Nat):Int)),Br
 ([(↑s.1.length:Int),(↑s.2.1.length:Int),(↑s.2.2.1.length:Int),i64.wrap ((↑s.2.2.2.1.length:Int).tdiv (2:Int))].getD (i64.wrap (i64.wrap ((0:
 Int)+(1:Int))+(1:Int))).toNat (0:Int) != (Z4d n).1) (post (i64.wrap (i64.wrap ((0:Int)+(1:Int))+(1:Int)),12,())) (∃(h:(0:Int)<=
 i64.wrap (i64.wrap (i64.wrap ((0:Int)+(1:Int))+(1:Int))+(1:Int))/\i64.wrap (i64.wrap (i64.wrap ((0:Int)+(1:
 Int))+(1:Int))+(1:Int))<(↑(4:Nat):Int)),Br ([(↑s.1.length:Int),(↑s.2.1.length:Int),(↑s.2.2.1.length:Int),i64.wrap ((↑s.2.2.2.1.length:Int).tdiv
 (2:Int))].getD (i64.wrap (i64.wrap (i64.wrap ((0:Int)+(1:Int))+(1:Int))+(1:Int))).toNat (0:Int) != (Z4d n).1) (post (i64.wrap
 (i64.wrap (i64.wrap ((0:Int)+(1:Int))+(1:Int))+(1:Int)),12,())) (Br ((↑s.2.2.2.1.length:Int) != i64.wrap ((2:Int)*(Z4d n).1))
 (post (i64.wrap (i64.wrap (i64.wrap ((0:Int)+(1:Int))+(1:Int))+(1:Int)),12,())) (∃(h:WLF s.1 (4697254411347427328:Nat)),Br (decide
 ((Zdc s.1 (4697254411347427328:Nat)).1>=(0:Int))) (post ((Zdc s.1 (4697254411347427328:Nat)).1,13,())) (Br (decide (s.2.2.2.2.1<(0:Int))) (post (0,17,()))
 (Br (decide (s.2.2.2.2.1 > (4503599627370496:Int))) (post (0,17,())) (∃(h:Zmd s.2.1 s.2.2.2.2.1),Br (decide ((Zdd s.2.1 s.2.2.2.2.1).1>=(0:Int))) (post
 ((Zdd s.2.1 s.2.2.2.2.1).1,14,())) (∃(h:Zmd s.2.2.1 (0:Int)),Br (decide ((Zdd s.2.2.1 (0:Int)).1>=(0:Int))) (post ((Zdd s.2.2.1 (0:Int)).1,15,()))
 (∃(h:WLF s.2.2.2.1 (4652218415073722368:Nat)),Br (decide ((Zdc s.2.2.2.1 (4652218415073722368:Nat)).1>=(0:Int))) (post ((Zdc s.2.2.2.1 (4652218415073722368:
 Nat)).1,16,())) (Br (decide (s.2.2.2.2.2<(0:Int))) (post (0,1,())) (Br (decide (s.2.2.2.2.2 > (4611686018427387904:Int))) (post (0,1,())) (post (0,0,
 ())))))))))))))))
theorem Z18e(n:Int)(s:YS)(h:Z12j n s)(w:KS.wf [.int .i64,kSea] (n,s,())):Znw  n s (λr=>r=Zme n s):=by
 obtain⟨hn,hb,hw,ht,hs,h4,h5⟩:=h;have l1:s.1.length<=maxN:=w.2.1.1.1;have l2:s.2.2.2.1.length<=maxN:=w.2.1.2.2.2.1.1;unfold maxN at l1 l2;obtain⟨c0,c1⟩:=Z2p n;have wc:i64.wrap (2*Z2 n)=2*Z2 n:=wi ⟨by omega,by omega⟩;have td:(s.2.2.2.1.length:Int).tdiv 2=(s.2.2.2.1.length:Int) / 2:=Int.tdiv_eq_ediv_of_nonneg (by omega);have wd:i64.wrap ((s.2.2.2.1.length:Int) / 2)=(s.2.2.2.1.length:Int) / 2:=wi ⟨by omega,by omega⟩;refine⟨hn,Br.intro (λe=>?_) λe=>?_⟩
 ·have e:Z2 n=0:=eq_of_beq e;show _=((Z1l n s).1,(Z1l n s).2,());unfold Z1l; rw[if_pos e]
 have e0:¬ Z2 n=0:=by intro q; have e:(Z2 n==0)=false:=e; rw[q]at e; cases e
 refine⟨by decide,⟨by decide,by decide⟩,Br.intro (λe=>?_) λe=>?_⟩
 ·have e:(s.1.length:Int)≠Z2 n:=Z96.1 e;show _=((Z1l n s).1,(Z1l n s).2,());unfold Z1l; rw[if_neg e0,if_pos e]
 have e1:(s.1.length:Int)=Z2 n:=Z96.2 e;refine⟨⟨by decide,by decide⟩,Br.intro (λe=>?_) λe=>?_⟩
 ·have e:(s.2.1.length:Int)≠Z2 n:=Z96.1 e;show _=((Z1l n s).1,(Z1l n s).2,());unfold Z1l; rw[if_neg e0,if_neg (by omega),if_pos e]; rfl
 have e2:(s.2.1.length:Int)=Z2 n:=Z96.2 e;refine⟨⟨by decide,by decide⟩,Br.intro (λe=>?_) λe=>?_⟩
 ·have e:(s.2.2.1.length:Int)≠Z2 n:=Z96.1 e;show _=((Z1l n s).1,(Z1l n s).2,());unfold Z1l; rw[if_neg e0,if_neg (by omega),if_neg (by omega),if_pos e]; rfl
 have e3:(s.2.2.1.length:Int)=Z2 n:=Z96.2 e
 have no3:(s.2.2.2.1.length:Int)≠2*Z2 n->((3:Int),(12:Int),())=Zme n s:=by
  intro e;show _=((Z1l n s).1,(Z1l n s).2,());unfold Z1l; rw[if_neg e0,if_neg (by omega),if_neg (by omega),if_neg (by omega),if_pos e]
 refine⟨⟨by decide,by decide⟩,Br.intro (λe=>?_) λe=>?_⟩
 ·have e:i64.wrap ((s.2.2.2.1.length:Int).tdiv 2)≠Z2 n:=Z96.1 e;rw[td,wd]at e;exact no3 (by omega)
 refine Br.intro (λe=>?_) λe=>?_
 ·have e:(s.2.2.2.1.length:Int)≠i64.wrap (2*Z2 n):=Z96.1 e;rw[wc]at e;exact no3 e
 have e4:(s.2.2.2.1.length:Int)=i64.wrap (2*Z2 n):=Z96.2 e;rw[wc]at e4
 have base:Z1l n s=if 0<=Z2e s.1 4697254411347427328 then(Z2e s.1 4697254411347427328,13)
  else if s.2.2.2.2.1<0∨s.2.2.2.2.1 > 4503599627370496 then(0,17)
  else if 0<=Z2h 0 s.2.2.2.2.1 s.2.1 then(Z2h 0 s.2.2.2.2.1 s.2.1,14)
  else if 0<=Z2h 0 0 s.2.2.1 then(Z2h 0 0 s.2.2.1,15)
  else if 0<=Z2e s.2.2.2.1 4652218415073722368 then(Z2e s.2.2.2.1 4652218415073722368,16)
  else if s.2.2.2.2.2<0∨s.2.2.2.2.2 > 4611686018427387904 then(0,1)
  else(0,0):=by
  show(if Z2 n=0 then _ else _)=_;rw[if_neg e0,if_neg (by omega),if_neg (by omega),if_neg (by omega),if_neg (by omega)]
 have fin:∀ p q,Z1l n s=(p,q)->(p,q,())=Zme n s:=by intro p q e; show _=((Z1l n s).1,(Z1l n s).2,()); rw[e]
 refine⟨⟨hb,by unfold W64; decide⟩,Br.intro (λe=>fin _ _ ?_) λe=>?_⟩
 ·have e:0<=Z2e s.1 4697254411347427328:=of_decide_eq_true e;rw[base,if_pos e]; rfl
 have f1:¬ 0<=Z2e s.1 4697254411347427328:=of_decide_eq_false e;rw[if_neg f1]at base;refine Br.intro (λe=>fin _ _ ?_) λe=>?_
 ·rw[base,if_pos (.inl (of_decide_eq_true e))]
 have f2:=of_decide_eq_false e;refine Br.intro (λe=>fin _ _ ?_) λe=>?_
 ·rw[base,if_pos (.inr (of_decide_eq_true e))]
 have f3:=of_decide_eq_false e;rw[if_neg (by omega)]at base;refine⟨⟨hw,by omega,by omega⟩,Br.intro (λe=>fin _ _ ?_) λe=>?_⟩
 ·have e:0<=Z2h 0 s.2.2.2.2.1 s.2.1:=of_decide_eq_true e;rw[base,if_pos e]; rfl
 have f4:¬ 0<=Z2h 0 s.2.2.2.2.1 s.2.1:=of_decide_eq_false e;rw[if_neg f4]at base;refine⟨⟨ht,by omega,by omega⟩,Br.intro (λe=>fin _ _ ?_) λe=>?_⟩
 ·have e:0<=Z2h 0 0 s.2.2.1:=of_decide_eq_true e;rw[base,if_pos e]; rfl
 have f5:¬ 0<=Z2h 0 0 s.2.2.1:=of_decide_eq_false e;rw[if_neg f5]at base;refine⟨⟨hs,by unfold W64; decide⟩,Br.intro (λe=>fin _ _ ?_) λe=>?_⟩
 ·have e:0<=Z2e s.2.2.2.1 4652218415073722368:=of_decide_eq_true e;rw[base,if_pos e]; rfl
 have f6:¬ 0<=Z2e s.2.2.2.1 4652218415073722368:=of_decide_eq_false e;rw[if_neg f6]at base;refine Br.intro (λe=>fin _ _ ?_) λe=>?_
 ·rw[base,if_pos (.inl (of_decide_eq_true e))]
 have f7:=of_decide_eq_false e;refine Br.intro (λe=>fin _ _ ?_) λe=>fin _ _ ?_
 ·rw[base,if_pos (.inr (of_decide_eq_true e))]
 have f8:=of_decide_eq_false e;rw[base,if_neg (by omega)]
section
open Go.Proofs
def Zz6:Cx:=⟨Z1v Z26,Z23 [(100,Z7m),(48,Z5i)],SqG⟩
theorem Znx:CxOk Tryz.prog Zz6:=⟨Zn Z12,Zr ⟨Zcb,Z76,trivial⟩⟩
def Z9l:Con:=.det [.flt .f64,.flt .f64,.flt .f64] [.snap .bool] (λx=>W3 x.1 x.2.1 x.2.2.1) (λx=>Zid x.1 x.2.1 x.2.2.1)
theorem Zgo:SqH Z9l 60:=
 dP Znx Z5 Zc nHn Tryz.func60 (λx p=>Zj6  x.1 x.2.1 x.2.2.1 p) λx h _=>Z10d  x.1 x.2.1 x.2.2.1 h
def Zz7:Cx:=addC 60 Z9l Zz6
theorem Zdx:CxOk Tryz.prog Zz7:=Zk Znx Zgo
def Zag:Con:=.det [.slice (.flt .f64),.flt .f64] [.snap (.int .i64)] (λx=>WLF x.1 x.2.1) (λx=>Zdc x.1 x.2.1)
theorem Zj8:SqH Zag 65:=
 dPI Zdx Z5 Zc ({loops:=λ_=>none,joins:=λ_=>none,named:=true,inl:=inlL [145]}) (Z40 Zdx Z5 Z1bt 6) Tryz.func65 (λx p=>Zl4 22 x.1 x.2.1 p) λx h w=>Z157 22 x.1 x.2.1 h w
def Zz8:Cx:=addC 65 Zag Zz7
theorem Zdy:CxOk Tryz.prog Zz8:=Zk Zdx Zj8
def Zah:Con:=.det [.slice (.int .i64),.int .i64] [.snap (.int .i64)] (λx=>Zmd x.1 x.2.1) (λx=>Zdd x.1 x.2.1)
theorem Zj9:SqH Zah 66:=
 dPI Zdy Z5 Zc ({loops:=λ_=>none,joins:=λ_=>none,named:=true,inl:=inlL [147]}) (Z40 Zdy Z5 Z1bu 6) Tryz.func66 (λx p=>Zl5 2 x.1 x.2.1 p) λx h w=>Z158 2 x.1 x.2.1 h w
def Z1jf:Cx:=addC 66 Zah Zz8
theorem Z18f:CxOk Tryz.prog Z1jf:=Zk Zdy Zj9
def Zcn:Con:=.det [.int .i64,kSea] [.snap (.int .i64),.snap (.int .i64)] (λx=>Z12j x.1 x.2.1) (λx=>Zme x.1 x.2.1)
theorem Zl6:SqH Zcn 21:=
 dP Z18f Z5 Zc ({loops:=λ_=>none,joins:=λ_=>none,unroll:=λ_=>some 5}) Tryz.func21 (λx p=>Znw  x.1 x.2.1 p) λx h w=>Z18e  x.1 x.2.1 h w
end
def Z5s:=λ(l:List Nat)(post:List Nat × Unit->Prop)=>∀(a:Bool),(a=true->l.length=0)->∀(a_1:Bool),(a_1=if
 false=true then !a else a)->Br a_1 (post ([],())) (∃(h:(0:Nat)=0/\(0+l.length)*(8:Nat)<=140737488355328),(0=(0:
 Nat)/\0+l.length=([]++l).length)/\post ([]++l,()))
theorem Zba(l:List Nat)(h:Z13g l):Z5s  l (λr=>r=Z13f l):=by
 intro a ha a1 h1;have h1:a1=a:=h1;subst h1;refine Br.intro (λe=>?_) λe=>?_
 ·have:=List.eq_nil_of_length_eq_zero (ha e);subst this; rfl
 ·have hl:l.length<=65536:=h;exact⟨⟨by trivial,by omega⟩,⟨by trivial,by rw[List.nil_append]; omega⟩,by rw[List.nil_append]; rfl⟩
def Zl7:=λ(x:Int)(post:Bool × Unit->Prop)=>∀ a,a=decide (x<0)->Br a (post (true,())) (∀ a,a=decide (x > 4503599627370496)->
 post (a,()))
theorem Z159(x:Int):Zl7  x (λr=>r=Zzz x):=by
 rintro _ rfl;refine Br.intro (λe=>?_) λe=>?_
 ·show(true,())=(Z22 x,());unfold Z22; rw[e]; rfl
 rintro _ rfl;show(decide (4503599627370496<x),())=(Z22 x,());unfold Z22; rw[e]; rfl
def Z1b(ty27:Nat)(s:List Int)(ty2:Nat)(sky:Int):List HObj:=[HObj.box Md.rw ty27 [SV.data (K.int i64).slice s],HObj.box Md.rw ty2 [SV.val (Go.Value.int i64 sky)]]
def Z1d3(ty27:Nat)(s:List Int)(ty2:Nat)(a:List Int × Unit):List HObj:=[HObj.box Md.rw ty27 [SV.data (K.int i64).slice s],HObj.box Md.rw ty2 [SV.junk],HObj.row Md.rw ty2 (K.int i64) a.1,HObj.box Md.rw ty27 [SV.osl 2 0 a.1.length]]
def Zg9(ty27:Nat)(s:List Int)(ty2:Nat)(y:List Int × Unit)(a:List Int × Unit):List HObj:=[HObj.box Md.rw ty27 [SV.data (K.int i64).slice s],HObj.box Md.rw ty2 [SV.junk],HObj.row Md.rw ty2 (K.int i64) y.1,HObj.box Md.rw ty27 [SV.osl 2 0 a.1.length]]
def Z1d4(ty27:Nat)(s:List Int)(ty2:Nat)(y:List Int × Unit)(rs:List (Int × Int × Int × Int))(x:Int × Int × Unit)(a:List Int × Unit):List HObj:=[HObj.box Md.rw ty27 [SV.data (K.int i64).slice s],HObj.box Md.rw ty2 [SV.junk],HObj.row Md.rw ty2 (K.int i64) (y.1.set (0+(rs.getD x.1.toNat Zl.dflt).1.toNat) (i64.wrap (y.1.getD (0+(rs.getD x.1.toNat Zl.dflt).1.toNat) 0+imin (rs.getD x.1.toNat Zl.dflt).2.1 x.2.1))),HObj.box Md.rw ty27 [SV.osl 2 0 a.1.length]]
def Z1d5(ty27:Nat)(s:List Int)(ty2:Nat)(y:List Int × Unit)(rs:List (Int × Int × Int × Int))(x:Int × Int × Unit)(a:List Int × Unit):List HObj:=[HObj.box Md.rw ty27 [SV.data (K.int i64).slice s],HObj.box Md.rw ty2 [SV.junk],HObj.row Md.rw ty2 (K.int i64) (y.1.set (0+(rs.getD x.1.toNat Zl.dflt).1.toNat) (i64.wrap (y.1.getD (0+(rs.getD x.1.toNat Zl.dflt).1.toNat) 0 - imin (i64.wrap (0 - (rs.getD x.1.toNat Zl.dflt).2.1)) (y.1.getD (0+(rs.getD x.1.toNat Zl.dflt).1.toNat) 0)))),HObj.box Md.rw ty27 [SV.osl 2 0 a.1.length]]
def Zvl:=λ(ty27 ty2:Nat)(s:List Int)(sky:Int)(rs:List (Int × Int × Int × Int))(step:Int)(post:List Int × Int × Int × Unit->Prop)=>∃(post_1:Bool
 × Unit->Unit->Prop),(∀ a,a=decide (step<0)->Br a (HS (Z1b ty27 s ty2 sky)/\post_1 (true,()) ()) (∃(h:True),∀ a,a=Zzz sky->∀ a_1,a_1
 = a.1->Br a_1 (HS (Z1b ty27 s ty2 sky)/\post_1 (true,()) ()) (∀ a,a=decide ((↑rs.length:Int) > 1024)->Br a (HS (Z1b ty27 s ty2 sky)/\
 post_1 (true,()) ()) (HS (Z1b ty27 s ty2 sky)/\∃(I:Int × Unit->Unit->Prop),∃(μ:Int × Unit->Unit->Nat),I (0,()) ()/\∀(x:Int × Unit)(y:
 Unit),I x y->∀ a,a=decide (x.1<(↑s.length:Int))->Br a (∃(h:0<=x.1/\x.1<(↑s.length:Int)),∀ a,a=decide (s.getD x.1.toNat (0:Int)<0)->Br a
 (∀ a,a=decide (x.1>=0)->Br a (HS (Z1b ty27 s ty2 sky)/\post_1 (true,()) ()) (HS (Z1b ty27 s ty2 sky)/\∃(I:Int × Unit->Unit->Prop),∃
 (μ:Int × Unit->Unit->Nat),I (0,()) ()/\∀(x:Int × Unit)(y:Unit),I x y->∀ a,a=decide (x.1<(↑rs.length:Int))->Br a (∃(h:0<=x.1/\x.1 <
 (↑rs.length:Int)),∃(h:True),∀ a,a=Zdi (↑s.length:Int) ((rs.getD x.1.toNat Zl.dflt).1,(rs.getD x.1.toNat Zl.dflt).2.1,(rs.getD x.1.toNat Zl.dflt).2.2.1,
 (rs.getD x.1.toNat Zl.dflt).2.2.2)->∀ a_2,a_2=a.1->Br (!a_2) (∀ a,a=decide (x.1>=0)->HS (Z1b ty27 s ty2 sky)/\post_1 (a,()) ()) (HS (Z1b
 ty27 s ty2 sky)/\I (i64.wrap (x.1+1),()) ()/\μ (i64.wrap (x.1+1),()) ()<μ x y)) (∀ a,a=decide ((-1:Int)>=0)->HS
 (Z1b ty27 s ty2 sky)/\post_1 (a,()) ()))) (∀ a,a=decide (s.getD x.1.toNat (0:Int) > 4503599627370496)->Br a (∀ a,a=decide (x.1>=0)->Br a (HS
 (Z1b ty27 s ty2 sky)/\post_1 (true,()) ()) (HS (Z1b ty27 s ty2 sky)/\∃(I:Int × Unit->Unit->Prop),∃(μ:Int × Unit->Unit->Nat),I (0,
 ()) ()/\∀(x:Int × Unit)(y:Unit),I x y->∀ a,a=decide (x.1<(↑rs.length:Int))->Br a (∃(h:0<=x.1/\x.1<(↑rs.length:Int)),∃(h:True),∀ a,a=
 Zdi (↑s.length:Int) ((rs.getD x.1.toNat Zl.dflt).1,(rs.getD x.1.toNat Zl.dflt).2.1,(rs.getD x.1.toNat Zl.dflt).2.2.1,(rs.getD x.1.toNat Zl.dflt).2.2.2)->∀
 a_2,a_2=a.1->Br (!a_2) (∀ a,a=decide (x.1>=0)->HS (Z1b ty27 s ty2 sky)/\post_1 (a,()) ()) (HS (Z1b ty27 s ty2 sky)/\I (i64.wrap
 (x.1+1),()) ()/\μ (i64.wrap (x.1+1),()) ()<μ x y)) (∀ a,a=decide ((-1:Int)>=0)->HS (Z1b ty27 s ty2 sky)/\post_1 (a,())
 ()))) (HS (Z1b ty27 s ty2 sky)/\I (i64.wrap (x.1+1),()) ()/\μ (i64.wrap (x.1+1),()) ()<μ x y))) (∀ a,a=decide ((-1:Int)>=
 0)->Br a (HS (Z1b ty27 s ty2 sky)/\post_1 (true,()) ()) (HS (Z1b ty27 s ty2 sky)/\∃(I:Int × Unit->Unit->Prop),∃(μ:Int × Unit->Unit->
 Nat),I (0,()) ()/\∀(x:Int × Unit)(y:Unit),I x y->∀ a,a=decide (x.1<(↑rs.length:Int))->Br a (∃(h:0<=x.1/\x.1<(↑rs.length:Int)),∃(h:
 True),∀ a,a=Zdi (↑s.length:Int) ((rs.getD x.1.toNat Zl.dflt).1,(rs.getD x.1.toNat Zl.dflt).2.1,(rs.getD x.1.toNat Zl.dflt).2.2.1,(rs.getD x.1.toNat
 Zl.dflt).2.2.2)->∀ a_2,a_2=a.1->Br (!a_2) (∀ a,a=decide (x.1>=0)->HS (Z1b ty27 s ty2 sky)/\post_1 (a,()) ()) (HS (Z1b ty27 s ty2 sky)/\
 I (i64.wrap (x.1+1),()) ()/\μ (i64.wrap (x.1+1),()) ()<μ x y)) (∀ a,a=decide ((-1:Int)>=0)->HS (Z1b ty27 s ty2
 sky)/\post_1 (a,()) ())))))))/\∀(x:Bool × Unit)(y:Unit),post_1 x y->Br x.1 (post ([],0,1,())) (∃(h:Z12z s),∀ a,a=Zij s->HS (Z1d3
 ty27 s ty2 a)/\∃(I:Int × Int × Unit->List Int × Unit->Prop),∃(μ:Int × Int × Unit->List Int × Unit->Nat),I (0,sky,()) (a.1,())/\∀(x:Int × Int × Unit)(y
 : List Int × Unit),I x y->∀ a_1,a_1=decide (x.1<(↑rs.length:Int))->Br a_1 (∃(h:0<=x.1/\x.1<(↑rs.length:Int)),∀ a_2,a_2=decide (step<(rs.getD
 x.1.toNat Zl.dflt).2.2.1)->Br a_2 (HS (Zg9 ty27 s ty2 y a)/\I (i64.wrap (x.1+1),x.2.1,()) (y.1,())/\μ (i64.wrap (x.1+1),
 x.2.1,()) (y.1,())<μ x y) (∀ a_3,a_3=decide (step>=(rs.getD x.1.toNat Zl.dflt).2.2.2)->Br a_3 (HS (Zg9 ty27 s ty2 y a)/\I (i64.wrap (x.1+(1:
 Int)),x.2.1,()) (y.1,())/\μ (i64.wrap (x.1+1),x.2.1,()) (y.1,())<μ x y) (∀ a_4,a_4=decide ((rs.getD x.1.toNat Zl.dflt).2.1 > 0)->Br a_4
 (∃(h:0<=(rs.getD x.1.toNat Zl.dflt).1/\(rs.getD x.1.toNat Zl.dflt).1<(↑a.1.length:Int)),∃(h:0<=(rs.getD x.1.toNat Zl.dflt).1/\(rs.getD
 x.1.toNat Zl.dflt).1<(↑a.1.length:Int)),HS (Z1d4 ty27 s ty2 y rs x a)/\I (i64.wrap (x.1+1),i64.wrap (x.2.1 - imin (rs.getD x.1.toNat
 Zl.dflt).2.1 x.2.1),()) (y.1.set (0+(rs.getD x.1.toNat Zl.dflt).1.toNat) (i64.wrap (y.1.getD (0+(rs.getD x.1.toNat Zl.dflt).1.toNat) (0:
 Int)+imin (rs.getD x.1.toNat Zl.dflt).2.1 x.2.1)),())/\μ (i64.wrap (x.1+1),i64.wrap (x.2.1 - imin (rs.getD x.1.toNat Zl.dflt).2.1 x.2.1),())
 (y.1.set (0+(rs.getD x.1.toNat Zl.dflt).1.toNat) (i64.wrap (y.1.getD (0+(rs.getD x.1.toNat Zl.dflt).1.toNat) 0+imin (rs.getD x.1.toNat
 Zl.dflt).2.1 x.2.1)),())<μ x y) (∀ a_5,a_5=decide ((rs.getD x.1.toNat Zl.dflt).2.1<0)->Br a_5 (∃(h:0<=(rs.getD x.1.toNat Zl.dflt).1/\
 (rs.getD x.1.toNat Zl.dflt).1<(↑a.1.length:Int)),∃(h:0<=(rs.getD x.1.toNat Zl.dflt).1/\(rs.getD x.1.toNat Zl.dflt).1<(↑a.1.length:Int)),∃(h:(0:
 Int)<=(rs.getD x.1.toNat Zl.dflt).1/\(rs.getD x.1.toNat Zl.dflt).1<(↑a.1.length:Int)),HS (Z1d5 ty27 s ty2 y rs x a)/\I (i64.wrap (x.1+1),
 i64.wrap (x.2.1+imin (i64.wrap (0 - (rs.getD x.1.toNat Zl.dflt).2.1)) (y.1.getD (0+(rs.getD x.1.toNat Zl.dflt).1.toNat) 0)),())
 (y.1.set (0+(rs.getD x.1.toNat Zl.dflt).1.toNat) (i64.wrap (y.1.getD (0+(rs.getD x.1.toNat Zl.dflt).1.toNat) 0 - imin (i64.wrap
 (0 - (rs.getD x.1.toNat Zl.dflt).2.1)) (y.1.getD (0+(rs.getD x.1.toNat Zl.dflt).1.toNat) 0))),())/\μ (i64.wrap (x.1+1),
 i64.wrap (x.2.1+imin (i64.wrap (0 - (rs.getD x.1.toNat Zl.dflt).2.1)) (y.1.getD (0+(rs.getD x.1.toNat Zl.dflt).1.toNat) 0)),())
 (y.1.set (0+(rs.getD x.1.toNat Zl.dflt).1.toNat) (i64.wrap (y.1.getD (0+(rs.getD x.1.toNat Zl.dflt).1.toNat) 0 - imin (i64.wrap
 (0 - (rs.getD x.1.toNat Zl.dflt).2.1)) (y.1.getD (0+(rs.getD x.1.toNat Zl.dflt).1.toNat) 0))),())<μ x y) (HS (Zg9 ty27 s ty2 y a)/\I
 (i64.wrap (x.1+1),x.2.1,()) (y.1,())/\μ (i64.wrap (x.1+1),x.2.1,()) (y.1,())<μ x y))))) (((0:Nat)=0/\a.1.length=
 y.1.length)/\post (y.1,x.2.1,0,())))
theorem Z1hm(ty0 ty1:Nat)(s:List Int)(sky:Int)(rs:List (Int × Int × Int × Int))(step:Int)(h:Z1mo s sky rs step)(w:KS.wf [.slice (.int .i64),.int .i64,.slice Zl,.int .i64] (s,sky,rs,step,())):Zvl ty0 ty1 s sky rs step (λr=>r=Z13e s sky rs step):=by
 refine⟨λx _=>x.1=Z6z s sky rs step,?_,?_⟩
 ·rintro _ rfl;refine Br.intro (λe1=>?_) λe1=>?_
  ·refine⟨rfl,?_⟩;show true=_;unfold Z6z; rw[e1]; rfl
  refine⟨trivial,?_⟩;rintro _ rfl;rintro _ rfl;refine Br.intro (λe2=>?_) λe2=>?_
  ·have e2:Z22 sky=true:=e2;refine⟨rfl,?_⟩;show true=_;unfold Z6z; rw[e2,Bool.or_true]; rfl
  have e2:Z22 sky=false:=e2;rintro _ rfl;refine Br.intro (λe3=>?_) λe3=>?_
  ·have e3:decide (1024<(rs.length:Int))=true:=e3;refine⟨rfl,?_⟩;show true=_;unfold Z6z; rw[e3,Bool.or_true]; rfl
  have e3:decide (1024<(rs.length:Int))=false:=e3
  have key:Z6z s sky rs step=(s.any Z22||rs.any (λr=>!Z2m s.length r)):=by
   unfold Z6z; rw[e1,e2,e3]; rfl
  rw[key];have wr:=w.1;refine⟨rfl,λx _=>∃ k:Nat,x.1=k/\k<=s.length/\∀ j,j<k->Z22 (s.getD j 0)=false,λx _=>s.length - x.1.toNat,⟨0,rfl,by omega,λj hj=>by omega⟩,?_⟩;rintro⟨_,⟨⟩⟩ ⟨⟩ ⟨k,rfl,hk,hj⟩;dsimp only;rintro _ rfl;refine Br.intro (λe4=>?_) λe4=>?_
  ·have hk2:k<s.length:=by have:=of_decide_eq_true e4; omega
   rw[Int.toNat_natCast];refine⟨⟨by omega,by omega⟩,?_⟩
   have bad:Z22 (s.getD k 0)=true->true=(s.any Z22||rs.any (λr=>!Z2m s.length r)):=λq=>by
    rw[Z1va hk2 q]; rfl
   rintro _ rfl;refine Br.intro (λe5=>?_) λe5=>?_
   ·rintro _ rfl;refine Br.intro (λe6=>?_) λe6=>absurd (show(k:Int)>=0 by omega) (of_decide_eq_false e6);exact⟨rfl,bad (by unfold Z22; rw[e5]; rfl)⟩
   rintro _ rfl;refine Br.intro (λe6=>?_) λe6=>?_
   ·rintro _ rfl;refine Br.intro (λe7=>?_) λe7=>absurd (show(k:Int)>=0 by omega) (of_decide_eq_false e7);have e6:decide (4503599627370496<s.getD k 0)=true:=e6;exact⟨rfl,bad (by unfold Z22; rw[e6,Bool.or_true])⟩
   have e6:decide (4503599627370496<s.getD k 0)=false:=e6;have ok:Z22 (s.getD k 0)=false:=by unfold Z22; rw[e5,e6]; rfl
   rw[Z19 (n:=65536) (by have:=h.2.2.2; omega) (by omega)];refine⟨rfl,⟨k+1,rfl,by omega,λj h=>?_⟩,by omega⟩;by_cases ej:j=k
   ·subst ej; exact ok
   ·exact hj j (by omega)
  have hke:k=s.length:=by have:=of_decide_eq_false e4; omega
  subst hke;rw[Z1wi (p:=Z22) hj,Bool.false_or];rintro _ rfl;refine Br.intro (λe=>absurd (of_decide_eq_true e) (by decide)) λ_=>?_;refine⟨rfl,λx _=>∃ k:Nat,x.1=k/\k<=rs.length/\∀ j,j<k->Z2m s.length (rs.getD j Zl.dflt)=true,λx _=>rs.length - x.1.toNat,⟨0,rfl,by omega,λj hj=>by omega⟩,?_⟩;rintro⟨_,⟨⟩⟩ ⟨⟩ ⟨k,rfl,hk,hj⟩;dsimp only;rintro _ rfl;refine Br.intro (λe7=>?_) λe7=>?_
  rotate_left
  ·have hke:k=rs.length:=by have:=of_decide_eq_false e7; omega
   rintro _ rfl;refine⟨rfl,?_⟩;rw[Z1gq (p:=λr=>Z2m s.length r) (l:=rs) (d:=Zl.dflt) (λj h=>hj j (Nat.lt_of_lt_of_eq h hke.symm))]; rfl
  have hk2:k<rs.length:=by have:=of_decide_eq_true e7; omega
  rw[Int.toNat_natCast];refine⟨⟨by omega,by omega⟩,trivial,?_⟩;rintro _ rfl;rintro _ rfl;refine Br.intro (λe8=>?_) λe8=>?_
  ·have e8:(!Z2m s.length (rs.getD k Zl.dflt))=true:=e8;have e8:Z2m s.length (rs.getD k Zl.dflt)=false:=by simpa using e8
   rw[Z1ky (p:=λr=>Z2m s.length r) (l:=rs) (d:=Zl.dflt) hk2 e8];rintro _ rfl;refine⟨rfl,?_⟩;show decide ((k:Int)>=0)=true;rw[decide_eq_true (by omega)]
  ·have e8:(!Z2m s.length (rs.getD k Zl.dflt))=false:=e8;have e8:Z2m s.length (rs.getD k Zl.dflt)=true:=by simpa using e8
   rw[Z19 (n:=1024) (by have:=of_decide_eq_false e3; omega) (by omega)];refine⟨rfl,⟨k+1,rfl,by omega,λj h=>?_⟩,by omega⟩;by_cases ej:j=k
   ·subst ej; exact e8
   ·exact hj j (by omega)
 rintro⟨_,⟨⟩⟩ ⟨⟩ rfl;dsimp only;refine Br.intro (λe=>?_) λe=>?_
 ·show _=((Z6p s sky rs step).1,(Z6p s sky rs step).2.1,(Z6p s sky rs step).2.2,());unfold Z6p; rw[if_pos e]
 obtain⟨s0,hl,B0,hrok⟩:=Z1am e;refine⟨h.2.2.2,?_⟩;rintro _ rfl;refine⟨rfl,λx y=>∃ k:Nat,x.1=k/\k<=rs.length/\Za9 step rs (s,sky) k=(y.1,x.2.1),λx _=>rs.length - x.1.toNat,⟨0,rfl,by omega,rfl⟩,?_⟩;rintro⟨_,sk,⟨⟩⟩ ⟨y,⟨⟩⟩ ⟨k,rfl,hk,hK⟩;dsimp only at hK ⊢;have BB:=Zx7 (step:=step) B0 hrok k hk;rw[hK]at BB;have hsl:(Zij s).1=s:=rfl;rw[hsl,Int.toNat_natCast,Nat.zero_add];rintro _ rfl;refine Br.intro (λe5=>?_) λe5=>?_
 rotate_left
 ·have e5:k=rs.length:=by have:=of_decide_eq_false e5; omega
  subst e5;refine⟨⟨rfl,BB.1.symm⟩,?_⟩;show _=((Z6p s sky rs step).1,(Z6p s sky rs step).2.1,(Z6p s sky rs step).2.2,());unfold Z6p; rw[if_neg (by rw[e]; decide),hK]
 have e5:k<rs.length:=by have:=of_decide_eq_true e5; omega
 obtain⟨p1,p2,p3,p4⟩:=BB;dsimp only at p1 p2 p3 p4;have rk:=hrok k e5;have hst:Za9 step rs (s,sky) (k+1)=Z4h step (rs.getD k Zl.dflt) (y,sk):=by rw[Z13x,hK]
 generalize rs.getD k Zl.dflt=r at *;obtain⟨q1,q2,q3⟩:=Zpk rk;refine⟨⟨by omega,by omega⟩,?_⟩;rintro _ rfl
 have same:(decide (step<r.2.2.1)||decide (r.2.2.2<=step))=true->Z4h step r (y,sk)=(y,sk):=λq=>by
  unfold Z4h; rw[if_pos q]
 refine Br.intro (λe6=>?_) λe6=>?_
 ·rw[Z19 e5 (by omega)];exact⟨rfl,⟨k+1,rfl,by omega,by rw[hst,same (by rw[e6]; rfl)]⟩,by omega⟩
 rintro _ rfl;refine Br.intro (λe7=>?_) λe7=>?_
 ·rw[Z19 e5 (by omega)];have e7:decide (r.2.2.2<=step)=true:=e7;exact⟨rfl,⟨k+1,rfl,by omega,by rw[hst,same (by rw[e7,Bool.or_true])]⟩,by omega⟩
 have e7:decide (r.2.2.2<=step)=false:=e7;have no:¬ (decide (step<r.2.2.1)||decide (r.2.2.2<=step))=true:=by rw[e6,e7]; decide
 have pc:=p2 r.1.toNat;rintro _ rfl;refine Br.intro (λe8=>?_) λe8=>?_
 ·have e8:0<r.2.1:=of_decide_eq_true e8;have im:=Zpl (a:=r.2.1) (b:=sk) (by omega) p3
  have g1:Z4h step r (y,sk)=(y.set r.1.toNat (y.getD r.1.toNat 0+imin r.2.1 sk),sk - imin r.2.1 sk):=by
   unfold Z4h; rw[if_neg no,if_pos e8]
  rw[Z19 e5 (by omega),wi (x:=sk - imin r.2.1 sk) ⟨by omega,by omega⟩,wi (x:=y.getD r.1.toNat 0+imin r.2.1 sk) ⟨by omega,by omega⟩];exact⟨q1,q1,rfl,⟨k+1,rfl,by omega,by rw[hst,g1]⟩,by omega⟩
 have e8:¬ 0<r.2.1:=of_decide_eq_false e8;rintro _ rfl;refine Br.intro (λe9=>?_) λe9=>?_
 ·have e9:r.2.1<0:=of_decide_eq_true e9;have wn:i64.wrap (0 - r.2.1)=-r.2.1:=by rw[wi ⟨by omega,by omega⟩]; omega
  rw[wn];have im:=Zpl (a:=-r.2.1) (b:=y.getD r.1.toNat 0) (by omega) pc.1
  have g1:Z4h step r (y,sk)=(y.set r.1.toNat (y.getD r.1.toNat 0 - imin (-r.2.1) (y.getD r.1.toNat 0)),sk+imin (-r.2.1) (y.getD r.1.toNat 0)):=by
   unfold Z4h; rw[if_neg no,if_neg e8,if_pos e9]
  rw[Z19 e5 (by omega),wi (x:=sk+imin (-r.2.1) (y.getD r.1.toNat 0)) ⟨by omega,by omega⟩,wi (x:=y.getD r.1.toNat 0 - imin (-r.2.1) (y.getD r.1.toNat 0)) ⟨by omega,by omega⟩];exact⟨q1,q1,q1,rfl,⟨k+1,rfl,by omega,by rw[hst,g1]⟩,by omega⟩
 have e9:¬ r.2.1<0:=of_decide_eq_false e9;rw[Z19 e5 (by omega)];refine⟨rfl,⟨k+1,rfl,by omega,?_⟩,by omega⟩;rw[hst]; unfold Z4h; rw[if_neg no,if_neg e8,if_neg e9]
def Zrq:=λ(l:List Int)(post:Bool × Unit->Prop)=>HS []/\∃(I:Int × Int × Unit->Unit->Prop),∃(μ:Int × Int × Unit->Unit->Nat),I (0,0,()) ()/\∀(x
 : Int × Int × Unit) (y:Unit),I x y->∀ a,a=decide (x.1<(↑l.length:Int))->Br a (∃(h:0<=x.1/\x.1<(↑l.length:Int)),∀ a,a=decide (l.getD x.1.toNat (0:
 Int)<0)->Br a (post (false,())) (∀ a,a=decide (l.getD x.1.toNat 0 > i64.wrap (4503599627370496 - x.2.1))->Br a (post (false,()))
 (HS []/\I (i64.wrap (x.1+1),i64.wrap (x.2.1+l.getD x.1.toNat 0),()) ()/\μ (i64.wrap (x.1+1),i64.wrap (x.2.1+l.getD x.1.toNat
 0),()) ()<μ x y))) (post (true,()))
theorem Z1d6(l:List Int)(w:KS.wf [.slice (.int .i64)] (l,())):Zrq  l (λr=>r=Z1eg l):=by
 have hl:l.length<=281474976710656:=w.1.1;refine⟨rfl,λx _=>∃ k:Nat,x.1=k/\k<=l.length/\0<=x.2.1/\x.2.1<=4503599627370496/\Z2k x.2.1 (l.drop k)=Z2k 0 l,λx _=>l.length - x.1.toNat,⟨0,rfl,by omega,by decide,by decide,rfl⟩,?_⟩;rintro⟨_,s,⟨⟩⟩ _ ⟨k,rfl,hk,s0,s1,hs⟩;dsimp only at s0 s1 hs ⊢;rintro _ rfl;refine Br.intro (λd=>?_) λd=>?_
 rotate_left
 ·have d:k=l.length:=by have d:¬ (k:Int)<l.length:=of_decide_eq_false d; omega
  rw[d,List.drop_length]at hs;exact congrArg r1 hs
 have d:k<l.length:=by have d:(k:Int)<l.length:=of_decide_eq_true d; omega
 rw[Z1v2 d,Zhb]at hs;rw[Int.toNat_natCast,Zy (x:=4503599627370496 - s) (by omega) (by omega),Z19 d (by omega)];refine⟨⟨by omega,by omega⟩,?_⟩;rintro _ rfl;refine Br.intro (λe=>?_) λe=>?_
 ·have e:at0 l k<0:=of_decide_eq_true e;rw[if_pos (.inl e)]at hs;exact congrArg r1 hs
 have e:¬ at0 l k<0:=of_decide_eq_false e;rintro _ rfl;refine Br.intro (λf=>?_) λf=>?_
 ·have f:at0 l k > 4503599627370496 - s:=of_decide_eq_true f;rw[if_pos (.inr f)]at hs;exact congrArg r1 hs
 have f:¬ at0 l k > 4503599627370496 - s:=of_decide_eq_false f;rw[if_neg (by omega)]at hs;have ws:i64.wrap (s+l.getD k 0)=s+at0 l k:=Zy (by show _<=s+at0 l k; omega) (by show s+at0 l k<_; omega);rw[ws];exact⟨rfl,⟨k+1,rfl,by omega,by omega,by omega,hs⟩,by omega⟩
def Z7c:=λ(l:List Int)(post:List Int × Unit->Prop)=>∀(a:Bool),(a=true->l.length=0)->∀(a_1:Bool),(a_1=if false
 = true then !a else a)->Br a_1 (post ([],())) (∃(h:(0:Nat)=0/\(0+l.length)*(8:Nat)<=140737488355328),((0:Nat)=0/\(0:
 Nat)+l.length=([]++l).length)/\post ([]++l,()))
theorem Zfw(l:List Int)(h:Z12z l):Z7c  l (λr=>r=Zij l):=by
 intro a ha a1 h1;have h1:a1=a:=h1;subst h1;refine Br.intro (λe=>?_) λe=>?_
 ·have:=List.eq_nil_of_length_eq_zero (ha e);subst this; rfl
 ·have hl:l.length<=65536:=h;exact⟨⟨by trivial,by omega⟩,⟨by trivial,by rw[List.nil_append]; omega⟩,by rw[List.nil_append]; rfl⟩
def Zl8:=λ(bed:List Nat)(c:Int)(post:Int × Unit->Prop)=>post ((-1:Int),())
theorem Z15a(bed:List Nat)(c:Int)(h:Zwv none bed c):Zl8  bed c (λr=>r=Zav none bed c):=by
 exact rfl
def Zl9:=λ(g:YG)(bed:List Nat)(c:Int)(post:Int × Unit->Prop)=>∃(h:True),∀ a,a=((↑bed.length:Int) != (Zw (some g)).1)->Br a (post
 ((-1:Int),())) (∀ a,a=decide (c<0)->Br a (post ((-1:Int),())) (∀ a,a=decide (c>=(↑bed.length:Int))->Br a (post ((-1:Int),())) (HS []/\∃(I:Int ×
 Int × Unit->Unit->Prop),∃(μ:Int × Int × Unit->Unit->Nat),I (0,(-1),()) ()/\∀(x:Int × Int × Unit)(y:Unit),I x y->∀ a,a=decide (x.1<4)->Br a (∃(h
 : WNet (some g) c x.1),∀ a,a=Z4x (some g) c x.1->∃(h:Z2z (some g) a.1),∀ a_1,a_1=decide (x.2.1>=0)->Br a_1 (∃(h:0<=
 i64.wrap (i64.wrap ((Z6 (some g) a.1).1.1+(Z6 (some g) a.1).1.2.2.1) - c)/\i64.wrap (i64.wrap ((Z6 (some g)
 a.1).1.1+(Z6 (some g) a.1).1.2.2.1) - c)<(↑bed.length:Int)),∃(h:0<=x.2.1/\x.2.1<(↑bed.length:Int)),∃(h:W2 (bed.getD (i64.wrap
 (i64.wrap ((Z6 (some g) a.1).1.1+(Z6 (some g) a.1).1.2.2.1) - c)).toNat 0) (bed.getD x.2.1.toNat 0)),∀ a_2,a_2=Z9b
 (bed.getD (i64.wrap (i64.wrap ((Z6 (some g) a.1).1.1+(Z6 (some g) a.1).1.2.2.1) - c)).toNat 0) (bed.getD x.2.1.toNat 0)->∀
 a_3,a_3=decide (a_2.1 > 0)->Br a_3 (HS []/\I (i64.wrap (x.1+1),x.2.1,()) ()/\μ (i64.wrap (x.1+1),x.2.1,()) ()<μ x y) (∀ a_4,a_4=(a_2.1
 == 0)->Br a_4 (∀ a_5,a_5=decide (i64.wrap (i64.wrap ((Z6 (some g) a.1).1.1+(Z6 (some g) a.1).1.2.2.1) - c) > x.2.1)->Br a_5
 (HS []/\I (i64.wrap (x.1+1),x.2.1,()) ()/\μ (i64.wrap (x.1+1),x.2.1,()) ()<μ x y) (HS []/\I (i64.wrap (x.1+1),i64.wrap
 (i64.wrap ((Z6 (some g) a.1).1.1+(Z6 (some g) a.1).1.2.2.1) - c),()) ()/\μ (i64.wrap (x.1+1),i64.wrap (i64.wrap
 ((Z6 (some g) a.1).1.1+(Z6 (some g) a.1).1.2.2.1) - c),()) ()<μ x y)) (HS []/\I (i64.wrap (x.1+1),i64.wrap (i64.wrap
 ((Z6 (some g) a.1).1.1+(Z6 (some g) a.1).1.2.2.1) - c),()) ()/\μ (i64.wrap (x.1+1),i64.wrap (i64.wrap ((Z6 (some g)
 a.1).1.1+(Z6 (some g) a.1).1.2.2.1) - c),()) ()<μ x y))) (HS []/\I (i64.wrap (x.1+1),i64.wrap (i64.wrap ((Z6 (some g)
 a.1).1.1+(Z6 (some g) a.1).1.2.2.1) - c),()) ()/\μ (i64.wrap (x.1+1),i64.wrap (i64.wrap ((Z6 (some g) a.1).1.1+(Z6
 (some g) a.1).1.2.2.1) - c),()) ()<μ x y)) (∃(h:0<=x.2.1/\x.2.1<(↑bed.length:Int)),∃(h:0<=c/\c<(↑bed.length:Int)),∃(h:W2 (bed.getD
 x.2.1.toNat 0) (bed.getD c.toNat 0)),∀ a,a=Z9b (bed.getD x.2.1.toNat 0) (bed.getD c.toNat 0)->∀ a_1,a_1=decide (a.1>=0)->Br
 a_1 (post ((-1:Int),())) (post (x.2.1,()))))))
theorem Z15b(g:YG)(bed:List Nat)(c:Int)(h:Zwv (some g) bed c)(w:KS.wf [.ptr Z25,.slice (.flt .f64),.int .i64] ((some g),bed,c,())):Zl9  g bed c (λr=>r=Zav (some g) bed c):=by
 obtain⟨hg,hw⟩:=h;obtain⟨n,gn,rfl⟩:=Z4o hg;have hC:(Zw (some (netG n))).1=Z2 n:=Z1j n;have hR:Zav (some (netG n)) bed c=r1 (Z4t true (Z2 n) n bed c):=by unfold Zav; rw[Z1j]; rfl
 have cr:=Z2p n;refine⟨trivial,?_⟩;rw[hC,hR];rintro _ rfl;refine Br.intro (λe=>congrArg r1 (Zuf (.inl (bne_iff_ne.1 e))).symm) λe=>?_;have e1:(bed.length:Int)=Z2 n:=by simpa using e
 rintro _ rfl;refine Br.intro (λe=>congrArg r1 (Zuf (.inr (.inl (of_decide_eq_true e)))).symm) λe=>?_;have e2:=of_decide_eq_false e;rintro _ rfl;refine Br.intro (λe=>congrArg r1 (Zuf (.inr (.inr (of_decide_eq_true e)))).symm) λe=>?_;have e3:=of_decide_eq_false e;rw[Z100 e1 (by omega) (by omega)]
 have hp:Ze n c=true:=by
  obtain⟨k,rfl⟩:∃ k:Nat,c=k:=⟨c.toNat,by omega⟩;exact Z3r (by omega)
 refine⟨rfl,λx _=>∃ k:Nat,x.1=k/\k<=4/\x.2.1=Z28 n bed c k,λx _=>4 - x.1.toNat,⟨0,rfl,by omega,rfl⟩,?_⟩;rintro⟨_,_,⟨⟩⟩ _ ⟨k,rfl,hk,rfl⟩;dsimp only;have wg:∀ i:Int,0<=i->i<(bed.length:Int)->W64 (bed.getD i.toNat 0):=λi h1 h2=>hw _ (Zu (by omega) 0);rintro _ rfl;refine Br.intro (λd=>?_) λd=>?_
 rotate_left
 ·have d:k=4:=by have d:¬ (k:Int)<4:=of_decide_eq_false d; omega
  subst d;obtain⟨b1,b2⟩:=Z1tw (bed:=bed) hp;refine⟨⟨by omega,by omega⟩,⟨by omega,by omega⟩,⟨wg _ (by omega) (by omega),wg _ (by omega) (by omega)⟩,?_⟩;rintro _ rfl;rintro _ rfl;refine Br.intro (λq=>?_) λq=>?_
  ·have q:¬ Z1w bed (Z28 n bed c 4)<Z1w bed c:=λw=>absurd (of_decide_eq_true q) (by
    have:(Z9b (bed.getD (Z28 n bed c 4).toNat 0) (bed.getD c.toNat 0)).fst<0:=Z1kq.2 w;omega)
   show((-1:Int),())=(Za6 n bed c,());unfold Za6;rw[if_neg q]
  ·have q:Z1w bed (Z28 n bed c 4)<Z1w bed c:=Z1kq.1 (by
    have:¬ (Z9b (bed.getD (Z28 n bed c 4).toNat 0) (bed.getD c.toNat 0)).fst>=0:=of_decide_eq_false q;show(Z9b (bed.getD (Z28 n bed c 4).toNat 0) (bed.getD c.toNat 0)).fst<0;omega)
   show(Z28 n bed c 4,())=(Za6 n bed c,());unfold Za6;rw[if_pos q]
 have d:k<4:=by have d:(k:Int)<4:=of_decide_eq_true d; omega
 obtain⟨f1,f2,f3,f4⟩:=Zlw (bed:=bed) hp k hk;obtain⟨t1,t2⟩:=Z72 hp d;have hs:Z28 n bed c (k+1)=Zpe bed (Z28 n bed c k) (Z3 n c k).1:=rfl;have wk:i64.wrap ((k:Int)+1)=((k+1:Nat):Int):=Z19 d (by omega);have ok:Zj n c (k:Int)=true:=Zd.2 ⟨hp,by omega,by omega⟩;obtain⟨q,hq,ha,ht⟩:=Z1v5 ok;have hE:=(Zas n (Z2 n).toNat (by omega)).2;have hE:(netE n).1.length<=4*(Z2 n).toNat:=hE
 have et:i64.wrap (i64.wrap ((Zx (some (netG n)) q).1+(Zx (some (netG n)) q).2.2.1) - c)=(Z3 n c k).1:=by
  rw[ht,Zy (x:=c+(Z3 n c k).1) (by omega) (by omega),Zy (by omega) (by omega)]; omega
 refine⟨⟨hg,⟨by omega,by omega⟩,by omega,by omega⟩,?_⟩;rintro _ rfl;have hA:(Z4x (some (netG n)) c k).fst=q:=ha;have hEd:(Z6 (some (netG n)) q).fst=Zx (some (netG n)) q:=rfl;rw[hA,hEd,et,wk];refine⟨⟨hg,by omega,by omega⟩,?_⟩;have nskip:Z28 n bed c (k+1)=Z28 n bed c k->HIs [] []/\(∃ j:Nat,((k+1:Nat):Int)=j/\j<=4/\Z28 n bed c k=Z28 n bed c j)/\4 - (((k+1:Nat):Int)).toNat<4 - ((k:Nat):Int).toNat:=λh=>⟨rfl,⟨k+1,rfl,by omega,h.symm⟩,by omega⟩;have ntake:Z28 n bed c (k+1)=(Z3 n c k).1->HIs [] []/\(∃ j:Nat,((k+1:Nat):Int)=j/\j<=4/\(Z3 n c k).1=Z28 n bed c j)/\4 - (((k+1:Nat):Int)).toNat<4 - ((k:Nat):Int).toNat:=λh=>⟨rfl,⟨k+1,rfl,by omega,h.symm⟩,by omega⟩;rintro _ rfl;refine Br.intro (λf=>?_) λf=>ntake (by rw[hs]; exact Zhc (.inl (by have:=of_decide_eq_false f; omega)));have f:=of_decide_eq_true f;refine⟨⟨t1,by omega⟩,⟨by omega,by omega⟩,⟨wg _ t1 (by omega),wg _ (by omega) (by omega)⟩,?_⟩;rintro _ rfl;have hcm:(Z9b (bed.getD (Z3 n c k).1.toNat 0) (bed.getD (Z28 n bed c k).toNat 0)).fst=cmpI (Z1w bed (Z3 n c k).1) (Z1w bed (Z28 n bed c k)):=rfl;rw[hcm];rintro _ rfl;refine Br.intro (λg1=>nskip (by rw[hs]; exact Zph (by omega) (.inl (Zx2.1 (of_decide_eq_true g1))))) λg1=>?_;have g1:¬ Z1w bed (Z3 n c k).1 > Z1w bed (Z28 n bed c k):=λw=>of_decide_eq_false g1 (Zx2.2 w);rintro _ rfl
 refine Br.intro (λg2=>?_) λg2=>ntake (by
  rw[hs];have g2:¬ cmpI (Z1w bed (Z3 n c k).1) (Z1w bed (Z28 n bed c k))=0:=by simpa using g2
  rw[Z1kr]at g2;exact Zhc (.inr (.inl (by omega))))
 have g2:Z1w bed (Z3 n c k).1=Z1w bed (Z28 n bed c k):=Z1kr.1 (by simpa using g2);rintro _ rfl;exact Br.intro (λg3=>nskip (by rw[hs]; exact Zph (by omega) (.inr ⟨g2,by have:=of_decide_eq_true g3; omega⟩))) λg3=>ntake (by rw[hs]; exact Zhc (.inr (.inr ⟨g2,by have:=of_decide_eq_false g3; omega⟩)))
end Go.Lift
namespace Go.Lift
end Go.Lift
namespace Go.Lift
end Go.Lift
namespace Go.Lift
section
open Go.Proofs
end
end Go.Lift
namespace Go.Lift
end Go.Lift
namespace Go.Lift
section
open Go.Proofs
end
section
open Go.Proofs
end
end Go.Lift
namespace Go.Lift
end Go.Lift
namespace Go.Lift
end Go.Lift
namespace Go.Lift
section
open Go.Proofs
end
end Go.Lift
namespace Go.Lift
end Go.Lift
namespace Go.Lift
section
open Go.Proofs
end
section
open Go.Proofs
end
def Zja:=λ(a b:Nat)(post:Int × Unit->Prop)=>∃(h:True),∃(h:True),∃(h:W2 (Zt a).1 (Zt b).1),post ((ordR (Zt a).1 (Zt b).1).1,())
theorem Z10e(a:Nat)(b:Nat)(h:W2 a b):Zja  a b (λr=>r=Z9b a b):=by
 exact⟨trivial,trivial,⟨Z6i h.1,Z6i h.2⟩,rfl⟩
def Z81:=λ(x y:Int)(post:Int × Unit->Prop)=>False
theorem Zsq(x:Int)(y:Int)(h:WCmp x y none):Z81  x y (λr=>r=Zbt x y none):=by
 obtain⟨_,e,_⟩:=h
 cases e
def Z82:=λ(x y:Int)(p:List Nat)(post:Int × Unit->Prop)=>∃(h:0<=y/\y<(↑p.length:Int)),∃(h:0<=x/\x<(↑p.length:Int)),
 ∃(h:W2 (p.getD y.toNat 0) (p.getD x.toNat 0)),∀ a,a=Z9b (p.getD y.toNat 0) (p.getD x.toNat 0)->post (a.1,())
theorem Zsr(x:Int)(y:Int)(p:List Nat)(h:WCmp x y (some p)):Z82  x y p (λr=>r=Zbt x y (some p)):=by
 obtain⟨bed,e,hx,hy,hw⟩:=h
 cases e
 refine⟨hy,hx,⟨hw _ (Zu (by omega) 0),hw _ (Zu (by omega) 0)⟩,?_⟩;rintro _ rfl;rfl
section
open Go.Proofs
def Z1b4:Cx:=⟨Z1v Z26,Z23 [(99,Z4i),(204,Z9i)],SqG⟩
theorem Zvm:CxOk Tryz.prog Z1b4:=⟨Zn Z12,Zr ⟨Z5h,Zdm,trivial⟩⟩
def Z9m:Con:=Con.nam [.flt .f64,.flt .f64] [.snap (.int .i64)] (λx=>W2 x.1 x.2.1) (λx=>Z9b x.1 x.2.1)
theorem Zgp:SqH Z9m 166:=
 nP Zvm Z5 Zc nHn Tryz.func166 (λx p=>Zja  x.1 x.2.1 p) λx h _=>Z10e  x.1 x.2.1 h
def Z1b5:Cx:=addC 166 Z9m Z1b4
theorem Z1hn:CxOk Tryz.prog Z1b5:=Zk Zvm Zgp
def Zfx:Con:=Con.nam [.int .i64,.int .i64,.ptr (.slice (.flt .f64))] [.snap (.int .i64)] (λx=>WCmp x.1 x.2.1 x.2.2.1) (λx=>Zbt x.1 x.2.1 x.2.2.1)
def Z83:Hn:=nHn
abbrev Z8y:Cx:=Z1b5
theorem Zny:CxOk Tryz.prog Z8y:=Z1hn
theorem Zss:FnAt Tryz.prog 165 Tryz.f165.ntmps Tryz.f165.results.toList (Tryz.f165.body.getD .skip):=⟨Tryz.f165,Tryz.func165,rfl,rfl,by simp,by decide⟩
theorem Znz(x:Int)(y:Int)(post:Int × Unit->Prop):Z4b Z8y Z83 Tryz.f165.ntmps Tryz.f165.results.toList (Tryz.f165.body.getD .skip) [.int .i64,.int .i64,.ptr (.slice (.flt .f64))] [.snap (.int .i64)] (x,y,none,()) post=Z81  x y post:=by kernel_rfl
theorem Zo0(x:Int)(y:Int)(p:List Nat)(post:Int × Unit->Prop):Z4b Z8y Z83 Tryz.f165.ntmps Tryz.f165.results.toList (Tryz.f165.body.getD .skip) [.int .i64,.int .i64,.ptr (.slice (.flt .f64))] [.snap (.int .i64)] (x,y,(some p),()) post=Z82  x y p post:=by kernel_rfl
def Zvn(x:KS [.int .i64,.int .i64,.ptr (.slice (.flt .f64))])(post:RS [.snap (.int .i64)]->Prop):Prop:=match x with
 | (z0,z1,none,y)=>Z81  z0 z1 post
 | (z0,z1,some g,y)=>Z82  z0 z1 g post
theorem Zvo:Zfx.holds Tryz.prog SqG 165:=
 Z62 (detP Zny Z5 Z83 Zss (F:=Zvn) (λx post=>match x with
  | (z0,z1,none,y)=>Znz z0 z1 post
  | (z0,z1,some g,y)=>Zo0 z0 z1 g post) λx h w=>match x,h,w with
  | (z0,z1,none,y),h,w=>Zsq  z0 z1 h
  | (z0,z1,some g,y),h,w=>Zsr  z0 z1 g h )
end
section
open Go.Proofs
def Z1r1:Cx:=⟨Z1v Z26,Z23 [(32,Z21),(33,Z56),(77,Z3u),(166,Z9m)],SqG⟩
theorem Zjb:CxOk Tryz.prog Z1r1:=⟨Zn Z12,Zr ⟨Z2c,Z7l,Z4q,Zgp,trivial⟩⟩
def Zo1:Con:=Con.nam [.slice (.int .i64)] [.snap .bool] (λ_=>True) (λx=>Z1eg x.1)
theorem Z18g:SqH Zo1 86:=
 nP Zjb Z5 Zc ({loops:=Z11 [(3,{ls:=[(.slot 8,.data (.int .i64)),(.slot 3,.data (.int .i64))],os:=[]})],joins:=λ_=>none,named:=true}) Tryz.func86 (λx p=>Zrq  x.1 p) λx _ w=>Z1d6  x.1 w
def Z4j:Con:=Con.nam [.slice (.int .i64)] [.own 2 (.int .i64)] (λx=>Z12z x.1) (λx=>Zij x.1)
theorem Z77:SqH Z4j 83:=
 nP Zjb Z5 Zc ({loops:=λ_=>none,joins:=λ_=>none,named:=true}) Tryz.func83 (λx p=>Z7c  x.1 p) λx h _=>Zfw  x.1 h
def Zo2:Con:=Con.nam [.ptr Z25,.slice (.flt .f64),.int .i64] [.snap (.int .i64)] (λx=>Zwv x.1 x.2.1 x.2.2.1) (λx=>Zav x.1 x.2.1 x.2.2.1)
theorem Z18h:SqH Zo2 88:=
 nPs Zjb Z5 Zc ({loops:=Z11 [(5,{ls:=[(.slot 34,.data (.int .i64)),(.slot 7,.data (.int .i64))],os:=[]})],joins:=λ_=>none,named:=true}) Tryz.func88 (λy p=>Zl8  y.1 y.2.1 p) (λz y p=>Zl9  z y.1 y.2.1 p) (λy h _=>Z15a  y.1 y.2.1 h) λz y h w=>Z15b  z y.1 y.2.1 h w
end
def Zrr:=λ(n:Int)(r0:Int × Int × Int × Int)(post:Bool × Unit->Prop)=>∀ a,a=decide (r0.1>=0)->Br a (∀ a,a=decide (r0.1<n)->Br a (∀ a,a=
 decide (r0.2.1>=(-4503599627370496:Int))->Br a (∀ a,a=decide (r0.2.1<=4503599627370496)->Br a (∀ a,a=decide (r0.2.2.1>=0)->Br a (∀ a,a=decide
 (r0.2.2.2>=r0.2.2.1)->post (a,())) (post (false,()))) (post (false,()))) (post (false,()))) (post (false,()))) (post (false,()))
theorem Z1d7(n:Int)(r0:Int × Int × Int × Int):Zrr  n r0 (λr=>r=Zdi n r0):=by
 have key:Zdi n r0=r1 (decide (0<=r0.1)&&decide (r0.1<n)&&decide (-4503599627370496<=r0.2.1)&&decide (r0.2.1<=4503599627370496)&&decide (0<=r0.2.2.1)&&decide (r0.2.2.1<=r0.2.2.2)):=rfl;rw[key];rintro _ rfl;refine Br.intro (λe1=>?_) λe1=>?_
 rotate_left
 ·rw[show decide (0<=r0.1)=false from e1]; rfl
 rintro _ rfl;refine Br.intro (λe2=>?_) λe2=>?_
 rotate_left
 ·rw[e2,Bool.and_false]; rfl
 rintro _ rfl;refine Br.intro (λe3=>?_) λe3=>?_
 rotate_left
 ·rw[show decide (-4503599627370496<=r0.2.1)=false from e3,Bool.and_false]; rfl
 rintro _ rfl;refine Br.intro (λe4=>?_) λe4=>?_
 rotate_left
 ·rw[e4,Bool.and_false]; rfl
 rintro _ rfl;refine Br.intro (λe5=>?_) λe5=>?_
 rotate_left
 ·rw[show decide (0<=r0.2.2.1)=false from e5,Bool.and_false]; rfl
 rintro _ rfl;rw[show decide (0<=r0.1)=true from e1,e2,show decide (-4503599627370496<=r0.2.1)=true from e3,e4,show decide (0<=r0.2.2.1)=true from e5]; rfl
def Zo3(ty25:Nat)(p:YP)(ty3:Nat):List HObj:=[HObj.box Md.rw ty25 [SV.val (Go.Value.int i64 p.1),SV.val (Go.Value.float f64 p.2.1),SV.val (Go.Value.float f64 p.2.2.1),SV.val (Go.Value.float f64 p.2.2.2.1),SV.val (Go.Value.int i64 p.2.2.2.2.1),SV.val (Go.Value.bool p.2.2.2.2.2.1),SV.data ((K.int i64).pair ((K.int i64).pair ((K.int i64).pair (K.int i64)))).slice p.2.2.2.2.2.2],HObj.box Md.rw ty3 [SV.val (Go.Value.int i64 (Z4d p.1).1)]]
def Zrs:=λ(ty25 ty3:Nat)(p:YP)(post:Int × Unit->Prop)=>∃(h:I64 p.1),∀ a,a=((Z4d p.1).1==0)->Br a (post (10,())) (∀ a,a=
 fcmp Go.BinOp.gtr (f64.format.order p.2.1 0)->Br (!a) (post (11,())) (∀ a,a=fcmp Go.BinOp.gtr (f64.format.order p.2.1
 4652218415073722368)->Br a (post (11,())) (∃(h:W3 p.2.2.1 0 4652218415073722368),∀ a,a=(Zid p.2.2.1 0 (4652218415073722368:
 Nat)).1->Br (!a) (post (11,())) (∃(h:W3 p.2.2.2.1 0 4652218415073722368),∀ a,a=(Zid p.2.2.2.1 0 4652218415073722368).1->Br
 (!a) (post (11,())) (∃(h:True),∀ a,a=Zim p.2.2.2.2.1->∀ a_1,a_1=a.1->Br (!a_1) (post (11,())) (∀ a,a=decide ((↑p.2.2.2.2.2.2.length:Int) >
 1024)->Br a (post (18,())) (HS (Zo3 ty25 p ty3)/\∃(I:Int × Unit->Unit->Prop),∃(μ:Int × Unit->Unit->Nat),I (0,()) ()/\∀(x:Int
 × Unit) (y:Unit),I x y->∀ a,a=decide (x.1<(↑p.2.2.2.2.2.2.length:Int))->Br a (∃(h:0<=x.1/\x.1<(↑p.2.2.2.2.2.2.length:Int)),∃(h:True),∀ a,a=
 Zdi (Z4d p.1).1 ((p.2.2.2.2.2.2.getD x.1.toNat Zl.dflt).1,(p.2.2.2.2.2.2.getD x.1.toNat Zl.dflt).2.1,(p.2.2.2.2.2.2.getD x.1.toNat Zl.dflt).2.2.1,
 (p.2.2.2.2.2.2.getD x.1.toNat Zl.dflt).2.2.2)->∀ a_2,a_2=a.1->Br (!a_2) (∀ a,a=decide (x.1>=0)->Br a (post (18,())) (post (0,()))) (HS
 (Zo3 ty25 p ty3)/\I (i64.wrap (x.1+1),()) ()/\μ (i64.wrap (x.1+1),()) ()<μ x y)) (∀ a,a=decide ((-1:Int)>=0)->
 Br a (post (18,())) (post (0,()))))))))))
theorem Z1d8(ty0 ty1:Nat)(p:YP)(h:Zfm p)(w:KS.wf [Z6o] (p,())):Zrs ty0 ty1 p (λr=>r=Z13a p):=by
 obtain⟨hn,⟨hd,hg,hr⟩,hl⟩:=h;have W0:W64 0:=by unfold W64; decide
 have WM:W64 4652218415073722368:=by unfold W64; decide
 have hll:p.2.2.2.2.2.2.length<=maxN:=w.1.2.2.2.2.2.2.1;have hm:maxN<=9223372036854775806:=by decide
 refine⟨hn,?_⟩;rintro _ rfl;refine Br.intro (λe0=>?_) λe0=>?_
 ·have e0:Z2 p.1=0:=beq_iff_eq.1 e0;show(10,())=r1 (Z1g p);unfold Z1g; rw[if_pos e0]; rfl
 have c0:¬ Z2 p.1=0:=λz=>by
  have e0:(Z2 p.1==0)=false:=e0;rw[z]at e0; cases e0
 rintro _ rfl;refine Br.intro (λe1=>?_) λe1=>?_
 ·have e1:(!gtS p.2.1 0)=true:=e1;show(11,())=r1 (Z1g p);unfold Z1g; rw[if_neg c0,if_pos (by simp[e1])]; rfl
 have e1:(!gtS p.2.1 0)=false:=e1;rintro _ rfl;refine Br.intro (λe2=>?_) λe2=>?_
 ·have e2:gtS p.2.1 Z43=true:=e2;show(11,())=r1 (Z1g p);unfold Z1g; rw[if_neg c0,if_pos (by simp[e2])]; rfl
 have e2:gtS p.2.1 Z43=false:=e2;refine⟨⟨hg,W0,WM⟩,?_⟩;rintro _ rfl;refine Br.intro (λe3=>?_) λe3=>?_
 ·have e3:(!Z29 p.2.2.1 0 Z43)=true:=e3;show(11,())=r1 (Z1g p);unfold Z1g; rw[if_neg c0,if_pos (by simp[e3])]; rfl
 have e3:(!Z29 p.2.2.1 0 Z43)=false:=e3;refine⟨⟨hr,W0,WM⟩,?_⟩;rintro _ rfl;refine Br.intro (λe4=>?_) λe4=>?_
 ·have e4:(!Z29 p.2.2.2.1 0 Z43)=true:=e4;show(11,())=r1 (Z1g p);unfold Z1g; rw[if_neg c0,if_pos (by simp[e4])]; rfl
 have e4:(!Z29 p.2.2.2.1 0 Z43)=false:=e4;refine⟨trivial,?_⟩;rintro _ rfl;rintro _ rfl;refine Br.intro (λe5=>?_) λe5=>?_
 ·have e5:(!Z4p p.2.2.2.2.1)=true:=e5;show(11,())=r1 (Z1g p);unfold Z1g; rw[if_neg c0,if_pos (by simp[e5])]; rfl
 have e5:(!Z4p p.2.2.2.2.1)=false:=e5;have no11:(!gtS p.2.1 0||gtS p.2.1 Z43||!Z29 p.2.2.1 0 Z43||!Z29 p.2.2.2.1 0 Z43||!Z4p p.2.2.2.2.1)=false:=by simp[e1,e2,e3,e4,e5]
 have hP:Z13a p=r1 (if decide (1024<(p.2.2.2.2.2.2.length:Int))||p.2.2.2.2.2.2.any (λr=>!Z2m (Z2 p.1) r)then 18 else 0):=by
  show r1 (Z1g p)=_;unfold Z1g; rw[if_neg c0,if_neg (by rw[no11]; decide)]
 rw[hP];rintro _ rfl;refine Br.intro (λe6=>?_) λe6=>?_
 ·have e6:decide (1024<(p.2.2.2.2.2.2.length:Int))=true:=e6;rw[e6]; rfl
 have e6:decide (1024<(p.2.2.2.2.2.2.length:Int))=false:=e6;rw[e6];have hC:(Z4d p.1).fst=Z2 p.1:=rfl;refine⟨rfl,λx _=>∃ k:Nat,x.1=k/\k<=p.2.2.2.2.2.2.length/\∀ j,j<k->Z2m (Z2 p.1) (p.2.2.2.2.2.2.getD j Zl.dflt)=true,λx _=>p.2.2.2.2.2.2.length - x.1.toNat,⟨0,rfl,by omega,λj hj=>by omega⟩,?_⟩;rintro⟨_,⟨⟩⟩ ⟨⟩ ⟨k,rfl,hk,hj⟩;dsimp only;rintro _ rfl;refine Br.intro (λe7=>?_) λe7=>?_
 rotate_left
 ·have hke:k=p.2.2.2.2.2.2.length:=by have:=of_decide_eq_false e7; omega
  rintro _ rfl;refine Br.intro (λz=>absurd z (by decide)) λ_=>?_;rw[Z1gq (p:=λr=>Z2m (Z2 p.1) r) (l:=p.2.2.2.2.2.2) (d:=Zl.dflt) (λj h=>hj j (Nat.lt_of_lt_of_eq h hke.symm))]; rfl
 have hk2:k<p.2.2.2.2.2.2.length:=by have:=of_decide_eq_true e7; omega
 rw[Int.toNat_natCast];refine⟨⟨by omega,by omega⟩,trivial,?_⟩;rintro _ rfl;rintro _ rfl;refine Br.intro (λe8=>?_) λe8=>?_
 ·have e8:(!Z2m (Z2 p.1) (p.2.2.2.2.2.2.getD k Zl.dflt))=true:=e8;have e8:Z2m (Z2 p.1) (p.2.2.2.2.2.2.getD k Zl.dflt)=false:=by simpa using e8
  rintro _ rfl;refine Br.intro (λ_=>?_) λz=>absurd (of_decide_eq_false z) (by omega);rw[Z1ky (p:=λr=>Z2m (Z2 p.1) r) (l:=p.2.2.2.2.2.2) (d:=Zl.dflt) hk2 e8]; rfl
 ·have e8:(!Z2m (Z2 p.1) (p.2.2.2.2.2.2.getD k Zl.dflt))=false:=e8;have e8:Z2m (Z2 p.1) (p.2.2.2.2.2.2.getD k Zl.dflt)=true:=by simpa using e8
  rw[Z19 hk2 (by omega)];refine⟨rfl,⟨k+1,rfl,by omega,λj h=>?_⟩,by omega⟩;by_cases ej:j=k
  ·subst ej; exact e8
  ·exact hj j (by omega)
end Go.Lift
namespace Go.Lift
end Go.Lift
namespace Go.Lift
section
open Go.Proofs
end
section
open Go.Proofs
def Z1b6:Cx:=⟨Z1v Z26,Z23 [(48,Z5i),(60,Z9l),(61,Zch)],SqG⟩
theorem Zvp:CxOk Tryz.prog Z1b6:=⟨Zn Z12,Zr ⟨Z76,Zgo,Zkr,trivial⟩⟩
def Zdz:Con:=Con.nam [.int .i64,Zl] [.snap .bool] (λ_=>True) (λx=>Zdi x.1 x.2.1)
theorem Zo4:SqH Zdz 64:=
 nP Zvp Z5 Zc ({loops:=Z11 [],joins:=λ_=>none,named:=true}) Tryz.func64 (λx p=>Zrr  x.1 x.2.1 p) λx _ _=>Z1d7  x.1 x.2.1
def Z1r2:Cx:=addC 64 Zdz Z1b6
theorem Zvq:CxOk Tryz.prog Z1r2:=Zk Zvp Zo4
def Ze0:Con:=Con.nam [Z6o] [.snap (.int .i64)] (λx=>Zfm x.1) (λx=>Z13a x.1)
theorem Zo5:SqH Ze0 20:=
 nPI Zvq Z5 Zc ({loops:=λ_=>none,joins:=λ_=>none,named:=true,inl:=inlL [62]}) (Z40 Zvq Z5 Z1bw 6) Tryz.func20 (λx p=>Zrs 25 3 x.1 p) λx h w=>Z1d8 25 3 x.1 h w
end
section
open Go.Proofs
def Z15c:Cx:=⟨Z1v Z26,Z23 [(83,Z4j),(64,Zdz)],SqG⟩
theorem Zga:CxOk Tryz.prog Z15c:=⟨Zn Z12,Zr ⟨Z77,Zo4,trivial⟩⟩
def Z3n:Con:=Con.nam [.slice (.flt .f64)] [.own 22 (.flt .f64)] (λx=>Z13g x.1) (λx=>Z13f x.1)
theorem Z5q:SqH Z3n 47:=
 nP Zga Z5 Zc ({loops:=λ_=>none,joins:=λ_=>none,named:=true}) Tryz.func47 (λx p=>Z5s  x.1 p) λx h _=>Zba  x.1 h
def Zjc:Con:=Con.nam [.int .i64] [.snap .bool] (λ_=>True) (λx=>Zzz x.1)
theorem Z10f:SqH Zjc 81:=
 nP Zga Z5 Zc ({loops:=Z11 [],joins:=λ_=>none,named:=true}) Tryz.func81 (λx p=>Zl7  x.1 p) λx _ _=>Z159  x.1
def Z1ng:Cx:=addC 81 Zjc Z15c
theorem Zrt:CxOk Tryz.prog Z1ng:=Zk Zga Z10f
def Zru:Con:=Con.nam [.slice (.int .i64),.int .i64,.slice Zl,.int .i64] [.own 2 (.int .i64),.snap (.int .i64),.snap (.int .i64)] (λx=>Z1mo x.1 x.2.1 x.2.2.1 x.2.2.2.1) (λx=>Z13e x.1 x.2.1 x.2.2.1 x.2.2.2.1)
theorem Z1d9:SqH Zru 29:=
 nPI Zrt Z5 Zc ({loops:=Z11 [(8,{ls:=[(.slot 44,.data (.int .i64)),(.cell 1 0,.data (.int .i64))],os:=[(2,2,.int .i64)]})],joins:=Z11 [(3,{ls:=[(.slot 37,.data .bool)],os:=[]})],named:=true,inl:=inlL [82,62,84,85]}) (Z40 Zrt Z5 Z1bx 6) Tryz.func29 (λx p=>Zvl 27 2 x.1 x.2.1 x.2.2.1 x.2.2.2.1 p) λx h w=>Z1hm 27 2 x.1 x.2.1 x.2.2.1 x.2.2.2.1 h w
end
section
open Go.Proofs
def Z15d:Cx:=⟨Z1v Z26,Z23 [(167,Zae),(153,Zdo),(149,Zdr),(150,Zdq),(13,Zcm),(32,Z21),(65,Zag),(47,Z3n),(31,Z2d),(90,Z3a),(66,Zah)],SqG⟩
theorem Zrv:CxOk Tryz.prog Z15d:=⟨Zn Z12,Zr ⟨Zix,Zn5,Zni,Znh,Zj5,Z2c,Zj8,Z5q,Z2q,Z3t,Zj9,trivial⟩⟩
def Zo6:Con:=Con.nam [.flt .f64,.int .i64,.flt .f64] [.snap (.int .i64)] (λx=>Z1n0 x.1 x.2.1 x.2.2.1) (λx=>Z1mz x.1 x.2.1 x.2.2.1)
theorem Z18i:SqH Zo6 95:=
 nP Zrv Z5 Zc ({loops:=Z11 [],joins:=λ_=>none,named:=true}) Tryz.func95 (λx p=>Zqr  x.1 x.2.1 x.2.2.1 p) λx h _=>Z1cf  x.1 x.2.1 x.2.2.1 h
def Z1nh:Cx:=addC 95 Zo6 Z15d
theorem Zrw:CxOk Tryz.prog Z1nh:=Zk Zrv Z18i
def Zo7:Con:=Con.nam [.ptr Z25,kSea,.int .i64] [.snap .bool] (λx=>Zpf x.1 x.2.1 x.2.2.1) (λx=>Z1gy x.1 x.2.1 x.2.2.1)
theorem Z18j:SqH Zo7 94:=
 nP Zrw Z5 Zc ({loops:=Z11 [],joins:=λ_=>none,named:=true}) Tryz.func94 (λx p=>Zqs  x.1 x.2.1 x.2.2.1 p) λx h _=>Z1cg  x.1 x.2.1 x.2.2.1 h
def Zo8:Con:=Con.nam [.int .i64,.slice (.flt .f64),.flt .f64] [.str (.pair (.own 22 (.flt .f64)) (.pair (.own 2 (.int .i64)) (.pair (.own 2 (.int .i64)) (.pair (.own 22 (.flt .f64)) (.pair (.int .i64) (.int .i64)))))),.snap (.int .i64)] (λx=>Zxd x.1 x.2.1 x.2.2.1) (λx=>Z80 x.1 x.2.1 x.2.2.1)
theorem Z18k:SqH Zo8 40:=
 nP Zrw Z5 Zc ({loops:=Z11 [(12,{ls:=[(.slot 55,.data (.int .i64)),(.cell 4 1,.row 2 (.int .i64))],os:=[]})],joins:=λ_=>none,named:=true}) Tryz.func40 (λx p=>Zqt 29 22 2 x.1 x.2.1 x.2.2.1 p) λx h _=>Z1ch 29 22 2 x.1 x.2.1 x.2.2.1 h
end
def Zd1:=λ(post:Int × Unit->Prop)=>post (0,())
theorem Zst  : Zd1   (λr=>r=Z12s none):=by
 exact rfl
def Zd2:=λ(g:YG)(post:Int × Unit->Prop)=>∃(h:some g≠none),post (g.1,())
theorem Zsu(g:YG):Zd2  g (λr=>r=Z12s (some g)):=by
 exact⟨by simp,rfl⟩
def Zrx:=λ(p:YP)(s:YS)(post:Int × Unit->Prop)=>post (2,())
theorem Z1da(p:YP)(s:YS)(h:Z6c none p s):Zrx  p s (λr=>r=canR none p s):=by
 exact rfl
def Zry:=λ(g:YG)(p:YP)(s:YS)(post:Int × Unit->Prop)=>∃(h:True),∀ a,a=Z12s (some g)->∀ a_1,a_1=(a.1 != p.1)->Br a_1 (post (1,()))
 (∃(h:Zfm p),∀ a,a=Z13a p->∀ a_2,a_2=(a.1 != 0)->Br a_2 (post (a.1,())) (∃(h:Z12j p.1 s),post ((Zme p.1 s).2.1,())))
theorem Z1db(g:YG)(p:YP)(s:YS)(h:Z6c (some g) p s):Zry  g p s (λr=>r=canR (some g) p s):=by
 obtain⟨hN,hP,hS⟩:=h;obtain⟨n,hn,rfl⟩:=Z4o hN;have e0:canE (some (netG n)) p s=if Z44 (some (netG n))≠p.1 then 1 else if Z1g p≠0 then Z1g p else(Z1l p.1 s).2:=by unfold canE; rw[if_neg (by simp)]
 refine⟨trivial,?_⟩;rintro _ rfl _ rfl;refine Br.intro (λe=>?_) λe=>?_
 ·have e:(Z44 (some (netG n)) != p.1)=true:=e;have e:Z44 (some (netG n))≠p.1:=by simpa using e
  show((1:Int),())=r1 (canE _ _ _);rw[e0,if_pos e]; rfl
 ·have e:(Z44 (some (netG n)) != p.1)=false:=e;have e:¬ Z44 (some (netG n))≠p.1:=by simpa using e
  refine⟨hP,?_⟩;rintro _ rfl _ rfl;refine Br.intro (λq=>?_) λq=>?_
  ·have q:(Z1g p != 0)=true:=q;have q:Z1g p≠0:=by simpa using q
   show(Z1g p,())=r1 (canE _ _ _);rw[e0,if_neg e,if_pos q]; rfl
  ·have q:(Z1g p != 0)=false:=q;have q:¬ Z1g p≠0:=by simpa using q
   refine⟨⟨hP.1,hS⟩,?_⟩;show((Z1l p.1 s).2,())=r1 (canE _ _ _);rw[e0,if_neg e,if_neg q]; rfl
def Zvr:=λ(g:Option YG)(p:YP)(s:YS)(post:List Nat × (List Int × List Int) × Int × Unit->Prop)=>∃(h:Zwy g p s),∀ a,a=Zax g p s->∀ a_1,a_1
 = (a.2.1 != 0)->Br a_1 (post ([],([],[]),a.2.1,())) (∃(h:Z1el g p (s.1,s.2.1,s.2.2.1,List.take a.1.length (List.drop 0 a.1),s.2.2.2.2.1,
 s.2.2.2.2.2)),∀ a_2,a_2=Zk9 g p (s.1,s.2.1,s.2.2.1,List.take a.1.length (List.drop 0 a.1),s.2.2.2.2.1,s.2.2.2.2.2)->∀ a_3,a_3=(a_2.2.1 != 0)->Br
 a_3 (post ([],([],[]),a_2.2.1,())) (∃(h:WAll g s.2.1 (List.take a_2.1.length (List.drop 0 a_2.1))),∀ a_4,a_4=Zpb g s.2.1 (List.take a_2.1.length (List.drop (0
 : Nat) a_2.1))->∀ a_5,a_5=(a_4.2.1 != 0)->Br a_5 (post ([],([],[]),a_4.2.1,())) (∃(h:Z1g4 g s.2.1 s.2.2.1 (List.take a_4.1.length (List.drop 0
 a_4.1))),∀ a_6,a_6=Zho g s.2.1 s.2.2.1 (List.take a_4.1.length (List.drop 0 a_4.1))->∀ a_7,a_7=(a_6.2.1 != 0)->Br a_7 (post ([],([],[]),a_6.2.1,
 ())) (((0:Nat)=0/\a.1.length=a.1.length)/\((0:Nat)=0/\a_4.1.length=a_4.1.length)/\((0:Nat)=0/\a_6.1.length=a_6.1.length)/\post
 (a.1,(a_4.1,a_6.1),0,())))))
theorem Z1ho(g:Option YG)(p:YP)(s:YS)(h:Za0 g p s):Zvr  g p s (λr=>r=Z13h g p s):=by
 obtain⟨⟨hN,hP,hS⟩,hc⟩:=h;obtain⟨rfl,hp,C⟩:=Z104 hN hc;have S:=Zxc rfl hp C;obtain⟨k0,k3⟩:=Z1vf (Zpp hp).2.2.2;have e1:Zax (some (netG p.1)) p s=(Z1h (some (netG p.1)) p s,0,()):=by unfold Zax; rw[S.spd.2.2]
 have e2:Zk9 (some (netG p.1)) p (Zby s (Z1h (some (netG p.1)) p s))=(Z33 (some (netG p.1)) p s,0,()):=by unfold Zk9; rw[S.want.1]
 have e3:Zpb (some (netG p.1)) s.2.1 (Z33 (some (netG p.1)) p s)=(Z1t (some (netG p.1)) p s,0,()):=by unfold Zpb; rw[S.wat]
 have e4:Zho (some (netG p.1)) s.2.1 s.2.2.1 (Z1t (some (netG p.1)) p s)=(Z5p (some (netG p.1)) p s,0,()):=by unfold Zho; rw[S.wth]
 refine⟨⟨hN,hP.2.1,hS.1,hS.2.1,hS.2.2.2.1⟩,λa ha=>?_⟩;have ha:a=_:=ha.trans e1;subst ha;rintro _ rfl;refine Br.intro (λq=>absurd (show((0:Int) != 0)=true from q) (by decide)) λ_=>?_;dsimp only
 try simp only[Z7k]
 refine⟨⟨hN,hP.2.1.1,k0,k3,hS.1,hS.2.1,S.spd.2.1⟩,λa ha=>?_⟩;have ha:a=_:=ha.trans e2;subst ha;rintro _ rfl;refine Br.intro (λq=>absurd (show((0:Int) != 0)=true from q) (by decide)) λ_=>?_;dsimp only
 try simp only[Z7k]
 refine⟨⟨hN,hS.2.1,Z1gu S.want.2.1⟩,λa ha=>?_⟩;have ha:a=_:=ha.trans e3;subst ha;rintro _ rfl;refine Br.intro (λq=>absurd (show((0:Int) != 0)=true from q) (by decide)) λ_=>?_;dsimp only
 try simp only[Z7k]
 refine⟨⟨hN,hS.2.1,hS.2.2.1,Z1gu S.watF⟩,λa ha=>?_⟩;have ha:a=_:=ha.trans e4;subst ha;rintro _ rfl;refine Br.intro (λq=>absurd (show((0:Int) != 0)=true from q) (by decide)) λ_=>?_;exact⟨(by first | trivial | exact⟨rfl,rfl⟩ | exact⟨trivial,trivial⟩),(by first | trivial | exact⟨rfl,rfl⟩ | exact⟨trivial,trivial⟩),(by first | trivial | exact⟨rfl,rfl⟩ | exact⟨trivial,trivial⟩),rfl⟩
def Zz9:=λ(g:Option YG)(p:YP)(s:YS)(post:YS × Int × Unit->Prop)=>∃(h:Z6c g p s),∀ a,a=canR g p s->∀ a_1,a_1=(a.1 != 0)->Br a_1 (post
 (([],[],[],[],0,0),a.1,())) (∃(h:Za0 g p s),∀ a,a=Z13h g p s->∀ a_2,a_2=(a.2.2.1 != 0)->Br a_2 (post (([],[],[],[],0,0),a.2.2.1,())) (∃(h:
 Z13g s.1),∀ a_3,a_3=Z13f s.1->∃(h:Z13d g s.2.1 (List.take a.2.1.1.length (List.drop 0 a.2.1.1))),∀ a_4,a_4=Zbx g s.2.1 (List.take a.2.1.1.length
 (List.drop 0 a.2.1.1))->∀ a_5,a_5=(a_4.2.1 != 0)->Br a_5 (post (([],[],[],[],0,0),a_4.2.1,())) (∃(h:Z13d g s.2.2.1 (List.take a.2.1.2.length
 (List.drop 0 a.2.1.2))),∀ a_6,a_6=Zbx g s.2.2.1 (List.take a.2.1.2.length (List.drop 0 a.2.1.2))->∀ a_7,a_7=(a_6.2.1 != 0)->Br a_7 (post (([],
 [],[],[],0,0),a_6.2.1,())) (∃(h:Z1mo (List.take a_4.1.length (List.drop 0 a_4.1)) s.2.2.2.2.1 p.2.2.2.2.2.2 s.2.2.2.2.2),∀ a_8,a_8=Z13e (List.take
 a_4.1.length (List.drop 0 a_4.1)) s.2.2.2.2.1 p.2.2.2.2.2.2 s.2.2.2.2.2->∀ a_9,a_9=(a_8.2.2.1 != 0)->Br a_9 (post (([],[],[],[],0,0),a_8.2.2.1,())) (Br
 (!p.2.2.2.2.2.1) (((0:Nat)=0/\a_3.1.length=a_3.1.length)/\((0:Nat)=0/\a_8.1.length=a_8.1.length)/\((0:Nat)=0/\a_6.1.length=
 a_6.1.length)/\((0:Nat)=0/\a.1.length=a.1.length)/\post ((a_3.1,a_8.1,a_6.1,a.1,a_8.2.1,i64.wrap (imin s.2.2.2.2.2 4611686018427387903+(1:
 Int))),0,())) (∃(h:WRun g (List.take a_3.1.length (List.drop 0 a_3.1),List.take a_8.1.length (List.drop 0 a_8.1),List.take a_6.1.length (List.drop 0
 a_6.1),List.take a.1.length (List.drop 0 a.1),a_8.2.1,i64.wrap (imin s.2.2.2.2.2 (4611686018427387903:Int)+1))),∀ a_10,a_10=Z7j g (List.take
 a_3.1.length (List.drop 0 a_3.1),List.take a_8.1.length (List.drop 0 a_8.1),List.take a_6.1.length (List.drop 0 a_6.1),List.take a.1.length (List.drop
 0 a.1),a_8.2.1,i64.wrap (imin s.2.2.2.2.2 (4611686018427387903:Int)+1))->∀ a_11,a_11=(a_10.2.2.1 != 0)->Br a_11 (post (([],[],[],[],
 0,0),a_10.2.2.1,())) (((0:Nat)=0/\a_3.1.length=a_3.1.length)/\((0:Nat)=0/\a_10.1.length=a_10.1.length)/\((0:Nat)=0/\a_10.2.1.length
 = a_10.2.1.length)/\((0:Nat)=0/\a.1.length=a.1.length)/\post ((a_3.1,a_10.1,a_10.2.1,a.1,a_8.2.1,i64.wrap (imin s.2.2.2.2.2 (4611686018427387903:
 Int)+1)),0,()))))))))
theorem Z1jg(g:Option YG)(p:YP)(s:YS)(h:Z6c g p s)(w:KS.wf [.ptr Z25,Z6o,kSea] (g,p,s,())):Zz9  g p s (λr=>r=Z9e g p s):=by
 refine⟨h,λa ha=>?_⟩;have ha:a=canR g p s:=ha;subst ha;rintro _ rfl;refine Br.intro (λq=>?_) λq=>?_
 ·have q:(canE g p s != 0)=true:=q;have q:¬ canE g p s=0:=by simpa using q
  show(([],[],[],[],0,0),canE g p s,())=Z9e g p s;unfold Z9e; rw[if_neg q]; rfl
 have q:(canE g p s != 0)=false:=q;have q:canE g p s=0:=by simpa using q
 obtain⟨hN,hP,hS⟩:=h;obtain⟨rfl,hp,C⟩:=Z104 hN q;have S:=Zxc rfl hp C;have cr:=Z2p p.1;have lb:=C.bed;have num:=C.num;have e3:Zbx (some (netG p.1)) s.2.1 (Z1t (some (netG p.1)) p s)=(Z70 (some (netG p.1)) p s,0,()):=by unfold Zbx; rw[S.mv.1]
 have e4:Zbx (some (netG p.1)) s.2.2.1 (Z5p (some (netG p.1)) p s)=(Zbz (some (netG p.1)) p s,0,()):=by unfold Zbx; rw[S.hs.1]
 have e5:Z13e (Z70 (some (netG p.1)) p s) s.2.2.2.2.1 p.2.2.2.2.2.2 s.2.2.2.2.2=((Z6b (some (netG p.1)) p s).1,(Z6b (some (netG p.1)) p s).2.1,0,()):=by
  have:=S.fall.ok;unfold Z13e;show(_,_,(Z6b (some (netG p.1)) p s).2.2,())=_;rw[this]; rfl
 have e6:i64.wrap (imin s.2.2.2.2.2 4611686018427387903+1)=Z1em s:=by
  have:0<=imin s.2.2.2.2.2 4611686018427387903/\imin s.2.2.2.2.2 4611686018427387903<=4611686018427387903:=by unfold imin; split <;> omega
  exact Zy (by omega) (by omega)
 have sk:=S.fall.sky;have mI:AllI (Z70 (some (netG p.1)) p s):=nn_I S.mv.2.nn (T:=s.2.1.sum) (by rw[S.mv.2.sum]; omega) (by have:=S.wsum; have:=C.sky; omega);have fI:AllI (Z6b (some (netG p.1)) p s).1:=nn_I S.fall.pool.nn (T:=4503599627370496) (by rw[S.fall.pool.sum]; have:=S.wsum; omega) (by decide);have hI:AllI (Zbz (some (netG p.1)) p s):=nn_I S.hs.2.nn (T:=4503599627370496) (by rw[S.hs.2.sum]; have:=S.tsum; omega) (by decide);refine⟨⟨⟨hN,hP,hS⟩,q⟩,λa ha=>?_⟩;have ha:a=(Z1h (some (netG p.1)) p s,(Z1t (some (netG p.1)) p s,Z5p (some (netG p.1)) p s),0,()):=ha;subst ha;rintro _ rfl;refine Br.intro (λq=>absurd (show((0:Int) != 0)=true from q) (by decide)) λ_=>?_;dsimp only
 try simp only[Z7k]
 refine⟨show s.1.length<=65536 by omega,λa ha=>?_⟩;have ha:a=(s.1,()):=ha;subst ha;refine⟨⟨hN,hS.2.1,Z1gu S.watF⟩,λa ha=>?_⟩;have ha:a=_:=ha.trans e3;subst ha;rintro _ rfl;refine Br.intro (λq=>absurd (show((0:Int) != 0)=true from q) (by decide)) λ_=>?_;refine⟨⟨hN,hS.2.2.1,S.wthI⟩,λa ha=>?_⟩;have ha:a=_:=ha.trans e4;subst ha;rintro _ rfl;refine Br.intro (λq=>absurd (show((0:Int) != 0)=true from q) (by decide)) λ_=>?_;dsimp only
 try simp only[Z7k]
 refine⟨⟨mI,hS.2.2.2.2.1,hS.2.2.2.2.2,by have:=S.mv.2.len; omega⟩,λa ha=>?_⟩;have ha:a=_:=ha.trans e5;subst ha;rintro _ rfl;refine Br.intro (λq=>absurd (show((0:Int) != 0)=true from q) (by decide)) λ_=>?_;dsimp only
 try simp only[Z7k]
 rw[e6];have fin:Z9e (some (netG p.1)) p s=(Z3f (some (netG p.1)) p s,0,()):=by unfold Z9e; rw[if_pos q]
 rw[fin];refine Br.intro (λr=>?_) λr=>?_
 ·have r:p.2.2.2.2.2.1=false:=by simpa using r
  refine⟨(by first | trivial | exact⟨rfl,rfl⟩ | exact⟨trivial,trivial⟩),(by first | trivial | exact⟨rfl,rfl⟩ | exact⟨trivial,trivial⟩),(by first | trivial | exact⟨rfl,rfl⟩ | exact⟨trivial,trivial⟩),(by first | trivial | exact⟨rfl,rfl⟩ | exact⟨trivial,trivial⟩),?_⟩;unfold Z3f;rw[r]; rfl
 ·have r:p.2.2.2.2.2.1=true:=by simpa using r
  obtain⟨w,t,h1,R⟩:=S.run;have h2:Z7j (some (netG p.1)) (Zc0 (some (netG p.1)) p s)=(w,t,0,()):=h1;refine⟨⟨hN,hS.1,fI,hI⟩,λa ha=>?_⟩;have ha:a=_:=ha.trans h2;subst ha;rintro _ rfl;refine Br.intro (λq=>absurd (show((0:Int) != 0)=true from q) (by decide)) λ_=>?_;refine⟨(by first | trivial | exact⟨rfl,rfl⟩ | exact⟨trivial,trivial⟩),(by first | trivial | exact⟨rfl,rfl⟩ | exact⟨trivial,trivial⟩),(by first | trivial | exact⟨rfl,rfl⟩ | exact⟨trivial,trivial⟩),(by first | trivial | exact⟨rfl,rfl⟩ | exact⟨trivial,trivial⟩),?_⟩;unfold Z3f;rw[r,h1]; rfl
def Zvs:=λ(g:Option YG)(p:YP)(s:YS)(post:(List Int × List Int) × Int × Unit->Prop)=>∃(h:Z6c g p s),∀ a,a=canR g p s->∀ a_1,a_1=(a.1 != (0:
 Int))->Br a_1 (post (([],[]),a.1,())) (∃(h:Za0 g p s),∀ a,a=Z13h g p s->((0:Nat)=0/\a.2.1.1.length=a.2.1.1.length)/\((0:Nat)=0/\
 a.2.1.2.length=a.2.1.2.length)/\post (a.2.1,a.2.2.1,()))
theorem Z1hp(g:Option YG)(p:YP)(s:YS)(h:Z6c g p s):Zvs  g p s (λr=>r=Z7y g p s):=by
 refine⟨h,λa ha=>?_⟩;have ha:a=canR g p s:=ha;subst ha;rintro _ rfl;refine Br.intro (λq=>?_) λq=>?_
 ·have q:(canE g p s != 0)=true:=q;have q:¬ canE g p s=0:=by simpa using q
  show(([],[]),canE g p s,())=Z7y g p s;unfold Z7y; rw[if_neg q]
 have q:(canE g p s != 0)=false:=q;have q:canE g p s=0:=by simpa using q
 refine⟨⟨h,q⟩,λa ha=>?_⟩;have ha:a=(Z1h g p s,(Z1t g p s,Z5p g p s),0,()):=ha;subst ha;refine⟨(by first | trivial | exact⟨rfl,rfl⟩ | exact⟨trivial,trivial⟩),(by first | trivial | exact⟨rfl,rfl⟩ | exact⟨trivial,trivial⟩),?_⟩;unfold Z7y; rw[if_pos q]; rfl
def Zgq:=λ(p:YP)(s:YS)(post:List Nat × Int × Unit->Prop)=>post ([],2,())
theorem Zxp(p:YP)(s:YS)(h:Zwy none p s):Zgq  p s (λr=>r=Zax none p s):=by
 exact rfl
def Zvt(ty25:Nat)(p:YP)(ty29:Nat)(s:YS)(ty22:Nat)(g:YG):List HObj:=[HObj.box Md.rw ty25 [SV.val (Go.Value.int i64 p.1),SV.val (Go.Value.float f64 p.2.1),SV.val (Go.Value.float f64 p.2.2.1),SV.val (Go.Value.float f64 p.2.2.2.1),SV.val (Go.Value.int i64 p.2.2.2.2.1),SV.val (Go.Value.bool p.2.2.2.2.2.1),SV.data ((K.int i64).pair ((K.int i64).pair ((K.int i64).pair (K.int i64)))).slice p.2.2.2.2.2.2],HObj.box Md.rw ty29 [SV.data (K.flt f64).slice s.1,SV.data (K.int i64).slice s.2.1,SV.data (K.int i64).slice s.2.2.1,SV.data (K.flt f64).slice s.2.2.2.1,SV.val (Go.Value.int i64 s.2.2.2.2.1),SV.val (Go.Value.int i64 s.2.2.2.2.2)],HObj.row Md.rw ty22 (K.flt f64) (List.replicate (Zp (some g)).1.toNat (0:Nat))]
def Zvu(ty25:Nat)(p:YP)(ty29:Nat)(s:YS)(ty22:Nat)(y:List Nat × Unit)(x:Int × Unit)(a:Nat × Unit):List HObj:=[HObj.box Md.rw ty25 [SV.val (Go.Value.int i64 p.1),SV.val (Go.Value.float f64 p.2.1),SV.val (Go.Value.float f64 p.2.2.1),SV.val (Go.Value.float f64 p.2.2.2.1),SV.val (Go.Value.int i64 p.2.2.2.2.1),SV.val (Go.Value.bool p.2.2.2.2.2.1),SV.data ((K.int i64).pair ((K.int i64).pair ((K.int i64).pair (K.int i64)))).slice p.2.2.2.2.2.2],HObj.box Md.rw ty29 [SV.data (K.flt f64).slice s.1,SV.data (K.int i64).slice s.2.1,SV.data (K.int i64).slice s.2.2.1,SV.data (K.flt f64).slice s.2.2.2.1,SV.val (Go.Value.int i64 s.2.2.2.2.1),SV.val (Go.Value.int i64 s.2.2.2.2.2)],HObj.row Md.rw ty22 (K.flt f64) (y.1.set (0+x.1.toNat) a.1)]
def Zgr:=λ(ty25 ty29 ty22:Nat)(g:YG)(p:YP)(s:YS)(post:List Nat × Int × Unit->Prop)=>∃(h:Z138 (some g) s),∀ a,a=Ziq
 (some g) s->∀ a_1,a_1=a.1->Br (!a_1) (post ([],1,())) (∃(h:True),∃(h:(0:Int)<=(Zp (some g)).1/\(Zp (some g)).1<=(Zp
 (some g)).1/\(Zp (some g)).1*(↑(8:Nat):Int)<=(281474976710656:Int)),HS (Zvt ty25 p ty29 s ty22 g)/\∃(I:Int × Unit->List Nat ×
 Unit->Prop),∃(μ:Int × Unit->List Nat × Unit->Nat),I (0,()) (List.replicate (Zp (some g)).1.toNat (0:Nat),())/\∀(x:Int × Unit)(y:List Nat × Unit),I
 x y->∀ a,a=decide (x.1<(↑(Zp (some g)).1.toNat:Int))->Br a (∃(h:Z1gf (some g) p s x.1),∀ a,a=Zwx (some g) p s x.1->∃(h:(0:
 Int)<=x.1/\x.1<(↑(Zp (some g)).1.toNat:Int)),HS (Zvu ty25 p ty29 s ty22 y x a)/\I (i64.wrap (x.1+1),()) (y.1.set ((0:Nat)+
 x.1.toNat) a.1,())/\μ (i64.wrap (x.1+1),()) (y.1.set ((0:Nat)+x.1.toNat) a.1,())<μ x y) (((0:Nat)=(0:Nat)/\(Zp (some g)).1.toNat=
 y.1.length)/\post (y.1,0,())))
theorem Zxq(ty0 ty1 ty2:Nat)(g:YG)(p:YP)(s:YS)(h:Zwy (some g) p s):Zgr ty0 ty1 ty2 g p s (λr=>r=Zax (some g) p s):=by
 obtain⟨hg,hp,hw,hi,hs⟩:=h;obtain⟨n,gn,hgn⟩:=Z4o hg;obtain rfl:g=netG n:=hgn;obtain⟨m,hm⟩:∃ m,(netE n).1.length=m:=⟨_,rfl⟩;have hE:(Zp (some (netG n))).fst=(m:Int):=by rw[<- hm]; rfl
 have hE2:Zi (some (netG n))=(m:Int):=hE;have cr:=Z2p n
 have mb:m<=4*(Z2 n).toNat:=by
  rw[<- hm]; exact(Zas n (Z2 n).toNat (by omega)).2
 refine⟨hg,?_⟩;rintro _ rfl;rintro _ rfl;have hf:(Ziq (some (netG n)) (s.1,s.2.1,s.2.2.1,s.2.2.2.1,s.2.2.2.2.1,s.2.2.2.2.2)).fst=Z2l (Zh (some (netG n))) (Zi (some (netG n))) s:=rfl;rw[hf]
 have key:Zax (some (netG n)) p s=if Z2l (Zh (some (netG n))) (Zi (some (netG n))) s=true then((List.range m).map λk:Nat=>Z6a (some (netG n)) p s k,0,())else([],1,()):=by
  have hm2:(Zi (some (netG n))).toNat=m:=by omega
  unfold Zax Zaw; rw[if_neg (by simp),hm2]; split <;> rfl
 refine Br.intro (λe=>?_) λe=>?_
 ·have e:Z2l (Zh (some (netG n))) (Zi (some (netG n))) s=false:=by simpa using e
  rw[key,if_neg (by rw[e]; decide)]
 have e:Z2l (Zh (some (netG n))) (Zi (some (netG n))) s=true:=by simpa using e
 rw[key,if_pos e,hE,Int.toNat_natCast];refine⟨trivial,⟨by omega,by omega,by omega⟩,?_⟩;refine⟨rfl,λx y=>∃ k:Nat,x.1=k/\k<=m/\y.1=(List.range k).map (λk:Nat=>Z6a (some (netG n)) p s k)++List.replicate (m - k) 0,λx _=>m - x.1.toNat,⟨0,rfl,by omega,rfl⟩,?_⟩;rintro⟨_,⟨⟩⟩ ⟨_,⟨⟩⟩ ⟨k,rfl,hk,rfl⟩;dsimp only;rintro _ rfl;have lk:((List.range k).map (λk:Nat=>Z6a (some (netG n)) p s k)).length=k:=by rw[List.length_map,List.length_range]
 refine Br.intro (λe3=>?_) λe3=>?_
 ·have e3:k<m:=by have:=of_decide_eq_true e3; omega
  refine⟨⟨hg,hp,hw,hi,hs,by omega,by omega⟩,?_⟩;rintro _ rfl;refine⟨⟨by omega,by omega⟩,?_⟩;rw[Int.toNat_natCast,Z19 e3 (by omega),Zpm lk e3];refine⟨rfl,⟨k+1,rfl,by omega,?_⟩,by omega⟩;rw[List.range_succ,List.map_append,List.map_singleton]; rfl
 have e3:k=m:=by have:=of_decide_eq_false e3; omega
 subst e3;rw[Nat.sub_self,List.replicate_zero,List.append_nil];exact⟨⟨rfl,lk.symm⟩,rfl⟩
def Zo9:=λ(g:Option YG)(lim:Int)(s:YS)(e:Int)(u:Nat)(post:Nat × Unit->Prop)=>∃(h:Z2z g e),Br (!(Z6 g e).2.1) (post (0,())) (∃(h:
 True),∀ a,a=((↑s.1.length:Int) != (Zw g).1)->Br a (post (0,())) (∃(h:True),∀ a,a=((↑s.2.1.length:Int) != (Zw g).1)->Br a (post (0,())) (∃(h:Z2z g
 e),∀ a,a=Zip g e->∀ a_1,a_1=fcmp Go.BinOp.gtr (f64.format.order u 0)->Br a_1 (∃(h:0<=(Z6 g e).1.1/\(Z6 g e).1.1 <
 (↑s.2.1.length:Int)),∃(h:True),∃(h:II (s.2.1.getD (Z6 g e).1.1.toNat 0) (Z14 g (Z6 g e).1.1).1),∃(h:0<=a.1/\a.1<(↑s.2.1.length:
 Int)),∃(h:True),∃(h:II (s.2.1.getD a.1.toNat 0) (Z14 g a.1).1),∀(a_2:Nat),FRes f64 (f64.format.sub (Z50 (s.2.1.getD (Z6 g
 e).1.1.toNat 0) (Z14 g (Z6 g e).1.1).1).1 (Z50 (s.2.1.getD a.1.toNat 0) (Z14 g a.1).1).1) a_2->∃(h:0<=(Z6 g e).1.2.2.1/\(Z6 g
 e).1.2.2.1<(↑s.2.1.length:Int)),∃(h:True),∃(h:II (s.2.1.getD (Z6 g e).1.2.2.1.toNat 0) (Z14 g (Z6 g e).1.2.2.1).1),∃(h:0<=(Z6 g
 e).1.1/\(Z6 g e).1.1<(↑s.2.1.length:Int)),∃(h:True),∃(h:II (s.2.1.getD (Z6 g e).1.1.toNat 0) (Z14 g (Z6 g e).1.1).1),∀(a:Nat),FRes
 f64 (f64.format.sub (Z50 (s.2.1.getD (Z6 g e).1.2.2.1.toNat 0) (Z14 g (Z6 g e).1.2.2.1).1).1 (Z50 (s.2.1.getD (Z6 g
 e).1.1.toNat 0) (Z14 g (Z6 g e).1.1).1).1) a->∃(h:0<=(Z6 g e).1.1/\(Z6 g e).1.1<(↑s.2.1.length:Int)),∃(h:True),∃(h:II (s.2.1.getD
 (Z6 g e).1.1.toNat 0) (Z14 g (Z6 g e).1.1).1),∃(h:Zfk lim a_2 a),∀ a_3,a_3=Zfj lim a_2 a->∀(a:Nat),FRes f64
 (f64.format.mul 4602678819172646912 a_3.1) a->∀(a_4:Nat),FRes f64 (f64.format.add (Z50 (s.2.1.getD (Z6 g e).1.1.toNat (0
 : Int)) (Z14 g (Z6 g e).1.1).1).1 a) a_4->∃(h:0<=(Z6 g e).1.1/\(Z6 g e).1.1<(↑s.1.length:Int)),∃(h:0<=(Z6 g e).1.1/\(Z6 g
 e).1.1<(↑s.2.1.length:Int)),∃(h:True),∃(h:Zfi (s.1.getD (Z6 g e).1.1.toNat 0) (s.2.1.getD (Z6 g e).1.1.toNat 0) (Z14 g (Z6 g
 e).1.1).1),∀ a,a=Zil (s.1.getD (Z6 g e).1.1.toNat 0) (s.2.1.getD (Z6 g e).1.1.toNat 0) (Z14 g (Z6 g e).1.1).1->∃(h:0<=(Z6 g
 e).1.1/\(Z6 g e).1.1<(↑s.1.length:Int)),∃(h:0<=(Z6 g e).1.2.2.1/\(Z6 g e).1.2.2.1<(↑s.1.length:Int)),∃(h:W2 (s.1.getD (Z6 g e).1.1.toNat
 0) (s.1.getD (Z6 g e).1.2.2.1.toNat 0)),∀ a_5,a_5=Z131 (s.1.getD (Z6 g e).1.1.toNat 0) (s.1.getD (Z6 g e).1.2.2.1.toNat 0)->∀
 (a_6:Nat),FRes f64 (f64.format.sub a.1 a_5.1) a_6->∃(h:W2 a_4 a_6),∀ a,a=Zh9 a_4 a_6->∀ a_7,a_7=fcmp Go.BinOp.gtr
 (f64.format.order a.1 0)->Br a_7 (post (a.1,())) (post (0,()))) (∀ a_2,a_2=fcmp Go.BinOp.lss (f64.format.order u 0)->Br a_2 (∃(h
 : 0<=(Z6 g e).1.2.2.1/\(Z6 g e).1.2.2.1<(↑s.2.1.length:Int)),∃(h:True),∃(h:II (s.2.1.getD (Z6 g e).1.2.2.1.toNat 0) (Z14 g (Z6 g
 e).1.2.2.1).1),∃(h:0<=a.2.1/\a.2.1<(↑s.2.1.length:Int)),∃(h:True),∃(h:II (s.2.1.getD a.2.1.toNat 0) (Z14 g a.2.1).1),∀(a_3:Nat),FRes
 f64 (f64.format.sub (Z50 (s.2.1.getD (Z6 g e).1.2.2.1.toNat 0) (Z14 g (Z6 g e).1.2.2.1).1).1 (Z50 (s.2.1.getD a.2.1.toNat (0:
 Int)) (Z14 g a.2.1).1).1) a_3->∃(h:0<=(Z6 g e).1.1/\(Z6 g e).1.1<(↑s.2.1.length:Int)),∃(h:True),∃(h:II (s.2.1.getD (Z6 g e).1.1.toNat (0:
 Int)) (Z14 g (Z6 g e).1.1).1),∃(h:0<=(Z6 g e).1.2.2.1/\(Z6 g e).1.2.2.1<(↑s.2.1.length:Int)),∃(h:True),∃(h:II (s.2.1.getD (Z6 g
 e).1.2.2.1.toNat 0) (Z14 g (Z6 g e).1.2.2.1).1),∀(a:Nat),FRes f64 (f64.format.sub (Z50 (s.2.1.getD (Z6 g e).1.1.toNat (0:
 Int)) (Z14 g (Z6 g e).1.1).1).1 (Z50 (s.2.1.getD (Z6 g e).1.2.2.1.toNat 0) (Z14 g (Z6 g e).1.2.2.1).1).1) a->∃(h:0<=(Z6 g e).1.2.2.1
 /\ (Z6 g e).1.2.2.1<(↑s.2.1.length:Int)),∃(h:True),∃(h:II (s.2.1.getD (Z6 g e).1.2.2.1.toNat 0) (Z14 g (Z6 g e).1.2.2.1).1),∃(h:Zfk lim
 a_3 a),∀ a_4,a_4=Zfj lim a_3 a->∀(a:Nat),FRes f64 (f64.format.mul 4602678819172646912 a_4.1) a->∀(a_5:Nat),FRes f64
 (f64.format.add (Z50 (s.2.1.getD (Z6 g e).1.2.2.1.toNat 0) (Z14 g (Z6 g e).1.2.2.1).1).1 a) a_5->∃(h:0<=(Z6 g e).1.2.2.1/\
 (Z6 g e).1.2.2.1<(↑s.1.length:Int)),∃(h:0<=(Z6 g e).1.2.2.1/\(Z6 g e).1.2.2.1<(↑s.2.1.length:Int)),∃(h:True),∃(h:Zfi (s.1.getD (Z6
 g e).1.2.2.1.toNat 0) (s.2.1.getD (Z6 g e).1.2.2.1.toNat 0) (Z14 g (Z6 g e).1.2.2.1).1),∀ a,a=Zil (s.1.getD (Z6 g e).1.2.2.1.toNat 0)
 (s.2.1.getD (Z6 g e).1.2.2.1.toNat 0) (Z14 g (Z6 g e).1.2.2.1).1->∃(h:0<=(Z6 g e).1.2.2.1/\(Z6 g e).1.2.2.1<(↑s.1.length:Int)),∃(h:
 0<=(Z6 g e).1.1/\(Z6 g e).1.1<(↑s.1.length:Int)),∃(h:W2 (s.1.getD (Z6 g e).1.2.2.1.toNat 0) (s.1.getD (Z6 g e).1.1.toNat 0)),∀
 a_6,a_6=Z131 (s.1.getD (Z6 g e).1.2.2.1.toNat 0) (s.1.getD (Z6 g e).1.1.toNat 0)->∀(a_7:Nat),FRes f64 (f64.format.sub
 a.1 a_6.1) a_7->∃(h:W2 a_5 a_7),∀ a,a=Zh9 a_5 a_7->∀ a_8,a_8=fcmp Go.BinOp.gtr (f64.format.order a.1 0)->Br a_8 (post (a.1,())) (post (0,
 ()))) (post (0,()))))))
theorem Z18l(g:Option YG)(lim:Int)(s:YS)(e:Int)(u:Nat)(h:Z1gg g lim s e u):Zo9  g lim s e u (λr=>r=Zmi g lim s e u):=by
 obtain⟨hg,l0,l3,hw,hi,he,hu⟩:=h;refine⟨⟨hg,he⟩,?_⟩;refine Br.intro (λe1=>?_) λe1=>?_
 ·have e1:(!nIs g e)=true:=e1;have e1:nIs g e=false:=by simpa using e1
  show(0,())=r1 (Z5o g lim s e u);unfold Z5o; rw[e1]; rfl
 have e1:(!nIs g e)=false:=e1;have e1:nIs g e=true:=by simpa using e1
 have hC:(Zw g).fst=Zh g:=rfl;rw[hC];refine⟨trivial,?_⟩;rintro _ rfl;refine Br.intro (λe2=>?_) λe2=>?_
 ·have e2:¬ (s.1.length:Int)=Zh g:=by simpa using e2
  show(0,())=r1 (Z5o g lim s e u);unfold Z5o; rw[e1,decide_eq_false e2]; rfl
 have e2:(s.1.length:Int)=Zh g:=by simpa using e2
 refine⟨trivial,?_⟩;rintro _ rfl;refine Br.intro (λe3=>?_) λe3=>?_
 ·have e3:¬ (s.2.1.length:Int)=Zh g:=by simpa using e3
  show(0,())=r1 (Z5o g lim s e u);unfold Z5o; rw[e1,decide_eq_true e2,decide_eq_false e3]; rfl
 have e3:(s.2.1.length:Int)=Zh g:=by simpa using e3
 obtain⟨n,gn,rfl⟩:∃ n,Z24 n=true/\g=some (netG n):=by
  rcases hg with rfl | ⟨n,gn,rfl⟩
  ·cases(show false=true from e1)
  ·exact⟨n,gn,rfl⟩
 refine⟨⟨hg,he⟩,?_⟩;rintro _ rfl;have ce:=Z9f e1;have cb:=Z1gp e1
 have hR:Zmi (some (netG n)) lim s e u=r1 (recF n lim (Zx (some (netG n)) e) (Z3h (some (netG n)) e) s.1 s.2.1 u):=by
  show r1 (Z5o (some (netG n)) lim s e u)=_;unfold Z5o; rw[e1,decide_eq_true e2,decide_eq_true e3]; rfl
 rw[Z1j]at e2 e3;obtain⟨ed,hed⟩:∃ ed,Zx (some (netG n)) e=ed:=⟨_,rfl⟩;obtain⟨bh,hbh⟩:∃ bh,Z3h (some (netG n)) e=bh:=⟨_,rfl⟩;rw[hed,hbh]at hR;rw[hed]at ce;rw[hbh]at cb
 have hE:Z6 (some (netG n)) e=(ed,true,()):=by
  show(Zx (some (netG n)) e,nIs (some (netG n)) e,())=_;rw[hed,e1]
 have hB:Zip (some (netG n)) e=(bh.1,bh.2,true,()):=by
  show((Z3h (some (netG n)) e).1,(Z3h (some (netG n)) e).2,nIs (some (netG n)) e,())=_;rw[hbh,e1]
 rw[hE,hB];dsimp only;have aL:(Z14 (some (netG n)) ed.1).fst=Zv n ed.1:=Z6e ce.1.1 ce.1.2;have aR:(Z14 (some (netG n)) ed.2.2.1).fst=Zv n ed.2.2.1:=Z6e ce.2.1 ce.2.2;have a1:(Z14 (some (netG n)) bh.1).fst=Zv n bh.1:=Z6e cb.1.1 cb.1.2;have a2:(Z14 (some (netG n)) bh.2).fst=Zv n bh.2:=Z6e cb.2.1 cb.2.2;simp only[aL,aR,a1,a2];have ix:∀ c:Int,0<=c/\c<Z2 n->0<=c/\c<(s.2.1.length:Int):=λc h=>⟨h.1,by omega⟩;have bx:∀ c:Int,0<=c/\c<Z2 n->0<=c/\c<(s.1.length:Int):=λc h=>⟨h.1,by omega⟩;have jx:∀ c:Int,0<=c/\c<Z2 n->II (s.2.1.getD c.toNat 0) (Zv n c):=λc h=>⟨hi _ (Zu (by omega) 0),(Zde n c).1⟩;have wx:∀ c:Int,0<=c/\c<Z2 n->W64 (s.1.getD c.toNat 0):=λc h=>hw _ (Zu (by omega) 0);have iUL:=ix _ ce.1;have iUR:=ix _ ce.2;have iB1:=ix _ cb.1;have iB2:=ix _ cb.2;have bUL:=bx _ ce.1;have bUR:=bx _ ce.2;have jUL:=jx _ ce.1;have jUR:=jx _ ce.2;have jB1:=jx _ cb.1;have jB2:=jx _ cb.2;have wUL:=wx _ ce.1;have wUR:=wx _ ce.2;rintro _ rfl;refine Br.intro (λg1=>?_) λg1=>?_
 ·have g1:gtS u 0=true:=g1;refine⟨iUL,trivial,jUL,iB1,trivial,jB1,?_⟩;intro x2 f2;have q2:=fsub f2;refine⟨iUR,trivial,jUR,iUL,trivial,jUL,?_⟩;intro x3 f3;have q3:=fsub f3;refine⟨iUL,trivial,jUL,⟨l0,l3,q2.2,q3.2⟩,?_⟩;rintro _ rfl;intro x4 f4;have q4:=fmul f4;intro x5 f5;have q5:=fadd f5;refine⟨bUL,iUL,trivial,⟨wUL,jUL⟩,?_⟩;rintro _ rfl;refine⟨bUL,bUR,⟨wUL,wUR⟩,?_⟩;rintro _ rfl;intro x6 f6;have q6:=fsub f6;refine⟨⟨q5.2,q6.2⟩,?_⟩;rintro _ rfl
  have hV:Z8 x5=Z8 (recV n lim s.1 s.2.1 ed.1 ed.2.2.1 bh.1):=by
   rw[q5.1]; unfold recV; rw[Zm9];refine Zh1 rfl ?_;rw[q4.1,Z4c];refine Z42 rfl (congrArg Z8 ?_);show Z1c lim x2 x3=_;exact Zyl (by rw[q2.1,Zbm]; rfl) (by rw[q3.1,Zbm]; rfl)
  have hG:Z8 x6=Z8 (recG n s.1 s.2.1 ed.1 ed.2.2.1):=by
   rw[q6.1]; unfold recG; rw[Zbm]; rfl
  have hM:minQ x5 x6=minQ (recV n lim s.1 s.2.1 ed.1 ed.2.2.1 bh.1) (recG n s.1 s.2.1 ed.1 ed.2.2.1):=Z13u hV hG;have hF:recF n lim ed bh s.1 s.2.1 u=recD n lim s.1 s.2.1 ed.1 ed.2.2.1 bh.1:=by unfold recF; rw[if_pos g1]
  rw[hR,hF];unfold recD;rw[<- hM];rintro _ rfl;refine Br.intro (λz=>?_) λz=>?_
  ·have z:gtS (minQ x5 x6) 0=true:=z;show(minQ x5 x6,())=r1 _;rw[if_pos z]; rfl
  ·have z:gtS (minQ x5 x6) 0=false:=z;show(0,())=r1 _;rw[if_neg (by rw[z]; decide)]; rfl
 have g1:gtS u 0=false:=g1;rintro _ rfl;refine Br.intro (λg2=>?_) λg2=>?_
 ·have g2:ltS u 0=true:=g2;refine⟨iUR,trivial,jUR,iB2,trivial,jB2,?_⟩;intro x2 f2;have q2:=fsub f2;refine⟨iUL,trivial,jUL,iUR,trivial,jUR,?_⟩;intro x3 f3;have q3:=fsub f3;refine⟨iUR,trivial,jUR,⟨l0,l3,q2.2,q3.2⟩,?_⟩;rintro _ rfl;intro x4 f4;have q4:=fmul f4;intro x5 f5;have q5:=fadd f5;refine⟨bUR,iUR,trivial,⟨wUR,jUR⟩,?_⟩;rintro _ rfl;refine⟨bUR,bUL,⟨wUR,wUL⟩,?_⟩;rintro _ rfl;intro x6 f6;have q6:=fsub f6;refine⟨⟨q5.2,q6.2⟩,?_⟩;rintro _ rfl
  have hV:Z8 x5=Z8 (recV n lim s.1 s.2.1 ed.2.2.1 ed.1 bh.2):=by
   rw[q5.1]; unfold recV; rw[Zm9];refine Zh1 rfl ?_;rw[q4.1,Z4c];refine Z42 rfl (congrArg Z8 ?_);show Z1c lim x2 x3=_;exact Zyl (by rw[q2.1,Zbm]; rfl) (by rw[q3.1,Zbm]; rfl)
  have hG:Z8 x6=Z8 (recG n s.1 s.2.1 ed.2.2.1 ed.1):=by
   rw[q6.1]; unfold recG; rw[Zbm]; rfl
  have hM:minQ x5 x6=minQ (recV n lim s.1 s.2.1 ed.2.2.1 ed.1 bh.2) (recG n s.1 s.2.1 ed.2.2.1 ed.1):=Z13u hV hG;have hF:recF n lim ed bh s.1 s.2.1 u=recD n lim s.1 s.2.1 ed.2.2.1 ed.1 bh.2:=by unfold recF; rw[if_neg (by rw[g1]; decide),if_pos g2]
  rw[hR,hF];unfold recD;rw[<- hM];rintro _ rfl;refine Br.intro (λz=>?_) λz=>?_
  ·have z:gtS (minQ x5 x6) 0=true:=z;show(minQ x5 x6,())=r1 _;rw[if_pos z]; rfl
  ·have z:gtS (minQ x5 x6) 0=false:=z;show(0,())=r1 _;rw[if_neg (by rw[z]; decide)]; rfl
 have g2:ltS u 0=false:=g2;show(0,())=_;rw[hR];unfold recF; rw[if_neg (by rw[g1]; decide),if_neg (by rw[g2]; decide)]; rfl
def Zrz:=λ(p:YP)(s:YS)(post:List Int × Int × Unit->Prop)=>post ([],2,())
theorem Z1dc(p:YP)(s:YS)(h:Z1el none p s):Zrz  p s (λr=>r=Zk9 none p s):=by
 exact rfl
def Z18m(ty25:Nat)(p:YP)(ty29:Nat)(s:YS)(ty2:Nat)(g:YG):List HObj:=[HObj.box Md.rw ty25 [SV.val (Go.Value.int i64 p.1),SV.val (Go.Value.float f64 p.2.1),SV.val (Go.Value.float f64 p.2.2.1),SV.val (Go.Value.float f64 p.2.2.2.1),SV.val (Go.Value.int i64 p.2.2.2.2.1),SV.val (Go.Value.bool p.2.2.2.2.2.1),SV.data ((K.int i64).pair ((K.int i64).pair ((K.int i64).pair (K.int i64)))).slice p.2.2.2.2.2.2],HObj.box Md.rw ty29 [SV.data (K.flt f64).slice s.1,SV.data (K.int i64).slice s.2.1,SV.data (K.int i64).slice s.2.2.1,SV.data (K.flt f64).slice s.2.2.2.1,SV.val (Go.Value.int i64 s.2.2.2.2.1),SV.val (Go.Value.int i64 s.2.2.2.2.2)],HObj.row Md.rw ty2 (K.int i64) (List.replicate (Zp (some g)).1.toNat (0:Int))]
def Z18n(ty25:Nat)(p:YP)(ty29:Nat)(s:YS)(ty2:Nat)(y:List Int × Unit)(x:Int × Unit)(a_2:Int × Unit):List HObj:=[HObj.box Md.rw ty25 [SV.val (Go.Value.int i64 p.1),SV.val (Go.Value.float f64 p.2.1),SV.val (Go.Value.float f64 p.2.2.1),SV.val (Go.Value.float f64 p.2.2.2.1),SV.val (Go.Value.int i64 p.2.2.2.2.1),SV.val (Go.Value.bool p.2.2.2.2.2.1),SV.data ((K.int i64).pair ((K.int i64).pair ((K.int i64).pair (K.int i64)))).slice p.2.2.2.2.2.2],HObj.box Md.rw ty29 [SV.data (K.flt f64).slice s.1,SV.data (K.int i64).slice s.2.1,SV.data (K.int i64).slice s.2.2.1,SV.data (K.flt f64).slice s.2.2.2.1,SV.val (Go.Value.int i64 s.2.2.2.2.1),SV.val (Go.Value.int i64 s.2.2.2.2.2)],HObj.row Md.rw ty2 (K.int i64) (y.1.set (0+x.1.toNat) a_2.1)]
def Zgb:=λ(ty25 ty29 ty2:Nat)(g:YG)(p:YP)(s:YS)(post:List Int × Int × Unit->Prop)=>∃(h:True),∀ a,a=((↑s.1.length:Int) != (Zw
 (some g)).1)->Br a (post ([],1,())) (∃(h:True),∀ a,a=((↑s.2.1.length:Int) != (Zw (some g)).1)->Br a (post ([],1,())) (∃(h:True),∀ a,a=
 ((↑s.2.2.1.length:Int) != (Zw (some g)).1)->Br a (post ([],1,())) (∃(h:True),∀ a,a=((↑s.2.2.2.1.length:Int) != (Zp (some g)).1)->Br a (post
 ([],1,())) (∃(h:True),∃(h:(0:Int)<=(Zp (some g)).1/\(Zp (some g)).1<=(Zp (some g)).1/\(Zp (some g)).1*(↑(8:Nat)
 : Int)<=(281474976710656:Int)),HS (Z18m ty25 p ty29 s ty2 g)/\∃(I:Int × Unit->List Int × Unit->Prop),∃(μ:Int × Unit->List Int × Unit->Nat),I (0,())
 (List.replicate (Zp (some g)).1.toNat (0:Int),())/\∀(x:Int × Unit)(y:List Int × Unit),I x y->∀ a,a=decide (x.1<(↑(Zp (some g)).1.toNat:
 Int))->Br a (∃(h:(0:Int)<=x.1/\x.1<(↑s.2.2.2.1.length:Int)),∃(h:Z1gg (some g) p.2.2.2.2.1 s x.1 (s.2.2.2.1.getD x.1.toNat (0:Nat))),∀ a,a=Zmi
 (some g) p.2.2.2.2.1 s x.1 (s.2.2.2.1.getD x.1.toNat (0:Nat))->∃(h:Z2z (some g) x.1),∀ a_1,a_1=Zio (some g) x.1->∃(h:W4 (s.2.2.2.1.getD
 x.1.toNat (0:Nat)) a.1 a_1.1 p.2.1),∀ a_2,a_2=Z1gd (s.2.2.2.1.getD x.1.toNat (0:Nat)) a.1 a_1.1 p.2.1->∃(h:(0:Int)<=x.1/\x.1<(↑(Zp (some
 g)).1.toNat:Int)),HS (Z18n ty25 p ty29 s ty2 y x a_2)/\I (i64.wrap (x.1+1),()) (y.1.set ((0:Nat)+x.1.toNat) a_2.1,())/\μ (i64.wrap (x.1+
 1),()) (y.1.set ((0:Nat)+x.1.toNat) a_2.1,())<μ x y) (((0:Nat)=(0:Nat)/\(Zp (some g)).1.toNat=y.1.length)/\post (y.1,0,()))))))
theorem Z1dd(ty0 ty1 ty2:Nat)(g:YG)(p:YP)(s:YS)(h:Z1el (some g) p s):Zgb ty0 ty1 ty2 g p s (λr=>r=Zk9 (some g) p s):=by
 obtain⟨hg,pt,l0,l3,hw,hi,hs⟩:=h;obtain⟨n,gn,hgn⟩:=Z4o hg;obtain rfl:g=netG n:=hgn;obtain⟨m,hm⟩:∃ m,(netE n).1.length=m:=⟨_,rfl⟩;have hE:(Zp (some (netG n))).fst=(m:Int):=by rw[<- hm]; rfl
 have hE2:Zi (some (netG n))=(m:Int):=hE;have cr:=Z2p n
 have mb:m<=4*(Z2 n).toNat:=by
  rw[<- hm]; exact(Zas n (Z2 n).toNat (by omega)).2
 have hC:(Zw (some (netG n))).fst=Zh (some (netG n)):=rfl
 have key:Zk9 (some (netG n)) p s=if Z2l (Zh (some (netG n))) m s=true then((List.range m).map λk:Nat=>Zk7 (some (netG n)) p s k,0,())else([],1,()):=by
  unfold Zk9 Zk8; rw[if_neg (by simp),hE2,Int.toNat_natCast]; split <;> rfl
 unfold Zgb;rw[hC,hE,key];have bad:Z2l (Zh (some (netG n))) m s=false->(([]:List Int),(1:Int),())=if Z2l (Zh (some (netG n))) m s=true then((List.range m).map λk:Nat=>Zk7 (some (netG n)) p s k,0,())else([],1,()):=λe=>by rw[if_neg (by rw[e]; decide)]
 refine⟨trivial,?_⟩;rintro _ rfl;refine Br.intro (λe=>bad ?_) λe1=>?_
 ·have e:¬ (s.1.length:Int)=Zh (some (netG n)):=by simpa using e
  unfold Z2l; rw[decide_eq_false e]; simp
 have e1:(s.1.length:Int)=Zh (some (netG n)):=by simpa using e1
 refine⟨trivial,?_⟩;rintro _ rfl;refine Br.intro (λe=>bad ?_) λe2=>?_
 ·have e:¬ (s.2.1.length:Int)=Zh (some (netG n)):=by simpa using e
  unfold Z2l; rw[decide_eq_false e]; simp
 have e2:(s.2.1.length:Int)=Zh (some (netG n)):=by simpa using e2
 refine⟨trivial,?_⟩;rintro _ rfl;refine Br.intro (λe=>bad ?_) λe3=>?_
 ·have e:¬ (s.2.2.1.length:Int)=Zh (some (netG n)):=by simpa using e
  unfold Z2l; rw[decide_eq_false e]; simp
 have e3:(s.2.2.1.length:Int)=Zh (some (netG n)):=by simpa using e3
 refine⟨trivial,?_⟩;rintro _ rfl;refine Br.intro (λe=>bad ?_) λe4=>?_
 ·have e:¬ (s.2.2.2.1.length:Int)=(m:Int):=by simpa using e
  unfold Z2l; rw[decide_eq_false e]; simp
 have e4:(s.2.2.2.1.length:Int)=(m:Int):=by simpa using e4
 have e:Z2l (Zh (some (netG n))) m s=true:=Z48.2 ⟨e1,e2,e3,e4⟩;rw[if_pos e,Int.toNat_natCast];refine⟨trivial,⟨by omega,by omega,by omega⟩,?_⟩;refine⟨rfl,λx y=>∃ k:Nat,x.1=k/\k<=m/\y.1=(List.range k).map (λk:Nat=>Zk7 (some (netG n)) p s k)++List.replicate (m - k) 0,λx _=>m - x.1.toNat,⟨0,rfl,by omega,rfl⟩,?_⟩;rintro⟨_,⟨⟩⟩ ⟨_,⟨⟩⟩ ⟨k,rfl,hk,rfl⟩;dsimp only;rintro _ rfl;have lk:((List.range k).map (λk:Nat=>Zk7 (some (netG n)) p s k)).length=k:=by rw[List.length_map,List.length_range]
 refine Br.intro (λe5=>?_) λe5=>?_
 ·have e5:k<m:=by have:=of_decide_eq_true e5; omega
  have ik:I64 (k:Int):=⟨by omega,by omega⟩;rw[Int.toNat_natCast];have ws:W64 (s.2.2.2.1.getD k 0):=hs _ (Zu (by omega) 0);refine⟨⟨by omega,by omega⟩,⟨hg,l0,l3,hw,hi,ik,ws⟩,?_⟩;rintro _ rfl;refine⟨⟨hg,ik⟩,?_⟩;rintro _ rfl;refine⟨⟨ws,Z1v7,Z1qf n k,pt⟩,?_⟩;rintro _ rfl;refine⟨⟨by omega,by omega⟩,?_⟩;rw[Z19 e5 (by omega),Zpm lk e5];refine⟨rfl,⟨k+1,rfl,by omega,?_⟩,by omega⟩;rw[List.range_succ,List.map_append,List.map_singleton]; rfl
 have e5:k=m:=by have:=of_decide_eq_false e5; omega
 subst e5;rw[Nat.sub_self,List.replicate_zero,List.append_nil];exact⟨⟨rfl,lk.symm⟩,rfl⟩
def Z9n:=λ(a b:Nat)(post:Nat × Unit->Prop)=>∃(h:True),∀ a_1,a_1=Zim (0:Int)->∀ a_2,a_2=a_1.1->Br (!a_2) (post (0,())) (∃(h:(0:Int)
 <= (0:Int)/\(0:Int)<(↑(4:Nat):Int)),∀ a_3,a_3=fcmp Go.BinOp.gtr (f64.format.order a (0:Nat))->Br a_3 (∀ a_4,a_4=fcmp Go.BinOp.gtr
 (f64.format.order b (0:Nat))->Br a_4 (∃(h:True),∀ a_5,a_5=Zfl a b->∃(h:True),post ((Zt a_5.1).1,())) (∀ a_5,a_5=fcmp Go.BinOp.lss
 (f64.format.order a (0:Nat))->Br a_5 (∀ a_6,a_6=fcmp Go.BinOp.lss (f64.format.order b (0:Nat))->Br a_6 (∃(h:True),∀ a_7,a_7=Zfl
 (Go.Op.negFloat f64 a) (Go.Op.negFloat f64 b)->∃(h:True),post ((Zt (Go.Op.negFloat f64 a_7.1)).1,())) (post (0,()))) (post (0,
 ())))) (∀ a_4,a_4=fcmp Go.BinOp.lss (f64.format.order a (0:Nat))->Br a_4 (∀ a_5,a_5=fcmp Go.BinOp.lss (f64.format.order b (0:Nat))->Br a_5 (∃
 (h:True),∀ a_6,a_6=Zfl (Go.Op.negFloat f64 a) (Go.Op.negFloat f64 b)->∃(h:True),post ((Zt (Go.Op.negFloat f64 a_6.1)).1,
 ())) (post (0,()))) (post (0,()))))
theorem Zxr(a:Nat)(b:Nat)(h:Zfk (0:Int) a b):Z9n  a b (λr=>r=Zfj (0:Int) a b):=by
 obtain⟨_,_,ha,hb⟩:=h;have k0:(0:Int)<=0:=by decide
 have k3:0<=(3:Int):=by decide
 refine⟨trivial,?_⟩;rintro _ rfl;rintro _ rfl;refine Br.intro (λe=>absurd e (by decide)) λ_=>?_;refine⟨⟨by decide,by decide⟩,?_⟩;rintro _ rfl;refine Br.intro (λe1=>?_) λe1=>?_
 ·rintro _ rfl;refine Br.intro (λe2=>?_) λe2=>?_
  ·refine⟨trivial,?_⟩;rintro _ rfl;refine⟨trivial,?_⟩;show(Z13 ((Zfl a b).1),())=r1 (Z1c 0 a b);rw[Zkd k0 k3 e1 e2]; rfl
  ·rintro _ rfl;refine Br.intro (λe3=>?_) λe3=>?_
   ·rintro _ rfl;refine Br.intro (λe4=>?_) λe4=>?_
    ·refine⟨trivial,?_⟩;rintro _ rfl;refine⟨trivial,?_⟩;show(Z13 (negF ((Zfl (negF a) (negF b)).1)),())=r1 (Z1c 0 a b);rw[Z7a k0 k3 (.inr e2) e3 e4]; rfl
    ·show((0:Nat),())=r1 (Z1c 0 a b);rw[Z2s k0 k3 (.inr e2) (.inr e4)]; rfl
   ·show((0:Nat),())=r1 (Z1c 0 a b);rw[Z2s k0 k3 (.inr e2) (.inl e3)]; rfl
 ·rintro _ rfl;refine Br.intro (λe3=>?_) λe3=>?_
  ·rintro _ rfl;refine Br.intro (λe4=>?_) λe4=>?_
   ·refine⟨trivial,?_⟩;rintro _ rfl;refine⟨trivial,?_⟩;show(Z13 (negF ((Zfl (negF a) (negF b)).1)),())=r1 (Z1c 0 a b);rw[Z7a k0 k3 (.inl e1) e3 e4]; rfl
   ·show((0:Nat),())=r1 (Z1c 0 a b);rw[Z2s k0 k3 (.inl e1) (.inr e4)]; rfl
  ·show((0:Nat),())=r1 (Z1c 0 a b);rw[Z2s k0 k3 (.inl e1) (.inl e3)]; rfl
def Z9o:=λ(a b:Nat)(post:Nat × Unit->Prop)=>∃(h:True),∀ a_1,a_1=Zim (1:Int)->∀ a_2,a_2=a_1.1->Br (!a_2) (post (0,())) (∃(h:(0:Int)
 <= (1:Int)/\(1:Int)<(↑(4:Nat):Int)),∀ a_3,a_3=fcmp Go.BinOp.gtr (f64.format.order a (0:Nat))->Br a_3 (∀ a_4,a_4=fcmp Go.BinOp.gtr
 (f64.format.order b (0:Nat))->Br a_4 (∃(h:W2 a b),∀ a_5,a_5=Zh9 a b->∃(h:True),post ((Zt a_5.1).1,())) (∀ a_5,a_5=fcmp Go.BinOp.lss
 (f64.format.order a (0:Nat))->Br a_5 (∀ a_6,a_6=fcmp Go.BinOp.lss (f64.format.order b (0:Nat))->Br a_6 (∃(h:W2 (Go.Op.negFloat
 f64 a) (Go.Op.negFloat f64 b)),∀ a_7,a_7=Zh9 (Go.Op.negFloat f64 a) (Go.Op.negFloat f64 b)->∃(h:True),post ((Zt
 (Go.Op.negFloat f64 a_7.1)).1,())) (post (0,()))) (post (0,())))) (∀ a_4,a_4=fcmp Go.BinOp.lss (f64.format.order a (0:Nat))->Br a_4 (∀ a_5,a_5
 = fcmp Go.BinOp.lss (f64.format.order b (0:Nat))->Br a_5 (∃(h:W2 (Go.Op.negFloat f64 a) (Go.Op.negFloat f64 b)),∀ a_6,a_6=Zh9
 (Go.Op.negFloat f64 a) (Go.Op.negFloat f64 b)->∃(h:True),post ((Zt (Go.Op.negFloat f64 a_6.1)).1,())) (post (0,()))) (post (0,
 ()))))
theorem Zxs(a:Nat)(b:Nat)(h:Zfk (1:Int) a b):Z9o  a b (λr=>r=Zfj (1:Int) a b):=by
 obtain⟨_,_,ha,hb⟩:=h;have k0:(0:Int)<=1:=by decide
 have k3:1<=(3:Int):=by decide
 refine⟨trivial,?_⟩;rintro _ rfl;rintro _ rfl;refine Br.intro (λe=>absurd e (by decide)) λ_=>?_;refine⟨⟨by decide,by decide⟩,?_⟩;rintro _ rfl;refine Br.intro (λe1=>?_) λe1=>?_
 ·rintro _ rfl;refine Br.intro (λe2=>?_) λe2=>?_
  ·refine⟨⟨ha,hb⟩,?_⟩;rintro _ rfl;refine⟨trivial,?_⟩;show(Z13 (minQ a b),())=r1 (Z1c 1 a b);rw[Zkd k0 k3 e1 e2]; rfl
  ·rintro _ rfl;refine Br.intro (λe3=>?_) λe3=>?_
   ·rintro _ rfl;refine Br.intro (λe4=>?_) λe4=>?_
    ·refine⟨⟨Zi7 ha,Zi7 hb⟩,?_⟩;rintro _ rfl;refine⟨trivial,?_⟩;show(Z13 (negF (minQ (negF a) (negF b))),())=r1 (Z1c 1 a b);rw[Z7a k0 k3 (.inr e2) e3 e4]; rfl
    ·show((0:Nat),())=r1 (Z1c 1 a b);rw[Z2s k0 k3 (.inr e2) (.inr e4)]; rfl
   ·show((0:Nat),())=r1 (Z1c 1 a b);rw[Z2s k0 k3 (.inr e2) (.inl e3)]; rfl
 ·rintro _ rfl;refine Br.intro (λe3=>?_) λe3=>?_
  ·rintro _ rfl;refine Br.intro (λe4=>?_) λe4=>?_
   ·refine⟨⟨Zi7 ha,Zi7 hb⟩,?_⟩;rintro _ rfl;refine⟨trivial,?_⟩;show(Z13 (negF (minQ (negF a) (negF b))),())=r1 (Z1c 1 a b);rw[Z7a k0 k3 (.inl e1) e3 e4]; rfl
   ·show((0:Nat),())=r1 (Z1c 1 a b);rw[Z2s k0 k3 (.inl e1) (.inr e4)]; rfl
  ·show((0:Nat),())=r1 (Z1c 1 a b);rw[Z2s k0 k3 (.inl e1) (.inl e3)]; rfl
def Z9p:=λ(a b:Nat)(post:Nat × Unit->Prop)=>∃(h:True),∀ a_1,a_1=Zim (2:Int)->∀ a_2,a_2=a_1.1->Br (!a_2) (post (0,())) (∃(h:(0:Int)
 <= (2:Int)/\(2:Int)<(↑(4:Nat):Int)),∀ a_3,a_3=fcmp Go.BinOp.gtr (f64.format.order a (0:Nat))->Br a_3 (∀ a_4,a_4=fcmp Go.BinOp.gtr
 (f64.format.order b (0:Nat))->Br a_4 (∃(h:Zei a b),∀ a_5,a_5=supR a b->∃(h:True),post ((Zt a_5.1).1,())) (∀ a_5,a_5=fcmp Go.BinOp.lss
 (f64.format.order a (0:Nat))->Br a_5 (∀ a_6,a_6=fcmp Go.BinOp.lss (f64.format.order b (0:Nat))->Br a_6 (∃(h:Zei (Go.Op.negFloat
 f64 a) (Go.Op.negFloat f64 b)),∀ a_7,a_7=supR (Go.Op.negFloat f64 a) (Go.Op.negFloat f64 b)->∃(h:True),post ((Zt
 (Go.Op.negFloat f64 a_7.1)).1,())) (post (0,()))) (post (0,())))) (∀ a_4,a_4=fcmp Go.BinOp.lss (f64.format.order a (0:Nat))->Br a_4 (∀ a_5,a_5
 = fcmp Go.BinOp.lss (f64.format.order b (0:Nat))->Br a_5 (∃(h:Zei (Go.Op.negFloat f64 a) (Go.Op.negFloat f64 b)),∀ a_6,a_6=supR
 (Go.Op.negFloat f64 a) (Go.Op.negFloat f64 b)->∃(h:True),post ((Zt (Go.Op.negFloat f64 a_6.1)).1,())) (post (0,()))) (post (0,
 ()))))
theorem Zxt(a:Nat)(b:Nat)(h:Zfk (2:Int) a b):Z9p  a b (λr=>r=Zfj (2:Int) a b):=by
 obtain⟨_,_,ha,hb⟩:=h;have k0:(0:Int)<=2:=by decide
 have k3:2<=(3:Int):=by decide
 refine⟨trivial,?_⟩;rintro _ rfl;rintro _ rfl;refine Br.intro (λe=>absurd e (by decide)) λ_=>?_;refine⟨⟨by decide,by decide⟩,?_⟩;rintro _ rfl;refine Br.intro (λe1=>?_) λe1=>?_
 ·rintro _ rfl;refine Br.intro (λe2=>?_) λe2=>?_
  ·refine⟨⟨Zkc ha e1,Zkc hb e2⟩,?_⟩;rintro _ rfl;refine⟨trivial,?_⟩;show(Z13 (maxQ (minQ (mulQ twoS a) b) (minQ a (mulQ twoS b))),())=r1 (Z1c 2 a b);rw[Zkd k0 k3 e1 e2]; rfl
  ·rintro _ rfl;refine Br.intro (λe3=>?_) λe3=>?_
   ·rintro _ rfl;refine Br.intro (λe4=>?_) λe4=>?_
    ·refine⟨⟨Zay ha e3,Zay hb e4⟩,?_⟩;rintro _ rfl;refine⟨trivial,?_⟩;show(Z13 (negF (maxQ (minQ (mulQ twoS (negF a)) (negF b)) (minQ (negF a) (mulQ twoS (negF b))))),())=r1 (Z1c 2 a b);rw[Z7a k0 k3 (.inr e2) e3 e4]; rfl
    ·show((0:Nat),())=r1 (Z1c 2 a b);rw[Z2s k0 k3 (.inr e2) (.inr e4)]; rfl
   ·show((0:Nat),())=r1 (Z1c 2 a b);rw[Z2s k0 k3 (.inr e2) (.inl e3)]; rfl
 ·rintro _ rfl;refine Br.intro (λe3=>?_) λe3=>?_
  ·rintro _ rfl;refine Br.intro (λe4=>?_) λe4=>?_
   ·refine⟨⟨Zay ha e3,Zay hb e4⟩,?_⟩;rintro _ rfl;refine⟨trivial,?_⟩;show(Z13 (negF (maxQ (minQ (mulQ twoS (negF a)) (negF b)) (minQ (negF a) (mulQ twoS (negF b))))),())=r1 (Z1c 2 a b);rw[Z7a k0 k3 (.inl e1) e3 e4]; rfl
   ·show((0:Nat),())=r1 (Z1c 2 a b);rw[Z2s k0 k3 (.inl e1) (.inr e4)]; rfl
  ·show((0:Nat),())=r1 (Z1c 2 a b);rw[Z2s k0 k3 (.inl e1) (.inl e3)]; rfl
def Z9q:=λ(a b:Nat)(post:Nat × Unit->Prop)=>∃(h:True),∀ a_1,a_1=Zim (3:Int)->∀ a_2,a_2=a_1.1->Br (!a_2) (post (0,())) (∃(h:(0:Int)
 <= (3:Int)/\(3:Int)<(↑(4:Nat):Int)),∀ a_3,a_3=fcmp Go.BinOp.gtr (f64.format.order a (0:Nat))->Br a_3 (∀ a_4,a_4=fcmp Go.BinOp.gtr
 (f64.format.order b (0:Nat))->Br a_4 (∃(h:Zei a b),∀ a_5,a_5=Z135 a b->∃(h:True),post ((Zt a_5.1).1,())) (∀ a_5,a_5=fcmp Go.BinOp.lss
 (f64.format.order a (0:Nat))->Br a_5 (∀ a_6,a_6=fcmp Go.BinOp.lss (f64.format.order b (0:Nat))->Br a_6 (∃(h:Zei (Go.Op.negFloat
 f64 a) (Go.Op.negFloat f64 b)),∀ a_7,a_7=Z135 (Go.Op.negFloat f64 a) (Go.Op.negFloat f64 b)->∃(h:True),post ((Zt
 (Go.Op.negFloat f64 a_7.1)).1,())) (post (0,()))) (post (0,())))) (∀ a_4,a_4=fcmp Go.BinOp.lss (f64.format.order a (0:Nat))->Br a_4 (∀ a_5,a_5
 = fcmp Go.BinOp.lss (f64.format.order b (0:Nat))->Br a_5 (∃(h:Zei (Go.Op.negFloat f64 a) (Go.Op.negFloat f64 b)),∀ a_6,a_6=Z135
 (Go.Op.negFloat f64 a) (Go.Op.negFloat f64 b)->∃(h:True),post ((Zt (Go.Op.negFloat f64 a_6.1)).1,())) (post (0,()))) (post (0,
 ()))))
theorem Zxu(a:Nat)(b:Nat)(h:Zfk (3:Int) a b):Z9q  a b (λr=>r=Zfj (3:Int) a b):=by
 obtain⟨_,_,ha,hb⟩:=h;have k0:(0:Int)<=3:=by decide
 have k3:3<=(3:Int):=by decide
 refine⟨trivial,?_⟩;rintro _ rfl;rintro _ rfl;refine Br.intro (λe=>absurd e (by decide)) λ_=>?_;refine⟨⟨by decide,by decide⟩,?_⟩;rintro _ rfl;refine Br.intro (λe1=>?_) λe1=>?_
 ·rintro _ rfl;refine Br.intro (λe2=>?_) λe2=>?_
  ·refine⟨⟨Zkc ha e1,Zkc hb e2⟩,?_⟩;rintro _ rfl;refine⟨trivial,?_⟩;show(Z13 (Zeh a b),())=r1 (Z1c 3 a b);rw[Zkd k0 k3 e1 e2]; rfl
  ·rintro _ rfl;refine Br.intro (λe3=>?_) λe3=>?_
   ·rintro _ rfl;refine Br.intro (λe4=>?_) λe4=>?_
    ·refine⟨⟨Zay ha e3,Zay hb e4⟩,?_⟩;rintro _ rfl;refine⟨trivial,?_⟩;show(Z13 (negF (Zeh (negF a) (negF b))),())=r1 (Z1c 3 a b);rw[Z7a k0 k3 (.inr e2) e3 e4]; rfl
    ·show((0:Nat),())=r1 (Z1c 3 a b);rw[Z2s k0 k3 (.inr e2) (.inr e4)]; rfl
   ·show((0:Nat),())=r1 (Z1c 3 a b);rw[Z2s k0 k3 (.inr e2) (.inl e3)]; rfl
 ·rintro _ rfl;refine Br.intro (λe3=>?_) λe3=>?_
  ·rintro _ rfl;refine Br.intro (λe4=>?_) λe4=>?_
   ·refine⟨⟨Zay ha e3,Zay hb e4⟩,?_⟩;rintro _ rfl;refine⟨trivial,?_⟩;show(Z13 (negF (Zeh (negF a) (negF b))),())=r1 (Z1c 3 a b);rw[Z7a k0 k3 (.inl e1) e3 e4]; rfl
   ·show((0:Nat),())=r1 (Z1c 3 a b);rw[Z2s k0 k3 (.inl e1) (.inr e4)]; rfl
  ·show((0:Nat),())=r1 (Z1c 3 a b);rw[Z2s k0 k3 (.inl e1) (.inl e3)]; rfl
def Zoa:=λ(u d l t:Nat)(post:Int × Unit->Prop)=>∀(a:Nat),FRes f64 (f64.format.mul u d) a->∀(a_1:Nat),FRes f64
 (f64.format.mul a l) a_1->∀(a:Nat),FRes f64 (f64.format.mul a_1 t) a->∀(a_2:Nat),FRes f64
 (f64.format.mul a 4742290407621132288) a_2->∃(h:Z132 a_2 4503599627370496),∀ a,a=Zu9 a_2 4503599627370496->post (a.1,())
theorem Z18o(u:Nat)(d:Nat)(l:Nat)(t:Nat)(h:W4 u d l t):Zoa  u d l t (λr=>r=Z1gd u d l t):=by
 intro x f1;have q1:=fmul f1;intro y f2;have q2:=fmul f2;intro z f3;have q3:=fmul f3;intro v f4;have q4:=fmul f4
 have e:Z8 v=mulQ (mulQ (mulQ (mulQ u d) l) t) Zk5:=by
  rw[q4.1];exact Z42 (by rw[q3.1,Z4c]; exact Z42 (by rw[q2.1,Z4c]; exact Z42 (by rw[q1.1,Z4c]) rfl) rfl) rfl
 refine⟨⟨q4.2,by decide,by decide⟩,?_⟩;rintro _ rfl;show(Z2f v 4503599627370496,())=r1 (Z2f _ 4503599627370496);rw[<- e,Zyk]; rfl
section
open Go.Proofs
def Z1b7:Cx:=⟨Z1v Z26,Z23 [(61,Zch),(237,Zb3),(238,Zb4),(239,Zb5),(158,Zcf),(99,Z4i),(153,Zdo)],SqG⟩
theorem Zvv:CxOk Tryz.prog Z1b7:=⟨Zn Z12,Zr ⟨Zkr,Zn6,Zn7,Zn8,Ziz,Z5h,Zn5,trivial⟩⟩
def Zla:Con:=Con.nam [.int .i64,.flt .f64,.flt .f64] [.snap (.flt .f64)] (λx=>Zfk x.1 x.2.1 x.2.2.1) (λx=>Zfj x.1 x.2.1 x.2.2.1)
def Z3o:Hn:={loops:=λ_=>none,joins:=λ_=>none,named:=true,inl:=inlL [203]}
abbrev Z1z:Cx:=Z1b7
theorem Zfy:CxOk Tryz.prog Z1z:=Zvv
theorem Z10g:FnAt Tryz.prog 156 Tryz.f156.ntmps Tryz.f156.results.toList (Tryz.f156.body.getD .skip):=⟨Tryz.f156,Tryz.func156,rfl,rfl,by simp,by decide⟩
theorem Zsv(a:Nat)(b:Nat)(post:Nat × Unit->Prop):Z4s Z1z Z3o (Z94 Z1z Z6d 6) Tryz.f156.ntmps Tryz.f156.results.toList (Tryz.f156.body.getD .skip) [.int .i64,.flt .f64,.flt .f64] [.snap (.flt .f64)] ((0:Int),a,b,()) post=Z9n  a b post:=by kernel_rfl
theorem Zsw(a:Nat)(b:Nat)(post:Nat × Unit->Prop):Z4s Z1z Z3o (Z94 Z1z Z6d 6) Tryz.f156.ntmps Tryz.f156.results.toList (Tryz.f156.body.getD .skip) [.int .i64,.flt .f64,.flt .f64] [.snap (.flt .f64)] ((1:Int),a,b,()) post=Z9o  a b post:=by kernel_rfl
theorem Zsx(a:Nat)(b:Nat)(post:Nat × Unit->Prop):Z4s Z1z Z3o (Z94 Z1z Z6d 6) Tryz.f156.ntmps Tryz.f156.results.toList (Tryz.f156.body.getD .skip) [.int .i64,.flt .f64,.flt .f64] [.snap (.flt .f64)] ((2:Int),a,b,()) post=Z9p  a b post:=by kernel_rfl
theorem Zsy(a:Nat)(b:Nat)(post:Nat × Unit->Prop):Z4s Z1z Z3o (Z94 Z1z Z6d 6) Tryz.f156.ntmps Tryz.f156.results.toList (Tryz.f156.body.getD .skip) [.int .i64,.flt .f64,.flt .f64] [.snap (.flt .f64)] ((3:Int),a,b,()) post=Z9q  a b post:=by kernel_rfl
noncomputable def Z6g(x:KS [.int .i64,.flt .f64,.flt .f64])(post:RS [.snap (.flt .f64)]->Prop):Prop:=ifK (x.1) (0) (Z9n  x.2.1 x.2.2.1 post) (ifK (x.1) (1) (Z9o  x.2.1 x.2.2.1 post) (ifK (x.1) (2) (Z9p  x.2.1 x.2.2.1 post) (ifK (x.1) (3) (Z9q  x.2.1 x.2.2.1 post) (Z4s Z1z Z3o (Z94 Z1z Z6d 6) Tryz.f156.ntmps Tryz.f156.results.toList (Tryz.f156.body.getD .skip) [.int .i64,.flt .f64,.flt .f64] [.snap (.flt .f64)] x post))))
theorem Z10h(x:KS [.int .i64,.flt .f64,.flt .f64])(post:RS [.snap (.flt .f64)]->Prop):Z4s Z1z Z3o (Z94 Z1z Z6d 6) Tryz.f156.ntmps Tryz.f156.results.toList (Tryz.f156.body.getD .skip) [.int .i64,.flt .f64,.flt .f64] [.snap (.flt .f64)] x post=Z6g x post:=by
 obtain⟨k,a,b,⟨⟩⟩:=x;unfold Z6g;by_cases q:k=(0:Int)
 ·subst q; exact(Zsv a b post).trans (Zuc rfl).symm
 refine Eq.trans ?_ (Zud q).symm;clear q;by_cases q:k=(1:Int)
 ·subst q; exact(Zsw a b post).trans (Zuc rfl).symm
 refine Eq.trans ?_ (Zud q).symm;clear q;by_cases q:k=(2:Int)
 ·subst q; exact(Zsx a b post).trans (Zuc rfl).symm
 refine Eq.trans ?_ (Zud q).symm;clear q;by_cases q:k=(3:Int)
 ·subst q; exact(Zsy a b post).trans (Zuc rfl).symm
 refine Eq.trans ?_ (Zud q).symm;clear q;rfl
theorem Z15e(k:Int)(a:Nat)(b:Nat)(h:Zfk k a b):Z6g (k,a,b,()) (λr=>r=Zfj k a b):=by
 obtain⟨k0,k1,_⟩:=id h;have k0:(0:Int)<=k:=k0;have k1:k<=(3:Int):=k1;unfold Z6g;by_cases q0:k=(0:Int)
 ·subst q0; exact Z13i rfl (Zxr  a b h )
 refine Zx0 q0 ?_;by_cases q1:k=(1:Int)
 ·subst q1; exact Z13i rfl (Zxs  a b h )
 refine Zx0 q1 ?_;by_cases q2:k=(2:Int)
 ·subst q2; exact Z13i rfl (Zxt  a b h )
 refine Zx0 q2 ?_;by_cases q3:k=(3:Int)
 ·subst q3; exact Z13i rfl (Zxu  a b h )
 refine Zx0 q3 ?_;omega
theorem Z15f:Zla.holds Tryz.prog SqG 156:=
 Z62 (Z1e2 Zfy Z5 Z3o (Z40 Zfy Z5 Z1bv 6) Z10g (F:=Z6g) Z10h λx h w=>Z15e x.1 x.2.1 x.2.2.1 h )
def Zlb:Con:=Con.nam [.flt .f64,.flt .f64,.flt .f64,.flt .f64] [.snap (.int .i64)] (λx=>W4 x.1 x.2.1 x.2.2.1 x.2.2.2.1) (λx=>Z1gd x.1 x.2.1 x.2.2.1 x.2.2.2.1)
theorem Z15g:SqH Zlb 69:=
 nP Zvv Z5 Zc ({loops:=Z11 [],joins:=λ_=>none,named:=true}) Tryz.func69 (λx p=>Zoa  x.1 x.2.1 x.2.2.1 x.2.2.2.1 p) λx h _=>Z18o  x.1 x.2.1 x.2.2.1 x.2.2.2.1 h
end
section
open Go.Proofs
def Z1b8:Cx:=⟨Z1v Z26,Z23 [(67,Zdp),(31,Z2d),(68,Zks),(77,Z3u),(32,Z21),(154,Zcj),(90,Z3a),(89,Z6f),(92,Z89),(156,Zla),(157,Ziy),(158,Zcf),(71,Zci),(69,Zlb)],SqG⟩
theorem Zco:CxOk Tryz.prog Z1b8:=⟨Zn Z12,Zr ⟨Znf,Z2q,Z149,Z4q,Z2c,Zq2,Z3t,Z88,Zcg,Z15f,Zuz,Ziz,Zq1,Z15g,trivial⟩⟩
def Zjd:Con:=Con.nam [.ptr Z25,Z6o,kSea] [.own 22 (.flt .f64),.snap (.int .i64)] (λx=>Zwy x.1 x.2.1 x.2.2.1) (λx=>Zax x.1 x.2.1 x.2.2.1)
theorem Z10i:SqH Zjd 24:=
 nPs Zco Z5 Zc ({loops:=Z11 [(7,{ls:=[(.slot 21,.data (.int .i64))],os:=[(2,22,.flt .f64)]})],joins:=λ_=>none,named:=true}) Tryz.func24 (λy p=>Zgq  y.1 y.2.1 p) (λz y p=>Zgr 25 29 22 z y.1 y.2.1 p) (λy h _=>Zxp  y.1 y.2.1 h) λz y h _=>Zxq 25 29 22 z y.1 y.2.1 h
def Zlc:Con:=Con.nam [.ptr Z25,.int .i64,kSea,.int .i64,.flt .f64] [.snap (.flt .f64)] (λx=>Z1gg x.1 x.2.1 x.2.2.1 x.2.2.2.1 x.2.2.2.2.1) (λx=>Zmi x.1 x.2.1 x.2.2.1 x.2.2.2.1 x.2.2.2.2.1)
theorem Z15h:SqH Zlc 70:=
 nPI Zco Z5 Zc ({loops:=λ_=>none,joins:=λ_=>none,named:=true,inl:=inlL [155]}) (Z40 Zco Z5 Z1gj 6) Tryz.func70 (λx p=>Zo9  x.1 x.2.1 x.2.2.1 x.2.2.2.1 x.2.2.2.2.1 p) λx h _=>Z18l  x.1 x.2.1 x.2.2.1 x.2.2.2.1 x.2.2.2.2.1 h
def Z1r3:Cx:=addC 70 Zlc Z1b8
theorem Z1hq:CxOk Tryz.prog Z1r3:=Zk Zco Z15h
def Zvw:Con:=Con.nam [.ptr Z25,Z6o,kSea] [.own 2 (.int .i64),.snap (.int .i64)] (λx=>Z1el x.1 x.2.1 x.2.2.1) (λx=>Zk9 x.1 x.2.1 x.2.2.1)
theorem Z1hr:SqH Zvw 25:=
 nPs Z1hq Z5 Zc ({loops:=Z11 [(7,{ls:=[(.slot 48,.data (.int .i64))],os:=[(2,2,.int .i64)]})],joins:=λ_=>none,named:=true}) Tryz.func25 (λy p=>Zrz  y.1 y.2.1 p) (λz y p=>Zgb 25 29 2 z y.1 y.2.1 p) (λy h _=>Z1dc  y.1 y.2.1 h) λz y h _=>Z1dd 25 29 2 z y.1 y.2.1 h
end
def Zs0:=λ(g:Option YG)(s f:List Int)(post:Bool × Unit->Prop)=>∃(h:True),∀ a,a=((↑s.length:Int) != (Zw g).1)->Br a (post (false,()))
 (∃(h:True),∀ a,a=((↑f.length:Int) != (Zp g).1)->Br a (post (false,())) (HS []/\∃(I:Int × Unit->Unit->Prop),∃(μ:Int × Unit->Unit->Nat),I (0,())
 ()/\∀(x:Int × Unit)(y:Unit),I x y->∀ a,a=decide (x.1<(↑s.length:Int))->Br a (∃(h:0<=x.1/\x.1<(↑s.length:Int)),∀ a,a=decide (s.getD x.1.toNat
 (0:Int)<0)->Br a (post (false,())) (HS []/\I (i64.wrap (x.1+1),()) ()/\μ (i64.wrap (x.1+1),()) ()<μ x y)) (HS []/\∃(I:Int × Unit->
 Unit->Prop),∃(μ:Int × Unit->Unit->Nat),I (0,()) ()/\∀(x:Int × Unit)(y:Unit),I x y->∀ a,a=decide (x.1<(↑f.length:Int))->Br a (∃(h:0<=x.1/\x.1
 < (↑f.length:Int)),∀ a,a=decide (f.getD x.1.toNat 0<(-4503599627370496:Int))->Br a (post (false,())) (∀ a,a=decide (f.getD x.1.toNat 0 >
 4503599627370496)->Br a (post (false,())) (HS []/\I (i64.wrap (x.1+1),()) ()/\μ (i64.wrap (x.1+1),()) ()<μ x y))) (post (true,
 ())))))
theorem Z1de(g:Option YG)(s:List Int)(f:List Int)(h:Z1mj g s f)(w:KS.wf [.ptr Z25,.slice (.int .i64),.slice (.int .i64)] (g,s,f,())):Zs0  g s f (λr=>r=Zih g s f):=by
 have ls:s.length<=maxN:=w.2.1.1;have lf:f.length<=maxN:=w.2.2.1.1;have hm:maxN<=9223372036854775806:=by decide
 have key:Zih g s f=(decide ((s.length:Int)=Zh g)&&decide ((f.length:Int)=Zi g)&&s.all (λx=>decide (0<=x))&&f.all Z27,()):=rfl;refine⟨trivial,?_⟩;rintro _ rfl;refine Br.intro (λe=>?_) λe=>?_
 ·have e:(s.length:Int)≠Zh g:=bne_iff_ne.1 e;rw[key,decide_eq_false e]; rfl
 have e:(s.length:Int)=Zh g:=by
  have e:((s.length:Int) != Zh g)=false:=e;simpa using e
 rw[decide_eq_true e,Bool.true_and]at key;refine⟨trivial,?_⟩;rintro _ rfl;refine Br.intro (λe2=>?_) λe2=>?_
 ·have e2:(f.length:Int)≠Zi g:=bne_iff_ne.1 e2;rw[key,decide_eq_false e2]; rfl
 have e2:(f.length:Int)=Zi g:=by
  have e2:((f.length:Int) != Zi g)=false:=e2;simpa using e2
 rw[decide_eq_true e2,Bool.true_and]at key;refine⟨rfl,λx _=>∃ k:Nat,x.1=k/\k<=s.length/\Zih g s f=((s.drop k).all (λx=>decide (0<=x))&&f.all Z27,()),λx _=>s.length - x.1.toNat,⟨0,rfl,by omega,key⟩,?_⟩;rintro⟨_,⟨⟩⟩ _ ⟨k,rfl,hk,hi⟩;dsimp only;rintro _ rfl;refine Br.intro (λg1=>?_) λg1=>?_
 ·have g1:k<s.length:=by have g1:(k:Int)<s.length:=of_decide_eq_true g1; omega
  rw[Z1km g1]at hi;refine⟨⟨by omega,by omega⟩,?_⟩;rw[Int.toNat_natCast,Z19 g1 (by omega)];rintro _ rfl;refine Br.intro (λz=>?_) λz=>?_
  ·have z:=of_decide_eq_true z;rw[hi,decide_eq_false (by omega)]; rfl
  ·have z:=of_decide_eq_false z;rw[decide_eq_true (p:=0<=s.getD k 0) (by omega),Bool.true_and]at hi;exact⟨rfl,⟨k+1,rfl,by omega,hi⟩,by omega⟩
 have g1:k=s.length:=by have g1:¬ (k:Int)<s.length:=of_decide_eq_false g1; omega
 subst g1;rw[List.drop_length]at hi;have hi:Zih g s f=(f.all Z27,()):=hi;refine⟨rfl,λx _=>∃ k:Nat,x.1=k/\k<=f.length/\Zih g s f=((f.drop k).all Z27,()),λx _=>f.length - x.1.toNat,⟨0,rfl,by omega,hi⟩,?_⟩;clear hi;rintro⟨_,⟨⟩⟩ _ ⟨k,rfl,hk,hi⟩;dsimp only;rintro _ rfl;refine Br.intro (λg2=>?_) λg2=>?_
 ·have g2:k<f.length:=by have g2:(k:Int)<f.length:=of_decide_eq_true g2; omega
  rw[Z1km g2]at hi;refine⟨⟨by omega,by omega⟩,?_⟩;rw[Int.toNat_natCast,Z19 g2 (by omega)];rintro _ rfl;refine Br.intro (λz=>?_) λz=>?_
  ·have z:=of_decide_eq_true z;rw[hi,show Z27 (f.getD k 0)=false by unfold Z27; rw[decide_eq_false (p:=-4503599627370496<=f.getD k 0) (by omega)]; rfl]; rfl
  have z:=of_decide_eq_false z;rintro _ rfl;refine Br.intro (λy=>?_) λy=>?_
  ·have y:=of_decide_eq_true y;rw[hi,show Z27 (f.getD k 0)=false by unfold Z27; rw[decide_eq_false (p:=f.getD k 0<=4503599627370496) (by omega),Bool.and_false]]; rfl
  ·have y:=of_decide_eq_false y;rw[show Z27 (f.getD k 0)=true from Z69.2 ⟨by omega,by omega⟩,Bool.true_and]at hi;exact⟨rfl,⟨k+1,rfl,by omega,hi⟩,by omega⟩
 have g2:k=f.length:=by have g2:¬ (k:Int)<f.length:=of_decide_eq_false g2; omega
 subst g2;rw[List.drop_length]at hi;rw[hi]; rfl
def Z1df(ty2:Nat)(f:List Int):List HObj:=[HObj.row Md.rw ty2 (K.int i64) (List.replicate f.length (0:Int))]
def Z1dg(ty2:Nat)(y:List Int × Unit)(ty119:Nat)(ty111:Nat):List HObj:=[HObj.row Md.rw ty2 (K.int i64) y.1,HObj.row Md.rw ty119 (K.int i64) (List.replicate (4:Nat) (0:Int)),HObj.row Md.rw ty111 (K.int i64) (List.replicate (4:Nat) (0:Int)),HObj.row Md.rw ty111 (K.int i64) (List.replicate (4:Nat) (0:Int))]
def Z1dh(ty2:Nat)(y:List Int × Unit)(ty119:Nat)(y_1:List Int × List Int × List Int × Unit)(x_3:Int × Unit)(f:List Int)(a:Int × Int × Unit)(ty111:Nat):List HObj:=[HObj.row Md.rw ty2 (K.int i64) y.1,HObj.row Md.rw ty119 (K.int i64) (y_1.1.set x_3.1.toNat (imax 0 (i64.wrap (f.getD a.1.toNat 0*a.2.1)))),HObj.row Md.rw ty111 (K.int i64) (y_1.2.1.set x_3.1.toNat a.1),HObj.row Md.rw ty111 (K.int i64) (y_1.2.2.1.set x_3.1.toNat a.2.1)]
def Z1di(ty2:Nat)(y:List Int × Unit)(ty119:Nat)(y_1:List Int × List Int × List Int × Unit)(ty111:Nat)(s:List Int)(x:Int × Unit):List HObj:=[HObj.row Md.rw ty2 (K.int i64) y.1,HObj.row Md.rw ty119 (K.int i64) y_1.1,HObj.row Md.rw ty111 (K.int i64) y_1.2.1,HObj.row Md.rw ty111 (K.int i64) y_1.2.2.1,HObj.row Md.rw ty2 (K.int i64) (cuR (s.getD x.1.toNat (0:Int)) (List.take ((↑(4:Nat):Int) - (0:Int)).toNat (List.drop (Int.toNat (0:Int)) y_1.1))).1]
def Z1dj(ty2:Nat)(y_2:List Int × Unit)(y_1:List Int × List Int × List Int × Unit)(x_7:Int × Unit)(s:List Int)(x:Int × Unit)(ty119:Nat)(ty111:Nat):List HObj:=[HObj.row Md.rw ty2 (K.int i64) (y_2.1.set ((0:Nat)+Int.toNat (y_1.2.1.getD x_7.1.toNat (0:Int))) (i64.wrap ((cuR (s.getD x.1.toNat (0:Int)) (List.take ((↑(4:Nat):Int) - (0:Int)).toNat (List.drop (Int.toNat (0:Int)) y_1.1))).1.getD ((0:Nat)+x_7.1.toNat) (0:Int)*y_1.2.2.1.getD x_7.1.toNat (0:Int)))),HObj.row Md.rw ty119 (K.int i64) y_1.1,HObj.row Md.rw ty111 (K.int i64) y_1.2.1,HObj.row Md.rw ty111 (K.int i64) y_1.2.2.1,HObj.row Md.rw ty2 (K.int i64) (cuR (s.getD x.1.toNat (0:Int)) (List.take ((↑(4:Nat):Int) - (0:Int)).toNat (List.drop (Int.toNat (0:Int)) y_1.1))).1]
def Z1dk(ty2:Nat)(y_2:List Int × Unit)(ty119:Nat)(y_1:List Int × List Int × List Int × Unit)(ty111:Nat)(s:List Int)(x:Int × Unit):List HObj:=[HObj.row Md.rw ty2 (K.int i64) y_2.1,HObj.row Md.rw ty119 (K.int i64) y_1.1,HObj.row Md.rw ty111 (K.int i64) y_1.2.1,HObj.row Md.rw ty111 (K.int i64) y_1.2.2.1,HObj.row Md.rw ty2 (K.int i64) (cuR (s.getD x.1.toNat (0:Int)) (List.take ((↑(4:Nat):Int) - (0:Int)).toNat (List.drop (Int.toNat (0:Int)) y_1.1))).1]
def Z1dl(ty2:Nat)(y_2:List Int × Unit):List HObj:=[HObj.row Md.rw ty2 (K.int i64) y_2.1]
def Zvx:=λ(ty2 ty119 ty111:Nat)(g:Option YG)(s f:List Int)(post:List Int × Int × Unit->Prop)=>Br g.isNone (post ([],2,())) (∃(h:Z1mj g s f),∀ a,a
 = (Zih g s f).1->Br (!a) (post ([],1,())) (∃(h:(0:Int)<=(↑f.length:Int)/\(↑f.length:Int)<=(↑f.length:Int)/\(↑f.length:Int)*(↑(8:Nat):Int)<=
 (281474976710656:Int)),HS (Z1df ty2 f)/\∃(I:Int × Unit->List Int × Unit->Prop),∃(μ:Int × Unit->List Int × Unit->Nat),I (0,()) (List.replicate f.length (0
 : Int),())/\∀(x:Int × Unit)(y:List Int × Unit),I x y->∀ a,a=decide (x.1<(↑s.length:Int))->Br a (∃(h:(0:Int)<=x.1/\x.1<(↑s.length:Int)),HS
 (Z1dg ty2 y ty119 ty111)/\∃(I_1:Int × Unit->List Int × List Int × List Int × Unit->Prop),∃(μ_1:Int × Unit->List Int × List Int × List Int × Unit->Nat),I_1
 (0,()) (List.replicate (4:Nat) (0:Int),List.replicate (4:Nat) (0:Int),List.replicate (4:Nat) (0:Int),())/\∀(x_3:Int × Unit)(y_1:List Int × List Int × List
 Int × Unit),I_1 x_3 y_1->∀ a,a=decide (x_3.1<(4:Int))->Br a (∃(h:WNet g x.1 x_3.1),∀ a,a=Z4x g x.1 x_3.1->∃(h:(0:Int)<=x_3.1/\x_3.1<(↑(4:Nat):
 Int)/\(4:Nat)<=y_1.2.1.length),∃(h:(0:Int)<=x_3.1/\x_3.1<(↑(4:Nat):Int)/\(4:Nat)<=y_1.2.2.1.length),∃(h:(0:Int)<=a.1/\a.1<(↑f.length:Int)),∃(h
 : (0:Int)<=x_3.1/\x_3.1<(↑(4:Nat):Int)/\(4:Nat)<=y_1.1.length),HS (Z1dh ty2 y ty119 y_1 x_3 f a ty111)/\I_1 (i64.wrap (x_3.1+1),()) (y_1.1.set
 x_3.1.toNat (imax (0:Int) (i64.wrap (f.getD a.1.toNat (0:Int)*a.2.1))),y_1.2.1.set x_3.1.toNat a.1,y_1.2.2.1.set x_3.1.toNat a.2.1,())/\μ_1 (i64.wrap
 (x_3.1+1),()) (y_1.1.set x_3.1.toNat (imax (0:Int) (i64.wrap (f.getD a.1.toNat (0:Int)*a.2.1))),y_1.2.1.set x_3.1.toNat a.1,y_1.2.2.1.set x_3.1.toNat a.2.1,())
 < μ_1 x_3 y_1) (∃(h:(0:Int)<=(0:Int)/\(0:Int)<=(↑(4:Nat):Int)/\(↑(4:Nat):Int)<=(↑(4:Nat):Int)/\(4:Nat)=y_1.1.length),∃(h:WCu (s.getD x.1.toNat
 (0:Int)) (List.take ((↑(4:Nat):Int) - (0:Int)).toNat (List.drop (Int.toNat (0:Int)) y_1.1))),∀ a,a=((cuR (s.getD x.1.toNat (0:Int)) (List.take ((↑(4:Nat):Int)
 - (0:Int)).toNat (List.drop (Int.toNat (0:Int)) y_1.1))).2.1 != (0:Int))->Br a (post ([],(cuR (s.getD x.1.toNat (0:Int)) (List.take ((↑(4:Nat):Int) - (0:
 Int)).toNat (List.drop (Int.toNat (0:Int)) y_1.1))).2.1,())) (HS (Z1di ty2 y ty119 y_1 ty111 s x)/\∃(I_2:Int × Unit->List Int × Unit->Prop),∃(μ_2:Int × Unit
 -> List Int × Unit->Nat),I_2 (0,()) (y.1,())/\∀(x_7:Int × Unit)(y_2:List Int × Unit),I_2 x_7 y_2->∀ a,a=decide (x_7.1<(4:Int))->Br a (∃(h:(0:Int)<=x_7.1
 /\ x_7.1<(↑(4:Nat):Int)/\(4:Nat)<=y_1.1.length),∀ a,a=decide (y_1.1.getD x_7.1.toNat (0:Int) > (0:Int))->Br a (∃(h:(0:Int)<=x_7.1/\x_7.1<(↑(4:Nat):
 Int)/\(4:Nat)<=y_1.2.1.length),∃(h:(0:Int)<=x_7.1/\x_7.1<(↑(cuR (s.getD x.1.toNat (0:Int)) (List.take ((↑(4:Nat):Int) - (0:Int)).toNat (List.drop (Int.toNat
 (0:Int)) y_1.1))).1.length:Int)),∃(h:(0:Int)<=x_7.1/\x_7.1<(↑(4:Nat):Int)/\(4:Nat)<=y_1.2.2.1.length),∃(h:(0:Int)<=y_1.2.1.getD x_7.1.toNat (0:Int)
 /\ y_1.2.1.getD x_7.1.toNat (0:Int)<(↑f.length:Int)),HS (Z1dj ty2 y_2 y_1 x_7 s x ty119 ty111)/\I_2 (i64.wrap (x_7.1+1),()) (y_2.1.set ((0:Nat)+
 Int.toNat (y_1.2.1.getD x_7.1.toNat (0:Int))) (i64.wrap ((cuR (s.getD x.1.toNat (0:Int)) (List.take ((↑(4:Nat):Int) - (0:Int)).toNat (List.drop (Int.toNat (0:
 Int)) y_1.1))).1.getD ((0:Nat)+x_7.1.toNat) (0:Int)*y_1.2.2.1.getD x_7.1.toNat (0:Int))),())/\μ_2 (i64.wrap (x_7.1+1),()) (y_2.1.set ((0:Nat)+Int.toNat
 (y_1.2.1.getD x_7.1.toNat (0:Int))) (i64.wrap ((cuR (s.getD x.1.toNat (0:Int)) (List.take ((↑(4:Nat):Int) - (0:Int)).toNat (List.drop (Int.toNat (0:Int))
 y_1.1))).1.getD ((0:Nat)+x_7.1.toNat) (0:Int)*y_1.2.2.1.getD x_7.1.toNat (0:Int))),())<μ_2 x_7 y_2) (HS (Z1dk ty2 y_2 ty119 y_1 ty111 s x)/\I_2
 (i64.wrap (x_7.1+1),()) (y_2.1,())/\μ_2 (i64.wrap (x_7.1+1),()) (y_2.1,())<μ_2 x_7 y_2)) (HS (Z1dl ty2 y_2)/\I (i64.wrap (x.1+1),
 ()) (y_2.1,())/\μ (i64.wrap (x.1+1),()) (y_2.1,())<μ x y)))) (((0:Nat)=(0:Nat)/\f.length=y.1.length)/\post (y.1,0,()))))
theorem Z1hs(ty0 ty1 ty2:Nat)(g:Option YG)(s:List Int)(f:List Int)(h:WAll g s f)(w:KS.wf [.ptr Z25,.slice (.int .i64),.slice (.int .i64)] (g,s,f,())):Zvx ty0 ty1 ty2 g s f (λr=>r=Zpb g s f):=by
 obtain⟨hg,hs,hf0⟩:=h
 cases g with
 | none=>exact Br.intro (λ_=>rfl) λe=>by cases e
 | some g=>
 obtain⟨n,gn,rfl⟩:=Z4o hg;refine Br.intro (λe=>by cases e) λ_=>?_;refine⟨⟨hs,hf0⟩,?_⟩;rintro _ rfl;have A:=Z7s n;have hAr:∀ c o,Z4x (some (netG n)) c o=((Z15 (some (netG n)) c o).1,(Z15 (some (netG n)) c o).2,()):=λ_ _=>rfl
 have hres:∀ b,Za4 (Zh (some (netG n))) (Zi (some (netG n))) s f=b->Zpb (some (netG n)) s f=if b then(allP (Z15 (some (netG n))) f (cutG (Z15 (some (netG n))) s f) s.length,0,())else([],1,()):=by
  rintro _ rfl;unfold Zpb Zfe;rw[show(some (netG n)).isNone=false from rfl,if_neg (by decide)];split <;> rfl
 refine Br.intro (λe=>?_) λe=>?_
 ·have e:Za4 (Zh (some (netG n))) (Zi (some (netG n))) s f=false:=by
   have e:(!Za4 (Zh (some (netG n))) (Zi (some (netG n))) s f)=true:=e;simpa using e
  rw[hres _ e]; rfl
 have e:Za4 (Zh (some (netG n))) (Zi (some (netG n))) s f=true:=by
  have e:(!Za4 (Zh (some (netG n))) (Zi (some (netG n))) s f)=false:=e;simpa using e
 rw[hres _ e,if_pos rfl];obtain⟨h1,h2,h3,h4⟩:=Z1g8 e;clear hres e;have cr:=Z2p n;have hE:=(Zas n (Z2 n).toNat (by omega)).2;have hE:(netE n).1.length<=4*(Z2 n).toNat:=hE;generalize Z15 (some (netG n))=ar at *;obtain⟨gv,hgv⟩:∃ gv,cutG ar s f=gv:=⟨_,rfl⟩;rw[hgv];refine⟨⟨by omega,by omega,by omega⟩,rfl,λx y=>∃ k:Nat,x.1=k/\k<=s.length/\y.1=allP ar f gv k,λx _=>s.length - x.1.toNat,⟨0,rfl,by omega,rfl⟩,?_⟩;rintro⟨_,⟨⟩⟩ ⟨_,⟨⟩⟩ ⟨k,rfl,hk,rfl⟩;dsimp only;rintro _ rfl;refine Br.intro (λd=>?_) λd=>?_
 rotate_left
 ·have d:k=s.length:=by have d:¬ (k:Int)<s.length:=of_decide_eq_false d; omega
  have hlen:(allP ar f gv k).length=f.length:=(Zfg A h4 h2 k (by omega)).1.trans h2.symm;exact⟨⟨rfl,hlen.symm⟩,by rw[d]⟩
 have d:k<s.length:=by have d:(k:Int)<s.length:=of_decide_eq_true d; omega
 have hp:Ze n (k:Int)=true:=Z3r (by omega);refine⟨⟨by omega,by omega⟩,rfl,λx y=>∃ j:Nat,x.1=j/\j<=4/\y.1=Zjz j (outN ar f k)/\y.2.1=Zjz j (λo=>(ar k o).1)/\y.2.2.1=Zjz j (λo=>(ar k o).2),λx _=>4 - x.1.toNat,⟨0,rfl,by omega,rfl,rfl,rfl⟩,?_⟩;rintro⟨_,⟨⟩⟩ ⟨_,_,_,⟨⟩⟩ ⟨j,rfl,hj,rfl,rfl,rfl⟩;dsimp only;rintro _ rfl;refine Br.intro (λe1=>?_) λe1=>?_
 ·have e1:j<4:=by have e1:(j:Int)<4:=of_decide_eq_true e1; omega
  refine⟨⟨hg,⟨by omega,by omega⟩,by omega,by omega⟩,?_⟩;rintro _ rfl;obtain⟨s1,s2,s3,s4,s5⟩:=Zh7 A h4 h2 (c:=k) (o:=j) (Zd.2 ⟨hp,by omega,by omega⟩);rw[hAr];dsimp only;rw[Z19 e1 (by omega),Zy (by omega) (by omega),Int.toNat_natCast];exact⟨⟨by omega,by show(j:Int)<4; omega,Nat.le_refl 4⟩,⟨by omega,by show(j:Int)<4; omega,Nat.le_refl 4⟩,⟨s1,s2⟩,⟨by omega,by show(j:Int)<4; omega,Nat.le_refl 4⟩,rfl,⟨j+1,rfl,by omega,Zk0 e1 (outN ar f k),Zk0 e1 (λo=>(ar k o).1),Zk0 e1 (λo=>(ar k o).2)⟩,by omega⟩
 have e1:j=4:=by have e1:¬ (j:Int)<4:=of_decide_eq_false e1; omega
 subst e1;have f4:∀ g,Zjz 4 g=four g:=λg=>rfl;rw[f4,f4,f4];have hw0:0<=s.getD k 0:=h3 _ (Zu d 0);obtain⟨c1,c2,c3⟩:=Z1ad A h4 (w:=s.getD k 0) hw0 hp
 have hc:cuR (s.getD k 0) (four (outN ar f k))=(Z1y (s.getD k 0) (Z1e ar f k),0,()):=by
  show((cutF (s.getD k 0) (Z1e ar f k)).1,(cutF (s.getD k 0) (Z1e ar f k)).2,())=_;rw[c1]
 have hgk:gv k=Z1y (s.getD k 0) (Z1e ar f k):=by rw[<- hgv]; exact congrArg Prod.fst c1
 obtain⟨o1,o2,o3⟩:=Zws (Zat A h4 hp);rw[Z1ac,Int.toNat_natCast,hc];refine⟨⟨by decide,by decide,by decide,rfl⟩,⟨hs _ (Zu d 0),o2,o3⟩,?_⟩;rintro _ rfl;refine Br.intro (λq=>by simp at q) λ_=>?_;refine⟨rfl,λx y=>∃ j:Nat,x.1=j/\j<=4/\y.1=Zeg ar f (gv k) k (allP ar f gv k) j,λx _=>4 - x.1.toNat,⟨0,rfl,by omega,rfl⟩,?_⟩;rintro⟨_,⟨⟩⟩ ⟨_,⟨⟩⟩ ⟨i,rfl,hi,rfl⟩;dsimp only;rintro _ rfl;refine Br.intro (λe2=>?_) λe2=>?_
 rotate_left
 ·have e2:i=4:=by have e2:¬ (i:Int)<4:=of_decide_eq_false e2; omega
  subst e2;rw[Z19 d (by omega)];exact⟨rfl,⟨k+1,rfl,by omega,rfl⟩,by omega⟩
 have e2:i<4:=by have e2:(i:Int)<4:=of_decide_eq_true e2; omega
 obtain⟨s1,s2,s3,s4,s5⟩:=Zh7 A h4 h2 (c:=k) (o:=i) (Zd.2 ⟨hp,by omega,by omega⟩);obtain⟨g1,g2⟩:=c3 i e2;have g3:=(Zat A h4 hp i e2).2;rw[Int.toNat_natCast,Zab e2,Zab e2,Zab e2,Nat.zero_add,Z19 e2 (by omega)];have hst:Zeg ar f (gv k) k (allP ar f gv k) (i+1)=putP ar f (gv k) k i (Zeg ar f (gv k) k (allP ar f gv k) i):=rfl;refine⟨⟨by omega,by show(i:Int)<4; omega,Nat.le_refl 4⟩,?_⟩;rintro _ rfl;refine Br.intro (λz=>?_) λz=>?_
 ·have z:0<outN ar f k i:=of_decide_eq_true z
  have hm2:i64.wrap ((Z1y (s.getD k 0) (Z1e ar f k)).getD i 0*(ar k i).2)=(Z1y (s.getD k 0) (Z1e ar f k)).getD i 0*(ar k i).2:=by
   rcases s3 with q | q <;> rw[q] <;> exact Zy (by omega) (by omega)
  rw[Nat.zero_add,hm2];refine⟨⟨by omega,by show(i:Int)<4; omega,Nat.le_refl 4⟩,⟨by omega,by rw[c2]; omega⟩,⟨by omega,by show(i:Int)<4; omega,Nat.le_refl 4⟩,⟨s1,s2⟩,rfl,⟨i+1,rfl,by omega,?_⟩,by omega⟩;rw[hst]; unfold putP; rw[if_pos z,hgk,Int.toNat_natCast]
 ·have z:¬ 0<outN ar f k i:=of_decide_eq_false z;exact⟨rfl,⟨i+1,rfl,by omega,by rw[hst]; unfold putP; rw[if_neg z]⟩,by omega⟩
def Z1dm(ty2:Nat)(c:List Int):List HObj:=[HObj.row Md.rw ty2 (K.int i64) (List.replicate c.length (0:Int))]
def Zs1(ty2:Nat)(y:List Int × Unit):List HObj:=[HObj.row Md.rw ty2 (K.int i64) y.1]
def Z1dn(ty2:Nat)(y:List Int × Unit)(x_2:Int × Unit)(x:Int × Unit):List HObj:=[HObj.row Md.rw ty2 (K.int i64) (y.1.set (0+x_2.1.toNat) x.1)]
def Zcp:=λ(ty2:Nat)(a:Int)(c:List Int)(post:List Int × Int × Unit->Prop)=>Br (decide (a<(0:Int))) (post ([],1,())) (HS []/\∃(I:Int × Int × Unit
 -> Unit->Prop),∃(μ:Int × Int × Unit->Unit->Nat),I (0,0,()) ()/\∀(x:Int × Int × Unit)(y:Unit),I x y->Br (decide (x.2.1<(↑c.length:Int))) (∃(h:(0:Int)<=
 x.2.1/\x.2.1<(↑c.length:Int)),Br (decide (c.getD x.2.1.toNat (0:Int)<(0:Int))) (post ([],1,())) (Br (decide (c.getD x.2.1.toNat (0:Int) > i64.wrap
 ((9223372036854775807:Int) - x.1))) (post ([],1,())) (∀ m,m=i64.wrap (x.1+c.getD x.2.1.toNat (0:Int))->HS []/\I (m,i64.wrap (x.2.1+1),()) ()/\μ
 (m,i64.wrap (x.2.1+1),()) ()<μ x y))) (∃(h:(0:Int)<=(↑c.length:Int)/\(↑c.length:Int)<=(↑c.length:Int)/\(↑c.length:Int)*(↑(8:Nat):Int)<=
 (281474976710656:Int)),HS (Z1dm ty2 c)/\∃(I:Int × Unit->List Int × Unit->Prop),∃(μ:Int × Unit->List Int × Unit->Nat),I (0,()) (List.replicate c.length (0
 : Int),())/\∀(x_2:Int × Unit)(y:List Int × Unit),I x_2 y->Br (decide (x_2.1<(↑c.length:Int))) (∃(h:(0:Int)<=x_2.1/\x_2.1<(↑c.length:Int)),∃(post:Int ×
 Unit->Unit->Prop),Br (decide (x.1 > a)) (∃(h:III (c.getD x_2.1.toNat (0:Int)) a x.1),HS (Zs1 ty2 y)/\post ((prtR (c.getD x_2.1.toNat (0:Int)) a x.1).1,())
 ()) (HS (Zs1 ty2 y)/\post (c.getD x_2.1.toNat (0:Int),()) ())/\∀(x:Int × Unit)(y_1:Unit),post x y_1->∃(h:(0:Int)<=x_2.1/\x_2.1<(↑c.length:Int)),
 HS (Z1dn ty2 y x_2 x)/\I (i64.wrap (x_2.1+1),()) (y.1.set ((0:Nat)+x_2.1.toNat) x.1,())/\μ (i64.wrap (x_2.1+1),()) (y.1.set ((0:Nat)+
 x_2.1.toNat) x.1,())<μ x_2 y) (((0:Nat)=(0:Nat)/\c.length=y.1.length)/\post (y.1,0,()))))
theorem Z1ht(ty0:Nat)(a:Int)(c:List Int)(h:WCu a c):Zcp ty0 a c (λr=>r=cuR a c):=by
 obtain⟨ha,hc,hl⟩:=h;have hl:c.length<=65536:=hl;have hc:∀ x ∈ c,I64 x:=hc
 suffices H:∀ post:List Int × Int × Unit->Prop,post ((cutF a c).1,(cutF a c).2,())->Zcp ty0 a c post from H _ rfl
 intro post h;unfold Zcp;refine Br.intro (λe=>?_) λe=>?_
 all_goals simp only[decide_eq_true_eq,decide_eq_false_iff_not,Int.not_lt]at e
 ·rw[Z1so e]at h; exact h
 ·refine⟨rfl,λx y=>∃ i:Nat,x.2.1=i/\i<=c.length/\okTo 9223372036854775807 c i/\x.1=psum c i,λx _=>c.length - x.2.1.toNat,⟨0,rfl,by omega,Z1a1 _ c,(Z4n c).symm⟩,?_⟩;rintro⟨sum,_,⟨⟩⟩ ⟨⟩ ⟨i,hi,hil,hok,hg⟩;dsimp only at hi hg ⊢;subst hi hg;have p0:=Z9x hok hil;have p1:=Zmh (by omega) hok;refine Br.intro (λd=>?_) λd=>?_
  all_goals simp only[decide_eq_true_eq,decide_eq_false_iff_not,Int.not_lt]at d
  ·have hlt:i<c.length:=by omega
   have hs:=Z46 c i hlt;have hx:I64 (c.getD i 0):=hc _ (Zi5 hlt);obtain⟨x1,x2⟩:=hx;refine⟨⟨by omega,d⟩,?_⟩;simp only[Int.toNat_natCast];rw[wi (x:=9223372036854775807 - psum c i) ⟨by omega,by omega⟩];refine Br.intro (λg=>?_) λg=>Br.intro (λg'=>?_) λg'=>?_
   all_goals simp only[decide_eq_true_eq,decide_eq_false_iff_not,Int.not_lt,gt_iff_lt]at g
   ·rw[Z1g5 hlt (by omega)]at h; exact h
   ·simp only[decide_eq_true_eq,gt_iff_lt]at g';rw[Z1g5 hlt (by omega)]at h; exact h
   ·simp only[decide_eq_false_iff_not,Int.not_lt,gt_iff_lt]at g';rintro m hm;rw[<- hs,wi (x:=psum c (i+1)) ⟨by omega,by omega⟩]at hm;subst hm;refine⟨rfl,⟨i+1,?_,by omega,Z1a2 hok g (by omega),rfl⟩,?_⟩
    ·rw[wi ⟨by omega,by omega⟩]; omega
    ·rw[wi ⟨by omega,by omega⟩]; omega
  ·have:i=c.length:=by omega
   subst this;rw[Z1kk e hok]at h;refine⟨⟨by omega,by omega,by omega⟩,rfl,λx y=>∃ i:Nat,x.1=i/\i<=c.length/\y.1=Z6u 0 (Z1y a c) i,λx _=>c.length - x.1.toNat,⟨0,rfl,by omega,?_⟩,?_⟩
   ·rw[Zy9,Z9a]
   ·rintro⟨_,⟨⟩⟩ ⟨y,⟨⟩⟩ ⟨i,hi,hil,hy⟩;dsimp only at hi hy ⊢;subst hi hy;refine Br.intro (λd=>?_) λd=>?_
    all_goals simp only[decide_eq_true_eq,decide_eq_false_iff_not,Int.not_lt]at d
    ·have hlt:i<c.length:=by omega
     simp only[Int.toNat_natCast];refine⟨⟨by omega,d⟩,λx _=>(Z1y a c)[i]?=some x.1,Br.intro (λg=>?_) λg=>?_,?_⟩
     all_goals try simp only[decide_eq_true_eq,decide_eq_false_iff_not,Int.not_lt]at g
     ·refine⟨⟨hc _ (Zi5 hlt),ha,by omega,by omega⟩,rfl,?_⟩;rw[Zh6 a c i hlt,if_pos g]
      try rfl
     ·refine⟨rfl,?_⟩;rw[Zh6 a c i hlt,if_neg (by omega)]
     ·rintro⟨x,⟨⟩⟩ _ hx;refine⟨⟨by omega,d⟩,rfl,⟨i+1,?_,by omega,?_⟩,?_⟩
      ·rw[wi ⟨by omega,by omega⟩]; omega
      ·rw[Nat.zero_add];exact Z125 0 _ i (by rw[Z9a]; exact hlt) hx
      ·rw[wi ⟨by omega,by omega⟩]; omega
    ·have:i=c.length:=by omega
     subst this;have e2:=Z124 0 (Z1y a c);rw[Z9a]at e2;rw[e2,Z9a];exact⟨⟨by trivial,by trivial⟩,h⟩
def Z10j(ty2:Nat)(c:List Int):List HObj:=[HObj.row Md.rw ty2 (K.int i64) (List.replicate c.length (0:Int))]
def Z10k(ty2:Nat)(y:List Int × Unit)(x:Int × Int × Int × Unit)(m_1:Int):List HObj:=[HObj.row Md.rw ty2 (K.int i64) (y.1.set (0+x.2.2.1.toNat) (i64.wrap (m_1 - x.2.1)))]
def Z8b:=λ(ty2:Nat)(a b:Int)(c:List Int)(post:List Int × Int × Unit->Prop)=>Br (decide (a<(0:Int))) (post ([],1,())) (Br (decide (b<(0:
 Int))) (post ([],1,())) (∃(h:(0:Int)<=(↑c.length:Int)/\(↑c.length:Int)<=(↑c.length:Int)/\(↑c.length:Int)*(↑(8:Nat):Int)<=(281474976710656:Int)),HS
 (Z10j ty2 c)/\∃(I:Int × Int × Int × Unit->List Int × Unit->Prop),∃(μ:Int × Int × Int × Unit->List Int × Unit->Nat),I (0,0,0,()) (List.replicate
 c.length (0:Int),())/\∀(x:Int × Int × Int × Unit)(y:List Int × Unit),I x y->Br (decide (x.2.2.1<(↑c.length:Int))) (∃(h:(0:Int)<=x.2.2.1/\x.2.2.1 <
 (↑c.length:Int)),Br (decide (c.getD x.2.2.1.toNat (0:Int)<(0:Int))) (post ([],1,())) (Br (decide (c.getD x.2.2.1.toNat (0:Int) > i64.wrap (a - x.1))) (post
 ([],1,())) (∀ m,m=i64.wrap (x.1+c.getD x.2.2.1.toNat (0:Int))->∃(h:III b m a),∀ m_1,m_1=(prtR b m a).1->∃(h:(0:Int)<=x.2.2.1/\x.2.2.1<(↑c.length
 : Int)),HS (Z10k ty2 y x m_1)/\I (m,m_1,i64.wrap (x.2.2.1+1),()) (y.1.set ((0:Nat)+x.2.2.1.toNat) (i64.wrap (m_1 - x.2.1)),())/\μ (m,m_1,
 i64.wrap (x.2.2.1+1),()) (y.1.set ((0:Nat)+x.2.2.1.toNat) (i64.wrap (m_1 - x.2.1)),())<μ x y))) (((0:Nat)=(0:Nat)/\c.length=y.1.length)/\post
 (y.1,0,()))))
theorem Z15i(ty0:Nat)(a:Int)(b:Int)(c:List Int)(h:WTk a b c):Z8b ty0 a b c (λr=>r=tkR a b c):=by
 obtain⟨ha,hb,hc,hl⟩:=h;have hl:c.length<=65536:=hl;have hc:∀ x ∈ c,I64 x:=hc
 suffices H:∀ post:List Int × Int × Unit->Prop,post ((Z2v a b c).1,(Z2v a b c).2,())->Z8b ty0 a b c post from H _ rfl
 intro post h;unfold Z8b;refine Br.intro (λe=>?_) λe=>Br.intro (λf=>?_) λf=>?_
 all_goals simp only[decide_eq_true_eq,decide_eq_false_iff_not,Int.not_lt]at *
 ·rw[Zye e]at h; exact h
 ·rw[Zyf f]at h; exact h
 ·refine⟨⟨by omega,by omega,by omega⟩,rfl,λx y=>∃ i:Nat,x.2.2.1=i/\i<=c.length/\okTo a c i/\x.1=psum c i/\x.2.1=part b (psum c i) a/\y.1=Z6u 0 (Z2a a b c) i,
   λx _=>c.length - x.2.2.1.toNat,?_,?_⟩
  ·refine⟨0,rfl,by omega,Z1a1 a c,(Z4n c).symm,?_,?_⟩
   ·dsimp only; rw[Z4n,Z1a0]
   ·rw[Zy9,Z5n]
  ·rintro⟨gone,ahead,_,⟨⟩⟩ ⟨y,⟨⟩⟩ ⟨i,hi,hil,hok,hg,ha',hy⟩;dsimp only at hi hg ha' hy ⊢;subst hi hg ha' hy;have p0:=Z9x hok hil;have p1:=Zmh e hok;obtain⟨a1,a2⟩:=ha;refine Br.intro (λd=>?_) λd=>?_
   all_goals simp only[decide_eq_true_eq,decide_eq_false_iff_not,Int.not_lt]at d
   ·have hlt:i<c.length:=by omega
    have hs:=Z46 c i hlt;have hx:I64 (c.getD i 0):=hc _ (Zi5 hlt);refine⟨⟨by omega,d⟩,?_⟩;simp only[Int.toNat_natCast];rw[wi (x:=a - psum c i) ⟨by omega,by omega⟩];refine Br.intro (λg=>?_) λg=>Br.intro (λg'=>?_) λg'=>?_
    all_goals simp only[decide_eq_true_eq,decide_eq_false_iff_not,Int.not_lt,gt_iff_lt]at g
    ·rw[Z12u hlt (by omega)]at h; exact h
    ·simp only[decide_eq_true_eq,gt_iff_lt]at g';rw[Z12u hlt (by omega)]at h; exact h
    ·simp only[decide_eq_false_iff_not,Int.not_lt,gt_iff_lt]at g';rintro m hm;rw[<- hs,wi (x:=psum c (i+1)) ⟨by omega,by omega⟩]at hm;subst hm;refine⟨⟨hb,⟨by omega,by omega⟩,a1,a2⟩,?_⟩;rintro t rfl;have r1:=Zbr b (psum c (i+1)) a;have r2:=Zbr b (psum c i) a;refine⟨⟨by omega,by omega⟩,rfl,⟨i+1,?_,by omega,Z1a2 hok g (by omega),rfl,rfl,?_⟩,?_⟩
     ·rw[wi ⟨by omega,by omega⟩]; omega
     ·try dsimp only
      show(Z6u 0 (Z2a a b c) i).set (0+i) (i64.wrap (part b (psum c (i+1)) a - part b (psum c i) a))=_;rw[wi (x:=part b (psum c (i+1)) a - part b (psum c i) a) ⟨by omega,by omega⟩,Nat.zero_add];exact Z125 0 _ i (by rw[Z5n]; exact hlt) (Zig a b c i hlt)
     ·try dsimp only
      rw[wi ⟨by omega,by omega⟩]; omega
   ·have:i=c.length:=by omega
    subst this;have hlen:(Z6u 0 (Z2a a b c) c.length).length=c.length:=by rw[Z1m3 _ _ _ (by rw[Z5n]; omega),Z5n]
    refine⟨⟨by trivial,by rw[hlen]⟩,?_⟩;rw[Zu8 e f hok]at h;have e2:=Z124 0 (Z2a a b c);rw[Z5n]at e2;rw[e2]; exact h
def Zob:=F18
theorem Z18p(a:Int)(b:Int)(h:WU2 a b):Zob  a b (λr=>r=Z1tt a b):=by
 exact Z1ma h.1.1 h.1.2 h.2.1 h.2.2 rfl
def Zoc:=F19
theorem Z18q(a:Int)(b:Int)(c:Int)(h:WDiv a b c):Zoc  a b c (λr=>r=Z1tu a b c):=by
 obtain⟨ha,hb,hc,hac⟩:=h;have hc0:(0:Int)<c:=Int.lt_of_le_of_lt ha.1 hac;obtain⟨s0,s1,s2,s3⟩:=Z1uo hc0 hc.2;exact Z1md (a:=a) (b:=b) (c:=c) rfl hc s0 s1 s2 s3 ha.1 hac hb.1 hb.2 rfl
def Zs2:=F12
theorem Z1do(a:Int)(b:Int)(c:Int)(h:III a b c):Zs2  a b c (λr=>r=prtR a b c):=by
 exact Z1pm h.1 h.2.1 h.2.2 rfl
section
open Go.Proofs
def Z1hu:Cx:=⟨Z1v Z26,Z23 [(245,Z8a)],SqG⟩
theorem Zza:CxOk Tryz.prog Z1hu:=⟨Zn Z12,Zr ⟨Zcl,trivial⟩⟩
def Zld:Con:=.det [.int .u64,.int .u64] [.snap (.int .u64),.snap (.int .u64)] (λx=>WU2 x.1 x.2.1) (λx=>Z1tt x.1 x.2.1)
theorem Z15j:SqH Zld 168:=
 dP Zza Z5 Zc nHn Tryz.func168 (λx p=>Zob  x.1 x.2.1 p) λx h _=>Z18p  x.1 x.2.1 h
def Z1hv:Cx:=addC 168 Zld Z1hu
theorem Z1jh:CxOk Tryz.prog Z1hv:=Zk Zza Z15j
def Z8z:Con:=.det [.int .u64] [.snap (.int .i64)] (λx=>U64 x.1) (λx=>lzR x.1)
def Z1l5:Cx:=⟨Z1v Z26,λ_=>none,SqG⟩
theorem Z1ni:CxOk Tryz.prog Z1l5:=⟨Zn Z12,λf c h=>by cases h⟩
def Z1b9:Con:=.det [.int .u64] [.snap (.int .i64)] (λx=>U64 x.1) (λx=>(Z3e x.1,()))
theorem Z1nj:FnAt Tryz.prog 245 Tryz.f245.ntmps Tryz.f245.results.toList (Tryz.f245.body.getD .skip):=⟨Tryz.f245,Tryz.func245,rfl,rfl,by simp,by decide⟩
theorem Z1nk(a:Int)(post:Int × Unit->Prop):Z4b Z1l5 Z1ec Tryz.f245.ntmps Tryz.f245.results.toList (Tryz.f245.body.getD .skip) [.int .u64] [.snap (.int .i64)] (a,()) post=F22 a post:=by kernel_rfl
theorem Z1r4:Z1b9.holds Tryz.prog SqG 245:=detP Z1ni Z5 Z1ec Z1nj (F:=λx post=>F22 x.1 post) (λx post=>Z1nk x.1 post) λx h _=>Z1mc h.1 h.2 rfl
def Z90:Cx:=⟨Z1v Z26,Z23 [(245,Z1b9)],SqG⟩
theorem Zfz:CxOk Tryz.prog Z90:=⟨Zn Z12,Zr ⟨Z1r4,trivial⟩⟩
theorem Zhg:FnAt Tryz.prog 206 Tryz.f206.ntmps Tryz.f206.results.toList (Tryz.f206.body.getD .skip):=⟨Tryz.f206,Tryz.func206,rfl,rfl,by simp,by decide⟩
theorem Zhh(a:Int)(post:Int × Unit->Prop):Z4b Z90 Z1ec Tryz.f206.ntmps Tryz.f206.results.toList (Tryz.f206.body.getD .skip) [.int .u64] [.snap (.int .i64)] (a,()) post=F21 a post:=by kernel_rfl
theorem Zje:Z8z.holds Tryz.prog SqG 206:=detP Zfz Z5 Z1ec Zhg (F:=λx post=>F21 x.1 post) (λx post=>Zhh x.1 post) λx h _=>Z1uz h
def Z1hw:Cx:=addC 206 Z8z Z1hv
theorem Zzb:CxOk Tryz.prog Z1hw:=Zk Z1jh Zje
def Zle:Con:=.det [.int .u64,.int .u64,.int .u64] [.snap (.int .u64),.snap (.int .u64)] (λx=>WDiv x.1 x.2.1 x.2.2.1) (λx=>Z1tu x.1 x.2.1 x.2.2.1)
theorem Z15k:SqH Zle 169:=
 dP Zzb Z5 Zc hn19 Tryz.func169 (λx p=>Zoc  x.1 x.2.1 x.2.2.1 p) λx h _=>Z18q  x.1 x.2.1 x.2.2.1 h
def Z1tk:Cx:=addC 169 Zle Z1hw
theorem Z1ji:CxOk Tryz.prog Z1tk:=Zk Zzb Z15k
def Ze1:Con:=.det [.int .i64,.int .i64,.int .i64] [.snap (.int .i64)] (λx=>III x.1 x.2.1 x.2.2.1) (λx=>prtR x.1 x.2.1 x.2.2.1)
theorem Zod:SqH Ze1 91:=
 dP Z1ji Z5 Zc ({loops:=λ_=>none,joins:=λ_=>none}) Tryz.func91 (λx p=>Zs2  x.1 x.2.1 x.2.2.1 p) λx h _=>Z1do  x.1 x.2.1 x.2.2.1 h
end
section
open Go.Proofs
def Z1r5:Cx:=⟨Z1v Z26,Z23 [(91,Ze1)],SqG⟩
theorem Zvy:CxOk Tryz.prog Z1r5:=⟨Zn Z12,Zr ⟨Zod,trivial⟩⟩
def Zs3:Con:=.det [.int .i64,.slice (.int .i64)] [.own 2 (.int .i64),.snap (.int .i64)] (λx=>WCu x.1 x.2.1) (λx=>cuR x.1 x.2.1)
theorem Z1dp:SqH Zs3 73:=
 dP Zvy Z5 Zc ({loops:=Z11 [(5,{ls:=[(.slot 6,.data (.int .i64)),(.slot 16,.data (.int .i64))],os:=[]}),(13,{ls:=[(.slot 37,.data (.int .i64))],os:=[(0,2,.int .i64)]})],joins:=Z11 [(17,{ls:=[(.slot 11,.data (.int .i64))],os:=[]})],binds:=λk=>match k with | 9=>[6] | _=>[]}) Tryz.func73 (λx p=>Zcp 2 x.1 x.2.1 p) λx h _=>Z1ht 2 x.1 x.2.1 h
def Zjf:Con:=.det [.int .i64,.int .i64,.slice (.int .i64)] [.own 2 (.int .i64),.snap (.int .i64)] (λx=>WTk x.1 x.2.1 x.2.2.1) (λx=>tkR x.1 x.2.1 x.2.2.1)
theorem Z10l:SqH Zjf 75:=
 dP Zvy Z5 Zc ({loops:=Z11 [(7,{ls:=[(.slot 9,.data (.int .i64)),(.slot 10,.data (.int .i64)),(.slot 25,.data (.int .i64))],os:=[(0,2,.int .i64)]})],joins:=λ_=>none,binds:=λk=>match k with | 11=>[9] | 12=>[13] | _=>[]}) Tryz.func75 (λx p=>Z8b 2 x.1 x.2.1 x.2.2.1 p) λx h _=>Z15i 2 x.1 x.2.1 x.2.2.1 h
end
section
open Go.Proofs
def Z1ba:Cx:=⟨Z1v Z26,Z23 [(32,Z21),(31,Z2d),(33,Z56),(73,Zs3)],SqG⟩
theorem Zvz:CxOk Tryz.prog Z1ba:=⟨Zn Z12,Zr ⟨Z2c,Z2q,Z7l,Z1dp,trivial⟩⟩
def Zoe:Con:=.det [.ptr Z25,.slice (.int .i64),.slice (.int .i64)] [.snap .bool] (λx=>Z1mj x.1 x.2.1 x.2.2.1) (λx=>Zih x.1 x.2.1 x.2.2.1)
theorem Z18r:SqH Zoe 72:=
 dP Zvz Z5 Zc ({loops:=Z11 [(4,{ls:=[(.slot 25,.data (.int .i64))],os:=[]}),(10,{ls:=[(.slot 34,.data (.int .i64))],os:=[]})],joins:=λ_=>none,named:=true}) Tryz.func72 (λx p=>Zs0  x.1 x.2.1 x.2.2.1 p) λx h w=>Z1de  x.1 x.2.1 x.2.2.1 h w
def Z1r6:Cx:=addC 72 Zoe Z1ba
theorem Z1hx:CxOk Tryz.prog Z1r6:=Zk Zvz Z18r
def Zs4:Con:=Con.nam [.ptr Z25,.slice (.int .i64),.slice (.int .i64)] [.own 2 (.int .i64),.snap (.int .i64)] (λx=>WAll x.1 x.2.1 x.2.2.1) (λx=>Zpb x.1 x.2.1 x.2.2.1)
theorem Z1dq:SqH Zs4 26:=
 nP Z1hx Z5 Zc ({loops:=Z11 [(7,{ls:=[(.slot 32,.data (.int .i64))],os:=[(0,2,.int .i64)]}),(12,{ls:=[(.slot 37,.data (.int .i64))],os:=[(1,119,.int .i64),(2,111,.int .i64),(3,111,.int .i64)]}),(22,{ls:=[(.slot 72,.data (.int .i64))],os:=[(0,2,.int .i64)]})],joins:=λ_=>none,named:=true}) Tryz.func26 (λx p=>Zvx 2 119 111 x.1 x.2.1 x.2.2.1 p) λx h w=>Z1hs 2 119 111 x.1 x.2.1 x.2.2.1 h w
end
def Zof:=λ(g:Option YG)(s t f:List Int)(post:Bool × Unit->Prop)=>∃(h:True),∀ a,a=((↑s.length:Int) != (Zw g).1)->Br a (post (false,
 ())) (∃(h:True),∀ a,a=((↑t.length:Int) != (Zw g).1)->Br a (post (false,())) (∃(h:True),∀ a,a=((↑f.length:Int) != (Zp g).1)->Br a (post
 (false,())) (HS []/\∃(I:Int × Unit->Unit->Prop),∃(μ:Int × Unit->Unit->Nat),I (0,()) ()/\∀(x:Int × Unit)(y:Unit),I x y->∀ a,a=decide (x.1 <
 (↑s.length:Int))->Br a (∃(h:0<=x.1/\x.1<(↑s.length:Int)),∀ a,a=decide (s.getD x.1.toNat (0:Int)<0)->Br a (∀ a,a=decide (x.1>=0)->
 Br a (post (false,())) (HS []/\∃(I:Int × Unit->Unit->Prop),∃(μ:Int × Unit->Unit->Nat),I (0,()) ()/\∀(x:Int × Unit)(y:Unit),I x y->∀ a,a=decide (x.1
 < (↑t.length:Int))->Br a (∃(h:0<=x.1/\x.1<(↑t.length:Int)),∀ a,a=decide (t.getD x.1.toNat (0:Int)<0)->Br a (∀ a,a=decide (x.1>=0)
 -> Br a (post (false,())) (HS []/\∃(I:Int × Unit->Unit->Prop),∃(μ:Int × Unit->Unit->Nat),I (0,()) ()/\∀(x:Int × Unit)(y:Unit),I x y->∀ a,a=decide
 (x.1<(↑f.length:Int))->Br a (∃(h:0<=x.1/\x.1<(↑f.length:Int)),∀ a,a=decide (f.getD x.1.toNat 0<(-4503599627370496:Int))->Br a (∀ a,a=
 decide (x.1>=0)->post (!a,())) (∀ a,a=decide (f.getD x.1.toNat (0:Int) > 4503599627370496)->Br a (∀ a,a=decide (x.1>=0)->post (!a,())) (HS
 []/\I (i64.wrap (x.1+1),()) ()/\μ (i64.wrap (x.1+1),()) ()<μ x y))) (∀ a,a=decide ((-1:Int)>=0)->post (!a,())))) (HS []/\I
 (i64.wrap (x.1+1),()) ()/\μ (i64.wrap (x.1+1),()) ()<μ x y)) (∀ a,a=decide ((-1:Int)>=0)->Br a (post (false,())) (HS []/\∃(I:Int
 × Unit->Unit->Prop),∃(μ:Int × Unit->Unit->Nat),I (0,()) ()/\∀(x:Int × Unit)(y:Unit),I x y->∀ a,a=decide (x.1<(↑f.length:Int))->Br a (∃(h:0<=
 x.1/\x.1<(↑f.length:Int)),∀ a,a=decide (f.getD x.1.toNat 0<(-4503599627370496:Int))->Br a (∀ a,a=decide (x.1>=0)->post (!a,())) (∀ a,a=
 decide (f.getD x.1.toNat (0:Int) > 4503599627370496)->Br a (∀ a,a=decide (x.1>=0)->post (!a,())) (HS []/\I (i64.wrap (x.1+1),()) ()/\μ
 (i64.wrap (x.1+1),()) ()<μ x y))) (∀ a,a=decide ((-1:Int)>=0)->post (!a,())))))) (HS []/\I (i64.wrap (x.1+1),()) ()/\μ (i64.wrap
 (x.1+1),()) ()<μ x y)) (∀ a,a=decide ((-1:Int)>=0)->Br a (post (false,())) (HS []/\∃(I:Int × Unit->Unit->Prop),∃(μ:Int × Unit->Unit->Nat),I
 (0,()) ()/\∀(x:Int × Unit)(y:Unit),I x y->∀ a,a=decide (x.1<(↑t.length:Int))->Br a (∃(h:0<=x.1/\x.1<(↑t.length:Int)),∀ a,a=decide (t.getD
 x.1.toNat (0:Int)<0)->Br a (∀ a,a=decide (x.1>=0)->Br a (post (false,())) (HS []/\∃(I:Int × Unit->Unit->Prop),∃(μ:Int × Unit->Unit->
 Nat),I (0,()) ()/\∀(x:Int × Unit)(y:Unit),I x y->∀ a,a=decide (x.1<(↑f.length:Int))->Br a (∃(h:0<=x.1/\x.1<(↑f.length:Int)),∀ a,a=decide
 (f.getD x.1.toNat 0<(-4503599627370496:Int))->Br a (∀ a,a=decide (x.1>=0)->post (!a,())) (∀ a,a=decide (f.getD x.1.toNat 0 >
 4503599627370496)->Br a (∀ a,a=decide (x.1>=0)->post (!a,())) (HS []/\I (i64.wrap (x.1+1),()) ()/\μ (i64.wrap (x.1+1),()) ()<μ x
 y))) (∀ a,a=decide ((-1:Int)>=0)->post (!a,())))) (HS []/\I (i64.wrap (x.1+1),()) ()/\μ (i64.wrap (x.1+1),()) ()<μ x y)) (∀ a,a=decide
 ((-1:Int)>=0)->Br a (post (false,())) (HS []/\∃(I:Int × Unit->Unit->Prop),∃(μ:Int × Unit->Unit->Nat),I (0,()) ()/\∀(x:Int × Unit)(y:Unit),I
 x y->∀ a,a=decide (x.1<(↑f.length:Int))->Br a (∃(h:0<=x.1/\x.1<(↑f.length:Int)),∀ a,a=decide (f.getD x.1.toNat 0<(-4503599627370496:Int))
 -> Br a (∀ a,a=decide (x.1>=0)->post (!a,())) (∀ a,a=decide (f.getD x.1.toNat (0:Int) > 4503599627370496)->Br a (∀ a,a=decide (x.1>=0)->
 post (!a,())) (HS []/\I (i64.wrap (x.1+1),()) ()/\μ (i64.wrap (x.1+1),()) ()<μ x y))) (∀ a,a=decide ((-1:Int)>=0)->post (!a,())))))))))
theorem Z18s(g:Option YG)(s:List Int)(t:List Int)(f:List Int)(h:Z1g3 g s t f)(w:KS.wf [.ptr Z25,.slice (.int .i64),.slice (.int .i64),.slice (.int .i64)] (g,s,t,f,())):Zof  g s t f (λr=>r=Zff g s t f):=by
 have ls:s.length<=maxN:=w.2.1.1;have lt:t.length<=maxN:=w.2.2.1.1;have lf:f.length<=maxN:=w.2.2.2.1.1;have hm:maxN<=9223372036854775806:=by decide
 have no:¬ ((s.length:Int)=Zh g/\(f.length:Int)=Zi g/\(∀ x ∈ s,0<=x)/\(∀ x ∈ f,Z27 x=true)/\t.length=s.length/\∀ x ∈ t,0<=x)->(false,())=Zff g s t f:=λq=>by
  unfold Zff;rw[show Za5 (Zh g) (Zi g) s t f=false from by rw[Bool.eq_false_iff]; exact λz=>q (Zk2.1 z)]
 refine⟨trivial,?_⟩;rintro _ rfl;refine Br.intro (λe=>no λq=>(bne_iff_ne.1 e) q.1) λe=>?_
 have e:(s.length:Int)=Zh g:=by
  have e:((s.length:Int) != Zh g)=false:=e;simpa using e
 refine⟨trivial,?_⟩;rintro _ rfl;refine Br.intro (λe2=>no λq=>(bne_iff_ne.1 e2) (by show(t.length:Int)=Zh g; have:=q.2.2.2.2.1; omega)) λe2=>?_
 have e2:(t.length:Int)=Zh g:=by
  have e2:((t.length:Int) != Zh g)=false:=e2;simpa using e2
 refine⟨trivial,?_⟩;rintro _ rfl;refine Br.intro (λe3=>no λq=>(bne_iff_ne.1 e3) q.2.1) λe3=>?_
 have e3:(f.length:Int)=Zi g:=by
  have e3:((f.length:Int) != Zi g)=false:=e3;simpa using e3
 refine⟨rfl,λx _=>∃ k:Nat,x.1=k/\k<=s.length/\∀ j,j<k->0<=s.getD j 0,λx _=>s.length - x.1.toNat,⟨0,rfl,by omega,λj hj=>by omega⟩,?_⟩;rintro⟨_,⟨⟩⟩ _ ⟨k,rfl,hk,hi⟩;dsimp only;rintro _ rfl;refine Br.intro (λg1=>?_) λg1=>?_
 ·have g1:k<s.length:=by have g1:(k:Int)<s.length:=of_decide_eq_true g1; omega
  refine⟨⟨by omega,by omega⟩,?_⟩;rw[Int.toNat_natCast,Z19 g1 (by omega)];rintro _ rfl;refine Br.intro (λz=>?_) λz=>?_
  ·rintro _ rfl;refine Br.intro (λ_=>no λq=>?_) λy=>?_
   ·have:=q.2.2.1 _ (Zu g1 0);have z:=of_decide_eq_true z;omega
   ·have:=of_decide_eq_false y;omega
  ·refine⟨rfl,⟨k+1,rfl,by omega,λj hj=>?_⟩,by omega⟩;by_cases e:j=k
   ·subst e; have:=of_decide_eq_false z; omega
   ·exact hi j (by omega)
 have hS:∀ x ∈ s,0<=x:=by
  have g1:k=s.length:=by have g1:¬ (k:Int)<s.length:=of_decide_eq_false g1; omega
  subst g1;exact Z173 hi
 clear hi hk g1;rintro _ rfl;refine Br.intro (λy=>absurd y (by decide)) λ_=>?_;refine⟨rfl,λx _=>∃ k:Nat,x.1=k/\k<=t.length/\∀ j,j<k->0<=t.getD j 0,λx _=>t.length - x.1.toNat,⟨0,rfl,by omega,λj hj=>by omega⟩,?_⟩;rintro⟨_,⟨⟩⟩ _ ⟨k,rfl,hk,hi⟩;dsimp only;rintro _ rfl;refine Br.intro (λg1=>?_) λg1=>?_
 ·have g1:k<t.length:=by have g1:(k:Int)<t.length:=of_decide_eq_true g1; omega
  refine⟨⟨by omega,by omega⟩,?_⟩;rw[Int.toNat_natCast,Z19 g1 (by omega)];rintro _ rfl;refine Br.intro (λz=>?_) λz=>?_
  ·rintro _ rfl;refine Br.intro (λ_=>no λq=>?_) λy=>?_
   ·have:=q.2.2.2.2.2 _ (Zu g1 0);have z:=of_decide_eq_true z;omega
   ·have:=of_decide_eq_false y;omega
  ·refine⟨rfl,⟨k+1,rfl,by omega,λj hj=>?_⟩,by omega⟩;by_cases e:j=k
   ·subst e; have:=of_decide_eq_false z; omega
   ·exact hi j (by omega)
 have hT:∀ x ∈ t,0<=x:=by
  have g1:k=t.length:=by have g1:¬ (k:Int)<t.length:=of_decide_eq_false g1; omega
  subst g1;exact Z173 hi
 clear hi hk g1;rintro _ rfl;refine Br.intro (λy=>absurd y (by decide)) λ_=>?_;refine⟨rfl,λx _=>∃ k:Nat,x.1=k/\k<=f.length/\∀ j,j<k->Z27 (f.getD j 0)=true,λx _=>f.length - x.1.toNat,⟨0,rfl,by omega,λj hj=>by omega⟩,?_⟩;rintro⟨_,⟨⟩⟩ _ ⟨k,rfl,hk,hi⟩;dsimp only;rintro _ rfl
 have bad:k<f.length->¬ Z27 (f.getD k 0)=true->∀ a:Bool,a=decide ((k:Int)>=0)->(!a,())=Zff g s t f:=by
  rintro g1 hb _ rfl;rw[decide_eq_true (p:=(k:Int)>=0) (by omega)];exact no λq=>hb (q.2.2.2.1 _ (Zu g1 0))
 refine Br.intro (λg1=>?_) λg1=>?_
 ·have g1:k<f.length:=by have g1:(k:Int)<f.length:=of_decide_eq_true g1; omega
  refine⟨⟨by omega,by omega⟩,?_⟩;rw[Int.toNat_natCast,Z19 g1 (by omega)];rintro _ rfl;refine Br.intro (λz=>?_) λz=>?_
  ·exact bad g1 λq=>by have:=Z69.1 q; have:=of_decide_eq_true z; omega
  have z:=of_decide_eq_false z;rintro _ rfl;refine Br.intro (λy=>?_) λy=>?_
  ·exact bad g1 λq=>by have:=Z69.1 q; have:=of_decide_eq_true y; omega
  ·have y:=of_decide_eq_false y;refine⟨rfl,⟨k+1,rfl,by omega,λj hj=>?_⟩,by omega⟩;by_cases e:j=k
   ·subst e; exact Z69.2 ⟨by omega,by omega⟩
   ·exact hi j (by omega)
 have hF:∀ x ∈ f,Z27 x=true:=by
  have g1:k=f.length:=by have g1:¬ (k:Int)<f.length:=of_decide_eq_false g1; omega
  subst g1;exact Z173 (p:=λx=>Z27 x=true) hi
 rintro _ rfl;show(true,())=Zff g s t f;unfold Zff;rw[Zk2.2 ⟨e,e3,hS,hF,by omega,hT⟩]
def Z10m(ty2:Nat)(f:List Int):List HObj:=[HObj.row Md.rw ty2 (K.int i64) (List.replicate f.length (0:Int))]
def Z10n(ty2:Nat)(y:List Int × Unit)(ty119:Nat):List HObj:=[HObj.row Md.rw ty2 (K.int i64) y.1,HObj.row Md.rw ty119 (K.int i64) (List.replicate (4:Nat) (0:Int))]
def Z10o(ty2:Nat)(y:List Int × Unit)(ty119:Nat)(y_1:List Int × Unit)(x_3:Int × Unit)(f:List Int)(a:Int × Int × Unit):List HObj:=[HObj.row Md.rw ty2 (K.int i64) y.1,HObj.row Md.rw ty119 (K.int i64) (y_1.1.set x_3.1.toNat (imax 0 (i64.wrap (f.getD a.1.toNat 0*a.2.1))))]
def Z10p(ty2:Nat)(y:List Int × Unit)(ty119:Nat)(y_1:List Int × Unit)(s:List Int)(x:Int × Unit)(t:List Int):List HObj:=[HObj.row Md.rw ty2 (K.int i64) y.1,HObj.row Md.rw ty119 (K.int i64) y_1.1,HObj.row Md.rw ty2 (K.int i64) (tkR (s.getD x.1.toNat (0:Int)) (t.getD x.1.toNat (0:Int)) (List.take ((↑(4:Nat):Int) - (0:Int)).toNat (List.drop (Int.toNat (0:Int)) y_1.1))).1]
def Z10q(ty2:Nat)(y_2:List Int × Unit)(a:Int × Int × Unit)(s:List Int)(x:Int × Unit)(t:List Int)(y_1:List Int × Unit)(x_7:Int × Unit)(ty119:Nat):List HObj:=[HObj.row Md.rw ty2 (K.int i64) (y_2.1.set ((0:Nat)+a.1.toNat) (i64.wrap ((tkR (s.getD x.1.toNat (0:Int)) (t.getD x.1.toNat (0:Int)) (List.take ((↑(4:Nat):Int) - (0:Int)).toNat (List.drop (Int.toNat (0:Int)) y_1.1))).1.getD ((0:Nat)+x_7.1.toNat) (0:Int)*a.2.1))),HObj.row Md.rw ty119 (K.int i64) y_1.1,HObj.row Md.rw ty2 (K.int i64) (tkR (s.getD x.1.toNat (0:Int)) (t.getD x.1.toNat (0:Int)) (List.take ((↑(4:Nat):Int) - (0:Int)).toNat (List.drop (Int.toNat (0:Int)) y_1.1))).1]
def Z10r(ty2:Nat)(y_2:List Int × Unit)(ty119:Nat)(y_1:List Int × Unit)(s:List Int)(x:Int × Unit)(t:List Int):List HObj:=[HObj.row Md.rw ty2 (K.int i64) y_2.1,HObj.row Md.rw ty119 (K.int i64) y_1.1,HObj.row Md.rw ty2 (K.int i64) (tkR (s.getD x.1.toNat (0:Int)) (t.getD x.1.toNat (0:Int)) (List.take ((↑(4:Nat):Int) - (0:Int)).toNat (List.drop (Int.toNat (0:Int)) y_1.1))).1]
def Z10s(ty2:Nat)(y_2:List Int × Unit):List HObj:=[HObj.row Md.rw ty2 (K.int i64) y_2.1]
def Zlf:=λ(ty2 ty119:Nat)(g:Option YG)(s t f:List Int)(post:List Int × Int × Unit->Prop)=>Br g.isNone (post ([],2,())) (∃(h:Z1g3 g s t f),∀ a,
 a=(Zff g s t f).1->Br (!a) (post ([],1,())) (∃(h:(0:Int)<=(↑f.length:Int)/\(↑f.length:Int)<=(↑f.length:Int)/\(↑f.length:Int)*(↑(8:Nat):Int)<=
 (281474976710656:Int)),HS (Z10m ty2 f)/\∃(I:Int × Unit->List Int × Unit->Prop),∃(μ:Int × Unit->List Int × Unit->Nat),I (0,()) (List.replicate f.length
 (0:Int),())/\∀(x:Int × Unit)(y:List Int × Unit),I x y->∀ a,a=decide (x.1<(↑s.length:Int))->Br a (∃(h:(0:Int)<=x.1/\x.1<(↑s.length:Int)),HS
 (Z10n ty2 y ty119)/\∃(I_1:Int × Unit->List Int × Unit->Prop),∃(μ_1:Int × Unit->List Int × Unit->Nat),I_1 (0,()) (List.replicate (4:Nat) (0:Int),())
 /\ ∀(x_3:Int × Unit)(y_1:List Int × Unit),I_1 x_3 y_1->∀ a,a=decide (x_3.1<(4:Int))->Br a (∃(h:WNet g x.1 x_3.1),∀ a,a=Z4x g x.1 x_3.1->∃(h:(0:
 Int)<=a.1/\a.1<(↑f.length:Int)),∃(h:(0:Int)<=x_3.1/\x_3.1<(↑(4:Nat):Int)/\(4:Nat)<=y_1.1.length),HS (Z10o ty2 y ty119 y_1 x_3 f a)/\I_1
 (i64.wrap (x_3.1+1),()) (y_1.1.set x_3.1.toNat (imax (0:Int) (i64.wrap (f.getD a.1.toNat (0:Int)*a.2.1))),())/\μ_1 (i64.wrap (x_3.1+1),())
 (y_1.1.set x_3.1.toNat (imax (0:Int) (i64.wrap (f.getD a.1.toNat (0:Int)*a.2.1))),())<μ_1 x_3 y_1) (∃(h:(0:Int)<=x.1/\x.1<(↑t.length:Int)),∃(h:(0:
 Int)<=(0:Int)/\(0:Int)<=(↑(4:Nat):Int)/\(↑(4:Nat):Int)<=(↑(4:Nat):Int)/\(4:Nat)=y_1.1.length),∃(h:WTk (s.getD x.1.toNat (0:Int)) (t.getD x.1.toNat
 (0:Int)) (List.take ((↑(4:Nat):Int) - (0:Int)).toNat (List.drop (Int.toNat (0:Int)) y_1.1))),∀ a,a=((tkR (s.getD x.1.toNat (0:Int)) (t.getD x.1.toNat (0:Int))
 (List.take ((↑(4:Nat):Int) - (0:Int)).toNat (List.drop (Int.toNat (0:Int)) y_1.1))).2.1 != (0:Int))->Br a (post ([],(tkR (s.getD x.1.toNat (0:Int)) (t.getD x.1.toNat
 (0:Int)) (List.take ((↑(4:Nat):Int) - (0:Int)).toNat (List.drop (Int.toNat (0:Int)) y_1.1))).2.1,())) (HS (Z10p ty2 y ty119 y_1 s x t)/\∃(I_2:Int × Unit
 -> List Int × Unit->Prop),∃(μ_2:Int × Unit->List Int × Unit->Nat),I_2 (0,()) (y.1,())/\∀(x_7:Int × Unit)(y_2:List Int × Unit),I_2 x_7 y_2->∀ a,a=decide (x_7.1
 < (4:Int))->Br a (∃(h:WNet g x.1 x_7.1),∀ a,a=Z4x g x.1 x_7.1->∃(h:(0:Int)<=x_7.1/\x_7.1<(↑(4:Nat):Int)/\(4:Nat)<=y_1.1.length),∀ a_1,a_1=
 decide (y_1.1.getD x_7.1.toNat (0:Int) > (0:Int))->Br a_1 (∃(h:(0:Int)<=x_7.1/\x_7.1<(↑(tkR (s.getD x.1.toNat (0:Int)) (t.getD x.1.toNat (0:Int)) (List.take
 ((↑(4:Nat):Int) - (0:Int)).toNat (List.drop (Int.toNat (0:Int)) y_1.1))).1.length:Int)),∃(h:(0:Int)<=a.1/\a.1<(↑f.length:Int)),HS (Z10q ty2 y_2
 a s x t y_1 x_7 ty119)/\I_2 (i64.wrap (x_7.1+1),()) (y_2.1.set ((0:Nat)+a.1.toNat) (i64.wrap ((tkR (s.getD x.1.toNat (0:Int)) (t.getD x.1.toNat (0:
 Int)) (List.take ((↑(4:Nat):Int) - (0:Int)).toNat (List.drop (Int.toNat (0:Int)) y_1.1))).1.getD ((0:Nat)+x_7.1.toNat) (0:Int)*a.2.1)),())/\μ_2 (i64.wrap
 (x_7.1+1),()) (y_2.1.set ((0:Nat)+a.1.toNat) (i64.wrap ((tkR (s.getD x.1.toNat (0:Int)) (t.getD x.1.toNat (0:Int)) (List.take ((↑(4:Nat):Int) - (0:
 Int)).toNat (List.drop (Int.toNat (0:Int)) y_1.1))).1.getD ((0:Nat)+x_7.1.toNat) (0:Int)*a.2.1)),())<μ_2 x_7 y_2) (HS (Z10r ty2 y_2 ty119 y_1 s x t)/\I_2
 (i64.wrap (x_7.1+1),()) (y_2.1,())/\μ_2 (i64.wrap (x_7.1+1),()) (y_2.1,())<μ_2 x_7 y_2)) (HS (Z10s ty2 y_2)/\I (i64.wrap (x.1+1),
 ()) (y_2.1,())/\μ (i64.wrap (x.1+1),()) (y_2.1,())<μ x y)))) (((0:Nat)=(0:Nat)/\f.length=y.1.length)/\post (y.1,0,()))))
theorem Z15l(ty0 ty1:Nat)(g:Option YG)(s:List Int)(t:List Int)(f:List Int)(h:Z1g4 g s t f)(w:KS.wf [.ptr Z25,.slice (.int .i64),.slice (.int .i64),.slice (.int .i64)] (g,s,t,f,())):Zlf ty0 ty1 g s t f (λr=>r=Zho g s t f):=by
 obtain⟨hg,hs,ht0,hf0⟩:=h
 cases g with
 | none=>exact Br.intro (λ_=>rfl) λe=>by cases e
 | some g=>
 obtain⟨n,gn,rfl⟩:=Z4o hg;refine Br.intro (λe=>by cases e) λ_=>?_;refine⟨⟨hs,ht0,hf0⟩,?_⟩;rintro _ rfl;have A:=Z7s n;have hAr:∀ c o,Z4x (some (netG n)) c o=((Z15 (some (netG n)) c o).1,(Z15 (some (netG n)) c o).2,()):=λ_ _=>rfl;have hres:Zho (some (netG n)) s t f=((Z6x false (Zh (some (netG n))) (Zi (some (netG n))) (Z15 (some (netG n))) s t f).1,(Z6x false (Zh (some (netG n))) (Zi (some (netG n))) (Z15 (some (netG n))) s t f).2,()):=rfl;refine Br.intro (λe=>?_) λe=>?_
 ·have e:¬ Za5 (Zh (some (netG n))) (Zi (some (netG n))) s t f=true:=by
   have e:(!Za5 (Zh (some (netG n))) (Zi (some (netG n))) s t f)=true:=e;simpa using e
  rw[hres,Z1q0 e]
 have e:Za5 (Zh (some (netG n))) (Zi (some (netG n))) s t f=true:=by
  have e:(!Za5 (Zh (some (netG n))) (Zi (some (netG n))) s t f)=false:=e;simpa using e
 rw[hres];have gH:=Zk2.1 e;obtain⟨h1,h2,h3,h4⟩:=Z1g8 (n:=n) (s:=s) (f:=f) (Zk1.2 ⟨gH.1,gH.2.1,gH.2.2.1,gH.2.2.2.1⟩);have hTl:t.length=s.length:=gH.2.2.2.2.1;have hgood:=e;have cr:=Z2p n;have hE:=(Zas n (Z2 n).toNat (by omega)).2;have hE:(netE n).1.length<=4*(Z2 n).toNat:=hE;obtain⟨N,hN⟩:∃ N,N=Zh (some (netG n)):=⟨_,rfl⟩;obtain⟨M,hM⟩:∃ M,M=Zi (some (netG n)):=⟨_,rfl⟩;rw[<- hN,<- hM];rw[<- hN,<- hM]at hgood;generalize Z15 (some (netG n))=ar at *;obtain⟨gv,hgv⟩:∃ gv,Z4f ar s t f=gv:=⟨_,rfl⟩;refine⟨⟨by omega,by omega,by omega⟩,rfl,λx y=>∃ k:Nat,x.1=k/\k<=s.length/\(∀ j,j<k->Z9z ar s t f j=0)/\y.1=allP ar f gv k,λx _=>s.length - x.1.toNat,⟨0,rfl,by omega,λj hj=>by omega,rfl⟩,?_⟩;rintro⟨_,⟨⟩⟩ ⟨_,⟨⟩⟩ ⟨k,rfl,hk,hz,rfl⟩;dsimp only;rintro _ rfl;refine Br.intro (λd=>?_) λd=>?_
 rotate_left
 ·have d:k=s.length:=by have d:¬ (k:Int)<s.length:=of_decide_eq_false d; omega
  have hlen:(allP ar f gv k).length=f.length:=(Zfg A h4 h2 k (by omega)).1.trans h2.symm;refine⟨⟨rfl,hlen.symm⟩,?_⟩;rw[Z1g9 hgood (λj hj=>hz j (by omega)),hgv,d]
 have d:k<s.length:=by have d:(k:Int)<s.length:=of_decide_eq_true d; omega
 have hp:Ze n (k:Int)=true:=Z3r (by omega);refine⟨⟨by omega,by omega⟩,rfl,λx y=>∃ j:Nat,x.1=j/\j<=4/\y.1=Zjz j (outN ar f k),λx _=>4 - x.1.toNat,⟨0,rfl,by omega,rfl⟩,?_⟩;rintro⟨_,⟨⟩⟩ ⟨_,⟨⟩⟩ ⟨j,rfl,hj,rfl⟩;dsimp only;rintro _ rfl;refine Br.intro (λe1=>?_) λe1=>?_
 ·have e1:j<4:=by have e1:(j:Int)<4:=of_decide_eq_true e1; omega
  refine⟨⟨hg,⟨by omega,by omega⟩,by omega,by omega⟩,?_⟩;rintro _ rfl;obtain⟨s1,s2,s3,s4,s5⟩:=Zh7 A h4 h2 (c:=k) (o:=j) (Zd.2 ⟨hp,by omega,by omega⟩);rw[hAr];dsimp only;rw[Z19 e1 (by omega),Zy (by omega) (by omega),Int.toNat_natCast];exact⟨⟨s1,s2⟩,⟨by omega,by show(j:Int)<4; omega,Nat.le_refl 4⟩,rfl,⟨j+1,rfl,by omega,Zk0 e1 (outN ar f k)⟩,by omega⟩
 have e1:j=4:=by have e1:¬ (j:Int)<4:=of_decide_eq_false e1; omega
 subst e1;have f4:∀ g,Zjz 4 g=four g:=λg=>rfl;rw[f4];obtain⟨o1,o2,o3⟩:=Zws (Zat A h4 hp);rw[Z1ac,Int.toNat_natCast];have hc:tkR (s.getD k 0) (t.getD k 0) (four (outN ar f k))=((Z2v (s.getD k 0) (t.getD k 0) (Z1e ar f k)).1,Z9z ar s t f k,()):=rfl;rw[hc];refine⟨⟨by omega,by show(k:Int)<(t.length:Int); omega⟩,⟨by decide,by decide,by decide,rfl⟩,⟨hs _ (Zu d 0),ht0 _ (Zu (by omega) 0),o2,o3⟩,?_⟩;rintro _ rfl;refine Br.intro (λq=>?_) λq=>?_
 ·have q:Z9z ar s t f k≠0:=bne_iff_ne.1 q;rw[Z1q1 d q]
  have:Z9z ar s t f k=1:=by
   rcases Z1pz (a:=s.getD k 0) (b:=t.getD k 0) (c:=Z1e ar f k)with z | z
   ·exact absurd z q
   ·exact congrArg Prod.snd z
  rw[this]
 have q:Z9z ar s t f k=0:=by
  have q:(Z9z ar s t f k != 0)=false:=q;simpa using q
 obtain⟨c1,c2,c3⟩:=Z12x A h4 (w:=s.getD k 0) (h:=t.getD k 0) (ht0 _ (Zu (by omega) 0)) hp q;have hgk:gv k=Z2a (s.getD k 0) (t.getD k 0) (Z1e ar f k):=by rw[<- hgv]; exact congrArg Prod.fst c1
 rw[show(Z2v (s.getD k 0) (t.getD k 0) (Z1e ar f k)).1=Z2a (s.getD k 0) (t.getD k 0) (Z1e ar f k)from congrArg Prod.fst c1];refine⟨rfl,λx y=>∃ j:Nat,x.1=j/\j<=4/\y.1=Zeg ar f (gv k) k (allP ar f gv k) j,λx _=>4 - x.1.toNat,⟨0,rfl,by omega,rfl⟩,?_⟩;rintro⟨_,⟨⟩⟩ ⟨_,⟨⟩⟩ ⟨i,rfl,hi,rfl⟩;dsimp only;rintro _ rfl;refine Br.intro (λe2=>?_) λe2=>?_
 rotate_left
 ·have e2:i=4:=by have e2:¬ (i:Int)<4:=of_decide_eq_false e2; omega
  subst e2;rw[Z19 d (by omega)];refine⟨rfl,⟨k+1,rfl,by omega,λj hj=>?_,rfl⟩,by omega⟩;by_cases z:j=k
  ·rw[z]; exact q
  ·exact hz j (by omega)
 have e2:i<4:=by have e2:(i:Int)<4:=of_decide_eq_true e2; omega
 obtain⟨s1,s2,s3,s4,s5⟩:=Zh7 A h4 h2 (c:=k) (o:=i) (Zd.2 ⟨hp,by omega,by omega⟩);obtain⟨g1,g2,g3⟩:=c3 i e2;rw[Int.toNat_natCast,Zab e2,Nat.zero_add,Z19 e2 (by omega)];have hst:Zeg ar f (gv k) k (allP ar f gv k) (i+1)=putP ar f (gv k) k i (Zeg ar f (gv k) k (allP ar f gv k) i):=rfl;refine⟨⟨hg,⟨by omega,by omega⟩,by omega,by omega⟩,?_⟩;rintro _ rfl;rw[hAr];dsimp only;refine⟨⟨by omega,by show(i:Int)<4; omega,Nat.le_refl 4⟩,?_⟩;rintro _ rfl;refine Br.intro (λz=>?_) λz=>?_
 ·have z:0<outN ar f k i:=of_decide_eq_true z
  have hm2:i64.wrap ((Z2a (s.getD k 0) (t.getD k 0) (Z1e ar f k)).getD i 0*(ar k i).2)=(Z2a (s.getD k 0) (t.getD k 0) (Z1e ar f k)).getD i 0*(ar k i).2:=by
   rcases s3 with q | q <;> rw[q] <;> exact Zy (by omega) (by omega)
  rw[Nat.zero_add,hm2];refine⟨⟨by omega,by rw[c2]; omega⟩,⟨s1,s2⟩,rfl,⟨i+1,rfl,by omega,?_⟩,by omega⟩;rw[hst]; unfold putP; rw[if_pos z,hgk,Int.toNat_natCast]
 ·have z:¬ 0<outN ar f k i:=of_decide_eq_false z;exact⟨rfl,⟨i+1,rfl,by omega,by rw[hst]; unfold putP; rw[if_neg z]⟩,by omega⟩
section
open Go.Proofs
def Zzc:Cx:=⟨Z1v Z26,Z23 [(32,Z21),(31,Z2d),(33,Z56),(75,Zjf)],SqG⟩
theorem Ze2:CxOk Tryz.prog Zzc:=⟨Zn Z12,Zr ⟨Z2c,Z2q,Z7l,Z10l,trivial⟩⟩
def Zlg:Con:=.det [.ptr Z25,.slice (.int .i64),.slice (.int .i64),.slice (.int .i64)] [.snap .bool] (λx=>Z1g3 x.1 x.2.1 x.2.2.1 x.2.2.2.1) (λx=>Zff x.1 x.2.1 x.2.2.1 x.2.2.2.1)
theorem Z15m:SqH Zlg 74:=
 dPI Ze2 Z5 Zc ({loops:=λ_=>none,joins:=λ_=>none,named:=true,inl:=inlL [82]}) (Z40 Ze2 Z5 Z1bz 6) Tryz.func74 (λx p=>Zof  x.1 x.2.1 x.2.2.1 x.2.2.2.1 p) λx h w=>Z18s  x.1 x.2.1 x.2.2.1 x.2.2.2.1 h w
def Z1jj:Cx:=addC 74 Zlg Zzc
theorem Z18t:CxOk Tryz.prog Z1jj:=Zk Ze2 Z15m
def Zjg:Con:=Con.nam [.ptr Z25,.slice (.int .i64),.slice (.int .i64),.slice (.int .i64)] [.own 2 (.int .i64),.snap (.int .i64)] (λx=>Z1g4 x.1 x.2.1 x.2.2.1 x.2.2.2.1) (λx=>Zho x.1 x.2.1 x.2.2.1 x.2.2.2.1)
theorem Z10t:SqH Zjg 27:=
 nP Z18t Z5 Zc ({loops:=Z11 [(7,{ls:=[(.slot 35,.data (.int .i64))],os:=[(0,2,.int .i64)]}),(11,{ls:=[(.slot 40,.data (.int .i64))],os:=[(1,119,.int .i64)]}),(20,{ls:=[(.slot 73,.data (.int .i64))],os:=[(0,2,.int .i64)]})],joins:=λ_=>none,named:=true}) Tryz.func27 (λx p=>Zlf 2 119 x.1 x.2.1 x.2.2.1 x.2.2.2.1 p) λx h w=>Z15l 2 119 x.1 x.2.1 x.2.2.1 x.2.2.2.1 h w
end
def Zog:=λ(s f:List Int)(post:List Int × Int × Unit->Prop)=>post ([],2,())
theorem Z18u(s:List Int)(f:List Int)(h:Z13d none s f):Zog  s f (λr=>r=Zbx none s f):=by
 exact rfl
def Z15n(ty126:Nat)(s:List Int):List HObj:=[HObj.row Md.rw ty126 ((K.int u64).pair (K.int u64)) (List.replicate s.length ((K.int u64).pair (K.int u64)).dflt)]
def Z15o(ty126:Nat)(y:List (Int × Int) × Unit)(x:Int × Unit)(a:(Int × Int) × Unit):List HObj:=[HObj.row Md.rw ty126 ((K.int u64).pair (K.int u64)) (y.1.set (0+x.1.toNat) a.1)]
def Zcq(ty126:Nat)(y:List (Int × Int) × Unit):List HObj:=[HObj.row Md.rw ty126 ((K.int u64).pair (K.int u64)) y.1]
def Z15p(ty126:Nat)(y:List (Int × Int) × Unit)(g:YG)(x:Int × Unit)(a:(Int × Int) × Unit)(a_1:(Int × Int) × Unit):List HObj:=[HObj.row Md.rw ty126 ((K.int u64).pair (K.int u64)) ((y.1.set (0+(Z6 (some g) x.1).1.1.toNat) a.1).set (0+(Z6 (some g) x.1).1.2.2.1.toNat) a_1.1)]
def Z15q(ty126:Nat)(y:List (Int × Int) × Unit)(ty2:Nat)(s:List Int):List HObj:=Zcq ty126 y++[HObj.row Md.rw ty2 (K.int i64) (List.replicate s.length (0:Int))]
def Z15r(ty126:Nat)(y:List (Int × Int) × Unit)(ty2:Nat)(y_1:List Int × Unit)(x:Int × Unit)(a:Int × Bool × Unit):List HObj:=Zcq ty126 y++[HObj.row Md.rw ty2 (K.int i64) (y_1.1.set (0+x.1.toNat) a.1)]
def Ze3:=λ(ty126 ty2:Nat)(g:YG)(s f:List Int)(post:List Int × Int × Unit->Prop)=>∃(h:True),∀ a,a=((↑s.length:Int) != (Zw (some
 g)).1)->Br a (post ([],(1:Int),())) (∃(h:True),∀ a,a=((↑f.length:Int) != (Zp (some g)).1)->Br a (post ([],(1:Int),())) (∃(h:(0:Int)<=
 (↑s.length:Int)/\(↑s.length:Int)<=(↑s.length:Int)/\(↑s.length:Int)*(↑(16:Nat):Int)<=(281474976710656:Int)),HS (Z15n ty126 s)/\∃(I:Int × Unit->
 List (Int × Int) × Unit->Prop),∃(μ:Int × Unit->List (Int × Int) × Unit->Nat),I ((0:Int),()) (List.replicate s.length ((K.int u64).pair (K.int
 u64)).dflt,())/\∀(x:Int × Unit)(y:List (Int × Int) × Unit),I x y->∀ a,a=decide (x.1<(↑s.length:Int))->Br a (∃(h:(0:Int)<=x.1/\x.1<(↑s.length:
 Int)),∃(h:(0:Int)<=x.1/\x.1<(↑s.length:Int)),∃(h:Z86 (y.1.getD ((0:Nat)+x.1.toNat) ((K.int u64).pair (K.int u64)).dflt) (s.getD x.1.toNat (0
 : Int))),∀ a,a=Z13b (y.1.getD ((0:Nat)+x.1.toNat) ((K.int u64).pair (K.int u64)).dflt) (s.getD x.1.toNat (0:Int))->∃(h:(0:Int)<=x.1/\x.1 <
 (↑s.length:Int)),HS (Z15o ty126 y x a)/\I (i64.wrap (x.1+(1:Int)),()) (y.1.set ((0:Nat)+x.1.toNat) a.1,())/\μ (i64.wrap (x.1+(1:
 Int)),()) (y.1.set ((0:Nat)+x.1.toNat) a.1,())<μ x y) (HS (Zcq ty126 y)/\∃(I:Int × Unit->List (Int × Int) × Unit->Prop),∃(μ:Int × Unit->List (Int ×
 Int) × Unit->Nat),I ((0:Int),()) (y.1,())/\∀(x:Int × Unit)(y:List (Int × Int) × Unit),I x y->∀ a,a=decide (x.1<(↑f.length:Int))->Br a (∃(h:(0:Int)<=
 x.1/\x.1<(↑f.length:Int)),∃(h:Z2z (some g) x.1),∃(h:(0:Int)<=(Z6 (some g) x.1).1.1/\(Z6 (some g) x.1).1.1<(↑s.length:Int)),∃
 (h:Z86 (y.1.getD ((0:Nat)+(Z6 (some g) x.1).1.1.toNat) ((K.int u64).pair (K.int u64)).dflt) (f.getD x.1.toNat (0:Int))),∀ a,a=Zwz
 (y.1.getD ((0:Nat)+(Z6 (some g) x.1).1.1.toNat) ((K.int u64).pair (K.int u64)).dflt) (f.getD x.1.toNat (0:Int))->∃(h:(0:Int)<=(Z6
 (some g) x.1).1.1/\(Z6 (some g) x.1).1.1<(↑s.length:Int)),∃(h:(0:Int)<=(Z6 (some g) x.1).1.2.2.1/\(Z6 (some g) x.1).1.2.2.1 <
 (↑s.length:Int)),∃(h:Z86 ((y.1.set ((0:Nat)+(Z6 (some g) x.1).1.1.toNat) a.1).getD ((0:Nat)+(Z6 (some g) x.1).1.2.2.1.toNat) ((K.int
 u64).pair (K.int u64)).dflt) (f.getD x.1.toNat (0:Int))),∀ a_1,a_1=Z13b ((y.1.set ((0:Nat)+(Z6 (some g) x.1).1.1.toNat) a.1).getD ((0:Nat)
 + (Z6 (some g) x.1).1.2.2.1.toNat) ((K.int u64).pair (K.int u64)).dflt) (f.getD x.1.toNat (0:Int))->∃(h:(0:Int)<=(Z6 (some g)
 x.1).1.2.2.1/\(Z6 (some g) x.1).1.2.2.1<(↑s.length:Int)),HS (Z15p ty126 y g x a a_1)/\I (i64.wrap (x.1+(1:Int)),()) ((y.1.set ((0:Nat)
 + (Z6 (some g) x.1).1.1.toNat) a.1).set ((0:Nat)+(Z6 (some g) x.1).1.2.2.1.toNat) a_1.1,())/\μ (i64.wrap (x.1+(1:Int)),()) ((y.1.set ((0:
 Nat)+(Z6 (some g) x.1).1.1.toNat) a.1).set ((0:Nat)+(Z6 (some g) x.1).1.2.2.1.toNat) a_1.1,())<μ x y) (∃(h:(0:Int)<=(↑s.length:Int)/\
 (↑s.length:Int)<=(↑s.length:Int)/\(↑s.length:Int)*(↑(8:Nat):Int)<=(281474976710656:Int)),HS (Z15q ty126 y ty2 s)/\∃(I:Int × Unit->List Int × Unit
 -> Prop),∃(μ:Int × Unit->List Int × Unit->Nat),I ((0:Int),()) (List.replicate s.length (0:Int),())/\∀(x:Int × Unit)(y_1:List Int × Unit),I x y_1->∀ a,a=
 decide (x.1<(↑s.length:Int))->Br a (∃(h:(0:Int)<=x.1/\x.1<(↑s.length:Int)),∃(h:Z13c ((y.1.getD ((0:Nat)+x.1.toNat) ((K.int u64).pair (K.int
 u64)).dflt).1,(y.1.getD ((0:Nat)+x.1.toNat) ((K.int u64).pair (K.int u64)).dflt).2)),∀ a,a=Za8 ((y.1.getD ((0:Nat)+x.1.toNat) ((K.int
 u64).pair (K.int u64)).dflt).1,(y.1.getD ((0:Nat)+x.1.toNat) ((K.int u64).pair (K.int u64)).dflt).2)->Br (!a.2.1) (post ([],(20:Int),()))
 (∀ a_1,a_1=decide (a.1<(0:Int))->Br a_1 (post ([],(20:Int),())) (∃(h:(0:Int)<=x.1/\x.1<(↑s.length:Int)),HS (Z15r ty126 y ty2 y_1 x a)/\I
 (i64.wrap (x.1+(1:Int)),()) (y_1.1.set ((0:Nat)+x.1.toNat) a.1,())/\μ (i64.wrap (x.1+(1:Int)),()) (y_1.1.set ((0:Nat)+x.1.toNat) a.1,())<μ x
 y_1))) (((0:Nat)=(0:Nat)/\s.length=y_1.1.length)/\post (y_1.1,(0:Int),()))))))
theorem Z18v(ty0 ty1:Nat)(g:YG)(s:List Int)(f:List Int)(h:Z13d (some g) s f):Ze3 ty0 ty1 g s f (λr=>r=Zbx (some g) s f):=by
 obtain⟨hg,hs,hf⟩:=h;obtain⟨n,gn,hgn⟩:=Z4o hg;obtain rfl:g=netG n:=hgn;obtain⟨m,hm⟩:∃ m,(netE n).1.length=m:=⟨_,rfl⟩;have hE:(Zp (some (netG n))).fst=(m:Int):=by rw[<- hm]; rfl
 have hE2:Zi (some (netG n))=(m:Int):=hE;have cr:=Z2p n
 have mb:m<=4*(Z2 n).toNat:=by
  rw[<- hm]; exact(Zas n (Z2 n).toNat (by omega)).2
 have hC:(Zw (some (netG n))).fst=Z2 n:=Z1j n
 have key:Zbx (some (netG n)) s f=if(!(decide ((s.length:Int)=Z2 n)&&decide ((f.length:Int)=m)))=true then([],1,())else if(List.range s.length).all (λc=>decide (0<=hasV (some (netG n)) s f c)&&decide (hasV (some (netG n)) s f c<9223372036854775808))=true then((List.range s.length).map (hasV (some (netG n)) s f),0,())else([],20,()):=by
  unfold Zbx Zha; rw[if_neg (by simp),Z1j,hE2]; split
  ·rfl
  ·split <;> rfl
 unfold Ze3;rw[hC,hE,key];refine⟨trivial,?_⟩;rintro _ rfl;refine Br.intro (λe=>?_) λe1=>?_
 ·have e:¬ (s.length:Int)=Z2 n:=by simpa using e
  rw[decide_eq_false e]; rfl
 have e1:(s.length:Int)=Z2 n:=by simpa using e1
 refine⟨trivial,?_⟩;rintro _ rfl;refine Br.intro (λe=>?_) λe2=>?_
 ·have e:¬ (f.length:Int)=m:=by simpa using e
  rw[decide_eq_false e,Bool.and_false]; rfl
 have e2:(f.length:Int)=m:=by simpa using e2
 rw[decide_eq_true e1,decide_eq_true e2,if_neg (by decide)];refine⟨⟨by omega,by omega,by omega⟩,rfl,λx y=>∃ k:Nat,x.1=k/\k<=s.length/\y.1.length=s.length/\∀ c,c<s.length->y.1.getD c ((K.pair (K.int .u64) (K.int .u64)).dflt)=Z1m (if c<k then s.getD c 0 else 0),λx _=>s.length - x.1.toNat,⟨0,rfl,by omega,List.length_replicate,λc hc=>?_⟩,?_⟩
 ·rw[if_neg (Nat.not_lt_zero c)];show(List.replicate s.length ((0,0):Int × Int)).getD c (0,0)=_;rw[List.getD_eq_getElem?_getD,List.getElem?_replicate,if_pos hc]; rfl
 rintro⟨_,⟨⟩⟩ ⟨y,⟨⟩⟩ ⟨k,rfl,hk,hy,hv⟩;dsimp only at hy hv ⊢;rintro _ rfl;refine Br.intro (λe3=>?_) λe3=>?_
 ·have e3:k<s.length:=by have:=of_decide_eq_true e3; omega
  rw[Int.toNat_natCast,Nat.zero_add];have xi:I64 (s.getD k 0):=hs _ (Zu e3 0)
  have hw:Z86 (y.getD k ((K.pair (K.int .u64) (K.int .u64)).dflt)) (s.getD k 0):=by
   rw[hv k e3]; exact⟨(Z6k _).1,(Z6k _).2,xi⟩
  refine⟨⟨by omega,by omega⟩,⟨by omega,by omega⟩,hw,?_⟩;rintro _ rfl;refine⟨⟨by omega,by omega⟩,rfl,?_⟩;rw[Z19 e3 (by omega)];refine⟨⟨k+1,rfl,by omega,by rw[List.length_set]; exact hy,?_⟩,by omega⟩;exact Z1t7 (v:=λc=>s.getD c 0) e3 hy hv
 have e3:k=s.length:=by have:=of_decide_eq_false e3; omega
 subst e3;refine⟨rfl,λx y=>∃ k:Nat,x.1=k/\k<=m/\y.1.length=s.length/\∀ c,c<s.length->y.1.getD c ((K.pair (K.int .u64) (K.int .u64)).dflt)=Z1m (s.getD c 0+Z8s (λk=>Zx (some (netG n)) k) f c k),λx _=>m - x.1.toNat,⟨0,rfl,by omega,hy,λc hc=>?_⟩,?_⟩
 ·rw[hv c hc,if_pos hc]; unfold Z8s; rw[Int.add_zero]
 clear hv hy y;rintro⟨_,⟨⟩⟩ ⟨y,⟨⟩⟩ ⟨k,rfl,hk,hy,hv⟩;dsimp only at hy hv ⊢;rintro _ rfl;refine Br.intro (λe4=>?_) λe4=>?_
 ·have e4:k<m:=by have:=of_decide_eq_true e4; omega
  have isk:nIs (some (netG n)) k=true:=by
   show(decide (0<=(k:Int))&&decide ((k:Int)<((netE n).1.length:Nat)))=true;rw[decide_eq_true (by omega),decide_eq_true (by omega)]; rfl
  have ec:=Z9f isk;have hL:0<=(Zx (some (netG n)) k).1/\(Zx (some (netG n)) k).1<(s.length:Int):=by omega
  have hR:0<=(Zx (some (netG n)) k).2.2.1/\(Zx (some (netG n)) k).2.2.1<(s.length:Int):=by omega
  have hE3:(Z6 (some (netG n)) k).fst=Zx (some (netG n)) k:=rfl;rw[hE3,Int.toNat_natCast,Nat.zero_add,Nat.zero_add];have xi:I64 (f.getD k 0):=hf _ (Zu (by omega) 0)
  have hw:Z86 (y.getD (Zx (some (netG n)) k).1.toNat ((K.pair (K.int .u64) (K.int .u64)).dflt)) (f.getD k 0):=by
   rw[hv _ (by omega)]; exact⟨(Z6k _).1,(Z6k _).2,xi⟩
  refine⟨⟨by omega,by omega⟩,⟨hg,by omega,by omega⟩,hL,hw,?_⟩;rintro _ rfl;refine⟨hL,hR,?_⟩;have ts:=Z1t8 (x:=f.getD k 0) hL hR hy hv;have hw2:Z86 ((y.set (Zx (some (netG n)) k).1.toNat (Zwz (y.getD (Zx (some (netG n)) k).1.toNat ((K.pair (K.int .u64) (K.int .u64)).dflt)) (f.getD k 0)).1).getD (Zx (some (netG n)) k).2.2.1.toNat ((K.pair (K.int .u64) (K.int .u64)).dflt)) (f.getD k 0):=Z1ms hL hR hy hv xi;refine⟨hw2,?_⟩;rintro _ rfl;refine⟨hR,rfl,?_⟩;rw[Z19 e4 (by omega)];refine⟨⟨k+1,rfl,by omega,by rw[List.length_set,List.length_set]; exact hy,λc hc=>?_⟩,by omega⟩;refine(ts c hc).trans (congrArg Z1m ?_);show _+_+_=_+(_+_+_);rw[Int.add_assoc,Int.add_assoc,Int.add_assoc]
 have e4:k=m:=by have:=of_decide_eq_false e4; omega
 subst e4;have hm2:f.length=k:=by omega
 have hv:∀ c,c<s.length->y.getD c ((K.pair (K.int .u64) (K.int .u64)).dflt)=Z1m (hasV (some (netG n)) s f c):=λc hc=>by
  rw[hv c hc]; unfold hasV; rw[hm2]
 refine⟨⟨by omega,by omega,by omega⟩,rfl,λx y=>∃ k:Nat,x.1=k/\k<=s.length/\(∀ j,j<k->okV (hasV (some (netG n)) s f j)=true)/\y.1=(List.range k).map (hasV (some (netG n)) s f)++List.replicate (s.length - k) 0,λx _=>s.length - x.1.toNat,⟨0,rfl,by omega,λj hj=>by omega,rfl⟩,?_⟩;rintro⟨_,⟨⟩⟩ ⟨_,⟨⟩⟩ ⟨j,rfl,hj,hok,rfl⟩;dsimp only;rintro _ rfl;have lk:((List.range j).map (hasV (some (netG n)) s f)).length=j:=by rw[List.length_map,List.length_range]
 refine Br.intro (λe5=>?_) λe5=>?_
 rotate_left
 ·have e5:j=s.length:=by have:=of_decide_eq_false e5; omega
  subst e5;rw[if_pos (Z1v9 hok),Nat.sub_self,List.replicate_zero,List.append_nil];exact⟨⟨rfl,lk.symm⟩,rfl⟩
 have e5:j<s.length:=by have:=of_decide_eq_true e5; omega
 rw[Int.toNat_natCast,show y.getD (0+j) ((K.pair (K.int .u64) (K.int .u64)).dflt)=Z1m (hasV (some (netG n)) s f j) by rw[Nat.zero_add]; exact hv j e5];have si:I64 (s.getD j 0):=hs _ (Zu e5 0);have br:=Z1al (ed:=λk=>Zx (some (netG n)) k) (c:=(j:Int)) hf f.length;have hV:hasV (some (netG n)) s f j=s.getD j 0+Z8s (λk=>Zx (some (netG n)) k) f j f.length:=rfl
 have vb:-85070591730234615865843651857942052864<=hasV (some (netG n)) s f j/\hasV (some (netG n)) s f j<85070591730234615865843651857942052864:=by
  rw[hV]; obtain⟨s1,s2⟩:=si; omega
 have q:=Z1wh vb.1 vb.2;refine⟨⟨by omega,by omega⟩,⟨(Z6k _).1,(Z6k _).2⟩,?_⟩;rintro _ rfl;refine Br.intro (λe6=>?_) λe6=>?_
 ·have e6:(!(Za8 (Z1m (hasV (some (netG n)) s f j))).2.1)=true:=e6;have nI:=q.2 (by simpa using e6);rw[if_neg (Z1gr e5 λz=>nI ⟨by omega,z.2⟩)]
 have e6:(!(Za8 (Z1m (hasV (some (netG n)) s f j))).2.1)=false:=e6;obtain⟨q1,q2⟩:=q.1 (by simpa using e6);have q1:(Za8 ((Z1m (hasV (some (netG n)) s f j)).1,(Z1m (hasV (some (netG n)) s f j)).2)).1=hasV (some (netG n)) s f j:=q1;rw[q1];rintro _ rfl;refine Br.intro (λe7=>?_) λe7=>?_
 ·have e7:=of_decide_eq_true e7;rw[if_neg (Z1gr e5 λz=>by omega)]
 have e7:=of_decide_eq_false e7;refine⟨⟨by omega,by omega⟩,rfl,?_⟩;rw[Z19 e5 (by omega),Zpm lk e5];refine⟨⟨j+1,rfl,by omega,λi hi=>?_,?_⟩,by omega⟩
 ·by_cases ej:i=j
  ·subst ej; exact Z1kz.2 ⟨by omega,q2.2⟩
  ·exact hok i (by omega)
 rw[List.range_succ,List.map_append,List.map_singleton]
def Z9r:=λ(w:Int × Int)(x:Int)(post:(Int × Int) × Unit->Prop)=>∃(h:Z9c w.2 (u64.wrap x) 0),∀ a,a=addR w.2 (u64.wrap x)
 0->∃(h:(0:Int)<=63),∃(h:Z9c w.1 (u64.wrap (x.fdiv (2 ^ Min.min (Int.toNat 63) i64.bits))) a.2.1),∀ a_1,a_1=addR
 w.1 (u64.wrap (x.fdiv (2 ^ Min.min (Int.toNat 63) i64.bits))) a.2.1->post ((a_1.1,a.1),())
theorem Zxv(w:Int × Int)(x:Int)(h:Z86 w x):Z9r  w x (λr=>r=Z13b w x):=by
 have hx:=h.2.2;have c:=Z1ak h;unfold Z9r;rw[ux hx,sx hx];refine⟨c.2.2,?_⟩;rintro _ rfl;refine⟨by decide,c.1,?_⟩;rintro _ rfl;exact congrArg (λz=>(z,())) (Z1t6 h)
def Z91:=λ(w:Int × Int)(x:Int)(post:(Int × Int) × Unit->Prop)=>∃(h:Z9c w.2 (u64.wrap x) 0),∀ a,a=subR w.2 (u64.wrap
 x) 0->∃(h:(0:Int)<=63),∃(h:Z9c w.1 (u64.wrap (x.fdiv (2 ^ Min.min (Int.toNat 63) i64.bits))) a.2.1),∀ a_1,a_1=subR
 w.1 (u64.wrap (x.fdiv (2 ^ Min.min (Int.toNat 63) i64.bits))) a.2.1->post ((a_1.1,a.1),())
theorem Zw0(w:Int × Int)(x:Int)(h:Z86 w x):Z91  w x (λr=>r=Zwz w x):=by
 have hx:=h.2.2;have c:=Z1ak h;unfold Z91;rw[ux hx,sx hx];refine⟨c.2.2,?_⟩;rintro _ rfl;refine⟨by decide,c.2.1,?_⟩;rintro _ rfl;exact congrArg (λz=>(z,())) (Z1qg h)
def Z84:=λ(w:Int × Int)(post:Int × Bool × Unit->Prop)=>∃(h:(0:Int)<=63),∀ a,a=(w.1==u64.wrap ((i64.wrap w.2).fdiv
 (2 ^ Min.min (Int.toNat 63) i64.bits)))->post (i64.wrap w.2,a,())
theorem Zsz(w:Int × Int)(h:Z13c w):Z84  w (λr=>r=Za8 w):=by
 unfold Z84;rw[sx (Zzw _)];refine⟨by decide,?_⟩;rintro _ rfl;exact Z1v8 h
section
theorem Z2o.two {w w':World}{k l:K}{x:k.T}{y:l.T}{v u:Value}{ok:Nat->Prop}(h:∀ fr,KRep w' fr k x v)(h2:∀ fr,KRep w' fr l y u):Z2o w w' ok [.snap k,.snap l] (x,y,()) (.tuple #[v,u]):=
 ⟨[v,u],[],rfl,λi j b h=>by simp at h,v,[u],[],[],rfl,rfl,⟨rfl,h _⟩,u,[],[],[],rfl,rfl,⟨rfl,h2 _⟩,rfl,rfl⟩
def Z1hy:Array Value->Sem Value:=λargs=>do
 let(x,y,b) <- Extern.MathBitsCarry.three "Sub64" args
 pure (Extern.MathBitsCarry.pair ((x+Extern.MathBitsCarry.m64 - y - b) % Extern.MathBitsCarry.m64) (if x<y+b then 1 else 0))
theorem Z1nl {P:Program}(x y c:Int)(hx:0<=x)(hy:0<=y)(hx2:x<18446744073709551616)(hy2:y<18446744073709551616)(hc0:0<=c)(hc:c<=1)(w:World):
  (Z1hy #[.int .u64 x,.int .u64 y,.int .u64 c]).run P w=.ok (.tuple #[.int .u64 ((x - y - c) % 18446744073709551616),.int .u64 (if x - y - c<0 then 1 else 0)]) w:=by
 have key:∀ k:Nat,k<=1->(Z1hy #[.int .u64 x,.int .u64 y,.int .u64 (k:Int)]).run P w=
   .ok (Extern.MathBitsCarry.pair ((x.toNat+Extern.MathBitsCarry.m64 - y.toNat - k) % Extern.MathBitsCarry.m64) (if x.toNat<y.toNat+k then 1 else 0)) w:=by
  intro k hk;have:k=0∨k=1:=by omega
  rcases this with rfl | rfl <;> rfl
 obtain⟨k,rfl⟩:=Int.eq_ofNat_of_zero_le hc0;rw[key k (by omega)];obtain⟨X,rfl⟩:=Int.eq_ofNat_of_zero_le hx;obtain⟨Y,rfl⟩:=Int.eq_ofNat_of_zero_le hy;have e1:((((X+18446744073709551616 - Y - k) % 18446744073709551616:Nat):Int))=((X:Int) - Y - k) % 18446744073709551616:=by omega
 have e2:(((if X<Y+k then 1 else 0:Nat):Int))=if(X:Int) - Y - k<0 then 1 else 0:=by
  by_cases h:X<Y+k
  ·rw[if_pos h,if_pos (by omega)]; rfl
  ·rw[if_neg h,if_neg (by omega)]; rfl
 have e3:Extern.MathBitsCarry.pair (((X:Int).toNat+Extern.MathBitsCarry.m64 - (Y:Int).toNat - k) % Extern.MathBitsCarry.m64) (if(X:Int).toNat<(Y:Int).toNat+k then 1 else 0)=.tuple #[.int .u64 (((X+18446744073709551616 - Y - k) % 18446744073709551616:Nat):Int),.int .u64 ((if X<Y+k then 1 else 0:Nat):Int)]:=by
  simp only[Extern.MathBitsCarry.pair,Extern.MathBitsCarry.m64,Int.toNat_natCast];rfl
 rw[e3,e1,e2]
section
variable {P:Program} {G:Z85} {f:FuncId} {fn:Func} (hf:P.funcs[f]?=some fn) (hname:(fn.name == "runtime.NumGoroutine")=false) (hb:fn.body.isNone=true) (hn:Extern.findNext fn=none)
include hf hname hb hn
theorem Z1r7(he:Extern.find fn=some add64Entry):(Con.det [.int .u64,.int .u64,.int .u64] [.snap (.int .u64),.snap (.int .u64)] (λx=>Z9c x.1 x.2.1 x.2.2.1) (λx=>addR x.1 x.2.1 x.2.2.1)).holds P G f:=by
 have main:∀(w:World)(ok:Nat->Prop)(x y c:Int)(vs:List Value),vs=[.int .u64 x,.int .u64 y,.int .u64 c]->Z9c x y c->Z2y P f vs.toArray w λv w'=>Grows w w'/\Z2o w w' ok [.snap (.int .u64),.snap (.int .u64)] (addR x y c) v:=by
  rintro w ok x y c _ rfl ⟨hx,hy,h0,h1⟩;refine .inl ⟨.tuple #[.int .u64 ((x+y+c) % 18446744073709551616),.int .u64 ((x+y+c) / 18446744073709551616)],w,?_,Grows.refl w,Z2o.two (k:=.int .u64) (l:=.int .u64) (λ_=>rfl) (λ_=>rfl)⟩;rw[run_callFunc_extern hf hname hb hn he,show [Value.int .u64 x,.int .u64 y,.int .u64 c].toArray=#[.int .u64 x,.int .u64 y,.int .u64 c]from rfl,run_add64 x y c hx.1 hy.1 h0 h1]; rfl
 rintro w ok _ ⟨x,y,c,⟨⟩⟩ vs ⟨v,r,rfl,h1,v2,r2,rfl,h2,v3,r3,rfl,h3,rfl⟩ _ hp;exact main w ok x y c _ (by rw[(List.cons.inj (show [v]=[Value.int .u64 x]from h1)).1,(List.cons.inj (show [v2]=[Value.int .u64 y]from h2)).1,(List.cons.inj (show [v3]=[Value.int .u64 c]from h3)).1]) hp
theorem Z1r8(he:Extern.find fn=some Z1hy):(Con.det [.int .u64,.int .u64,.int .u64] [.snap (.int .u64),.snap (.int .u64)] (λx=>Z9c x.1 x.2.1 x.2.2.1) (λx=>subR x.1 x.2.1 x.2.2.1)).holds P G f:=by
 have main:∀(w:World)(ok:Nat->Prop)(x y c:Int)(vs:List Value),vs=[.int .u64 x,.int .u64 y,.int .u64 c]->Z9c x y c->Z2y P f vs.toArray w λv w'=>Grows w w'/\Z2o w w' ok [.snap (.int .u64),.snap (.int .u64)] (subR x y c) v:=by
  rintro w ok x y c _ rfl ⟨hx,hy,h0,h1⟩;refine .inl ⟨.tuple #[.int .u64 ((x - y - c) % 18446744073709551616),.int .u64 (if x - y - c<0 then 1 else 0)],w,?_,Grows.refl w,Z2o.two (k:=.int .u64) (l:=.int .u64) (λ_=>rfl) (λ_=>rfl)⟩;rw[run_callFunc_extern hf hname hb hn he,show [Value.int .u64 x,.int .u64 y,.int .u64 c].toArray=#[.int .u64 x,.int .u64 y,.int .u64 c]from rfl,Z1nl x y c hx.1 hy.1 hx.2 hy.2 h0 h1]; rfl
 rintro w ok _ ⟨x,y,c,⟨⟩⟩ vs ⟨v,r,rfl,h1,v2,r2,rfl,h2,v3,r3,rfl,h3,rfl⟩ _ hp;exact main w ok x y c _ (by rw[(List.cons.inj (show [v]=[Value.int .u64 x]from h1)).1,(List.cons.inj (show [v2]=[Value.int .u64 y]from h2)).1,(List.cons.inj (show [v3]=[Value.int .u64 c]from h3)).1]) hp
end
end
section
open Go.Proofs
def Z1bb:Cx:=⟨Z1v Z26,Z23 [],SqG⟩
theorem Z1hz:CxOk Tryz.prog Z1bb:=⟨Zn Z12,λf c h=>by cases h⟩
def Zlh:Con:=Con.nam [.int .u64,.int .u64,.int .u64] [.snap (.int .u64),.snap (.int .u64)] (λx=>Z9c x.1 x.2.1 x.2.2.1) (λx=>addR x.1 x.2.1 x.2.2.1)
theorem Z15s:Zlh.holds Tryz.prog SqG 162:=Z62 (by
 refine Z1r7 (fn:=Tryz.f162) Tryz.func162 (by decide) rfl rfl (by kernel_rfl))
def Z1bc:Cx:=addC 162 Zlh Z1bb
theorem Z1i0:CxOk Tryz.prog Z1bc:=Zk Z1hz Z15s
def Zli:Con:=Con.nam [.int .u64,.int .u64,.int .u64] [.snap (.int .u64),.snap (.int .u64)] (λx=>Z9c x.1 x.2.1 x.2.2.1) (λx=>subR x.1 x.2.1 x.2.2.1)
theorem Z15t:Zli.holds Tryz.prog SqG 163:=Z62 (by
 refine Z1r8 (fn:=Tryz.f163) Tryz.func163 (by decide) rfl rfl (by kernel_rfl))
def Z1r9:Cx:=addC 163 Zli Z1bc
theorem Zjh:CxOk Tryz.prog Z1r9:=Zk Z1i0 Z15t
def Zg0:Con:=Con.nam [Zpg,.int .i64] [.snap Zpg] (λx=>Z86 x.1 x.2.1) (λx=>Z13b x.1 x.2.1)
theorem Zw1:SqH Zg0 76:=
 nP Zjh Z5 Zc ({loops:=Z11 [],joins:=λ_=>none,named:=true}) Tryz.func76 (λx p=>Z9r  x.1 x.2.1 p) λx h _=>Zxv  x.1 x.2.1 h
def Zd3:Con:=Con.nam [Zpg,.int .i64] [.snap Zpg] (λx=>Z86 x.1 x.2.1) (λx=>Zwz x.1 x.2.1)
theorem Zt0:SqH Zd3 78:=
 nP Zjh Z5 Zc ({loops:=Z11 [],joins:=λ_=>none,named:=true}) Tryz.func78 (λx p=>Z91  x.1 x.2.1 p) λx h _=>Zw0  x.1 x.2.1 h
def Zcr:Con:=Con.nam [Zpg] [.snap (.int .i64),.snap .bool] (λx=>Z13c x.1) (λx=>Za8 x.1)
theorem Zq3:SqH Zcr 79:=
 nP Zjh Z5 Zc nHn Tryz.func79 (λx p=>Z84  x.1 p) λx h _=>Zsz  x.1 h
end
section
open Go.Proofs
def Z1ra:Cx:=⟨Z1v Z26,Z23 [(32,Z21),(31,Z2d),(76,Zg0),(77,Z3u),(78,Zd3),(79,Zcr)],SqG⟩
theorem Z1i1:CxOk Tryz.prog Z1ra:=⟨Zn Z12,Zr ⟨Z2c,Z2q,Zw1,Z4q,Zt0,Zq3,trivial⟩⟩
def Zs5:Con:=Con.nam [.ptr Z25,.slice (.int .i64),.slice (.int .i64)] [.own 2 (.int .i64),.snap (.int .i64)] (λx=>Z13d x.1 x.2.1 x.2.2.1) (λx=>Zbx x.1 x.2.1 x.2.2.1)
theorem Z1dr:SqH Zs5 28:=
 nPs Z1i1 Z5 Zc ({loops:=Z11 [(7,{ls:=[(.slot 39,.data (.int .i64))],os:=[(0,126,Zpg)]}),(12,{ls:=[(.slot 56,.data (.int .i64))],os:=[(0,126,Zpg)]}),(20,{ls:=[(.slot 95,.data (.int .i64))],os:=[(1,2,.int .i64)]})],joins:=λ_=>none,named:=true}) Tryz.func28 (λy p=>Zog  y.1 y.2.1 p) (λz y p=>Ze3 126 2 z y.1 y.2.1 p) (λy h _=>Z18u  y.1 y.2.1 h) λz y h _=>Z18v 126 2 z y.1 y.2.1 h
end
def Zoh:=λ(s:YS)(post:List Int × List Int × Int × Unit->Prop)=>post ([],[],2,())
theorem Z18w(s:YS)(h:WRun none s):Zoh  s (λr=>r=Z7j none s):=by
 exact rfl
def Z15u(ty29:Nat)(s:YS)(ty2:Nat)(a:List Int × Unit)(a_3:List Int × Unit)(ty3:Nat)(a_4:List Int × Unit):List HObj:=[HObj.box Md.rw ty29 [SV.data (K.flt f64).slice s.1,SV.data (K.int i64).slice s.2.1,SV.data (K.int i64).slice s.2.2.1,SV.data (K.flt f64).slice s.2.2.2.1,SV.val (Go.Value.int i64 s.2.2.2.2.1),SV.val (Go.Value.int i64 s.2.2.2.2.2)],HObj.row Md.rw ty2 (K.int i64) a.1,HObj.row Md.rw ty2 (K.int i64) a_3.1,HObj.row Md.rw ty3 (K.int i64) a_4.1]
def Zcs(ty29:Nat)(s:YS)(ty2:Nat)(y:List Int × List Int × Unit)(ty3:Nat)(a_4:List Int × Unit):List HObj:=[HObj.box Md.rw ty29 [SV.data (K.flt f64).slice s.1,SV.data (K.int i64).slice s.2.1,SV.data (K.int i64).slice s.2.2.1,SV.data (K.flt f64).slice s.2.2.2.1,SV.val (Go.Value.int i64 s.2.2.2.2.1),SV.val (Go.Value.int i64 s.2.2.2.2.2)],HObj.row Md.rw ty2 (K.int i64) y.1,HObj.row Md.rw ty2 (K.int i64) y.2.1,HObj.row Md.rw ty3 (K.int i64) a_4.1]
def Z15v(ty29:Nat)(s:YS)(ty2:Nat)(y:List Int × List Int × Unit)(a_4:List Int × Unit)(x:Int × Unit)(a_6:Int × Unit)(ty3:Nat):List HObj:=[HObj.box Md.rw ty29 [SV.data (K.flt f64).slice s.1,SV.data (K.int i64).slice s.2.1,SV.data (K.int i64).slice s.2.2.1,SV.data (K.flt f64).slice s.2.2.2.1,SV.val (Go.Value.int i64 s.2.2.2.2.1),SV.val (Go.Value.int i64 s.2.2.2.2.2)],HObj.row Md.rw ty2 (K.int i64) ((y.1.set ((0:Nat)+Int.toNat (a_4.1.getD ((0:Nat)+x.1.toNat) (0:Int))) (i64.wrap (y.1.getD ((0:Nat)+Int.toNat (a_4.1.getD ((0:Nat)+x.1.toNat) (0:Int))) (0:Int) - i64.wrap (Int.tdiv (y.1.getD ((0:Nat)+Int.toNat (a_4.1.getD ((0:Nat)+x.1.toNat) (0:Int))) (0:Int)) (4:Int))))).set ((0:Nat)+a_6.1.toNat) (i64.wrap ((y.1.set ((0:Nat)+Int.toNat (a_4.1.getD ((0:Nat)+x.1.toNat) (0:Int))) (i64.wrap (y.1.getD ((0:Nat)+Int.toNat (a_4.1.getD ((0:Nat)+x.1.toNat) (0:Int))) (0:Int) - i64.wrap (Int.tdiv (y.1.getD ((0:Nat)+Int.toNat (a_4.1.getD ((0:Nat)+x.1.toNat) (0:Int))) (0:Int)) (4:Int))))).getD ((0:Nat)+a_6.1.toNat) (0:Int)+i64.wrap (Int.tdiv (y.1.getD ((0:Nat)+Int.toNat (a_4.1.getD ((0:Nat)+x.1.toNat) (0:Int))) (0:Int)) (4:Int))))),HObj.row Md.rw ty2 (K.int i64) ((y.2.1.set ((0:Nat)+Int.toNat (a_4.1.getD ((0:Nat)+x.1.toNat) (0:Int))) (i64.wrap (y.2.1.getD ((0:Nat)+Int.toNat (a_4.1.getD ((0:Nat)+x.1.toNat) (0:Int))) (0:Int) - (prtR (y.2.1.getD ((0:Nat)+Int.toNat (a_4.1.getD ((0:Nat)+x.1.toNat) (0:Int))) (0:Int)) (i64.wrap (Int.tdiv (y.1.getD ((0:Nat)+Int.toNat (a_4.1.getD ((0:Nat)+x.1.toNat) (0:Int))) (0:Int)) (4:Int))) (y.1.getD ((0:Nat)+Int.toNat (a_4.1.getD ((0:Nat)+x.1.toNat) (0:Int))) (0:Int))).1))).set ((0:Nat)+a_6.1.toNat) (i64.wrap ((y.2.1.set ((0:Nat)+Int.toNat (a_4.1.getD ((0:Nat)+x.1.toNat) (0:Int))) (i64.wrap (y.2.1.getD ((0:Nat)+Int.toNat (a_4.1.getD ((0:Nat)+x.1.toNat) (0:Int))) (0:Int) - (prtR (y.2.1.getD ((0:Nat)+Int.toNat (a_4.1.getD ((0:Nat)+x.1.toNat) (0:Int))) (0:Int)) (i64.wrap (Int.tdiv (y.1.getD ((0:Nat)+Int.toNat (a_4.1.getD ((0:Nat)+x.1.toNat) (0:Int))) (0:Int)) (4:Int))) (y.1.getD ((0:Nat)+Int.toNat (a_4.1.getD ((0:Nat)+x.1.toNat) (0:Int))) (0:Int))).1))).getD ((0:Nat)+a_6.1.toNat) (0:Int)+(prtR (y.2.1.getD ((0:Nat)+Int.toNat (a_4.1.getD ((0:Nat)+x.1.toNat) (0:Int))) (0:Int)) (i64.wrap (Int.tdiv (y.1.getD ((0:Nat)+Int.toNat (a_4.1.getD ((0:Nat)+x.1.toNat) (0:Int))) (0:Int)) (4:Int))) (y.1.getD ((0:Nat)+Int.toNat (a_4.1.getD ((0:Nat)+x.1.toNat) (0:Int))) (0:Int))).1))),HObj.row Md.rw ty3 (K.int i64) a_4.1]
def Zoi:=λ(ty29 ty2 ty3:Nat)(g:YG)(s:YS)(post:List Int × List Int × Int × Unit->Prop)=>∃(h:True),∀ a,a=((↑s.1.length:Int) != (Zw
 (some g)).1)->Br a (post ([],[],1,())) (∀ a,a=((↑s.2.1.length:Int) != (Zw (some g)).1)->Br a (post ([],[],1,())) (∀ a,a=((↑s.2.2.1.length:Int)
 != (Zw (some g)).1)->Br a (post ([],[],1,())) (∃(h:True),∀ a,a=((↑s.2.2.2.1.length:Int) != (Zp (some g)).1)->Br a (post ([],[],1,())) (∃
 (h:True),∀ a,a=Z1eg s.2.1->∀ a_1,a_1=a.1->Br (!a_1) (post ([],[],1,())) (∃(h:True),∀ a,a=Z1eg s.2.2.1->∀ a_2,a_2=a.1->Br (!a_2) (post ([],[],1,()))
 (∃(h:Z12z s.2.1),∀ a,a=Zij s.2.1->∃(h:Z12z s.2.2.1),∀ a_3,a_3=Zij s.2.2.1->∃(h:WOrd s.1),∀ a_4,a_4=Z1ef s.1->HS (Z15u ty29 s ty2 a a_3
 ty3 a_4)/\∃(I:Int × Unit->List Int × List Int × Unit->Prop),∃(μ:Int × Unit->List Int × List Int × Unit->Nat),I (0,()) (a.1,a_3.1,())/\∀(x:Int × Unit)(y:List
 Int × List Int × Unit),I x y->∀ a_5,a_5=decide (x.1<(↑a_4.1.length:Int))->Br a_5 (∃(h:(0:Int)<=x.1/\x.1<(↑a_4.1.length:Int)),∃(h:Zwv (some g)
 s.1 (a_4.1.getD ((0:Nat)+x.1.toNat) (0:Int))),∀ a_6,a_6=Zav (some g) s.1 (a_4.1.getD ((0:Nat)+x.1.toNat) (0:Int))->∀ a_7,a_7=decide (a_6.1<(0:
 Int))->Br a_7 (HS (Zcs ty29 s ty2 y ty3 a_4)/\I (i64.wrap (x.1+1),()) (y.1,y.2.1,())/\μ (i64.wrap (x.1+1),()) (y.1,y.2.1,())<μ x y) (∃
 (h:(0:Int)<=a_4.1.getD ((0:Nat)+x.1.toNat) (0:Int)/\a_4.1.getD ((0:Nat)+x.1.toNat) (0:Int)<(↑a.1.length:Int)),∀ a_8,a_8=decide (y.1.getD ((0:Nat)+
 Int.toNat (a_4.1.getD ((0:Nat)+x.1.toNat) (0:Int))) (0:Int)<=(0:Int))->Br a_8 (HS (Zcs ty29 s ty2 y ty3 a_4)/\I (i64.wrap (x.1+1),()) (y.1,
 y.2.1,())/\μ (i64.wrap (x.1+1),()) (y.1,y.2.1,())<μ x y) (∃(h:(0:Int)<=a_4.1.getD ((0:Nat)+x.1.toNat) (0:Int)/\a_4.1.getD ((0:Nat)+x.1.toNat) (0
 : Int)<(↑a.1.length:Int)),∃(h:True),∃(h:II (y.1.getD ((0:Nat)+Int.toNat (a_4.1.getD ((0:Nat)+x.1.toNat) (0:Int))) (0:Int)) (Z14 (some g)
 (a_4.1.getD ((0:Nat)+x.1.toNat) (0:Int))).1),∀ a_9,a_9=fcmp Go.BinOp.lss (f64.format.order (Z50 (y.1.getD ((0:Nat)+Int.toNat (a_4.1.getD ((0:Nat)+
 x.1.toNat) (0:Int))) (0:Int)) (Z14 (some g) (a_4.1.getD ((0:Nat)+x.1.toNat) (0:Int))).1).1 (4602678819172646912:Nat))->Br (!a_9) (HS (Zcs ty29 s
 ty2 y ty3 a_4)/\I (i64.wrap (x.1+1),()) (y.1,y.2.1,())/\μ (i64.wrap (x.1+1),()) (y.1,y.2.1,())<μ x y) (∃(h:(0:Int)<=a_4.1.getD ((0:Nat)+
 x.1.toNat) (0:Int)/\a_4.1.getD ((0:Nat)+x.1.toNat) (0:Int)<(↑a.1.length:Int)),∃(h:(4:Int)≠(0:Int)),∃(h:(0:Int)<=a_4.1.getD ((0:Nat)+x.1.toNat) (0
 : Int)/\a_4.1.getD ((0:Nat)+x.1.toNat) (0:Int)<(↑a_3.1.length:Int)),∃(h:(0:Int)<=a_4.1.getD ((0:Nat)+x.1.toNat) (0:Int)/\a_4.1.getD ((0:Nat)+
 x.1.toNat) (0:Int)<(↑a.1.length:Int)),∃(h:III (y.2.1.getD ((0:Nat)+Int.toNat (a_4.1.getD ((0:Nat)+x.1.toNat) (0:Int))) (0:Int)) (i64.wrap (Int.tdiv
 (y.1.getD ((0:Nat)+Int.toNat (a_4.1.getD ((0:Nat)+x.1.toNat) (0:Int))) (0:Int)) (4:Int))) (y.1.getD ((0:Nat)+Int.toNat (a_4.1.getD ((0:Nat)+x.1.toNat) (0:
 Int))) (0:Int))),∃(h:(0:Int)<=a_4.1.getD ((0:Nat)+x.1.toNat) (0:Int)/\a_4.1.getD ((0:Nat)+x.1.toNat) (0:Int)<(↑a.1.length:Int)),∃(h:(0:Int)<=
 a_4.1.getD ((0:Nat)+x.1.toNat) (0:Int)/\a_4.1.getD ((0:Nat)+x.1.toNat) (0:Int)<(↑a.1.length:Int)),∃(h:(0:Int)<=a_6.1/\a_6.1<(↑a.1.length:Int)),∃(h:
 (0:Int)<=a_6.1/\a_6.1<(↑a.1.length:Int)),∃(h:(0:Int)<=a_4.1.getD ((0:Nat)+x.1.toNat) (0:Int)/\a_4.1.getD ((0:Nat)+x.1.toNat) (0:Int)<(↑a_3.1.length:
 Int)),∃(h:(0:Int)<=a_4.1.getD ((0:Nat)+x.1.toNat) (0:Int)/\a_4.1.getD ((0:Nat)+x.1.toNat) (0:Int)<(↑a_3.1.length:Int)),∃(h:(0:Int)<=a_6.1/\a_6.1 <
 (↑a_3.1.length:Int)),∃(h:(0:Int)<=a_6.1/\a_6.1<(↑a_3.1.length:Int)),HS (Z15v ty29 s ty2 y a_4 x a_6 ty3)/\I (i64.wrap (x.1+1),()) ((y.1.set
 ((0:Nat)+Int.toNat (a_4.1.getD ((0:Nat)+x.1.toNat) (0:Int))) (i64.wrap (y.1.getD ((0:Nat)+Int.toNat (a_4.1.getD ((0:Nat)+x.1.toNat) (0:Int))) (0:Int)
 - i64.wrap (Int.tdiv (y.1.getD ((0:Nat)+Int.toNat (a_4.1.getD ((0:Nat)+x.1.toNat) (0:Int))) (0:Int)) (4:Int))))).set ((0:Nat)+a_6.1.toNat)
 (i64.wrap ((y.1.set ((0:Nat)+Int.toNat (a_4.1.getD ((0:Nat)+x.1.toNat) (0:Int))) (i64.wrap (y.1.getD ((0:Nat)+Int.toNat (a_4.1.getD ((0:Nat)+
 x.1.toNat) (0:Int))) (0:Int) - i64.wrap (Int.tdiv (y.1.getD ((0:Nat)+Int.toNat (a_4.1.getD ((0:Nat)+x.1.toNat) (0:Int))) (0:Int)) (4:Int))))).getD ((0:
 Nat)+a_6.1.toNat) (0:Int)+i64.wrap (Int.tdiv (y.1.getD ((0:Nat)+Int.toNat (a_4.1.getD ((0:Nat)+x.1.toNat) (0:Int))) (0:Int)) (4:Int)))),(y.2.1.set ((0
 : Nat)+Int.toNat (a_4.1.getD ((0:Nat)+x.1.toNat) (0:Int))) (i64.wrap (y.2.1.getD ((0:Nat)+Int.toNat (a_4.1.getD ((0:Nat)+x.1.toNat) (0:Int))) (0:Int) -
 (prtR (y.2.1.getD ((0:Nat)+Int.toNat (a_4.1.getD ((0:Nat)+x.1.toNat) (0:Int))) (0:Int)) (i64.wrap (Int.tdiv (y.1.getD ((0:Nat)+Int.toNat (a_4.1.getD ((0:
 Nat)+x.1.toNat) (0:Int))) (0:Int)) (4:Int))) (y.1.getD ((0:Nat)+Int.toNat (a_4.1.getD ((0:Nat)+x.1.toNat) (0:Int))) (0:Int))).1))).set ((0:Nat)+
 a_6.1.toNat) (i64.wrap ((y.2.1.set ((0:Nat)+Int.toNat (a_4.1.getD ((0:Nat)+x.1.toNat) (0:Int))) (i64.wrap (y.2.1.getD ((0:Nat)+Int.toNat (a_4.1.getD
 ((0:Nat)+x.1.toNat) (0:Int))) (0:Int) - (prtR (y.2.1.getD ((0:Nat)+Int.toNat (a_4.1.getD ((0:Nat)+x.1.toNat) (0:Int))) (0:Int)) (i64.wrap (Int.tdiv
 (y.1.getD ((0:Nat)+Int.toNat (a_4.1.getD ((0:Nat)+x.1.toNat) (0:Int))) (0:Int)) (4:Int))) (y.1.getD ((0:Nat)+Int.toNat (a_4.1.getD ((0:Nat)+x.1.toNat) (0:
 Int))) (0:Int))).1))).getD ((0:Nat)+a_6.1.toNat) (0:Int)+(prtR (y.2.1.getD ((0:Nat)+Int.toNat (a_4.1.getD ((0:Nat)+x.1.toNat) (0:Int))) (0:Int))
 (i64.wrap (Int.tdiv (y.1.getD ((0:Nat)+Int.toNat (a_4.1.getD ((0:Nat)+x.1.toNat) (0:Int))) (0:Int)) (4:Int))) (y.1.getD ((0:Nat)+Int.toNat (a_4.1.getD
 ((0:Nat)+x.1.toNat) (0:Int))) (0:Int))).1)),())/\μ (i64.wrap (x.1+1),()) ((y.1.set ((0:Nat)+Int.toNat (a_4.1.getD ((0:Nat)+x.1.toNat) (0:Int)))
 (i64.wrap (y.1.getD ((0:Nat)+Int.toNat (a_4.1.getD ((0:Nat)+x.1.toNat) (0:Int))) (0:Int) - i64.wrap (Int.tdiv (y.1.getD ((0:Nat)+Int.toNat
 (a_4.1.getD ((0:Nat)+x.1.toNat) (0:Int))) (0:Int)) (4:Int))))).set ((0:Nat)+a_6.1.toNat) (i64.wrap ((y.1.set ((0:Nat)+Int.toNat (a_4.1.getD ((0:Nat)+
 x.1.toNat) (0:Int))) (i64.wrap (y.1.getD ((0:Nat)+Int.toNat (a_4.1.getD ((0:Nat)+x.1.toNat) (0:Int))) (0:Int) - i64.wrap (Int.tdiv (y.1.getD ((0:
 Nat)+Int.toNat (a_4.1.getD ((0:Nat)+x.1.toNat) (0:Int))) (0:Int)) (4:Int))))).getD ((0:Nat)+a_6.1.toNat) (0:Int)+i64.wrap (Int.tdiv (y.1.getD ((0:
 Nat)+Int.toNat (a_4.1.getD ((0:Nat)+x.1.toNat) (0:Int))) (0:Int)) (4:Int)))),(y.2.1.set ((0:Nat)+Int.toNat (a_4.1.getD ((0:Nat)+x.1.toNat) (0:Int)))
 (i64.wrap (y.2.1.getD ((0:Nat)+Int.toNat (a_4.1.getD ((0:Nat)+x.1.toNat) (0:Int))) (0:Int) - (prtR (y.2.1.getD ((0:Nat)+Int.toNat (a_4.1.getD ((0:Nat)+
 x.1.toNat) (0:Int))) (0:Int)) (i64.wrap (Int.tdiv (y.1.getD ((0:Nat)+Int.toNat (a_4.1.getD ((0:Nat)+x.1.toNat) (0:Int))) (0:Int)) (4:Int))) (y.1.getD ((0
 : Nat)+Int.toNat (a_4.1.getD ((0:Nat)+x.1.toNat) (0:Int))) (0:Int))).1))).set ((0:Nat)+a_6.1.toNat) (i64.wrap ((y.2.1.set ((0:Nat)+Int.toNat (a_4.1.getD
 ((0:Nat)+x.1.toNat) (0:Int))) (i64.wrap (y.2.1.getD ((0:Nat)+Int.toNat (a_4.1.getD ((0:Nat)+x.1.toNat) (0:Int))) (0:Int) - (prtR (y.2.1.getD ((0:Nat)+
 Int.toNat (a_4.1.getD ((0:Nat)+x.1.toNat) (0:Int))) (0:Int)) (i64.wrap (Int.tdiv (y.1.getD ((0:Nat)+Int.toNat (a_4.1.getD ((0:Nat)+x.1.toNat) (0:Int)))
 (0:Int)) (4:Int))) (y.1.getD ((0:Nat)+Int.toNat (a_4.1.getD ((0:Nat)+x.1.toNat) (0:Int))) (0:Int))).1))).getD ((0:Nat)+a_6.1.toNat) (0:Int)+(prtR
 (y.2.1.getD ((0:Nat)+Int.toNat (a_4.1.getD ((0:Nat)+x.1.toNat) (0:Int))) (0:Int)) (i64.wrap (Int.tdiv (y.1.getD ((0:Nat)+Int.toNat (a_4.1.getD ((0:Nat)+
 x.1.toNat) (0:Int))) (0:Int)) (4:Int))) (y.1.getD ((0:Nat)+Int.toNat (a_4.1.getD ((0:Nat)+x.1.toNat) (0:Int))) (0:Int))).1)),())<μ x y)))) (((0:Nat)=(0:
 Nat)/\a.1.length=y.1.length)/\((0:Nat)=(0:Nat)/\a_3.1.length=y.2.1.length)/\post (y.1,y.2.1,0,()))))))))
theorem Z18x(ty0 ty1 ty2:Nat)(g:YG)(s:YS)(h:WRun (some g) s)(w:KS.wf [.ptr Z25,kSea] ((some g),s,())):Zoi ty0 ty1 ty2 g s (λr=>r=Z7j (some g) s):=by
 obtain⟨hg,hw,hi1,hi2⟩:=h;obtain⟨n,gn,rfl⟩:=Z4o hg;obtain⟨m,hm⟩:∃ m,(Zp (some (netG n))).1=m:=⟨_,rfl⟩;have hC:(Zw (some (netG n))).1=Z2 n:=Z1j n;have hR:Z7j (some (netG n)) s=runF true (Z2 n) m (Zv n) (Z4t true (Z2 n) n s.1) s:=by rw[<- hm]; unfold Z7j; rw[Z1j]; rfl
 have cr:=Z2p n;have hD:∀ c,(Zav (some (netG n)) s.1 c).fst=Z4t true (Z2 n) n s.1 c:=λc=>by unfold Zav; rw[Z1j]; rfl
 have bad:((Z2l (Z2 n) m s&&Z2k 0 s.2.1)&&Z2k 0 s.2.2.1)=false->([],[],1,())=Z7j (some (netG n)) s:=λh=>by rw[hR,Z1gn h]
 have main:Z2l (Z2 n) m s=true->Z2k 0 s.2.1=true->Z2k 0 s.2.2.1=true->∀ area down,area=Zv n->down=Z4t true (Z2 n) n s.1->Z7j (some (netG n)) s=((runA area down (ordL s.1) (s.2.1,s.2.2.1)).1,(runA area down (ordL s.1) (s.2.1,s.2.2.1)).2,0,()):=by
  rintro h1 h2 h3 _ _ rfl rfl;rw[hR,Zug h1 h2 h3]
 refine⟨trivial,?_⟩;rw[hC,hm];have bad1:∀ {b:Bool},Z2l (Z2 n) m s=b->b=false->([],[],1,())=Z7j (some (netG n)) s:=λ {b} h1 h2=>bad (by rw[h1,h2]; rfl);have nofit:¬ ((s.1.length:Int)=Z2 n/\(s.2.1.length:Int)=Z2 n/\(s.2.2.1.length:Int)=Z2 n/\(s.2.2.2.1.length:Int)=m)->([],[],1,())=Z7j (some (netG n)) s:=λh=>bad1 rfl (by rw[Bool.eq_false_iff]; exact λq=>h (Z48.1 q));rintro _ rfl;refine Br.intro (λe=>nofit λq=>absurd q.1 (bne_iff_ne.1 e)) λf1=>?_;have f1:(s.1.length:Int)=Z2 n:=by simpa using f1
 rintro _ rfl;refine Br.intro (λe=>nofit λq=>absurd q.2.1 (bne_iff_ne.1 e)) λf2=>?_;have f2:(s.2.1.length:Int)=Z2 n:=by simpa using f2
 rintro _ rfl;refine Br.intro (λe=>nofit λq=>absurd q.2.2.1 (bne_iff_ne.1 e)) λf3=>?_;have f3:(s.2.2.1.length:Int)=Z2 n:=by simpa using f3
 refine⟨trivial,?_⟩;rintro _ rfl;refine Br.intro (λe=>nofit λq=>absurd q.2.2.2 (bne_iff_ne.1 e)) λf4=>?_;have f4:(s.2.2.2.1.length:Int)=m:=by simpa using f4
 have hf:Z2l (Z2 n) m s=true:=Z48.2 ⟨f1,f2,f3,f4⟩;refine⟨trivial,?_⟩;rintro _ rfl;rintro _ rfl
 refine Br.intro (λe=>bad (by
  have e:(!Z2k 0 s.2.1)=true:=e;have e:Z2k 0 s.2.1=false:=by simpa using e
  rw[hf,e]; rfl)) λe=>?_
 have hk1:Z2k 0 s.2.1=true:=by
  have e:(!Z2k 0 s.2.1)=false:=e;simpa using e
 refine⟨trivial,?_⟩;rintro _ rfl;rintro _ rfl
 refine Br.intro (λe=>bad (by
  have e:(!Z2k 0 s.2.2.1)=true:=e;have e:Z2k 0 s.2.2.1=false:=by simpa using e
  rw[hf,hk1,e]; rfl)) λe=>?_
 have hk2:Z2k 0 s.2.2.1=true:=by
  have e:(!Z2k 0 s.2.2.1)=false:=e;simpa using e
 clear bad1 nofit;have e1:=Z48.1 hf;have q1:=Z54 hk1 (by decide);have q2:=Z54 hk2 (by decide);have p1:Pool s.1.length s.2.1.sum s.2.1:=⟨by omega,q1.1,rfl⟩;have p2:Pool s.1.length s.2.2.1.sum s.2.2.1:=⟨by omega,q2.1,rfl⟩;refine⟨by show s.2.1.length<=65536; omega,?_⟩;rintro _ rfl;refine⟨by show s.2.2.1.length<=65536; omega,?_⟩;rintro _ rfl;refine⟨⟨hw,by omega⟩,?_⟩;rintro _ rfl;have hm2:=main hf hk1 hk2 _ _ rfl rfl;rw[hm2];clear hm2 main bad hR;dsimp only[Z1ef,Zij];have lo:(ordL s.1).length=s.1.length:=by unfold ordL; rw[Z1mq]; simp
 have mo:∀ c ∈ ordL s.1,0<=c/\c<(s.1.length:Int):=λc hc=>by have:=Z13r hc; simp at this; omega
 have hdr:=Z1qc (n:=n) (bed:=s.1) e1.1;simp only[hD];obtain⟨down,hdn⟩:∃ down,Z4t true (Z2 n) n s.1=down:=⟨_,rfl⟩;rw[hdn]at hdr ⊢;have pk:∀ k:Nat,Pool s.1.length s.2.1.sum (runA (Zv n) down ((ordL s.1).take k) (s.2.1,s.2.2.1)).1/\Pool s.1.length s.2.2.1.sum (runA (Zv n) down ((ordL s.1).take k) (s.2.1,s.2.2.1)).2:=λk=>Z179 hdr _ (λc hc=>mo c (List.mem_of_mem_take hc)) p1 p2;refine⟨rfl,λx y=>∃ k:Nat,x.1=k/\k<=(ordL s.1).length/\y.1=(runA (Zv n) down ((ordL s.1).take k) (s.2.1,s.2.2.1)).1/\y.2.1=(runA (Zv n) down ((ordL s.1).take k) (s.2.1,s.2.2.1)).2,λx _=>(ordL s.1).length - x.1.toNat,⟨0,rfl,by omega,rfl,rfl⟩,?_⟩;rintro⟨_,⟨⟩⟩ ⟨_,_,⟨⟩⟩ ⟨k,rfl,hk,rfl,rfl⟩;dsimp only;obtain⟨st,hst⟩:∃ st,runA (Zv n) down ((ordL s.1).take k) (s.2.1,s.2.2.1)=st:=⟨_,rfl⟩;have pst:=pk k;rw[hst]at pst ⊢;obtain⟨pw,pt⟩:=pst;have lw:=pw.len;have lt:=pt.len;rintro _ rfl;refine Br.intro (λd=>?_) λd=>?_
 rotate_left
 ·have d:k=(ordL s.1).length:=by have d:¬ (k:Int)<(ordL s.1).length:=of_decide_eq_false d; omega
  rw[d,List.take_length]at hst;rw[hst];exact⟨⟨by trivial,by omega⟩,⟨by trivial,by omega⟩,rfl⟩
 have d:k<(ordL s.1).length:=by have d:(k:Int)<(ordL s.1).length:=of_decide_eq_true d; omega
 have hs1:=Z1qb (area:=Zv n) (down:=down) (st:=(s.2.1,s.2.2.1)) d;rw[hst]at hs1;have hcm:=mo _ (Zx1 d);simp only[Int.toNat_natCast,Nat.zero_add];rw[Z19 d (by omega)];obtain⟨c,hc⟩:∃ c,(ordL s.1).getD k 0=c:=⟨_,rfl⟩;have hc':at0 (ordL s.1) k=c:=hc;rw[hc']at hs1 hcm;simp only[hc];have hdc:=hdr c hcm.1 hcm.2;have cw:0<=c/\c<(s.2.1.length:Int):=by omega
 have ct:0<=c/\c<(s.2.2.1.length:Int):=by omega
 have aw:=pw.at (i:=c.toNat) (by omega);have at_:=pt.at (i:=c.toNat) (by omega);have aw:0<=st.1.getD c.toNat 0/\st.1.getD c.toNat 0<=s.2.1.sum:=aw;have at_:0<=st.2.getD c.toNat 0/\st.2.getD c.toNat 0<=s.2.2.1.sum:=at_;have next:∀ w t:List Int,(w,t)=Z5g (Zv n) down st c->(∃ j:Nat,((k+1:Nat):Int)=j/\j<=(ordL s.1).length/\w=(runA (Zv n) down ((ordL s.1).take j) (s.2.1,s.2.2.1)).1/\t=(runA (Zv n) down ((ordL s.1).take j) (s.2.1,s.2.2.1)).2)/\(ordL s.1).length - (((k+1:Nat):Int)).toNat<(ordL s.1).length - k:=λw t h=>⟨⟨k+1,rfl,by omega,by rw[hs1,<- h],by rw[hs1,<- h]⟩,by omega⟩;have skip:(down c<0∨st.1.getD c.toNat 0<=0∨Zik (st.1.getD c.toNat 0) (Zv n c)=false)->(st.1,st.2)=Z5g (Zv n) down st c:=λh=>by unfold Z5g; rw[if_pos h]
 refine⟨⟨by omega,by omega⟩,⟨hg,hw⟩,?_⟩;rintro _ rfl;simp only[hD,hdn];rintro _ rfl;refine Br.intro (λe=>⟨rfl,next _ _ (skip (.inl (of_decide_eq_true e)))⟩) λe=>?_;have e:=of_decide_eq_false e;refine⟨cw,?_⟩;rintro _ rfl;refine Br.intro (λf=>⟨rfl,next _ _ (skip (.inr (.inl (of_decide_eq_true f))))⟩) λf=>?_;have f:=of_decide_eq_false f;have ar:=Zde n c;have hA:(Z14 (some (netG n)) c).fst=Zv n c:=Z6e hcm.1 (by omega);rw[hA];refine⟨cw,trivial,⟨⟨by omega,by omega⟩,ar.1⟩,?_⟩;rintro _ rfl
 refine Br.intro (λg=>⟨rfl,next _ _ (skip (.inr (.inr (by
  have g:(!Zik (st.1.getD c.toNat 0) (Zv n c))=true:=g;simpa using g))))⟩) λg=>?_
 have g:Zik (st.1.getD c.toNat 0) (Zv n c)=true:=by
  have g:(!Zik (st.1.getD c.toNat 0) (Zv n c))=false:=g;simpa using g
 have w4:i64.wrap (Int.tdiv (st.1.getD c.toNat 0) 4)=st.1.getD c.toNat 0 / 4:=by
  rw[Int.tdiv_eq_ediv_of_nonneg aw.1]; exact Zy (by omega) (by omega)
 have pr:∀ a b c:Int,(prtR a b c).fst=part a b c:=λ_ _ _=>rfl;simp only[w4,pr];have pin:=Z178 (a:=st.2.getD c.toNat 0) (b:=st.1.getD c.toNat 0 / 4) (c:=st.1.getD c.toNat 0) at_.1 (by omega) (by omega) (by omega);obtain⟨_,m1,m2,m3,m4⟩:=pw.mv (i:=c) (j:=down c) (d:=st.1.getD c.toNat 0 / 4) hcm.1 hcm.2 (by omega) (by omega) (by omega) (by omega);obtain⟨_,m5,m6,m7,m8⟩:=pt.mv (i:=c) (j:=down c) hcm.1 hcm.2 (by omega) (by omega) pin.1 pin.2;have dw:0<=down c/\down c<(s.2.1.length:Int):=by omega
 have dt:0<=down c/\down c<(s.2.2.1.length:Int):=by omega
 rw[Zy (x:=st.1.getD c.toNat 0 - st.1.getD c.toNat 0 / 4) (by omega) (by omega),Zy (x:=st.2.getD c.toNat 0 - part (st.2.getD c.toNat 0) (st.1.getD c.toNat 0 / 4) (st.1.getD c.toNat 0)) (by omega) (by omega),
  Zy (x:=(st.1.set c.toNat (st.1.getD c.toNat 0 - st.1.getD c.toNat 0 / 4)).getD (down c).toNat 0+st.1.getD c.toNat 0 / 4) (by omega) (by omega),
  Zy (x:=(st.2.set c.toNat (st.2.getD c.toNat 0 - part (st.2.getD c.toNat 0) (st.1.getD c.toNat 0 / 4) (st.1.getD c.toNat 0))).getD (down c).toNat 0+part (st.2.getD c.toNat 0) (st.1.getD c.toNat 0 / 4) (st.1.getD c.toNat 0)) (by omega) (by omega)]
 refine⟨cw,by decide,ct,cw,⟨⟨by omega,by omega⟩,⟨by omega,by omega⟩,by omega,by omega⟩,cw,cw,dw,dw,ct,ct,dt,dt,rfl,next _ _ ?_⟩;unfold Z5g;rw[if_neg (λh=>by rcases h with h | h | h <;> first | omega | (rw[g]at h; cases h))];rfl
end Go.Lift
namespace Go.Lift
end Go.Lift
namespace Go.Lift
def Z15w(ty26:Nat)(bed:List Nat)(ty3:Nat):List HObj:=[HObj.box Md.rw ty26 [SV.data (K.flt f64).slice bed],HObj.row Md.rw ty3 (K.int i64) (List.replicate bed.length (0:Int))]
def Z15x(ty26:Nat)(bed:List Nat)(ty3:Nat)(y:List Int × Unit)(x:Int × Unit):List HObj:=[HObj.box Md.rw ty26 [SV.data (K.flt f64).slice bed],HObj.row Md.rw ty3 (K.int i64) (y.1.set (0+x.1.toNat) x.1)]
def Ze4:=λ(ty26 ty3:Nat)(bed:List Nat)(post:List Int × Unit->Prop)=>∃(h:(0:Int)<=(↑bed.length:Int)/\(↑bed.length:Int)<=(↑bed.length:Int)/\
 (↑bed.length:Int)*(↑(8:Nat):Int)<=(281474976710656:Int)),HS (Z15w ty26 bed ty3)/\∃(I:Int × Unit->List Int × Unit->Prop),∃(μ:Int × Unit->List Int
 × Unit->Nat),I (0,()) (List.replicate bed.length (0:Int),())/\∀(x:Int × Unit)(y:List Int × Unit),I x y->∀ a,a=decide (x.1<(↑bed.length:Int))->Br a (∃(h:
 (0:Int)<=x.1/\x.1<(↑bed.length:Int)),HS (Z15x ty26 bed ty3 y x)/\I (i64.wrap (x.1+1),()) (y.1.set ((0:Nat)+x.1.toNat) x.1,())/\μ
 (i64.wrap (x.1+1),()) (y.1.set ((0:Nat)+x.1.toNat) x.1,())<μ x y) (∃(x:(ty3=ty3)/\(165:Nat)=(165:Nat)/\bed.length=y.1.length/\Z4m bed y.1),∀
 (ys:List Int),Rr (keyB bed) (0:Nat) y.1.length y.1 ys/\Sgm (keyB bed) ys (0:Nat) y.1.length->((0:Nat)=(0:Nat)/\bed.length=ys.length)/\post (ys,()))
theorem Z18y(ty0 ty1:Nat)(bed:List Nat)(h:WOrd bed):Ze4 ty0 ty1 bed (λr=>r=Z1ef bed):=by
 obtain⟨hw,hb⟩:=h;have mx:maxN=281474976710656:=rfl;refine⟨⟨by omega,by omega,by omega⟩,rfl,λx y=>∃ k:Nat,x.1=k/\k<=bed.length/\y.1.length=bed.length/\∀ j,j<k->at0 y.1 j=j,λx _=>bed.length - x.1.toNat,⟨0,rfl,by omega,List.length_replicate,λj h=>by omega⟩,?_⟩;rintro⟨_,⟨⟩⟩ ⟨y,⟨⟩⟩ ⟨k,rfl,hk,ly,hy⟩;dsimp only at ly hy ⊢;rintro _ rfl;refine Br.intro (λd=>?_) λd=>?_
 ·have d:k<bed.length:=by have d:(k:Int)<bed.length:=of_decide_eq_true d; omega
  rw[Int.toNat_natCast,Nat.zero_add,Z19 d (by omega)];refine⟨⟨by omega,by omega⟩,rfl,⟨k+1,rfl,by omega,by rw[List.length_set]; exact ly,λj hj=>?_⟩,by omega⟩;rw[Zdg (by omega)];split
  ·rename_i e; rw[e]
  ·exact hy j (by omega)
 have d:k=bed.length:=by have d:¬ (k:Int)<bed.length:=of_decide_eq_false d; omega
 have e:y=seg 0 bed.length:=Z1we ly λj hj=>hy j (by omega);refine⟨⟨by trivial,by trivial,ly.symm,hw,λx hx=>?_,by omega⟩,?_⟩
 ·rw[e]at hx;have:=Z1kp hx;omega
 rintro ys ⟨h1,h2⟩;have q:=Z1mr (n:=bed.length) e h1 h2;exact⟨⟨by trivial,by rw[h1.len]; exact ly.symm⟩,by rw[q]; rfl⟩
end Go.Lift
