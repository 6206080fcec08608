/- A part of the proof of StepRestsCard: an own lifter of code into plain terms, and plain laws. -/
import Derived.ChangeKeysEq
import Derived.Laws.StructEq
import Derived.MapKept
import Derived.StillTail
import Derived.Test.YtkfafhbmdccmgaaGreatDoorPtA
set_option linter.unusedVariables false
set_option linter.unusedSimpArgs false
set_option linter.unusedSectionVars false
open Go.IntKind (i64 u64 u32 u8)
open Go.FloatKind (f64 f32)
namespace Go.Lift
section
def opUn(op:UnOp)(v:EV):Res:=match op,v with
 | .neg,.x (.one (.val (.int k n)))=>vI k (k.wrap (0 - n))
 | .xor,.x (.one (.val (.int k n)))=>vI k (Go.bits .xor k (if k.signed then -1 else k.max) n)
 | .neg,.x (.one (.val (.float k b)))=>.ret (.val (.float k (Op.negFloat k b))) []
 | .not,.x (.one (.val (.bool b)))=>vB (!b)
 | _,_=>.fail
def F2I(s:FloatKind)(b:Nat)(d:IntKind)(n:Int):Prop:=
 match(s.format.read b).toInt .zero with
 | some m=>if d.min<=m/\m<=d.max then n=m else d.min<=n/\n<=d.max
 | none=>d.min<=n/\n<=d.max
theorem Z19a(d:IntKind):d.min<=0/\0<=d.max:=by cases d <;> decide
theorem F2I.ne(s:FloatKind)(b:Nat)(d:IntKind):∃ n,F2I s b d n:=by
 unfold F2I;split
 ·split
  ·exact⟨_,rfl⟩
  ·exact⟨0,Z19a d⟩
 ·exact⟨0,Z19a d⟩
def F2F(s:FloatKind)(b:Nat)(d:FloatKind)(r:Nat):Prop:=
 if s=d then r=b else
 match s.format.read b with
 | .nan _ _=>Zjk d r
 | .infinity t=>r=d.format.write (.infinity t)
 | .number t m e=>if(d.format.read (d.format.write (.number t m e))).isInfinity then r<2 ^ 32 else r=d.format.write (.number t m e)
theorem F2F.ne(s:FloatKind)(b:Nat)(d:FloatKind):∃ n,F2F s b d n:=by
 unfold F2F;split
 ·exact⟨_,rfl⟩
 ·split
  ·exact⟨_,Z1jx d⟩
  ·exact⟨_,rfl⟩
  ·split
   ·exact⟨0,by decide⟩
   ·exact⟨_,rfl⟩
def Zt9(cx:Cx)(s d:TypeId)(v:EV):Res:=match cx.tab s,cx.tab d,v with
 | some ⟨.int _,_,_,_,_⟩,some ⟨.int k,_,_,_,_⟩,.x (.one (.val (.int _ n)))=>vI k (k.wrap n)
 | some ⟨.int _,_,_,_,_⟩,some ⟨.flt k,_,_,_,_⟩,.x (.one (.val (.int _ n)))=>.ret (.val (.float k (k.nearest n))) []
 | some ⟨.flt _,_,_,_,_⟩,some ⟨.int k,_,_,_,_⟩,.x (.one (.val (.float s b)))=>.all Int (F2I s b k) (F2I.ne s b k) λn=>.ret (.val (.int k n)) []
 | some ⟨.flt _,_,_,_,_⟩,some ⟨.flt k,_,_,_,_⟩,.x (.one (.val (.float s b)))=>.all Nat (F2F s b k) (F2F.ne s b k) λn=>.ret (.val (.float k n)) []
 | _,_,_=>.fail
def imin(a b:Int):Int:=if b<a then b else a
def imax(a b:Int):Int:=if b > a then b else a
def Z11d(f:Int->Int->Int)(k:IntKind):Int->List EV->Option Int
 | a,[]=>some a
 | a,.x (.one (.val (.int j n))) :: r=>if j=k then Z11d f k (f a n) r else none
 | _,_=>none
def opMM(f:Int->Int->Int):List EV->Res
 | .x (.one (.val (.int k n))) :: r=>match Z11d f k n r with
  | some m=>vI k m
  | none=>.fail
 | _=>.fail
def Zjp(h:List HObj)(v:EV):Res:=match v with
 | .x (.one (.data (.ptr k) p))=>.ask (p≠none) λ_=>.ret v []
 | .x (.one (.ref id _))=>match h[id]? with | some (.box ..) | some (.row ..)=>.ret v [] | _=>.fail
 | .x (.one (.eref id _ _))=>match h[id]? with | some (.row ..)=>.ret v [] | _=>.fail
 | _=>.fail
def Z1k2:EV->Bool
 | .x (.one (.val v))=>Z10w v
 | _=>false
def eqL(xs ys:List Int):Bool:=decide (xs=ys)
def Z11e(cx:Cx)(neg:Bool)(n:Nat)(e:TypeId)(x y:EV):Res:=match cx.tab e,x,y with
 | some ⟨.int i,1,_,_,_⟩,.x xv,.x yv=>match xv.take [] (.arr n (.int i)),yv.take [] (.arr n (.int i))with
  | some xs,some ys=>(match neg with | true=>vB (!(eqL xs ys)) | false=>vB (eqL xs ys))
  | _,_=>.fail
 | _,_,_=>.fail
def opEq(cx:Cx)(h:List HObj)(neg:Bool)(t:TypeId)(x y:EV):Res:=match cx.tab t with
 | some ⟨.bool,_,_,_,_⟩=>match x,y with
  | .x (.one (.val (.bool a))),.x (.one (.val (.bool b)))=>vB (if neg then a != b else a==b)
  | _,_=>.fail
 | some ⟨.ptr _,_,_,_,_⟩=>if Z1k2 y then(match x with
  | .x (.one (.data (.ptr k) p))=>.br (Option.isNone (α:=k.T) p) (vB (!neg)) (vB neg)
  | .x (.one (.ref id _))=>(match h[id]? with | some (.box ..) | some (.row ..)=>vB neg | _=>.fail)
  | _=>.fail)else .fail
 | some ⟨.str,_,_,_,_⟩=>match bytesOf x,bytesOf y with
  | some a,some b=>vB (if neg then !(decide (a=b))else decide (a=b))
  | _,_=>.fail
 | some ⟨.arr n e,_,_,_,_⟩=>Z11e cx neg n e x y
 | some ⟨.slice _,_,_,_,_⟩=>(match x,y with
  | .x (.one (.data (.slice k) xs)),.x (.one (.val v))=>if Zbb v then .all Bool (λb=>b=true->List.length (α:=k.T) xs=0) ⟨false,λe=>by cases e⟩ λb=>vB (if neg then !b else b)else .fail
  | _,_=>.fail)
 | _=>.fail
def Zgs(cx:Cx)(h:List HObj)(op:BinOp)(t:TypeId)(x y:EV):Res:=match x,y with
 | .x (.one (.val (.int k a))),.x (.one (.val (.int j b)))=>Zt5 op k a j b
 | .x (.one (.val (.float k a))),.x (.one (.val (.float j b)))=>Zt6 op k a j b
 | x,y=>match op with
  | .eql=>opEq cx h false t x y
  | .neq=>opEq cx h true t x y
  | _=>.fail
section
variable {P:Program} {cx:Cx} (hT:∀ t d,cx.tab t=some d->d.Fits P t) {c:RC} (hi:c.Inv) {k:EV->List (Nat × HObj)->Prop}
include hT hi
theorem Z1rr {op:UnOp}{v:EV}{u:Value}(h:(opUn op v).wp k)(r:v.rel c u):Runs P c (Op.unary op u) k:=by
 unfold opUn at h;split at h
 ·rename_i kd n;obtain rfl:u=.int kd n:=r;exact Z3z hi (by simp[Op.unary,Op.intArith]) h
 ·rename_i kd n;obtain rfl:u=.int kd n:=r;exact Z3z hi (by simp[Op.unary]; rfl) h
 ·rename_i kd b;obtain rfl:u=.float kd b:=r;exact Runs.pure hi (by simp[Op.unary]) h rfl
 ·rename_i b;obtain rfl:u=.bool b:=r;exact Z7n hi (by simp[Op.unary]) h
 ·exact h.elim
theorem Z1li(d:IntKind)(n:Int):d.min<=d.wrap n/\d.wrap n<=d.max:=by
 cases d <;> simp[IntKind.wrap,IntKind.min,IntKind.max,IntKind.bits,IntKind.signed] <;> omega
theorem Z1lj {s d:TypeId}{v:EV}{u:Value}(h:(Zt9 cx s d v).wp k)(r:v.rel c u):Runs P c (convert s d u) k:=by
 unfold Zt9 at h;split at h
 ·rename_i k0 _ _ _ _ kd _ _ _ _ k1 n hs hd;have fs:P.underlying s=some (.int k0):=(hT s _ hs).k;have fd:P.underlying d=some (.int kd):=(hT d _ hd).k;obtain rfl:u=.int k1 n:=r;exact Z3z hi (by simp[convert,run_underlying fs,run_underlying fd,Conv.intToInt]) h
 ·rename_i k0 _ _ _ _ kd _ _ _ _ k1 n hs hd;have fs:P.underlying s=some (.int k0):=(hT s _ hs).k;have fd:P.underlying d=some (.float kd):=(hT d _ hd).k;obtain rfl:u=.int k1 n:=r;exact Runs.pure hi (by simp[convert,run_underlying fs,run_underlying fd,Conv.intToFloat]) h rfl
 ·rename_i k0 _ _ _ _ kd _ _ _ _ k1 b hs hd;have fs:P.underlying s=some (.float k0):=(hT s _ hs).k;have fd:P.underlying d=some (.int kd):=(hT d _ hd).k;obtain rfl:u=.float k1 b:=r;have e:(convert s d (.float k1 b)).run P c.w=(Conv.floatToInt k1 b kd).run P c.w:=by simp[convert,run_underlying fs,run_underlying fd]
  have hfo:∀ a b' e',(Question.floatToInt a b' e').forced=false:=λ_ _ _=>rfl;unfold Runs;rw[e];unfold Conv.floatToInt FloatKind.decode;have any:∀ n,F2I k1 b kd n->k (.val (.int kd n)) []:=λn hn=>h n hn;unfold F2I at any
  have many:(∀ n,kd.min<=n/\n<=kd.max->k (.val (.int kd n)) [])->∃ v w',(do pure (.int kd (kd.wrap (<- choose (.floatToInt k1 b kd)))):Sem Value).run P c.w=.ok v w'/\Done c k v w':=by
   intro hk;exact⟨_,c.w.drew,by simp[hfo]; rfl,Done.drew hi (hk _ (Z1li hT hi kd _)) rfl⟩
  split
  ·rename_i m hm;rw[hm]at any;simp only at any;split
   ·rename_i hr;simp only[if_pos hr]at any;exact⟨_,_,rfl,Done.pure hi (any m rfl) rfl⟩
   ·rename_i hr;simp only[if_neg hr]at any;exact many any
  ·rename_i hm;rw[hm]at any;exact many any
 ·rename_i k0 _ _ _ _ kd _ _ _ _ k1 b hs hd;have fs:P.underlying s=some (.float k0):=(hT s _ hs).k;have fd:P.underlying d=some (.float kd):=(hT d _ hd).k;obtain rfl:u=.float k1 b:=r;have e:(convert s d (.float k1 b)).run P c.w=(Conv.floatToFloat k1 b kd).run P c.w:=by simp[convert,run_underlying fs,run_underlying fd]
  unfold Runs;rw[e];unfold Conv.floatToFloat;have any:∀ n,F2F k1 b kd n->k (.val (.float kd n)) []:=λn hn=>h n hn;unfold F2F at any;split
  ·rename_i hq;simp only[if_pos hq]at any;exact⟨_,_,rfl,Done.pure hi (any b rfl) rfl⟩
  ·rename_i hq;simp only[if_neg hq]at any;simp only[FloatKind.decode];split
   ·rename_i s' t' hm;rw[hm]at any;have hfo:(Question.nanConv kd b).forced=false:=rfl;refine⟨_,c.w.drew,by simp[hfo]; rfl,Done.drew hi (any _ ?_) rfl⟩
    cases kd
    ·exact Zxx 0 0 _
    ·exact Zxw 0 0 _
   ·rename_i s' hm;rw[hm]at any;exact⟨_,_,rfl,Done.pure hi (any _ rfl) rfl⟩
   ·rename_i s' m' e' hm;rw[hm]at any;simp only[FloatKind.encode]at any ⊢;by_cases hinf:(kd.format.read (kd.format.write (Ieee.Datum.number s' m' e'))).isInfinity=true
    ·simp only[if_pos hinf]at any;have hfo:(Question.floatToFloat b).forced=false:=rfl;refine⟨.float kd ((Question.floatToFloat b).cut (c.w.tape c.w.drawn (.floatToFloat b))),c.w.drew,(congrArg (λs:Sem Value=>s.run P c.w) (if_pos hinf)).trans ?_,Done.drew hi (any _ (Nat.mod_lt _ (by decide))) rfl⟩;simp[hfo]
    ·simp only[if_neg hinf]at any;exact⟨_,c.w,(congrArg (λs:Sem Value=>s.run P c.w) (if_neg hinf)).trans rfl,Done.pure hi (any _ rfl) rfl⟩
 ·exact h.elim
theorem Zou(f:Int->Int->Int)(g:Value->Value->Sem Value)(hg:∀ kd a b,g (.int kd a) (.int kd b)=pure (.int kd (f a b)))(kd:IntKind):∀(r:List EV)(us:List Value)(a m:Int),Z11d f kd a r=some m->All2 (EV.rel c) r us->
  (us.foldlM g (.int kd a)).run P c.w=.ok (.int kd m) c.w
 | [],us,a,m,h,ha=>by cases ha; cases h; rfl
 | x :: r,us,a,m,h,ha=>by
  cases ha with
  | cons h1 h2=>
   unfold Z11d at h;split at h
   ·rename_i h'; cases h'
   ·rename_i j n r' he
    injection he with he1 he2
    subst he1; subst he2;split at h
    ·rename_i hj; subst hj;obtain rfl:_=Value.int j n:=h1;simp only[List.foldlM_cons,hg,Sem.run_bind,Sem.run_pure,Result.andThen_ok];exact Zou f g hg j _ _ _ _ h h2
    ·cases h
   ·cases h
theorem Z1o6 {ts:Array TypeId}{ty:TypeId}{vs:List EV}{us:Array Value}(h:(opMM imax vs).wp k)(r:All2 (EV.rel c) vs us.toList):Runs P c (Builtin.max_ ts ty us) k:=by
 unfold opMM at h;split at h
 case h_2=>exact h.elim
 rename_i kd n rest;split at h
 case h_2=>exact h.elim
 rename_i m hm
 cases hu:us.toList with
 | nil=>rw[hu]at r; cases r
 | cons u us'=>
  rw[hu]at r
  cases r with
  | cons h1 h2=>
   obtain rfl:u=.int kd n:=h1;refine Z3z hi ?_ h;unfold Builtin.max_;rw[hu];exact Zou hT hi imax Builtin.max2 (λ_ _ _=>rfl) kd rest us' n m hm h2
theorem Z1o7 {ts:Array TypeId}{ty:TypeId}{vs:List EV}{us:Array Value}(h:(opMM imin vs).wp k)(r:All2 (EV.rel c) vs us.toList):Runs P c (Builtin.min_ ts ty us) k:=by
 unfold opMM at h;split at h
 case h_2=>exact h.elim
 rename_i kd n rest;split at h
 case h_2=>exact h.elim
 rename_i m hm
 cases hu:us.toList with
 | nil=>rw[hu]at r; cases r
 | cons u us'=>
  rw[hu]at r
  cases r with
  | cons h1 h2=>
   obtain rfl:u=.int kd n:=h1;refine Z3z hi ?_ h;unfold Builtin.min_;rw[hu];exact Zou hT hi imin Builtin.min2 (λ_ _ _=>rfl) kd rest us' n m hm h2
theorem Z1o8 {v:EV}{u:Value}(h:(Zjp c.heap v).wp k)(r:v.rel c u):(∃ a,u=.pointer (some a))/\k v []:=by
 unfold Zjp at h;split at h
 ·rename_i kd p;obtain⟨hp,h⟩:=h;rcases(r:K.rep c.w c.ok (.ptr kd) p [u])with⟨h1,_⟩ | ⟨y,b,o,vs,h2,h3,_⟩
  ·exact absurd h1 hp
  ·exact⟨⟨_,(List.cons.inj h3).1⟩,h⟩
 ·rename_i id off;split at h
  ·rename_i m t cs ho;obtain⟨b,_,rfl⟩:=Z5d hT hi ho rfl r;exact⟨⟨_,rfl⟩,h⟩
  ·rename_i m t e xs ho;obtain⟨b,_,rfl⟩:=Z5d hT hi ho rfl r;exact⟨⟨_,rfl⟩,h⟩
  ·exact h.elim
 ·rename_i id i off;split at h
  ·rename_i m t e xs ho;obtain⟨_,b,_,rfl⟩:=Zhs hT hi ho r;exact⟨⟨_,rfl⟩,h⟩
  ·exact h.elim
 ·exact h.elim
theorem Z1eu {d:Nat}{t:TypeId}(hf:P.underlying t=some .bool)(a b:Bool)(w:World):(Op.equalIn (d+1) t (.bool a) (.bool b)).run P w=.ok (a==b) w:=by
 simp[Op.equalIn,run_underlying hf]
theorem Z1if {d:Nat}{t e:TypeId}(hf:P.underlying t=some (.pointer e))(a:Option Addr)(w:World):(Op.equalIn (d+1) t (.pointer a) (.pointer none)).run P w=.ok a.isNone w:=by
 cases a <;> simp[Op.equalIn,run_underlying hf]
theorem Z1lk {t:TypeId}(hf:P.underlying t=some .bool)(a b:Bool)(w:World):(Op.equal t (.bool a) (.bool b)).run P w=.ok (a==b) w:=
 Z1eu (d:=9999) hT hi hf a b w
theorem Z19b {t e:TypeId}(hf:P.underlying t=some (.pointer e))(a:Option Addr)(w:World):(Op.equal t (.pointer a) (.pointer none)).run P w=.ok a.isNone w:=
 Z1if (d:=9999) hT hi hf a w
theorem Z19c {w:World}{ok:Nat->Prop}{i:IntKind}:∀ {xs:List Int}{vs:List Value},Rows (K.rep w ok (.int i)) xs vs->vs=xs.map (Value.int i)
 | [],_,h=>h
 | x :: xs,_,⟨c1,c2,e,h1,h2⟩=>by
  rw[e,show c1=[.int i x]from h1,Z19c h2]; rfl
theorem Z19d {xv:XV}{n:Nat}{i:IntKind}{xs:List Int}{u:Value}(h:xv.take [] (.arr n (.int i))=some xs)(r:xv.rel c u):u=.agg (xs.map (Value.int i)).toArray/\xs.length=n:=by
 have hk:=XV.take_repT hi (Tak.none c) h r;unfold KRep at hk;rw[if_pos (show(K.arr n (.int i)).agg=true from rfl)]at hk;obtain⟨vs,rfl,hl,hr⟩:=hk;have:=Z19c hT hi hr;refine⟨?_,hl⟩;rw[<- this]
theorem Zy1 {neg:Bool}{n:Nat}{e:TypeId}{x y:EV}{u uy:Value}(h:(Z11e cx neg n e x y).wp k)(rx:x.rel c u)(ry:y.rel c uy):
  ∃(i:IntKind)(xs ys:List Int),P.underlying e=some (.int i)/\xs.length=n/\ys.length=n/\u=.agg (xs.map (Value.int i)).toArray/\uy=.agg (ys.map (Value.int i)).toArray/\
   (match neg with | true=>vB (!(eqL xs ys)) | false=>vB (eqL xs ys)).wp k/\∃ inf,P.info? e=some inf/\inf.size=1:=by
 unfold Z11e at h;split at h
 ·rename_i i b z kd xv yv he;split at h
  ·rename_i xs ys h1 h2;obtain⟨a1,a2⟩:=Z19d hT hi h1 rx;obtain⟨b1,b2⟩:=Z19d hT hi h2 ry;obtain⟨inf,z,g1,g2,_⟩:=(hT e _ he).info;exact⟨i,xs,ys,(hT e _ he).k,a2,b2,a1,b1,h,inf,g1,g2⟩
  ·exact h.elim
 ·exact h.elim
theorem Zhx {e:TypeId}{i:IntKind}(he:P.underlying e=some (.int i))(d:Nat)(xs ys:List Int)(w:World):∀(is:List Nat),(∀ j ∈ is,j<xs.length/\j<ys.length)->
  (Op.eqItems (d+1) e 1 (xs.map (Value.int i)).toArray (ys.map (Value.int i)).toArray is).run P w=.ok (is.all λj=>xs[j]?==ys[j]?) w
 | [],_=>by simp[Op.eqItems]
 | j :: is,hj=>by
  obtain⟨h1,h2⟩:=hj j List.mem_cons_self
  have p:∀(l:List Int),(hl:j<l.length)->(part e (l.map (Value.int i)).toArray (j*1)).run P w=.ok (.int i l[j]) w:=by
   intro l hl;simp[part,isAgg,run_underlying he,hl]
  simp only[Op.eqItems,Sem.run_bind,p xs h1,p ys h2,Result.andThen_ok,run_equalIn_int w d e i i _ _ he,List.all_cons,List.getElem?_eq_getElem h1,List.getElem?_eq_getElem h2];have ih:=Zhx he d xs ys w is (λq hq=>hj q (List.mem_cons_of_mem _ hq));by_cases q:xs[j]=ys[j]
  ·simp[q,ih]
  ·simp[q]
theorem Z1vx(xs ys:List Int)(h:xs.length=ys.length):((List.range xs.length).all λj=>xs[j]?==ys[j]?)=decide (xs=ys):=by
 rw[Bool.eq_iff_iff,decide_eq_true_eq,List.all_eq_true];constructor
 ·intro q;apply List.ext_getElem?;intro j;rcases Nat.lt_or_ge j xs.length with g | g
  ·have:=q j (List.mem_range.2 g); simpa using this
  ·rw[List.getElem?_eq_none g,List.getElem?_eq_none (by omega)]
 ·intro q j _; rw[q]; simp
theorem Z1o9 {neg:Bool}{t e:TypeId}{n:Nat}{x y:EV}{u uy:Value}(hf:P.underlying t=some (.array n e))(h:(Z11e cx neg n e x y).wp k)(rx:x.rel c u)(ry:y.rel c uy):
  Runs P c (binOp (if neg then .neq else .eql) t u uy) k:=by
 obtain⟨i,xs,ys,he,hl1,hl2,rfl,rfl,h,inf,hinf,hsz⟩:=Zy1 hT hi h rx ry;have hc:P.cellsOf e=1:=by unfold Program.cellsOf; rw[hinf]; simpa using hsz
 have hrun:(Op.equalIn 10000 t (.agg (xs.map (Value.int i)).toArray) (.agg (ys.map (Value.int i)).toArray)).run P c.w=.ok (decide (xs=ys)) c.w:=by
  rw[show(10000:Nat)=9998+1+1 from rfl,run_equalIn_array c.w (9998+1) _ _ hf hinf,hc];have:=Zhx hT hi he 9998 xs ys c.w (List.range n) (λj hj=>by have:=List.mem_range.1 hj; omega);rw[this,<- Z1vx hT hi xs ys (by omega),hl1]
 cases neg
 ·refine Z7n hi ?_ h;rw[if_neg (by decide),run_eql_struct,hrun]; rfl
 ·refine Z7n hi ?_ h;rw[if_pos rfl,run_neq_struct,hrun]; rfl
theorem Z11f {neg:Bool}{t:TypeId}{x y:EV}{u uy:Value}(h:(opEq cx c.heap neg t x y).wp k)(rx:x.rel c u)(ry:y.rel c uy)(op:BinOp)(ox oy:Operand):
  (eqGuard op t ox oy u uy).run P c.w=.ok () c.w:=by
 unfold opEq at h;split at h
 ·split at h
  ·rename_i a b;obtain rfl:u=.bool a:=rx;rw[eqGuard_at_bool]; rfl
  ·exact h.elim
 ·split at h
  ·split at h
   ·rename_i kd p;rcases(rx:K.rep c.w c.ok (.ptr kd) p [u])with⟨_,h2⟩ | ⟨_,b,o,_,_,h3,_⟩
    ·obtain rfl:=(List.cons.inj h2).1; rw[eqGuard_at_pointer]; rfl
    ·obtain rfl:=(List.cons.inj h3).1; rw[eqGuard_at_pointer]; rfl
   ·rename_i id off;split at h
    ·rename_i m t' cs ho;obtain⟨b,_,rfl⟩:=Z5d hT hi ho rfl rx;rw[eqGuard_at_pointer]; rfl
    ·rename_i m t' e' xs ho;obtain⟨b,_,rfl⟩:=Z5d hT hi ho rfl rx;rw[eqGuard_at_pointer]; rfl
    ·exact h.elim
   ·exact h.elim
  ·exact h.elim
 ·split at h
  ·rename_i a b ha hb;obtain⟨s,rfl,_⟩:=Z9u ha rx;rw[eqGuard_at_string]; rfl
  ·exact h.elim
 ·rename_i n e sz by_ z kd ht;obtain⟨i,xs,ys,he,_,_,hx,hy,h⟩:=Zy1 hT hi h rx ry;subst hx; subst hy
  have hg:P.eqGuardType P.depth t=false:=by
   have hd:P.depth=(2*(P.types.size+Made.depth))+1+1:=rfl;have hk:P.underlying t=some (.array n e):=(hT t _ ht).k;rw[hd];simp only[Program.eqGuardType,hk,he]
  exact run_eqGuard_agg c.w op t ox oy _ _ hg
 ·split at h
  ·obtain⟨A,cap,e1,_⟩:=rx;obtain rfl:=(List.cons.inj e1).1;rw[eqGuard_at_slice]; rfl
  ·exact h.elim
 ·exact h.elim
theorem Z1ev {a b:ByteArray}(h:Z1q a=Z1q b):a=b:=by
 unfold Z1q at h
 have h2:a.data.toList=b.data.toList:=by
  refine(List.map_inj_right ?_).1 h;intro x y hxy;have:x.toNat=y.toNat:=by omega
  exact UInt8.toNat_inj.1 this
 cases a; cases b
 simp at h2;simp[h2]
theorem Z1oa(a b:ByteArray):(a.toList==b.toList)=decide (Z1q a=Z1q b):=by
 rw[ByteArray.toList_eq,ByteArray.toList_eq,Bool.eq_iff_iff,beq_iff_eq,decide_eq_true_eq];constructor
 ·intro h; unfold Z1q; rw[h]
 ·intro h; rw[Z1ev hT hi h]
theorem Z1ew {neg:Bool}{t:TypeId}{x y:EV}{u uy:Value}(h:(opEq cx c.heap neg t x y).wp k)(rx:x.rel c u)(ry:y.rel c uy):
  Runs P c (binOp (if neg then .neq else .eql) t u uy) k:=by
 unfold opEq at h;split at h
 ·rename_i sz by_ z kd ht;have hf:P.underlying t=some .bool:=(hT t _ ht).k;split at h
  ·rename_i a b;obtain rfl:u=.bool a:=rx;obtain rfl:uy=.bool b:=ry;refine Z7n hi ?_ h
   cases neg <;> simp[binOp,Z1lk hT hi hf]
   ·cases a <;> cases b <;> rfl
  ·exact h.elim
 ·rename_i e sz by_ z kd ht;have hf:P.underlying t=some (.pointer e):=(hT t _ ht).k;split at h
  case isFalse=>exact h.elim
  rename_i hn
  have hy:uy=.pointer none:=by
   unfold Z1k2 at hn;split at hn
   ·rename_i v;obtain rfl:uy=v:=ry;exact Zt3 hn
   ·cases hn
  subst hy
  have some_:∀ a:Addr,(binOp (if neg then .neq else .eql) t (.pointer (some a)) (.pointer none)).run P c.w=.ok (.bool neg) c.w:=by
   intro a
   cases neg <;> simp[binOp,Z19b hT hi hf]
  split at h
  ·rename_i kd p;rcases(rx:K.rep c.w c.ok (.ptr kd) p [u])with⟨h1,h2⟩ | ⟨y,b,o,vs,h2,h3,_⟩
   ·obtain rfl:=(List.cons.inj h2).1;subst h1;refine Z7n hi ?_ (Br.t h rfl)
    cases neg <;> simp[binOp,Z19b hT hi hf]
   ·obtain rfl:=(List.cons.inj h3).1;subst h2;exact Z7n hi (some_ _) (Br.f h rfl)
  ·rename_i id off;split at h
   ·rename_i m t' cs ho;obtain⟨b,_,rfl⟩:=Z5d hT hi ho rfl rx;exact Z7n hi (some_ _) h
   ·rename_i m t' e' xs ho;obtain⟨b,_,rfl⟩:=Z5d hT hi ho rfl rx;exact Z7n hi (some_ _) h
   ·exact h.elim
  ·exact h.elim
 ·rename_i sz by_ z kd ht;have hf:P.underlying t=some .string:=(hT t _ ht).k;split at h
  ·rename_i a b ha hb;obtain⟨s1,rfl,rfl⟩:=Z9u ha rx;obtain⟨s2,rfl,rfl⟩:=Z9u hb ry;refine Z7n hi ?_ h
   cases neg <;> simp[binOp,Op.stringOp,Z1oa hT hi]
  ·exact h.elim
 ·rename_i n e sz by_ z kd ht;exact Z1o9 hT hi (hT t _ ht).k h rx ry
 ·rename_i e sz by_ z kd ht;have hf:P.underlying t=some (.slice e):=(hT t _ ht).k;split at h
  ·rename_i kd xs v;split at h
   case isFalse=>exact h.elim
   rename_i hn;obtain rfl:uy=v:=ry;rw[Z5z hn];obtain⟨A,cap,e1,_,_,e2⟩:=rx;obtain rfl:=(List.cons.inj e1).1
   have eq1:∀(d:Nat),(Op.equalIn (d+1) t (.slice A (List.length (α:=kd.T) xs) cap) (.slice none 0 0)).run P c.w=.ok A.isNone c.w:=λd=>by
    cases A <;> simp[Op.equalIn,run_underlying hf]
   have eq2:(Op.equal t (.slice A (List.length (α:=kd.T) xs) cap) (.slice none 0 0)).run P c.w=.ok A.isNone c.w:=eq1 9999;refine Z7n hi ?_ (h A.isNone λha=>?_)
   ·cases neg <;> simp[binOp,eq2]
   ·rcases e2 with e2 | ⟨b,o,vs,e2,_⟩
    ·rw[e2]; rfl
    ·rw[e2]at ha; cases ha
  ·exact h.elim
 ·exact h.elim
theorem Z1ob {op:BinOp}{t:TypeId}{x y:EV}{u uy:Value}(h:(Zgs cx c.heap op t x y).wp k)(rx:x.rel c u)(ry:y.rel c uy)(ox oy:Operand):
  Runs P c (do eqGuard op t ox oy u uy; binOp op t u uy) k:=by
 unfold Zgs at h;split at h
 ·rename_i kd a j b;obtain rfl:u=.int kd a:=rx;obtain rfl:uy=.int j b:=ry;rw[eqGuard_at_int];exact Z1lc hi op t kd j a b h
 ·rename_i kd a j b;obtain rfl:u=.float kd a:=rx;obtain rfl:uy=.float j b:=ry;rw[eqGuard_at_float];exact Z1ld hi op t kd j a b h
 ·split at h
  ·have g:=Z11f hT hi h rx ry .eql ox oy;obtain⟨v,w',h1,h2⟩:=Z1ew hT hi (neg:=false) h rx ry;exact⟨v,w',by rw[Sem.run_bind,g]; exact h1,h2⟩
  ·have g:=Z11f hT hi h rx ry .neq ox oy;obtain⟨v,w',h1,h2⟩:=Z1ew hT hi (neg:=true) h rx ry;exact⟨v,w',by rw[Sem.run_bind,g]; exact h1,h2⟩
  ·exact h.elim
end
def strAt(s:ByteArray)(n:Int):Int:=match s[n.toNat]? with
 | some b=>b.toNat
 | none=>0
def Zm1(cx:Cx)(t:TypeId)(x i:EV):Res:=match cx.tab t with
 | some ⟨.str,_,_,_,_⟩=>match x,i with
  | .x (.one (.val (.string s))),.x (.one (.val (.int _ n)))=>.ask (0<=n/\n<(s.size:Int)) λ_=>vI .u8 (strAt s n)
  | _,_=>.fail
 | some ⟨.arr m e,_,_,_,_⟩=>match x,i,cx.tab e with
  | .x xv,.x (.one (.val (.int _ n))),some ed=>match ed.kind with
   | some ek=>match xv.take [] (.arr m ek)with
    | some xs=>.ask (0<=n/\n<(m:Int)) λ_=>.ret (.x (XV.ofData ek (List.getD (α:=ek.T) xs n.toNat ek.dflt))) []
    | none=>.fail
   | none=>.fail
  | _,_,_=>.fail
 | _=>.fail
section
variable {P:Program} {cx:Cx} (hT:∀ t d,cx.tab t=some d->d.Fits P t) {c:RC} (hi:c.Inv) {k:EV->List (Nat × HObj)->Prop}
include hT hi
theorem Z1ig {t:TypeId}{x i:EV}{u v:Value}(h:(Zm1 cx t x i).wp k)(hx:x.rel c u)(hv:i.rel c v):Runs P c (Instr.index t u v) k:=by
 unfold Zm1 at h;split at h
 ·rename_i ht;have hf:P.underlying t=some .string:=(hT t _ ht).k;split at h
  ·rename_i s kd n;obtain⟨⟨h1,h2⟩,h⟩:=h;obtain rfl:u=.string s:=hx;obtain rfl:v=.int kd n:=hv;have hlt:n.toNat<s.size:=by omega
   refine Z3z hi ?_ h;have hs:s[n.toNat]?=some s[n.toNat]:=by simp[hlt]
   simp[Instr.index,asIntOf,run_underlying hf,h1,hs,strAt]
  ·exact h.elim
 ·rename_i m e sz by_ z kd ht;have hf:P.underlying t=some (.array m e):=(hT t _ ht).k;split at h
  ·rename_i xv _ n ed he;split at h
   ·rename_i ek hk;split at h
    ·rename_i xs0 hxs;obtain⟨xs,rfl⟩:∃ l:List ek.T,l=xs0:=⟨xs0,rfl⟩;obtain⟨⟨h1,h2⟩,h⟩:=h;obtain rfl:v=.int _ n:=hv;obtain⟨k1,k2,_⟩:=(hT e ed he).kind ek hk;have hr:=XV.take_repT hi (Tak.none c) hxs (hx:xv.rel c u);unfold KRep at hr;rw[if_pos (by rfl)]at hr;obtain⟨cs,rfl,hl,hrows⟩:=hr;have hlt:n.toNat<m:=by omega
     have hlen:xs.length=m:=hl;have hget:=Rows.get (λy cs=>K.rep_len ek y cs) hrows n.toNat _ (List.getElem?_eq_getElem (by omega:n.toNat<xs.length));have hd:List.getD xs n.toNat ek.dflt=xs[n.toNat]:=by rw[List.getD,List.getElem?_eq_getElem (by omega)]; rfl
     rw[hd]at h;have hcl:=Rows.len (λy cs=>K.rep_len ek y cs) hrows
     have hin:n.toNat*ek.sz+ek.sz<=cs.size:=by
      have:(n.toNat+1)*ek.sz<=m*ek.sz:=Nat.mul_le_mul_right _ hlt;rw[Nat.add_mul,Nat.one_mul]at this;rw[hlen,Array.length_toList]at hcl;omega
     have hs:=Z31 hT hi he c.w;have hsz:ed.sz=ek.sz:=k1.symm
     cases hag:ek.agg with
     | true=>
      rw[hag]at k2;have ha:=Zeo hT hi he k2 c.w;refine Runs.pure hi (v:=.agg (cs.extract (n.toNat*ek.sz) (n.toNat*ek.sz+ek.sz))) ?_ h ?_
      ·simp[Instr.index,asIntOf,run_underlying hf,h1,h2,hs,hsz,part,ha]
      ·refine XV.ofData_rel ?_;unfold KRep;rw[if_pos hag];refine⟨_,rfl,?_⟩
       have e1:(cs.extract (n.toNat*ek.sz) (n.toNat*ek.sz+ek.sz)).toList=(cs.toList.drop (n.toNat*ek.sz)).take ek.sz:=by
        rw[Array.toList_extract];simp[List.extract,List.drop_take]
       rw[e1]; exact hget
     | false=>
      rw[hag]at k2;have ha:=Zeo hT hi he k2 c.w;have h1':=K.one_of hag;rw[h1']at hget hin hsz;have hlt2:n.toNat*1<cs.size:=by omega
      have e1:(cs.toList.drop (n.toNat*1)).take 1=[cs[n.toNat*1]]:=by
       rw[List.drop_eq_getElem_cons (by simpa using hlt2)]; simp
      rw[e1]at hget;refine Runs.pure hi (v:=cs[n.toNat*1]) ?_ h ?_
      ·have hq:cs[n.toNat]?=some (cs[n.toNat*1]):=by simp
       simp[Instr.index,asIntOf,run_underlying hf,h1,h2,hs,hsz,part,ha,hq]
      ·refine XV.ofData_rel ?_;unfold KRep;rw[if_neg (by simp[hag])];exact hget
    ·exact h.elim
   ·exact h.elim
  ·exact h.elim
 ·exact h.elim
end
end
section
def Zov(h:List HObj)(place:Nat->Option (Nat × Nat)):List SV->List Nat->List EV->Option (List SV)
 | cs,[],[]=>some cs
 | cs,i :: is,.x v :: r=>match place i,v.cells h with
  | some (off,size),some us=>if us.length=size/\off+size<=cs.length then Zov h place (cs.take off++us++cs.drop (off+us.length)) is r else none
  | _,_=>none
 | _,_,_=>none
def Zhy(cx:Cx)(k:TK)(i:Nat):Option (Nat × Nat):=match k with
 | .struct fs=>match fs[i]? with
  | some (off,ft)=>match cx.tab ft with
   | some d=>some (off,d.sz)
   | none=>none
  | none=>none
 | .arr _ e=>match cx.tab e with
  | some d=>some (i*d.sz,d.sz)
  | none=>none
 | _=>none
def Z11g(cx:Cx):List (Nat × TypeId)->Bool
 | []=>true
 | (_,ft) :: fs=>match cx.tab ft with
  | some _=>Z11g cx fs
  | none=>false
def Z11h(cx:Cx):TK->Bool
 | .struct fs=>Z11g cx fs
 | .arr _ e=>match cx.tab e with
  | some _=>true
  | none=>false
 | _=>false
def Zal(cx:Cx)(h:List HObj)(t:TypeId)(is:List Nat)(vs:List EV):Res:=match cx.tab t with
 | some d=>if Z11h cx d.k then(match Zov h (Zhy cx d.k) (d.zero.map .val) is vs with
  | some cs=>.ret (.x (.agg cs)) []
  | none=>.fail)else .fail
 | none=>.fail
theorem Z1oc(us:Array Value)(off:Nat)(cs:Array Value)(hl:off+us.size<=cs.size):
  (us.zipIdx.foldl (λcs (x:Value × Nat)=>cs.setIfInBounds (off+x.2) x.1) cs).toList=cs.toList.take off++us.toList++cs.toList.drop (off+us.size):=by
 have key:∀(l:List Value)(n:Nat)(cs:Array Value),off+n+l.length<=cs.size->
   ((l.zipIdx n).foldl (λ(cs:Array Value)(x:Value × Nat)=>cs.setIfInBounds (off+x.2) x.1) cs).toList=cs.toList.take (off+n)++l++cs.toList.drop (off+n+l.length):=by
  intro l
  induction l with
  | nil=>intro n cs _; simp
  | cons v l ih=>
   intro n cs h;simp only[List.zipIdx_cons,List.foldl_cons,List.length_cons]at h ⊢;rw[ih (n+1) _ (by simp; omega)];simp only[Array.toList_setIfInBounds];apply List.ext_getElem?;intro j;have hsz:off+n<cs.toList.length:=by simp; omega
   rw[List.getElem?_append,List.getElem?_append,List.getElem?_append,List.getElem?_append];simp only[List.length_append,List.length_take,List.length_cons,List.length_set,List.getElem?_take,List.getElem?_drop,List.getElem?_set];have hcs:cs.toList.length=cs.size:=by simp
   by_cases h1:j<off+n
   ·rw[if_pos (by omega),if_pos (by omega),if_pos (by omega),if_neg (by omega),if_pos (by omega),if_pos (by omega),if_pos (by omega)]
   ·by_cases h2:j=off+n
    ·subst h2;rw[if_pos (by omega),if_pos (by omega),if_pos (by omega),if_pos rfl,if_pos (by omega),if_pos (by omega),if_neg (by omega)];simp[show off+n - min (off+n) cs.size=0 by omega]
    ·by_cases h3:j<off+n+1+l.length
     ·rw[if_pos (by omega),if_neg (by omega),if_pos (by omega),if_neg (by omega)];rw[show j - min (off+n) cs.toList.length=(j - min (off+(n+1)) cs.toList.length)+1 by omega,List.getElem?_cons_succ]
     ·rw[if_neg (by omega),if_neg (by omega),if_neg (by omega)];congr 1; omega
 have e:us.zipIdx=(us.toList.zipIdx 0).toArray:=by
  apply Array.ext'; simp
 rw[e,List.foldl_toArray];have:=key us.toList 0 cs (by simpa using hl);simpa using this
theorem Z1od {c:RC}{place:Nat->Option (Nat × Nat)}:∀ {is:List Nat}{vs:List EV}{cs cs':List SV}{us:List Value}{zs:Array Value},Zov c.heap place cs is vs=some cs'->All2 (EV.rel c) vs us->All2 (SV.rel c) cs zs.toList->
  ∃ zs',Instr.fill place zs (is.zip us)=some zs'/\All2 (SV.rel c) cs' zs'.toList:=by
 intro is
 induction is with
 | nil=>
  intro vs cs cs' us zs h hv hz
  cases vs with
  | nil=>cases hv; cases h; exact⟨zs,rfl,hz⟩
  | cons v vs=>cases h
 | cons i is ih=>
  intro vs cs cs' us zs h hv hz
  cases vs with
  | nil=>cases h
  | cons v vs=>
   cases v with
   | tup _=>cases h
   | x v=>
    simp only[Zov]at h;split at h
    ·rename_i off size us1 hp hu;split at h
     ·rename_i hq
      cases hv with
      | cons h1 h2=>
       rename_i u us2;obtain⟨g1,_⟩:=XV.cells_rel hu h1;have hl:=g1.len;have hzl:=hz.len
       have hsz:u.cells.size=size:=by have:u.cells.toList.length=u.cells.size:=by simp
                                      omega
       have hzs:zs.toList.length=zs.size:=by simp
       simp only[List.zip_cons_cons,Instr.fill,hp];rw[if_neg (by simp[hsz]; omega)];refine ih h h2 ?_;rw[Z1oc _ _ _ (by omega)];rw[show off+u.cells.size=off+us1.length by omega];exact All2.append (All2.append (hz.take off) g1) (hz.drop _)
     ·cases h
    ·cases h
section
variable {P:Program} {cx:Cx} (hT:∀ t d,cx.tab t=some d->d.Fits P t) {c:RC} (hi:c.Inv) {k:EV->List (Nat × HObj)->Prop}
include hT hi
theorem Z1ih {t:TypeId}{parts:Array (Nat × Value)}{vs:List EV}(h:(Zal cx c.heap t (parts.toList.map (·.1)) vs).wp k)(r:All2 (EV.rel c) vs (parts.toList.map (·.2))):Runs P c (Instr.build t parts) k:=by
 unfold Zal at h;split at h
 ·rename_i d hd;split at h
  ·rename_i hpk;split at h
   ·rename_i cs hcs;have F:=hT t d hd;obtain⟨i,z,h1,h2,h3,h4,h5,h6⟩:=F.info
    have hzip:(parts.toList.map (·.1)).zip (parts.toList.map (·.2))=parts.toList:=by
     rw[List.zip_map']; simp
    have hz:All2 (SV.rel c) (d.zero.map .val) z.cells.toList:=by rw[h5]; exact All2.vals c _
    obtain⟨zs,g1,g2⟩:=Z1od hcs r hz;rw[hzip]at g1;have hzv:(zeroValue t).run P c.w=.ok z c.w:=by simp[zeroValue,typeInfo,h1,h4]
    have tabAll_at:∀(fs:List (Nat × TypeId)),Z11g cx fs=true->∀ f ∈ fs,∃ d,cx.tab f.2=some d:=by
     intro fs
     induction fs with
     | nil=>intro _ f hf; cases hf
     | cons g fs ih=>
      intro ht f hf;obtain⟨o,ft⟩:=g;simp only[Z11g]at ht;split at ht
      ·rename_i d' hd';rcases List.mem_cons.1 hf with rfl | hf
       ·exact⟨d',hd'⟩
       ·exact ih ht f hf
      ·cases ht
    have run:(Instr.build t parts).run P c.w=.ok (.agg zs) c.w:=by
     have hk:=F.k
     cases hkk:d.k with
     | struct fs=>
      rw[hkk]at hk hpk g1;obtain⟨fields,hf,hfs⟩:=hk
      have Zev:∀(l:List Field),(∀ f ∈ l,∃ d,cx.tab f.type=some d)->(l.mapM λf=>(do pure (f.offset,<- sizeOf f.type):Sem (Nat × Nat))).run P c.w=.ok (l.map λf=>(f.offset,((cx.tab f.type).map (·.sz)).getD 0)) c.w:=by
       intro l
       induction l with
       | nil=>intro _; rw[List.mapM_nil]; rfl
       | cons f l ih=>
        intro hall;obtain⟨fd,hfd⟩:=hall f List.mem_cons_self;obtain⟨fi,_,q1,q2,_⟩:=(hT _ fd hfd).info;rw[List.mapM_cons];have hs:(sizeOf f.type).run P c.w=.ok fd.sz c.w:=by simp[sizeOf,typeInfo,q1,q2]
        simp only[Sem.run_bind,Sem.run_pure,hs,Result.andThen,ih (λf hf=>hall f (List.mem_cons_of_mem _ hf))];simp only[List.map_cons,hfd,Option.map_some,Option.getD_some]
      have hall:∀ f ∈ fields.toList,∃ d,cx.tab f.type=some d:=by
       intro f hf;have:(f.offset,f.type) ∈ fs:=by rw[<- hfs]; exact List.mem_map.2 ⟨f,hf,rfl⟩
       exact tabAll_at fs hpk _ this
      have hp:=Zev fields.toList hall
      have hplace:(λi=>((fields.toList.map λf=>(f.offset,((cx.tab f.type).map (·.sz)).getD 0)).toArray)[i]?)=Zhy cx (.struct fs):=by
       funext j;unfold Zhy;rw[<- hfs];simp only[List.getElem?_toArray,List.getElem?_map]
       cases hj:fields.toList[j]? with
       | none=>rfl
       | some f=>
        obtain⟨fd,hfd⟩:=hall f (List.mem_of_getElem? hj);simp[hfd]
      rw[<- hplace]at g1
      have hp2:(fields.mapM λf=>(do pure (f.offset,<- sizeOf f.type):Sem (Nat × Nat))).run P c.w=.ok ((fields.toList.map λf=>(f.offset,((cx.tab f.type).map (·.sz)).getD 0)).toArray) c.w:=by
       have e:(fields.mapM λf=>(do pure (f.offset,<- sizeOf f.type):Sem (Nat × Nat)))=(do
         let l <- fields.toList.mapM λf=>(do pure (f.offset,<- sizeOf f.type):Sem (Nat × Nat))
         pure l.toArray):=by
        have e1:fields=fields.toList.toArray:=by simp
        conv=>lhs; rw[e1]
        rw[List.mapM_toArray,map_eq_pure_bind]
       rw[e];simp only[Sem.run_bind,hp,Result.andThen,Sem.run_pure]
      simp only[Instr.build,Sem.run_bind,hzv,Result.andThen,run_underlying hf,hp2];rw[g1];rfl
     | arr n e=>
      rw[hkk]at hk hpk g1;have hk':P.underlying t=some (.array n e):=hk;simp only[Z11h]at hpk;split at hpk
      ·rename_i ed he;obtain⟨ei,_,q1,q2,_⟩:=(hT e ed he).info;have hs:(sizeOf e).run P c.w=.ok ed.sz c.w:=by simp[sizeOf,typeInfo,q1,q2]
       have hplace:(λi=>some (i*ed.sz,ed.sz))=Zhy cx (.arr n e):=by funext j; simp[Zhy,he]
       rw[<- hplace]at g1;simp only[Instr.build,Sem.run_bind,hzv,Result.andThen,run_underlying hk',hs];rw[g1];rfl
      ·cases hpk
     | _=>rw[hkk]at hpk; cases hpk
    exact Runs.pure hi run h ⟨zs,rfl,g2⟩
   ·exact h.elim
  ·exact h.elim
 ·exact h.elim
end
end
section
def mget(y:Int × Int):List ((Int × Int) × Int)->Option Int
 | []=>none
 | p :: l=>if p.1=y then some p.2 else mget y l
def mput(y:Int × Int)(v:Int):List ((Int × Int) × Int)->List ((Int × Int) × Int)
 | []=>[(y,v)]
 | p :: l=>if p.1=y then(y,v) :: l else p :: mput y v l
def mapK(cx:Cx)(t:TypeId):Option (IntKind × IntKind × IntKind):=match cx.tab t with
 | some ⟨.map kt et,_,_,_,_⟩=>match cx.tab kt,cx.tab et with
  | some ⟨.struct [(0,a),(1,b)],_,_,_,_⟩,some ⟨.int l,_,_,_,_⟩=>match cx.tab a,cx.tab b with
   | some ⟨.int i,_,_,_,_⟩,some ⟨.int j,_,_,_,_⟩=>some (i,j,l)
   | _,_=>none
  | _,_=>none
 | _=>none
def Z1oe:Option EV->Bool
 | none=>true
 | some (.x (.one (.val (.int _ _))))=>true
 | _=>false
def Zer(cx:Cx)(t:TypeId)(n:Option EV)(tgt:Nat):Res:=match mapK cx t,Z1oe n with
 | some (i,j,l),true=>.ret (.x (.one (.mref tgt))) [(tgt,.mp .rw (.pair (.int i) (.int j)) (.int l) [])]
 | _,_=>.fail
def Zwe(h:List HObj)(i j l:IntKind):EV->Option (List ((Int × Int) × Int))
 | .x (.one (.mref id))=>match h[id]? with
  | some (.mp _ (.pair (.int i') (.int j')) (.int l') xs)=>if i'=i/\j'=j/\l'=l then some xs else none
  | _=>none
 | .x (.one (.data (.map (.pair (.int i') (.int j')) (.int l')) xs))=>if i'=i/\j'=j/\l'=l then some xs else none
 | _=>none
def Z5a(cx:Cx)(h:List HObj)(t:TypeId)(m k v:EV):Res:=match mapK cx t,m,k,v with
 | some (i,j,l),.x (.one (.mref id)),.x kx,.x (.one (.val (.int l2 z)))=>match h[id]? with
  | some (.mp .rw (.pair (.int i') (.int j')) (.int l') xs)=>if i'=i/\j'=j/\l'=l/\l2=l then(match kx.take [] (.pair (.int i) (.int j))with
   | some y=>.ret (.tup []) [(id,.mp .rw (.pair (.int i') (.int j')) (.int l') (mput y z xs))]
   | none=>.fail)else .fail
  | _=>.fail
 | _,_,_,_=>.fail
def Z8i(cx:Cx)(h:List HObj)(t:TypeId)(m k:EV)(two:Bool):Res:=match mapK cx t,k with
 | some (i,j,l),.x kx=>match Zwe h i j l m,kx.take [] (.pair (.int i) (.int j))with
  | some xs,some y=>(match two with
   | true=>.ret (.tup [.one (.val (.int l ((mget y xs).getD 0))),.one (.val (.bool (mget y xs).isSome))]) []
   | false=>vI l ((mget y xs).getD 0))
  | _,_=>.fail
 | _,_=>.fail
structure MWrote (w w':World) (b:Nat) (o:Obj):Prop where
 size:w'.heap.size=w.heap.size
 os:w'.os=w.os
 tape:w'.tape=w.tape
 output:w'.output=w.output
 there:w'.heap[b]?=some o
 others:∀(i:Nat),i≠b->w'.heap[i]?=w.heap[i]?
theorem Ext.storeM {c:RC}{w':World}{id b:Nat}{o o':HObj}{es:Array MapEntry}{ck:Nat}{ob:Obj}(ho:c.heap[id]?=some o)(hm:o.md?=some .rw)(hb:c.blk id=some b)
  (hv:c.w.heap[b]?=some (.map es ck)) (hw:MWrote c.w w' b ob) (hev:o.ev o'):
  Ext c {c with w:=w',heap:=c.heap.set id o' } where
 base:=rfl
 size:=Nat.le_of_eq hw.size.symm
 os:=hw.os
 tape:=hw.tape
 output:=hw.output
 keep i hi hn:=hw.others i λe=>hn (e ▸ ⟨id,o,ho,hm,hb⟩)
 cells i us t' z h:=by
  by_cases e:i=b
  ·subst e;rw[hv]at h; cases h
  ·exact⟨us,z,(hw.others i e).trans h,rfl,.inl rfl⟩
 blk _ _ _ _:=rfl
 ev i oi hi:=by
  by_cases e:id=i
  ·subst e; rw[ho]at hi; cases hi; exact⟨o',Z3p ho,hev⟩
  ·exact⟨oi,(Z2t e).trans hi,oi.ev_refl⟩
 fresh i oi bi hoi hl hn hbi hlt:=by
  rcases Z1n hoi with⟨rfl,rfl,_⟩ | ⟨h,h'⟩
  ·exact absurd (HObj.live_of_md hm) (hn o ho)
  ·exact absurd hl (hn oi h')
theorem RC.Inv.storeM {c:RC}{w':World}{id b:Nat}{o o':HObj}{es:Array MapEntry}{ck:Nat}{ob:Obj}(hi:c.Inv)(ho:c.heap[id]?=some o)(hm:o.md?=some .rw)(hb:c.blk id=some b)
  (hv:c.w.heap[b]?=some (.map es ck)) (hw:MWrote c.w w' b ob) (hev:o.ev o')
  (hr:o'.rel {c with w:=w',heap:=c.heap.set id o' } id):RC.Inv {c with w:=w',heap:=c.heap.set id o' } where
 objs i oi hoi:=by
  rcases Z1n hoi with⟨rfl,rfl,_⟩ | ⟨h,h'⟩
  ·exact hr
  ·refine HObj.rel_mono (Ext.storeM ho hm hb hv hw hev) h' (λbi hbi hl=>hw.others bi λe=>?_) (hi.objs i oi h');subst e;exact h (hi.inj id i o oi bi ho (HObj.live_of_md hm) h' hl hb hbi)
 inj i j oi oj bi hoi hli hoj hlj hbi hbj:=by
  have lift:∀(k:Nat)(ok:HObj),(c.heap.set id o')[k]?=some ok->ok.live->∃ o2,c.heap[k]?=some o2/\o2.live:=by
   intro k ok hk hl;rcases Z1n hk with⟨rfl,rfl,_⟩ | ⟨_,h'⟩
   ·exact⟨o,ho,HObj.live_of_md hm⟩
   ·exact⟨ok,h',hl⟩
  obtain⟨o1,h1,l1⟩:=lift i oi hoi hli;obtain⟨o2,h2,l2⟩:=lift j oj hoj hlj;exact hi.inj i j o1 o2 bi h1 l1 h2 l2 hbi hbj
 base i oi bi hoi hl hbi:=by
  rcases Z1n hoi with⟨rfl,rfl,_⟩ | ⟨_,h'⟩
  ·exact hi.base id o bi ho (HObj.live_of_md hm) hbi
  ·exact hi.base i oi bi h' hl hbi
 basele:=by show c.base<=w'.heap.size; rw[hw.size]; exact hi.basele
def keyV(i j:IntKind)(y:Int × Int):Value:=.agg #[.int i y.1,.int j y.2]
theorem Z1of {w:World}{ok:Nat->Prop}{i j:IntKind}{y:Int × Int}{v:Value}(h:KV (K.pair (.int i) (.int j)).agg ((K.pair (.int i) (.int j)).rep w ok) y v):v=keyV i j y:=by
 obtain⟨vs,rfl,c1,c2,e,h1,h2⟩:=h;have h1:c1=[.int i y.1]:=h1;have h2:c2=[.int j y.2]:=h2;subst h1; subst h2;unfold keyV;congr 1;apply Array.ext';exact e
theorem Z1og {w:World}{ok:Nat->Prop}{i j:IntKind}{y:Int × Int}:KV (K.pair (.int i) (.int j)).agg ((K.pair (.int i) (.int j)).rep w ok) y (keyV i j y):=
 ⟨_,rfl,[_],[_],rfl,rfl,rfl⟩
theorem Z1vy {w:World}{ok:Nat->Prop}{l:IntKind}{z:Int}{v:Value}(h:KV (K.int l).agg ((K.int l).rep w ok) z v):v=.int l z:=(List.cons.inj (show [v]=[.int l z]from h)).1
theorem Z1oh {w:World}{ok:Nat->Prop}{l:IntKind}{z:Int}:KV (K.int l).agg ((K.int l).rep w ok) z (.int l z):=rfl
structure MapTy (P:Program) (t kt et:TypeId) (i j l:IntKind):Prop where
 u:P.underlying t=some (.map kt et)
 held:P.stoodInHeld kt=false
 fs:∃ f g:Field,P.underlying kt=some (.struct #[f,g])/\f.name ≠ "_" /\ g.name ≠ "_" /\ f.offset=0/\g.offset=1/\P.underlying f.type=some (.int i)/\P.underlying g.type=some (.int j)
 e:P.underlying et=some (.int l)
 z:∃ inf,P.info? et=some inf/\inf.zero=some (.int l 0)
theorem Z16f {P:Program}{cx:Cx}(hT:∀ t d,cx.tab t=some d->d.Fits P t){t:TypeId}{i j l:IntKind}(h:mapK cx t=some (i,j,l)):∃ kt et,MapTy P t kt et i j l:=by
 unfold mapK at h;split at h
 ·rename_i kt et _ _ _ _ ht;split at h
  ·rename_i a b _ _ _ _ l' _ _ _ _ hk he;split at h
   ·rename_i i' _ _ _ _ j' _ _ _ _ ha hb
    cases h
    obtain⟨h1,h2,h3,h4⟩:=(hT t _ ht).k;have e:=(hT et _ he).k;obtain⟨fields,hf,hm⟩:=(hT kt _ hk).k
    have hl:∃ f g:Field,fields.toList=[f,g]:=by
     rcases hq:fields.toList with _ | ⟨f,_ | ⟨g,_ | ⟨x,r⟩⟩⟩ <;> rw[hq]at hm <;> simp at hm
     exact⟨f,g,rfl⟩
    obtain⟨f,g,hl⟩:=hl;have hfs:fields=#[f,g]:=Array.ext' hl;rw[hl]at hm;simp at hm;obtain⟨⟨m1,m2⟩,m3,m4⟩:=hm;have n:=h3 fields hf;rw[hl]at n;subst hfs;refine⟨kt,et,h1,h2,⟨f,g,hf,n f (by simp),n g (by simp),m1,m3,?_,?_⟩,e,h4 l e⟩
    ·rw[m2]; exact(hT a _ ha).k
    ·rw[m4]; exact(hT b _ hb).k
   ·cases h
  ·cases h
 ·cases h
section
variable {P:Program} {t kt et:TypeId} {i j l:IntKind} (T:MapTy P t kt et i j l)
include T
theorem Zzl(y:Int × Int)(w:World):∃ f g:Field,P.underlying kt=some (.struct #[f,g])/\f.name ≠ "_" /\ g.name ≠ "_" /\ P.underlying f.type=some (.int i)/\P.underlying g.type=some (.int j)/\
  ∀(y:Int × Int)(w:World),(part f.type #[.int i y.1,.int j y.2] f.offset).run P w=.ok (.int i y.1) w/\(part g.type #[.int i y.1,.int j y.2] g.offset).run P w=.ok (.int j y.2) w:=by
 obtain⟨f,g,h1,h2,h3,h4,h5,h6,h7⟩:=T.fs;refine⟨f,g,h1,h2,h3,h6,h7,λy w=>⟨?_,?_⟩⟩
 ·simp[part,isAgg,run_underlying h6,h4]
 ·simp[part,isAgg,run_underlying h7,h5]
theorem Z19e(x y:Int × Int)(w:World):(Op.equal kt (keyV i j x) (keyV i j y)).run P w=.ok (decide (x=y)) w:=by
 obtain⟨f,g,h1,h2,h3,h4,h5,h6⟩:=Zzl T x w;have hf:P.fieldsOf kt=#[f,g]:=by simp[Program.fieldsOf,h1]
 unfold Op.equal Op.maxDepth keyV;rw[show(10000:Nat)=9998+1+1 from rfl,run_equalIn_agg w (9998+1) kt _ _ (by rw[hf]; exact h1) T.held,hf];obtain⟨p1,p2⟩:=h6 x w;obtain⟨p3,p4⟩:=h6 y w
 have hd:decide (x=y)=(x.1==y.1&&x.2==y.2):=by
  rw[Bool.eq_iff_iff,decide_eq_true_eq,Bool.and_eq_true,beq_iff_eq,beq_iff_eq,Prod.ext_iff]
 rw[hd];simp only[Op.eqFields,h2,h3,ne_eq,not_false_eq_true,if_true,Sem.run_bind,p1,p3,Result.andThen_ok,run_equalIn_int w 9998 _ i i _ _ h4]
 cases(x.1==y.1)with
 | false=>simp
 | true=>
  simp only[Bool.not_true,Bool.false_eq_true,if_false,Sem.run_bind,p2,p4,Result.andThen_ok,run_equalIn_int w 9998 _ j j _ _ h5]
  cases(x.2==y.2) <;> simp
theorem Zes(em:Bool)(y:Int × Int)(w:World):(Instr.checkKey em 10000 kt (keyV i j y)).run P w=.ok () w:=by
 obtain⟨f,g,h1,h2,h3,h4,h5,h6⟩:=Zzl T y w
 have ci:∀(n:Nat)(ft:TypeId)(ik:IntKind)(z:Int),P.underlying ft=some (.int ik)->(Instr.checkKey em (n+1) ft (.int ik z)).run P w=.ok () w:=by
  intro n ft ik z hu;unfold Instr.checkKey;simp[run_underlying hu]
 unfold keyV;rw[show(10000:Nat)=9998+1+1 from rfl,Instr.checkKey];simp only[Sem.run_bind,run_underlying h1,Result.andThen_ok];rw[<- Array.forIn_toList];simp only[List.forIn_cons,List.forIn_nil,h2,h3,ne_eq,not_false_eq_true,if_true,Sem.run_bind,(h6 y w).1,(h6 y w).2,ci 9998 _ _ _ h4,ci 9998 _ _ _ h5,Result.andThen_ok,Sem.run_pure]
theorem Zhz(y:Int × Int)(es:List MapEntry)(w:World):(Instr.findKey kt (keyV i j y) es).run P w=(Instr.findAsking kt (keyV i j y) es 0).run P w:=by
 obtain⟨f,g,h1,_⟩:=Zzl T y w;unfold Instr.findKey;simp only[Sem.run_bind,run_underlying h1,Result.andThen_ok]
 cases es with
 | nil=>simp[Instr.findNow,Instr.findAsking]
 | cons e es=>simp[Instr.findNow,Instr.sameNow]
theorem Zow {w0:World}{ok:Nat->Prop}(y:Int × Int)(v:Int)(w:World):∀(xs:List ((Int × Int) × Int))(es:List MapEntry)(n:Nat),Ents (KV (K.pair (.int i) (.int j)).agg ((K.pair (.int i) (.int j)).rep w0 ok)) (KV (K.int l).agg ((K.int l).rep w0 ok)) xs es->
  (mget y xs=none/\(Instr.findAsking kt (keyV i j y) es n).run P w=.ok none w/\∀ bo,Ents (KV (K.pair (.int i) (.int j)).agg ((K.pair (.int i) (.int j)).rep w0 ok)) (KV (K.int l).agg ((K.int l).rep w0 ok)) (mput y v xs) (es++[⟨keyV i j y,.int l v,bo⟩]))∨
  ∃ z q e,mget y xs=some z/\(Instr.findAsking kt (keyV i j y) es n).run P w=.ok (some (n+q,e.val)) w/\es[q]?=some e/\e.val=.int l z/\e.key=keyV i j y/\
   Ents (KV (K.pair (.int i) (.int j)).agg ((K.pair (.int i) (.int j)).rep w0 ok)) (KV (K.int l).agg ((K.int l).rep w0 ok)) (mput y v xs) (es.set q {e with key:=keyV i j y,val:=.int l v})
 | [],es,n,h=>by
  obtain rfl:es=[]:=h;exact .inl ⟨rfl,by simp[Instr.findAsking],λbo=>⟨_,[],rfl,Z1og,Z1oh,rfl⟩⟩
 | x :: xs,es,n,h=>by
  obtain⟨e,r,rfl,h1,h2,h3⟩:=h;have hk:=Z1of h1;have hv:=Z1vy h2;by_cases q:x.1=y
  ·right;refine⟨x.2,0,e,by simp[mget,q],?_,rfl,hv,by rw[hk,q],?_⟩
   ·simp[Instr.findAsking,hk,Z19e T,q]
   ·simp only[mput,q,if_true,List.set_cons_zero];exact⟨_,r,rfl,Z1og,Z1oh,h3⟩
  ·have hne:(decide (y=x.1))=false:=decide_eq_false λz=>q z.symm
   have hstep:(Instr.findAsking kt (keyV i j y) (e :: r) n).run P w=(Instr.findAsking kt (keyV i j y) r (n+1)).run P w:=by
    simp[Instr.findAsking,hk,Z19e T,hne]
   rcases Zow y v w xs r (n+1) h3 with⟨a1,a2,a3⟩ | ⟨z,p,e',a1,a2,a3,a4,a5,a6⟩
   ·refine .inl ⟨by simp[mget,q,a1],by rw[hstep,a2],λbo=>?_⟩;simp only[mput,q,if_false];exact⟨e,_,rfl,h1,h2,a3 bo⟩
   ·refine .inr ⟨z,p+1,e',by simp[mget,q,a1],by rw[hstep,a2]; congr 3; omega,by simpa using a3,a4,a5,?_⟩;simp only[mput,q,if_false,List.set_cons_succ];exact⟨e,_,rfl,h1,h2,a6⟩
end
section
variable {P:Program} {cx:Cx} (hT:∀ t d,cx.tab t=some d->d.Fits P t) {c:RC} (hi:c.Inv) {k:EV->List (Nat × HObj)->Prop} {tgt:Nat}
include hT hi
theorem Z1ex {kx:XV}{i j:IntKind}{y:Int × Int}{u:Value}(h:kx.take [] (.pair (.int i) (.int j))=some y)(r:kx.rel c u):u=keyV i j y:=by
 have:=XV.take_repT hi (Tak.none c) h r;exact Z1of (w:=c.w) (ok:=c.ok) this
theorem Z1bh(hp:c.heap[tgt]?=some .pend){t:TypeId}{n:Option EV}{un:Option Value}(h:(Zer cx t n tgt).wp k)(r:∀ e,n=some e->∃ u,un=some u/\e.rel c u)(r0:n=none->un=none):Runs P c (Instr.makeMap t un) k:=by
 unfold Zer at h;split at h
 ·rename_i i j l hk hn;obtain⟨kt,et,T⟩:=Z16f hT hk
  have run:(Instr.makeMap t un).run P c.w=.ok (.map (some c.w.heap.size)) (c.w.alloc (.map #[] 0)):=by
   cases n with
   | none=>rw[r0 rfl]; simp[Instr.makeMap,newObj,Sem.run]
   | some e=>
    obtain⟨u,rfl,hr⟩:=r e rfl;unfold Z1oe at hn;split at hn
    ·rename_i e0; cases e0
    ·rename_i ik z e0
     cases e0
     obtain rfl:u=.int ik z:=hr;simp[Instr.makeMap,newObj,run_underlying T.u,asInt,asIntOf,Sem.run]
    ·cases hn
  have hg:Grows c.w (c.w.alloc (.map #[] 0)):=Grows.alloc _ _;have hb:∀ b,some c.w.heap.size=some b->c.w.heap.size<=b:=λb e=>by cases e; exact Nat.le_refl _
  have he:=Ext.put (o:=.mp .rw (.pair (.int i) (.int j)) (.int l) []) hg hp hb;have hblk:(c.put (c.w.alloc (.map #[] 0)) tgt (.mp .rw (.pair (.int i) (.int j)) (.int l) []) (some c.w.heap.size)).blk tgt=some c.w.heap.size:=by show upd c.blk tgt _ tgt=_; simp[upd]
  have hhp:(c.put (c.w.alloc (.map #[] 0)) tgt (.mp .rw (.pair (.int i) (.int j)) (.int l) []) (some c.w.heap.size)).heap[tgt]?=some (.mp .rw (.pair (.int i) (.int j)) (.int l) []):=Z3p hp;refine⟨_,_,run,.x (.one (.mref tgt)),_,_,h,rfl,rfl,he,RC.Inv.put hi hg hp hb ?_,?_⟩
  ·refine⟨_,#[],0,hblk,?_,rfl⟩;exact heap_alloc_new _ _
  ·show SV.rel _ (.mref tgt) _;simp only[SV.rel,hhp];exact⟨_,hblk,rfl⟩
 ·exact h.elim
theorem Z11i {t:TypeId}{m kx v:EV}{um uk uv:Value}(h:(Z5a cx c.heap t m kx v).wp k)(rm:m.rel c um)(rk:kx.rel c uk)(rv:v.rel c uv):Zjo P c (Instr.mapUpdate t um uk uv) k:=by
 unfold Z5a at h;split at h
 ·rename_i i j l id ky l2 z hk;obtain⟨kt,et,T⟩:=Z16f hT hk;split at h
  ·rename_i i' j' l' xs ho;split at h
   ·rename_i hq;obtain⟨rfl,rfl,rfl,rfl⟩:=hq;split at h
    ·rename_i y hy;obtain rfl:=Z1ex hT hi hy rk;obtain rfl:uv=.int _ z:=rv;have rm':SV.rel c (.mref id) um:=rm;simp only[SV.rel,ho]at rm';obtain⟨b,hb,rfl⟩:=rm';obtain⟨b',es,ck,hb',hv,hes⟩:=hi.objs id _ ho;rw[hb]at hb'; cases hb';have hlt:b<c.w.heap.size:=Z1x hv
     have wrote:∀ o:Obj,MWrote c.w {c.w with heap:=c.w.heap.setIfInBounds b o} b o:=λo=>
      ⟨by simp,rfl,rfl,rfl,by simp[hlt],λi hi=>by simp[Ne.symm hi]⟩
     have fin:∀(es':Array MapEntry)(ck':Nat),Ents (KV (K.pair (.int i') (.int j')).agg ((K.pair (.int i') (.int j')).rep c.w c.ok)) (KV (K.int l2).agg ((K.int l2).rep c.w c.ok)) (mput y z xs) es'.toList->
       Done c k undef {c.w with heap:=c.w.heap.setIfInBounds b (.map es' ck')}:=by
      intro es' ck' he';have hev:(HObj.mp .rw (.pair (.int i') (.int j')) (.int l2) xs).ev (.mp .rw (.pair (.int i') (.int j')) (.int l2) (mput y z xs)):=.inr ⟨.rw,_,rfl,.inl rfl⟩;have E:=Ext.storeM ho rfl hb hv (wrote (.map es' ck')) hev;refine⟨.tup [],_,_,h,rfl,rfl,E,RC.Inv.storeM hi ho rfl hb hv (wrote _) hev ?_,⟨#[],rfl,.nil⟩⟩;exact⟨b,es',ck',hb,(wrote _).there,Ents.mono (λ_ _=>KV.mono λx cs=>K.rep_mono E.ok _ x cs) (λ_ _=>KV.mono λx cs=>K.rep_mono E.ok _ x cs) he'⟩
     rcases Zow T y z c.w xs es.toList 0 hes with⟨a1,a2,a3⟩ | ⟨z0,q,e,a1,a2,a3,a4,a5,a6⟩
     ·refine⟨_,?_,fin (es.push ⟨keyV i' j' y,.int l2 z,ck⟩) (ck+1) (by simpa using a3 ck)⟩;simp[Instr.mapUpdate,run_underlying T.u,MapKept.run_getObj_map hv,Zes T false y c.w,Zhz T y es.toList c.w,a2,MapKept.run_setObj_map _ hv]
     ·refine⟨_,?_,fin (es.modify q λe=>{e with key:=keyV i' j' y,val:=.int l2 z}) ck ?_⟩
      ·have hst:(Instr.keyThatStays (keyV i' j' y) (keyV i' j' y)).run P c.w=.ok (keyV i' j' y) c.w:=by
        have:Instr.sameBits 10000 (keyV i' j' y) (keyV i' j' y)=true:=by
         show Instr.sameBits (9998+1+1) (.agg #[_,_]) (.agg #[_,_])=true;simp[Instr.sameBits]
        simp[Instr.keyThatStays,this]
       have a3':es[q]?=some e:=by simpa using a3
       simp[Instr.mapUpdate,run_underlying T.u,MapKept.run_getObj_map hv,Zes T false y c.w,Zhz T y es.toList c.w,a2,a3',a5,hst,MapKept.run_setObj_map _ hv]
      ·have:(es.modify q λe=>{e with key:=keyV i' j' y,val:=.int l2 z}).toList=es.toList.set q {e with key:=keyV i' j' y,val:=.int l2 z}:=by
        apply List.ext_getElem?;intro p;simp only[Array.toList_modify,List.getElem?_modify,List.getElem?_set];by_cases hpq:q=p
        ·subst hpq
         have hlt2:q<es.toList.length:=by
          rcases Nat.lt_or_ge q es.toList.length with g | g
          ·exact g
          ·rw[List.getElem?_eq_none g]at a3; cases a3
         have a3':es[q]?=some e:=by simpa using a3
         have hlt3:q<es.size:=by simpa using hlt2
         simp only[if_true,a3,hlt2];rfl
        ·simp[hpq]
       rw[this]; exact a6
    ·exact h.elim
   ·exact h.elim
  ·exact h.elim
 ·exact h.elim
theorem Z1oi {i j l:IntKind}{m:EV}{xs:List ((Int × Int) × Int)}{um:Value}(h:Zwe c.heap i j l m=some xs)(r:m.rel c um):
  (um=.map none/\xs=[])∨∃ b es ck,um=.map (some b)/\c.w.heap[b]?=some (.map es ck)/\Ents (KV (K.pair (.int i) (.int j)).agg ((K.pair (.int i) (.int j)).rep c.w c.ok)) (KV (K.int l).agg ((K.int l).rep c.w c.ok)) xs es.toList:=by
 unfold Zwe at h;split at h
 ·rename_i id;split at h
  ·rename_i md i' j' l' ys ho;split at h
   ·rename_i q;obtain⟨rfl,rfl,rfl⟩:=q
    cases h
    have r':SV.rel c (.mref id) um:=r;simp only[SV.rel,ho]at r';obtain⟨b,hb,rfl⟩:=r';obtain⟨b',es,ck,hb',hv,hes⟩:=hi.objs id _ ho;rw[hb]at hb'; cases hb';exact .inr ⟨b,es,ck,rfl,hv,hes⟩
   ·cases h
  ·cases h
 ·rename_i i' j' l' ys;split at h
  ·rename_i q;obtain⟨rfl,rfl,rfl⟩:=q
   cases h
   have r':K.rep c.w c.ok (.map (.pair (.int i') (.int j')) (.int l')) xs [um]:=r;rcases r' with⟨e1,e2⟩ | ⟨b,es,ck,e1,_,hv,hes⟩
   ·exact .inl ⟨(List.cons.inj e2).1,e1⟩
   ·exact .inr ⟨b,es,ck,(List.cons.inj e1).1,hv,hes⟩
  ·cases h
 ·cases h
theorem Z1ey {t:TypeId}{m kx:EV}{um uk:Value}{two:Bool}(h:(Z8i cx c.heap t m kx two).wp k)(rm:m.rel c um)(rk:kx.rel c uk):Runs P c (Instr.lookup t um uk two) k:=by
 unfold Z8i at h;split at h
 ·rename_i i j l ky hk;obtain⟨kt,et,T⟩:=Z16f hT hk;split at h
  ·rename_i xs y hx hy;obtain rfl:=Z1ex hT hi hy rk
   have hz:(zeroValue et).run P c.w=.ok (.int l 0) c.w:=by
    obtain⟨inf,g1,g2⟩:=T.z;simp[zeroValue,typeInfo,g1,g2]
   have run:(Instr.lookup t um (keyV i j y) two).run P c.w=.ok (if two then .tuple #[.int l ((mget y xs).getD 0),.bool (mget y xs).isSome]else .int l ((mget y xs).getD 0)) c.w:=by
    rcases Z1oi hT hi hx rm with⟨rfl,rfl⟩ | ⟨b,es,ck,rfl,hv,hes⟩
    ·have hf:(Instr.findKey kt (keyV i j y) []).run P c.w=.ok none c.w:=by
      rw[Zhz T y [] c.w]; simp[Instr.findAsking]
     cases two <;> simp[Instr.lookup,run_underlying T.u,Zes T true y c.w,hf,hz,mget]
    ·rcases Zow T y 0 c.w xs es.toList 0 hes with⟨a1,a2,_⟩ | ⟨z0,q,e,a1,a2,a3,a4,_,_⟩
     ·cases two <;> simp[Instr.lookup,run_underlying T.u,MapKept.run_getObj_map hv,Zes T es.isEmpty y c.w,Zhz T y es.toList c.w,a2,hz,a1]
     ·cases two <;> simp[Instr.lookup,run_underlying T.u,MapKept.run_getObj_map hv,Zes T es.isEmpty y c.w,Zhz T y es.toList c.w,a2,a4,a1]
   split at h
   ·refine Runs.pure hi (by rw[run,if_pos rfl]) h ?_;exact⟨_,rfl,.cons rfl (.cons rfl .nil)⟩
   ·refine Z3z hi (by rw[run,if_neg (by decide)]) h
  ·exact h.elim
 ·exact h.elim
end
end
section
def Zm2(cx:Cx)(h:List HObj)(s:TypeId)(v:EV):Res:=match cx.tab s,v with
 | some ⟨.slice e,_,_,_,_⟩,.x (.one (.osl id 0 len))=>match cx.tab e,h[id]? with
  | some ⟨.int .u8,_,_,_,_⟩,some (.row .rw _ (.int .u8) xs)=>.ask (1<=len/\len=List.length xs) λ_=>.ret (.dat (.slice (.int .u8)) xs) [(id,.dead)]
  | _,_=>.fail
 | some ⟨.slice e,_,_,_,_⟩,.x (.one (.osx id len))=>match cx.tab e,h[id]? with
  | some ⟨.int .u8,_,_,_,_⟩,some (.row .rw _ (.int .u8) xs)=>.ask (1<=len/\len=List.length xs) λ_=>.ret (.x (.one (.full (.int .u8) xs))) [(id,.dead)]
  | _,_=>.fail
 | _,_=>.fail
theorem Ext.mark {c:RC}{w':World}{id b:Nat}{ty:TypeId}{e:K}{xs:List e.T}{vs:Array Value}{z:Nat × Nat}(hi:c.Inv)(ho:c.heap[id]?=some (.row .rw ty e xs))(hb:c.blk id=some b)(hv:c.w.heap[b]?=some (.cells vs ty (0,0)))
  (hs:w'.heap.size=c.w.heap.size) (hos:w'.os=c.w.os) (ht:w'.tape=c.w.tape) (hout:w'.output=c.w.output) (others:∀ i,i≠b->w'.heap[i]?=c.w.heap[i]?) (there:w'.heap[b]?=some (.cells vs ty z)):
  Ext c {c with w:=w',heap:=c.heap.set id .dead}/\RC.Inv {c with w:=w',heap:=c.heap.set id .dead}/\RC.ok {c with w:=w',heap:=c.heap.set id .dead} b:=by
 have hl:HObj.live (.row .rw ty e xs):=rfl
 have lift:∀(k:Nat)(o:HObj),(c.heap.set id .dead)[k]?=some o->o.live->k≠id/\c.heap[k]?=some o:=by
  intro k o hk hlo;rcases Z1n hk with⟨rfl,rfl,_⟩ | ⟨hne,h'⟩
  ·exact absurd hlo (by simp[HObj.live,HObj.md?])
  ·exact⟨λe=>hne e.symm,h'⟩
 have notlv:¬ RC.lv {c with w:=w',heap:=c.heap.set id .dead} b:=by
  rintro⟨k,o,hk,hlo,hbk⟩;obtain⟨h1,h2⟩:=lift k o hk hlo;exact h1 (hi.inj k id o _ b h2 hlo ho hl hbk hb)
 have E:Ext c {c with w:=w',heap:=c.heap.set id .dead}:={
  base:=rfl,size:=Nat.le_of_eq hs.symm,os:=hos,tape:=ht,output:=hout
  keep:=λi hi' hn=>others i λei=>hn (ei ▸ ⟨id,_,ho,rfl,hb⟩)
  cells:=λi us t zz h=>by
   by_cases ei:i=b
   ·subst ei;rw[hv]at h; cases h;exact⟨vs,z,there,rfl,.inr notlv⟩
   ·exact⟨us,zz,(others i ei).trans h,rfl,.inl rfl⟩
  blk:=λ_ _ _ _=>rfl
  ev:=λi o hio=>by
   by_cases e2:id=i
   ·subst e2;rw[ho]at hio; cases hio;exact⟨.dead,Z3p ho,.inl rfl⟩
   ·exact⟨o,(Z2t e2).trans hio,o.ev_refl⟩
  fresh:=λi o' bi hio hlo hn _ _=>absurd hlo (hn o' (lift i o' hio hlo).2)}
 refine⟨E,⟨?_,?_,?_,?_⟩,?_⟩
 ·intro i o hio;by_cases hlo:o.live
  ·obtain⟨h1,h2⟩:=lift i o hio hlo;exact HObj.rel_mono E h2 (λbi hbi _=>others bi λei=>h1 (by subst ei; exact hi.inj i id o _ bi h2 hlo ho hl hbi hb)) (hi.objs i o h2)
  ·cases o <;> first | trivial | exact absurd rfl hlo
 ·intro i j oi oj bb h1 l1 h2 l2 b1 b2;exact hi.inj i j oi oj bb (lift i oi h1 l1).2 l1 (lift j oj h2 l2).2 l2 b1 b2
 ·intro i o bb h1 l1 b1;exact hi.base i o bb (lift i o h1 l1).2 l1 b1
 ·show c.base<=w'.heap.size; rw[hs]; exact hi.basele
 ·refine⟨by show b<w'.heap.size; rw[hs]; exact Z1x hv,?_,.inl (hi.base id _ b ho hl hb)⟩;rintro⟨k,o,m,hk,hm,_,hbk⟩;exact notlv ⟨k,o,hk,by unfold HObj.live; rw[hm]; rfl,hbk⟩
section
variable {P:Program} {cx:Cx} (hT:∀ t d,cx.tab t=some d->d.Fits P t) {c:RC} (hi:c.Inv) {k:EV->List (Nat × HObj)->Prop}
include hT hi
theorem Z19f {s e:TypeId}(hf:P.underlying s=some (.slice e))(he:P.underlying e=some (.int .u8)){id len:Nat}{ty:TypeId}{xs:List (K.int u8).T}{u:Value}(ho:c.heap[id]?=some (.row .rw ty (.int .u8) xs))(h1:1<=len)(hlen:len=List.length xs)(r:SV.rel c (.osl id 0 len) u):
  ∃ w',(convert s s u).run P c.w=.ok u w'/\Ext c {c with w:=w',heap:=c.heap.set id .dead}/\RC.Inv {c with w:=w',heap:=c.heap.set id .dead}/\
   K.rep w' (RC.ok {c with w:=w',heap:=c.heap.set id .dead}) (.slice (.int .u8)) xs [u]:=by
 obtain⟨A,cap,rfl,hc,hl,hr⟩:=Zhi (s:=.junk) hT hi ho r;rcases hr with hr | ⟨b,vs,hb,rfl,hv,hsz⟩
 ·omega
 obtain⟨hm,vs',f,re,g1,g2,g3⟩:=Zaj hT hi ho hb;rw[hv]at g1; cases g1;obtain⟨w',ew⟩:∃ w',w'=c.w.freeze ⟨b,vs.size,none⟩ 1:=⟨_,rfl⟩
 have run:(convert s s (.slice (some ⟨b,0*K.sz (.int .u8),none⟩) len cap)).run P c.w=.ok (.slice (some ⟨b,0*K.sz (.int .u8),none⟩) len cap) w':=by
  have hsh:c.w.shape? b=some (ty,vs.size):=by simp only[World.shape?,hv]
  simp[convert,run_underlying hf,run_underlying he,Result.andThen,markStringish,shape,freeze,Sem.run,hsh,ew]
 have hbl:=Z1x hv
 have hheap:w'.heap=c.w.heap.modify b fun
   | .cells cc elem (lo,hi)=>.cells cc elem (if lo==hi then(vs.size,vs.size+1)else(min lo vs.size,max hi (vs.size+1)))
   | o=>o:=by
  rw[ew]; rfl
 have there:w'.heap[b]?=some (.cells vs ty (vs.size,vs.size+1)):=by
  rw[hheap,Array.getElem?_modify,if_pos rfl,hv];rfl
 have others:∀ i,i≠b->w'.heap[i]?=c.w.heap[i]?:=λi hne=>by
  rw[hheap,Array.getElem?_modify,if_neg (Ne.symm hne)]
 obtain⟨E,I,hok⟩:=Ext.mark (w':=w') hi ho hb hv (by rw[hheap]; simp) (by rw[ew]; rfl) (by rw[ew]; rfl) (by rw[ew]; rfl) others there;refine⟨w',run,E,I,some ⟨b,0*K.sz (.int .u8),none⟩,cap,by rw[<- hlen],by rw[<- hlen]; exact hc,hm,.inr ⟨b,0*K.sz (.int .u8),f,rfl,hok,g3.mono λx cs=>K.rep_mono E.ok _ x cs,?_⟩⟩;intro j v hj;simp only[World.cell?,there];have:vs.toList[j]?=some v:=by rw[g2,List.getElem?_append_left (List.getElem?_eq_some_iff.1 hj).1]; exact hj
 simpa using this
theorem Z1ii {s:TypeId}{v:EV}{u:Value}(h:(Zm2 cx c.heap s v).wp k)(r:v.rel c u):Runs P c (convert s s u) k:=by
 unfold Zm2 at h;split at h
 ·rename_i e _ _ _ _ id len htab;split at h
  ·rename_i _ _ _ _ ty xs hte ho;obtain⟨⟨h1,hlen⟩,h⟩:=h;obtain⟨w',run,E,I,R⟩:=Z19f hT hi (hT s _ htab).k (hT e _ hte).k ho h1 hlen r;exact⟨_,w',run,.dat (.slice (.int .u8)) xs,[(id,.dead)],{c with w:=w',heap:=c.heap.set id .dead},h,rfl,rfl,E,I,R⟩
  ·exact h.elim
 ·rename_i e _ _ _ _ id len htab;split at h
  ·rename_i _ _ _ _ ty xs hte ho;obtain⟨⟨h1,hlen⟩,h⟩:=h;have r':SV.rel c (.osx id len) u:=r;obtain⟨w',run,E,I,R⟩:=Z19f hT hi (hT s _ htab).k (hT e _ hte).k ho h1 hlen r'.1;obtain⟨A,hA⟩:=r'.2;exact⟨_,w',run,.x (.one (.full (.int .u8) xs)),[(id,.dead)],{c with w:=w',heap:=c.heap.set id .dead},h,rfl,rfl,E,I,R,A,by rw[hA,hlen]⟩
  ·exact h.elim
 ·exact h.elim
end
end
section
def Con.n:Con->Nat
 | .det _ res _ _=>RKn res
 | .rel _ res _ _ _=>RKn res
def xvs:List EV->Option (List XV)
 | []=>some []
 | .x v :: r=>match xvs r with | some vs=>some (v :: vs) | none=>none
 | _=>none
def Z4y(cx:Cx)(h:List HObj)(f:FuncId)(args:List EV)(tgt:Nat):Res:=match cx.con f,xvs args with
 | some (.det ks rs pre g),some vs=>(match rs.all RK.flat with
  | true=>(match Z60 h ks vs with
   | some x=>.ask (pre x) λ_=>.ret (EV.of (Z2b tgt rs (g x)).1) (Z2b tgt rs (g x)).2
   | none=>.fail)
  | false=>(match Z60 (hz (applyU h (fzx h vs))) ks vs with
   | some x=>.ask (pre x) λ_=>.ret (EV.of (Z2b tgt rs (g x)).1) (fzx h vs++(Z2b tgt rs (g x)).2)
   | none=>.fail))
 | some (.rel ks rs pre post ne),some vs=>(match rs.all RK.flat with
  | true=>(match Z60 h ks vs with
   | some x=>.ask (pre x) λhp=>.all (RS rs) (post x) (ne x hp) λr=>.ret (EV.of (Z2b tgt rs r).1) (Z2b tgt rs r).2
   | none=>.fail)
  | false=>(match Z60 (hz (applyU h (fzx h vs))) ks vs with
   | some x=>.ask (pre x) λhp=>.all (RS rs) (post x) (ne x hp) λr=>.ret (EV.of (Z2b tgt rs r).1) (fzx h vs++(Z2b tgt rs r).2)
   | none=>.fail))
 | _,_=>.fail
def Z1dy(cx:Cx)(t:TypeId):Bool:=match cx.tab t with
 | some ⟨.str,_,_,_,_⟩=>true
 | _=>false
def Z1ll(cx:Cx)(s d:TypeId):Bool:=match cx.tab s with
 | some ⟨.slice e,_,_,_,_⟩=>match cx.tab e with
  | some ⟨.int .u8,_,_,_,_⟩=>Z1dy cx d
  | _=>false
 | _=>false
theorem Z11j {P:Program}{cx:Cx}(hT:∀ t d,cx.tab t=some d->d.Fits P t){t:TypeId}(h:Z1dy cx t=true):P.underlying t=some .string:=by
 unfold Z1dy at h;split at h
 ·rename_i ht; exact(hT t _ ht).k
 ·cases h
theorem Z1lm {P:Program}{cx:Cx}(hT:∀ t d,cx.tab t=some d->d.Fits P t){s d:TypeId}(h:Z1ll cx s d=true):∃ e,P.underlying s=some (.slice e)/\P.underlying e=some (.int .u8)/\P.underlying d=some .string:=by
 unfold Z1ll at h;split at h
 ·rename_i e _ _ _ _ hs;split at h
  ·rename_i he; exact⟨e,(hT s _ hs).k,(hT e _ he).k,Z11j hT h⟩
  ·cases h
 ·cases h
def Zd6(cx:Cx)(h:List HObj)(s d:TypeId)(v:EV):Res:=match Z1ll cx s d with
 | true=>Zwd h v
 | false=>match Nat.beq s d with
  | true=>Zm2 cx h s v
  | false=>Zt9 cx s d v
def Z8j(cx:Cx)(h:List HObj)(b:Builtin)(ts:List TypeId)(args:List EV)(tgt:Nat):Res:=match b,ts,args with
 | .len,[t],[x]=>Zjm cx h t x
 | .append,[t,t'],[x,y]=>if t=t' then Z6h cx h t x.weak y.weak tgt else(match Z1dy cx t' with
  | true=>Z59 cx h t x y tgt
  | false=>.fail)
 | .copy,[t,_],[x,y]=>Zeq cx h t x y
 | .max,_,vs=>opMM imax vs
 | .min,_,vs=>opMM imin vs
 | _,_,_=>.fail
def Z1a(cx:Cx)(o:Oper):Nat:=match o.op with
 | .alloc _ | .box .. | .buildSlice .. | .makeSlice .. | .makeMap ..=>1
 | .call c=>match c.callee with
  | .builtin b=>match b with | .append=>1 | _=>0
  | .value (.func f)=>match cx.con f with | some con=>con.n | none=>0
  | _=>0
 | _=>0
def LV.ev:LV->EV
 | .val v=>.val v
 | .ref id off=>.x (.one (.ref id off))
 | .data k x=>.x (.one (.data k x))
def Con.flat:Con->Bool
 | .det _ rs _ _=>rs.all RK.flat
 | .rel _ rs _ _ _=>rs.all RK.flat
def Zwf(cx:Cx)(f:FuncId):Bool:=match cx.con f with
 | some con=>con.flat
 | none=>true
def Z1ln(cx:Cx)(f:FuncId):Bool:=match cx.con f with
 | some con=>con.n==0&&con.flat
 | none=>false
def Zwg(cx:Cx)(h:List HObj)(x:EV)(args:List EV)(tgt:Nat):Res:=match x with
 | .x (.one (.clo f [] caps))=>if Z1ln cx f then Z4y cx h f (args++caps.map LV.ev) tgt else .fail
 | _=>.fail
def aop(cx:Cx)(o:Oper)(env:List EV)(h:List HObj)(tgt:Nat):Res:=match o.op with
 | .move x=>.ret (cx.eval env x).weak []
 | .assign x=>.ret (cx.eval env x).weak []
 | .pick c a b=>Z111 (cx.eval env c) (cx.eval env a) (cx.eval env b)
 | .alloc t=>Zly cx t tgt
 | .box t x=>Zjn cx h t (cx.eval env x) tgt
 | .build t ps=>Zal cx h t (ps.toList.map (·.1)) (ps.toList.map λp=>cx.eval env p.2)
 | .buildSlice t n ps=>Z3i cx h t n (ps.toList.map (·.1)) (ps.toList.map λp=>cx.eval env p.2) tgt
 | .load t x=>Z9s cx h t (cx.eval env x)
 | .store t x v=>Z6q cx h t (cx.eval env x) (cx.eval env v)
 | .nilCheck x=>Zjp h (cx.eval env x)
 | .binOp op t x y _=>Zgs cx h op t (cx.eval env x) (cx.eval env y)
 | .unOp op _ x=>opUn op (cx.eval env x)
 | .convert s d x=>Zd6 cx h s d (cx.eval env x)
 | .makeFunc f a b=>Zbd f (a.toList.map (cx.eval env)) (b.toList.map (cx.eval env))
 | .makeMap t n=>Zer cx t (n.map (cx.eval env)) tgt
 | .mapUpdate t m k v=>Z5a cx h t (cx.eval env m) (cx.eval env k) (cx.eval env v)
 | .lookup t m k two=>Z8i cx h t (cx.eval env m) (cx.eval env k) two
 | .makeSlice t l c=>Z9t cx t (cx.eval env l) (cx.eval env c) tgt
 | .slice t x lo hi mx=>match mx,hi with
  | some _,none=>.fail
  | mx,hi=>Zai cx h t (cx.eval env x) (lo.map (cx.eval env)) (hi.map (cx.eval env)) (mx.map (cx.eval env))
 | .fieldAddr t x f=>Z58 cx h t (cx.eval env x) f
 | .indexAddr t x i=>Z57 cx h t (cx.eval env x) (cx.eval env i)
 | .extract x i=>Zem (cx.eval env x) i
 | .index t x i=>Zm1 cx t (cx.eval env x) (cx.eval env i)
 | .call c=>match c.callee with
  | .builtin b=>Z8j cx h b c.argTypes.toList (c.args.toList.map (cx.eval env)) tgt
  | .value (.func f)=>Z4y cx h f (c.args.toList.map (cx.eval env)) tgt
  | .value x=>Zwg cx h (cx.eval env x) (c.args.toList.map (cx.eval env)) tgt
  | _=>.fail
 | _=>.fail
def Res.All(p:List (Nat × HObj)->Prop):Res->Prop
 | .fail=>True
 | .ret _ us=>p us
 | .ask _ f=>∀ h,(f h).All p
 | .all _ _ _ f=>∀ a,(f a).All p
 | .br _ x y=>x.All p/\y.All p
theorem Res.wp_all {p:List (Nat × HObj)->Prop}{k:EV->List (Nat × HObj)->Prop}:∀ {r:Res},r.All p->r.wp k->r.wp λev us=>k ev us/\p us
 | .fail,_,h=>h
 | .ret _ _,hp,h=>⟨h,hp⟩
 | .ask _ f,hp,⟨q,h⟩=>⟨q,Res.wp_all (hp q) h⟩
 | .all _ _ _ f,hp,h=>λa ha=>Res.wp_all (hp a) (h a ha)
 | .br b x y,hp,h=>Br.intro (λe=>Res.wp_all (r:=x) hp.1 (Br.t h e)) (λe=>Res.wp_all (r:=y) hp.2 (Br.f h e))
theorem Res.wp_mono {k k':EV->List (Nat × HObj)->Prop}(hk:∀ ev us,k ev us->k' ev us):∀ {r:Res},r.wp k->r.wp k'
 | .fail,h=>h
 | .ret _ _,h=>hk _ _ h
 | .ask _ f,⟨q,h⟩=>⟨q,Res.wp_mono hk h⟩
 | .all _ _ _ f,h=>λa ha=>Res.wp_mono hk (h a ha)
 | .br b x y,h=>Br.intro (λe=>Res.wp_mono (r:=x) hk (Br.t h e)) (λe=>Res.wp_mono (r:=y) hk (Br.f h e))
def Zb(h:List HObj)(tgt n:Nat)(us:List (Nat × HObj)):Prop:=∀ u ∈ us,(tgt<=u.1/\u.1<tgt+n)∨∃ o,h[u.1]?=some o/\o≠.pend
theorem Zb.nil {h:List HObj}{tgt n:Nat}:Zb h tgt n []:=λu hu=>by cases hu
theorem Zb.new {h:List HObj}{tgt:Nat}{o:HObj}:Zb h tgt 1 [(tgt,o)]:=λu hu=>by
 cases hu with
 | head=>exact .inl ⟨Nat.le_refl _,Nat.lt_succ_self _⟩
 | tail _ hu=>cases hu
theorem Zb.live {h:List HObj}{tgt n id:Nat}{o o':HObj}(ho:h[id]?=some o)(hn:o≠.pend):Zb h tgt n [(id,o')]:=λu hu=>by
 cases hu with
 | head=>exact .inr ⟨o,ho,hn⟩
 | tail _ hu=>cases hu
theorem Zb.fz {h:List HObj}{tgt n:Nat}{us:List (Nat × HObj)}(hu:FzU h us):Zb h tgt n us:=λu hu'=>by
 obtain⟨t,e,xs,g,_⟩:=hu u hu';exact .inr ⟨_,g,by simp⟩
theorem Zb.app {h:List HObj}{tgt n:Nat}{us vs:List (Nat × HObj)}(a:Zb h tgt n us)(b:Zb h tgt n vs):Zb h tgt n (us++vs):=λu hu=>by
 rcases List.mem_append.1 hu with g | g
 ·exact a u g
 ·exact b u g
theorem Zta:∀(f:RF)(t:Nat)(x:f.T),∀ u ∈ (Z4k t f x).2,t<=u.1/\u.1<t+f.n
 | .own ty e,t,x,u,hu=>by
  cases hu with
  | head=>exact⟨Nat.le_refl _,Nat.lt_succ_self _⟩
  | tail _ hu=>cases hu
 | .int _,_,_,u,hu=>by cases hu
 | .bool,_,_,u,hu=>by cases hu
 | .flt _,_,_,u,hu=>by cases hu
 | .pair a b,t,x,u,hu=>by
  have e:(RF.pair a b).n=a.n+b.n:=rfl;rcases List.mem_append.1 hu with h | h
  ·have:=Zta a t x.1 u h; omega
  ·have:=Zta b (t+a.n) x.2 u h; omega
theorem Z1oj(t:Nat)(r:RK)(x:r.T):∀ u ∈ (Ze8 t r x).2,t<=u.1/\u.1<t+r.n:=by
 cases r with
 | own ty e=>intro u hu; cases hu with
  | head=>exact⟨Nat.le_refl _,Nat.lt_succ_self _⟩
  | tail _ hu=>cases hu
 | snap k=>intro u hu; cases hu
 | str f=>exact Zta f t x
theorem Z79:∀(rs:List RK)(t:Nat)(x:RS rs),∀ u ∈ (Z2b t rs x).2,t<=u.1/\u.1<t+RKn rs:=by
 intro rs
 induction rs with
 | nil=>intro t x u hu; cases hu
 | cons r rs ih=>
  intro t x u hu;have e:RKn (r :: rs)=r.n+RKn rs:=by simp[RKn]
  rcases List.mem_append.1 hu with h | h
  ·have:=Z1oj t r x.1 u h; omega
  ·have:=ih (t+r.n) x.2 u h; omega
section
variable {cx:Cx} {h:List HObj} {tgt n:Nat}
theorem Ztb {a b c:EV}:(Z111 c a b).All (Zb h tgt n):=by
 unfold Z111; split
 ·exact⟨Zb.nil,Zb.nil⟩
 ·trivial
theorem Zq5 {t:TypeId}:(Zly cx t tgt).All (Zb h tgt 1):=by
 unfold Zly; (repeat' split) <;> first | trivial | exact Zb.new
theorem Zy2 {h':List HObj}{t:TypeId}{v:EV}:(Zjn cx h' t v tgt).All (Zb h tgt 1):=by
 unfold Zjn; (repeat' split) <;> first | trivial | exact Zb.new
theorem Ztc {t:TypeId}{m:Nat}{is:List Nat}{vs:List EV}:(Z3i cx h t m is vs tgt).All (Zb h tgt 1):=by
 unfold Z3i; (repeat' split) <;> first | trivial | exact Zb.new | exact(Zb.fz (Z112 _)).app Zb.new
def Z1lo(cx:Cx)(t:TypeId):Bool:=match cx.tab t with
 | some ⟨.slice e,_,_,_,_⟩=>match cx.tab e with
  | some ed=>match ed.kind with
   | some ek=>ek.flat
   | none=>true
  | none=>true
 | _=>true
theorem Ztd {h':List HObj}{t:TypeId}{m:Nat}{is:List Nat}{vs:List EV}(hf:Z1lo cx t=true):(Z3i cx h' t m is vs tgt).All (Zb h tgt 1):=by
 unfold Z3i;split
 ·rename_i e sz by_ z0 kd ht;split
  ·rename_i ed he;split
   ·rename_i ek hk;have hq:ek.flat=true:=by simp only[Z1lo,ht,he,hk]at hf; exact hf
    split
    ·split
     ·split
      ·exact Zb.new
      ·trivial
     ·rename_i hfl; rw[hq]at hfl; cases hfl
    ·trivial
   ·(repeat' split) <;> first | trivial | exact Zb.new
  ·trivial
 ·trivial
theorem Zte {h':List HObj}{t:TypeId}{v:EV}:(Z9s cx h' t v).All (Zb h tgt n):=by
 unfold Z9s; (repeat' split) <;> first | trivial | exact Zb.nil | exact λ_=>Zb.nil
theorem Zy3 {h':List HObj}{v:EV}:(Zjp h' v).All (Zb h tgt n):=by
 unfold Zjp; (repeat' split) <;> first | trivial | exact Zb.nil | exact λ_=>Zb.nil
theorem Z11k {op:UnOp}{v:EV}:(opUn op v).All (Zb h tgt n):=by
 unfold opUn; split <;> first | trivial | exact Zb.nil
theorem Ztf {s d:TypeId}{v:EV}:(Zt9 cx s d v).All (Zb h tgt n):=by
 unfold Zt9; split <;> first | trivial | exact Zb.nil | exact λ_=>Zb.nil
theorem Z1bi {s d:TypeId}{v:EV}:(Zd6 cx h s d v).All (Zb h tgt n):=by
 unfold Zd6;split
 ·unfold Zwd; (repeat' split) <;> first | trivial | exact Zb.nil
 ·split
  ·unfold Zm2;split
   ·split
    ·rename_i ho;exact λ_=>Zb.live ho (by simp)
    ·trivial
   ·split
    ·rename_i ho;exact λ_=>Zb.live ho (by simp)
    ·trivial
   ·trivial
  ·exact Ztf
theorem Z1bj {h':List HObj}{s d:TypeId}{v:EV}(hq:(!(Nat.beq s d))=true):(Zd6 cx h' s d v).All (Zb h tgt n):=by
 unfold Zd6;split
 ·unfold Zwd; (repeat' split) <;> first | trivial | exact Zb.nil
 ·split
  ·rename_i e; rw[e]at hq; cases hq
  ·exact Ztf
theorem Zi0 {f:Fn}{a b:List EV}:(Zbd f a b).All (Zb h tgt n):=by
 unfold Zbd; (repeat' split) <;> first | trivial | exact Zb.nil
theorem Z1ez {t:TypeId}{x y:EV}:(Zeq cx h t x y).All (Zb h tgt n):=by
 unfold Zeq;split
 case h_2=>trivial
 split
 case h_2=>trivial
 rename_i ho
 (repeat' split) <;> first | trivial | exact λ_=>Zb.live ho (by simp)
theorem Z11l {t:TypeId}{x y:EV}:(Z59 cx h t x y tgt).All (Zb h tgt 1):=by
 unfold Z59;split
 case h_2=>trivial
 split
 case h_2=>trivial
 split
 case isFalse=>trivial
 split
 ·exact λ_=>Zb.new
 ·split
  case h_2=>trivial
  split
  case h_2=>trivial
  rename_i ho
  (repeat' split) <;> first
   | trivial
   | (intro _ u hu
      cases hu with
      | head=>exact .inr ⟨_,ho,by simp⟩
      | tail _ hu=>exact Zb.new u hu)
theorem Zjq {t:TypeId}{m:Option EV}:(Zer cx t m tgt).All (Zb h tgt 1):=by
 unfold Zer; (repeat' split) <;> first | trivial | exact Zb.new
theorem Zm3 {h':List HObj}{t:TypeId}{m k:EV}{two:Bool}:(Z8i cx h' t m k two).All (Zb h tgt n):=by
 unfold Z8i; (repeat' split) <;> first | trivial | exact Zb.nil
theorem Zxf {t:TypeId}{m k v:EV}:(Z5a cx h t m k v).All (Zb h tgt n):=by
 unfold Z5a;split
 case h_2=>trivial
 split
 case h_2=>trivial
 rename_i ho
 (repeat' split) <;> first | trivial | exact Zb.live ho (by simp)
theorem Zge {t:TypeId}{l c:EV}:(Z9t cx t l c tgt).All (Zb h tgt 1):=by
 unfold Z9t; (repeat' split) <;> first | trivial | exact λ_=>Zb.new
theorem Zbe {v:EV}{i:Nat}:(Zem v i).All (Zb h tgt n):=by
 unfold Zem; (repeat' split) <;> first | trivial | exact Zb.nil
theorem Zy4 {h':List HObj}{t:TypeId}{v:EV}:(Zjm cx h' t v).All (Zb h tgt n):=by
 unfold Zjm; (repeat' split) <;> first | trivial | exact Zb.nil
theorem Zgf {h':List HObj}{t:TypeId}{v i:EV}:(Z57 cx h' t v i).All (Zb h tgt n):=by
 unfold Z57; (repeat' split) <;> first | trivial | exact λ_=>Zb.nil
theorem Zgg {h':List HObj}{t:TypeId}{v:EV}{i:Nat}:(Z58 cx h' t v i).All (Zb h tgt n):=by
 unfold Z58; (repeat' split) <;> first | trivial | exact Zb.nil
theorem Zq6 {h':List HObj}{t:TypeId}{v:EV}{a b c:Option EV}:(Zai cx h' t v a b c).All (Zb h tgt n):=by
 unfold Zai; (repeat' split) <;> first | trivial | exact λ_=>Zb.nil
theorem Z11m {f:Int->Int->Int}{vs:List EV}:(opMM f vs).All (Zb h tgt n):=by
 unfold opMM; (repeat' split) <;> first | trivial | exact Zb.nil
theorem Z1f0 {op:BinOp}{k j:IntKind}{a b:Int}:(Zt5 op k a j b).All (Zb h tgt n):=by
 cases op <;> simp only[Zt5] <;> (repeat' split) <;> first | trivial | exact Zb.nil | exact λ_=>Zb.nil
theorem Z1f1 {op:BinOp}{k j:FloatKind}{a b:Nat}:(Zt6 op k a j b).All (Zb h tgt n):=by
 cases op <;> simp only[Zt6] <;> (repeat' split) <;> first | trivial | exact Zb.nil | exact λ_=>Zb.nil
theorem Z11n {h':List HObj}{neg:Bool}{t:TypeId}{x y:EV}:(opEq cx h' neg t x y).All (Zb h tgt n):=by
 unfold opEq; (repeat' split) <;> first | trivial | exact Zb.nil | exact λ_=>Zb.nil | exact λ_ _=>Zb.nil | exact⟨Zb.nil,Zb.nil⟩ | (unfold Z11e; (repeat' split) <;> first | trivial | exact Zb.nil)
theorem Zlq {h':List HObj}{op:BinOp}{t:TypeId}{x y:EV}:(Zgs cx h' op t x y).All (Zb h tgt n):=by
 unfold Zgs; split
 ·exact Z1f0
 ·exact Z1f1
 ·split
  ·exact Z11n
  ·exact Z11n
  ·trivial
theorem Z1bk {t:TypeId}{x v:EV}:(Z6q cx h t x v).All (Zb h tgt n):=by
 unfold Z6q;split
 case h_2=>trivial
 split
 ·split
  case h_2=>trivial
  rename_i ho
  (repeat' split) <;> first | trivial | exact Zb.live ho (by simp) | exact(Zb.fz (XV.fz_ok _)).app (Zb.live ho (by simp))
 ·split
  ·rename_i ho
   (repeat' split) <;> first | trivial | exact Zb.live ho (by simp)
  ·rename_i ho
   (repeat' split) <;> first | trivial | exact λ_=>Zb.live ho (by simp)
  ·trivial
 ·trivial
theorem Z16g {t:TypeId}{x y:EV}:(Z6h cx h t x y tgt).All (Zb h tgt 1):=by
 unfold Z6h;split
 case h_2=>trivial
 split
 case h_2=>trivial
 split
 case isFalse=>trivial
 split
 ·(repeat' split) <;> first | trivial | exact λ_=>Zb.new
 ·split
  ·split
   case h_2=>trivial
   rename_i ho
   (repeat' split) <;> first
    | trivial
    | (intro _ u hu
       cases hu with
       | head=>exact .inr ⟨_,ho,by simp⟩
       | tail _ hu=>exact Zb.new u hu)
  ·(repeat' split) <;> first | trivial | exact λ_=>Zb.new
  ·trivial
theorem Z1f2 {f:FuncId}{args:List EV}:(Z4y cx h f args tgt).All (Zb h tgt (match cx.con f with | some con=>con.n | none=>0)):=by
 unfold Z4y
 cases hc:cx.con f with
 | none=>trivial
 | some con=>
  cases hx:xvs args with
  | none=>cases con <;> trivial
  | some vs=>
   cases con with
   | det ks rs pre g=>
    simp only
    repeat' split
    all_goals first
     | trivial
     | exact λ_ u hu=>.inl (Z79 _ _ _ u hu)
     | exact λ_=>(Zb.fz (Z10z _)).app λu hu=>.inl (Z79 _ _ _ u hu)
   | rel ks rs pre post ne=>
    simp only
    repeat' split
    all_goals first
     | trivial
     | exact λ_ r u hu=>.inl (Z79 _ _ _ u hu)
     | exact λ_ r=>(Zb.fz (Z10z _)).app λu hu=>.inl (Z79 _ _ _ u hu)
theorem Z1ij {f:FuncId}{h':List HObj}:(Z4y cx h' f [] tgt).All (Zb h tgt (match cx.con f with | some con=>con.n | none=>0)):=by
 unfold Z4y
 cases hc:cx.con f with
 | none=>trivial
 | some con=>
  have hx:xvs []=some []:=rfl;have hz:fzx h' []=[]:=rfl;rw[hx]
  cases con with
  | det ks rs pre g=>
   simp only[hz,List.nil_append]
   repeat' split
   all_goals first
    | trivial
    | exact λ_ u hu=>.inl (Z79 _ _ _ u hu)
  | rel ks rs pre post ne=>
   simp only[hz,List.nil_append]
   repeat' split
   all_goals first
    | trivial
    | exact λ_ r u hu=>.inl (Z79 _ _ _ u hu)
theorem Ztg {f:FuncId}{args:List EV}{h':List HObj}(hf:Zwf cx f=true):(Z4y cx h' f args tgt).All (Zb h tgt (match cx.con f with | some con=>con.n | none=>0)):=by
 unfold Z4y;unfold Zwf at hf
 cases hc:cx.con f with
 | none=>trivial
 | some con=>
  rw[hc]at hf
  cases hx:xvs args with
  | none=>cases con <;> trivial
  | some vs=>
   cases con with
   | det ks rs pre g=>
    simp only[Con.flat]at hf;simp only[hf];split
    ·exact λ_ u hu=>.inl (Z79 _ _ _ u hu)
    ·trivial
   | rel ks rs pre post ne=>
    simp only[Con.flat]at hf;simp only[hf];split
    ·exact λ_ r u hu=>.inl (Z79 _ _ _ u hu)
    ·trivial
end
theorem Zq7 {cx:Cx}{h:List HObj}{tgt n:Nat}{t:TypeId}{v i:EV}:(Zm1 cx t v i).All (Zb h tgt n):=by
 unfold Zm1
 (repeat' split) <;> first | trivial | exact λ_=>Zb.nil
theorem Zy5 {cx:Cx}{h h':List HObj}{tgt:Nat}{x:EV}{args:List EV}:(Zwg cx h' x args tgt).All (Zb h tgt 0):=by
 unfold Zwg;split
 ·split
  ·rename_i f caps hn;unfold Z1ln at hn;split at hn
   ·rename_i con hcon;rw[Bool.and_eq_true]at hn;have:=Ztg (cx:=cx) (h:=h) (tgt:=tgt) (f:=f) (args:=args++caps.map LV.ev) (h':=h') (by unfold Zwf; rw[hcon]; exact hn.2);rw[hcon]at this;have e:con.n=0:=by simpa using hn.1
    simp only[e]at this;exact this
   ·cases hn
  ·trivial
 ·trivial
theorem Zq8 {cx:Cx}{h h':List HObj}{tgt n:Nat}{t:TypeId}{is:List Nat}{vs:List EV}:(Zal cx h' t is vs).All (Zb h tgt n):=by
 unfold Zal; (repeat' split) <;> first | trivial | exact Zb.nil
theorem Z19g(cx:Cx)(o:Oper)(env:List EV)(h:List HObj)(tgt:Nat):(aop cx o env h tgt).All (Zb h tgt (Z1a cx o)):=by
 cases hop:o.op <;> simp only[aop,Z1a,hop]
 case move=>exact Zb.nil
 case assign=>exact Zb.nil
 case pick=>exact Ztb
 case alloc=>exact Zq5
 case box=>exact Zy2
 case build=>exact Zq8
 case buildSlice=>exact Ztc
 case load=>exact Zte
 case store=>exact Z1bk
 case nilCheck=>exact Zy3
 case binOp=>exact Zlq
 case unOp=>exact Z11k
 case convert=>exact Z1bi
 case makeFunc=>exact Zi0
 case makeSlice=>exact Zge
 case makeMap=>exact Zjq
 case lookup=>exact Zm3
 case mapUpdate=>exact Zxf
 case slice=>
  split
  ·trivial
  ·exact Zq6
 case fieldAddr=>exact Zgg
 case indexAddr=>exact Zgf
 case extract=>exact Zbe
 case index=>exact Zq7
 case call c=>
  cases hc:c.callee with
  | builtin b=>
   simp only
   cases b <;> simp only[Z8j] <;> (repeat' split) <;> first | trivial | exact Zy4 | exact Z16g | exact Z11l | exact Z1ez | exact Z11m | simp_all
  | value f=>
   cases f with
   | func f=>exact Z1f2
   | _=>exact Zy5
  | invoke=>trivial
 all_goals trivial
end
section
def Z2y(P:Program)(f:FuncId)(args:Array Value)(w:World)(R:Value->World->Prop):Prop:=
 (∃ v w',(callFunc f args).run P w=.ok (.value v) w'/\R v w')∨
 ((callFunc f args).run P w=.ok (.enter f args) w/\Calls P f args w λe w'=>∃ v,e=.returned v/\R v w')
def GW(G:Z85)(w:World)(ok:Nat->Prop):Prop:=∀(g:Nat)(k:K)(x:k.T),G g=some ⟨k,x⟩->(K.ptr k).rep w ok (some x) [.pointer (some ⟨g,0,none⟩)]
theorem LV.ev_rel {c:RC}:∀ {s:LV}{u:Value},s.rel c u->s.ev.rel c u
 | .val _,_,r=>r
 | .ref _ _,_,r=>r
 | .data _ _,_,r=>r
theorem LV.evs_rel {c:RC}{l:List LV}{us:List Value}(h:All2 (LV.rel c) l us):All2 (EV.rel c) (l.map LV.ev) us:=by
 induction h with
 | nil=>exact .nil
 | cons h1 _ ih=>exact .cons (LV.ev_rel h1) ih
def Con.holds(P:Program)(G:Z85)(f:FuncId):Con->Prop
 | .det ks rs pre g=>∀(w:World)(ok:Nat->Prop)(_:∀ b,ok b->b<w.heap.size)(x:KS ks)(vs:List Value),Z5t w ok ks x vs->GW G w ok->pre x->Z2y P f vs.toArray w λv w'=>Grows w w'/\Z2o w w' ok rs (g x) v
 | .rel ks rs pre post _=>∀(w:World)(ok:Nat->Prop)(_:∀ b,ok b->b<w.heap.size)(x:KS ks)(vs:List Value),Z5t w ok ks x vs->GW G w ok->pre x->Z2y P f vs.toArray w λv w'=>∃ r,post x r/\Grows w w'/\Z2o w w' ok rs r v
def CxOk(P:Program)(cx:Cx):Prop:=(∀ t d,cx.tab t=some d->d.Fits P t)/\∀ f con,cx.con f=some con->con.holds P cx.glob f
theorem GOk.world {G:Z85}{c:RC}(h:GOk G c):GW G c.w c.all:=λg k x hg=>K.rep_mono (λb hb=>RC.ok_all b hb) (K.ptr k) _ _ (h g k x hg)
theorem Z61 {cx:Cx}{c:RC}{env:List EV}{a:Act}(hg:GOk cx.glob c)(he:Zm c env a.tmps):∀ xs:List Operand,All2 (EV.rel c) (xs.map (cx.eval env)) (xs.map a.eval)
 | []=>.nil
 | x :: xs=>.cons (Zop hg he x) (Z61 hg he xs)
theorem Z1k3 {c:RC}:∀ {es:List EV}{vs:List XV}{us:List Value},xvs es=some vs->All2 (EV.rel c) es us->All2 (XV.rel c) vs us
 | [],vs,us,h,ha=>by cases ha; cases h; exact .nil
 | .x v :: es,vs,us,h,ha=>by
  simp only[xvs]at h;split at h
  ·rename_i vs' hv
   cases h
   cases ha with
   | cons h1 h2=>exact .cons h1 (Z1k3 hv h2)
  ·cases h
 | .tup _ :: _,_,_,h,_=>by cases h
theorem Zz.runs {P:Program}{o:Oper}{a:Act}{c:RC}{k:EV->List (Nat × HObj)->Prop}{s:Sem Value}(he:execOp a.eval o=(do return .value (<- s)))(h:Runs P c s k):Zz P o a c.w (Done c k):=by
 obtain⟨v,w',h1,h2⟩:=h;exact Zz.sem he h1 h2
theorem Zz.runsU {P:Program}{o:Oper}{a:Act}{c:RC}{k:EV->List (Nat × HObj)->Prop}{s:Sem Unit}(he:execOp a.eval o=(do s; return .skip))(h:Zjo P c s k):Zz P o a c.w (Done c k):=by
 obtain⟨w',h1,h2⟩:=h;exact Zz.semU he h1 h2
section
variable {P:Program} {cx:Cx} (hx:CxOk P cx) {c:RC} (hi:c.Inv) {env:List EV} {a:Act} (hg:GOk cx.glob c) (he:Zm c env a.tmps) {k:EV->List (Nat × HObj)->Prop}
include hx hi hg he
theorem Z1ik {o:Oper}{cl:Call}{f:FuncId}(ho:o.op=.call cl)(hf:cl.callee=.value (.func f)){R:Value->World->Prop}
  (h:Z2y P f (cl.args.map a.eval) c.w R):Zz P o a c.w R:=by
 have hrun:(execOp a.eval o).run P c.w=(callFunc f (cl.args.map a.eval)).run P c.w:=by
  simp[execOp,ho,resolve,hf,Act.eval,Deferred.ofValue,invoke]
 intro next Q hn;unfold Oper.wp;rw[hrun];rcases h with⟨v,w',h1,h2⟩ | ⟨h1,h2⟩
 ·rw[h1]; exact hn v w' h2
 ·rw[h1];refine h2.mono λe w' ⟨v,e1,h3⟩=>?_;subst e1;exact hn v w' h3
theorem Zgt {w':World}(hgr:Grows c.w w'){ok:Nat->Prop}(hok:∀ b,ok b->c.ok b){rs:List RK}{r:RS rs}{v:Value}(hr:Z2o c.w w' ok rs r v){t:Nat}(hp:∀ i,i<RKn rs->c.heap[t+i]?=some .pend)(hk:k (EV.of (Z2b t rs r).1) (Z2b t rs r).2):Done c k v w':=by
 obtain⟨c',h1,h2,h3,h4,h5⟩:=Z1wr hi hgr hok hr hp;exact⟨_,_,c',hk,h1,h2,h3,h4,h5⟩
theorem Z2y.mono {f:FuncId}{args:Array Value}{w:World}{R R':Value->World->Prop}(hR:∀ v w',R v w'->R' v w')(h:Z2y P f args w R):Z2y P f args w R':=by
 rcases h with⟨v,w',h1,h2⟩ | ⟨h1,h2⟩
 ·exact .inl ⟨v,w',h1,hR v w' h2⟩
 ·exact .inr ⟨h1,h2.mono λe w' ⟨v,e1,h3⟩=>⟨v,e1,hR v w' h3⟩⟩
theorem Zlr {f:FuncId}{args:List EV}{us:List Value}{tgt:Nat}(hall0:All2 (EV.rel c) args us)(hp:∀ i,i<(match cx.con f with | some con=>con.n | none=>0)->c.heap[tgt+i]?=some .pend)
  (h:(Z4y cx c.heap f args tgt).wp k):Z2y P f us.toArray c.w (Done c k):=by
 unfold Z4y at h
 cases hc:cx.con f with
 | none=>rw[hc]at h; exact h.elim
 | some con=>
  have hcon:=hx.2 f con hc;rw[hc]at h hp
  cases hv:xvs args with
  | none=>rw[hv]at h; cases con <;> exact h.elim
  | some vs=>
   rw[hv]at h;have hall:=Z1k3 hv hall0;have hu:=Z10z (h:=c.heap) vs;obtain⟨E,I⟩:=Frz.ext hi (hu.frz (Frz.refl _));have hall':=hall.mono λ_ _ q=>XV.rel_mono E q
   have hp':∀ i,i<con.n->(applyU c.heap (fzx c.heap vs))[tgt+i]?=some .pend:=λi hi'=>by
    have hp1:=hp i hi';rw[Z78 _ _ _ λu hu' e=>?_]
    ·exact hp1
    ·obtain⟨t',e',xs',g,_⟩:=hu u hu';rw[e,hp1]at g; cases g
   have he':=Zm.mono he E;have hg':=GOk.mono hg E
   cases con with
   | det ks rs pre g=>
    simp only at h;split at h
    ·rename_i hfl;split at h
     ·rename_i x hxx;obtain⟨hpre,h⟩:=h;have hr:=Z195 hi ks vs x _ hxx hall;exact(hcon c.w c.all (λb hb=>hb) x _ hr (GOk.world hg) hpre).mono hx hi hg he λv w' ⟨g1,g2⟩=>Zgt hx hi hg he g1 (ok:=λ_=>False) (λb hb=>hb.elim) (g2.toflat hfl) hp h
     ·exact h.elim
    ·split at h
     ·rename_i x hxx;obtain⟨hpre,h⟩:=h;have hr:=Zon I (Tak.frozen I) ks vs x _ hxx hall'
      exact(hcon c.w _ (λb hb=>hb.1) x _ hr hg' hpre).mono hx hi hg he λv w' ⟨g1,g2⟩=>
       Done.frozen hi hu (Zgt (c:={c with heap:=applyU c.heap (fzx c.heap vs)}) hx I hg' he' g1 (λb hb=>hb) g2 hp' h)
     ·exact h.elim
   | rel ks rs pre post ne=>
    simp only at h;split at h
    ·rename_i hfl;split at h
     ·rename_i x hxx;obtain⟨hpre,h⟩:=h;have hr:=Z195 hi ks vs x _ hxx hall;exact(hcon c.w c.all (λb hb=>hb) x _ hr (GOk.world hg) hpre).mono hx hi hg he λv w' ⟨r,g0,g1,g2⟩=>Zgt hx hi hg he g1 (ok:=λ_=>False) (λb hb=>hb.elim) (g2.toflat hfl) hp (h r g0)
     ·exact h.elim
    ·split at h
     ·rename_i x hxx;obtain⟨hpre,h⟩:=h;have hr:=Zon I (Tak.frozen I) ks vs x _ hxx hall'
      exact(hcon c.w _ (λb hb=>hb.1) x _ hr hg' hpre).mono hx hi hg he λv w' ⟨r,g0,g1,g2⟩=>
       Done.frozen hi hu (Zgt (c:={c with heap:=applyU c.heap (fzx c.heap vs)}) hx I hg' he' g1 (λb hb=>hb) g2 hp' (h r g0))
     ·exact h.elim
theorem Z1bl {o:Oper}{cl:Call}{f:FuncId}{tgt:Nat}(ho:o.op=.call cl)(hf:cl.callee=.value (.func f))(hp:∀ i,i<(match cx.con f with | some con=>con.n | none=>0)->c.heap[tgt+i]?=some .pend)
  (h:(Z4y cx c.heap f (cl.args.toList.map (cx.eval env)) tgt).wp k):Zz P o a c.w (Done c k):=by
 have hargs:(cl.args.toList.map a.eval).toArray=cl.args.map a.eval:=by apply Array.ext'; simp
 have:=Zlr hx hi hg he (Z61 hg he cl.args.toList) hp h;rw[hargs]at this;exact Z1ik hx hi hg he ho hf this
theorem Z1f3 {o:Oper}{cl:Call}{x:Operand}{f:FuncId}(ho:o.op=.call cl)(hf:cl.callee=.value x){ws:Array Value}(hxv:a.eval x=.func (.func f) #[] ws){R:Value->World->Prop}
  (h:Z2y P f (cl.args.map a.eval++ws) c.w R):Zz P o a c.w R:=by
 have hrun:(execOp a.eval o).run P c.w=(callFunc f (cl.args.map a.eval++ws)).run P c.w:=by
  simp[execOp,ho,resolve,hf,hxv,Deferred.ofValue,invoke]
 intro next Q hn;unfold Oper.wp;rw[hrun];rcases h with⟨v,w',h1,h2⟩ | ⟨h1,h2⟩
 ·rw[h1]; exact hn v w' h2
 ·rw[h1];refine h2.mono λe w' ⟨v,e1,h3⟩=>?_;subst e1;exact hn v w' h3
theorem Z16h {o:Oper}{cl:Call}{x:Operand}{f:FuncId}{caps:List LV}{ws:Array Value}{tgt:Nat}(ho:o.op=.call cl)(hf:cl.callee=.value x)(hxv:a.eval x=.func (.func f) #[] ws)(hr:All2 (LV.rel c) caps ws.toList)(hp:∀ i,i<(match cx.con f with | some con=>con.n | none=>0)->c.heap[tgt+i]?=some .pend)
  (h:(Z4y cx c.heap f (cl.args.toList.map (cx.eval env)++caps.map LV.ev) tgt).wp k):Zz P o a c.w (Done c k):=by
 have hargs:(cl.args.toList.map a.eval++ws.toList).toArray=cl.args.map a.eval++ws:=by apply Array.ext'; simp
 have:=Zlr hx hi hg he (All2.append (Z61 hg he cl.args.toList) (LV.evs_rel hr)) hp h;rw[hargs]at this;exact Z1f3 hx hi hg he ho hf hxv this
theorem Z19h(o:Oper)(tgt:Nat)(hp:∀ i,i<Z1a cx o->c.heap[tgt+i]?=some .pend)(h:(aop cx o env c.heap tgt).wp k):Zz P o a c.w (Done c k):=by
 have ev:=Zop hg he;have hT:=hx.1
 cases hop:o.op <;> simp only[aop,Z1a,hop]at h hp
 case move x=>exact Zz.val (v:=a.eval x) (w':=c.w) (by simp[execOp,hop]) (Done.pure hi h (EV.weak_rel (ev x)))
 case assign x=>exact Zz.val (v:=a.eval x) (w':=c.w) (by simp[execOp,hop]) (Done.pure hi h (EV.weak_rel (ev x)))
 case pick b x y=>
  unfold Z111 at h;split at h
  ·rename_i t ht;have hb:a.eval b=.bool t:=by have:=ev b; rw[ht]at this; exact this
   cases t with
   | true=>exact Zz.val (v:=a.eval x) (w':=c.w) (by simp[execOp,hop,hb,asBool]) (Done.pure hi (show k _ []from Br.t h rfl) (ev x))
   | false=>exact Zz.val (v:=a.eval y) (w':=c.w) (by simp[execOp,hop,hb,asBool]) (Done.pure hi (show k _ []from Br.f h rfl) (ev y))
  ·exact h.elim
 case alloc t=>exact Zz.runs (s:=Instr.alloc t true (.tuple #[])) (by simp[execOp,hop]) (Z1ic hT hi (by simpa using hp 0 (by omega)) h)
 case box t x=>exact Zz.runs (s:=Instr.box t (a.eval x)) (by simp[execOp,hop]) (Z1o2 hT hi (by simpa using hp 0 (by omega)) h (ev x))
 case build t ps=>
  refine Zz.runs (s:=Instr.build t (ps.map λx=>(x.1,a.eval x.2))) (by simp[execOp,hop]) (Z1ih hT hi (vs:=ps.toList.map λp=>cx.eval env p.2) ?_ ?_)
  ·have:(ps.map λx=>(x.1,a.eval x.2)).toList.map (·.1)=ps.toList.map (·.1):=by simp
   rw[this]; exact h
  ·have e1:(ps.map λx=>(x.1,a.eval x.2)).toList.map (·.2)=(ps.toList.map (·.2)).map a.eval:=by simp
   have e2:(ps.toList.map λp=>cx.eval env p.2)=(ps.toList.map (·.2)).map (cx.eval env):=by simp
   rw[e1,e2]; exact Z61 hg he _
 case buildSlice t n ps=>
  refine Zz.runs (s:=Instr.buildSlice t n (ps.map λx=>(x.1,a.eval x.2))) (by simp[execOp,hop]) (Zzk hT hi (by simpa using hp 0 (by omega)) (vs:=ps.toList.map λp=>cx.eval env p.2) ?_ ?_)
  ·have:(ps.map λx=>(x.1,a.eval x.2)).toList.map (·.1)=ps.toList.map (·.1):=by simp
   rw[this]; exact h
  ·have e1:(ps.map λx=>(x.1,a.eval x.2)).toList.map (·.2)=(ps.toList.map (·.2)).map a.eval:=by simp
   have e2:(ps.toList.map λp=>cx.eval env p.2)=(ps.toList.map (·.2)).map (cx.eval env):=by simp
   rw[e1,e2]; exact Z61 hg he _
 case load t x=>exact Zz.runs (s:=Instr.loadAt t (a.eval x)) (by simp[execOp,hop]) (Z1lg hT hi h (ev x))
 case makeMap t n=>
  refine Zz.runs (s:=Instr.makeMap t (n.map a.eval)) (by simp[execOp,hop]) (Z1bh hT hi (by simpa using hp 0 (by omega)) h ?_ ?_)
  ·intro e he
   cases n with
   | none=>cases he
   | some x=>cases he; exact⟨_,rfl,ev x⟩
  ·intro he
   cases n with
   | none=>rfl
   | some x=>cases he
 case mapUpdate t m x v=>exact Zz.runsU (s:=Instr.mapUpdate t (a.eval m) (a.eval x) (a.eval v)) (by simp[execOp,hop]) (Z11i hT hi h (ev m) (ev x) (ev v))
 case lookup t m x two=>exact Zz.runs (s:=Instr.lookup t (a.eval m) (a.eval x) two) (by simp[execOp,hop]) (Z1ey hT hi h (ev m) (ev x))
 case store t x v=>exact Zz.runsU (s:=Instr.storeAt t (a.eval x) (a.eval v)) (by simp[execOp,hop]) (Z1ia hT hi h (ev x) (ev v))
 case nilCheck x=>
  obtain⟨⟨p,hp1⟩,h2⟩:=Z1o8 hT hi h (ev x);exact Zz.val (v:=a.eval x) (w':=c.w) (by simp[execOp,hop,hp1]) (Done.pure hi h2 (ev x))
 case binOp op t x y _=>exact Zz.runs (s:=do eqGuard op t x y (a.eval x) (a.eval y); binOp op t (a.eval x) (a.eval y)) (by simp[execOp,hop]) (Z1ob hT hi h (ev x) (ev y) x y)
 case unOp op t x=>exact Zz.runs (s:=Op.unary op (a.eval x)) (by simp[execOp,hop]) (Z1rr hT hi h (ev x))
 case convert s d x=>
  refine Zz.runs (s:=convert s d (a.eval x)) (by simp[execOp,hop]) ?_;unfold Zd6 at h;split at h
  ·rename_i hb;obtain⟨e,h1,h2,h3⟩:=Z1lm hT hb;exact Z1o5 hT hi h1 h2 h3 h (ev x)
  ·split at h
   ·rename_i hsd;have hsd:=Nat.eq_of_beq_eq_true hsd;rw[<- hsd];exact Z1ii hT hi h (ev x)
   ·exact Z1lj hT hi h (ev x)
 case makeFunc f xs ys=>
  refine Zz.runs (s:=Instr.makeFunc f (xs.map a.eval) (ys.map a.eval)) (by simp[execOp,hop]) (Z16e hT hi h ?_ ?_)
  ·have:=Z61 hg he xs.toList;simpa using this
  ·have:=Z61 hg he ys.toList;simpa using this
 case makeSlice t l m=>exact Zz.runs (s:=Instr.makeSlice t (a.eval l) (a.eval m)) (by simp[execOp,hop]) (Z117 hT hi (by simpa using hp 0 (by omega)) h (ev l) (ev m))
 case slice t x lo hi' mx=>
  refine Zz.runs (s:=Instr.sliceAt t (a.eval x) (lo.map a.eval) (hi'.map a.eval) (mx.map a.eval)) (by simp[execOp,hop]) ?_;split at h
  ·exact h.elim
  ·rename_i hne;refine Z1ie hT hi h (ev x) (by cases lo <;> rfl) (by cases hi' <;> rfl) (by cases mx <;> rfl) ?_ ?_ ?_ ?_
   ·intro e v h1 h2; cases lo with
    | none=>cases h1
    | some z=>cases h1; cases h2; exact ev z
   ·intro e v h1 h2; cases hi' with
    | none=>cases h1
    | some z=>cases h1; cases h2; exact ev z
   ·intro e v h1 h2; cases mx with
    | none=>cases h1
    | some z=>cases h1; cases h2; exact ev z
   ·intro hm
    cases mx with
    | none=>cases hm
    | some z=>cases hi' with
     | none=>exact absurd rfl (hne z rfl)
     | some y=>rfl
 case fieldAddr t x f=>exact Zz.runs (s:=Instr.fieldAt t (a.eval x) f) (by simp[execOp,hop]) (Z115 hT hi h (ev x))
 case indexAddr t x i=>exact Zz.runs (s:=Instr.indexAt t (a.eval x) (a.eval i)) (by simp[execOp,hop]) (Z114 hT hi h (ev x) (ev i))
 case index t x i=>exact Zz.runs (s:=Instr.index t (a.eval x) (a.eval i)) (by simp[execOp,hop]) (Z1ig hT hi h (ev x) (ev i))
 case extract x i=>exact Zz.runs (s:=Instr.extract (a.eval x) i) (by simp[execOp,hop]) (Z1be hT hi h (ev x))
 case call cl=>
  have hall:=Z61 hg he cl.args.toList;have hargs:cl.args.toList.map a.eval=(cl.args.map a.eval).toList:=by simp
  cases hc:cl.callee with
  | builtin b=>
   rw[hc]at h hp;simp only at h hp
   have run:∀(s:Sem Value),builtin b cl.argTypes o.type (cl.args.map λ| .const _=>true | _=>false) (cl.args.map a.eval)=(do return .value (<- s))->execOp a.eval o=(do return .value (<- s)):=by
    intro s hs;rw[<- hs];simp only[execOp,hop,resolve,hc,pure_bind,invoke];congr 1
   unfold Z8j at h;split at h
   ·rename_i t x e1 e2;have et:cl.argTypes=#[t]:=by apply Array.ext'; simpa using e1
    rw[e2,hargs]at hall
    cases hu:(cl.args.map a.eval).toList with
    | nil=>rw[hu]at hall; cases hall
    | cons u us=>
     rw[hu]at hall
     cases hall with
     | cons h1 h2=>
      cases h2
      have ea:cl.args.map a.eval=#[u]:=by apply Array.ext'; simpa using hu
      exact Zz.runs (run (Builtin.len_ #[t] o.type #[u]) (by rw[et,ea]; rfl)) (Z1o0 hT hi h h1)
   ·rename_i t t' x y e1 e2;split at h
    ·rename_i ett;subst ett;have et:cl.argTypes=#[t,t]:=by apply Array.ext'; simpa using e1
     rw[e2,hargs]at hall
     cases hu:(cl.args.map a.eval).toList with
     | nil=>rw[hu]at hall; cases hall
     | cons u us=>
      rw[hu]at hall
      cases hall with
      | cons h1 h2=>
       cases us with
       | nil=>cases h2
       | cons u2 us2=>
        cases h2 with
        | cons h3 h4=>
         cases h4
         have ea:cl.args.map a.eval=#[u,u2]:=by apply Array.ext'; simpa using hu
         exact Zz.runs (run (Builtin.append_ #[t,t] o.type #[u,u2]) (by rw[et,ea]; rfl)) (Z1et hT hi (by simpa using hp 0 (by decide)) h (EV.weak_rel h1) (EV.weak_rel h3))
    ·split at h
     ·rename_i hst;have et:cl.argTypes=#[t,t']:=by apply Array.ext'; simpa using e1
      rw[e2,hargs]at hall
      cases hu:(cl.args.map a.eval).toList with
      | nil=>rw[hu]at hall; cases hall
      | cons u us=>
       rw[hu]at hall
       cases hall with
       | cons h1 h2=>
        cases us with
        | nil=>cases h2
        | cons u2 us2=>
         cases h2 with
         | cons h3 h4=>
          cases h4
          have ea:cl.args.map a.eval=#[u,u2]:=by apply Array.ext'; simpa using hu
          exact Zz.runs (run (Builtin.append_ #[t,t'] o.type #[u,u2]) (by rw[et,ea]; rfl)) (Z1bf hT hi (by simpa using hp 0 (by decide)) (Z11j hT hst) h h1 h3)
     ·exact h.elim
   ·rename_i t t' x y e1 e2;have et:cl.argTypes=#[t,t']:=by apply Array.ext'; simpa using e1
    rw[e2,hargs]at hall
    cases hu:(cl.args.map a.eval).toList with
    | nil=>rw[hu]at hall; cases hall
    | cons u us=>
     rw[hu]at hall
     cases hall with
     | cons h1 h2=>
      cases us with
      | nil=>cases h2
      | cons u2 us2=>
       cases h2 with
       | cons h3 h4=>
        cases h4
        have ea:cl.args.map a.eval=#[u,u2]:=by apply Array.ext'; simpa using hu
        exact Zz.runs (run (Builtin.copy_ #[t,t'] o.type #[u,u2]) (by rw[et,ea]; rfl)) (Z1lh hT hi h h1 h3)
   ·exact Zz.runs (run (Builtin.max_ cl.argTypes o.type (cl.args.map a.eval)) rfl) (Z1o6 hT hi h (by rw[<- hargs]; exact hall))
   ·exact Zz.runs (run (Builtin.min_ cl.argTypes o.type (cl.args.map a.eval)) rfl) (Z1o7 hT hi h (by rw[<- hargs]; exact hall))
   ·exact h.elim
  | value f=>
   rw[hc]at h hp
   have clo:∀ x,f=x->(Zwg cx c.heap (cx.eval env x) (cl.args.toList.map (cx.eval env)) tgt).wp k->Zz P o a c.w (Done c k):=by
    rintro x rfl hh;unfold Zwg at hh;split at hh
    ·rename_i f' he';split at hh
     ·rename_i hn0;have hv:=ev f;rw[he']at hv;obtain⟨fs,ws,hv1,r1,r2⟩:=hv
      have ef:fs=#[]:=by cases h0:fs.toList with
       | nil=>apply Array.ext'; simpa using h0
       | cons _ _=>rw[h0]at r1; cases r1
      subst ef
      exact Z16h hx hi hg he hop hc hv1 r2 (λi hi'=>by
       unfold Z1ln at hn0;split at hn0
       ·rename_i con hcon;rw[hcon]at hi';rw[Bool.and_eq_true]at hn0;have:con.n=0:=by simpa using hn0.1
        simp only at hi'; omega
       ·cases hn0) hh
     ·exact hh.elim
    ·exact hh.elim
   cases f with
   | func f=>exact Z1bl hx hi hg he hop hc hp h
   | tmp t=>exact clo _ rfl h
   | const v=>exact clo _ rfl h
   | global g=>exact clo _ rfl h
  | invoke=>rw[hc]at h; exact h.elim
 all_goals exact h.elim
end
structure St where
 env:List EV
 heap:List HObj
def putE(env:List EV)(d:Option Tmp)(v:EV):List EV:=match d with
 | some t=>env.set t v
 | none=>env
structure Kp (D:List Nat) (a a':Act):Prop where
 defers:a'.defers=a.defers
 size:a'.tmps.size=a.tmps.size
 get:∀ t,t ∉ D->a'.tmps[t]?=a.tmps[t]?
theorem Kp.refl {D:List Nat}{a:Act}:Kp D a a:=⟨rfl,rfl,λ_ _=>rfl⟩
theorem Kp.trans {D:List Nat}{a b c:Act}(h:Kp D b c)(h':Kp D a b):Kp D a c:=⟨h.defers.trans h'.defers,h.size.trans h'.size,λt ht=>(h.get t ht).trans (h'.get t ht)⟩
theorem Kp.put {D:List Nat}{a:Act}{d:Option Tmp}{v:Value}(hd:∀ t,d=some t->t ∈ D):Kp D a (a.put d v):=by
 cases d with
 | none=>exact Kp.refl
 | some d=>
  refine⟨rfl,by simp[Act.put],λt ht=>?_⟩;simp only[Act.put,Array.getElem?_setIfInBounds];rw[if_neg (λ(e:d=t)=>ht (e ▸ hd d rfl))]
def Z5u(ops:Array Oper)(env:List EV)(j:Nat):Option (Tmp × Bool):=match(ops[j]?).bind (·.dst)with
 | some d=>match env[d]? with
  | some (.x (.one (.val (.bool b))))=>some (d,b)
  | _=>none
 | none=>none
def Z16i:Value->Bool
 | .tuple vs=>vs.toList.isEmpty
 | _=>false
theorem Z1lp {v:Value}(h:Z16i v=true):v=undef:=by
 unfold Z16i at h;split at h
 ·rename_i vs;obtain⟨l⟩:=vs
  cases l with
  | nil=>rfl
  | cons x l=>simp at h
 ·cases h
def EV.skip:EV:=.val undef
def gone(ops:Array Oper)(env:List EV)(j:Nat):Bool:=match(ops[j]?).bind (·.dst)with
 | some d=>match env[d]? with
  | some (.x (.one (.val v)))=>Z16i v
  | _=>false
 | none=>false
abbrev Z2w:=FuncId->List EV->List HObj->(EV->List HObj->Prop)->Prop
def Z11o(cx:Cx)(inl:FuncId->Bool)(env:List EV)(o:Oper):Option (FuncId × List EV):=match o.op with
 | .call cl=>match cl.callee with
  | .value x=>match cx.eval env x with
   | .x (.one (.clo f first caps))=>if inl f then some (f,first.map LV.ev++(cl.args.toList.map (cx.eval env)++caps.map LV.ev))else none
   | _=>none
  | _=>none
 | _=>none
def Z7g:List HObj->List HObj->Bool
 | [],_=>true
 | .pend :: h,.pend :: h'=>Z7g h h'
 | .pend :: _,_=>false
 | .dead :: h,_ :: h'=>Z7g h h'
 | .box .. :: h,_ :: h'=>Z7g h h'
 | .row .. :: h,_ :: h'=>Z7g h h'
 | .mp .. :: h,_ :: h'=>Z7g h h'
 | _ :: _,[]=>false
def Res.name:Res->Res
 | .ret (.x (.one (.val (.bool b)))) us=>.all Bool (λt=>t=b) ⟨b,rfl⟩ λt=>.ret (.x (.one (.val (.bool t)))) us
 | .ask p f=>.ask p λh=>(f h).name
 | .all α p ne f=>.all α p ne λa=>(f a).name
 | r=>r
theorem Res.name_wp {k:EV->List (Nat × HObj)->Prop}:∀ {r:Res},r.name.wp k->r.wp k
 | .fail,h=>h
 | .br _ _ _,h=>h
 | .ask p f,⟨q,h⟩=>⟨q,Res.name_wp (r:=f q) h⟩
 | .all _ _ _ f,h=>λa ha=>Res.name_wp (r:=f a) (h a ha)
 | .ret ev us,h=>by
  unfold Res.name at h;split at h
  ·rename_i e; cases e; exact h _ rfl
  ·rename_i e; cases e
  ·rename_i e; cases e
  ·exact h
def Z1rs(o:Oper):Bool:=match o.op with
 | .binOp .. | .call _=>true
 | _=>false
def aopN(nm:Bool)(cx:Cx)(o:Oper)(env:List EV)(h:List HObj)(tgt:Nat):Res:=match nm,Z1rs o with
 | true,true=>(aop cx o env h tgt).name
 | _,_=>aop cx o env h tgt
theorem Res.name_iff {k:EV->List (Nat × HObj)->Prop}:∀ {r:Res},r.name.wp k<->r.wp k
 | .fail=>Iff.rfl
 | .br _ _ _=>Iff.rfl
 | .ask p f=>⟨λ⟨q,h⟩=>⟨q,(Res.name_iff (r:=f q)).1 h⟩,λ⟨q,h⟩=>⟨q,(Res.name_iff (r:=f q)).2 h⟩⟩
 | .all _ _ _ f=>⟨λh a ha=>(Res.name_iff (r:=f a)).1 (h a ha),λh a ha=>(Res.name_iff (r:=f a)).2 (h a ha)⟩
 | .ret ev us=>by
  unfold Res.name;split
  ·rename_i e; cases e; exact⟨λh=>h _ rfl,λh t ht=>by subst ht; exact h⟩
  ·rename_i e; cases e
  ·rename_i e; cases e
  ·exact Iff.rfl
theorem Z1rt {nm:Bool}{cx:Cx}{o:Oper}{env:List EV}{h:List HObj}{tgt:Nat}{k:EV->List (Nat × HObj)->Prop}:(aopN nm cx o env h tgt).wp k<->(aop cx o env h tgt).wp k:=by
 unfold aopN;split
 ·exact Res.name_iff
 ·exact Iff.rfl
theorem Z1u1 {nm:Bool}{cx:Cx}{o:Oper}{env:List EV}{h:List HObj}{tgt:Nat}{k:EV->List (Nat × HObj)->Prop}(hk:(aopN nm cx o env h tgt).wp k):(aop cx o env h tgt).wp k:=by
 unfold aopN at hk;split at hk
 ·exact Res.name_wp hk
 ·exact hk
structure Wk where
 inl:FuncId->Bool
 named:Bool
def Zth(cx:Cx)(wk:Wk)(call:Z2w)(o:Oper)(env:List EV)(h:List HObj)(tgt:Nat)(k:EV->List HObj->Prop):Prop:=match Z11o cx wk.inl env o with
 | some fa=>call fa.1 fa.2 h λv h'=>if Z7g h h' then k v h' else False
 | none=>(aopN wk.named cx o env h tgt).wp λev us=>k ev (applyU h us)
def Z8k(cx:Cx)(wk:Wk)(call:Z2w)(ops:Array Oper):List Oper->List EV->List HObj->Nat->(List EV->List HObj->Prop)->Prop
 | [],env,h,_,k=>k env h
 | o :: l,env,h,tgt,k=>match o.guard with
  | none=>Zth cx wk call o env h tgt λev h'=>Z8k cx wk call ops l (putE env o.dst ev) h' (tgt+Z1a cx o) k
  | some (j,want)=>match Z5u ops env j with
   | none=>if gone ops env j then Z8k cx wk call ops l (putE env o.dst .skip) h (tgt+Z1a cx o) k else False
   | some (d,b)=>Br b
    (if want then Zth cx wk call o (env.set d (.val (.bool true))) h tgt λev h'=>Z8k cx wk call ops l (putE (env.set d (.val (.bool true))) o.dst ev) h' (tgt+Z1a cx o) k
     else Z8k cx wk call ops l (putE (env.set d (.val (.bool true))) o.dst .skip) h (tgt+Z1a cx o) k)
    (if want then Z8k cx wk call ops l (putE (env.set d (.val (.bool false))) o.dst .skip) h (tgt+Z1a cx o) k
     else Zth cx wk call o (env.set d (.val (.bool false))) h tgt λev h'=>Z8k cx wk call ops l (putE (env.set d (.val (.bool false))) o.dst ev) h' (tgt+Z1a cx o) k)
def Z4z(cx:Cx)(l:List Oper):Nat:=(l.map (Z1a cx)).sum
theorem Zm.put {c:RC}{env:List EV}{a:Act}(h:Zm c env a.tmps)(d:Option Tmp){ev:EV}{v:Value}(r:ev.rel c v):Zm c (putE env d ev) (a.put d v).tmps:=by
 cases d with
 | none=>exact h
 | some t=>
  refine⟨by simp[putE,Act.put,h.1],λi e hi=>?_⟩;simp only[putE]at hi;simp only[Act.put,Array.getElem?_setIfInBounds];rcases Z1n hi with⟨rfl,rfl,hl⟩ | ⟨hne,hi⟩
  ·rw[if_pos rfl,if_pos (by rw[<- h.1]; exact hl)]; exact⟨v,rfl,r⟩
  ·rw[if_neg hne]; exact h.2 i e hi
theorem Zm.refine {c:RC}{env:List EV}{tmps:Array Value}(h:Zm c env tmps){d:Nat}{ev ev':EV}(hd:env[d]?=some ev)(hr:∀ v,ev.rel c v->ev'.rel c v):Zm c (env.set d ev') tmps:=by
 refine⟨by simp[h.1],λi e hi=>?_⟩;rcases Z1n hi with⟨rfl,rfl,_⟩ | ⟨_,hi⟩
 ·obtain⟨v,h1,h2⟩:=h.2 _ _ hd; exact⟨v,h1,hr v h2⟩
 ·exact h.2 i e hi
theorem Zi1 {c:RC}{ops:Array Oper}{env:List EV}{a:Act}{j:Nat}{d:Tmp}{b:Bool}(he:Zm c env a.tmps)(h:Z5u ops env j=some (d,b)):
  env[d]?=some (.val (.bool b))/\yielded ops a.tmps j=some b:=by
 unfold Z5u at h;split at h
 ·rename_i d' hd;split at h
  ·rename_i b' hb
   cases h
   refine⟨hb,?_⟩;obtain⟨v,h1,h2⟩:=he.2 _ _ hb;obtain rfl:v=.bool b:=h2;unfold yielded;rw[hd];simp[h1]
  ·cases h
 ·cases h
theorem Zti {c:RC}{ops:Array Oper}{env:List EV}{a:Act}{j:Nat}(he:Zm c env a.tmps)(h:gone ops env j=true):yielded ops a.tmps j=none:=by
 unfold gone at h;split at h
 ·rename_i d hd;split at h
  ·rename_i v hv;obtain⟨u,h1,h2⟩:=he.2 _ _ hv;obtain rfl:u=undef:=by rw[show u=v from h2]; exact Z1lp h
   unfold yielded;rw[hd];simp[h1,undef]
  ·cases h
 ·cases h
theorem Z4v:∀ {h h':List HObj},Z7g h h'=true->∀ i:Nat,h[i]?=some HObj.pend->h'[i]?=some HObj.pend
 | [],_,_,i,hi=>by simp at hi
 | .pend :: h,.pend :: h',hk,i,hi=>by
  cases i with
  | zero=>rfl
  | succ i=>exact Z4v (h:=h) (h':=h') hk i (by simpa using hi)
 | .dead :: h,_ :: h',hk,i,hi=>by
  cases i with
  | zero=>simp at hi
  | succ i=>exact Z4v (h:=h) (h':=h') hk i (by simpa using hi)
 | .box .. :: h,_ :: h',hk,i,hi=>by
  cases i with
  | zero=>simp at hi
  | succ i=>exact Z4v (h:=h) (h':=h') hk i (by simpa using hi)
 | .row .. :: h,_ :: h',hk,i,hi=>by
  cases i with
  | zero=>simp at hi
  | succ i=>exact Z4v (h:=h) (h':=h') hk i (by simpa using hi)
 | .mp .. :: h,_ :: h',hk,i,hi=>by
  cases i with
  | zero=>simp at hi
  | succ i=>exact Z4v (h:=h) (h':=h') hk i (by simpa using hi)
 | .pend :: _,.dead :: _,hk,_,_=>by cases hk
 | .pend :: _,.mp .. :: _,hk,_,_=>by cases hk
 | .mp .. :: _,[],hk,_,_=>by cases hk
 | .pend :: _,.box .. :: _,hk,_,_=>by cases hk
 | .pend :: _,.row .. :: _,hk,_,_=>by cases hk
 | .pend :: _,[],hk,_,_=>by cases hk
 | .dead :: _,[],hk,_,_=>by cases hk
 | .box .. :: _,[],hk,_,_=>by cases hk
 | .row .. :: _,[],hk,_,_=>by cases hk
def Z3c(P:Program)(cx:Cx)(call:Z2w):Prop:=∀(c:RC)(_:c.Inv)(_:GOk cx.glob c){f:FuncId}{args:List EV}{vs:List Value}{k:EV->List HObj->Prop},All2 (EV.rel c) args vs->call f args c.heap k->
 Z2y P f vs.toArray c.w λv w'=>∃ ev c',k ev c'.heap/\c'.w=w'/\Ext c c'/\c'.Inv/\ev.rel c' v
def Z5k:Z2w:=λ_ _ _ _=>False
theorem Zam {P:Program}{cx:Cx}:Z3c P cx Z5k:=λ_ _ _ _ _ _ _ _ h=>h.elim
theorem Z1lq {cx:Cx}{inl:FuncId->Bool}{env:List EV}{o:Oper}{fa:FuncId × List EV}(h:Z11o cx inl env o=some fa):∃ cl x f first caps,o.op=.call cl/\cl.callee=.value x/\cx.eval env x=.x (.one (.clo f first caps))/\
  fa=(f,first.map LV.ev++(cl.args.toList.map (cx.eval env)++caps.map LV.ev)):=by
 unfold Z11o at h;split at h
 ·rename_i cl ho;split at h
  ·rename_i x hx;split at h
   ·rename_i f first caps he;split at h
    ·cases h; exact⟨cl,x,f,first,caps,ho,hx,he,rfl⟩
    ·cases h
   ·cases h
  ·cases h
 ·cases h
theorem Z11p {P:Program}{cx:Cx}{call:Z2w}(hcall:Z3c P cx call){c:RC}(hi:c.Inv)(hg:GOk cx.glob c){env:List EV}{a:Act}(he:Zm c env a.tmps){inl:FuncId->Bool}{o:Oper}{fa:FuncId × List EV}(h:Z11o cx inl env o=some fa)
  {k:EV->List HObj->Prop} (hk:call fa.1 fa.2 c.heap k):Zz P o a c.w λv w'=>∃ ev c',k ev c'.heap/\c'.w=w'/\Ext c c'/\c'.Inv/\ev.rel c' v:=by
 obtain⟨cl,x,f,first,caps,ho,hx,hev,rfl⟩:=Z1lq h;have hr:=Zop hg he x;rw[hev]at hr;obtain⟨fs,ws,hv,r1,r2⟩:=hr
 have hall:All2 (EV.rel c) (first.map LV.ev++(cl.args.toList.map (cx.eval env)++caps.map LV.ev)) (fs.toList++(cl.args.toList.map a.eval++ws.toList)):=
  All2.append (LV.evs_rel r1) (All2.append (Z61 hg he cl.args.toList) (LV.evs_rel r2))
 have hs:=hcall c hi hg hall hk;have hargs:(fs.toList++(cl.args.toList.map a.eval++ws.toList)).toArray=fs++cl.args.map a.eval++ws:=by apply Array.ext'; simp
 rw[hargs]at hs
 have hrun:(execOp a.eval o).run P c.w=(callFunc f (fs++cl.args.map a.eval++ws)).run P c.w:=by
  simp[execOp,ho,resolve,hx,hv,Deferred.ofValue,invoke]
 intro next Q hn;unfold Oper.wp;rw[hrun];rcases hs with⟨v,w',h1,h2⟩ | ⟨h1,h2⟩
 ·rw[h1]; exact hn v w' h2
 ·rw[h1];refine h2.mono λe w' ⟨v,e1,h3⟩=>?_;subst e1;exact hn v w' h3
theorem Ext.pend_keep {c c':RC}{us:List (Nat × HObj)}{tgt n m i:Nat}(hh:c'.heap=applyU c.heap us)(ht:Zb c.heap tgt n us)(hp:c.heap[tgt+n+i]?=some .pend):c'.heap[tgt+n+i]?=some .pend:=by
 rw[hh,Z78 _ _ _ (λu hu=>?_)]
 ·exact hp
 ·rcases ht u hu with h | ⟨o,h1,h2⟩
  ·omega
  ·intro e; rw[e,hp]at h1; cases h1; exact h2 rfl
section
variable {P:Program} {cx:Cx} (hx:CxOk P cx) {wk:Wk} {call:Z2w} (hcall:Z3c P cx call)
include hx hcall
theorem Zbf(ops:Array Oper){D:List Nat}:∀(l:List Oper)(n:Nat)(hl:ops.toList.drop n=l)(hD:∀ o ∈ l,∀ t,o.dst=some t->t ∈ D){c:RC}(hi:c.Inv){env:List EV}{a:Act}(hg:GOk cx.glob c)(he:Zm c env a.tmps){tgt:Nat}{k:List EV->List HObj->Prop}
  (hp:∀ i,i<Z4z cx l->c.heap[tgt+i]?=some .pend) (h:Z8k cx wk call ops l env c.heap tgt k) {Q:Exit->Act->World->Prop}
  (hq:∀(c':RC)(env':List EV)(a':Act),k env' c'.heap->Ext c c'->c'.Inv->Zm c' env' a'.tmps->Kp D a a'->Q .normal a' c'.w),wpOps P ops Q (List.range' n l.length) a c.w
 | [],n,hl,hD,c,hi,env,a,hg,he,tgt,k,hp,h,Q,hq=>hq c env a h (Ext.refl c) hi he Kp.refl
 | o :: l,n,hl,hD,c,hi,env,a,hg,he,tgt,k,hp,h,Q,hq=>by
  have ho:ops[n]?=some o:=by
   have h0:=congrArg (λl=>l[0]?) hl;rw[List.getElem?_drop]at h0;simpa using h0
  have hl':ops.toList.drop (n+1)=l:=by
   have h1:=congrArg List.tail hl;rw[List.tail_drop]at h1;simpa using h1
  have hsum:Z4z cx (o :: l)=Z1a cx o+Z4z cx l:=by simp[Z4z]
  simp only[List.length_cons,List.range'_succ,wpOps,ho]
  have done:∀(env1:List EV),Zm c env1 a.tmps->Zth cx wk call o env1 c.heap tgt (λev h'=>Z8k cx wk call ops l (putE env1 o.dst ev) h' (tgt+Z1a cx o) k)->
    o.wp P a c.w (wpOps P ops Q (List.range' (n+1) l.length)) Q:=by
   intro env1 he1 hw;unfold Zth at hw;split at hw
   ·rename_i fa hfa;refine Z11p hcall hi hg he1 hfa hw _ Q λv w' hd=>?_;obtain⟨ev,c',hk,rfl,hext,hinv,hrel⟩:=hd;split at hk
    ·rename_i hpk;refine Zbf ops l (n+1) hl' (λo ho=>hD o (List.mem_cons_of_mem _ ho)) hinv (GOk.mono hg hext) (Zm.put (Zm.mono he1 hext) o.dst hrel) (λi hi'=>?_) hk (λc2 env2 a2 h1 h2 h3 h4 h5=>hq c2 env2 a2 h1 (hext.trans h2) h3 h4 (h5.trans (Kp.put (hD o List.mem_cons_self))));exact Z4v hpk _ (by have:=hp (Z1a cx o+i) (by omega); rwa [<- Nat.add_assoc]at this)
    ·exact hk.elim
   have hw':=Res.wp_all (Z19g cx o env1 c.heap tgt) (Z1u1 hw);refine Z19h hx hi hg he1 o tgt (λi hi'=>hp i (by omega)) hw' _ Q λv w' hd=>?_;obtain⟨ev,us,c',⟨hk,ht⟩,rfl,hh,hext,hinv,hrel⟩:=hd;rw[<- hh]at hk;refine Zbf ops l (n+1) hl' (λo ho=>hD o (List.mem_cons_of_mem _ ho)) hinv (GOk.mono hg hext) (Zm.put (Zm.mono he1 hext) o.dst hrel) (λi hi'=>?_) hk (λc2 env2 a2 h1 h2 h3 h4 h5=>hq c2 env2 a2 h1 (hext.trans h2) h3 h4 (h5.trans ?_))
   ·exact Ext.pend_keep (m:=0) hh ht (by have:=hp (Z1a cx o+i) (by omega); rwa [<- Nat.add_assoc]at this)
   ·exact Kp.put (hD o List.mem_cons_self)
  have skip:∀(env1:List EV),Zm c env1 a.tmps->Z8k cx wk call ops l (putE env1 o.dst .skip) c.heap (tgt+Z1a cx o) k->wpOps P ops Q (List.range' (n+1) l.length) (a.put o.dst undef) c.w:=by
   intro env1 he1 hw;refine Zbf ops l (n+1) hl' (λo ho=>hD o (List.mem_cons_of_mem _ ho)) hi hg (Zm.put he1 o.dst (ev:=.skip) rfl) (λi hi'=>?_) hw (λc2 env2 a2 h1 h2 h3 h4 h5=>hq c2 env2 a2 h1 h2 h3 h4 (h5.trans ?_))
   ·have:=hp (Z1a cx o+i) (by omega); rwa [<- Nat.add_assoc]at this
   ·exact Kp.put (hD o List.mem_cons_self)
  simp only[Z8k]at h
  cases hgd:o.guard with
  | none=>
   rw[hgd]at h;have:Region.wanted o (yielded ops a.tmps)=true:=by simp[Region.wanted,hgd]
   rw[if_pos this];exact .inl (done env he h)
  | some jw=>
   obtain⟨j,want⟩:=jw;rw[hgd]at h;simp only at h;split at h
   ·split at h
    ·rename_i hgn;have hw:Region.wanted o (yielded ops a.tmps)=false:=by simp[Region.wanted,hgd,Zti he hgn]
     rw[if_neg (by rw[hw]; simp)];exact skip _ he h
    ·exact h.elim
   ·rename_i d b hgo;obtain⟨hd,hy⟩:=Zi1 he hgo;have hw:Region.wanted o (yielded ops a.tmps)=(b==want):=by simp[Region.wanted,hgd,hy]
    cases b with
    | true=>
     have he1:=Zm.refine he hd (ev':=.val (.bool true)) (λv r=>r);have h':=Br.true h rfl
     cases want with
     | true=>rw[if_pos (by rw[hw]; rfl)]; exact .inl (done _ he1 h')
     | false=>rw[if_neg (by rw[hw]; simp)]; exact skip _ he1 h'
    | false=>
     have he1:=Zm.refine he hd (ev':=.val (.bool false)) (λv r=>r);have h':=Br.false h rfl
     cases want with
     | true=>rw[if_neg (by rw[hw]; simp)]; exact skip _ he1 h'
     | false=>rw[if_pos (by rw[hw]; rfl)]; exact .inl (done _ he1 h')
end
end
section
def LV.ids:LV->List Nat
 | .ref id _=>[id]
 | _=>[]
def SV.ids:SV->List Nat
 | .osl id _ _ | .ref id _ | .eref id _ _ | .mref id | .bsl id _ | .osx id _=>[id]
 | .clo _ _ caps=>caps.flatMap LV.ids
 | _=>[]
def XV.ids:XV->List Nat
 | .one s=>s.ids
 | .agg cs=>cs.flatMap SV.ids
 | .dat _ _=>[]
def EV.ids:EV->List Nat
 | .x v=>v.ids
 | .tup vs=>vs.flatMap XV.ids
theorem LV.evs_ids:∀ l:List LV,(l.map LV.ev).flatMap EV.ids=l.flatMap LV.ids
 | []=>rfl
 | x :: l=>by
  rw[List.map_cons,List.flatMap_cons,List.flatMap_cons,LV.evs_ids l]
  cases x <;> rfl
theorem EV.weak_ids(v:EV):v.weak.ids=v.ids:=by unfold EV.weak; split <;> rfl
def Same(h h':List HObj)(l:List Nat):Prop:=∀ id ∈ l,h[id]?=h'[id]?
theorem Same.left {h h':List HObj}{a b:List Nat}(s:Same h h' (a++b)):Same h h' a:=λid hi=>s id (List.mem_append_left _ hi)
theorem Same.right {h h':List HObj}{a b:List Nat}(s:Same h h' (a++b)):Same h h' b:=λid hi=>s id (List.mem_append_right _ hi)
section
variable {h h':List HObj}
theorem SV.isOne_congr {s:SV}(H:Same h h' s.ids):s.isOne h=s.isOne h':=by
 cases s <;> first | rfl | (have:=H _ (List.mem_singleton.2 rfl); simp only[SV.isOne,this])
theorem SV.take_congr {k:K}{s:SV}(H:Same h h' s.ids):s.take h k=s.take h' k:=by
 cases k <;> cases s <;> first | rfl | (have:=H _ (List.mem_singleton.2 rfl); simp only[SV.take,this]; done) | (have:=H _ (List.mem_singleton.2 rfl); simp only[SV.take,Z1l9 this]; done) | (rename_i v; cases v <;> rfl)
theorem Ztj:∀ {cs:List SV},Same h h' (cs.flatMap SV.ids)->cs.all (SV.isOne h)=cs.all (SV.isOne h')
 | [],_=>rfl
 | s :: cs,H=>by
  rw[List.flatMap_cons]at H;rw[List.all_cons,List.all_cons,SV.isOne_congr H.left,Ztj H.right]
theorem Z7v {k:K}{cs:List SV}(H:Same h h' (cs.flatMap SV.ids)):Z7d h k cs=Z7d h' k cs:=by
 cases cs with
 | nil=>rfl
 | cons s r=>rw[List.flatMap_cons]at H; simp only[Z7d,SV.take_congr H.left]
theorem Z19i {h:List HObj}:∀(k:K)(cs:List SV)(x:k.T)(r:List SV),k.takeL h cs=some (x,r)->∃ n,r=cs.drop n:=by
 have one:∀(k:K)(cs:List SV)(x:k.T)(r:List SV),Z7d h k cs=some (x,r)->∃ n,r=cs.drop n:=by
  intro k cs x r hh
  cases cs with
  | nil=>cases hh
  | cons s r'=>
   simp only[Z7d]at hh;split at hh
   ·obtain⟨_,rfl⟩:=Prod.mk.inj (Option.some.inj hh); exact⟨1,rfl⟩
   ·cases hh
 intro k
 induction k with
 | unit=>intro cs x r hh; obtain⟨_,rfl⟩:=Prod.mk.inj (Option.some.inj hh); exact⟨0,rfl⟩
 | pair a b iha ihb=>
  intro cs x r hh;simp only[K.takeL]at hh;split at hh
  ·rename_i x1 r1 h1;split at hh
   ·rename_i x2 r2 h2;obtain⟨_,rfl⟩:=Prod.mk.inj (Option.some.inj hh);obtain⟨n,rfl⟩:=iha _ _ _ h1;obtain⟨m,rfl⟩:=ihb _ _ _ h2;exact⟨n+m,by rw[List.drop_drop]⟩
   ·cases hh
  ·cases hh
 | arr n e ih=>
  have many:∀(n:Nat)(cs:List SV)(xs:List e.T)(r:List SV),Ze7 (e.takeL h) n cs=some (xs,r)->∃ m,r=cs.drop m:=by
   intro n
   induction n with
   | zero=>intro cs xs r hh; obtain⟨_,rfl⟩:=Prod.mk.inj (Option.some.inj hh); exact⟨0,rfl⟩
   | succ n ihn=>
    intro cs xs r hh;simp only[Ze7]at hh;split at hh
    ·rename_i x r1 h1;split at hh
     ·rename_i xs1 r2 h2;obtain⟨_,rfl⟩:=Prod.mk.inj (Option.some.inj hh);obtain⟨n1,rfl⟩:=ih _ _ _ h1;obtain⟨m,rfl⟩:=ihn _ _ _ h2;exact⟨n1+m,by rw[List.drop_drop]⟩
     ·cases hh
    ·cases hh
  exact λcs x r hh=>many n cs x r hh
 | int ik=>exact one (.int ik)
 | bool=>exact one .bool
 | flt fk=>exact one (.flt fk)
 | slice e _=>exact one (.slice e)
 | ptr e _=>exact one (.ptr e)
 | map a b _ _=>exact one (.map a b)
 | ent a b _ _=>intro cs x r hh; cases hh
theorem Same.drop {cs:List SV}(H:Same h h' (cs.flatMap SV.ids))(n:Nat):Same h h' ((cs.drop n).flatMap SV.ids):=by
 intro id hid;obtain⟨s,hs,hi⟩:=List.mem_flatMap.1 hid;exact H id (List.mem_flatMap.2 ⟨s,List.mem_of_mem_drop hs,hi⟩)
theorem K.takeL_congr:∀(k:K){cs:List SV},Same h h' (cs.flatMap SV.ids)->k.takeL h cs=k.takeL h' cs:=by
 intro k
 induction k with
 | unit=>intro cs H; rfl
 | pair a b iha ihb=>
  intro cs H;simp only[K.takeL,<- iha H];split
  ·rename_i x r h1;obtain⟨n,rfl⟩:=Z19i _ _ _ _ h1;rw[ihb (H.drop n)]
  ·rfl
 | arr n e ih=>
  intro cs H;show Ze7 (e.takeL h) n cs=Ze7 (e.takeL h') n cs
  induction n generalizing cs with
  | zero=>rfl
  | succ n ihn=>
   simp only[Ze7,<- ih H];split
   ·rename_i x r h1;obtain⟨m,rfl⟩:=Z19i _ _ _ _ h1;rw[ihn (H.drop m)]
   ·rfl
 | int ik=>exact λH=>Z7v H
 | bool=>exact λH=>Z7v H
 | flt fk=>exact λH=>Z7v H
 | slice e _=>exact λH=>Z7v H
 | ptr e _=>exact λH=>Z7v H
 | map a b _ _=>exact λH=>Z7v H
 | ent a b _ _=>exact λH=>rfl
theorem XV.take_congr {k:K}{v:XV}(H:Same h h' v.ids):v.take h k=v.take h' k:=by
 cases v with
 | one s=>simp only[XV.take,SV.take_congr (show Same h h' s.ids from H)]
 | agg cs=>simp only[XV.take,K.takeL_congr k (show Same h h' (cs.flatMap SV.ids)from H)]
 | dat k' x=>rfl
theorem K.cells_ids:∀(k:K)(x:k.T)(s:SV),s ∈ k.cells x->s.ids=[]:=by
 intro k
 induction k with
 | unit=>intro x s hs; cases hs
 | pair a b iha ihb=>
  intro x s hs;rcases List.mem_append.1 hs with hs | hs
  ·exact iha _ s hs
  ·exact ihb _ s hs
 | arr n e ih=>
  intro x s hs
  have key:∀(n i:Nat),s ∈ arrC e.cells e.dflt x i n->∃ y,s ∈ e.cells y:=by
   intro n
   induction n with
   | zero=>intro i hs; cases hs
   | succ n ihn=>
    intro i hs;simp only[arrC,List.mem_append]at hs;rcases hs with hs | hs
    ·exact⟨_,hs⟩
    ·exact ihn _ hs
  obtain⟨y,hy⟩:=key n 0 hs;exact ih y s hy
 | ent a b _ _=>intro x s hs; cases hs
 | _=>intro x s hs; obtain rfl:=List.mem_singleton.1 hs; rfl
theorem Z9v:∀(ks:List K){vs:List XV},Same h h' (vs.flatMap XV.ids)->Z60 h ks vs=Z60 h' ks vs
 | [],[],_=>rfl
 | [],_ :: _,_=>rfl
 | _ :: _,[],_=>rfl
 | k :: ks,v :: vs,H=>by
  rw[List.flatMap_cons]at H;simp only[Z60,XV.take_congr H.left,Z9v ks H.right]
theorem Zg2 {k:K}:∀ {vs:List EV},Same h h' (vs.flatMap EV.ids)->Z7u h k vs=Z7u h' k vs
 | [],_=>rfl
 | .x v :: vs,H=>by
  rw[List.flatMap_cons]at H;simp only[Z7u,XV.take_congr (show Same h h' v.ids from H.left),Zg2 H.right]
 | .tup _ :: vs,_=>rfl
theorem Same.set {l:List Nat}(H:Same h h' l)(i:Nat)(o:HObj):Same (h.set i o) (h'.set i o) l:=by
 intro id hid;have e:=H id hid;by_cases hi:i=id
 ·subst hi;rw[List.getElem?_set,List.getElem?_set,if_pos rfl,if_pos rfl]
  have a:i<h.length<->i<h'.length:=by
   constructor
   ·intro q;rcases Nat.lt_or_ge i h'.length with g | g
    ·exact g
    ·rw[List.getElem?_eq_none g,List.getElem?_eq_getElem q]at e; cases e
   ·intro q;rcases Nat.lt_or_ge i h.length with g | g
    ·exact g
    ·rw[List.getElem?_eq_none g,List.getElem?_eq_getElem q]at e; cases e
  by_cases q:i<h.length
  ·rw[if_pos q,if_pos (a.1 q)]
  ·rw[if_neg q,if_neg (λg=>q (a.2 g))]
 ·rw[Z2t hi,Z2t hi,e]
theorem Same.applyU {l:List Nat}:∀(us:List (Nat × HObj)){h h':List HObj},Same h h' l->Same (Lift.applyU h us) (Lift.applyU h' us) l
 | [],_,_,H=>H
 | u :: us,_,_,H=>Same.applyU us (H.set u.1 u.2)
def hz1:HObj->HObj
 | .box .fz t cs=>.box .fz t cs
 | .row .fz t e xs=>.row .fz t e xs
 | .mp .fz a b xs=>.mp .fz a b xs
 | _=>.dead
theorem Zm4:∀ h:List HObj,hz h=h.map hz1
 | []=>rfl
 | x :: h=>by
  unfold hz;split <;> rename_i e <;> cases e
  ·rw[List.map_cons,Zm4]; rfl
  ·rw[List.map_cons,Zm4]; rfl
  ·rw[List.map_cons,Zm4]; rfl
  ·rename_i y h1 h2 h3;rw[List.map_cons,Zm4];congr 1;unfold hz1;split
   ·rename_i t cs; exact absurd rfl (h1 t cs)
   ·rename_i t e xs; exact absurd rfl (h2 t e xs)
   ·rename_i a b xs; exact absurd rfl (h3 a b xs)
   ·rfl
theorem Same.hz {l:List Nat}(H:Same h h' l):Same (Lift.hz h) (Lift.hz h') l:=by
 intro id hid;rw[Zm4,Zm4,List.getElem?_map,List.getElem?_map,H id hid]
theorem SV.fz_congr {s:SV}(H:Same h h' s.ids):s.fz h=s.fz h':=by
 cases s with
 | osl id off len=>have:=H _ (List.mem_singleton.2 rfl); simp only[SV.fz,this]
 | _=>rfl
theorem Z19j:∀ {cs:List SV},Same h h' (cs.flatMap SV.ids)->fzs h cs=fzs h' cs
 | [],_=>rfl
 | s :: cs,H=>by
  rw[List.flatMap_cons]at H;simp only[fzs,SV.fz_congr H.left,Z19j H.right]
theorem XV.fz_congr {v:XV}(H:Same h h' v.ids):v.fz h=v.fz h':=by
 cases v with
 | one s=>exact SV.fz_congr H
 | agg cs=>exact Z19j H
 | dat k x=>rfl
theorem Ztk:∀ {vs:List XV},Same h h' (vs.flatMap XV.ids)->fzx h vs=fzx h' vs
 | [],_=>rfl
 | v :: vs,H=>by
  rw[List.flatMap_cons]at H;simp only[fzx,XV.fz_congr H.left,Ztk H.right]
theorem Ztl:∀ {vs:List EV},Same h h' (vs.flatMap EV.ids)->fze h vs=fze h' vs
 | [],_=>rfl
 | .x v :: vs,H=>by
  rw[List.flatMap_cons]at H;have H1:Same h h' v.ids:=H.left;simp only[fze,XV.fz_congr H1,Ztl H.right]
 | .tup _ :: vs,H=>by
  rw[List.flatMap_cons]at H;simp only[fze,Ztl H.right]
theorem XV.cells_congr {v:XV}(H:Same h h' v.ids):v.cells h=v.cells h':=by
 cases v with
 | one s=>simp only[XV.cells,SV.isOne_congr (show Same h h' s.ids from H)]
 | agg cs=>simp only[XV.cells,Ztj (show Same h h' (cs.flatMap SV.ids)from H)]
 | dat k x=>
  have e:(k.cells x).all (SV.isOne h)=(k.cells x).all (SV.isOne h'):=by
   refine Ztj ?_;intro id hid;obtain⟨s,hs,hi⟩:=List.mem_flatMap.1 hid;exact absurd hi (by rw[K.cells_ids k x s hs]; simp)
  simp only[XV.cells,e]
variable {cx:Cx} {tgt:Nat}
theorem Z1il {t:TypeId}{v:EV}(H:Same h h' v.ids):Zjm cx h t v=Zjm cx h' t v:=by
 unfold Zjm;split
 ·cases v with
  | tup _=>first | rfl | ((repeat' split) <;> first | rfl | (simp_all [Same,EV.ids,XV.ids,SV.ids]; done))
  | x v=>cases v with
   | one s=>cases s <;> first | rfl | (have:=H _ (List.mem_singleton.2 rfl); simp only[this]; done) | ((repeat' split) <;> first | rfl | (simp_all [Same,EV.ids,XV.ids,SV.ids]; done))
   | _=>first | rfl | ((repeat' split) <;> first | rfl | (simp_all [Same,EV.ids,XV.ids,SV.ids]; done))
 ·rfl
 ·rfl
theorem Zxg {t:TypeId}{v i:EV}(H:Same h h' v.ids):Z57 cx h t v i=Z57 cx h' t v i:=by
 unfold Z57;split
 ·generalize cx.tab _=q
  cases q with
  | none=>rfl
  | some ed=>cases v with
   | tup _=>rfl
   | x v=>cases v with
    | one s=>cases s with
     | osl id off len=>have:=H _ (List.mem_singleton.2 rfl); simp only[this]
     | bsl id len=>have:=H _ (List.mem_singleton.2 rfl); simp only[this]
     | data k x=>cases k <;> rfl
     | _=>rfl
    | _=>rfl
 ·generalize cx.tab _=q
  cases q with
  | none=>rfl
  | some ed=>cases v with
   | tup _=>rfl
   | x v=>cases v with
    | one s=>cases s with
     | ref id off=>cases off with
      | zero=>have:=H _ (List.mem_singleton.2 rfl); simp only[this]
      | succ n=>rfl
     | eref id i off=>have:=H _ (List.mem_singleton.2 rfl); simp only[this]
     | data k x=>cases k with
      | ptr e=>cases e <;> first | rfl | (cases x <;> rfl)
      | _=>rfl
     | _=>rfl
    | _=>rfl
 ·rfl
theorem Zxh {t:TypeId}{v:EV}{f:Nat}(H:Same h h' v.ids):Z58 cx h t v f=Z58 cx h' t v f:=by
 unfold Z58
 cases v with
 | tup _=>first | rfl | ((repeat' split) <;> first | rfl | (simp_all [Same,EV.ids,XV.ids,SV.ids]; done))
 | x v=>cases v with
  | one s=>cases s <;> first | rfl | (have:=H _ (List.mem_singleton.2 rfl); simp only[this]; done) | ((repeat' split) <;> first | rfl | (simp_all [Same,EV.ids,XV.ids,SV.ids]; done))
  | _=>first | rfl | ((repeat' split) <;> first | rfl | (simp_all [Same,EV.ids,XV.ids,SV.ids]; done))
theorem Z1f4 {t:TypeId}{v:EV}(H:Same h h' v.ids):Z9s cx h t v=Z9s cx h' t v:=by
 unfold Z9s
 cases v with
 | tup _=>first | rfl | ((repeat' split) <;> first | rfl | (simp_all [Same,EV.ids,XV.ids,SV.ids]; done))
 | x v=>cases v with
  | one s=>cases s <;> first | rfl | (have:=H _ (List.mem_singleton.2 rfl); simp only[this]; done) | ((repeat' split) <;> first | rfl | (simp_all [Same,EV.ids,XV.ids,SV.ids]; done))
  | _=>first | rfl | ((repeat' split) <;> first | rfl | (simp_all [Same,EV.ids,XV.ids,SV.ids]; done))
theorem Z1bm {t:TypeId}{x v:EV}(H:Same h h' x.ids)(H':Same h h' v.ids):Z6q cx h t x v=Z6q cx h' t x v:=by
 unfold Z6q;generalize cx.tab t=q
 cases q with
 | none=>rfl
 | some td=>cases v with
  | tup _=>rfl
  | x xv=>
   have H2:Same h h' xv.ids:=H';have e1:∀ k,xv.take h k=xv.take h' k:=λk=>XV.take_congr H2;have e2:xv.cells h=xv.cells h':=XV.cells_congr H2;have e3:xv.fz h=xv.fz h':=XV.fz_congr H2;have e4:∀ k,xv.take (hz (applyU h (xv.fz h'))) k=xv.take (hz (applyU h' (xv.fz h'))) k:=λk=>XV.take_congr (Same.hz (Same.applyU _ H2))
   cases x with
   | tup _=>rfl
   | x v=>cases v with
    | one s=>cases s with
     | ref id off=>have:=H _ (List.mem_singleton.2 rfl); simp only[this,e1,e2,e3,e4]
     | eref id i off=>cases off with
      | zero=>have:=H _ (List.mem_singleton.2 rfl); simp only[this,e1,e2,e3,e4]
      | succ n=>rfl
     | _=>rfl
    | _=>rfl
theorem Z1im {t:TypeId}{v:EV}(H:Same h h' v.ids):Zjn cx h t v tgt=Zjn cx h' t v tgt:=by
 unfold Zjn;generalize cx.tab t=q
 cases q with
 | none=>rfl
 | some td=>cases v with
  | tup _=>rfl
  | x xv=>
   have H2:Same h h' xv.ids:=H;simp only[XV.take_congr H2,XV.cells_congr H2]
theorem Ztm:∀ {vs:List EV},Same h h' (vs.flatMap EV.ids)->Zen h vs=Zen h' vs
 | [],_=>rfl
 | .x (.one s) :: vs,H=>by
  rw[List.flatMap_cons]at H;simp only[Zen,SV.isOne_congr (show Same h h' s.ids from H.left),Ztm H.right]
 | .x (.agg _) :: vs,_=>rfl
 | .x (.dat _ _) :: vs,_=>rfl
 | .tup _ :: vs,_=>rfl
theorem Ztn {t:TypeId}{n:Nat}{is:List Nat}{vs:List EV}(H:Same h h' (vs.flatMap EV.ids)):Z3i cx h t n is vs tgt=Z3i cx h' t n is vs tgt:=by
 unfold Z3i;have e4:∀ k,Z7u (hz (applyU h (fze h' vs))) k vs=Z7u (hz (applyU h' (fze h' vs))) k vs:=λk=>Zg2 (Same.hz (Same.applyU _ H));simp only[Zg2 H,Ztl H,e4,Ztm H]
theorem Z16j {t:TypeId}{x y:EV}(H:Same h h' x.ids)(H':Same h h' y.ids):Z6h cx h t x y tgt=Z6h cx h' t x y tgt:=by
 unfold Z6h
 cases y with
 | tup _=>split <;> first | rfl | (rename_i e; cases e)
 | x yv=>
  have H2:Same h h' yv.ids:=H';have e1:∀(yu:XV),EV.x yv=EV.x yu->∀ k,yu.take h k=yu.take h' k:=λyu e k=>by cases e; exact XV.take_congr H2
  split
  ·split
   ·split
    ·split
     ·split
      ·split
       ·rw[e1 _ (by assumption)]
       ·rfl
      ·rfl
     ·cases x with
      | tup _=>rfl
      | x v=>cases v with
       | one s=>cases s with
        | osl id off len=>cases off with
         | zero=>
          have:=H _ (List.mem_singleton.2 rfl);simp only[<- this];split
          ·split
           ·rw[e1 _ (by assumption)]
           ·rfl
          ·rfl
         | succ n=>rfl
        | full ek xs=>
         dsimp only;split
         ·rw[e1 _ (by assumption)]
         ·rfl
        | _=>rfl
       | _=>rfl
    ·rfl
   ·rfl
  ·rfl
theorem Z11q {t:TypeId}{x y:EV}(H:Same h h' x.ids):Z59 cx h t x y tgt=Z59 cx h' t x y tgt:=by
 unfold Z59;split
 ·split
  ·split
   ·split
    ·rfl
    ·cases x with
     | tup _=>rfl
     | x v=>cases v with
      | one s=>cases s with
       | osl id off len=>cases off with
        | zero=>
         have:=H _ (List.mem_singleton.2 rfl);simp only[<- this]
        | succ n=>rfl
       | _=>rfl
      | _=>rfl
   ·rfl
  ·rfl
 ·rfl
theorem Z1bn {ek:K}{y:EV}(H:Same h h' y.ids):Zak h ek y=Zak h' ek y:=by
 unfold Zak
 cases y with
 | tup _=>rfl
 | x yv=>
  have H2:Same h h' yv.ids:=H;simp only[XV.take_congr H2]
theorem Z1f5 {t:TypeId}{x y:EV}(H:Same h h' x.ids)(H':Same h h' y.ids):Zeq cx h t x y=Zeq cx h' t x y:=by
 unfold Zeq;split
 ·rename_i e sz by_ z kd id off len ht;have H1:Same h h' [id]:=H;have:=H1 id (List.mem_singleton.2 rfl);have e1:∀ ek,Zak h ek y=Zak h' ek y:=λek=>Z1bn H';simp only[this,e1]
 ·rfl
theorem Z1bo {t:TypeId}{v:EV}{a b m:Option EV}(H:Same h h' v.ids):Zai cx h t v a b m=Zai cx h' t v a b m:=by
 unfold Zai;split
 ·generalize cx.tab _=q
  cases q with
  | none=>rfl
  | some ed=>cases v with
   | tup _=>rfl
   | x v=>cases v with
    | one s=>cases s with
     | osl id off len=>have:=H _ (List.mem_singleton.2 rfl); simp only[this]
     | data k x=>cases k <;> rfl
     | _=>rfl
    | _=>rfl
 ·generalize cx.tab _=q
  cases q with
  | none=>rfl
  | some ed=>cases v with
   | tup _=>rfl
   | x v=>cases v with
    | one s=>cases s with
     | ref id off=>cases off with
      | zero=>have:=H _ (List.mem_singleton.2 rfl); simp only[this]
      | succ n=>rfl
     | _=>rfl
    | _=>rfl
 ·rfl
theorem Z1in {v:EV}(H:Same h h' v.ids):Zjp h v=Zjp h' v:=by
 unfold Zjp
 cases v with
 | tup _=>first | rfl | ((repeat' split) <;> first | rfl | (simp_all [Same,EV.ids,XV.ids,SV.ids]; done))
 | x v=>cases v with
  | one s=>cases s <;> first | rfl | (have:=H _ (List.mem_singleton.2 rfl); simp only[this]; done) | ((repeat' split) <;> first | rfl | (simp_all [Same,EV.ids,XV.ids,SV.ids]; done))
  | _=>first | rfl | ((repeat' split) <;> first | rfl | (simp_all [Same,EV.ids,XV.ids,SV.ids]; done))
theorem Z11r {neg:Bool}{t:TypeId}{x y:EV}(H:Same h h' x.ids):opEq cx h neg t x y=opEq cx h' neg t x y:=by
 unfold opEq
 cases x with
 | tup _=>first | rfl | ((repeat' split) <;> first | rfl | (simp_all [Same,EV.ids,XV.ids,SV.ids]; done))
 | x v=>cases v with
  | one s=>cases s <;> first | rfl | (have:=H _ (List.mem_singleton.2 rfl); simp only[this]; done) | ((repeat' split) <;> first | rfl | (simp_all [Same,EV.ids,XV.ids,SV.ids]; done))
  | _=>first | rfl | ((repeat' split) <;> first | rfl | (simp_all [Same,EV.ids,XV.ids,SV.ids]; done))
theorem Z1io {op:BinOp}{t:TypeId}{x y:EV}(H:Same h h' x.ids):Zgs cx h op t x y=Zgs cx h' op t x y:=by
 unfold Zgs;split
 ·rfl
 ·rfl
 ·split
  ·exact Z11r H
  ·exact Z11r H
  ·rfl
theorem Z1ip {i j l:IntKind}{m:EV}(H:Same h h' m.ids):Zwe h i j l m=Zwe h' i j l m:=by
 unfold Zwe;split
 ·rename_i id;have:=H id (List.mem_singleton.2 rfl);simp only[this]
 ·rfl
 ·rfl
theorem Z16k {t:TypeId}{m k:EV}{two:Bool}(H:Same h h' m.ids):Z8i cx h t m k two=Z8i cx h' t m k two:=by
 unfold Z8i;split
 ·rw[Z1ip H]
 ·rfl
theorem Zxi {t:TypeId}{m k v:EV}(H:Same h h' m.ids):Z5a cx h t m k v=Z5a cx h' t m k v:=by
 unfold Z5a;split
 ·rename_i id _ _ _ _;have:=H id (List.mem_singleton.2 rfl);simp only[this]
 ·rfl
theorem Z16l:∀ {es:List EV}{vs:List XV},xvs es=some vs->vs.flatMap XV.ids=es.flatMap EV.ids
 | [],vs,e=>by cases e; rfl
 | .x v :: es,vs,e=>by
  simp only[xvs]at e;split at e
  ·rename_i us hu
   cases e
   rw[List.flatMap_cons,List.flatMap_cons,Z16l hu]; rfl
  ·cases e
 | .tup _ :: _,_,e=>by cases e
theorem Zto {f:FuncId}{args:List EV}(H:Same h h' (args.flatMap EV.ids)):Z4y cx h f args tgt=Z4y cx h' f args tgt:=by
 unfold Z4y;split
 ·rename_i vs hc hv;have H2:Same h h' (vs.flatMap XV.ids):=by rw[Z16l hv]; exact H
  have e4:∀ ks,Z60 (hz (applyU h (fzx h' vs))) ks vs=Z60 (hz (applyU h' (fzx h' vs))) ks vs:=λk=>Z9v _ (Same.hz (Same.applyU _ H2));simp only[Z9v _ H2,Ztk H2,e4]
 ·rename_i vs hc hv;have H2:Same h h' (vs.flatMap XV.ids):=by rw[Z16l hv]; exact H
  have e4:∀ ks,Z60 (hz (applyU h (fzx h' vs))) ks vs=Z60 (hz (applyU h' (fzx h' vs))) ks vs:=λk=>Z9v _ (Same.hz (Same.applyU _ H2));simp only[Z9v _ H2,Ztk H2,e4]
 ·rfl
end
theorem Zy6 {h h':List HObj}{place:Nat->Option (Nat × Nat)}:∀ {is:List Nat}{vs:List EV}{cs:List SV},Same h h' (vs.flatMap EV.ids)->Zov h place cs is vs=Zov h' place cs is vs
 | [],[],_,_=>rfl
 | i :: is,.x v :: vs,cs,H=>by
  rw[List.flatMap_cons]at H;simp only[Zov,XV.cells_congr (show Same h h' v.ids from H.left)];split
  ·split
   ·exact Zy6 H.right
   ·rfl
  ·rfl
 | [],_ :: _,_,_=>rfl
 | _ :: _,[],_,_=>rfl
 | _ :: _,.tup _ :: _,_,_=>rfl
theorem Z1bp {cx:Cx}{h h':List HObj}{t:TypeId}{is:List Nat}{vs:List EV}(H:Same h h' (vs.flatMap EV.ids)):Zal cx h t is vs=Zal cx h' t is vs:=by
 unfold Zal;split
 ·rw[Zy6 H]
 ·rfl
theorem Z19k {cx:Cx}{o:Oper}{env env':List EV}{h h':List HObj}{tgt:Nat}(H:∀ x ∈ o.op.operands.toList,cx.eval env x=cx.eval env' x/\Same h h' (cx.eval env x).ids):aop cx o env h tgt=aop cx o env' h' tgt:=by
 cases hop:o.op <;> simp only[aop,hop] <;> rw[hop]at H
 case move x=>rw[(H x (by simp[Op.operands])).1]
 case assign x=>rw[(H x (by simp[Op.operands])).1]
 case pick a b c=>rw[(H a (by simp[Op.operands])).1,(H b (by simp[Op.operands])).1,(H c (by simp[Op.operands])).1]
 case box t x=>rw[<- (H x (by simp[Op.operands])).1,Z1im (H x (by simp[Op.operands])).2]
 case load t x=>rw[<- (H x (by simp[Op.operands])).1,Z1f4 (H x (by simp[Op.operands])).2]
 case nilCheck x=>rw[<- (H x (by simp[Op.operands])).1,Z1in (H x (by simp[Op.operands])).2]
 case unOp op t x=>rw[(H x (by simp[Op.operands])).1]
 case convert s d x=>
  rw[<- (H x (by simp[Op.operands])).1];unfold Zd6;split
  ·have H2:=(H x (by simp[Op.operands])).2;generalize cx.eval env x=v at H2
   cases v with
   | tup _=>rfl
   | x xv=>
    have H3:Same h h' xv.ids:=H2;simp only[Zwd,XV.take_congr H3]
  ·split
   ·have H2:=(H x (by simp[Op.operands])).2;generalize cx.eval env x=v at H2;unfold Zm2;split
    ·rename_i e _ _ _ _ id len _;have:h[id]?=h'[id]?:=H2 id (List.mem_singleton.2 rfl);rw[this]
    ·rename_i e _ _ _ _ id len _;have:h[id]?=h'[id]?:=H2 id (List.mem_singleton.2 rfl);rw[this]
    ·rfl
   ·rfl
 case makeFunc f xs ys=>
  have e1:xs.toList.map (cx.eval env)=xs.toList.map (cx.eval env'):=List.map_congr_left λx hx=>(H x (by simp[Op.operands]; exact .inl (by simpa using hx))).1;have e2:ys.toList.map (cx.eval env)=ys.toList.map (cx.eval env'):=List.map_congr_left λx hx=>(H x (by simp[Op.operands]; exact .inr (by simpa using hx))).1;rw[e1,e2]
 case index t x i=>rw[(H x (by simp[Op.operands])).1,(H i (by simp[Op.operands])).1]
 case extract x i=>rw[(H x (by simp[Op.operands])).1]
 case store t x v=>rw[<- (H x (by simp[Op.operands])).1,<- (H v (by simp[Op.operands])).1,Z1bm (H x (by simp[Op.operands])).2 (H v (by simp[Op.operands])).2]
 case binOp op t x y r=>rw[<- (H x (by simp[Op.operands])).1,<- (H y (by simp[Op.operands])).1,Z1io (H x (by simp[Op.operands])).2]
 case makeMap t n=>
  have e:n.map (cx.eval env)=n.map (cx.eval env'):=by cases n with | none=>rfl | some z=>rw[Option.map_some,Option.map_some,(H z (by simp[Op.operands])).1]
  rw[e]
 case lookup t x y two=>rw[<- (H x (by simp[Op.operands])).1,<- (H y (by simp[Op.operands])).1,Z16k (H x (by simp[Op.operands])).2]
 case mapUpdate t x y z=>rw[<- (H x (by simp[Op.operands])).1,<- (H y (by simp[Op.operands])).1,<- (H z (by simp[Op.operands])).1,Zxi (H x (by simp[Op.operands])).2]
 case makeSlice t x y=>rw[(H x (by simp[Op.operands])).1,(H y (by simp[Op.operands])).1]
 case fieldAddr t x f=>rw[<- (H x (by simp[Op.operands])).1,Zxh (H x (by simp[Op.operands])).2]
 case indexAddr t x i=>rw[<- (H x (by simp[Op.operands])).1,<- (H i (by simp[Op.operands])).1,Zxg (H x (by simp[Op.operands])).2]
 case build t ps=>
  have e:(ps.toList.map λp=>cx.eval env p.2)=ps.toList.map λp=>cx.eval env' p.2:=List.map_congr_left λp hp=>(H p.2 (by simp[Op.operands]; exact⟨p.1,by simpa using hp⟩)).1;rw[<- e];refine Z1bp ?_;intro id hid;obtain⟨ev,he,hi⟩:=List.mem_flatMap.1 hid;obtain⟨p,hp,rfl⟩:=List.mem_map.1 he;exact(H p.2 (by simp[Op.operands]; exact⟨p.1,by simpa using hp⟩)).2 id hi
 case buildSlice t n ps=>
  have e:(ps.toList.map λp=>cx.eval env p.2)=ps.toList.map λp=>cx.eval env' p.2:=List.map_congr_left λp hp=>(H p.2 (by simp[Op.operands]; exact⟨p.1,by simpa using hp⟩)).1;rw[<- e];refine Ztn ?_;intro id hid;obtain⟨ev,he,hi⟩:=List.mem_flatMap.1 hid;obtain⟨p,hp,rfl⟩:=List.mem_map.1 he;exact(H p.2 (by simp[Op.operands]; exact⟨p.1,by simpa using hp⟩)).2 id hi
 case slice t x lo hi mx=>
  have hx:=H x (by simp[Op.operands]);have e1:lo.map (cx.eval env)=lo.map (cx.eval env'):=by cases lo with | none=>rfl | some z=>rw[Option.map_some,Option.map_some,(H z (by simp[Op.operands])).1]
  have e2:hi.map (cx.eval env)=hi.map (cx.eval env'):=by cases hi with | none=>rfl | some z=>rw[Option.map_some,Option.map_some,(H z (by simp[Op.operands])).1]
  have e3:mx.map (cx.eval env)=mx.map (cx.eval env'):=by cases mx with | none=>rfl | some z=>rw[Option.map_some,Option.map_some,(H z (by simp[Op.operands])).1]
  split
  ·rfl
  ·rw[<- e1,<- e2,<- e3,<- hx.1,Z1bo hx.2]
 case call c=>
  have e:c.args.toList.map (cx.eval env)=c.args.toList.map (cx.eval env'):=List.map_congr_left λx hx=>(H x (by simp[Op.operands,Call.operands]; exact .inr (by simpa using hx))).1
  have s:Same h h' ((c.args.toList.map (cx.eval env)).flatMap EV.ids):=by
   intro id hid;obtain⟨ev,he,hi⟩:=List.mem_flatMap.1 hid;obtain⟨x,hx,rfl⟩:=List.mem_map.1 he;exact(H x (by simp[Op.operands,Call.operands]; exact .inr (by simpa using hx))).2 id hi
  rw[<- e];split
  ·unfold Z8j;split
   ·rename_i t x e0 e1 e2;have e3:c.args.toList.map (cx.eval env)=[x]:=by assumption
    rw[e3]at s;exact Z1il (by simpa using s)
   ·rename_i t t' x y e0 e1 e2;have e3:c.args.toList.map (cx.eval env)=[x,y]:=by assumption
    rw[e3]at s;have s2:Same h h' (x.ids++y.ids):=by simpa using s
    rw[Z16j (x:=x.weak) (y:=y.weak) (by rw[EV.weak_ids]; exact s2.left) (by rw[EV.weak_ids]; exact s2.right),Z11q s2.left]
   ·rename_i t t' x y e0 e1 e2;have e3:c.args.toList.map (cx.eval env)=[x,y]:=by assumption
    rw[e3]at s;have s2:Same h h' (x.ids++y.ids):=by simpa using s
    exact Z1f5 s2.left s2.right
   ·rfl
   ·rfl
   ·rfl
  ·exact Zto s
  ·rename_i x _ hcx;have hx2:=H x (by simp[Op.operands,Call.operands,hcx]);have hx3:=hx2.2;rw[<- hx2.1];unfold Zwg;split
   ·rename_i f caps heq;rw[heq]at hx3
    have s3:Same h h' ((c.args.toList.map (cx.eval env)++caps.map LV.ev).flatMap EV.ids):=by
     rw[List.flatMap_append,LV.evs_ids];intro id hid;rcases List.mem_append.1 hid with hid | hid
     ·exact s id hid
     ·exact hx3 id hid
    rw[Zto s3]
   ·rfl
  ·rfl
end
section
def Z6r(cx:Cx)(o:Oper):Bool:=match o.op with
 | .store ..=>false
 | .mapUpdate ..=>false
 | .convert s d _=>!(Nat.beq s d)
 | .buildSlice t ..=>Z1lo cx t
 | .call c=>match c.callee with
  | .builtin b=>match b with
   | .append=>false
   | .copy=>false
   | _=>true
  | .value (.func f)=>match c.args.toList with
   | []=>true
   | _=>Zwf cx f
  | _=>true
 | _=>true
theorem Z1ok {cx:Cx}{o:Oper}(hq:Z6r cx o=true)(env:List EV)(h:List HObj)(tgt:Nat):(aop cx o env h tgt).All (Zb [] tgt (Z1a cx o)):=by
 cases hop:o.op <;> simp only[aop,Z1a,hop] <;> simp only[Z6r,hop]at hq
 case move=>exact Zb.nil
 case assign=>exact Zb.nil
 case pick=>exact Ztb
 case alloc=>exact Zq5
 case box=>exact Zy2
 case build=>exact Zq8
 case buildSlice=>exact Ztd hq
 case load=>exact Zte
 case store=>cases hq
 case nilCheck=>exact Zy3
 case binOp=>exact Zlq
 case unOp=>exact Z11k
 case convert=>exact Z1bj hq
 case makeFunc=>exact Zi0
 case makeSlice=>exact Zge
 case makeMap=>exact Zjq
 case lookup=>exact Zm3
 case mapUpdate=>cases hq
 case slice=>
  split
  ·trivial
  ·exact Zq6
 case fieldAddr=>exact Zgg
 case indexAddr=>exact Zgf
 case extract=>exact Zbe
 case index=>exact Zq7
 case call c=>
  cases hc:c.callee with
  | builtin b=>
   rw[hc]at hq;simp only
   cases b <;> simp only[Z8j] <;> (repeat' split) <;> first | trivial | exact Zy4 | exact Z11m | (simp only at hq; cases hq) | simp_all
  | value f=>
   rw[hc]at hq
   cases f with
   | func f=>
    simp only at hq ⊢
    cases ha:c.args.toList with
    | nil=>exact Z1ij
    | cons x l=>rw[ha]at hq; exact Ztg hq
   | _=>exact Zy5
  | invoke=>trivial
 all_goals trivial
def Z5l(o:Oper):Bool:=match o.op with
 | .move _=>true
 | .assign _=>true
 | .extract _ _=>true
 | .binOp op _ _ _ _=>match op with
  | .eql=>false
  | .neq=>false
  | _=>true
 | _=>false
theorem Zb.none {tgt:Nat}{us:List (Nat × HObj)}(h:Zb [] tgt 0 us):us=[]:=by
 cases us with
 | nil=>rfl
 | cons u us=>
  rcases h u List.mem_cons_self with h | ⟨o,h,_⟩
  ·omega
  ·simp at h
theorem Z1ru {cx:Cx}{o:Oper}(hp:Z5l o=true)(env:List EV)(h:List HObj)(tgt:Nat):(aop cx o env h tgt).All (Zb [] tgt 0):=by
 cases hop:o.op <;> simp only[aop,hop] <;> simp only[Z5l,hop]at hp
 case move=>exact Zb.nil
 case assign=>exact Zb.nil
 case extract=>exact Zbe
 case binOp=>exact Zlq
 all_goals cases hp
theorem Z1lr {cx:Cx}{o:Oper}(hp:Z5l o=true)(env:List EV)(h h':List HObj)(tgt:Nat):aop cx o env h tgt=aop cx o env h' tgt:=by
 cases hop:o.op <;> simp only[aop,hop] <;> simp only[Z5l,hop]at hp
 case binOp op t x y z=>
  unfold Zgs;split
  ·rfl
  ·rfl
  ·cases op <;> first | rfl | cases hp
 all_goals cases hp
theorem Res.wp_forall {α:Type}{p:α->Prop}(ne:∃ a,p a){G:α->EV->List (Nat × HObj)->Prop}:∀ {r:Res},(∀ a,p a->r.wp (G a))->r.wp λe u=>∀ a,p a->G a e u
 | .fail,h=>let⟨a,ha⟩:=ne; h a ha
 | .ret _ _,h=>h
 | .ask _ f,h=>let⟨a,ha⟩:=ne; ⟨(h a ha).1,Res.wp_forall ne λa ha=>(h a ha).2⟩
 | .all _ _ _ f,h=>λb hb=>Res.wp_forall ne λa ha=>h a ha b hb
 | .br b x y,h=>Br.intro (λe=>Res.wp_forall (r:=x) ne λa ha=>Br.t (h a ha) e) (λe=>Res.wp_forall (r:=y) ne λa ha=>Br.f (h a ha) e)
theorem Res.swap {r2:Res}{F:EV->List (Nat × HObj)->EV->List (Nat × HObj)->Prop}:∀ {r1:Res},(r1.wp λe1 u1=>r2.wp λe2 u2=>F e1 u1 e2 u2)->r2.wp λe2 u2=>r1.wp λe1 u1=>F e1 u1 e2 u2
 | .fail,h=>h.elim
 | .ret _ _,h=>h
 | .ask _ f,⟨q,h⟩=>Res.wp_mono (λ_ _ h=>⟨q,h⟩) (Res.swap h)
 | .all _ p ne f,h=>Res.wp_forall ne λa ha=>Res.swap (h a ha)
 | .br b x y,h=>by
  cases b with
  | true=>exact Res.swap (r1:=x) (Br.t h rfl)
  | false=>exact Res.swap (r1:=y) (Br.f h rfl)
def chk(cx:Cx)(ok:Nat->Bool)(o:Oper)(env:List EV):Bool:=o.op.operands.toList.all λx=>(cx.eval env x).ids.all ok
def Zgu(cx:Cx)(o:Oper)(env:List EV):List Nat:=match o.op with
 | .store _ x v=>(cx.eval env x).ids++(cx.eval env v).ids
 | .call c=>match c.callee with
  | .builtin b=>match b with
   | .append=>c.args.toList.flatMap λx=>(cx.eval env x).ids
   | _=>[]
  | _=>[]
 | _=>[]
def isSt(o:Oper):Bool:=match o.op with
 | .store ..=>true
 | .call c=>match c.callee with
  | .builtin b=>match b with
   | .append=>true
   | _=>false
  | _=>false
 | _=>false
def chkS(cx:Cx)(ok:Nat->Bool)(st:List Nat->Bool)(o:Oper)(env:List EV):Bool:=if chk cx ok o env then st (Zgu cx o env)else false
def gres(cx:Cx)(ops:Array Oper)(ok:Nat->Bool)(st:List Nat->Bool)(o:Oper)(s:St)(tgt:Nat):Res:=match o.guard with
 | none=>if chkS cx ok st o s.env then aop cx o s.env s.heap tgt else .fail
 | some (g,want)=>match Z5u ops s.env g with
  | none=>if gone ops s.env g then .ret .skip []else .fail
  | some (_,b)=>if b=want then(if chkS cx ok st o s.env then aop cx o s.env s.heap tgt else .fail)else .ret .skip []
theorem Zgv {cx:Cx}{ops:Array Oper}{ok:Nat->Bool}{st:List Nat->Bool}{o:Oper}(hq:Z6r cx o=true){s:St}{tgt:Nat}:(gres cx ops ok st o s tgt).All (Zb [] tgt (Z1a cx o)):=by
 unfold gres
 repeat' split
 all_goals first | exact Z1ok hq _ _ _ | trivial | exact Zb.nil
theorem Z19l {c:Call}{x:Operand}(h:x ∈ c.args.toList):x ∈ (Op.call c).operands.toList:=by
 show x ∈ c.operands.toList;unfold Call.operands
 (repeat' split) <;> simp_all
theorem Z1ls {cx:Cx}{env env':List EV}{x:Operand}(h:∀ t,x=.tmp t->env[t]?=env'[t]?):cx.eval env x=cx.eval env' x:=by
 cases x with
 | tmp t=>simp only[Cx.eval,List.getD_eq_getElem?_getD,h t rfl]
 | _=>rfl
theorem Ztp {cx:Cx}{ops:Array Oper}{ok:Nat->Bool}{st:List Nat->Bool}{o:Oper}(hp:Z5l o=true){s:St}{tgt:Nat}:(gres cx ops ok st o s tgt).All (Zb [] tgt 0):=by
 unfold gres
 repeat' split
 all_goals first | exact Z1ru hp _ _ _ | trivial | exact Zb.nil
theorem Z93 {cx:Cx}{ops:Array Oper}{ok:Nat->Bool}{st:List Nat->Bool}{o:Oper}{s s':St}{tgt:Nat}(he:∀ t ∈ o.looksAt ops,s.env[t]?=s'.env[t]?)(hh:Z5l o=true∨∀ id,ok id=true->s.heap[id]?=s'.heap[id]?):
  gres cx ops ok st o s tgt=gres cx ops ok st o s' tgt:=by
 have hev:∀ x ∈ o.op.operands.toList,cx.eval s.env x=cx.eval s'.env x:=λx hx=>Z1ls λt ht=>he t (by
  subst ht;exact List.mem_append_left _ (List.mem_filterMap.2 ⟨_,hx,rfl⟩))
 have hc:chk cx ok o s.env=chk cx ok o s'.env:=by
  unfold chk
  have:∀ l:List Operand,(∀ x ∈ l,cx.eval s.env x=cx.eval s'.env x)->(l.all λx=>(cx.eval s.env x).ids.all ok)=l.all λx=>(cx.eval s'.env x).ids.all ok:=by
   intro l
   induction l with
   | nil=>intro _; rfl
   | cons x l ih=>intro h; rw[List.all_cons,List.all_cons,h x List.mem_cons_self,ih λy hy=>h y (List.mem_cons_of_mem _ hy)]
  exact this _ hev
 have ha:chk cx ok o s.env=true->aop cx o s.env s.heap tgt=aop cx o s'.env s'.heap tgt:=λh=>by
  rcases hh with hp | hh
  ·rw[Z1lr hp s.env s.heap s'.heap];exact Z19k λx hx=>⟨hev x hx,λid hid=>rfl⟩
  ·exact Z19k λx hx=>⟨hev x hx,λid hid=>hh id (by
    simp only[chk,List.all_eq_true]at h;exact h x hx id hid)⟩
 have hgo:∀ g w,o.guard=some (g,w)->Z5u ops s.env g=Z5u ops s'.env g:=by
  intro g w hg;unfold Z5u;split
  ·rename_i d hd
   rw[he d (by
    refine List.mem_append_right _ ?_;rw[hg]; simp[hd])]
  ·rfl
 have hgn:∀ g w,o.guard=some (g,w)->gone ops s.env g=gone ops s'.env g:=by
  intro g w hg;unfold gone;split
  ·rename_i d hd
   rw[he d (by
    refine List.mem_append_right _ ?_;rw[hg]; simp[hd])]
  ·rfl
 have hst:Zgu cx o s.env=Zgu cx o s'.env:=by
  unfold Zgu;split
  ·rename_i t x v hop;rw[hev x (by rw[hop]; simp[Op.operands]),hev v (by rw[hop]; simp[Op.operands])]
  ·rename_i cl hop;split
   ·split
    ·have hm:∀ x ∈ cl.args.toList,cx.eval s.env x=cx.eval s'.env x:=λx hx=>hev x (by rw[hop]; exact Z19l hx);revert hm;generalize cl.args.toList=l;intro hm
     induction l with
     | nil=>rfl
     | cons x l ih=>rw[List.flatMap_cons,List.flatMap_cons,hm x List.mem_cons_self,ih λy hy=>hm y (List.mem_cons_of_mem _ hy)]
    ·rfl
   ·rfl
  ·rfl
 have e1:(if chkS cx ok st o s.env then aop cx o s.env s.heap tgt else .fail)=(if chkS cx ok st o s'.env then aop cx o s'.env s'.heap tgt else .fail):=by
  unfold chkS;rw[<- hc,<- hst];split
  ·rename_i h; rw[ha h]
  ·rfl
 unfold gres
 cases hg:o.guard with
 | none=>exact e1
 | some gw=>
  obtain⟨g,w⟩:=gw;simp only[<- hgo g w hg,<- hgn g w hg,e1]
theorem SV.fz_mem {h:List HObj}{s:SV}:∀ u ∈ s.fz h,u.1 ∈ s.ids:=by
 intro u hu
 cases s with
 | osl id off len=>
  simp only[SV.fz]at hu
  (repeat' split at hu) <;> first | (cases hu; done) | (obtain rfl:=List.mem_singleton.1 hu; exact List.mem_singleton.2 rfl)
 | _=>cases hu
theorem Z1k4 {h:List HObj}:∀ {cs:List SV},∀ u ∈ fzs h cs,u.1 ∈ cs.flatMap SV.ids
 | [],u,hu=>by cases hu
 | s :: cs,u,hu=>by
  rw[List.flatMap_cons];simp only[fzs]at hu;rcases List.mem_append.1 hu with hu | hu
  ·exact List.mem_append_left _ (SV.fz_mem u hu)
  ·exact List.mem_append_right _ (Z1k4 u hu)
theorem XV.fz_mem {h:List HObj}{v:XV}:∀ u ∈ v.fz h,u.1 ∈ v.ids:=by
 intro u hu
 cases v with
 | one s=>exact SV.fz_mem u hu
 | agg cs=>exact Z1k4 u hu
 | dat k x=>cases hu
theorem Res.All.mono {p q:List (Nat × HObj)->Prop}(hpq:∀ us,p us->q us):∀ {r:Res},r.All p->r.All q
 | .fail,_=>trivial
 | .ret _ us,h=>hpq us h
 | .ask _ f,h=>λa=>Res.All.mono hpq (h a)
 | .all _ _ _ f,h=>λa=>Res.All.mono hpq (h a)
 | .br _ x y,h=>⟨Res.All.mono hpq h.1,Res.All.mono hpq h.2⟩
theorem Z1iq {cx:Cx}{h:List HObj}{t:TypeId}{x v:EV}:(Z6q cx h t x v).All λus=>∀ u ∈ us,u.1 ∈ x.ids++v.ids:=by
 unfold Z6q;split
 case h_2=>trivial
 rename_i xv _;split
 ·rename_i id i
  have one:∀(o:HObj),∀ u ∈ [(id,o)],u.1 ∈ (EV.x (.one (.eref id i 0))).ids++(EV.x xv).ids:=λo u hu=>by
   obtain rfl:=List.mem_singleton.1 hu;exact List.mem_append_left _ (List.mem_singleton.2 rfl)
  split
  case h_2=>trivial
  (repeat' split) <;> first
   | trivial
   | exact one _
   | (intro u hu
      rcases List.mem_append.1 hu with hu | hu
      ·exact List.mem_append_right _ (XV.fz_mem u hu)
      ·exact one _ u hu)
 ·rename_i id off
  have one:∀(o:HObj),∀ u ∈ [(id,o)],u.1 ∈ (EV.x (.one (.ref id off))).ids++(EV.x xv).ids:=λo u hu=>by
   obtain rfl:=List.mem_singleton.1 hu;exact List.mem_append_left _ (List.mem_singleton.2 rfl)
  (repeat' split) <;> first | trivial | exact one _ | exact λ_=>one _
 ·trivial
theorem Z1f6 {cx:Cx}{h:List HObj}{t:TypeId}{x y:EV}{tgt:Nat}:(Z6h cx h t x y tgt).All λus=>∀ u ∈ us,(tgt<=u.1/\u.1<tgt+1)∨u.1 ∈ x.ids:=by
 have new:∀(o:HObj)(l:List Nat),∀ u ∈ [(tgt,o)],(tgt<=u.1/\u.1<tgt+1)∨u.1 ∈ l:=λo l u hu=>by
  obtain rfl:=List.mem_singleton.1 hu;exact .inl ⟨Nat.le_refl _,Nat.lt_succ_self _⟩
 unfold Z6h;split
 case h_2=>trivial
 split
 case h_2=>trivial
 split
 case isFalse=>trivial
 split
 ·(repeat' split) <;> first | trivial | exact λ_=>new _ _
 ·split
  ·rename_i id len _;split
   case h_2=>trivial
   (repeat' split) <;> first
    | trivial
    | (intro _ u hu
       cases hu with
       | head=>exact .inr (List.mem_singleton.2 rfl)
       | tail _ hu=>exact new _ _ u hu)
  ·(repeat' split) <;> first | trivial | exact λ_=>new _ _
  ·trivial
theorem Z1bq {cx:Cx}{h:List HObj}{t:TypeId}{x y:EV}{tgt:Nat}:(Z59 cx h t x y tgt).All λus=>∀ u ∈ us,(tgt<=u.1/\u.1<tgt+1)∨u.1 ∈ x.ids:=by
 have new:∀(o:HObj)(l:List Nat),∀ u ∈ [(tgt,o)],(tgt<=u.1/\u.1<tgt+1)∨u.1 ∈ l:=λo l u hu=>by
  obtain rfl:=List.mem_singleton.1 hu;exact .inl ⟨Nat.le_refl _,Nat.lt_succ_self _⟩
 unfold Z59;split
 case h_2=>trivial
 split
 case h_2=>trivial
 split
 case isFalse=>trivial
 split
 ·exact λ_=>new _ _
 ·split
  case h_2=>trivial
  rename_i id len _;split
  case h_2=>trivial
  (repeat' split) <;> first
   | trivial
   | (intro _ u hu
      cases hu with
      | head=>exact .inr (List.mem_singleton.2 rfl)
      | tail _ hu=>exact new _ _ u hu)
theorem Z11s {cx:Cx}{ops:Array Oper}{ok:Nat->Bool}{st:List Nat->Bool}{o:Oper}(hs:isSt o=true){s:St}{tgt:Nat}:(gres cx ops ok st o s tgt).All λus=>∀ u ∈ us,(tgt<=u.1/\u.1<tgt+Z1a cx o)∨(ok u.1=true/\∃ l,st l=true/\u.1 ∈ l):=by
 have main:∀ env:List EV,chkS cx ok st o env=true->(aop cx o env s.heap tgt).All λus=>∀ u ∈ us,(tgt<=u.1/\u.1<tgt+Z1a cx o)∨(ok u.1=true/\∃ l,st l=true/\u.1 ∈ l):=by
  intro env hc;unfold chkS at hc;split at hc
  case isFalse=>cases hc
  rename_i hk
  have all:∀ x ∈ o.op.operands.toList,∀ id ∈ (cx.eval env x).ids,ok id=true:=λx hx id hid=>by
   unfold chk at hk;exact List.all_eq_true.1 (List.all_eq_true.1 hk x hx) id hid
  unfold isSt at hs;split at hs
  ·rename_i t x v hop;have e:Zgu cx o env=(cx.eval env x).ids++(cx.eval env v).ids:=by unfold Zgu; rw[hop]
   rw[e]at hc
   have hall:∀ id ∈ (cx.eval env x).ids++(cx.eval env v).ids,ok id=true:=by
    rw[hop]at all;intro id hid;rcases List.mem_append.1 hid with hid | hid
    ·exact all x (by simp[Op.operands]) id hid
    ·exact all v (by simp[Op.operands]) id hid
   have e2:aop cx o env s.heap tgt=Z6q cx s.heap t (cx.eval env x) (cx.eval env v):=by simp only[aop,hop]
   rw[e2];exact Res.All.mono (λus h u hu=>.inr ⟨hall _ (h u hu),_,hc,h u hu⟩) Z1iq
  ·rename_i cl hop;split at hs
   case h_2=>cases hs
   rename_i b hcal;split at hs
   case h_2=>cases hs
   have e:Zgu cx o env=cl.args.toList.flatMap λx=>(cx.eval env x).ids:=by unfold Zgu; rw[hop]; simp only[hcal]
   rw[e]at hc;have hn:Z1a cx o=1:=by unfold Z1a; rw[hop]; simp only[hcal]
   have e2:aop cx o env s.heap tgt=Z8j cx s.heap .append cl.argTypes.toList (cl.args.toList.map (cx.eval env)) tgt:=by simp only[aop,hop,hcal]
   rw[e2,hn];have hall:∀ x ∈ cl.args.toList,∀ id ∈ (cx.eval env x).ids,ok id=true:=λx hx=>all x (by rw[hop]; exact Z19l hx);revert hc hall;generalize cl.args.toList=l;intro hc hall;unfold Z8j;split <;> (try trivial) <;> rename_i hb hts hargs <;> (try cases hb)
   rename_i t t' x y
   cases l with
   | nil=>cases hargs
   | cons a l=>
    have ha:cx.eval env a=x:=(List.cons.inj hargs).1
    have key:∀ us:List (Nat × HObj),(∀ u ∈ us,(tgt<=u.1/\u.1<tgt+1)∨u.1 ∈ x.ids)->∀ u ∈ us,(tgt<=u.1/\u.1<tgt+1)∨(ok u.1=true/\∃ l,st l=true/\u.1 ∈ l):=λus h u hu=>by
     rcases h u hu with h | h
     ·exact .inl h
     ·rw[<- ha]at h;exact .inr ⟨hall a List.mem_cons_self _ h,_,hc,by rw[List.flatMap_cons]; exact List.mem_append_left _ h⟩
    (repeat' split) <;> first
     | trivial
     | exact Res.All.mono key (Res.All.mono (λus h u hu=>by have:=h u hu; rw[EV.weak_ids]at this; exact this) Z1f6)
     | exact Res.All.mono key Z1bq
  ·cases hs
 have nil:∀ u ∈ ([]:List (Nat × HObj)),(tgt<=u.1/\u.1<tgt+Z1a cx o)∨(ok u.1=true/\∃ l,st l=true/\u.1 ∈ l):=λu hu=>by cases hu
 unfold gres
 (repeat' split) <;> first | exact main _ (by assumption) | trivial | exact nil
theorem Zhj {env:List EV}{d:Option Tmp}{ev:EV}{t:Nat}(h:d≠some t):(putE env d ev)[t]?=env[t]?:=by
 cases d with
 | none=>rfl
 | some d=>exact Z2t λe=>h (by rw[e])
theorem Ztq {env:List EV}{d d':Option Tmp}{a b:EV}(h:∀ t,d=some t->d'≠some t):putE (putE env d a) d' b=putE (putE env d' b) d a:=by
 cases d with
 | none=>rfl
 | some d=>cases d' with
  | none=>rfl
  | some d'=>exact List.set_comm _ _ λe=>h d rfl (by rw[e])
theorem Z11t {id:Nat}{o:HObj}:∀(us:List (Nat × HObj))(h:List HObj),(∀ u ∈ us,u.1≠id)->applyU (h.set id o) us=(applyU h us).set id o
 | [],h,_=>rfl
 | u :: us,h,hn=>by
  show applyU ((h.set id o).set u.1 u.2) us=(applyU (h.set u.1 u.2) us).set id o;rw[List.set_comm _ _ (Ne.symm (hn u List.mem_cons_self)),Z11t us _ λv hv=>hn v (List.mem_cons_of_mem _ hv)]
theorem Zy7:∀(us vs:List (Nat × HObj))(h:List HObj),(∀ u ∈ us,∀ v ∈ vs,u.1≠v.1)->applyU (applyU h us) vs=applyU (applyU h vs) us
 | [],vs,h,_=>rfl
 | u :: us,vs,h,hn=>by
  show applyU (applyU (h.set u.1 u.2) us) vs=applyU ((applyU h vs).set u.1 u.2) us;rw[Zy7 us vs _ λw hw=>hn w (List.mem_cons_of_mem _ hw),Z11t vs h λv hv=>Ne.symm (hn u List.mem_cons_self v hv)]
def tgAt(cx:Cx)(ops:Array Oper)(base i:Nat):Nat:=base+Z4z cx (ops.toList.take i)
def nAt(cx:Cx)(ops:Array Oper)(i:Nat):Nat:=match ops[i]? with
 | some o=>Z1a cx o
 | none=>0
def elB(x:Nat):List Nat->Bool
 | []=>false
 | y :: l=>if Nat.beq x y then true else elB x l
theorem Z16m(x:Nat):∀ l:List Nat,elB x l=true<->x ∈ l
 | []=>by simp[elB]
 | y :: l=>by
  simp only[elB];by_cases h:x=y
  ·subst h; simp
  ·have:¬ (Nat.beq x y=true):=by simpa using h
   rw[if_neg this,Z16m x l];simp[h]
def okId(cx:Cx)(ops:Array Oper)(base:Nat)(A W:List (List Nat))(i id:Nat):Bool:=
 if elB id (W.getD i [])then false else
 if Nat.blt id base then true else(A.getD i []).any λj=>if Nat.ble (tgAt cx ops base j) id then Nat.blt id (tgAt cx ops base j+nAt cx ops j)else false
def Z1dz(A:List (List Nat))(i j:Nat):Bool:=if Nat.beq i j then false else if elB i (A.getD j [])then false else !(elB j (A.getD i []))
def stOk(cx:Cx)(ops:Array Oper)(base:Nat)(A W:List (List Nat))(j:Nat)(l:List Nat):Bool:=match l with
 | []=>true
 | l=>(List.range ops.size).all λi=>if Z1dz A i j then(match ops[i]? with
  | some o=>if Z5l o then true else l.all λid=>!(okId cx ops base A W i id)
  | none=>true)else true
theorem Z19m {cx:Cx}{ops:Array Oper}{base:Nat}{A W:List (List Nat)}{i j:Nat}{l:List Nat}(h:stOk cx ops base A W j l=true){o:Oper}(ho:ops[i]?=some o)(hp:¬ Z5l o=true)(hne:i≠j)(h1:i ∉ A.getD j [])(h2:j ∉ A.getD i []){id:Nat}(hid:id ∈ l):okId cx ops base A W i id=false:=by
 unfold stOk at h;split at h
 ·cases hid
 ·have h3:=List.all_eq_true.1 h i (by rw[List.mem_range]; exact Z1x ho)
  have hu:Z1dz A i j=true:=by
   unfold Z1dz;rw[if_neg (by simpa using hne),if_neg (λq=>h1 ((Z16m _ _).1 q))];simp only[Bool.not_eq_true']
   cases q:elB j (A.getD i [])with
   | false=>rfl
   | true=>exact absurd ((Z16m _ _).1 q) h2
  rw[if_pos hu,ho]at h3;simp only at h3;rw[if_neg hp]at h3;have:=List.all_eq_true.1 h3 id hid;simpa using this
def mkW(cx:Cx)(ops:Array Oper)(A:List (List Nat))(env:List EV):List (List Nat):=if ops.toList.any isSt then(List.range ops.size).map λi=>match ops[i]? with
  | some o=>if Z5l o then []else(List.range ops.size).flatMap λj=>match ops[j]? with
   | some oj=>if isSt oj then(if Z1dz A i j then Zgu cx oj env else [])else []
   | none=>[]
  | none=>[]
 else []
theorem Ztr(cx:Cx)(ops:Array Oper)(base i:Nat):tgAt cx ops base (i+1)=tgAt cx ops base i+nAt cx ops i:=by
 unfold tgAt nAt Z4z;rw[List.take_add_one];simp only[List.map_append,List.sum_append]
 cases h:ops[i]? with
 | none=>simp[h]
 | some o=>simp[h]; omega
theorem Z6s(cx:Cx)(ops:Array Oper)(base:Nat){i:Nat}:∀ {j:Nat},i<j->tgAt cx ops base i+nAt cx ops i<=tgAt cx ops base j
 | j+1,h=>by
  rw[Ztr];rcases Nat.lt_or_ge i j with h' | h'
  ·have:=Z6s cx ops base h'; omega
  ·have:i=j:=by omega
   subst this; omega
theorem Z8l {cx:Cx}{ops:Array Oper}{base:Nat}{A W:List (List Nat)}{i j id:Nat}(h:okId cx ops base A W j id=true)(hn:i ∉ A.getD j []):¬ (tgAt cx ops base i<=id/\id<tgAt cx ops base i+nAt cx ops i):=by
 unfold okId at h;split at h
 ·cases h
 split at h
 ·rename_i hb;have hb:id<base:=by simpa using hb
  have:base<=tgAt cx ops base i:=by unfold tgAt; omega
  omega
 ·obtain⟨k,hk,hr⟩:=List.any_eq_true.1 h;split at hr
  ·rename_i h1;have h1:tgAt cx ops base k<=id:=by simpa using h1
   have h2:id<tgAt cx ops base k+nAt cx ops k:=by simpa using hr
   rcases Nat.lt_trichotomy i k with hlt | rfl | hlt
   ·have:=Z6s cx ops base hlt; omega
   ·exact absurd hk hn
   ·have:=Z6s cx ops base hlt; omega
  ·cases hr
def ilOp(inl:FuncId->Bool)(o:Oper):Bool:=match o.op with
 | .call c=>match c.callee with
  | .value (.func f)=>inl f
  | _=>false
 | _=>false
section
variable (cx:Cx) (inl:FuncId->Bool) (call:Z2w) (ops:Array Oper) (base:Nat) (A W:List (List Nat))
def Zgw(o:Oper)(env:List EV)(h:List HObj)(K:St->Prop):Prop:=match Z11o cx inl env o with
 | some fa=>call fa.1 fa.2 h λv h'=>if Z7g h h' then K ⟨putE env o.dst v,h'⟩else False
 | none=>False
def Z1lt(o:Oper)(s:St)(K:St->Prop):Prop:=match o.guard with
 | none=>Zgw cx inl call o s.env s.heap K
 | some (g,want)=>match Z5u ops s.env g with
  | none=>if gone ops s.env g then K ⟨putE s.env o.dst .skip,s.heap⟩else False
  | some (_,b)=>if b=want then Zgw cx inl call o s.env s.heap K else K ⟨putE s.env o.dst .skip,s.heap⟩
def Z6m(i:Nat)(s:St)(K:St->Prop):Prop:=match ops[i]? with
 | none=>False
 | some o=>match ilOp inl o with
  | true=>Z1lt cx inl call ops o s K
  | false=>(gres cx ops (okId cx ops base A W i) (stOk cx ops base A W i) o s (tgAt cx ops base i)).wp λev us=>K ⟨putE s.env o.dst ev,applyU s.heap us⟩
def Z6t:List Nat->St->(St->Prop)->Prop
 | [],s,K=>K s
 | i :: l,s,K=>Z6m cx inl call ops base A W i s λs'=>Z6t l s' K
variable {cx inl call ops base A W}
theorem Z1lu {i:Nat}{o:Oper}(ho:ops[i]?=some o)(hl:ilOp inl o=false){s:St}{K K':St->Prop}(hk:∀ s,K s->K' s)(h:Z6m cx inl call ops base A W i s K):Z6m cx inl call ops base A W i s K':=by
 unfold Z6m at *;rw[ho]at h ⊢;simp only[hl]at h ⊢;exact Res.wp_mono (λ_ _ h=>hk _ h) h
structure Free (cx:Cx) (inl:FuncId->Bool) (ops:Array Oper) (A:List (List Nat)) (i j:Nat) (oi oj:Oper):Prop where
 ne:i≠j
 apart:oi.apart ops oj=true
 q:(Z6r cx oi=true/\Z6r cx oj=true)∨(Z5l oi=true∨Z5l oj=true)∨(Z6r cx oi=true/\isSt oj=true)∨(isSt oi=true/\Z6r cx oj=true)
 ai:i ∉ A.getD j []
 aj:j ∉ A.getD i []
 li:ilOp inl oi=false
 lj:ilOp inl oj=false
theorem Z1u2 {i j:Nat}{oi oj:Oper}(hi:ops[i]?=some oi)(hj:ops[j]?=some oj)(F:Free cx inl ops A i j oi oj){s:St}{K:St->Prop}
  (h:Z6m cx inl call ops base A W i s λs'=>Z6m cx inl call ops base A W j s' K):Z6m cx inl call ops base A W j s λs'=>Z6m cx inl call ops base A W i s' K:=by
 obtain⟨a1,a2,a3⟩:=Oper.apart_spec F.apart;unfold Z6m at h ⊢;simp only[hi,hj,F.li,F.lj]at h ⊢;have ni:nAt cx ops i=Z1a cx oi:=by simp[nAt,hi]
 have nj:nAt cx ops j=Z1a cx oj:=by simp[nAt,hj]
 by_cases hp:Z5l oi=true
 ·have h2:(gres cx ops (okId cx ops base A W i) (stOk cx ops base A W i) oi s (tgAt cx ops base i)).wp λe1 u1=>(gres cx ops (okId cx ops base A W j) (stOk cx ops base A W j) oj s (tgAt cx ops base j)).wp λe2 u2=>
    u1=[]/\K ⟨putE (putE s.env oi.dst e1) oj.dst e2,applyU s.heap u2⟩:=by
   refine Res.wp_mono (λe1 u1 hh=>?_) (Res.wp_all (Ztp hp) h);obtain⟨hh,ht⟩:=hh;have ht:=ht.none;subst ht;rw[<- Z93 (s:=s) (s':=⟨putE s.env oi.dst e1,applyU s.heap []⟩) (λt ht'=>(Zhj λe=>a1 t e ht').symm) (.inr λid hid=>rfl)]at hh;exact Res.wp_mono (λe2 u2 h3=>⟨rfl,h3⟩) hh
  refine Res.wp_mono (λe2 u2 hh=>?_) (Res.swap h2);rw[<- Z93 (s:=s) (s':=⟨putE s.env oj.dst e2,applyU s.heap u2⟩) (λt ht'=>(Zhj λe=>a3 t e ht').symm) (.inl hp)];refine Res.wp_mono (λe1 u1 h4=>?_) hh;obtain⟨rfl,h5⟩:=h4;rw[Ztq λt e=>a2 t e]at h5;exact h5
 by_cases hp2:Z5l oj=true
 ·have h2:(gres cx ops (okId cx ops base A W i) (stOk cx ops base A W i) oi s (tgAt cx ops base i)).wp λe1 u1=>(gres cx ops (okId cx ops base A W j) (stOk cx ops base A W j) oj s (tgAt cx ops base j)).wp λe2 u2=>
    u2=[]/\K ⟨putE (putE s.env oi.dst e1) oj.dst e2,applyU s.heap u1⟩:=by
   refine Res.wp_mono (λe1 u1 hh=>?_) h;rw[<- Z93 (s:=s) (s':=⟨putE s.env oi.dst e1,applyU s.heap u1⟩) (λt ht'=>(Zhj λe=>a1 t e ht').symm) (.inl hp2)]at hh;refine Res.wp_mono (λe2 u2 h3=>?_) (Res.wp_all (Ztp hp2) hh);obtain⟨h3,ht⟩:=h3;have ht:=ht.none;subst ht;exact⟨rfl,h3⟩
  refine Res.wp_mono (λe2 u2 hh=>?_) (Res.wp_all (Ztp hp2) (Res.swap h2));obtain⟨hh,ht⟩:=hh;have ht:=ht.none;subst ht;rw[<- Z93 (s:=s) (s':=⟨putE s.env oj.dst e2,applyU s.heap []⟩) (λt ht'=>(Zhj λe=>a3 t e ht').symm) (.inr λid hid=>rfl)];refine Res.wp_mono (λe1 u1 h4=>?_) hh;obtain⟨_,h5⟩:=h4;rw[Ztq λt e=>a2 t e]at h5;exact h5
 have key:∀(Ti Tj:List (Nat × HObj)->Prop),(∀ s:St,(gres cx ops (okId cx ops base A W i) (stOk cx ops base A W i) oi s (tgAt cx ops base i)).All Ti)->(∀ s:St,(gres cx ops (okId cx ops base A W j) (stOk cx ops base A W j) oj s (tgAt cx ops base j)).All Tj)->
   (∀ u1,Ti u1->∀ id,okId cx ops base A W j id=true->∀ u ∈ u1,u.1≠id)->(∀ u2,Tj u2->∀ id,okId cx ops base A W i id=true->∀ u ∈ u2,u.1≠id)->
   (∀ u1 u2,Ti u1->Tj u2->∀ u ∈ u1,∀ v ∈ u2,u.1≠v.1)->
   (gres cx ops (okId cx ops base A W j) (stOk cx ops base A W j) oj s (tgAt cx ops base j)).wp λe2 u2=>(gres cx ops (okId cx ops base A W i) (stOk cx ops base A W i) oi ⟨putE s.env oj.dst e2,applyU s.heap u2⟩ (tgAt cx ops base i)).wp λe1 u1=>K ⟨putE (putE s.env oj.dst e2) oi.dst e1,applyU (applyU s.heap u2) u1⟩:=by
  intro Ti Tj hTi hTj hij hji hd;have h1:=Res.wp_all (hTi s) h
  have h2:(gres cx ops (okId cx ops base A W i) (stOk cx ops base A W i) oi s (tgAt cx ops base i)).wp λe1 u1=>(gres cx ops (okId cx ops base A W j) (stOk cx ops base A W j) oj s (tgAt cx ops base j)).wp λe2 u2=>
    Ti u1/\Tj u2/\K ⟨putE (putE s.env oi.dst e1) oj.dst e2,applyU (applyU s.heap u1) u2⟩:=by
   refine Res.wp_mono (λe1 u1 hh=>?_) h1;obtain⟨hh,ht⟩:=hh;rw[<- Z93 (s:=s) (s':=⟨putE s.env oi.dst e1,applyU s.heap u1⟩) (λt ht'=>(Zhj λe=>a1 t e ht').symm) (.inr λid hid=>(Z78 _ _ _ λu hu=>hij u1 ht id hid u hu).symm)]at hh;exact Res.wp_mono (λe2 u2 h3=>⟨ht,h3.2,h3.1⟩) (Res.wp_all (hTj s) hh)
  have h3:=Res.wp_all (hTj s) (Res.swap h2);refine Res.wp_mono (λe2 u2 hh=>?_) h3;obtain⟨hh,ht⟩:=hh;rw[<- Z93 (s:=s) (s':=⟨putE s.env oj.dst e2,applyU s.heap u2⟩) (λt ht'=>(Zhj λe=>a3 t e ht').symm) (.inr λid hid=>(Z78 _ _ _ λu hu=>hji u2 ht id hid u hu).symm)];refine Res.wp_mono (λe1 u1 h4=>?_) hh;obtain⟨t1,t2,h5⟩:=h4;rw[Ztq λt e=>a2 t e,Zy7 u1 u2 s.heap λu hu v hv e=>hd u1 u2 t1 t2 u hu v hv e]at h5;exact h5
 have fr:∀(b n:Nat)(us:List (Nat × HObj)),Zb [] b n us->∀ u ∈ us,b<=u.1/\u.1<b+n:=λb n us ht u hu=>by
  rcases ht u hu with h | ⟨o,h,_⟩
  ·exact h
  ·simp at h
 rcases F.q with⟨qi,qj⟩ | hp' | ⟨qi,sj⟩ | ⟨si,qj⟩
 ·refine key _ _ (λs=>Zgv qi) (λs=>Zgv qj) (λu1 t1 id hid u hu e=>?_) (λu2 t2 id hid u hu e=>?_) λu1 u2 t1 t2 u hu v hv e=>?_
  ·refine Z8l hid F.ai ?_;rw[ni,<- e]; exact fr _ _ _ t1 u hu
  ·refine Z8l hid F.aj ?_;rw[nj,<- e]; exact fr _ _ _ t2 u hu
  ·have g1:=fr _ _ _ t1 u hu;have g2:=fr _ _ _ t2 v hv;rcases Nat.lt_or_ge i j with hlt | hge
   ·have:=Z6s cx ops base hlt; omega
   ·have:=Z6s cx ops base (show j<i from by have:=F.ne; omega); omega
 ·rcases hp' with h' | h'
  ·exact absurd h' hp
  ·exact absurd h' hp2
 ·refine key _ _ (λs=>Zgv qi) (λs=>Z11s sj) (λu1 t1 id hid u hu e=>?_) (λu2 t2 id hid u hu e=>?_) λu1 u2 t1 t2 u hu v hv e=>?_
  ·refine Z8l hid F.ai ?_;rw[ni,<- e]; exact fr _ _ _ t1 u hu
  ·rcases t2 u hu with g | ⟨_,l,hl,hm⟩
   ·refine Z8l hid F.aj ?_;rw[nj,<- e]; exact g
   ·have:=Z19m hl hi hp F.ne F.ai F.aj hm;rw[e,hid]at this; cases this
  ·rcases t2 v hv with g | ⟨g,_⟩
   ·have g1:=fr _ _ _ t1 u hu;rcases Nat.lt_or_ge i j with hlt | hge
    ·have:=Z6s cx ops base hlt; omega
    ·have:=Z6s cx ops base (show j<i from by have:=F.ne; omega); omega
   ·refine Z8l g F.ai ?_;rw[ni,<- e]; exact fr _ _ _ t1 u hu
 ·refine key _ _ (λs=>Z11s si) (λs=>Zgv qj) (λu1 t1 id hid u hu e=>?_) (λu2 t2 id hid u hu e=>?_) λu1 u2 t1 t2 u hu v hv e=>?_
  ·rcases t1 u hu with g | ⟨_,l,hl,hm⟩
   ·refine Z8l hid F.ai ?_;rw[ni,<- e]; exact g
   ·have:=Z19m hl hj hp2 (λq=>F.ne q.symm) F.aj F.ai hm;rw[e,hid]at this; cases this
  ·refine Z8l hid F.aj ?_;rw[nj,<- e]; exact fr _ _ _ t2 u hu
  ·rcases t1 u hu with g | ⟨g,_⟩
   ·have g1:=fr _ _ _ t2 v hv;rcases Nat.lt_or_ge i j with hlt | hge
    ·have:=Z6s cx ops base hlt; omega
    ·have:=Z6s cx ops base (show j<i from by have:=F.ne; omega); omega
   ·refine Z8l g F.aj ?_;rw[nj,e]; exact fr _ _ _ t2 v hv
theorem Z1ol {i:Nat}{oi:Oper}(hi:ops[i]?=some oi)(post:List Nat){K:St->Prop}:∀(pre:List Nat)(s:St),(∀ r ∈ pre,∀ o,ops[r]?=some o->Free cx inl ops A r i o oi)->
  Z6t cx inl call ops base A W (pre++i :: post) s K->Z6m cx inl call ops base A W i s λs'=>Z6t cx inl call ops base A W (pre++post) s' K
 | [],s,_,h=>h
 | r :: pre,s,hf,h=>by
  cases ho:ops[r]? with
  | none=>exact absurd h (by show ¬ Z6m cx inl call ops base A W r s _; unfold Z6m; rw[ho]; exact id)
  | some o=>
   have F:=hf r List.mem_cons_self o ho
   have h':Z6m cx inl call ops base A W r s λs'=>Z6m cx inl call ops base A W i s' λs'=>Z6t cx inl call ops base A W (pre++post) s' K:=
    Z1lu ho F.li (λs' h=>Z1ol hi post pre s' (λq hq=>hf q (List.mem_cons_of_mem _ hq)) h) h
   exact Z1u2 ho hi F h'
end
end
theorem SV.take0_rep {c:RC}:∀ {k:K}{s:SV}{x:k.T}{u:Value},s.take [] k=some x->s.rel c u->k.rep c.w c.ok x [u]:=by
 intro k s x u ht hr
 cases k with
 | int ik=>
  cases s with
  | val v=>
   cases v with
   | int j n=>
    simp only[SV.take]at ht;split at ht
    ·rename_i e; cases ht; subst e; rw[show u=_ from hr]; rfl
    ·cases ht
   | _=>simp[SV.take]at ht
  | _=>simp[SV.take]at ht
 | bool=>
  cases s with
  | val v=>
   cases v with
   | bool b=>obtain rfl:=Option.some.inj ht; rw[show u=_ from hr]; rfl
   | _=>simp[SV.take]at ht
  | _=>simp[SV.take]at ht
 | flt fk=>
  cases s with
  | val v=>
   cases v with
   | float j n=>
    simp only[SV.take]at ht;split at ht
    ·rename_i e; cases ht; subst e; rw[show u=_ from hr]; rfl
    ·cases ht
   | _=>simp[SV.take]at ht
  | _=>simp[SV.take]at ht
 | unit=>cases s <;> simp[SV.take]at ht
 | pair a b=>cases s <;> simp[SV.take]at ht
 | arr n e=>cases s <;> simp[SV.take]at ht
 | slice e=>
  cases s with
  | val v=>
   have hu:u=v:=hr;subst hu;simp only[SV.take]at ht;split at ht
   ·rename_i hn;obtain rfl:=Option.some.inj ht;rw[Z5z hn];exact⟨none,0,rfl,Nat.le_refl _,by simp[maxN],.inl rfl⟩
   ·cases ht
  | void=>
   obtain rfl:=Option.some.inj ht;obtain⟨A,rfl⟩:=hr;exact⟨A,0,rfl,Nat.le_refl _,by simp[maxN],.inl rfl⟩
  | data k' y=>
   simp only[SV.take]at ht;split at ht
   ·rename_i q; subst q; obtain rfl:=Option.some.inj ht;exact hr
   ·cases ht
  | full k' y=>
   simp only[SV.take]at ht;split at ht
   ·rename_i q; cases q; obtain rfl:=Option.some.inj ht;exact hr.1
   ·cases ht
  | _=>simp[SV.take]at ht
 | ptr e=>
  cases s with
  | val v=>
   have hu:u=v:=hr;subst hu;simp only[SV.take]at ht;split at ht
   ·rename_i hn;obtain rfl:=Option.some.inj ht;rw[Zt3 hn];exact .inl ⟨rfl,rfl⟩
   ·cases ht
  | data k' y=>
   simp only[SV.take]at ht;split at ht
   ·rename_i q; subst q; obtain rfl:=Option.some.inj ht;exact hr
   ·cases ht
  | ref id off=>simp[SV.take,Z1rl]at ht
  | _=>simp[SV.take]at ht
 | ent a b=>cases s <;> simp[SV.take]at ht
 | map a b=>
  cases s with
  | val v=>
   have hu:u=v:=hr;subst hu;simp only[SV.take]at ht;split at ht
   ·rename_i hn;obtain rfl:=Option.some.inj ht;rw[Z194 hn];exact .inl ⟨rfl,rfl⟩
   ·cases ht
  | data k' y=>
   simp only[SV.take]at ht;split at ht
   ·rename_i q; subst q; obtain rfl:=Option.some.inj ht;exact hr
   ·cases ht
  | _=>simp[SV.take]at ht
theorem K.takeL0_rep {c:RC}:∀(k:K)(cs:List SV)(vs:List Value)(x:k.T)(r:List SV),k.takeL [] cs=some (x,r)->All2 (SV.rel c) cs vs->
  ∃ v1 v2,vs=v1++v2/\k.rep c.w c.ok x v1/\All2 (SV.rel c) r v2:=by
 intro k
 induction k with
 | unit=>
  intro cs vs x r h ha;simp only[K.takeL,Option.some.injEq,Prod.mk.injEq]at h;obtain⟨_,rfl⟩:=h;exact⟨[],vs,rfl,rfl,ha⟩
 | pair a b iha ihb=>
  intro cs vs x r h ha;simp only[K.takeL]at h;split at h
  ·rename_i x1 r1 h1;split at h
   ·rename_i x2 r2 h2;obtain⟨rfl,rfl⟩:=Prod.mk.inj (Option.some.inj h);obtain⟨v1,v2,rfl,hr,ha2⟩:=iha _ _ _ _ h1 ha;obtain⟨v3,v4,rfl,hr2,ha3⟩:=ihb _ _ _ _ h2 ha2;exact⟨v1++v3,v4,by simp,⟨v1,v3,rfl,hr,hr2⟩,ha3⟩
   ·cases h
  ·cases h
 | arr n e ih=>
  intro cs vs x r h ha;simp only[K.takeL]at h;obtain⟨hl,v1,v2,e1,hr,ha2⟩:=Zt4 (λcs vs x r=>ih cs vs x r) n cs vs x r h ha;exact⟨v1,v2,e1,⟨hl,hr⟩,ha2⟩
 | int ik=>exact one c (.int ik) rfl
 | bool=>exact one c .bool rfl
 | flt fk=>exact one c (.flt fk) rfl
 | slice e _=>exact one c (.slice e) rfl
 | ptr e _=>exact one c (.ptr e) rfl
 | map a b _ _=>exact one c (.map a b) rfl
 | ent a b _ _=>intro cs vs x r h; cases h
where
 one (c:RC) (k:K) (hk:k.agg=false):∀(cs:List SV)(vs:List Value)(x:k.T)(r:List SV),k.takeL [] cs=some (x,r)->All2 (SV.rel c) cs vs->
   ∃ v1 v2,vs=v1++v2/\k.rep c.w c.ok x v1/\All2 (SV.rel c) r v2:=by
  intro cs vs x r h ha
  have h':Z7d [] k cs=some (x,r):=by
   cases k <;> first | (cases hk; done) | exact h | (cases h; done)
  have:∃ s,cs=s :: r/\s.take [] k=some x:=by
   cases cs with
   | nil=>cases h'
   | cons s r'=>
    simp only[Z7d]at h';split at h'
    ·rename_i x1 h1;obtain⟨rfl,rfl⟩:=Prod.mk.inj (Option.some.inj h');exact⟨s,rfl,h1⟩
    ·cases h'
  obtain⟨s,rfl,hs⟩:=this
  cases ha with
  | cons h1 h2=>exact⟨[_],_,rfl,SV.take0_rep hs h1,h2⟩
theorem XV.take0_rep {c:RC}{k:K}{v:XV}{x:k.T}{u:Value}(h:v.take [] k=some x)(hr:v.rel c u):KRep c.w c.ok k x u:=by
 unfold KRep
 cases v with
 | one s=>
  simp only[XV.take]at h;split at h
  ·cases h
  ·rename_i hk; rw[if_neg hk]; exact SV.take0_rep h hr
 | agg cs=>
  simp only[XV.take]at h;split at h
  ·rename_i hk;rw[if_pos hk];split at h
   ·rename_i y h1;obtain rfl:=Option.some.inj h;obtain⟨vs,rfl,ha⟩:=hr;obtain⟨v1,v2,e,hr,h2⟩:=K.takeL0_rep k cs vs.toList _ _ h1 ha
    cases h2
    exact⟨vs,rfl,by rw[e]; simpa using hr⟩
   ·cases h
  ·cases h
 | dat k' y=>
  simp only[XV.take]at h;split at h
  ·rename_i q; subst q;split at h
   ·rename_i hk;obtain rfl:=Option.some.inj h;rw[if_pos hk];obtain⟨vs,rfl,hr⟩:=hr;exact⟨vs,rfl,hr⟩
   ·cases h
  ·cases h
def LV.below(n:Nat):LV->Prop
 | .ref id _=>id<n
 | _=>True
def SV.below(n:Nat):SV->Prop
 | .osl id _ _ | .ref id _ | .eref id _ _ | .mref id | .bsl id _ | .osx id _=>id<n
 | .clo _ fs cs=>(∀ l ∈ fs,l.below n)/\∀ l ∈ cs,l.below n
 | _=>True
def XV.below(n:Nat):XV->Prop
 | .one s=>s.below n
 | .agg cs=>∀ s ∈ cs,s.below n
 | .dat _ _=>True
def EV.below(n:Nat):EV->Prop
 | .x v=>v.below n
 | .tup vs=>∀ v ∈ vs,v.below n
def HObj.below(n:Nat):HObj->Prop
 | .box _ _ cs=>∀ s ∈ cs,s.below n
 | _=>True
theorem All2.mem {α β:Type}{R:α->β->Prop}{xs:List α}{bs:List β}(h:All2 R xs bs):∀ a ∈ xs,∃ b,R a b:=by
 induction h with
 | nil=>intro a ha; cases ha
 | cons h1 _ ih=>
  intro a ha
  cases ha with
  | head=>exact⟨_,h1⟩
  | tail _ ha=>exact ih a ha
theorem Z4a {α:Type}{l:List α}{i:Nat}{a:α}(h:l[i]?=some a):i<l.length:=by
 rcases Nat.lt_or_ge i l.length with h' | h'
 ·exact h'
 ·rw[List.getElem?_eq_none h']at h; cases h
theorem LV.below_of {c:RC}{s:LV}{u:Value}(h:s.rel c u):s.below c.heap.length:=by
 cases s with
 | ref id off=>
  simp only[LV.rel]at h
  cases ho:c.heap[id]? with
  | none=>rw[ho]at h; exact h.elim
  | some o=>exact Z4a ho
 | _=>trivial
theorem SV.below_of {c:RC}{s:SV}{u:Value}(h:s.rel c u):s.below c.heap.length:=by
 cases s with
 | osl id off len=>
  simp only[SV.rel]at h
  cases ho:c.heap[id]? with
  | none=>rw[ho]at h; exact h.elim
  | some o=>exact Z4a ho
 | ref id off=>
  simp only[SV.rel]at h
  cases ho:c.heap[id]? with
  | none=>rw[ho]at h; exact h.elim
  | some o=>exact Z4a ho
 | eref id i off=>
  simp only[SV.rel]at h
  cases ho:c.heap[id]? with
  | none=>rw[ho]at h; exact h.elim
  | some o=>exact Z4a ho
 | mref id=>
  simp only[SV.rel]at h
  cases ho:c.heap[id]? with
  | none=>rw[ho]at h; exact h.elim
  | some o=>exact Z4a ho
 | bsl id len=>
  simp only[SV.rel]at h
  cases ho:c.heap[id]? with
  | none=>rw[ho]at h; exact h.elim
  | some o=>exact Z4a ho
 | osx id len=>
  simp only[SV.rel]at h
  cases ho:c.heap[id]? with
  | none=>rw[ho]at h; exact h.1.elim
  | some o=>exact Z4a ho
 | clo f fs cs=>
  obtain⟨vs,ws,rfl,h1,h2⟩:=h;exact⟨λl hl=>(h1.mem l hl).elim λ_ h=>LV.below_of h,λl hl=>(h2.mem l hl).elim λ_ h=>LV.below_of h⟩
 | _=>trivial
theorem XV.below_of {c:RC}{s:XV}{u:Value}(h:s.rel c u):s.below c.heap.length:=by
 cases s with
 | one s=>exact SV.below_of h
 | agg cs=>obtain⟨vs,rfl,h⟩:=h; exact λl hl=>(h.mem l hl).elim λ_ h=>SV.below_of h
 | dat _ _=>trivial
theorem EV.below_of {c:RC}{s:EV}{u:Value}(h:s.rel c u):s.below c.heap.length:=by
 cases s with
 | x s=>exact XV.below_of h
 | tup cs=>obtain⟨vs,rfl,h⟩:=h; exact λl hl=>(h.mem l hl).elim λ_ h=>XV.below_of h
theorem HObj.below_of {c:RC}{id:Nat}{o:HObj}(h:o.rel c id):o.below c.heap.length:=by
 cases o with
 | box m t cs=>obtain⟨b,vs,_,_,h⟩:=h; exact λl hl=>(h.mem l hl).elim λ_ h=>SV.below_of h
 | _=>trivial
structure Cut (n:Nat) (c c':RC):Prop where
 w:c'.w=c.w
 heap:∀ id,id<n->∃ o o',c.heap[id]?=some o/\c'.heap[id]?=some o'/\(o'=o∨o'=.dead∨∃ m t cs cs',o=.box m t cs/\o'=.box m t cs'/\cs'.length=cs.length)
 blk:∀ id,id<n->c'.blk id=c.blk id
 ok:∀ b,c.ok b->c'.ok b
theorem LV.cut {n:Nat}{c c':RC}(h:Cut n c c'){s:LV}{u:Value}(hb:s.below n)(r:s.rel c u):s.rel c' u:=by
 cases s with
 | val v=>exact r
 | data k x=>exact K.rep_mono (λb hb=>⟨h.ok b hb,by rw[h.w]⟩) _ _ _ r
 | ref id off=>
  obtain⟨o,o',h1,h2,h3⟩:=h.heap id hb;simp only[LV.rel,h1,h2,h.blk id hb]at r ⊢;rcases h3 with rfl | rfl | ⟨m,t,cs,cs',rfl,rfl,_⟩
  ·exact r
  ·trivial
  ·exact r
theorem All2.lvcut {n:Nat}{c c':RC}(h:Cut n c c'):∀ {fs:List LV}{vs:List Value},(∀ l ∈ fs,l.below n)->All2 (LV.rel c) fs vs->All2 (LV.rel c') fs vs
 | _,_,_,.nil=>.nil
 | _,_,hb,.cons h1 h2=>.cons (LV.cut h (hb _ List.mem_cons_self) h1) (All2.lvcut h (λl hl=>hb l (List.mem_cons_of_mem _ hl)) h2)
theorem SV.cut {n:Nat}{c c':RC}(h:Cut n c c'){s:SV}{u:Value}(hb:s.below n)(r:s.rel c u):s.rel c' u:=by
 cases s with
 | val v=>exact r
 | data k x=>exact K.rep_mono (λb hb=>⟨h.ok b hb,by rw[h.w]⟩) _ _ _ r
 | osl id off len=>
  obtain⟨o,o',h1,h2,h3⟩:=h.heap id hb;simp only[SV.rel,h1,h2,h.blk id hb,h.w]at r ⊢;rcases h3 with rfl | rfl | ⟨m,t,cs,cs',rfl,rfl,_⟩
  ·exact r
  ·trivial
  ·exact r
 | ref id off=>
  obtain⟨o,o',h1,h2,h3⟩:=h.heap id hb;simp only[SV.rel,h1,h2,h.blk id hb]at r ⊢;rcases h3 with rfl | rfl | ⟨m,t,cs,cs',rfl,rfl,_⟩
  ·exact r
  ·trivial
  ·exact r
 | eref id i off=>
  obtain⟨o,o',h1,h2,h3⟩:=h.heap id hb;simp only[SV.rel,h1,h2,h.blk id hb]at r ⊢;rcases h3 with rfl | rfl | ⟨m,t,cs,cs',rfl,rfl,_⟩
  ·exact r
  ·trivial
  ·exact r
 | void=>exact r
 | clo f fs cs=>
  obtain⟨vs,ws,rfl,h1,h2⟩:=r;refine⟨vs,ws,rfl,?_,?_⟩
  ·exact All2.lvcut h hb.1 h1
  ·exact All2.lvcut h hb.2 h2
 | bstr bs=>exact r
 | mref id=>
  obtain⟨o,o',h1,h2,h3⟩:=h.heap id hb;simp only[SV.rel,h1,h2,h.blk id hb]at r ⊢;rcases h3 with rfl | rfl | ⟨m,t,cs,cs',rfl,rfl,_⟩
  ·exact r
  ·trivial
  ·exact r
 | bsl id len=>
  obtain⟨o,o',h1,h2,h3⟩:=h.heap id hb;simp only[SV.rel,h1,h2,h.blk id hb]at r ⊢;rcases h3 with rfl | rfl | ⟨m,t,cs,cs',rfl,rfl,hl⟩
  ·exact r
  ·trivial
  ·exact⟨by rw[hl]; exact r.1,r.2⟩
 | osx id len=>
  obtain⟨o,o',h1,h2,h3⟩:=h.heap id hb;simp only[SV.rel,h1,h2,h.blk id hb,h.w]at r ⊢;rcases h3 with rfl | rfl | ⟨m,t,cs,cs',rfl,rfl,_⟩
  ·exact r
  ·exact⟨trivial,r.2⟩
  ·exact r
 | full e xs=>exact⟨K.rep_mono (λb hb=>⟨h.ok b hb,by rw[h.w]⟩) _ _ _ r.1,r.2⟩
 | junk=>trivial
theorem All2.svcut {n:Nat}{c c':RC}(h:Cut n c c'):∀ {fs:List SV}{vs:List Value},(∀ l ∈ fs,l.below n)->All2 (SV.rel c) fs vs->All2 (SV.rel c') fs vs
 | _,_,_,.nil=>.nil
 | _,_,hb,.cons h1 h2=>.cons (SV.cut h (hb _ List.mem_cons_self) h1) (All2.svcut h (λl hl=>hb l (List.mem_cons_of_mem _ hl)) h2)
theorem XV.cut {n:Nat}{c c':RC}(h:Cut n c c'){s:XV}{u:Value}(hb:s.below n)(r:s.rel c u):s.rel c' u:=by
 cases s with
 | one s=>exact SV.cut h hb r
 | agg cs=>obtain⟨vs,rfl,r⟩:=r; exact⟨vs,rfl,All2.svcut h hb r⟩
 | dat k x=>obtain⟨vs,rfl,r⟩:=r; exact⟨vs,rfl,K.rep_mono (λb hb=>⟨h.ok b hb,by rw[h.w]⟩) _ _ _ r⟩
theorem All2.xvcut {n:Nat}{c c':RC}(h:Cut n c c'):∀ {fs:List XV}{vs:List Value},(∀ l ∈ fs,l.below n)->All2 (XV.rel c) fs vs->All2 (XV.rel c') fs vs
 | _,_,_,.nil=>.nil
 | _,_,hb,.cons h1 h2=>.cons (XV.cut h (hb _ List.mem_cons_self) h1) (All2.xvcut h (λl hl=>hb l (List.mem_cons_of_mem _ hl)) h2)
theorem EV.cut {n:Nat}{c c':RC}(h:Cut n c c'){s:EV}{u:Value}(hb:s.below n)(r:s.rel c u):s.rel c' u:=by
 cases s with
 | x s=>exact XV.cut h hb r
 | tup cs=>obtain⟨vs,rfl,r⟩:=r; exact⟨vs,rfl,All2.xvcut h hb r⟩
inductive Loc where
 | slot (t:Nat)
 | cell (id j:Nat)
inductive CK where
 | data (k:K)
 | row (t:TypeId) (e:K)
def CK.T:CK->Type
 | .data k=>k.T
 | .row _ e=>List e.T
def CS:List (Loc × CK)->Type
 | []=>Unit
 | l :: ls=>l.2.T × CS ls
def OS:List (Nat × TypeId × K)->Type
 | []=>Unit
 | o :: os=>List o.2.2.T × OS os
def setCell(h:List HObj)(id j:Nat)(s:SV):List HObj:=match h[id]? with
 | some (.box m t cs)=>h.set id (.box m t (cs.set j s))
 | _=>h
def Loc.put(s:St):Loc->XV->St
 | .slot t,v=>⟨s.env.set t (.x v),s.heap⟩
 | .cell id j,.one x=>⟨s.env,setCell s.heap id j x⟩
 | .cell id j,_=>⟨s.env,setCell s.heap id j .junk⟩
def Loc.get(s:St):Loc->Option XV
 | .slot t=>match s.env[t]? with
  | some (.x v)=>some v
  | _=>none
 | .cell id j=>match s.heap[id]? with
  | some (.box _ _ cs)=>match cs[j]? with
   | some x=>some (.one x)
   | none=>none
  | _=>none
abbrev Mvs:=List (Option Nat × HObj)
def Z1lv(s:St)(l:Loc):(k:CK)->(k.T->Mvs->Prop)->Prop
 | .data k,K=>match l.get s with
  | some v=>match v.take [] k with
   | some x=>K x []
   | none=>False
  | none=>False
 | .row t e,K=>match l.get s with
  | some (.one (.osl id off len))=>match s.heap[id]? with
   | some (.row .rw t' e' xs)=>if q:e'=e then(if t'=t then(off=0/\len=List.length xs)/\K (q ▸ xs) [(some id,.row .rw t e (q ▸ xs))]else False)else False
   | _=>False
  | some (.one (.val v))=>if Zbb v then K [] [(none,.row .rw t e [])]else False
  | some (.one .void)=>K [] [(none,.row .rw t e [])]
  | _=>False
def Z11u(s:St):(ls:List (Loc × CK))->(CS ls->Mvs->Prop)->Prop
 | [],K=>K () []
 | l :: ls,K=>Z1lv s l.1 l.2 λx m=>Z11u s ls λy m'=>K (x,y) (m++m')
def Z11v(h:List HObj):(os:List (Nat × TypeId × K))->(OS os->Prop)->Prop
 | [],K=>K ()
 | (id,t,e) :: os,K=>match h[id]? with
  | some (.row .rw t' e' xs)=>if q:e'=e then(if t'=t then Z11v h os λy=>K (q ▸ xs,y)else False)else False
  | some (.mp .rw a b xs)=>if q:Lift.K.ent a b=e then Z11v h os λy=>K (q ▸ (xs:List (Lift.K.ent a b).T),y)else False
  | _=>False
def mkO(t:TypeId):(e:K)->List e.T->HObj
 | .ent a b,xs=>.mp .rw a b xs
 | .int k,xs=>.row .rw t (.int k) xs
 | .bool,xs=>.row .rw t .bool xs
 | .flt k,xs=>.row .rw t (.flt k) xs
 | .unit,xs=>.row .rw t .unit xs
 | .pair a b,xs=>.row .rw t (.pair a b) xs
 | .arr n e,xs=>.row .rw t (.arr n e) xs
 | .slice e,xs=>.row .rw t (.slice e) xs
 | .ptr e,xs=>.row .rw t (.ptr e) xs
 | .map a b,xs=>.row .rw t (.map a b) xs
theorem Z1om(n:Nat)(t:TypeId)(e:K)(xs:List e.T):(mkO t e xs).below n:=by
 cases e <;> trivial
def Zet:(os:List (Nat × TypeId × K))->OS os->List HObj->List HObj
 | [],_,h=>h
 | (id,t,e) :: os,x,h=>Zet os x.2 (h.set id (mkO t e x.1))
def CK.rows:(k:CK)->k.T->List HObj
 | .data _,_=>[]
 | .row t e,xs=>[.row .rw t e xs]
def Zeu:(ls:List (Loc × CK))->CS ls->List HObj
 | [],_=>[]
 | l :: ls,x=>l.2.rows x.1++Zeu ls x.2
def CK.val(n:Nat):(k:CK)->k.T->XV
 | .data k,x=>XV.ofData k x
 | .row _ _,xs=>.one (.osl n 0 (List.length xs))
def CK.n:CK->Nat
 | .data _=>0
 | .row _ _=>1
def Zev:(n:Nat)->(ls:List (Loc × CK))->CS ls->St->St
 | _,[],_,s=>s
 | n,l :: ls,x,s=>Zev (n+l.2.n) ls x.2 (l.1.put s (l.2.val n x.1))
def kill(ms:Mvs)(h:List HObj):List HObj:=ms.foldl (λh m=>match m.1 with | some id=>h.set id .dead | none=>h) h
def mask(ls:List (Loc × CK))(s:St):St:=ls.foldl (λs l=>l.1.put s (.one .junk)) s
def Z52(js:List Nat)(env:List EV):List EV:=js.foldl (λe t=>e.set t .junk) env
def Z5r(x:Nat):List Nat->Bool
 | []=>false
 | y :: l=>if Nat.beq x y then true else Z5r x l
def Zgx:List Nat->Bool
 | []=>true
 | x :: l=>if Z5r x l then false else Zgx l
def srcs(ms:Mvs):List Nat:=ms.filterMap (·.1)
def Zhk(n:Nat):List (Loc × CK)->Bool
 | []=>true
 | (.cell id _,_) :: ls=>if Nat.blt id n then Zhk n ls else false
 | (.slot _,_) :: ls=>Zhk n ls
def Zbg(n:Nat)(ls:List (Loc × CK))(os:List (Nat × TypeId × K))(env1:List EV)(h1:List HObj)(x:CS ls)(y:OS os):St:=
 Zev n ls x ⟨env1,Zet os y h1++Zeu ls x⟩
def Z11w(n:Nat)(ls:List (Loc × CK))(os:List (Nat × TypeId × K))(s:St)(K:List HObj->CS ls->OS os->Prop):Prop:=
 if Zhk n ls then
  Z11u s ls λx m=>Z11v s.heap os λy=>
   if Zgx (srcs m)then K ((mask ls ⟨s.env,kill m s.heap⟩).heap.take n) x y
   else False
 else False
def Sim:HObj->HObj->Prop
 | o,o'=>o'=o∨o'=.dead∨∃ m t cs cs',o=.box m t cs/\o'=.box m t cs'/\cs'.length=cs.length
theorem Sim.refl(o:HObj):Sim o o:=.inl rfl
theorem Sim.trans {a b c:HObj}(h:Sim a b)(h':Sim b c):Sim a c:=by
 rcases h' with rfl | rfl | ⟨m,t,cs,cs',rfl,rfl,hl⟩
 ·exact h
 ·exact .inr (.inl rfl)
 ·rcases h with h | h | ⟨m',t',ds,ds',rfl,h,hl'⟩
  ·subst h; exact .inr (.inr ⟨m,t,cs,cs',rfl,rfl,hl⟩)
  ·cases h
  ·cases h; exact .inr (.inr ⟨m,t,ds,cs',rfl,rfl,hl.trans hl'⟩)
theorem Sim.ev {o o':HObj}(h:Sim o o'):o.ev o':=by
 rcases h with rfl | rfl | ⟨m,t,cs,cs',rfl,rfl,hl⟩
 ·exact HObj.ev_refl _
 ·cases o <;> first | trivial | rfl | exact .inl rfl
 ·exact .inr ⟨m,cs',rfl,hl,.inl rfl⟩
theorem Sim.md {o o':HObj}(h:Sim o o'){m:Md}(hm:o'.md?=some m):o.md?=some m:=by
 rcases h with rfl | rfl | ⟨m,t,cs,cs',rfl,rfl,hl⟩
 ·exact hm
 ·cases hm
 ·exact hm
structure Less (c:RC) (h:List HObj):Prop where
 len:h.length=c.heap.length
 sim:∀(id:Nat)(o:HObj),c.heap[id]?=some o->∃ o2,h[id]?=some o2/\Sim o o2
 rel:∀(id:Nat)(o:HObj),h[id]?=some o->o.rel c id
theorem Less.refl {c:RC}(hi:c.Inv):Less c c.heap:=⟨rfl,λid o h=>⟨o,h,.refl o⟩,hi.objs⟩
theorem Less.dead {c:RC}{h:List HObj}(hl:Less c h)(id:Nat):Less c (h.set id .dead):=by
 refine⟨by simp[hl.len],λj o hj=>?_,λj o hj=>?_⟩
 ·obtain⟨o',h1,h2⟩:=hl.sim j o hj;by_cases e:id=j
  ·subst e; exact⟨.dead,Z3p h1,.inr (.inl rfl)⟩
  ·exact⟨o',by rw[Z2t e]; exact h1,h2⟩
 ·rcases Z1n hj with⟨rfl,rfl,_⟩ | ⟨_,hj⟩
  ·trivial
  ·exact hl.rel j o hj
theorem Less.kill {c:RC}:∀(ms:Mvs){h:List HObj},Less c h->Less c (Lift.kill ms h)
 | [],h,hl=>hl
 | (some id,o) :: ms,h,hl=>Less.kill ms (hl.dead id)
 | (none,o) :: ms,h,hl=>Less.kill ms hl
theorem Zts {id:Nat}:∀(ms:Mvs){h:List HObj},id<h.length->(id ∈ srcs ms∨h[id]?=some .dead)->(Lift.kill ms h)[id]?=some .dead
 | [],h,hl,hm=>by rcases hm with hm | hm; · cases hm
                  ·exact hm
 | (some j,o) :: ms,h,hl,hm=>by
  refine Zts ms (h:=h.set j .dead) (by simpa using hl) ?_;by_cases e:j=id
  ·subst e; right; rw[List.getElem?_set]; simp[hl]
  ·rcases hm with hm | hm
   ·left;simp only[srcs,List.filterMap_cons,List.mem_cons]at hm;rcases hm with hm | hm
    ·exact absurd hm.symm e
    ·exact hm
   ·right; rw[Z2t e]; exact hm
 | (none,o) :: ms,h,hl,hm=>Zts ms (h:=h) hl (by simpa [srcs]using hm)
theorem Less.junk {c:RC}{h:List HObj}(hl:Less c h)(id j:Nat):Less c (setCell h id j .junk):=by
 unfold setCell;split
 ·rename_i m t cs ho;refine⟨by simp[hl.len],λi o hi=>?_,λi o hi=>?_⟩
  ·obtain⟨o',h1,h2⟩:=hl.sim i o hi;by_cases e:id=i
   ·subst e;rw[ho]at h1; cases h1;exact⟨_,Z3p ho,h2.trans (.inr (.inr ⟨m,t,cs,_,rfl,rfl,by simp⟩))⟩
   ·exact⟨o',by rw[Z2t e]; exact h1,h2⟩
  ·rcases Z1n hi with⟨rfl,rfl,_⟩ | ⟨_,hi⟩
   ·obtain⟨b,vs,h1,h2,h3⟩:=hl.rel _ _ ho;refine⟨b,vs,h1,h2,?_⟩;by_cases hj:j<vs.toList.length
    ·have:=h3.set j (a:=.junk) (b:=vs.toList[j]) trivial
     rwa [List.set_getElem_self]at this
    ·rw[List.set_eq_of_length_le (by rw[h3.len]; omega)]; exact h3
   ·exact hl.rel i o hi
 ·exact hl
theorem Z1f7 {h:List HObj}{id i j:Nat}{s:SV}(hd:h[id]?=some .dead):(setCell h i j s)[id]?=some .dead:=by
 unfold setCell;split
 ·rename_i m t cs ho;by_cases e:i=id
  ·subst e; rw[hd]at ho; cases ho
  ·rw[Z2t e]; exact hd
 ·exact hd
theorem Zjr {c:RC}:∀(ls:List (Loc × CK)){s:St},Less c s.heap->Less c (mask ls s).heap
 | [],s,hl=>hl
 | (.slot t,k) :: ls,s,hl=>Zjr ls (s:=⟨s.env.set t (.x (.one .junk)),s.heap⟩) hl
 | (.cell id j,k) :: ls,s,hl=>Zjr ls (s:=⟨s.env,setCell s.heap id j .junk⟩) (hl.junk id j)
theorem Ztt {id:Nat}:∀(ls:List (Loc × CK)){s:St},s.heap[id]?=some .dead->(mask ls s).heap[id]?=some .dead
 | [],s,hl=>hl
 | (.slot t,k) :: ls,s,hl=>Ztt ls (s:=⟨s.env.set t (.x (.one .junk)),s.heap⟩) hl
 | (.cell id j,k) :: ls,s,hl=>Ztt ls (s:=⟨s.env,setCell s.heap id j .junk⟩) (Z1f7 hl)
theorem Zm.junk {c:RC}{env:List EV}{tmps:Array Value}(h:Zm c env tmps)(t:Nat):Zm c (env.set t .junk) tmps:=by
 refine⟨by simp[h.1],λi e hi=>?_⟩;rcases Z1n hi with⟨rfl,rfl,hl⟩ | ⟨_,hi⟩
 ·exact⟨tmps[t]'(by rw[<- h.1]; exact hl),by simp,trivial⟩
 ·exact h.2 i e hi
theorem Ztu {c:RC}{tmps:Array Value}:∀(js:List Nat){env:List EV},Zm c env tmps->Zm c (Z52 js env) tmps
 | [],env,h=>h
 | j :: js,env,h=>Ztu js (h.junk j)
section
def MvOk(c:RC)(m:Option Nat × HObj):Prop:=match m with
 | (some id,o)=>c.heap[id]?=some o/\o.md?=some .rw/\∃ t e xs,o=.row .rw t e xs
 | (none,o)=>∃ t e,o=.row .rw t e []
def RC.cut(c:RC)(n:Nat)(hA:List HObj)(ms:Mvs):RC where
 w:=c.w
 heap:=hA++ms.map (·.2)
 blk:=λid=>if id<n then c.blk id else match ms[id - n]? with
  | some (some j,_)=>c.blk j
  | _=>none
 base:=c.base
 inb:=c.inb
theorem Zjs:∀ {ms:Mvs},Zgx (srcs ms)=true->∀(i j x:Nat)(o o':HObj),ms[i]?=some (some x,o)->ms[j]?=some (some x,o')->i=j
 | [],_,i,j,x,o,o',h1,_=>by simp at h1
 | (none,z) :: ms,h,i,j,x,o,o',h1,h2=>by
  cases i with
  | zero=>simp at h1
  | succ i=>cases j with
   | zero=>simp at h2
   | succ j=>rw[Zjs (ms:=ms) (by simpa [srcs]using h) i j x o o' (by simpa using h1) (by simpa using h2)]
 | (some y,z) :: ms,h,i,j,x,o,o',h1,h2=>by
  have h':Zgx (y :: srcs ms)=true:=by simpa [srcs]using h
  have mem:∀(i:Nat)(o:HObj),ms[i]?=some (some y,o)->Z5r y (srcs ms)=true:=by
   have hmem:∀(l:List Nat),y ∈ l->Z5r y l=true:=by
    intro l
    induction l with
    | nil=>intro h; cases h
    | cons a l ih=>
     intro h;simp only[Z5r];split
     ·rfl
     ·rename_i hn
      cases h with
      | head=>exact absurd (Nat.beq_refl _) hn
      | tail _ h=>exact ih h
   intro i o hi;refine hmem _ ?_;simp only[srcs,List.mem_filterMap];exact⟨_,List.mem_of_getElem? hi,rfl⟩
  simp only[Zgx]at h';split at h'
  ·cases h'
  ·rename_i hn
   cases i with
   | zero=>
    have e1:=Option.some.inj (show some (some y,z)=some (some x,o)from by simpa using h1)
    cases e1
    cases j with
    | zero=>rfl
    | succ j=>exact absurd (mem j o' (by simpa using h2)) hn
   | succ i=>
    cases j with
    | zero=>
     have e1:=Option.some.inj (show some (some y,z)=some (some x,o')from by simpa using h2)
     cases e1
     exact absurd (mem i o (by simpa using h1)) hn
    | succ j=>rw[Zjs h' i j x o o' (by simpa using h1) (by simpa using h2)]
section
variable {c:RC} (hi:c.Inv) {n:Nat} {h2:List HObj} {ms:Mvs} (hn:n<=c.heap.length) (hL:Less c h2) (hk:∀ id,id ∈ srcs ms->h2[id]?=some .dead)
 (hm:∀ m ∈ ms,MvOk c m) (hd:Zgx (srcs ms)=true) (hb:∀(id:Nat)(o:HObj),(h2.take n)[id]?=some o->o.below n)
include hi hn hL hk hm hd
theorem Z11x {id:Nat}{o:HObj}(h:id<n):(c.cut n (h2.take n) ms).heap[id]?=h2[id]?:=by
 simp only[RC.cut];rw[List.getElem?_append_left (by rw[List.length_take,hL.len]; omega),List.getElem?_take,if_pos h]
theorem Z1on {id:Nat}(h:n<=id):(c.cut n (h2.take n) ms).heap[id]?=(ms[id - n]?).map (·.2):=by
 simp only[RC.cut];rw[List.getElem?_append_right (by rw[List.length_take,hL.len]; omega),List.getElem?_map,List.length_take,hL.len,Nat.min_eq_left hn]
theorem Zd7 {id:Nat}{o:HObj}(h:(c.cut n (h2.take n) ms).heap[id]?=some o)(hl:o.live):
  (∃ j o',c.heap[j]?=some o'/\o'.md?=o.md?/\(c.cut n (h2.take n) ms).blk id=c.blk j/\((id<n/\j=id/\Sim o' o/\h2[id]?=some o)∨(n<=id/\o'=o/\ms[id - n]?=some (some j,o)/\o.md?=some .rw/\∃ t e xs,o=.row .rw t e xs)))∨
  (n<=id/\(c.cut n (h2.take n) ms).blk id=none/\∃ t e,o=.row .rw t e []):=by
 rcases Nat.lt_or_ge id n with hlt | hge
 ·rw[Z11x hi hn hL hk hm hd (o:=o) hlt]at h;obtain⟨o',h1,h3⟩:=hL.sim id _ (List.getElem?_eq_getElem (by omega));rw[h]at h1; cases h1;obtain⟨m,hmd⟩:=HObj.md_of_live hl;exact .inl ⟨id,_,List.getElem?_eq_getElem (by omega),by rw[hmd,h3.md hmd],by simp[RC.cut,hlt],.inl ⟨hlt,rfl,h3,h⟩⟩
 ·rw[Z1on hi hn hL hk hm hd hge]at h
  cases hms:ms[id - n]? with
  | none=>rw[hms]at h; cases h
  | some m=>
   rw[hms]at h;obtain⟨src,o'⟩:=m;obtain rfl:o'=o:=by simpa using h
   have:=hm _ (List.mem_of_getElem? hms)
   cases src with
   | none=>exact .inr ⟨hge,by simp[RC.cut,Nat.not_lt.2 hge,hms],this⟩
   | some j=>
    obtain⟨h1,h3,h4⟩:=this;exact .inl ⟨j,o',h1,rfl,by simp[RC.cut,Nat.not_lt.2 hge,hms],.inr ⟨hge,rfl,rfl,h3,h4⟩⟩
theorem Z1u3 {b:Nat}(h:(c.cut n (h2.take n) ms).own b):c.own b:=by
 obtain⟨id,o,m,h1,h3,h4,h5⟩:=h;rcases Zd7 hi hn hL hk hm hd h1 (HObj.live_of_md h3)with⟨j,o',e1,e2,e3,_⟩ | ⟨_,e,_⟩
 ·exact⟨j,o',m,e1,e2.trans h3,h4,by rw[<- e3]; exact h5⟩
 ·rw[e]at h5; cases h5
theorem Z1k5:Cut n c (c.cut n (h2.take n) ms) where
 w:=rfl
 heap:=λid hid=>by
  obtain⟨o',h1,h3⟩:=hL.sim id _ (List.getElem?_eq_getElem (by omega));refine⟨_,o',List.getElem?_eq_getElem (by omega),by rw[Z11x hi hn hL hk hm hd (o:=o') hid]; exact h1,?_⟩;rcases h3 with h | h | ⟨m,t,cs,cs',e1,e2,e3⟩
  ·exact .inl h
  ·exact .inr (.inl h)
  ·exact .inr (.inr ⟨m,t,cs,cs',e1,e2,e3⟩)
 blk:=λid hid=>by simp[RC.cut,hid]
 ok:=λb hb=>⟨hb.1,λh=>hb.2.1 (Z1u3 hi hn hL hk hm hd h),hb.2.2⟩
theorem Z1u4 {c0:RC}(he:Ext c0 c)(h0:c0.heap.length=n):Ext c0 (c.cut n (h2.take n) ms) where
 base:=he.base
 inb:=he.inb
 size:=he.size
 os:=he.os
 tape:=he.tape
 output:=he.output
 keep:=he.keep
 cells:=λb vs t z hv=>by
  obtain⟨vs',z',g1,g2,g3⟩:=he.cells b vs t z hv;refine⟨vs',z',g1,g2,g3.imp id λhl hl'=>hl ?_⟩;obtain⟨id,o',ho',hlo',hb'⟩:=hl';rcases Zd7 hi hn hL hk hm hd ho' hlo' with⟨j,o1,e1,e2,e3,_⟩ | ⟨_,e,_⟩
  ·exact⟨j,o1,e1,by unfold HObj.live at hlo' ⊢; rw[e2]; exact hlo',e3.symm.trans hb'⟩
  ·rw[e]at hb'; cases hb'
 blk:=λid o ho hp=>by
  have:id<n:=by rw[<- h0]; exact Z4a ho
  rw[<- he.blk id o ho hp]; simp[RC.cut,this]
 ev:=λid o ho=>by
  have hid:id<n:=by rw[<- h0]; exact Z4a ho
  obtain⟨o1,h1,e1⟩:=he.ev id o ho;obtain⟨o2,h3,e2⟩:=hL.sim id o1 h1;exact⟨o2,by rw[Z11x hi hn hL hk hm hd (o:=o2) hid]; exact h3,HObj.ev_trans e1 e2.ev⟩
 fresh:=λid o' b ho' hl hold hblk hb=>by
  rcases Zd7 hi hn hL hk hm hd ho' hl with⟨j,o1,e1,e2,e3,h⟩ | ⟨_,e,_⟩
  ·rw[e3]at hblk;rcases h with⟨_,rfl,_,_⟩ | ⟨hge,rfl,_,hrw,_⟩
   ·exact he.fresh j o1 b e1 (by rw[HObj.live,e2]; exact hl) hold hblk hb
   ·exact he.wr_back ⟨j,o1,e1,hrw,hblk⟩ hb
  ·rw[e]at hblk; cases hblk
include hb
theorem Z1u5:(c.cut n (h2.take n) ms).Inv where
 objs:=λid o ho=>by
  have C:=Z1k5 hi hn hL hk hm hd;rcases Nat.lt_or_ge id n with hlt | hge
  ·have h1:=ho;rw[Z11x hi hn hL hk hm hd (o:=o) hlt]at h1;have h3:=hL.rel id o h1;have h4:=hb id o (by rw[List.getElem?_take,if_pos hlt]; exact h1)
   cases o with
   | pend=>trivial
   | dead=>trivial
   | box m t cs=>
    obtain⟨b,vs,e1,e2,e3⟩:=h3;exact⟨b,vs,by rw[C.blk id hlt]; exact e1,e2,All2.svcut C h4 e3⟩
   | row m t e xs=>
    obtain⟨e0,e⟩:=h3;refine⟨e0,?_⟩;rcases e with⟨e1,e2⟩ | ⟨b,vs,fr,re,e1,e2,e3,e4⟩
    ·exact .inl ⟨by rw[C.blk id hlt]; exact e1,e2⟩
    ·exact .inr ⟨b,vs,fr,re,by rw[C.blk id hlt]; exact e1,e2,e3,Rows.mono (λx cs=>K.rep_mono (λb hb=>⟨C.ok b hb,rfl⟩) _ x cs) e4⟩
   | mp m ka kb xs=>
    obtain⟨b,es,ck,e1,e2,e3⟩:=h3;exact⟨b,es,ck,by rw[C.blk id hlt]; exact e1,e2,Ents.mono (λ_ _=>KV.mono λx cs=>K.rep_mono (λb hb=>⟨C.ok b hb,rfl⟩) _ x cs) (λ_ _=>KV.mono λx cs=>K.rep_mono (λb hb=>⟨C.ok b hb,rfl⟩) _ x cs) e3⟩
  ·by_cases hl:o.live
   ·rcases Zd7 hi hn hL hk hm hd ho hl with⟨j,o1,e1,e2,e3,h⟩ | ⟨_,e,t,k,rfl⟩
    ·rcases h with⟨hlt,_⟩ | ⟨_,rfl,_,_,t,e,xs,rfl⟩
     ·omega
     ·obtain⟨f0,f⟩:=hi.objs j _ e1;refine⟨f0,?_⟩;rcases f with⟨f1,f2⟩ | ⟨b,vs,fr,re,f1,f2,f3,f4⟩
      ·exact .inl ⟨e3.trans f1,f2⟩
      ·exact .inr ⟨b,vs,fr,re,e3.trans f1,f2,f3,Rows.mono (λx cs=>K.rep_mono (λb hb=>⟨C.ok b hb,rfl⟩) _ x cs) f4⟩
    ·exact⟨by simp[maxN],.inl ⟨e,rfl⟩⟩
   ·cases o <;> first | trivial | exact absurd rfl hl
 inj:=λi j oi oj b h1 l1 h3 l3 b1 b3=>by
  rcases Zd7 hi hn hL hk hm hd h1 l1 with⟨i',oi',e1,e2,e3,h⟩ | ⟨_,e,_⟩
  ·rcases Zd7 hi hn hL hk hm hd h3 l3 with⟨j',oj',g1,g2,g3,g⟩ | ⟨_,g,_⟩
   ·have hij:=hi.inj i' j' oi' oj' b e1 (by rw[HObj.live,e2]; exact l1) g1 (by rw[HObj.live,g2]; exact l3) (e3 ▸ b1) (g3 ▸ b3);subst hij;rcases h with⟨hlt,rfl,_,hd2⟩ | ⟨hge,rfl,hms,_⟩
    ·rcases g with⟨_,e,_⟩ | ⟨gge,rfl,gms,_⟩
     ·exact e
     ·have:=hk i' (by simp only[srcs,List.mem_filterMap]; exact⟨_,List.mem_of_getElem? gms,rfl⟩);rw[this]at hd2; cases hd2; exact absurd l1 (by simp[HObj.live,HObj.md?])
    ·rcases g with⟨glt,rfl,_,gd2⟩ | ⟨gge,rfl,gms,_⟩
     ·have:=hk i' (by simp only[srcs,List.mem_filterMap]; exact⟨_,List.mem_of_getElem? hms,rfl⟩);rw[this]at gd2; cases gd2; exact absurd l3 (by simp[HObj.live,HObj.md?])
     ·have:=Zjs hd _ _ _ _ _ hms gms; omega
   ·rw[g]at b3; cases b3
  ·rw[e]at b1; cases b1
 base:=λid o b h1 l1 b1=>by
  rcases Zd7 hi hn hL hk hm hd h1 l1 with⟨i',oi',e1,e2,e3,h⟩ | ⟨_,e,_⟩
  ·exact hi.base i' oi' b e1 (by rw[HObj.live,e2]; exact l1) (e3 ▸ b1)
  ·rw[e]at b1; cases b1
 basele:=hi.basele
end
end
def Has(c:RC)(tmps:Array Value)(p:Value->Prop):Loc->Prop
 | .slot t=>∃ u,tmps[t]?=some u/\p u
 | .cell id j=>∃ b vs t u,c.blk id=some b/\c.w.heap[b]?=some (.cells vs t (0,0))/\vs.toList[j]?=some u/\p u
theorem Zwh {c:RC}(hi:c.Inv){env:List EV}{tmps:Array Value}(he:Zm c env tmps)(l:Loc){v:XV}(h:l.get ⟨env,c.heap⟩=some v):Has c tmps (v.rel c) l:=by
 cases l with
 | slot t=>
  simp only[Loc.get]at h;split at h
  ·rename_i v' hv
   cases h
   obtain⟨u,h1,h2⟩:=he.2 _ _ hv;exact⟨u,h1,h2⟩
  ·cases h
 | cell id j=>
  simp only[Loc.get]at h;split at h
  ·rename_i m t cs ho;split at h
   ·rename_i x hx
    cases h
    obtain⟨b,vs,h1,h2,h3⟩:=hi.objs _ _ ho;obtain⟨u,h4,h5⟩:=h3.get j x hx;exact⟨b,vs,t,u,h1,h2,h4,h5⟩
   ·cases h
  ·cases h
theorem Has.mono {c c':RC}{tmps:Array Value}{p p':Value->Prop}{l:Loc}(hw:c'.w=c.w)(hb:∀ id j,l=.cell id j->c'.blk id=c.blk id)(hp:∀ u,p u->p' u)(h:Has c tmps p l):Has c' tmps p' l:=by
 cases l with
 | slot t=>obtain⟨u,h1,h2⟩:=h; exact⟨u,h1,hp u h2⟩
 | cell id j=>obtain⟨b,vs,t,u,h1,h2,h3,h4⟩:=h; exact⟨b,vs,t,u,by rw[hb id j rfl]; exact h1,by rw[hw]; exact h2,h3,hp u h4⟩
theorem Z1u6 {c:RC}(hi:c.Inv){id j:Nat}{m:Md}{t:TypeId}{cs:List SV}(ho:c.heap[id]?=some (.box m t cs)){x:SV}(hx:Has c #[] (x.rel c) (.cell id j)):
  RC.Inv {c with heap:=c.heap.set id (.box m t (cs.set j x))}/\Ext c {c with heap:=c.heap.set id (.box m t (cs.set j x))}:=by
 have hlen:∀(i:Nat)(o:HObj),(c.heap.set id (.box m t (cs.set j x)))[i]?=some o->o.live->∃ o',c.heap[i]?=some o'/\o'.live:=by
  intro i o h hl;rcases Z1n h with⟨rfl,rfl,_⟩ | ⟨_,h⟩
  ·exact⟨_,ho,rfl⟩
  ·exact⟨o,h,hl⟩
 have E:Ext c {c with heap:=c.heap.set id (.box m t (cs.set j x))}:={
  base:=rfl,size:=Nat.le_refl _,os:=rfl,tape:=rfl,output:=rfl
  keep:=λ_ _ _=>rfl
  cells:=λb vs t z h=>⟨vs,z,h,rfl,.inl rfl⟩
  blk:=λ_ _ _ _=>rfl
  ev:=λi o h=>by
   by_cases e:id=i
   ·subst e; rw[ho]at h; cases h;exact⟨_,Z3p ho,.inr ⟨m,_,rfl,by simp,.inl rfl⟩⟩
   ·exact⟨o,by simp only; rw[Z2t e]; exact h,HObj.ev_refl o⟩
  fresh:=λi o' b h hl hold _ _=>by
   obtain⟨o,h1,h2⟩:=hlen i o' h hl;exact absurd h2 (hold o h1)}
 refine⟨?_,E⟩;constructor
 ·intro i o h;rcases Z1n h with⟨rfl,rfl,_⟩ | ⟨hne,h⟩
  ·obtain⟨b,vs,h1,h2,h3⟩:=hi.objs _ _ ho;obtain⟨b',vs',t',u,g1,g2,g3,g4⟩:=hx;rw[h1]at g1; cases g1;rw[h2]at g2; cases g2;refine⟨b,vs,h1,h2,?_⟩
   have h4:All2 (SV.rel c) (cs.set j x) vs.toList:=by
    have:=h3.set j g4;have hl:=Z4a g3
    rw[show vs.toList.set j u=vs.toList from by
     apply List.ext_getElem?; intro i;rw[List.getElem?_set];split
     ·rename_i e; subst e; first | exact g3.symm | rw[if_pos hl,g3]
     ·rfl]at this
    exact this
   exact h4.mono λa b r=>SV.rel_mono E r
  ·exact HObj.rel_mono E h (λ_ _ _=>rfl) (hi.objs i o h)
 ·intro i j oi oj b h1 l1 h2 l2 b1 b2;obtain⟨o1,e1,e2⟩:=hlen i oi h1 l1;obtain⟨o2,e3,e4⟩:=hlen j oj h2 l2;exact hi.inj i j o1 o2 b e1 e2 e3 e4 b1 b2
 ·intro i o b h1 l1 b1;obtain⟨o1,e1,e2⟩:=hlen i o h1 l1;exact hi.base i o1 b e1 e2 b1
 ·exact hi.basele
theorem Z1vz {c:RC}(hi:c.Inv){env:List EV}{tmps:Array Value}(he:Zm c env tmps)(l:Loc)(v:XV)(hv:Has c tmps (v.rel c) l):
  RC.Inv {c with heap:=(l.put ⟨env,c.heap⟩ v).heap}/\Ext c {c with heap:=(l.put ⟨env,c.heap⟩ v).heap}/\Zm {c with heap:=(l.put ⟨env,c.heap⟩ v).heap} (l.put ⟨env,c.heap⟩ v).env tmps:=by
 cases l with
 | slot t=>
  refine⟨hi,Ext.refl c,?_⟩;obtain⟨u,h1,h2⟩:=hv;refine⟨by simp[Loc.put,he.1],λi e h=>?_⟩;simp only[Loc.put]at h;rcases Z1n h with⟨rfl,rfl,_⟩ | ⟨_,h⟩
  ·exact⟨u,h1,h2⟩
  ·exact he.2 i e h
 | cell id j=>
  have hx:∃ x:SV,Loc.put ⟨env,c.heap⟩ (.cell id j) v=⟨env,setCell c.heap id j x⟩/\Has c #[] (x.rel c) (.cell id j):=by
   cases v with
   | one x=>exact⟨x,rfl,hv⟩
   | agg cs=>exact⟨.junk,rfl,Has.mono (l:=.cell id j) (p':=(SV.junk).rel c) (c:=c) (tmps:=tmps) rfl (λ_ _ _=>rfl) (λ_ _=>trivial) hv⟩
   | dat k y=>exact⟨.junk,rfl,Has.mono (l:=.cell id j) (p':=(SV.junk).rel c) (c:=c) (tmps:=tmps) rfl (λ_ _ _=>rfl) (λ_ _=>trivial) hv⟩
  obtain⟨x,e,hx⟩:=hx;rw[e];simp only[setCell];split
  ·rename_i m t cs ho;obtain⟨h1,h2⟩:=Z1u6 hi ho hx;exact⟨h1,h2,Zm.mono he h2⟩
  ·exact⟨hi,Ext.refl c,he⟩
def Zbh(c:RC)(tmps:Array Value):(n:Nat)->(ls:List (Loc × CK))->CS ls->Prop
 | _,[],_=>True
 | n,l :: ls,x=>Has c tmps ((l.2.val n x.1).rel c) l.1/\Zbh c tmps (n+l.2.n) ls x.2
theorem Zbh.mono {c c':RC}{tmps:Array Value}(hw:c'.w=c.w)(hb:c'.blk=c.blk)(he:Ext c c'):∀(ls:List (Loc × CK))(n:Nat)(x:CS ls),Zbh c tmps n ls x->Zbh c' tmps n ls x
 | [],_,_,_=>trivial
 | l :: ls,n,x,h=>⟨h.1.mono hw (λ_ _ _=>by rw[hb]) (λu r=>XV.rel_mono he r),Zbh.mono hw hb he ls _ _ h.2⟩
theorem Z19n:∀(ls:List (Loc × CK))(n:Nat)(x:CS ls){c:RC}(hi:c.Inv){env:List EV}{tmps:Array Value}(he:Zm c env tmps)(h:Zbh c tmps n ls x),
  ∃ c':RC,c'.w=c.w/\c'.Inv/\Ext c c'/\c'.heap=(Zev n ls x ⟨env,c.heap⟩).heap/\Zm c' (Zev n ls x ⟨env,c.heap⟩).env tmps
 | [],n,x,c,hi,env,tmps,he,h=>⟨c,rfl,hi,Ext.refl c,rfl,he⟩
 | l :: ls,n,x,c,hi,env,tmps,he,h=>by
  obtain⟨h1,h2,h3⟩:=Z1vz hi he l.1 (l.2.val n x.1) h.1;have hh:Zbh {c with heap:=(l.1.put ⟨env,c.heap⟩ (l.2.val n x.1)).heap} tmps (n+l.2.n) ls x.2:=Zbh.mono (c:=c) (c':={c with heap:=(l.1.put ⟨env,c.heap⟩ (l.2.val n x.1)).heap}) rfl rfl h2 ls _ _ h.2;obtain⟨c',e1,e2,e3,e4,e5⟩:=Z19n ls (n+l.2.n) x.2 h1 h3 hh;exact⟨c',e1,e2,h2.trans e3,e4,e5⟩
def Z7o(c:RC)(tmps:Array Value):(ls:List (Loc × CK))->CS ls->Mvs->Prop
 | [],_,m=>m=[]
 | (l,.data k) :: ls,x,m=>Has c tmps (λu=>KRep c.w c.ok k x.1 u) l/\Z7o c tmps ls x.2 m
 | (l,.row t e) :: ls,x,m=>∃ src m',m=(src,.row .rw t e x.1) :: m'/\MvOk c (src,.row .rw t e x.1)/\
   (match src with
    | some id=>Has c tmps ((SV.osl id 0 (List.length x.1)).rel c) l
    | none=>Has c tmps (λu=>∃ A,u=.slice A 0 0) l/\x.1=[])/\Z7o c tmps ls x.2 m'
theorem Zew {c:RC}(hi:c.Inv){env:List EV}{tmps:Array Value}(he:Zm c env tmps):∀(ls:List (Loc × CK)){K:CS ls->Mvs->Prop},Z11u ⟨env,c.heap⟩ ls K->∃ x m,K x m/\Z7o c tmps ls x m
 | [],K,h=>⟨(),[],h,rfl⟩
 | (l,.data k) :: ls,K,h=>by
  simp only[Z11u,Z1lv]at h;split at h
  ·rename_i v hv;split at h
   ·rename_i x hx;obtain⟨y,m,h1,h2⟩:=Zew hi he ls h;exact⟨(x,y),m,h1,(Zwh hi he l hv).mono rfl (λ_ _ _=>rfl) (λu r=>XV.take0_rep hx r),h2⟩
   ·exact h.elim
  ·exact h.elim
 | (l,.row t e) :: ls,K,h=>by
  simp only[Z11u,Z1lv]at h;split at h
  ·rename_i id off len hv;split at h
   ·rename_i t' e' xs ho;split at h
    ·rename_i q; subst q;split at h
     ·rename_i q; subst q;obtain⟨⟨rfl,rfl⟩,h⟩:=h;obtain⟨y,m,h1,h2⟩:=Zew hi he ls h;exact⟨(xs,y),_,h1,some id,m,rfl,⟨ho,rfl,_,_,_,rfl⟩,Zwh hi he l hv,h2⟩
     ·exact h.elim
    ·exact h.elim
   ·exact h.elim
  ·rename_i v hv;split at h
   ·rename_i hn;obtain⟨y,m,h1,h2⟩:=Zew hi he ls h;exact⟨([],y),_,h1,none,m,rfl,⟨_,_,rfl⟩,⟨(Zwh hi he l hv).mono rfl (λ_ _ _=>rfl) (λu r=>⟨none,by rw[show u=v from r]; exact Z5z hn⟩),rfl⟩,h2⟩
   ·exact h.elim
  ·rename_i hv;obtain⟨y,m,h1,h2⟩:=Zew hi he ls h;exact⟨([],y),_,h1,none,m,rfl,⟨_,_,rfl⟩,⟨Zwh hi he l hv,rfl⟩,h2⟩
  ·exact h.elim
theorem Z7o.rows {c:RC}{tmps:Array Value}:∀(ls:List (Loc × CK))(x:CS ls)(m:Mvs),Z7o c tmps ls x m->m.map (·.2)=Zeu ls x/\∀ mm ∈ m,MvOk c mm
 | [],x,m,h=>by obtain rfl:m=[]:=h; exact⟨rfl,λ_ h=>by cases h⟩
 | (l,.data k) :: ls,x,m,h=>by simpa [Zeu,CK.rows]using Z7o.rows ls x.2 m h.2
 | (l,.row t e) :: ls,x,m,h=>by
  obtain⟨src,m',rfl,h1,_,h2⟩:=h;obtain⟨h3,h4⟩:=Z7o.rows ls x.2 m' h2;exact⟨by simp[Zeu,CK.rows,h3],λmm hm=>(List.mem_cons.1 hm).elim (λe=>e ▸ h1) (h4 mm)⟩
theorem Z7o.has {c cA:RC}{n:Nat}{tmps:Array Value}(hc:Cut n c cA){ms:Mvs}
  (hh:∀(i:Nat)(m:Option Nat × HObj),ms[i]?=some m->cA.heap[n+i]?=some m.2/\cA.blk (n+i)=m.1.bind c.blk):
  ∀(ls:List (Loc × CK))(i:Nat)(x:CS ls),Zhk n ls=true->Z7o c tmps ls x (ms.drop i)->Zbh cA tmps (n+i) ls x
 | [],i,x,_,_=>trivial
 | (l,k) :: ls,i,x,hl,h=>by
  have hcell:(∀ id j,l=.cell id j->cA.blk id=c.blk id)/\Zhk n ls=true:=by
   cases l with
   | slot t=>exact⟨λ_ _ h=>(by cases h),hl⟩
   | cell id j=>
    simp only[Zhk]at hl;split at hl
    ·rename_i hlt;exact⟨λ_ _ h=>(by cases h; exact hc.blk id (by simpa using hlt)),hl⟩
    ·cases hl
  cases k with
  | data k=>
   refine⟨h.1.mono hc.w hcell.1 (λu r=>XV.ofData_rel (KRep.mono (w:=c.w) (λb hb=>⟨hc.ok b hb,by rw[hc.w]⟩) r)),?_⟩;exact Z7o.has hc hh ls i x.2 hcell.2 h.2
  | row t e=>
   obtain⟨src,m',hm,h1,h2,h3⟩:=h
   have hi:ms[i]?=some (src,.row .rw t e x.1):=by
    have:=congrArg (λl=>l[0]?) hm;simpa using this
   have hd:ms.drop (i+1)=m':=by
    have:=congrArg List.tail hm;simpa [List.tail_drop]using this
   obtain⟨g1,g2⟩:=hh i _ hi;refine⟨?_,Z7o.has hc hh ls (i+1) x.2 hcell.2 (by rw[hd]; exact h3)⟩
   cases src with
   | some id=>
    refine Has.mono hc.w hcell.1 (λu r=>?_) h2;have ho:c.heap[id]?=some (.row .rw t e x.1):=h1.1;simp only[CK.val,XV.rel,SV.rel,g1]at r ⊢;rw[ho]at r;obtain⟨A,cap,r1,r2,r3,r4⟩:=r;refine⟨A,cap,r1,r2,r3,?_⟩;rcases r4 with r4 | ⟨b,vs,r4,r5⟩
    ·exact .inl r4
    ·exact .inr ⟨b,vs,g2.trans r4,by rw[hc.w]; exact r5⟩
   | none=>
    refine Has.mono hc.w hcell.1 (λu r=>?_) h2.1;obtain⟨A,rfl⟩:=r;simp only[CK.val,XV.rel,SV.rel,g1,h2.2];exact⟨A,0,rfl,Nat.le_refl _,⟨Nat.le_refl _,Nat.le_refl _⟩,.inl rfl⟩
theorem Zls {c0 c:RC}(hi:c.Inv)(he0:Ext c0 c){n:Nat}(h0:c0.heap.length=n){env:List EV}{tmps:Array Value}(he:Zm c env tmps){ls:List (Loc × CK)}{os:List (Nat × TypeId × K)}
  {K:List HObj->CS ls->OS os->Prop} (h:Z11w n ls os ⟨env,c.heap⟩ K) {env1:List EV} (hE:Zm c env1 tmps):
  ∃ h1 x y,K h1 x y/\(∀(id:Nat)(o:HObj),h1[id]?=some o->o.rel c id)/\
   ((∀(t:Nat)(e:EV),env1[t]?=some e->e.below n)->(∀(id:Nat)(o:HObj),h1[id]?=some o->o.below n)->
     ∃ c':RC,c'.w=c.w/\c'.Inv/\Ext c0 c'/\c'.heap=(Zev n ls x ⟨env1,h1++Zeu ls x⟩).heap/\Zm c' (Zev n ls x ⟨env1,h1++Zeu ls x⟩).env tmps):=by
 have hn:n<=c.heap.length:=by
  rcases Nat.lt_or_ge c.heap.length n with hlt | h
  ·obtain⟨o,ho,_⟩:=he0.ev c.heap.length _ (List.getElem?_eq_getElem (by omega));exact absurd (Z4a ho) (by omega)
  ·exact h
 unfold Z11w at h;split at h
 ·rename_i hcl;obtain⟨x,m,h,hgot⟩:=Zew hi he ls h
  have hy:∃ y,(if Zgx (srcs m)=true then K ((mask ls ⟨env,kill m c.heap⟩).heap.take n) x y else False):=by
   have key:∀(os:List (Nat × TypeId × Lift.K)){K:OS os->Prop},Z11v c.heap os K->∃ y,K y:=by
    intro os
    induction os with
    | nil=>intro K h; exact⟨_,h⟩
    | cons o os ih=>
     obtain⟨id,t,e⟩:=o;intro K h;simp only[Z11v]at h;split at h
     ·split at h
      ·split at h
       ·obtain⟨y,hy⟩:=ih h; exact⟨_,hy⟩
       ·exact h.elim
      ·exact h.elim
     ·split at h
      ·obtain⟨y,hy⟩:=ih h; exact⟨_,hy⟩
      ·exact h.elim
     ·exact h.elim
   exact key os h
  obtain⟨y,h⟩:=hy;split at h
  ·rename_i hd;have hL:=Zjr ls (s:=⟨env,kill m c.heap⟩) (Less.kill m (Less.refl hi));obtain⟨hrows,hm⟩:=hgot.rows
   have hk:∀ id,id ∈ srcs m->(mask ls ⟨env,kill m c.heap⟩).heap[id]?=some .dead:=by
    intro id hid;refine Ztt ls ?_;refine Zts m ?_ (.inl hid);simp only[srcs,List.mem_filterMap]at hid;obtain⟨⟨src,o⟩,h1,h2⟩:=hid
    cases h2
    exact Z4a (hm _ h1).1
   refine⟨_,x,y,h,λid o ho=>?_,λb1 b2=>?_⟩
   ·rw[List.getElem?_take]at ho;split at ho
    ·exact hL.rel id o ho
    ·cases ho
   ·have C:=Z1k5 hi hn hL hk hm hd;have I:=Z1u5 hi hn hL hk hm hd b2;have X:=Z1u4 hi hn hL hk hm hd he0 h0
    have hh:∀(i:Nat)(mm:Option Nat × HObj),m[i]?=some mm->(c.cut n ((mask ls ⟨env,kill m c.heap⟩).heap.take n) m).heap[n+i]?=some mm.2/\(c.cut n ((mask ls ⟨env,kill m c.heap⟩).heap.take n) m).blk (n+i)=mm.1.bind c.blk:=by
     intro i mm hmm;refine⟨by rw[Z1on hi hn hL hk hm hd (by omega)]; simp[hmm],?_⟩;obtain⟨src,o⟩:=mm;simp only[RC.cut,if_neg (show ¬ n+i<n by omega),Nat.add_sub_cancel_left,hmm]
     cases src <;> rfl
    have E:Zm (c.cut n ((mask ls ⟨env,kill m c.heap⟩).heap.take n) m) env1 tmps:=by
     refine⟨hE.1,λt e hte=>?_⟩;obtain⟨v,v1,v2⟩:=hE.2 t e hte;exact⟨v,v1,EV.cut C (b1 t e hte) v2⟩
    obtain⟨c',e1,e2,e3,e4,e5⟩:=Z19n ls n x I E (Z7o.has C hh ls 0 x hcl (by simpa using hgot))
    have hheap:(c.cut n ((mask ls ⟨env,kill m c.heap⟩).heap.take n) m).heap=(mask ls ⟨env,kill m c.heap⟩).heap.take n++Zeu ls x:=by
     simp only[RC.cut,hrows]
    rw[hheap]at e4 e5;exact⟨c',e1,e2,X.trans e3,e4,e5⟩
  ·exact h.elim
 ·exact h.elim
section
def runD(wk:Wk)(call:Z2w)(cx:Cx)(ops:Array Oper)(base:Nat)(A W:List (List Nat)):Nat->List Oper->List EV->List HObj->Nat->(List EV->List HObj->Prop)->Prop
 | _,[],env,h,_,k=>k env h
 | n,o :: l,env,h,tgt,k=>match o.guard with
  | none=>(match ilOp wk.inl o with
   | true=>Zgw cx wk.inl call o env h λs=>runD wk call cx ops base A W (n+1) l s.env s.heap (tgt+Z1a cx o) k
   | false=>if chkS cx (okId cx ops base A W n) (stOk cx ops base A W n) o env then(aopN wk.named cx o env h tgt).wp λev us=>runD wk call cx ops base A W (n+1) l (putE env o.dst ev) (applyU h us) (tgt+Z1a cx o) k else False)
  | some (j,want)=>match Z5u ops env j with
   | none=>if gone ops env j then runD wk call cx ops base A W (n+1) l (putE env o.dst .skip) h (tgt+Z1a cx o) k else False
   | some (d,b)=>Br b
    (match want with
     | true=>(match ilOp wk.inl o with
      | true=>Zgw cx wk.inl call o (env.set d (.val (.bool true))) h λs=>runD wk call cx ops base A W (n+1) l s.env s.heap (tgt+Z1a cx o) k
      | false=>if chkS cx (okId cx ops base A W n) (stOk cx ops base A W n) o (env.set d (.val (.bool true)))then(aopN wk.named cx o (env.set d (.val (.bool true))) h tgt).wp λev us=>runD wk call cx ops base A W (n+1) l (putE (env.set d (.val (.bool true))) o.dst ev) (applyU h us) (tgt+Z1a cx o) k else False)
     | false=>runD wk call cx ops base A W (n+1) l (putE (env.set d (.val (.bool true))) o.dst .skip) h (tgt+Z1a cx o) k)
    (match want with
     | true=>runD wk call cx ops base A W (n+1) l (putE (env.set d (.val (.bool false))) o.dst .skip) h (tgt+Z1a cx o) k
     | false=>(match ilOp wk.inl o with
      | true=>Zgw cx wk.inl call o (env.set d (.val (.bool false))) h λs=>runD wk call cx ops base A W (n+1) l s.env s.heap (tgt+Z1a cx o) k
      | false=>if chkS cx (okId cx ops base A W n) (stOk cx ops base A W n) o (env.set d (.val (.bool false)))then(aopN wk.named cx o (env.set d (.val (.bool false))) h tgt).wp λev us=>runD wk call cx ops base A W (n+1) l (putE (env.set d (.val (.bool false))) o.dst ev) (applyU h us) (tgt+Z1a cx o) k else False))
theorem Z1ir {ops:Array Oper}{env:List EV}{j:Nat}{d:Tmp}{b:Bool}(h:Z5u ops env j=some (d,b)):env[d]?=some (.val (.bool b)):=by
 unfold Z5u at h;split at h
 ·split at h
  ·rename_i hb; cases h; exact hb
  ·cases h
 ·cases h
theorem Z1f8 {env:List EV}{d:Nat}{v:EV}(h:env[d]?=some v):env.set d v=env:=by
 apply List.ext_getElem?; intro i;rw[List.getElem?_set];split
 ·rename_i e; subst e; rw[if_pos (Z4a h),h]
 ·rfl
theorem Z11y {wk:Wk}{call:Z2w}{cx:Cx}{ops:Array Oper}{base:Nat}{A W:List (List Nat)}{k:List EV->List HObj->Prop}:∀(l:List Oper)(n:Nat)(tgt:Nat),ops.toList.drop n=l->tgt=tgAt cx ops base n->
  ∀(env:List EV)(h:List HObj),runD wk call cx ops base A W n l env h tgt k=Z6t cx wk.inl call ops base A W (List.range' n l.length) ⟨env,h⟩ λs=>k s.env s.heap
 | [],n,tgt,_,_,env,h=>rfl
 | o :: l,n,tgt,hl,ht,env,h=>by
  have ho:ops[n]?=some o:=by
   have h0:=congrArg (λl=>l[0]?) hl;rw[List.getElem?_drop]at h0;simpa using h0
  have hl':ops.toList.drop (n+1)=l:=by
   have h1:=congrArg List.tail hl;rw[List.tail_drop]at h1;simpa using h1
  have hn:nAt cx ops n=Z1a cx o:=by simp[nAt,ho]
  have next:∀(env:List EV)(h:List HObj),runD wk call cx ops base A W (n+1) l env h (tgt+Z1a cx o) k=Z6t cx wk.inl call ops base A W (List.range' (n+1) l.length) ⟨env,h⟩ λs=>k s.env s.heap:=
   Z11y l (n+1) _ hl' (by rw[Ztr,hn,ht])
  have act:∀ env:List EV,(match ilOp wk.inl o with
    | true=>Zgw cx wk.inl call o env h λs=>runD wk call cx ops base A W (n+1) l s.env s.heap (tgt+Z1a cx o) k
    | false=>if chkS cx (okId cx ops base A W n) (stOk cx ops base A W n) o env then(aopN wk.named cx o env h tgt).wp λev us=>runD wk call cx ops base A W (n+1) l (putE env o.dst ev) (applyU h us) (tgt+Z1a cx o) k else False)=
    (match ilOp wk.inl o with
    | true=>Zgw cx wk.inl call o env h λs=>Z6t cx wk.inl call ops base A W (List.range' (n+1) l.length) s λs=>k s.env s.heap
    | false=>(if chkS cx (okId cx ops base A W n) (stOk cx ops base A W n) o env then aop cx o env h tgt else .fail).wp λev us=>Z6t cx wk.inl call ops base A W (List.range' (n+1) l.length) ⟨putE env o.dst ev,applyU h us⟩ λs=>k s.env s.heap):=by
   intro env
   cases ilOp wk.inl o with
   | true=>
    simp only;congr 1;funext s;exact next s.env s.heap
   | false=>
    simp only;by_cases hc:chkS cx (okId cx ops base A W n) (stOk cx ops base A W n) o env=true
    ·rw[if_pos hc,if_pos hc];refine(propext Z1rt).trans ?_;congr 1;funext ev us;exact next _ _
    ·rw[if_neg hc,if_neg hc]; rfl
  simp only[List.length_cons,List.range'_succ,Z6t,Z6m,ho,<- ht];unfold Z1lt gres;simp only[runD]
  cases hg:o.guard with
  | none=>
   simp only;rw[act env]
   try(cases ilOp wk.inl o <;> rfl)
  | some jw=>
   obtain⟨j,want⟩:=jw;simp only
   cases hgo:Z5u ops env j with
   | none=>
    simp only;by_cases hgn:gone ops env j=true
    ·rw[if_pos hgn,if_pos hgn,if_pos hgn,next]
     cases ilOp wk.inl o <;> rfl
    ·rw[if_neg hgn,if_neg hgn,if_neg hgn]
     cases ilOp wk.inl o <;> rfl
   | some db=>
    obtain⟨d,b⟩:=db;have hd:=Z1ir hgo;simp only
    cases b with
    | true=>
     rw[Z1f8 hd];simp only[Br]
     cases want with
     | true=>
      simp only[if_true];rw[act env]
      try(cases ilOp wk.inl o <;> rfl)
     | false=>
      simp only[Bool.true_eq_false,if_false];rw[next]
      cases ilOp wk.inl o <;> rfl
    | false=>
     rw[Z1f8 hd];simp only[Br]
     cases want with
     | false=>
      simp only[if_true];rw[act env]
      try(cases ilOp wk.inl o <;> rfl)
     | true=>
      simp only[Bool.false_eq_true,if_false];rw[next]
      cases ilOp wk.inl o <;> rfl
def deps(o:Oper):List Nat:=o.after.toList.filterMap λe=>if Region.binds .any e then some e.on else none
def Zi2(ops:Array Oper)(i:Nat):List Nat:=match ops[i]? with
 | some o=>deps o
 | none=>[]
def Zox(ops:List Oper):List (List Nat):=ops.foldl (λacc o=>acc++[(deps o).foldr (λj l=>j :: (acc.getD j []++l)) [] |>.eraseDups]) []
def Z1ws(ops:Array Oper)(A:List (List Nat))(i:Nat):Bool:=
 (A.getD i []).all (λa=>(Zi2 ops i).any λd=>if Nat.beq a d then true else Z5r a (A.getD d []))&&(Zi2 ops i).all λd=>Nat.blt d i
def Z1oo(cx:Cx)(inl:FuncId->Bool)(ops:Array Oper)(A:List (List Nat))(i j:Nat):Bool:=
 if Z5r i (A.getD j [])then true else match ops[i]?,ops[j]? with
  | some oi,some oj=>oi.apart ops oj&&(Z6r cx oi&&Z6r cx oj||(Z5l oi||Z5l oj)||(Z6r cx oi&&isSt oj||isSt oi&&Z6r cx oj))&&!(Z5r j (A.getD i []))&&!(ilOp inl oi)&&!(ilOp inl oj)
  | _,_=>true
def upTo:Nat->(Nat->Bool)->Bool
 | 0,_=>true
 | n+1,p=>if p n then upTo n p else false
def Z1op(cx:Cx)(inl:FuncId->Bool)(ops:Array Oper)(A:List (List Nat)):Bool:=upTo ops.size (Z1ws ops A)&&upTo ops.size λj=>upTo j λi=>Z1oo cx inl ops A i j
theorem Zex:∀ {n:Nat}{p:Nat->Bool},upTo n p=true->∀ i,i<n->p i=true
 | n+1,p,h,i,hi=>by
  simp only[upTo]at h;split at h
  ·rename_i hp;rcases Nat.lt_or_ge i n with h' | h'
   ·exact Zex h i h'
   ·have:i=n:=by omega
    subst this; exact hp
  ·cases h
theorem Zey(x:Nat):∀ l:List Nat,Z5r x l=true<->x ∈ l
 | []=>by simp[Z5r]
 | y :: l=>by
  simp only[Z5r];by_cases h:x=y
  ·subst h; simp
  ·have:¬ (Nat.beq x y=true):=by simpa using h
   rw[if_neg this,Zey x l];simp[h]
theorem Z1rv {o:Oper}{e:Edge}(he:e ∈ o.after)(hb:Region.binds .any e=true):e.on ∈ deps o:=
 List.mem_filterMap.2 ⟨e,by simpa using he,by rw[if_pos hb]⟩
theorem Z1rw {o:Oper}{d:Nat}(h:d ∈ deps o):∃ e ∈ o.after,Region.binds .any e=true/\e.on=d:=by
 obtain⟨e,he,hd⟩:=List.mem_filterMap.1 h;split at hd
 ·rename_i hb; cases hd; exact⟨e,by simpa using he,hb,rfl⟩
 ·cases hd
section
variable {P:Program} {cx:Cx} (hx:CxOk P cx) {inl:FuncId->Bool} {call:Z2w} (hcall:Z3c P cx call)
include hx hcall
theorem Z1oq(ops:Array Oper)(base:Nat)(A W:List (List Nat))(hA:Z1op cx inl ops A=true){k:List EV->List HObj->Prop}{Q:Exit->Act->World->Prop}{c0:RC}{a0:Act}{D:List Nat}(hD:∀ o ∈ ops.toList,∀ t,o.dst=some t->t ∈ D)
  (hq:∀(c':RC)(env':List EV)(a':Act),k env' c'.heap->Ext c0 c'->c'.Inv->Zm c' env' a'.tmps->Kp D a0 a'->Q .normal a' c'.w):
  ∀(N:Nat)(l:List Nat)(listed:Array Bool){c:RC}(hi:c.Inv)(hext:Ext c0 c){env:List EV}{a:Act}(hdf:Kp D a0 a)(hg:GOk cx.glob c)(he:Zm c env a.tmps),
   l.length=N->listed.size=ops.size->(∀ i,i ∈ l<->i<ops.size/\listed.getD i true=false)->l.Pairwise (·<·)->
   (∀ i,i<ops.size->listed.getD i false=true->∀ d ∈ A.getD i [],listed.getD d false=true)->
   (∀ i ∈ l,∀ j,j<nAt cx ops i->c.heap[tgAt cx ops base i+j]?=some .pend)->
   Z6t cx inl call ops base A W l ⟨env,c.heap⟩ (λs=>k s.env s.heap)->wpAny P .any ops Q N listed a c.w:=by
 obtain⟨hA1,hA2⟩:=Bool.and_eq_true_iff.1 hA
 have anc1:∀ i,i<ops.size->∀ d ∈ A.getD i [],∃ d' ∈ Zi2 ops i,d=d'∨d ∈ A.getD d' []:=by
  intro i hi d hd;have h1:=(Bool.and_eq_true_iff.1 (Zex hA1 i hi)).1;have h2:=List.all_eq_true.1 h1 d hd;obtain⟨d',h3,h4⟩:=List.any_eq_true.1 h2;refine⟨d',h3,?_⟩;split at h4
  ·rename_i h5; exact .inl (by simpa using h5)
  ·exact .inr ((Zey _ _).1 h4)
 have anc2:∀ i,i<ops.size->∀ d ∈ Zi2 ops i,d<i:=by
  intro i hi d hd;have h1:=(Bool.and_eq_true_iff.1 (Zex hA1 i hi)).2;simpa using List.all_eq_true.1 h1 d hd
 intro N
 induction N with
 | zero=>
  intro l listed c hi hext env a hdf hg he hlen hsz hl hs hLC hp h;have hl0:l=[]:=List.eq_nil_of_length_eq_zero hlen;subst hl0;refine⟨?_,hq c env a h hext hi he hdf⟩
  cases hr:Region.ready .any ops listed with
  | nil=>rfl
  | cons j js=>
   obtain⟨h1,o,h2,_⟩:=mem_ready.1 (show j ∈ Region.ready .any ops listed by rw[hr]; exact List.mem_cons_self);have:=(hl j).2 ⟨Z1x h2,h1⟩
   cases this
 | succ N ih=>
  intro l listed c hi hext env a hdf hg he hlen hsz hl hs hLC hp h
  have readyL:∀ i,i ∈ Region.ready .any ops listed->i ∈ l/\(∀ d ∈ Zi2 ops i,listed.getD d false=true):=by
   intro i hir;obtain⟨h1,o,h2,h3⟩:=mem_ready.1 hir;refine⟨(hl i).2 ⟨Z1x h2,h1⟩,λd hd=>?_⟩;simp only[Zi2,h2]at hd;obtain⟨e,he,hb,rfl⟩:=Z1rw hd;exact h3 e he hb
  refine⟨λhr=>?_,λi hir=>?_⟩
  ·cases l with
   | nil=>cases hlen
   | cons i0 l=>
    obtain⟨h1,h2⟩:=(hl i0).1 List.mem_cons_self
    have:i0 ∈ Region.ready .any ops listed:=by
     refine mem_ready.2 ⟨h2,ops[i0],by simp[h1],λe he hb=>?_⟩;have hlt:=anc2 i0 h1 e.on (by simp only[Zi2,Array.getElem?_eq_getElem h1]; exact Z1rv he hb);have hlt2:e.on<ops.size:=by omega
     cases hv:listed.getD e.on true with
     | false=>
      have hm:=(hl e.on).2 ⟨hlt2,hv⟩;rcases List.mem_cons.1 hm with hm | hm
      ·omega
      ·have:=(List.pairwise_cons.1 hs).1 _ hm; omega
     | true=>
      have hsz2:e.on<listed.size:=by omega
      simp only[Array.getD_eq_getD_getElem?,Array.getElem?_eq_getElem hsz2,Option.getD_some]at hv ⊢;exact hv
    rw[hr]at this; cases this
  ·obtain⟨hil,hdep⟩:=readyL i hir;obtain⟨hisz,hiun⟩:=(hl i).1 hil;have ho:ops[i]?=some ops[i]:=Array.getElem?_eq_getElem hisz
   have hanc:∀ d ∈ A.getD i [],listed.getD d false=true:=by
    intro d hd;obtain⟨d',h1,h2⟩:=anc1 i hisz d hd;have h3:=hdep d' h1;rcases h2 with rfl | h2
    ·exact h3
    ·exact hLC d' (by have:=anc2 i hisz d' h1; omega) h3 d h2
   obtain⟨pre,post,rfl⟩:=List.append_of_mem hil
   have hb:=Z1ol (cx:=cx) (inl:=inl) (call:=call) (base:=base) ho post pre ⟨env,c.heap⟩ (λr hr o hor=>by
    have hri:r<i:=by
     rw[List.pairwise_append]at hs;exact hs.2.2 r hr i List.mem_cons_self
    have hp2:=Zex (Zex hA2 i hisz) r hri;unfold Z1oo at hp2;have hrl:=(hl r).1 (List.mem_append_left _ hr);split at hp2
    ·rename_i he;have:=hanc r ((Zey _ _).1 he);rw[getD_both hrl.2]at this; cases this
    ·rename_i he;rw[hor,ho]at hp2;simp only[Bool.and_eq_true,Bool.or_eq_true,Bool.not_eq_true']at hp2;obtain⟨⟨⟨⟨p1,p2⟩,p4⟩,p5⟩,p6⟩:=hp2;exact⟨by omega,p1,(by rcases p2 with(q | q) | q | q <;> first | exact .inl q | exact .inr (.inl q) | exact .inr (.inr (.inl q)) | exact .inr (.inr (.inr q))),λhm=>he ((Zey _ _).2 hm),λhm=>(by rw[(Zey _ _).2 hm]at p4; cases p4),p5,p6⟩) h
   have hn:nAt cx ops i=Z1a cx ops[i]:=by simp[nAt,ho]
   have hnotin:i ∉ pre/\i ∉ post:=by
    rw[List.pairwise_append]at hs;refine⟨λhm=>?_,λhm=>?_⟩
    ·have:=hs.2.2 i hm i List.mem_cons_self; omega
    ·have:=(List.pairwise_cons.1 hs.2.1).1 i hm; omega
   have hl2:∀ j,j ∈ pre++post<->j<ops.size/\(listed.setIfInBounds i true).getD j true=false:=by
    intro j;by_cases e:i=j
    ·subst e;refine⟨λhm=>?_,λhm=>?_⟩
     ·rcases List.mem_append.1 hm with hm | hm
      ·exact absurd hm hnotin.1
      ·exact absurd hm hnotin.2
     ·have:i<listed.size:=by omega
      simp[Array.getD_eq_getD_getElem?,Array.getElem?_setIfInBounds,this]at hm
    ·rw[getD_set_ne true e,<- hl j];simp only[List.mem_append,List.mem_cons];constructor
     ·rintro(h | h)
      ·exact .inl h
      ·exact .inr (.inr h)
     ·rintro(h | h | h)
      ·exact .inl h
      ·exact absurd h.symm e
      ·exact .inr h
   have hs2:(pre++post).Pairwise (·<·):=by
    rw[List.pairwise_append]at hs ⊢;exact⟨hs.1,(List.pairwise_cons.1 hs.2.1).2,λa ha b hb=>hs.2.2 a ha b (List.mem_cons_of_mem _ hb)⟩
   have hLC2:∀ j,j<ops.size->(listed.setIfInBounds i true).getD j false=true->∀ d ∈ A.getD j [],(listed.setIfInBounds i true).getD d false=true:=by
    intro j hj hjl d hd;refine getD_set_true ?_;by_cases e:i=j
    ·subst e; exact hanc d hd
    ·rw[getD_set_ne false e]at hjl; exact hLC j hj hjl d hd
   have hlen2:(pre++post).length=N:=by simp at hlen ⊢; omega
   unfold Z6m at hb;simp only[ho]at hb;simp only[wpOp,ho]
   have keep:∀(us:List (Nat × HObj))(c':RC),c'.heap=applyU c.heap us->Zb c.heap (tgAt cx ops base i) (Z1a cx ops[i]) us->∀ r ∈ pre++post,∀ j,j<nAt cx ops r->c'.heap[tgAt cx ops base r+j]?=some .pend:=by
    intro us c' hh ht r hr j hj
    have hr2:r ∈ pre++i :: post:=by
     rcases List.mem_append.1 hr with h | h
     ·exact List.mem_append_left _ h
     ·exact List.mem_append_right _ (List.mem_cons_of_mem _ h)
    have hne:r≠i:=by
     rintro rfl;rcases List.mem_append.1 hr with h | h
     ·exact hnotin.1 h
     ·exact hnotin.2 h
    have hpd:=hp r hr2 j hj;rw[hh,Z78 _ _ _ λu hu e=>?_]
    ·exact hpd
    ·rcases ht u hu with h | ⟨o,h1,h2⟩
     ·rcases Nat.lt_or_ge r i with hlt | hge
      ·have:=Z6s cx ops base hlt; omega
      ·have:=Z6s cx ops base (show i<r by omega); omega
     ·rw[e,hpd]at h1; cases h1; exact h2 rfl
   have run:(aop cx ops[i] env c.heap (tgAt cx ops base i)).wp (λev us=>Z6t cx inl call ops base A W (pre++post) ⟨putE env ops[i].dst ev,applyU c.heap us⟩ λs=>k s.env s.heap)->
     (ops[i]).wp P a c.w (wpAny P .any ops Q N (listed.setIfInBounds i true)) Q:=by
    intro hw;refine Z19h hx hi hg he ops[i] (tgAt cx ops base i) (λj hj=>hp i hil j (by rw[hn]; exact hj)) (Res.wp_all (Z19g cx ops[i] env c.heap _) hw) _ Q λv w' hd=>?_;obtain⟨ev,us,c',⟨hk,ht⟩,rfl,hh,hext',hinv,hrel⟩:=hd;rw[<- hh]at hk;exact ih (pre++post) _ hinv (hext.trans hext') (a:=a.put ops[i].dst v) (Kp.trans (Kp.put (hD ops[i] (by simp))) hdf) (GOk.mono hg hext') (Zm.put (Zm.mono he hext') ops[i].dst hrel) hlen2 (by simp[hsz]) hl2 hs2 hLC2 (keep us c' hh ht) hk
   have keepP:∀ c':RC,Z7g c.heap c'.heap=true->∀ r ∈ pre++post,∀ j,j<nAt cx ops r->c'.heap[tgAt cx ops base r+j]?=some .pend:=by
    intro c' hk r hr j hj
    have hr2:r ∈ pre++i :: post:=by
     rcases List.mem_append.1 hr with h | h
     ·exact List.mem_append_left _ h
     ·exact List.mem_append_right _ (List.mem_cons_of_mem _ h)
    exact Z4v hk _ (hp r hr2 j hj)
   have skip:Z6t cx inl call ops base A W (pre++post) ⟨putE env ops[i].dst .skip,c.heap⟩ (λs=>k s.env s.heap)->wpAny P .any ops Q N (listed.setIfInBounds i true) (a.put ops[i].dst undef) c.w:=by
    intro hw;exact ih (pre++post) _ hi hext (a:=a.put ops[i].dst undef) (Kp.trans (Kp.put (hD ops[i] (by simp))) hdf) hg (Zm.put he ops[i].dst (ev:=.skip) rfl) hlen2 (by simp[hsz]) hl2 hs2 hLC2 (keep [] c rfl Zb.nil) hw
   have inr:Zgw cx inl call ops[i] env c.heap (λs'=>Z6t cx inl call ops base A W (pre++post) s' λs=>k s.env s.heap)->(ops[i]).wp P a c.w (wpAny P .any ops Q N (listed.setIfInBounds i true)) Q:=by
    intro hw;unfold Zgw at hw;split at hw
    ·rename_i fa hfa;refine Z11p hcall hi hg he hfa hw _ Q λv w' hd=>?_;obtain⟨ev,c',hk,rfl,hext',hinv,hrel⟩:=hd;split at hk
     ·rename_i hpk;exact ih (pre++post) _ hinv (hext.trans hext') (a:=a.put ops[i].dst v) (Kp.trans (Kp.put (hD ops[i] (by simp))) hdf) (GOk.mono hg hext') (Zm.put (Zm.mono he hext') ops[i].dst hrel) hlen2 (by simp[hsz]) hl2 hs2 hLC2 (keepP c' hpk) hk
     ·exact hk.elim
    ·exact hw.elim
   cases hil:ilOp inl ops[i]with
   | true=>
    rw[hil]at hb;simp only at hb;unfold Z1lt at hb
    cases hgd:(ops[i]).guard with
    | none=>
     rw[hgd]at hb;have hw:Region.wanted ops[i] (yielded ops a.tmps)=true:=by simp[Region.wanted,hgd]
     rw[if_pos hw];exact .inl (inr hb)
    | some jw=>
     obtain⟨j,want⟩:=jw;rw[hgd]at hb;simp only at hb;split at hb
     ·split at hb
      ·rename_i hgn;have hw:Region.wanted ops[i] (yielded ops a.tmps)=false:=by simp[Region.wanted,hgd,Zti he hgn]
       rw[if_neg (by rw[hw]; simp)];exact skip hb
      ·exact hb.elim
     ·rename_i d b hgo;obtain⟨hd,hy⟩:=Zi1 he hgo;have hw:Region.wanted ops[i] (yielded ops a.tmps)=(b==want):=by simp[Region.wanted,hgd,hy]
      split at hb
      ·rename_i e;rw[if_pos (by rw[hw]; simp[e])];exact .inl (inr hb)
      ·rename_i e;rw[if_neg (by rw[hw]; simpa using e)];exact skip hb
   | false=>
   rw[hil]at hb;simp only at hb;unfold gres at hb
   cases hgd:(ops[i]).guard with
   | none=>
    rw[hgd]at hb;have hw:Region.wanted ops[i] (yielded ops a.tmps)=true:=by simp[Region.wanted,hgd]
    rw[if_pos hw];simp only at hb;split at hb
    ·exact .inl (run hb)
    ·exact hb.elim
   | some jw=>
    obtain⟨j,want⟩:=jw;rw[hgd]at hb;simp only at hb;split at hb
    ·split at hb
     ·rename_i hgn;have hw:Region.wanted ops[i] (yielded ops a.tmps)=false:=by simp[Region.wanted,hgd,Zti he hgn]
      rw[if_neg (by rw[hw]; simp)];exact skip hb
     ·exact hb.elim
    ·rename_i d b hgo;obtain⟨hd,hy⟩:=Zi1 he hgo;have hw:Region.wanted ops[i] (yielded ops a.tmps)=(b==want):=by simp[Region.wanted,hgd,hy]
     split at hb
     ·rename_i e;rw[if_pos (by rw[hw]; simp[e])];split at hb
      ·exact .inl (run hb)
      ·exact hb.elim
     ·rename_i e;rw[if_neg (by rw[hw]; simpa using e)];exact skip hb
end
end
end Go.Lift
