/- A part of the proof of StepRestsCard: an own lifter of code into plain terms, and plain laws. -/
import Derived.Test.YtkfafhbmdccmgaaGreatDoorPtD
set_option linter.unusedVariables false
set_option linter.unusedSimpArgs false
set_option linter.unusedSectionVars false
open Go.IntKind (i64 u64 u32 u8)
open Go.FloatKind (f64 f32)
namespace Go.Lift
section
open Ieee
def ZN(x:Nat):Prop:=isN x=true∨Z1 x=0
theorem ZN.mul {x y:Nat}(h:ZN y):ZN (mulQ x y):=by
 by_cases q:isN (mulQ x y)=true
 ·exact .inl q
 ·have q:isN (mulQ x y)=false:=by simpa using q
  obtain⟨_,ny,_,z⟩:=Z1gw q;rcases h with h | h
  ·rw[ny]at h; cases h
  ·exact .inr (z (.inr h))
theorem ZN.div {x y:Nat}(h:ZN x):ZN (Z1u x y):=by
 by_cases q:isN x=true∨isN y=true
 ·rw[Z19u q]; exact .inl QN_N
 ·have nx:isN x=false:=by cases e:isN x <;> simp[e]at q ⊢
  have ny:isN y=false:=by cases e:isN y <;> simp[e]at q ⊢
  have hx:Z1 x=0:=by rcases h with h | h; (rw[nx]at h; cases h); exact h
  have hxf:Z1 x<infR:=by rw[hx]; decide
  unfold Z1u;show ZN ((((double.read x).quotient (double.fractionBits+2) (double.read y)).map double.write).getD QN);rw[Z17 hxf,hx,show Zg 0=0 by decide];rcases Nat.lt_or_ge (Z1 y) infR with g | g
  ·rw[Z17 g];simp only[Datum.quotient];by_cases z:Zg (Z1 y)=0
   ·rw[if_pos z,if_pos trivial]; exact .inl QN_N
   ·rw[if_neg z];show ZN (double.write (.number _ _ _));rw[Z5c,Nat.zero_shiftLeft,Nat.zero_div,Nat.zero_mod];obtain⟨_,_,k3,_⟩:=Z34 (s:=sgn x ^^ sgn y) (Z7p (2*0+((0:Nat) != 0).toNat) (Z4 0 - Z4 (Z1 y) - ((double.fractionBits+2+(Zg (Z1 y)).log2 - (0:Nat).log2:Nat):Int) - 1));refine .inr (k3.trans ?_);exact Z17i _
  ·have e:Z1 y=infR:=by
    rcases Z3b y with⟨a,_⟩ | ⟨a,_⟩ | ⟨_,a⟩ <;> first | omega | (rw[ny]at a; cases a)
   rw[Z37 e];show ZN (double.write (.number _ _ _));rw[Z5c];obtain⟨_,_,k3,_⟩:=Z34 (s:=sgn x ^^ sgn y) (Z7p 0 0);exact .inr (k3.trans (Z17i _))
theorem ZN.sub {x:Nat}(hw:W64 x)(h:ZN x):ZN (subQ 0 x):=by
 by_cases q:isN x=true
 ·rw[Zzp (.inr q)]; exact .inl QN_N
 ·have nx:isN x=false:=by simpa using q
  have hx:Z1 x=0:=by rcases h with h | h; (rw[nx]at h; cases h); exact h
  exact .inr (Z1fp Z0 ⟨hw,nx,hx⟩).2.2
theorem Z1vn(x:Nat):ZN (subQ x x):=by
 by_cases q:isN x=true
 ·rw[Zzp (.inr q)]; exact .inl QN_N
 ·have nx:isN x=false:=by simpa using q
  rcases Nat.lt_or_ge (Z1 x) infR with g | g
  ·exact .inr (sub_self g).2.2
  ·have e:Z1 x=infR:=by
    rcases Z3b x with⟨a,_⟩ | ⟨a,_⟩ | ⟨_,a⟩ <;> first | omega | (rw[nx]at a; cases a)
   left;unfold subQ;show isN ((((double.read x).sum (double.read x).opposite).map double.write).getD QN)=true;rw[Z37 e]
   cases sgn x <;> decide
theorem Z1wl {x:Nat}(h:ZN x):cutQ x=0:=by
 unfold cutQ;by_cases q:isN x=true
 ·have g1:gtS x Z43=false:=by
   cases e:gtS x Z43 with
   | false=>rfl
   | true=>
    unfold gtS at e;rw[Z38 (.inl q)]at e; exact absurd e (by decide)
  have g2:ltS x Zk6=false:=by
   cases e:ltS x Zk6 with
   | false=>rfl
   | true=>
    unfold ltS at e;rw[Z38 (.inl q)]at e; exact absurd e (by decide)
  rw[g1,g2,q]; rfl
 ·have nx:isN x=false:=by simpa using q
  have hx:Z1 x=0:=by rcases h with h | h; (rw[nx]at h; cases h); exact h
  have k:Z10 x=0:=by unfold Z10; rw[hx]; split <;> rfl
  have g1:gtS x Z43=false:=by
   unfold gtS;rw[Z2u nx (by decide),Zx5,k]; decide
  have g2:ltS x Zk6=false:=by
   unfold ltS;rw[Z2u nx (by decide),Zx4,k]; decide
  rw[g1,g2,nx,Z12e nx hx]; rfl
theorem Z1n1(g d e gap:Nat){l r:Zbu}(h:Zek l r=false∨l.2.2.1=r.2.2.1):Zbw g d e gap 0 l r=0:=by
 unfold Zbw;by_cases q:Zek l r=true
 ·rw[q,if_neg (by decide)];split
  ·rfl
  ·rcases h with h | h
   ·rw[q]at h; cases h
   ·refine Z1wl (ZN.div (ZN.sub (Z5v _ _) (ZN.div (ZN.mul ?_))));rw[h]; exact Z1vn _
 ·have q:Zek l r=false:=by simpa using q
  rw[q]; rfl
theorem Zps {α:Type}{l:List α}{d:α}{N:Nat}(hl:l.length=N)(h:∀ k,k<N->l.getD k d=d):l=List.replicate N d:=by
 apply List.ext_getElem (by rw[hl,List.length_replicate]);intro k h1 h2;have:=h k (by omega);rw[List.getD_eq_getElem?_getD,List.getElem?_eq_getElem h1]at this;rw[List.getElem_replicate]; exact this
theorem Z1n2 {n:Int}{p:Z16}{s:SeaT}(hn:p.1=n)(hp:Z1g p=0)(C:Can n s)(hr:Z8u (some (netG n)) s=true):
  Z1h (some (netG n)) p s=s.2.2.2.1/\Z1t (some (netG n)) p s=Z74 (Zi (some (netG n)))/\Z5p (some (netG n)) p s=Z74 (Zi (some (netG n))):=by
 have S:=Zxc hn hp C;have nE:(Zi (some (netG n))).toNat=(netE n).1.length:=by show((((netE n).1.length:Nat):Int)).toNat=_; omega
 have sl:s.2.2.2.1.length=(netE n).1.length:=by have:=C.spd; have:=Z7b (n:=n); omega
 unfold Z8u at hr;rw[List.all_eq_true,nE]at hr
 have rest:∀ k:Nat,k<(netE n).1.length->s.2.2.2.1.getD k 0=0/\(Z1h (some (netG n)) p s).getD k 0=0:=λk hk=>by
  have h:=hr k (List.mem_range.2 hk);unfold Z7t at h;rw[Bool.and_eq_true,decide_eq_true_eq,Bool.or_eq_true,decide_eq_true_eq,Int.toNat_natCast]at h;refine⟨h.1,?_⟩;unfold Z1h;rw[Z1as C,List.getD_eq_getElem?_getD,List.getElem?_map,List.getElem?_range hk];show Z6a (some (netG n)) p s (k:Int)=0;unfold Z6a;split
  ·rename_i b;rw[Int.toNat_natCast,h.1];apply Z1n1;rcases h.2 with q | q
   ·left;unfold Zc2 at q;rw[b]at q;simpa using q
   ·exact .inr q
  ·rfl
 have z0:gtS 0 0=false:=by decide
 have z1:ltS 0 0=false:=by decide
 have w0:∀ k:Nat,k<(netE n).1.length->(Z1t (some (netG n)) p s).getD k 0=0:=λk hk=>by
  obtain⟨a,b⟩:=Z1qs hp S C hk;rw[(rest k hk).2,z0]at a;rw[(rest k hk).2,z1]at b;rcases Int.lt_trichotomy ((Z1t (some (netG n)) p s).getD k 0) 0 with q | q | q
  ·exact absurd (b q) (by decide)
  ·exact q
  ·exact absurd (a q) (by decide)
 have A:=Z7s n
 have t0:∀ k:Nat,k<(netE n).1.length->(Z5p (some (netG n)) p s).getD k 0=0:=λk hk=>by
  obtain⟨a,b,_⟩:=Z1ag A S.gone2.laid S.gone2.nn hk;rw[w0 k hk]at a b;have:=a (Int.le_refl 0);have:=b (Int.le_refl 0);omega
 refine⟨?_,?_,?_⟩
 ·rw[Zps S.spd.1 λk hk=>(rest k hk).2,Zps sl λk hk=>(rest k hk).1]
 ·rw[Zps (Zpo A S.gone) w0]; unfold Z74; rw[nE]
 ·rw[Zps (Zpo A S.gone2) t0]; unfold Z74; rw[nE]
theorem Zki {n:Int}{ar:Ar}(c o:Int)(N:Nat):Z55 ar (List.replicate N 0) c o=0:=by
 unfold Z55
 have:(List.replicate N (0:Int)).getD (ar c o).1.toNat 0=0:=by
  rw[List.getD_eq_getElem?_getD];rcases Nat.lt_or_ge (ar c o).1.toNat N with q | q
  ·rw[List.getElem?_replicate,if_pos q]; rfl
  ·rw[List.getElem?_replicate,if_neg (by omega)]; rfl
 rw[this,Int.zero_mul]
theorem Z1gz {n:Int}{w:List Int}(hw:(w.length:Int)=Z2 n):(List.range w.length).map (hasV (some (netG n)) w (Z74 (Zi (some (netG n)))))=w:=by
 have nE:(Zi (some (netG n))).toNat=(netE n).1.length:=by show((((netE n).1.length:Nat):Int)).toNat=_; omega
 have e:(List.range w.length).map (hasV (some (netG n)) w (Z74 (Zi (some (netG n)))))=(List.range w.length).map λc=>w.getD c 0:=by
  apply List.map_congr_left;intro c hc;rw[Z1ar (Z3r (by have:=List.mem_range.1 hc; omega)) (by unfold Z74; rw[List.length_replicate,nE]) (Z7s n)];unfold Z74;rw[Zki (n:=n),Zki (n:=n),Zki (n:=n),Zki (n:=n)];omega
 rw[e,Z13z]
theorem Z1qt {n:Int}{p:Z16}{s:SeaT}(hr:p.2.2.2.2.2.2=[])(h:(Z6b (some (netG n)) p s).2.2=0):Z6b (some (netG n)) p s=(Z70 (some (netG n)) p s,s.2.2.2.2.1,0):=by
 unfold Z6b at *;rw[hr]at h ⊢;unfold Z6p at *;split at h
 ·exact absurd h (show ¬ (1:Int)=0 by decide)
 ·rename_i q;rw[if_neg q]; rfl
theorem Z142 {n:Int}{p:Z16}{s:SeaT}(hn:p.1=n)(hp:Z1g p=0)(hr:p.2.2.2.2.2.2=[])(hv:p.2.2.2.2.2.1=false)(C:Can n s)(h:Z8u (some (netG n)) s=true):Zfp (some (netG n)) p s=true:=by
 have S:=Zxc hn hp C;obtain⟨e1,e2,e3⟩:=Z1n2 hn hp C h;have m1:=(Zkh S.gone C.wat (λc hc=>S.gone.most c hc) (by have:=S.wsum.2; have:=C.sky.1; omega)).1;have m2:=(Zkh S.gone2 C.tra (λc hc=>S.gone2.most c hc) S.tsum.2).1;rw[e2,Z1gz C.wat]at m1;rw[e3,Z1gz C.tra]at m2;have f1:Z70 (some (netG n)) p s=s.2.1:=by unfold Z70; rw[e2,m1]
 have f2:Zbz (some (netG n)) p s=s.2.2.1:=by unfold Zbz; rw[e3,m2]
 have f3:=Z1qt hr S.fall.ok;rw[f1]at f3
 have t:((Z3f (some (netG n)) p s).1,(Z3f (some (netG n)) p s).2.1,(Z3f (some (netG n)) p s).2.2.1,(Z3f (some (netG n)) p s).2.2.2.1,(Z3f (some (netG n)) p s).2.2.2.2.1,s.2.2.2.2.2)=s:=by
  unfold Z3f;rw[hv,if_neg (by decide)];unfold Zc0;rw[f3,f2,e1]
 unfold Zfp;rw[t,e2,e3];simp
end
section
open Ieee
theorem u74:(0+1074:Int).toNat=U74:=rfl
theorem Z5y {T:Nat}(h:T<9007199254740992):valR (rnd T 0)=T*2 ^ U74:=by
 rw[Z17b h (by decide) (by decide),u74]
theorem Z1n3:0<2 ^ U74:=Nat.two_pow_pos _
theorem Z1td {D n Q:Nat}(hn:0<n)(h:D<=n*Q):2*(D / n)+(D % n != 0).toNat<=2*Q:=by
 have h1:=Nat.div_add_mod D n;have h2:=Nat.mod_lt D hn;rcases Nat.lt_or_ge (D / n) Q with g | g
 ·have:(D % n != 0).toNat<=1:=by cases(D % n != 0) <;> decide
  omega
 ·have h3:=Nat.mul_le_mul_left n g;have h4:D % n=0:=by omega
  have h5:D / n<=Q:=Nat.div_le_of_le_mul h;rw[h4];show 2*(D / n)+0<=_;omega
theorem Z1vo {x y d:Nat}(hxf:Z1 x<infR)(hf:Z1 y<infR)(h0:Z1 y≠0)(hd:d<9007199254740992)(hv:valR (Z1 x)<=d*valR (Z1 y)):
  isN (Z1u x y)=false/\Z1 (Z1u x y)<=rnd d 0/\sgn (Z1u x y)=(sgn x ^^ sgn y)/\(valR (Z1 x)=d*valR (Z1 y)->Z1 (Z1u x y)=rnd d 0):=by
 unfold valR at hv ⊢;have i1:=Z3m (Z1 x);have j1:=Z3m (Z1 y)
 have hn:Zg (Z1 y)≠0:=by
  intro e;have:=Z8m hf;rw[e,Z4w]at this;exact h0 this.symm
 have hrx:=Z17 hxf;have hry:=Z17 hf;generalize Zg (Z1 x)=m at *;generalize Z4 (Z1 x)=i at *;generalize Zg (Z1 y)=n at *;generalize Z4 (Z1 y)=j at *;generalize hmore:54+n.log2 - m.log2=more
 have hq:(double.read x).quotient (double.fractionBits+2) (double.read y)=some (.number (sgn x ^^ sgn y) (2*(m*2 ^ more / n)+(m*2 ^ more % n != 0).toNat) (i - j - (more:Int) - 1)):=by
  rw[hrx,hry];simp only[Datum.quotient];rw[if_neg hn];have e1:double.fractionBits+2+n.log2 - m.log2=more:=hmore;rw[e1,Nat.shiftLeft_eq]
 have e:Z1u x y=double.word (sgn x ^^ sgn y) (rnd (2*(m*2 ^ more / n)+(m*2 ^ more % n != 0).toNat) (i - j - (more:Int) - 1)):=by
  unfold Z1u;show(((double.read x).quotient (double.fractionBits+2) (double.read y)).map double.write).getD QN=_;rw[hq];show double.write (.number _ _ _)=_;rw[Z5c]
 obtain⟨g1,g2,g3,g4⟩:=Z34 (s:=sgn x ^^ sgn y) (Z7p (2*(m*2 ^ more / n)+(m*2 ^ more % n != 0).toNat) (i - j - (more:Int) - 1));rw[e,g3];have pi:=Nat.two_pow_pos (i+1074).toNat;have pj:=Nat.two_pow_pos (j+1074).toNat;by_cases hm:m=0
 ·subst hm;rw[Nat.zero_mul,Nat.zero_div,Nat.zero_mod]at g1 g4 ⊢;refine⟨g1,?_,g4,λq=>?_⟩
  ·show rnd 0 _<=_;rw[Z4w]; exact Nat.zero_le _
  ·rw[Nat.zero_mul]at q
   have:d=0:=by
    rcases Nat.mul_eq_zero.1 q.symm with q | q
    ·exact q
    ·rcases Nat.mul_eq_zero.1 q with q | q
     ·exact absurd q hn
     ·omega
   rw[this];show rnd 0 _=_;rw[Z4w,Z4w]
 have lm2:=(Nat.le_log2 hm (k:=m.log2)).1 (Nat.le_refl _);have ln:=(Nat.log2_lt hn (k:=n.log2+1)).1 (Nat.lt_succ_self _);have d53:d<2 ^ 53:=hd
 have he:i<=(more:Int)+j:=by
  rcases Int.lt_or_le ((more:Int)+j) i with g | g
  ·exfalso;have k1:2 ^ (m.log2+(i+1074).toNat)<=m*2 ^ (i+1074).toNat:=by rw[Nat.pow_add]; exact Nat.mul_le_mul_right _ lm2
   have k2:d*(n*2 ^ (j+1074).toNat)<2 ^ (53+(n.log2+1)+(j+1074).toNat):=by
    rw[<- Nat.mul_assoc,Nat.pow_add,Nat.pow_add 2 53];refine Nat.mul_lt_mul_of_pos_right ?_ pj;exact Nat.lt_of_le_of_lt (Nat.mul_le_mul_right _ (Nat.le_of_lt d53)) (Nat.mul_lt_mul_of_pos_left ln (Nat.two_pow_pos 53))
   have k3:=Nat.lt_of_le_of_lt (Nat.le_trans k1 hv) k2;have k4:=(Nat.pow_lt_pow_iff_right (a:=2) (by decide)).1 k3;omega
  ·exact g
 have k1:m*2 ^ more*2 ^ (i+1074).toNat=m*2 ^ (i+1074).toNat*2 ^ more:=Nat.mul_right_comm _ _ _
 have k2:n*(d*2 ^ ((more:Int)+j - i).toNat)*2 ^ (i+1074).toNat=d*(n*2 ^ (j+1074).toNat)*2 ^ more:=by
  have:d*(n*2 ^ (j+1074).toNat)*2 ^ more=n*d*(2 ^ (j+1074).toNat*2 ^ more):=by rw[<- Nat.mul_assoc,<- Nat.mul_assoc,Nat.mul_comm d n]
  rw[this,<- Nat.mul_assoc,Nat.mul_assoc (n*d),<- Nat.pow_add,<- Nat.pow_add]; congr 2; omega
 have hD:m*2 ^ more<=n*(d*2 ^ ((more:Int)+j - i).toNat):=by
  refine Nat.le_of_mul_le_mul_right ?_ pi;rw[k1,k2];exact Nat.mul_le_mul_right _ hv
 have hc:=Z1td (Nat.pos_of_ne_zero hn) hD
 have s2:rnd (2*(d*2 ^ ((more:Int)+j - i).toNat)) (i - j - (more:Int) - 1)=rnd d 0:=by
  have s2:=Z36 d 0 (((more:Int)+j - i).toNat+1);rw[show(0:Int) - ((((more:Int)+j - i).toNat+1:Nat):Int)=i - j - (more:Int) - 1 by omega,Nat.pow_succ,<- Nat.mul_assoc,Nat.mul_comm _ 2]at s2;exact s2
 refine⟨g1,?_,g4,λq=>?_⟩
 ·rw[<- s2]; exact Z30 _ hc
 ·have hE:m*2 ^ more=n*(d*2 ^ ((more:Int)+j - i).toNat):=by
   refine Nat.eq_of_mul_eq_mul_right pi ?_;rw[k1,k2,q]
  rw[hE,Nat.mul_div_cancel_left _ (Nat.pos_of_ne_zero hn),Nat.mul_mod_right];exact s2
theorem Z1wm {a b:Nat}(ha:a<9007199254740992)(hb:b<9007199254740992):rnd a 0<=rnd b 0<->a<=b:=by
 constructor
 ·intro h;have:=Z7w.2 h;rw[Z5y ha,Z5y hb]at this;exact Nat.le_of_mul_le_mul_right this Z1n3
 ·exact λh=>Z30 _ h
theorem Zml {x:Nat}{n:Int}(h:Z1o x n)(hs:Sm n):Z10 x=if n<0 then -(rnd n.natAbs 0:Int)else(rnd n.natAbs 0:Int):=by
 unfold Z10;rw[h.2.1];by_cases z:n=0
 ·subst z;rw[show rnd (0:Int).natAbs 0=0 from Z4w 0];split <;> rfl
 ·rw[h.2.2 z];by_cases q:n<0
  ·rw[if_pos (decide_eq_true q),if_pos q]
  ·rw[if_neg (by rw[decide_eq_false q]; decide),if_neg q]
theorem Zmm {x:Nat}{n:Int}(h:Z1o x n)(hs:Sm n)(h0:0<=n):Z10 x=(rnd n.toNat 0:Int):=by
 rw[Zml h hs,if_neg (by omega),show n.natAbs=n.toNat by omega]
theorem Z1wn {x y:Nat}{k b:Int}(hx:Z1o x k)(hy:Z1o y b)(hk:Sm k)(hb:Sm b)(b0:0<=b):gtS x y=decide (b<k):=by
 unfold gtS;rw[Z2u (hx.nn hk) (hy.nn hb),Zx5,Zmm hy hb b0];have s1:k.toNat<9007199254740992:=by unfold Sm at hk; omega
 have s2:b.toNat<9007199254740992:=by unfold Sm at hb; omega
 by_cases q:k<0
 ·rw[Zml hx hk,if_pos q,decide_eq_false (by omega),decide_eq_false (by omega)]
 ·rw[Zmm hx hk (by omega)];have:=Z1wm s1 s2;by_cases r:b<k
  ·rw[decide_eq_true r,decide_eq_true];have:¬ rnd k.toNat 0<=rnd b.toNat 0:=λz=>by have:=this.1 z; omega
   omega
  ·rw[decide_eq_false r,decide_eq_false];have:=this.2 (by omega); omega
theorem Z1qu {x y:Nat}{k b:Int}(hx:isN x=false)(hk:Z10 x<=(rnd k.toNat 0:Int))(hy:Z1o y b)(hb:Sm b)(k0:0<=k)(hkb:k<=b):fcmp .leq (double.order x y)=true:=by
 rw[Z2u hx (hy.nn hb),Z17d,Zmm hy hb (by omega)];have:=Z30 (m:=k.toNat) (m':=b.toNat) 0 (by omega);exact decide_eq_true (by omega)
theorem Z1qv(k d:Nat):cutE (k*2 ^ d) d=k:=by
 have:=Zbk k 0 d;rw[Nat.zero_add,Z5b]at this;exact this
theorem Z1n4 {R k:Nat}(hR:R<Z1d)(h:valR R=k*2 ^ U74):Z4l R=k:=by
 rw[Z101 hR];have p1:=Z3m R;split
 ·rename_i q;have e:=Zu4 (r:=R) U74 rfl q;rw[e]at h;rw[Nat.eq_of_mul_eq_mul_right Z1n3 h]
 ·rename_i q
  have e:Zg R=k*2 ^ (-Z4 R).toNat:=by
   have hu:∃ u:Nat,u=U74/\u=1074:=⟨_,rfl,rfl⟩;obtain⟨u,hu1,hu2⟩:=hu;unfold valR at h;rw[<- hu1,show u=(-Z4 R).toNat+(Z4 R+1074).toNat by omega,Nat.pow_add,<- Nat.mul_assoc]at h;exact Nat.eq_of_mul_eq_mul_right (Nat.two_pow_pos _) h
  rw[e,Z1qv]
theorem Z1n5 {R:Nat}(hR:R<Z1d)(h:4503599627370496*2 ^ U74<=valR R):4503599627370496<=Z4l R:=by
 rw[Z101 hR];have r1:rnd 4503599627370496 0<=R:=Z7w.1 (by rw[Z5y (by decide)]; exact h);have e52:rnd 4503599627370496 0=4841369599423283200:=by decide +kernel
 rw[e52]at r1;have q:0<=Z4 R:=by unfold Z4 bin; rw[if_neg (by omega)]; omega
 rw[if_pos q];have e:=Zu4 (r:=R) U74 rfl q;rw[e]at h;have:=Nat.le_of_mul_le_mul_right h Z1n3;omega
theorem Z1h0 {x:Nat}{d:Int}(h:Z1o x d)(h1:1<=d):sgn x=false/\Z1 x=rnd d.toNat 0:=by
 refine⟨?_,?_⟩
 ·rw[h.2.2 (by omega)]; exact decide_eq_false (by omega)
 ·rw[h.2.1,show d.natAbs=d.toNat by omega]
theorem Z1qw {x:Nat}{d a:Int}(hx:Z1o x d)(hd:Sm d)(d1:1<=d)(a1:1<=a)(aI:I64 a):
  (Z2f (mulQ x (ofI a)) 4503599627370496=d*a/\d*a<4503599627370496/\a<4503599627370496)∨
  (Z2f (mulQ x (ofI a)) 4503599627370496=4503599627370496/\4503599627370496*2 ^ U74<=d.toNat*valR (Z1 (ofI a))):=by
 obtain⟨s1,r1⟩:=Z1h0 hx d1;obtain⟨e,e1,e2⟩:=Zp5 a1 aI;obtain⟨w1,w2,w3⟩:=Z53 (s:=false) (r:=rnd a.toNat 0) (by unfold infR at e2; unfold sw; omega);have ra:Z1 (ofI a)=rnd a.toNat 0:=by rw[e,w1]
 have sa:sgn (ofI a)=false:=by rw[e,w2]
 have dn:d.toNat<9007199254740992:=by unfold Sm at hd; omega
 obtain⟨df,ee,m1,p1⟩:=Zhm dn;have mq:=Z1l4 (x:=x) (y:=ofI a) (by rw[r1]; exact df) (by rw[ra]; exact e2);rw[s1,sa,r1,ra,m1,p1]at mq;have sc:=Z36 (d.toNat*Zg (rnd a.toNat 0)) (Z4 (rnd a.toNat 0)) ee;rw[Nat.mul_right_comm d.toNat,show(-(ee:Int))+Z4 (rnd a.toNat 0)=Z4 (rnd a.toNat 0) - (ee:Int) by omega,sc]at mq;obtain⟨g1,g2,g3,g4⟩:=Z34 (s:=false ^^ false) (Z7p (d.toNat*Zg (rnd a.toNat 0)) (Z4 (rnd a.toNat 0)));rw[<- mq]at g1 g3 g4
 have cl:Z2f (mulQ x (ofI a)) 4503599627370496=Z3k (mulQ x (ofI a)) 4503599627370496:=by
  unfold Z2f;rw[g1,if_neg (by decide),g4]; rfl
 rw[cl,ra];have pl:=Z3m (rnd a.toNat 0);rcases Nat.lt_or_ge (d.toNat*valR (rnd a.toNat 0)) (4503599627370496*2 ^ U74)with q | q
 ·left
  have al:a.toNat<4503599627370496:=by
   rcases Nat.lt_or_ge a.toNat 4503599627370496 with z | z
   ·exact z
   ·exfalso;have:=Z7w.2 (Z30 (m:=4503599627370496) (m':=a.toNat) 0 z);rw[Z5y (by decide)]at this;have:1*valR (rnd a.toNat 0)<=d.toNat*valR (rnd a.toNat 0):=Nat.mul_le_mul_right _ (by omega);omega
  have va:=Z5y (T:=a.toNat) (by omega);rw[va,<- Nat.mul_assoc]at q;have da:d.toNat*a.toNat<4503599627370496:=Nat.lt_of_mul_lt_mul_right q;obtain⟨af,fe,m2,p2⟩:=Zhm (m:=a.toNat) (by omega);have sc2:=Z36 (d.toNat*a.toNat) 0 fe;rw[m2,p2,<- Nat.mul_assoc,show -(fe:Int)=0 - (fe:Int) by omega,sc2]at g3;have vp:=Z5y (T:=d.toNat*a.toNat) (by omega)
  have small:rnd (d.toNat*a.toNat) 0<Z1d:=by
   have:=Z30 (m:=d.toNat*a.toNat) (m':=4503599627370496) 0 (by omega);have e52:rnd 4503599627370496 0=4841369599423283200:=by decide +kernel
   unfold Z1d; omega
  have nw:=Z1n4 small vp;have pm:((d.toNat*a.toNat:Nat):Int)=d*a:=by rw[Int.natCast_mul,show((d.toNat:Nat):Int)=d by omega,show((a.toNat:Nat):Int)=a by omega]
  refine⟨?_,by omega,by omega⟩;unfold Z3k;rw[g3,if_pos small,nw,pm,show imax 4503599627370496 0=4503599627370496 by decide];have dA:d*a<4503599627370496:=by omega
  generalize d*a=z at dA ⊢;unfold imin;split <;> omega
 ·right;refine⟨?_,q⟩
  have big:4503599627370496*2 ^ U74<=valR (rnd (d.toNat*Zg (rnd a.toNat 0)) (Z4 (rnd a.toNat 0))):=by
   rw[<- Z5y (T:=4503599627370496) (by decide)];refine Z7w.2 ?_;have t1:=Z36 4503599627370496 0 U74;have t2:=Z36 (d.toNat*Zg (rnd a.toNat 0)) (Z4 (rnd a.toNat 0)) (Z4 (rnd a.toNat 0)+1074).toNat;have hu:∃ u:Nat,u=U74/\u=1074:=⟨_,rfl,rfl⟩;obtain⟨u,hu1,hu2⟩:=hu;rw[<- hu1]at t1 q;rw[show Z4 (rnd a.toNat 0) - ((Z4 (rnd a.toNat 0)+1074).toNat:Int)=0 - (u:Int) by omega]at t2;rw[<- t1,<- t2];refine Z30 _ ?_;rw[Nat.mul_assoc]; exact q
  unfold Z3k;rw[g3];by_cases z:rnd (d.toNat*Zg (rnd a.toNat 0)) (Z4 (rnd a.toNat 0))<Z1d
  ·rw[if_pos z];have:=Z1n5 z big;rw[show imax 4503599627370496 0=4503599627370496 by decide];generalize Z4l _=y at this ⊢;unfold imin;split <;> omega
  ·rw[if_neg z]; rfl
end
section
open Ieee
theorem Z1au {x:Nat}(h:NN x)(base:Int)(hb:base<=Z4 (Z1 x))(h2:-1074<=base):∃ A:Nat,signed (sgn x) (Zg (Z1 x)) (Z4 (Z1 x) - base).toNat=(A:Int)/\A*2 ^ (base+1074).toNat=valR (Z1 x):=by
 refine⟨Zg (Z1 x)*2 ^ (Z4 (Z1 x) - base).toNat,?_,?_⟩
 ·unfold signed
  cases hs:sgn x with
  | true=>
   rw[h.sgn0 hs];rw[show Zg 0=0 by decide]; simp
  | false=>simp[Nat.shiftLeft_eq]
 ·unfold valR;rw[Nat.mul_assoc,<- Nat.pow_add]; congr 2; omega
theorem Z1wo {x y k:Nat}(hx:NN x)(hy:NN y)(fx:Z1 x<infR)(fy:Z1 y<infR)(hv:valR (Z1 x)+valR (Z1 y)<=k*2 ^ U74):NN (addQ x y)/\Z10 (addQ x y)<=(rnd k 0:Int):=by
 have nn:=(Z1w2 hx hy).1;refine⟨nn,?_⟩;rw[nn.key];have px:=Z3m (Z1 x);have py:=Z3m (Z1 y);obtain⟨A,a1,a2⟩:=Z1au hx (min (Z4 (Z1 x)) (Z4 (Z1 y))) (by omega) (by omega);obtain⟨B,b1,b2⟩:=Z1au hy (min (Z4 (Z1 x)) (Z4 (Z1 y))) (by omega) (by omega);generalize hp:min (Z4 (Z1 x)) (Z4 (Z1 y))=p at *
 have hs:(double.read x).sum (double.read y)=some (.number (if(A:Int)+B=0 then sgn x&&sgn y else decide ((A:Int)+B<0)) (A+B) p):=by
  rw[Z17 fx,Z17 fy];simp only[Datum.sum];rw[hp,a1,b1,<- Int.natCast_add,Int.natAbs_natCast]
 generalize(if(A:Int)+B=0 then sgn x&&sgn y else decide ((A:Int)+B<0))=q at hs;rw[Zmb hs,Z5c];obtain⟨_,_,g3,_⟩:=Z34 (s:=q) (Z7p (A+B) p);rw[g3];have t1:=Z36 (A+B) p (p+1074).toNat;have t2:=Z36 k 0 U74;have hu:∃ u:Nat,u=U74/\u=1074:=⟨_,rfl,rfl⟩;obtain⟨u,hu1,hu2⟩:=hu;rw[<- hu1]at t2 hv;rw[show p - ((p+1074).toNat:Int)=0 - (u:Int) by omega]at t1;have:=Z30 (m:=(A+B)*2 ^ (p+1074).toNat) (m':=k*2 ^ u) (0 - (u:Int)) (by rw[Nat.add_mul,a2,b2]; exact hv);rw[t1,t2]at this;omega
theorem Z1te {x y:Nat}{k:Int}(hx:Z1o x k)(hy:Z1o y k)(k1:1<=k):x=y:=by
 rw[<- Zm6 hx.1,<- Zm6 hy.1,hx.2.1,hy.2.1,hx.2.2 (by omega),hy.2.2 (by omega)]
theorem Z1wp {x:Nat}{k:Int}(h:Z1o x k)(hs:Sm k)(k0:0<=k):NN x:=⟨h.1,h.nn hs,by rw[Zmm h hs k0]; omega⟩
theorem Z1qx {bed:Nat}{b d a w:Int}(hb:Z1o bed b)(b0:0<=b)(b1:b<=1048576)(d1:1<=d)(d2:d<=1048576)(a1:1<=a)(aI:I64 a)
  (h:(w=d*a/\d*a<4503599627370496/\a<4503599627370496)∨(w=4503599627370496/\4503599627370496*2 ^ U74<=d.toNat*valR (Z1 (ofI a)))):
  isN (Z3j bed w a)=false/\Z10 (Z3j bed w a)<=(rnd (b+d).toNat 0:Int)/\(w<4503599627370496->Z1o (Z3j bed w a) (b+d))/\1<=w:=by
 have sb:Sm b:=by unfold Sm; omega
 have sd:Sm d:=by unfold Sm; omega
 have sk:Sm (b+d):=by unfold Sm; omega
 obtain⟨ea,ea1,ea2⟩:=Zp5 a1 aI;obtain⟨v1,v2,v3⟩:=Z53 (s:=false) (r:=rnd a.toNat 0) (by unfold infR at ea2; unfold sw; omega);have fa:=Z16w a1 aI;have dn:d.toNat<9007199254740992:=by omega
 have main:∀ w:Int,1<=w->w<=4503599627370496->(w.toNat*2 ^ U74<=d.toNat*valR (Z1 (ofI a)))->isN (Z1u (ofI w) (ofI a))=false/\Z1 (Z1u (ofI w) (ofI a))<=rnd d.toNat 0/\sgn (Z1u (ofI w) (ofI a))=false/\(w.toNat*2 ^ U74=d.toNat*valR (Z1 (ofI a))->Z1 (Z1u (ofI w) (ofI a))=rnd d.toNat 0):=λw w1 w2 hv=>by
  have wI:I64 w:=⟨by omega,by omega⟩;obtain⟨ew,_,ew2⟩:=Zp5 w1 wI;obtain⟨u1,u2,u3⟩:=Z53 (s:=false) (r:=rnd w.toNat 0) (by unfold infR at ew2; unfold sw; omega);have vw:valR (Z1 (ofI w))=w.toNat*2 ^ U74:=by rw[ew,u1]; exact Z5y (by omega)
  have:=Z1vo (x:=ofI w) (y:=ofI a) (d:=d.toNat) (by rw[ew,u1]; exact ew2) fa.1 fa.2 dn (by rw[vw]; exact hv);rw[vw]at this;refine⟨this.1,this.2.1,?_,this.2.2.2⟩;rw[this.2.2.1,ew,u2,ea,v2]; rfl
 rcases h with⟨rfl,h1,h2⟩ | ⟨rfl,h1⟩
 ·have p1:1<=d*a:=by have:=Int.mul_le_mul d1 a1 (by omega) (by omega); omega
  have va:valR (Z1 (ofI a))=a.toNat*2 ^ U74:=by rw[ea,v1]; exact Z5y (by omega)
  have hm:(d*a).toNat=d.toNat*a.toNat:=by
   have:((d.toNat*a.toNat:Nat):Int)=d*a:=by rw[Int.natCast_mul,show((d.toNat:Nat):Int)=d by omega,show((a.toNat:Nat):Int)=a by omega]
   omega
  have eq:(d*a).toNat*2 ^ U74=d.toNat*valR (Z1 (ofI a)):=by rw[va,hm,Nat.mul_assoc]
  obtain⟨m1,m2,m3,m4⟩:=main (d*a) p1 (by omega) (Nat.le_of_eq eq);have di:Z1o (Z1u (ofI (d*a)) (ofI a)) d:=⟨Z5v _ _,by rw[m4 eq,show d.natAbs=d.toNat by omega],λ_=>by rw[m3,decide_eq_false (by omega)]⟩
  have li:Z1o (Z3j bed (d*a) a) (b+d):=by
   unfold Z3j Z7q;rw[if_neg (by omega)];exact(Z1ug hb di sb sd).canon sk
  refine⟨li.nn sk,?_,λ_=>li,p1⟩;rw[Zmm li sk (by omega)]; exact Int.le_refl _
 ·obtain⟨m1,m2,m3,_⟩:=main 4503599627370496 (by decide) (by decide) (by rw[show(4503599627370496:Int).toNat=4503599627370496 from rfl]; exact h1);have df:=(Zhm dn).1;have nd:NN (Z1u (ofI 4503599627370496) (ofI a)):=⟨Z5v _ _,m1,by unfold Z10; rw[m3,if_neg (by decide)]; omega⟩;have vd:=Z7w.2 m2;rw[Z5y dn]at vd;have nb:=Z1wp hb sb b0;have vb:valR (Z1 bed)=b.toNat*2 ^ U74:=by rw[hb.2.1,show b.natAbs=b.toNat by omega]; exact Z5y (by omega)
  obtain⟨l1,l2⟩:=Z1wo (k:=(b+d).toNat) nb nd (hb.fin sb) (by omega) (by rw[vb,show(b+d).toNat=b.toNat+d.toNat by omega,Nat.add_mul]; omega)
  have e:Z3j bed 4503599627370496 a=Z13 (addQ bed (Z1u (ofI 4503599627370496) (ofI a))):=by
   unfold Z3j Z7q;rw[if_neg (by omega)]
  rw[e];refine⟨?_,?_,λq=>absurd q (by decide),by decide⟩
  ·unfold Z13; rw[l1.2.1,if_neg (by decide)]; split
   ·decide
   ·exact l1.2.1
  ·unfold Z13; rw[l1.2.1,if_neg (by decide)]; split
   ·rw[key0]; omega
   ·exact l2
theorem Z1tf {n:Int}{c:Int}(h:Ze n c=true):1<=Zv n c:=by
 unfold Zv;rw[if_pos h];unfold imax; split <;> omega
def BedI(bed:List Nat):Prop:=∀ c:Nat,c<bed.length->∃ b:Int,0<=b/\b<=1048576/\bed.getD c 0=ofI b
theorem Z1vp {l:List Int}(h:∀ x ∈ l,0<=x){i j:Nat}(hij:i≠j)(hi:i<l.length)(hj:j<l.length):l.getD i 0+l.getD j 0<=l.sum:=by
 have s:=Z17g (v:=0) hi
 have nn:∀ x ∈ l.set i 0,0<=x:=λx hx=>by
  rcases List.mem_or_eq_of_mem_set hx with q | q
  ·exact h x q
  ·omega
 have m:l.getD j 0 ∈ l.set i 0:=by
  have e:(l.set i 0)[j]?=some (l.getD j 0):=by
   rw[List.getElem?_set_ne hij,List.getElem?_eq_getElem hj,List.getD_eq_getElem?_getD,List.getElem?_eq_getElem hj]; rfl
  exact List.mem_of_getElem? e
 have:=Zxb nn _ m;omega
section
variable {n:Int} {bed:List Nat} {lv:Nat} {k:Int} (bl:(bed.length:Int)=Z2 n) (hb:BedI bed) (hl:Z1o lv k) (k0:-1000<k) (k1:k<1000)
include bl hb hl k0 k1
theorem Z1av {c:Nat}(hc:c<bed.length):∃ b:Int,Z1o (bed.getD c 0) b/\0<=b/\b<=1048576/\
  (((Z1s n bed lv).getD c 0=0/\k<=b)∨(b<k/\1<=(Z1s n bed lv).getD c 0/\isN (Z3j (bed.getD c 0) ((Z1s n bed lv).getD c 0) (Zv n c))=false/\
    Z10 (Z3j (bed.getD c 0) ((Z1s n bed lv).getD c 0) (Zv n c))<=(rnd k.toNat 0:Int)/\((Z1s n bed lv).getD c 0<4503599627370496->Z1o (Z3j (bed.getD c 0) ((Z1s n bed lv).getD c 0) (Zv n c)) k))):=by
 obtain⟨b,b0,b1,e⟩:=hb c hc;have ib:Z1o (bed.getD c 0) b:=by rw[e]; exact Zmc b
 refine⟨b,ib,b0,b1,?_⟩;have sk:Sm k:=by unfold Sm; omega
 have sb:Sm b:=by unfold Sm; omega
 have w:(Z1s n bed lv).getD c 0=Z87 (bed.getD c 0) (Zv n c) lv:=by
  unfold Z1s;rw[List.getD_eq_getElem?_getD,List.getElem?_map,List.getElem?_range hc]; rfl
 have gt:=Z1wn hl ib sk sb b0;have ap:=Z1tf (Z3r (n:=n) (k:=c) (by omega));have aI:=(Zde n c).1;rw[w];unfold Z87;by_cases q:b<k
 ·right;rw[gt,decide_eq_true q,decide_eq_false (by omega),if_neg (by decide)];have id:=Z1uh hl ib sk sb;have f:=Z1qw id (by unfold Sm; omega) (by omega) ap aI;obtain⟨l1,l2,l3,l4⟩:=Z1qx ib b0 b1 (d:=k - b) (by omega) (by omega) ap aI f;rw[show b+(k - b)=k by omega]at l2 l3;exact⟨q,l4,l1,l2,l3⟩
 ·left;rw[gt,decide_eq_false q];exact⟨rfl,by omega⟩
theorem Z1n6(hs:Z2k 0 (Z1s n bed lv)=true):Z8u (some (netG n)) (Za1 n bed lv)=true:=by
 have kf:=Z54 hs (by decide);have wl:(Z1s n bed lv).length=bed.length:=by unfold Z1s; rw[List.length_map,List.length_range]
 have nE:(Zi (some (netG n))).toNat=(netE n).1.length:=by show((((netE n).1.length:Nat):Int)).toNat=_; omega
 unfold Z8u;rw[List.all_eq_true,nE];intro e he;have he:=List.mem_range.1 he;have g:(netE n).1[e]?=some ((netE n).1[e]):=List.getElem?_eq_getElem he;have ea:=Zx9 g;obtain⟨r1,_,r3,_,r5,_,_⟩:=Z103 (List.mem_of_getElem? g);generalize(netE n).1[e]=ed at g ea r1 r3 r5;unfold Z7t
 have v0:(Za1 n bed lv).2.2.2.1.getD ((e:Nat):Int).toNat 0=0:=by
  show(List.replicate _ 0).getD _ 0=0;rw[List.getD_eq_getElem?_getD,List.getElem?_replicate];split <;> rfl
 rw[v0,decide_eq_true rfl,Bool.true_and,Bool.or_eq_true];obtain⟨l,hl1⟩:=Int.eq_ofNat_of_zero_le r1.1;obtain⟨r,hr1⟩:=Int.eq_ofNat_of_zero_le r3.1;have lc:l<bed.length:=by omega
 have rc:r<bed.length:=by omega
 obtain⟨b,ib,b0,b1,hL⟩:=Z1av bl hb hl k0 k1 lc;obtain⟨b',ib',b0',b1',hR⟩:=Z1av bl hb hl k0 k1 rc;unfold Zc2 Zek Z73;rw[ea,hl1,hr1];unfold Zbv Zej
 show(!(_&&if(!decide (0<(Z1s n bed lv).getD (l:Int).toNat 0)&&!decide (0<(Z1s n bed lv).getD (r:Int).toNat 0))=true then false
  else if(!decide (0<(Z1s n bed lv).getD (l:Int).toNat 0)&&fcmp .leq (Ieee.double.order (Z3j (bed.getD (r:Int).toNat 0) ((Z1s n bed lv).getD (r:Int).toNat 0) (Zv n r)) (bed.getD (l:Int).toNat 0)))=true then false
  else if(!decide (0<(Z1s n bed lv).getD (r:Int).toNat 0)&&fcmp .leq (Ieee.double.order (Z3j (bed.getD (l:Int).toNat 0) ((Z1s n bed lv).getD (l:Int).toNat 0) (Zv n l)) (bed.getD (r:Int).toNat 0)))=true then false else true))=true
  ∨ decide (Z3j (bed.getD (l:Int).toNat 0) ((Z1s n bed lv).getD (l:Int).toNat 0) (Zv n l)=Z3j (bed.getD (r:Int).toNat 0) ((Z1s n bed lv).getD (r:Int).toNat 0) (Zv n r))=true
 rw[Int.toNat_natCast,Int.toNat_natCast];have sb:Sm b:=by unfold Sm; omega
 have sb':Sm b':=by unfold Sm; omega
 rcases hL with⟨z,q⟩ | ⟨q,w1,n1,k2,x1⟩
 ·left;rcases hR with⟨z',q'⟩ | ⟨q',w1',n1',k2',x1'⟩
  ·rw[z,z',if_pos (by decide)]; simp
  ·have c:=Z1qu n1' k2' ib sb (by omega) q;rw[z,c,decide_eq_true (show 0<(Z1s n bed lv).getD r 0 by omega),if_neg (by decide),if_pos (by decide)]; simp
 ·rcases hR with⟨z',q'⟩ | ⟨q',w1',n1',k2',x1'⟩
  ·left;have c:=Z1qu n1 k2 ib' sb' (by omega) q';rw[z',c,decide_eq_true (show 0<(Z1s n bed lv).getD l 0 by omega),if_neg (by decide)];simp
  ·right;have t:=Z1vp kf.1 (i:=l) (j:=r) (by omega) (by omega) (by omega);have ks:=kf.2;exact decide_eq_true (Z1te (x1 (by omega)) (x1' (by omega)) (by omega))
theorem Z1tg(gd:Z24 n=true)(he:Z3s n bed lv=0):Can n (Za1 n bed lv)/\Z2k 0 (Z1s n bed lv)=true:=by
 have wl:(Z1s n bed lv).length=bed.length:=by unfold Z1s; rw[List.length_map,List.length_range]
 have hc:Z2 n≠0:=λq=>by unfold Z3s at he; rw[if_pos q]at he; exact absurd he (by decide)
 unfold Z3s at he;rw[if_neg hc,if_neg (λq=>q bl)]at he;by_cases a1:0<=Z2e bed 4697254411347427328
 ·rw[if_pos a1]at he; exact absurd he (by decide)
 rw[if_neg a1]at he;split at he
 ·exact absurd he (by decide)
 by_cases a2:0<=Z2h 0 0 (Z1s n bed lv)
 ·rw[if_pos a2]at he; exact absurd he (by decide)
 have kw:=(Z7z _ (by decide)).1 a2;have cr:=Z2p n;refine⟨⟨gd,bl,by show((Z1s n bed lv).length:Int)=_; omega,by show((List.replicate bed.length (0:Int)).length:Int)=_; rw[List.length_replicate]; exact bl,by show((List.replicate (2*Z2 n).toNat (0:Nat)).length:Int)=_; rw[List.length_replicate]; omega,a1,⟨Int.le_refl 0,by show(0:Int)<=_; decide⟩,kw,?_,?_,⟨Int.le_refl 0,by show(0:Int)<=_; decide⟩⟩,kw⟩
 ·refine Zxa (λx hx=>?_) ?_
  ·rw[List.eq_of_mem_replicate hx]; exact Int.le_refl 0
  ·have:∀ N:Nat,(List.replicate N (0:Int)).sum=0:=λN=>by
    induction N with
    | zero=>rfl
    | succ N ih=>rw[List.replicate_succ,List.sum_cons,ih]; rfl
   show 0+(List.replicate bed.length (0:Int)).sum<=_;rw[this]; decide
 ·show ¬ 0<=Z2e (List.replicate _ 0) _;unfold Z2e;rw[Zpq]
  ·decide
  ·intro x hx;rw[List.eq_of_mem_replicate hx]; decide
theorem Z1th(hc:Z2 n≠0):Z3s n bed lv=0∨Z3s n bed lv=14:=by
 have c20:Z1o 4697254411347427328 1048576:=by have:=Zmc 1048576; rw[show fI 1048576=4697254411347427328 by decide +kernel]at this; exact this
 have c02:Z1o 13920626448202203136 (-1048576):=by have:=Zmc (-1048576); rw[show fI (-1048576)=13920626448202203136 by decide +kernel]at this; exact this
 have s20:Sm 1048576:=by unfold Sm; omega
 have s02:Sm (-1048576):=by unfold Sm; omega
 have inn:∀ {x:Nat}{b:Int},Z1o x b->-1048576<=b->b<=1048576->fcmp .geq (Ieee.double.order x 13920626448202203136)=true/\fcmp .leq (Ieee.double.order x 4697254411347427328)=true:=λ {x b} h b0 b1=>by
  have sb:Sm b:=by unfold Sm; omega
  have m:=Z30 (m:=b.natAbs) (m':=1048576) 0 (by omega);have kb:=Zml h sb;have k20:=Zml c20 s20;have k02:=Zml c02 s02;rw[if_neg (by decide),show(1048576:Int).natAbs=1048576 from rfl]at k20;rw[if_pos (by decide),show(-1048576:Int).natAbs=1048576 from rfl]at k02;rw[Z2u (h.nn sb) (c02.nn s02),Z2u (h.nn sb) (c20.nn s20),Z1kx,Z17d,k20,k02,kb];constructor
  ·apply decide_eq_true; split <;> omega
  ·apply decide_eq_true; split <;> omega
 have a1:¬ 0<=Z2e bed 4697254411347427328:=by
  unfold Z2e;rw[Zpq]
  ·decide
  ·intro x hx;obtain⟨c,hc,rfl⟩:=List.getElem_of_mem hx;obtain⟨b,b0,b1,e⟩:=hb c hc;rw[List.getD_eq_getElem?_getD,List.getElem?_eq_getElem hc]at e;have e:bed[c]=ofI b:=e;have ib:Z1o bed[c] b:=by rw[e]; exact Zmc b
   obtain⟨i1,i2⟩:=inn ib (by omega) b1;unfold Z29;rw[show negF 4697254411347427328=13920626448202203136 by decide,i1,i2,decide_eq_true]
   ·rfl
   ·intro q;have kb:=Zmm ib (by unfold Sm; omega) b0
    have z:b=0:=by
     rcases Int.lt_or_le 0 b with h | h
     ·exfalso;have r:=(Z1h0 ib h).1;rw[q]at r; exact absurd r (by decide)
     ·omega
    rw[e,z]at q;exact absurd q (by decide +kernel)
 obtain⟨i1,i2⟩:=inn hl (by omega) (by omega);unfold Z3s;rw[if_neg hc,if_neg (λq=>q bl),if_neg a1,i1,i2,if_neg (by decide)];split
 ·exact .inr rfl
 ·exact .inl rfl
end
end
section
open Ieee
theorem Z1aw {α:Type}{p:α->Bool}:∀ {l:List α}{i:Int},0<=i->¬ 0<=Zbp p i l->∀ x ∈ l,p x=false
 | [],_,_,_,x,hx=>by cases hx
 | y :: l,i,hi,h,x,hx=>by
  rw[Zec]at h
  cases e:p y with
  | true=>rw[e,if_pos rfl]at h; exact absurd hi h
  | false=>
   rw[e,if_neg (by decide)]at h;rcases List.mem_cons.1 hx with rfl | hx
   ·exact e
   ·exact Z1aw (by omega) h x hx
theorem Z1ti {r:Nat}(h:r<=4697254411347427328):Toward.zero.cut false (Zg r <<< (Z4 r).toNat) (-Z4 r).toNat<=1048576:=by
 have c20:rnd 1048576 0=4697254411347427328:=by decide +kernel
 have hv:=Z7w.2 h;rw[<- c20,Z5y (by decide)]at hv;have p1:=Z3m r;have p2:Z4 r<0:=by unfold Z4 bin; split <;> omega
 rw[Z17a (.inr rfl),Nat.shiftLeft_eq,show(Z4 r).toNat=0 by omega,Nat.pow_zero,Nat.mul_one];refine Nat.div_le_of_le_mul ?_;have hu:∃ u:Nat,u=U74/\u=1074:=⟨_,rfl,rfl⟩;obtain⟨u,hu1,hu2⟩:=hu;unfold valR at hv;rw[<- hu1,show u=(-Z4 r).toNat+(Z4 r+1074).toNat by omega,Nat.pow_add,<- Nat.mul_assoc]at hv;have:=Nat.le_of_mul_le_mul_right hv (Nat.two_pow_pos _);rw[Nat.mul_comm]; exact this
theorem Z1qy {x:Nat}(hw:W64 x)(hb:Z29 x (negF 4697254411347427328) 4697254411347427328=true)(h0:fcmp .geq (double.order x 0)=true){a:Int}(h:F2I .f64 x .i64 a):0<=a/\a<=1048576:=by
 have nn:isN x=false:=by
  cases e:isN x with
  | false=>rfl
  | true=>rw[Z38 (.inl e)]at h0; exact absurd h0 (by decide)
 unfold Z29 at hb;rw[Bool.and_eq_true,Bool.and_eq_true,decide_eq_true_eq]at hb;obtain⟨⟨_,hb⟩,hz⟩:=hb;rw[Z2u nn (by decide),Z17d,decide_eq_true_eq,show Z10 4697254411347427328=4697254411347427328 by decide]at hb;rw[Z2u nn (by decide),Z1kx,decide_eq_true_eq,key0]at h0
 have sx:sgn x=false:=by
  cases e:sgn x with
  | false=>rfl
  | true=>
   exfalso;unfold Z10 at h0;rw[e,if_pos rfl]at h0;have r0:Z1 x=0:=by omega
   have:=Zm6 hw;rw[e,r0]at this;exact hz (by rw[<- this]; decide)
 unfold Z10 at hb;rw[sx,if_neg (by decide)]at hb;have hr:Z1 x<=4697254411347427328:=by omega
 have q:=Z1ti hr
 have e:(double.read x).toInt .zero=some ((Toward.zero.cut false (Zg (Z1 x) <<< (Z4 (Z1 x)).toNat) (-Z4 (Z1 x)).toNat:Nat):Int):=by
  rw[Z17 (by unfold infR; omega),sx];show some (signed false (Toward.zero.cut false (Zg (Z1 x) <<< (Z4 (Z1 x)).toNat) (-Z4 (Z1 x)).toNat) 0)=_;unfold signed;rw[if_neg (by decide),Nat.shiftLeft_zero]
 unfold F2I at h;rw[show(f64.format.read x).toInt .zero=_ from e]at h;dsimp only at h;generalize Toward.zero.cut false (Zg (Z1 x) <<< (Z4 (Z1 x)).toNat) (-Z4 (Z1 x)).toNat=m at h q;rw[if_pos ⟨by show(-9223372036854775808:Int)<=_; omega,by show _<=(9223372036854775807:Int); omega⟩]at h;omega
theorem Z1vq {bed:List Nat}(hb:BedI bed)(c:Nat){a:Int}(h0:0<=a)(h1:a<=1048576):BedI (bed.set c (ofI a)):=λk hk=>by
 rw[List.length_set]at hk;by_cases q:c=k
 ·subst q;exact⟨a,h0,h1,by rw[List.getD_eq_getElem?_getD,List.getElem?_set_self hk]; rfl⟩
 ·obtain⟨b,b0,b1,e⟩:=hb k hk;exact⟨b,b0,b1,by rw[List.getD_eq_getElem?_getD,List.getElem?_set_ne q,<- List.getD_eq_getElem?_getD]; exact e⟩
theorem Z1tj(N:Nat):BedI (List.replicate N 0):=λk hk=>by
 rw[List.length_replicate]at hk;exact⟨0,Int.le_refl 0,by decide,by rw[List.getD_eq_getElem?_getD,List.getElem?_replicate,if_pos hk]; decide +kernel⟩
theorem Z1tx {bed:List Nat}(hb:BedI bed):AllW bed:=λx hx=>by
 obtain⟨c,hc,rfl⟩:=List.getElem_of_mem hx;obtain⟨b,b0,b1,e⟩:=hb c hc;rw[List.getD_eq_getElem?_getD,List.getElem?_eq_getElem hc]at e;have e:bed[c]=ofI b:=e;rw[e]; exact(Zmc b).1
theorem Z1vr(n:Int):-1000<n.tmod 1000/\n.tmod 1000<1000:=by
 have h:=Int.natAbs_tmod n 1000;have:n.natAbs % (1000:Int).natAbs<1000:=Nat.mod_lt _ (by decide);omega
theorem Z1vs {n:Int}{bed:List Nat}{lv:Nat}(hb:BedI bed)(C:Can n (Za1 n bed lv)):Zwn (Za1 n bed lv):=by
 have kf:=Z54 C.wk C.sky.2;refine⟨Z1tx hb,nn_I kf.1 (T:=4503599627370496) (by have:=kf.2; have:=C.sky.1; omega) (by decide),λx hx=>?_,λx hx=>?_,(show I64 0 from⟨by decide,by decide⟩),(show I64 0 from⟨by decide,by decide⟩)⟩
 ·rw[List.eq_of_mem_replicate hx]; exact⟨by decide,by decide⟩
 ·rw[List.eq_of_mem_replicate hx]; unfold W64; decide
end
def Zc3(ty29:Nat)(s:YS):List HObj:=[HObj.box Md.rw ty29 [SV.data (K.flt f64).slice s.1,SV.data (K.int i64).slice s.2.1,SV.data (K.int i64).slice s.2.2.1,SV.data (K.flt f64).slice s.2.2.2.1,SV.val (Go.Value.int i64 s.2.2.2.2.1),SV.val (Go.Value.int i64 s.2.2.2.2.2)]]
def Zdj:=λ(ty29:Nat)(g:Option YG)(s:YS)(post:Bool × Unit->Prop)=>HS (Zc3 ty29 s)/\∃(I:Int × Unit->Unit->Prop),∃(μ:Int × Unit->
 Unit->Nat),I (0,()) ()/\∀(x:Int × Unit)(y:Unit),I x y->∃(h:True),∀ a,a=decide (x.1<(Zp g).1)->Br a (∃(h:Z2z g x.1),∃(h:0<=(Z6 g
 x.1).1.1/\(Z6 g x.1).1.1<(↑s.1.length:Int)),∃(h:0<=(Z6 g x.1).1.1/\(Z6 g x.1).1.1<(↑s.2.1.length:Int)),∃(h:True),∃(h:Zfi (s.1.getD
 (Z6 g x.1).1.1.toNat 0) (s.2.1.getD (Z6 g x.1).1.1.toNat 0) (Z14 g (Z6 g x.1).1.1).1),∀ a,a=Zil (s.1.getD (Z6 g x.1).1.1.toNat 0)
 (s.2.1.getD (Z6 g x.1).1.1.toNat 0) (Z14 g (Z6 g x.1).1.1).1->∃(h:0<=(Z6 g x.1).1.2.2.1/\(Z6 g x.1).1.2.2.1<(↑s.1.length:Int)),∃(h:
 0<=(Z6 g x.1).1.2.2.1/\(Z6 g x.1).1.2.2.1<(↑s.2.1.length:Int)),∃(h:True),∃(h:Zfi (s.1.getD (Z6 g x.1).1.2.2.1.toNat 0) (s.2.1.getD
 (Z6 g x.1).1.2.2.1.toNat 0) (Z14 g (Z6 g x.1).1.2.2.1).1),∀ a_1,a_1=Zil (s.1.getD (Z6 g x.1).1.2.2.1.toNat 0) (s.2.1.getD (Z6 g
 x.1).1.2.2.1.toNat 0) (Z14 g (Z6 g x.1).1.2.2.1).1->∃(h:0<=x.1/\x.1<(↑s.2.2.2.1.length:Int)),∃(h:True),∀ a_2,a_2=((Z65 (s.2.2.2.1.getD
 x.1.toNat 0)).1 != 0)->Br a_2 (post (false,())) (∃(h:Zpf g s x.1),∀ a_3,a_3=Z1gy g s x.1->∀ a_4,a_4=a_3.1->Br a_4 (∃(h:True),∀ a_5,a_5
 = (Zh2 a.1 a_1.1).1->Br (!a_5) (post (false,())) (HS (Zc3 ty29 s)/\I (i64.wrap (x.1+1),()) ()/\μ (i64.wrap (x.1+1),()) ()<μ x y))
 (HS (Zc3 ty29 s)/\I (i64.wrap (x.1+1),()) ()/\μ (i64.wrap (x.1+1),()) ()<μ x y))) (post (true,()))
theorem Z17j(ty0:Nat)(g:Option YG)(s:YS)(h:Zmk g s):Zdj ty0 g s (λr=>r=Zfo g s):=by
 obtain⟨hN,hf,hb,hw,hv⟩:=h;rcases hN with rfl | ⟨n,hn,rfl⟩
 ·refine⟨rfl,λx _=>x.1=0,λ_ _=>0,rfl,?_⟩;rintro⟨x,⟨⟩⟩ ⟨⟩ hx;have hx:x=0:=hx;subst hx;refine⟨trivial,?_⟩;rintro _ rfl;exact brN rfl rfl
 have hG:NetP (some (netG n)):=.inr ⟨n,hn,rfl⟩;have f:=Z48.1 hf;rw[Z1j,Z45]at f;have cr:=Z2p n;have ne:(Zp (some (netG n))).1=2*Z2 n:=Z45 n;have nn:Zi (some (netG n))=2*Z2 n:=Z45 n;delta Zdj;rw[ne];have spec:∀ v:Bool,Z8u (some (netG n)) s=v->(v,())=Zfo (some (netG n)) s:=λv h=>by unfold Zfo; rw[h]; rfl
 refine⟨rfl,λx _=>0<=x.1/\x.1<=2*Z2 n/\∀ k:Nat,(k:Int)<x.1->Z7t (some (netG n)) s k=true,λx _=>(2*Z2 n - x.1).toNat,⟨Int.le_refl 0,by omega,λk h=>absurd h (by show ¬ (k:Int)<0; omega)⟩,?_⟩;rintro⟨i,⟨⟩⟩ ⟨⟩ ⟨i0,i1,i2⟩;have i0:0<=i:=i0;have i1:i<=2*Z2 n:=i1;have i2:∀ k:Nat,(k:Int)<i->Z7t (some (netG n)) s k=true:=i2;refine⟨trivial,?_⟩;rintro _ rfl;refine Br.intro (λe=>?_) λe=>?_
 rotate_left
 ·have e:¬ i<2*Z2 n:=of_decide_eq_false e;refine spec true ?_;unfold Z8u;rw[List.all_eq_true];intro k hk;exact i2 k (by have:=List.mem_range.1 hk; rw[nn]at this; omega)
 have e:i<2*Z2 n:=of_decide_eq_true e;obtain⟨j,rfl⟩:=Int.eq_ofNat_of_zero_le i0
 have ji:nIs (some (netG n)) (j:Int)=true:=by
  show(decide (0<=(j:Int))&&decide ((j:Int)<(((netE n).1.length:Nat):Int)))=true;rw[decide_eq_true i0,decide_eq_true (by rw[Z7b]; exact e)]; rfl
 obtain⟨c1,c2⟩:=Z9f ji;have eR:Z6 (some (netG n)) (j:Int)=(Zx (some (netG n)) (j:Int),true,()):=by unfold Z6; rw[ji]
 have fail:Z7t (some (netG n)) s j=false->(false,())=Zfo (some (netG n)) s:=λh=>spec false (by
  unfold Z8u;rw[List.all_eq_false];exact⟨j,List.mem_range.2 (by rw[nn]; omega),by rw[h]; decide⟩)
 have next:Z7t (some (netG n)) s j=true->(0<=i64.wrap ((j:Int)+1)/\i64.wrap ((j:Int)+1)<=2*Z2 n/\∀ k:Nat,(k:Int)<i64.wrap ((j:Int)+1)->Z7t (some (netG n)) s k=true)/\(2*Z2 n - i64.wrap ((j:Int)+1)).toNat<(2*Z2 n - (j:Int)).toNat:=λh=>by
  rw[Zy (x:=(j:Int)+1) (by omega) (by omega)];refine⟨⟨by omega,by omega,λk hk=>?_⟩,by omega⟩;by_cases q:k=j
  ·rw[q]; exact h
  ·exact i2 k (by omega)
 have aw:∀ c:Int,0<=c->c<Z2 n->(Z14 (some (netG n)) c).1=Zv n c:=λc h1 h2=>Z6e h1 h2;dsimp only;rw[eR];dsimp only;rw[aw _ c1.1 c1.2,aw _ c2.1 c2.2];have lw:∀ c:Int,0<=c->c<Z2 n->Zfi (s.1.getD c.toNat 0) (s.2.1.getD c.toNat 0) (Zv n c):=λc h1 h2=>⟨hb _ (Zu (by omega) 0),hw _ (Zu (by omega) 0),(Zde n c).1⟩;refine⟨⟨hG,⟨by omega,by omega⟩⟩,⟨c1.1,by omega⟩,⟨c1.1,by omega⟩,trivial,lw _ c1.1 c1.2,λa ha=>?_⟩;have ha:a=(Z73 (some (netG n)) s (Zx (some (netG n)) j).1,()):=ha;subst ha;refine⟨⟨c2.1,by omega⟩,⟨c2.1,by omega⟩,trivial,lw _ c2.1 c2.2,λa ha=>?_⟩;have ha:a=(Z73 (some (netG n)) s (Zx (some (netG n)) j).2.2.1,()):=ha;subst ha;refine⟨⟨i0,by omega⟩,trivial,?_⟩;rintro _ rfl;refine Br.intro (λq=>?_) λq=>?_
 ·apply fail;unfold Z7t;rw[decide_eq_false,Bool.false_and];intro z;have q:(((s.2.2.2.1.getD (j:Int).toNat 0:Nat):Int) != 0)=true:=q;rw[z]at q; exact absurd q (by decide)
 have v0:s.2.2.2.1.getD (j:Int).toNat 0=0:=by
  have q:(((s.2.2.2.1.getD (j:Int).toNat 0:Nat):Int) != 0)=false:=q;have q:((s.2.2.2.1.getD (j:Int).toNat 0:Nat):Int)=0:=by simpa using q
  omega
 refine⟨⟨hG,hb,hw,⟨by omega,by omega⟩⟩,λa ha=>?_⟩;have ha:a=(Zc2 (some (netG n)) s j,()):=ha;subst ha;rintro _ rfl;refine Br.intro (λq=>?_) λq=>?_
 ·have q:Zc2 (some (netG n)) s j=true:=q;refine⟨trivial,?_⟩;rintro _ rfl;refine Br.intro (λr=>?_) λr=>?_
  ·apply fail;have r:(!(Zh2 (Z73 (some (netG n)) s (Zx (some (netG n)) j).1) (Z73 (some (netG n)) s (Zx (some (netG n)) j).2.2.1)).1)=true:=r;unfold Z7t;rw[v0,q,decide_eq_true rfl]
   have:¬ Z73 (some (netG n)) s (Zx (some (netG n)) j).1=Z73 (some (netG n)) s (Zx (some (netG n)) j).2.2.1:=λz=>by
    rw[z]at r; unfold Zh2 r1 at r; simp at r
   rw[decide_eq_false this]; rfl
  ·refine⟨rfl,next ?_⟩;have r:(!(Zh2 (Z73 (some (netG n)) s (Zx (some (netG n)) j).1) (Z73 (some (netG n)) s (Zx (some (netG n)) j).2.2.1)).1)=false:=r;unfold Z7t
   have:Z73 (some (netG n)) s (Zx (some (netG n)) j).1=Z73 (some (netG n)) s (Zx (some (netG n)) j).2.2.1:=by
    unfold Zh2 r1 at r; simpa using r
   rw[v0,this,decide_eq_true rfl,decide_eq_true rfl]; simp
 ·refine⟨rfl,next ?_⟩;have q:Zc2 (some (netG n)) s j=false:=q;unfold Z7t;rw[v0,q,decide_eq_true rfl]; rfl
def Zmn:=λ(g:Option YG)(p:YP)(s:YS)(post:Bool × Unit->Prop)=>∃(h:Z6c g p s),∀ a,a=Z9e g p s->∃(h:Z6c g p s),∀ a_1,a_1=Z7y g p
 s->∀ a_2,a_2=(a.2.1 != (0:Int))->Br a_2 (post (false,())) (∀ a_3,a_3=(a_1.2.1 != (0:Int))->Br a_3 (post (false,())) (∃(h:True),∃(h:(0:Int)<=
 (Zp g).1/\(Zp g).1<=(Zp g).1/\(Zp g).1*(↑(8:Nat):Int)<=(281474976710656:Int)),∃(h:True),∀ a_4,a_4=Zpd (List.take a.1.1.length (List.drop
 (0:Nat) a.1.1),List.take a.1.2.1.length (List.drop (0:Nat) a.1.2.1),List.take a.1.2.2.1.length (List.drop (0:Nat) a.1.2.2.1),List.take a.1.2.2.2.1.length (List.drop (0:
 Nat) a.1.2.2.2.1),a.1.2.2.2.2.1,s.2.2.2.2.2) s->∀ a,a=a_4.1->Br a (∃(h:True),∀ a,a=Zpc (List.take a_1.1.1.length (List.drop (0:Nat) a_1.1.1)) (List.take (Zp
 g).1.toNat (List.drop (0:Nat) (List.replicate (Zp g).1.toNat (0:Int))))->∀ a_5,a_5=a.1->Br a_5 (∃(h:True),∀ a,a=Zpc (List.take a_1.1.2.length (List.drop (0
 : Nat) a_1.1.2)) (List.take (Zp g).1.toNat (List.drop (0:Nat) (List.replicate (Zp g).1.toNat (0:Int))))->∀ a_6,a_6=a.1->post (a_6,())) (post (false,())))
 (post (false,()))))
theorem Z17k(g:Option YG)(p:YP)(s:YS)(h:Za0 g p s):Zmn  g p s (λr=>r=Zfq g p s):=by
 obtain⟨⟨hN,hP,hS⟩,hc⟩:=h;obtain⟨rfl,hp,C⟩:=Z104 hN hc;have ne:(Zp (some (netG p.1))).1=2*Z2 p.1:=Z45 p.1;have cr:=Z2p p.1;refine⟨⟨hN,hP,hS⟩,λa ha=>?_⟩;have ha:a=_:=ha.trans (Z1vh rfl hp C);subst ha;refine⟨⟨hN,hP,hS⟩,λa ha=>?_⟩;have ha:a=_:=ha.trans (Z1vi rfl hp C);subst ha;rintro _ rfl;refine brN rfl ?_;rintro _ rfl;refine brN rfl ?_
 have z:List.take (Zp (some (netG p.1))).1.toNat (List.drop 0 (List.replicate (Zp (some (netG p.1))).1.toNat (0:Int)))=Z74 (Zi (some (netG p.1))):=by
  rw[List.drop_zero,List.take_of_length_le (by rw[List.length_replicate]; exact Nat.le_refl _)]; rfl
 dsimp only
 try simp only[Z7k]
 rw[z];have spec:∀ v:Bool,Zfp (some (netG p.1)) p s=v->(v,())=Zfq (some (netG p.1)) p s:=λv h=>by unfold Zfq; rw[h]; rfl
 refine⟨trivial,⟨by rw[ne]; omega,Int.le_refl _,by rw[ne]; omega⟩,trivial,λa ha=>?_⟩;have ha:a=_:=ha;subst ha;rintro _ rfl;refine Br.intro (λq1=>?_) λq1=>?_
 rotate_left
 ·refine spec false ?_;unfold Zfp;have q1:(((Z3f (some (netG p.1)) p s).1,(Z3f (some (netG p.1)) p s).2.1,(Z3f (some (netG p.1)) p s).2.2.1,(Z3f (some (netG p.1)) p s).2.2.2.1,(Z3f (some (netG p.1)) p s).2.2.2.2.1,s.2.2.2.2.2)==s)=false:=q1;rw[q1]; rfl
 have q1:(((Z3f (some (netG p.1)) p s).1,(Z3f (some (netG p.1)) p s).2.1,(Z3f (some (netG p.1)) p s).2.2.1,(Z3f (some (netG p.1)) p s).2.2.2.1,(Z3f (some (netG p.1)) p s).2.2.2.2.1,s.2.2.2.2.2)==s)=true:=q1;refine⟨trivial,λa ha=>?_⟩;have ha:a=_:=ha;subst ha;rintro _ rfl;refine Br.intro (λq2=>?_) λq2=>?_
 rotate_left
 ·refine spec false ?_;unfold Zfp;have q2:(Z1t (some (netG p.1)) p s==Z74 (Zi (some (netG p.1))))=false:=q2;rw[q1,q2]; rfl
 have q2:(Z1t (some (netG p.1)) p s==Z74 (Zi (some (netG p.1))))=true:=q2;refine⟨trivial,λa ha=>?_⟩;have ha:a=_:=ha;subst ha;rintro _ rfl;refine spec _ ?_;unfold Zfp;rw[q1,q2]; rfl
def Zcu(ty25:Nat)(p:YP)(ty29:Nat)(s:YS)(ty22:Nat)(a:Option YG × Bool × Unit):List HObj:=[HObj.box Md.rw ty25 [SV.val (Go.Value.int i64 p.1),SV.val (Go.Value.float f64 p.2.1),SV.val (Go.Value.float f64 p.2.2.1),SV.val (Go.Value.float f64 p.2.2.2.1),SV.val (Go.Value.int i64 p.2.2.2.2.1),SV.val (Go.Value.bool false),SV.val (Go.Value.slice none (0:Nat) (0:Nat))],HObj.box Md.rw ty29 [SV.data (K.flt f64).slice s.1,SV.data (K.int i64).slice s.2.1,SV.data (K.int i64).slice s.2.2.1,SV.data (K.flt f64).slice s.2.2.2.1,SV.val (Go.Value.int i64 s.2.2.2.2.1),SV.val (Go.Value.int i64 s.2.2.2.2.2)],HObj.row Md.rw ty22 (K.flt f64) (List.replicate (Zw a.1).1.toNat (0:Nat))]
def Zsj(ty25:Nat)(p:YP)(ty29:Nat)(s:YS)(ty22:Nat)(y:List Nat × Unit)(x:Int × Unit)(a_8:Int):List HObj:=[HObj.box Md.rw ty25 [SV.val (Go.Value.int i64 p.1),SV.val (Go.Value.float f64 p.2.1),SV.val (Go.Value.float f64 p.2.2.1),SV.val (Go.Value.float f64 p.2.2.2.1),SV.val (Go.Value.int i64 p.2.2.2.2.1),SV.val (Go.Value.bool false),SV.val (Go.Value.slice none 0 0)],HObj.box Md.rw ty29 [SV.data (K.flt f64).slice s.1,SV.data (K.int i64).slice s.2.1,SV.data (K.int i64).slice s.2.2.1,SV.data (K.flt f64).slice s.2.2.2.1,SV.val (Go.Value.int i64 s.2.2.2.2.1),SV.val (Go.Value.int i64 s.2.2.2.2.2)],HObj.row Md.rw ty22 (K.flt f64) (y.1.set (0+x.1.toNat) (f64.nearest a_8))]
def Zcv(ty25:Nat)(p:YP)(ty29:Nat)(s:YS)(ty22:Nat)(y:List Nat × Unit):List HObj:=[HObj.box Md.rw ty25 [SV.val (Go.Value.int i64 p.1),SV.val (Go.Value.float f64 p.2.1),SV.val (Go.Value.float f64 p.2.2.1),SV.val (Go.Value.float f64 p.2.2.2.1),SV.val (Go.Value.int i64 p.2.2.2.2.1),SV.val (Go.Value.bool false),SV.val (Go.Value.slice none 0 0)],HObj.box Md.rw ty29 [SV.data (K.flt f64).slice s.1,SV.data (K.int i64).slice s.2.1,SV.data (K.int i64).slice s.2.2.1,SV.data (K.flt f64).slice s.2.2.2.1,SV.val (Go.Value.int i64 s.2.2.2.2.1),SV.val (Go.Value.int i64 s.2.2.2.2.2)],HObj.row Md.rw ty22 (K.flt f64) y.1]
def Zsk(ty25:Nat)(p:YP)(ty29:Nat)(s:YS)(ty22:Nat)(y:List Nat × Unit)(x:Int × Unit)(a_6:Int):List HObj:=[HObj.box Md.rw ty25 [SV.val (Go.Value.int i64 p.1),SV.val (Go.Value.float f64 p.2.1),SV.val (Go.Value.float f64 p.2.2.1),SV.val (Go.Value.float f64 p.2.2.2.1),SV.val (Go.Value.int i64 p.2.2.2.2.1),SV.val (Go.Value.bool false),SV.val (Go.Value.slice none 0 0)],HObj.box Md.rw ty29 [SV.data (K.flt f64).slice s.1,SV.data (K.int i64).slice s.2.1,SV.data (K.int i64).slice s.2.2.1,SV.data (K.flt f64).slice s.2.2.2.1,SV.val (Go.Value.int i64 s.2.2.2.2.1),SV.val (Go.Value.int i64 s.2.2.2.2.2)],HObj.row Md.rw ty22 (K.flt f64) (y.1.set (0+x.1.toNat) (f64.nearest a_6))]
def Z8v:=λ(ty25 ty29 ty22:Nat)(p:YP)(s:YS)(n:Int)(post:Bool × Unit->Prop)=>∃(h:True),∀ a,a=yesR->∀ a_1,a_1=a.1->Br (!a_1) (post
 (false,())) (∃(h:Z1gi (p.1,p.2.1,p.2.2.1,p.2.2.2.1,p.2.2.2.2.1,false,[]) s),∀ a,a=Z71 (p.1,p.2.1,p.2.2.1,p.2.2.2.1,p.2.2.2.2.1,false,[]) s
 -> Br (!a.2.1) (post (true,())) (∃(h:Zmk a.1 s),∀ a_2,a_2=Zfo a.1 s->∀ a_3,a_3=a_2.1->Br a_3 (∃(h:Za0 a.1 (p.1,p.2.1,p.2.2.1,p.2.2.2.1,
 p.2.2.2.2.1,false,[]) s),∀ a_4,a_4=Zfq a.1 (p.1,p.2.1,p.2.2.1,p.2.2.2.1,p.2.2.2.2.1,false,[]) s->∀ a_5,a_5=a_4.1->Br (!a_5) (post (false,()))
 (∃(h:True),∃(h:(0:Int)<=(Zw a.1).1/\(Zw a.1).1<=(Zw a.1).1/\(Zw a.1).1*(↑(8:Nat):Int)<=(281474976710656:Int)),HS (Zcu
 ty25 p ty29 s ty22 a)/\∃(I:Int × Unit->List Nat × Unit->Prop),∃(μ:Int × Unit->List Nat × Unit->Nat),I (0,()) (List.replicate (Zw a.1).1.toNat (0:Nat),())/\∀
 (x:Int × Unit) (y:List Nat × Unit),I x y->∀ a_6,a_6=decide (x.1<(↑(Zw a.1).1.toNat:Int))->Br a_6 (∃(h:(0:Int)<=x.1/\x.1<(↑s.1.length:Int)),∀ a_7,
 a_7=fcmp Go.BinOp.geq (f64.format.order (s.1.getD x.1.toNat (0:Nat)) (0:Nat))->Br a_7 (∃(h:(0:Int)<=x.1/\x.1<(↑s.1.length:Int)),∀(a_8:Int),F2I
 f64 (s.1.getD x.1.toNat (0:Nat)) i64 a_8->∃(h:(0:Int)<=x.1/\x.1<(↑(Zw a.1).1.toNat:Int)),HS (Zsj ty25 p ty29 s ty22 y x
 a_8)/\I (i64.wrap (x.1+1),()) (y.1.set ((0:Nat)+x.1.toNat) (f64.nearest a_8),())/\μ (i64.wrap (x.1+1),()) (y.1.set ((0:Nat)+
 x.1.toNat) (f64.nearest a_8),())<μ x y) (HS (Zcv ty25 p ty29 s ty22 y)/\I (i64.wrap (x.1+1),()) (y.1,())/\μ (i64.wrap (x.1+
 1),()) (y.1,())<μ x y)) (∃(h:(1000:Int)≠(0:Int)),∃(h:Zxd p.1 (List.take (Zw a.1).1.toNat (List.drop (0:Nat) y.1)) (f64.nearest (n.tmod
 (1000:Int)))),∀ a_7,a_7=Z80 p.1 (List.take (Zw a.1).1.toNat (List.drop (0:Nat) y.1)) (f64.nearest (n.tmod (1000:Int)))->∀ a_8,a_8=(a_7.2.1 !=
 (0:Int))->Br a_8 (∀ a,a=(a_7.2.1==(14:Int))->post (a,())) (∃(h:Zmk a.1 (List.take a_7.1.1.length (List.drop (0:Nat) a_7.1.1),List.take a_7.1.2.1.length
 (List.drop (0:Nat) a_7.1.2.1),List.take a_7.1.2.2.1.length (List.drop (0:Nat) a_7.1.2.2.1),List.take a_7.1.2.2.2.1.length (List.drop (0:Nat) a_7.1.2.2.2.1),
 a_7.1.2.2.2.2.1,a_7.1.2.2.2.2.2)),∀ a_9,a_9=Zfo a.1 (List.take a_7.1.1.length (List.drop (0:Nat) a_7.1.1),List.take a_7.1.2.1.length (List.drop (0:Nat) a_7.1.2.1),
 List.take a_7.1.2.2.1.length (List.drop (0:Nat) a_7.1.2.2.1),List.take a_7.1.2.2.2.1.length (List.drop (0:Nat) a_7.1.2.2.2.1),a_7.1.2.2.2.2.1,a_7.1.2.2.2.2.2)->∀ a_10,
 a_10=a_9.1->Br a_10 (∃(h:Za0 a.1 (p.1,p.2.1,p.2.2.1,p.2.2.2.1,p.2.2.2.2.1,false,[]) (List.take a_7.1.1.length (List.drop (0:Nat) a_7.1.1),List.take
 a_7.1.2.1.length (List.drop (0:Nat) a_7.1.2.1),List.take a_7.1.2.2.1.length (List.drop (0:Nat) a_7.1.2.2.1),List.take a_7.1.2.2.2.1.length (List.drop (0:Nat)
 a_7.1.2.2.2.1),a_7.1.2.2.2.2.1,a_7.1.2.2.2.2.2)),∀ a_11,a_11=Zfq a.1 (p.1,p.2.1,p.2.2.1,p.2.2.2.1,p.2.2.2.2.1,false,[]) (List.take a_7.1.1.length (List.drop (0
 : Nat) a_7.1.1),List.take a_7.1.2.1.length (List.drop (0:Nat) a_7.1.2.1),List.take a_7.1.2.2.1.length (List.drop (0:Nat) a_7.1.2.2.1),List.take a_7.1.2.2.2.1.length
 (List.drop (0:Nat) a_7.1.2.2.2.1),a_7.1.2.2.2.2.1,a_7.1.2.2.2.2.2)->∀ a,a=a_11.1->post (a,())) (post (false,())))))) (∃(h:True),∃(h:(0:Int)<=(Zw
 a.1).1/\(Zw a.1).1<=(Zw a.1).1/\(Zw a.1).1*(↑(8:Nat):Int)<=(281474976710656:Int)),HS (Zcu ty25 p ty29 s ty22 a)/\∃(I:Int × Unit->
 List Nat × Unit->Prop),∃(μ:Int × Unit->List Nat × Unit->Nat),I (0,()) (List.replicate (Zw a.1).1.toNat (0:Nat),())/\∀(x:Int × Unit)(y:List Nat × Unit),I x
 y->∀ a_4,a_4=decide (x.1<(↑(Zw a.1).1.toNat:Int))->Br a_4 (∃(h:(0:Int)<=x.1/\x.1<(↑s.1.length:Int)),∀ a_5,a_5=fcmp Go.BinOp.geq
 (f64.format.order (s.1.getD x.1.toNat (0:Nat)) (0:Nat))->Br a_5 (∃(h:(0:Int)<=x.1/\x.1<(↑s.1.length:Int)),∀(a_6:Int),F2I f64
 (s.1.getD x.1.toNat (0:Nat)) i64 a_6->∃(h:(0:Int)<=x.1/\x.1<(↑(Zw a.1).1.toNat:Int)),HS (Zsk ty25 p ty29 s ty22 y x a_6)/\I
 (i64.wrap (x.1+1),()) (y.1.set ((0:Nat)+x.1.toNat) (f64.nearest a_6),())/\μ (i64.wrap (x.1+1),()) (y.1.set ((0:Nat)+x.1.toNat)
 (f64.nearest a_6),())<μ x y) (HS (Zcv ty25 p ty29 s ty22 y)/\I (i64.wrap (x.1+1),()) (y.1,())/\μ (i64.wrap (x.1+1),())
 (y.1,())<μ x y)) (∃(h:(1000:Int)≠(0:Int)),∃(h:Zxd p.1 (List.take (Zw a.1).1.toNat (List.drop (0:Nat) y.1)) (f64.nearest (n.tmod (1000:
 Int)))),∀ a_5,a_5=Z80 p.1 (List.take (Zw a.1).1.toNat (List.drop (0:Nat) y.1)) (f64.nearest (n.tmod (1000:Int)))->∀ a_6,a_6=(a_5.2.1 != (0:
 Int))->Br a_6 (∀ a,a=(a_5.2.1==(14:Int))->post (a,())) (∃(h:Zmk a.1 (List.take a_5.1.1.length (List.drop (0:Nat) a_5.1.1),List.take a_5.1.2.1.length (List.drop
 (0:Nat) a_5.1.2.1),List.take a_5.1.2.2.1.length (List.drop (0:Nat) a_5.1.2.2.1),List.take a_5.1.2.2.2.1.length (List.drop (0:Nat) a_5.1.2.2.2.1),a_5.1.2.2.2.2.1,
 a_5.1.2.2.2.2.2)),∀ a_7,a_7=Zfo a.1 (List.take a_5.1.1.length (List.drop (0:Nat) a_5.1.1),List.take a_5.1.2.1.length (List.drop (0:Nat) a_5.1.2.1),List.take
 a_5.1.2.2.1.length (List.drop (0:Nat) a_5.1.2.2.1),List.take a_5.1.2.2.2.1.length (List.drop (0:Nat) a_5.1.2.2.2.1),a_5.1.2.2.2.2.1,a_5.1.2.2.2.2.2)->∀ a_8,a_8=a_7.1->
 Br a_8 (∃(h:Za0 a.1 (p.1,p.2.1,p.2.2.1,p.2.2.2.1,p.2.2.2.2.1,false,[]) (List.take a_5.1.1.length (List.drop (0:Nat) a_5.1.1),List.take a_5.1.2.1.length
 (List.drop (0:Nat) a_5.1.2.1),List.take a_5.1.2.2.1.length (List.drop (0:Nat) a_5.1.2.2.1),List.take a_5.1.2.2.2.1.length (List.drop (0:Nat) a_5.1.2.2.2.1),
 a_5.1.2.2.2.2.1,a_5.1.2.2.2.2.2)),∀ a_9,a_9=Zfq a.1 (p.1,p.2.1,p.2.2.1,p.2.2.2.1,p.2.2.2.2.1,false,[]) (List.take a_5.1.1.length (List.drop (0:Nat) a_5.1.1),
 List.take a_5.1.2.1.length (List.drop (0:Nat) a_5.1.2.1),List.take a_5.1.2.2.1.length (List.drop (0:Nat) a_5.1.2.2.1),List.take a_5.1.2.2.2.1.length (List.drop (0:Nat)
 a_5.1.2.2.2.1),a_5.1.2.2.2.2.1,a_5.1.2.2.2.2.2)->∀ a,a=a_9.1->post (a,())) (post (false,())))))))
theorem Zuo(ty0 ty1 ty2:Nat)(p:YP)(s:YS)(n:Int)(h:Z1kn p s n)(w:KS.wf [Z6o,kSea,.int .i64] (p,s,n,())):Z8v ty0 ty1 ty2 p s n (λr=>r=Z1tv p s n):=by
 obtain⟨hP,hS,hn⟩:=h;delta Z8v;generalize hq:(p.1,p.2.1,p.2.2.1,p.2.2.2.1,p.2.2.2.2.1,false,([]:List Rn))=q;have q1:q.1=p.1:=by rw[<- hq]
 have q5:q.2.2.2.2.2.1=false:=by rw[<- hq]
 have q6:q.2.2.2.2.2.2=[]:=by rw[<- hq]
 have hQ:Zfm q:=by rw[<- hq]; exact hP
 refine⟨trivial,λa ha=>?_⟩;have ha:a=(true,()):=ha;subst ha;rintro _ rfl;refine brN rfl ?_;refine⟨⟨hQ,hS⟩,λa ha=>?_⟩;have ha:a=Z71 q s:=ha;rcases Z1vl q s with w | ⟨hp,C⟩
 ·rw[Z1vk w]at ha;subst ha;exact brY rfl rfl
 have hG:NetP (some (netG q.1)):=.inr ⟨q.1,C.good,rfl⟩;rw[Z1vj rfl hp C]at ha;subst ha;refine brN rfl ?_;have cr:=Z2p q.1;have lb:=C.bed;refine⟨⟨hG,Z105 C,hS.1,hS.2.1,hS.2.2.2.1⟩,λa ha=>?_⟩;have ha:a=(Z8u (some (netG q.1)) s,()):=ha;subst ha;rintro _ rfl;refine Br.intro (λe=>?aa) λe=>?bb
 case' aa=>
  refine⟨⟨⟨hG,hQ,hS⟩,Z141 rfl hp C⟩,λa ha=>?_⟩;have ha:a=(true,()):=by rw[ha]; unfold Zfq; rw[Z142 rfl hp q6 q5 C e]; rfl
  subst ha;rintro _ rfl;refine brN rfl ?_
 all_goals
  have nc:(Zw (some (netG q.1))).1=Z2 q.1:=Z1j q.1;rw[<- q1,nc];refine⟨trivial,⟨cr.1,Int.le_refl _,by omega⟩,rfl,λx y=>0<=x.1/\x.1<=Z2 q.1/\(y.1.length:Int)=Z2 q.1/\BedI y.1,λx _=>(Z2 q.1 - x.1).toNat,⟨Int.le_refl 0,cr.1,by show((List.replicate _ (0:Nat)).length:Int)=_; rw[List.length_replicate]; omega,Z1tj _⟩,?_⟩;rintro⟨c,⟨⟩⟩ ⟨bed,⟨⟩⟩ ⟨c0,c1,bl,hb⟩;have c0:0<=c:=c0;have c1:c<=Z2 q.1:=c1;have bl:(bed.length:Int)=Z2 q.1:=bl;have hb:BedI bed:=hb;rintro _ rfl;refine Br.intro (λz=>?_) λz=>?_
  ·have z:c<((Z2 q.1).toNat:Int):=of_decide_eq_true z;refine⟨⟨c0,by omega⟩,?_⟩;rintro _ rfl;have m:s.1.getD c.toNat 0 ∈ s.1:=Zu (by omega) 0
   have next:∀ b:List Nat,(b.length:Int)=Z2 q.1->BedI b->(0<=i64.wrap (c+1)/\i64.wrap (c+1)<=Z2 q.1/\(b.length:Int)=Z2 q.1/\BedI b)/\(Z2 q.1 - i64.wrap (c+1)).toNat<(Z2 q.1 - c).toNat:=λb l h=>by
    rw[Zy (x:=c+1) (by omega) (by omega)];exact⟨⟨by omega,by omega,l,h⟩,by omega⟩
   refine Br.intro (λg=>?_) λg=>?_
   ·refine⟨⟨c0,by omega⟩,λv hv=>⟨⟨c0,z⟩,rfl,?_⟩⟩;have bt:Z29 (s.1.getD c.toNat 0) (negF 4697254411347427328) 4697254411347427328=true:=by simpa using Z1aw (Int.le_refl 0) C.beds _ m
    have v2:=Z1qy (hS.1 _ m) bt g hv;rw[Nat.zero_add];exact next _ (by rw[List.length_set]; exact bl) (Z1vq hb _ v2.1 v2.2)
   ·exact⟨rfl,next _ bl hb⟩
  ·have t:List.take (Z2 q.1).toNat (List.drop 0 bed)=bed:=by rw[List.drop_zero,List.take_of_length_le (by omega)]
   dsimp only;rw[t];have lv:=Zmc (n.tmod 1000);have rr:=Z1vr n;have k0:Z2 q.1≠0:=(Zpp hp).2.2.1;refine⟨by decide,⟨hQ.1,Z1tx hb,lv.1⟩,λa ha=>?_⟩;have ha:a=Z80 q.1 bed (fI (n.tmod 1000)):=ha;unfold Z80 at ha;rcases Z1th bl hb lv rr.1 rr.2 k0 with er | er
   ·rw[er,if_pos rfl]at ha;subst ha;obtain⟨LC,kw⟩:=Z1tg bl hb lv rr.1 rr.2 C.good er;have LO:=Z1vs hb LC;have LR:=Z1n6 bl hb lv rr.1 rr.2 kw;rintro _ rfl;refine brN rfl ?_
    try simp only[Z7k]
    refine⟨show Zmk (some (netG q.1)) (Za1 q.1 bed (fI (n.tmod 1000)))from⟨hG,Z105 LC,LO.1,LO.2.1,LO.2.2.2.1⟩,λa ha=>?_⟩;have ha:a=(Z8u (some (netG q.1)) (Za1 q.1 bed (fI (n.tmod 1000))),()):=ha;rw[LR]at ha;subst ha;rintro _ rfl;refine brY rfl ?_;refine⟨show Za0 (some (netG q.1)) q (Za1 q.1 bed (fI (n.tmod 1000)))from⟨⟨hG,hQ,LO⟩,Z141 rfl hp LC⟩,λa ha=>?_⟩;have ha:a=(Zfp (some (netG q.1)) q (Za1 q.1 bed (fI (n.tmod 1000))),()):=ha;rw[Z142 rfl hp q6 q5 LC LR]at ha;subst ha;rintro _ rfl;rfl
   ·rw[er,if_neg (by decide)]at ha;subst ha;rintro _ rfl;refine brY rfl ?_;rintro _ rfl;rfl
def Zc4:=λ(post:Int × Unit->Prop)=>post (0,())
theorem Zpt  : Zc4   (λr=>r=Zw none):=by
 exact rfl
def Zc5:=λ(g:YG)(post:Int × Unit->Prop)=>∃(h:some g≠none),post ((↑g.2.2.2.2.1.length:Int),())
theorem Zpu(g:YG):Zc5  g (λr=>r=Zw (some g)):=by
 exact⟨by simp,rfl⟩
def Zc6:=λ(post:Int × Unit->Prop)=>post (0,())
theorem Zpv  : Zc6   (λr=>r=Zp none):=by
 exact rfl
def Zc7:=λ(g:YG)(post:Int × Unit->Prop)=>∃(h:some g≠none),post ((↑g.2.1.length:Int),())
theorem Zpw(g:YG):Zc7  g (λr=>r=Zp (some g)):=by
 exact⟨by simp,rfl⟩
def Zcw:=λ(c:Int)(post:Int × Unit->Prop)=>post (0,())
theorem Zsl(c:Int):Zcw  c (λr=>r=Z14 none c):=by
 exact rfl
def Zcx:=λ(g:YG)(c:Int)(post:Int × Unit->Prop)=>∀ a,a=decide (c<0)->Br a (post (0,())) (∃(h:some g≠none),∀ a,a=
 decide (c>=(↑g.2.2.2.2.1.length:Int))->Br a (post (0,())) (∃(h:some g≠none),∃(h:0<=c/\c<(↑g.2.2.2.2.1.length:Int)),post
 (g.2.2.2.2.1.getD c.toNat 0,())))
theorem Zsm(g:YG)(c:Int):Zcx  g c (λr=>r=Z14 (some g) c):=by
 rintro _ rfl;refine Br.intro (λe=>congrArg r1 ?_) λe=>?_
 ·have e:=of_decide_eq_true e;show(0:Int)=if 0<=c/\c<(g.2.2.2.2.1.length:Nat)then g.2.2.2.2.1.getD c.toNat 0 else 0
  rw[if_neg (by omega)]
 have e:=of_decide_eq_false e;refine⟨by simp,?_⟩;rintro _ rfl;refine Br.intro (λf=>congrArg r1 ?_) λf=>?_
 ·have f:=of_decide_eq_true f;show(0:Int)=if 0<=c/\c<(g.2.2.2.2.1.length:Nat)then g.2.2.2.2.1.getD c.toNat 0 else 0
  rw[if_neg (by omega)]
 have f:=of_decide_eq_false f;refine⟨by simp,⟨by omega,by omega⟩,congrArg r1 ?_⟩;show g.2.2.2.2.1.getD c.toNat 0=if 0<=c/\c<(g.2.2.2.2.1.length:Nat)then g.2.2.2.2.1.getD c.toNat 0 else 0
 rw[if_pos ⟨by omega,by omega⟩]
section
open Go.Proofs
def Z1n7:Cx:=⟨Z1v Z26,Z23 [],SqG⟩
theorem Zg3:CxOk Tryz.prog Z1n7:=⟨Zn Z12,λf c h=>by cases h⟩
def Z21:Con:=.det [.ptr Z25] [.snap (.int .i64)] (λ_=>True) (λx=>Zw x.1)
theorem Z2c:SqH Z21 32:=
 dPs Zg3 Z5 Zc nHn Tryz.func32 (λy p=>Zc4   p) (λz y p=>Zc5  z  p) (λy _ _=>Zpt  ) λz y _ _=>Zpu  z
def Z2d:Con:=.det [.ptr Z25] [.snap (.int .i64)] (λ_=>True) (λx=>Zp x.1)
theorem Z2q:SqH Z2d 31:=
 dPs Zg3 Z5 Zc nHn Tryz.func31 (λy p=>Zc6   p) (λz y p=>Zc7  z  p) (λy _ _=>Zpv  ) λz y _ _=>Zpw  z
def Z3a:Con:=.det [.ptr Z25,.int .i64] [.snap (.int .i64)] (λ_=>True) (λx=>Z14 x.1 x.2.1)
theorem Z3t:SqH Z3a 90:=
 dPs Zg3 Z5 Zc nHn Tryz.func90 (λy p=>Zcw  y.1 p) (λz y p=>Zcx  z y.1 p) (λy _ _=>Zsl  y.1) λz y _ _=>Zsm  z y.1
end
def Zgh:=λ(e:Int)(post:Bool × Unit->Prop)=>post (false,())
theorem Zxj(e:Int)(h:Z2z none e):Zgh  e (λr=>r=nIsR none e):=by
 exact rfl
def Zgi:=λ(g:YG)(e:Int)(post:Bool × Unit->Prop)=>∀ a,a=decide (e>=0)->Br a (∃(h:some g≠none),∀ a,a=decide (e <
 (↑g.2.1.length:Int))->post (a,())) (post (false,()))
theorem Zxk(g:YG)(e:Int)(h:Z2z (some g) e):Zgi  g e (λr=>r=nIsR (some g) e):=by
 rintro _ rfl;refine Br.intro (λe1=>?_) λe1=>?_
 ·refine⟨by simp,?_⟩;rintro _ rfl;show _=(decide (0<=e)&&decide (e<(g.2.1.length:Nat)),());rw[decide_eq_true (p:=0<=e) (of_decide_eq_true e1)]; rfl
 ·show _=(decide (0<=e)&&decide (e<(g.2.1.length:Nat)),());rw[decide_eq_false (p:=0<=e) (of_decide_eq_false e1)]; rfl
def Zcy:=λ(e:Int)(post:(Int × Int × Int × Int) × Bool × Unit->Prop)=>∃(h:Z2z none e),∀ a,a=(nIsR none e).1->Br (!a) (post ((0,
 0,0,0),false,())) (∃(h:(none:Option (Int × (List (Int × Int × Int × Int)) × (List ((Int × Int) × Int)) × (List (List Int)) × (List Int) × (List Nat) × List
 Nat))≠none),False)
theorem Zsn(e:Int)(h:Z2z none e):Zcy  e (λr=>r=Z6 none e):=by
 refine⟨h,?_⟩;rintro _ rfl;exact Br.intro (λ_=>rfl) λq=>by cases q
def Zcz:=λ(g:YG)(e:Int)(post:(Int × Int × Int × Int) × Bool × Unit->Prop)=>∃(h:Z2z (some g) e),∀ a,a=(nIsR (some g) e).1->Br
 (!a) (post ((0,0,0,0),false,())) (∃(h:some g≠none),∃(h:0<=e/\e<(↑g.2.1.length:Int)),post
 (((g.2.1.getD e.toNat ((K.int i64).pair ((K.int i64).pair ((K.int i64).pair (K.int i64)))).dflt).1,(g.2.1.getD e.toNat ((K.int i64).pair
 ((K.int i64).pair ((K.int i64).pair (K.int i64)))).dflt).2.1,(g.2.1.getD e.toNat ((K.int i64).pair ((K.int i64).pair ((K.int
 i64).pair (K.int i64)))).dflt).2.2.1,(g.2.1.getD e.toNat ((K.int i64).pair ((K.int i64).pair ((K.int i64).pair (K.int
 i64)))).dflt).2.2.2),true,()))
theorem Zso(g:YG)(e:Int)(h:Z2z (some g) e):Zcz  g e (λr=>r=Z6 (some g) e):=by
 refine⟨h,?_⟩;rintro _ rfl;have hi:(nIsR (some g) e).1=(decide (0<=e)&&decide (e<(g.2.1.length:Nat))):=rfl;refine Br.intro (λq=>?_) λq=>?_
 ·have q:(nIsR (some g) e).1=false:=by simpa using q
  have hn:¬ (0<=e/\e<(g.2.1.length:Nat)):=λz=>by rw[hi,decide_eq_true z.1,decide_eq_true z.2]at q; cases q
  show _=(Zx (some g) e,nIs (some g) e,());have q2:nIs (some g) e=false:=q;unfold Zx;dsimp only;rw[q2,if_neg hn]; rfl
 ·have q:(nIsR (some g) e).1=true:=by simpa using q
  have hy:0<=e/\e<(g.2.1.length:Nat):=by
   rw[hi]at q;simpa using q
  refine⟨by simp,hy,?_⟩;show _=(Zx (some g) e,nIs (some g) e,());have q2:nIs (some g) e=true:=q;unfold Zx;dsimp only;rw[q2,if_pos hy]; rfl
def Zb0:=λ(c o:Int)(post:Int × Int × Unit->Prop)=>post (0,0,())
theorem Zmo(c:Int)(o:Int)(h:WNet none c o):Zb0  c o (λr=>r=Z4x none c o):=by
 exact rfl
def Zb1:=λ(g:YG)(c o:Int)(post:Int × Int × Unit->Prop)=>∃(h:some g≠none),Br (!(mget (c,o) g.2.2.1).isSome) (post (0,
 0,())) (∃(h:some g≠none),∃(h:0<=(mget (c,o) g.2.2.1).getD 0/\(mget (c,o) g.2.2.1).getD 0<(↑g.2.1.length:Int)),∀ a,
 a=((g.2.1.getD ((mget (c,o) g.2.2.1).getD 0).toNat ((K.int i64).pair ((K.int i64).pair ((K.int i64).pair (K.int i64)))).dflt).1==c)->
 Br a (post ((mget (c,o) g.2.2.1).getD 0,1,())) (post ((mget (c,o) g.2.2.1).getD 0,(-1:Int),())))
theorem Zmp(g:YG)(c:Int)(o:Int)(h:WNet (some g) c o):Zb1  g c o (λr=>r=Z4x (some g) c o):=by
 obtain⟨hg,hc,ho⟩:=h
 obtain⟨n,gn,hgn⟩:∃ n,Z24 n=true/\g=netG n:=by
  rcases hg with hg | ⟨n,gn,hg⟩
  ·cases hg
  ·exact⟨n,gn,Option.some.inj hg⟩
 subst hgn;refine⟨by simp,?_⟩
 have hr:Z4x (some (netG n)) c o=match mget (c,o) (netE n).2 with
   | none=>((0:Int),(0:Int),())
   | some e=>if((netE n).1.getD e.toNat dEd).1=c then(e,(1:Int),())else(e,(-1:Int),()):=by
  unfold Z4x Z15 netG;dsimp only
  cases mget (c,o) (netE n).2 with
  | none=>rfl
  | some e=>dsimp only; split <;> rfl
 rw[hr];by_cases ok:Zj n c o=true
 ·obtain⟨k,hk,k1,_,_⟩:=Z1g2 ok;have k1':mget (c,o) (netG n).2.2.1=some (k:Int):=k1;rw[k1',k1];refine Br.intro (λq=>by cases q) λ_=>?_;refine⟨by simp,⟨by show(0:Int)<=k; omega,by show(k:Int)<((netE n).1.length:Nat); omega⟩,?_⟩;intro a ha;have ha:a=decide (((netE n).1.getD (k:Int).toNat dEd).1=c):=ha;rw[ha];dsimp only;refine Br.intro (λq=>?_) λq=>?_
  ·rw[if_pos (of_decide_eq_true q)]; rfl
  ·rw[if_neg (of_decide_eq_false q)]; rfl
 ·have k1:=Z1sn ok;have k1':mget (c,o) (netG n).2.2.1=none:=k1;rw[k1',k1];exact Br.intro (λ_=>rfl) λq=>by cases q
section
open Go.Proofs
def Zym:Cx:=⟨Z1v Z26,Z23 [],SqG⟩
theorem Zmq:CxOk Tryz.prog Zym:=⟨Zn Z12,λf c h=>by cases h⟩
def Zad:Con:=.det [.ptr Z25,.int .i64] [.snap .bool] (λx=>Z2z x.1 x.2.1) (λx=>nIsR x.1 x.2.1)
theorem Zis:SqH Zad 159:=
 dPs Zmq Z5 Zc nHn Tryz.func159 (λy p=>Zgh  y.1 p) (λz y p=>Zgi  z y.1 p) (λy h _=>Zxj  y.1 h) λz y h _=>Zxk  z y.1 h
def Z1j2:Cx:=addC 159 Zad Zym
theorem Zmr:CxOk Tryz.prog Z1j2:=Zk Zmq Zis
def Z3u:Con:=.det [.ptr Z25,.int .i64] [.snap Z49,.snap .bool] (λx=>Z2z x.1 x.2.1) (λx=>Z6 x.1 x.2.1)
theorem Z4q:SqH Z3u 77:=
 dPs Zmr Z5 Zc nHn Tryz.func77 (λy p=>Zcy  y.1 p) (λz y p=>Zcz  z y.1 p) (λy h _=>Zsn  y.1 h) λz y h _=>Zso  z y.1 h
def Z56:Con:=Con.nam [.ptr Z25,.int .i64,.int .i64] [.snap (.int .i64),.snap (.int .i64)] (λx=>WNet x.1 x.2.1 x.2.2.1) (λx=>Z4x x.1 x.2.1 x.2.2.1)
theorem Z7l:SqH Z56 33:=
 nPs Zmr Z5 Zc nHn Tryz.func33 (λy p=>Zb0  y.1 y.2.1 p) (λz y p=>Zb1  z y.1 y.2.1 p) (λy h _=>Zmo  y.1 y.2.1 h) λz y h _=>Zmp  z y.1 y.2.1 h
end
def Zyn:=λ(a b:Nat)(post:Nat × Unit->Prop)=>∀ a_1,a_1=fcmp Go.BinOp.neq (f64.format.order a a)->Br a_1 (∃(h:True),post (qnR.1,())) (∀ a_2,
 a_2=fcmp Go.BinOp.neq (f64.format.order b b)->Br a_2 (∃(h:True),post (qnR.1,())) (∃(h:W2 a b),∀ a_3,a_3=decide ((ordR a b).1<0)->Br a_3
 (post (b,())) (post (a,()))))
theorem Z1j3(a:Nat)(b:Nat)(h:W2 a b):Zyn  a b (λr=>r=Z131 a b):=by
 have e1:fcmp .neq (f64.format.order a a)=isN a:=Z7h a;have e2:fcmp .neq (f64.format.order b b)=isN b:=Z7h b;rintro _ rfl;rw[e1];refine Br.intro (λe=>⟨trivial,?_⟩) λe=>?_
 ·show(QN,())=r1 (maxQ a b);unfold maxQ; rw[if_pos (by rw[e]; rfl)]; rfl
 rintro _ rfl;rw[e2];refine Br.intro (λe'=>⟨trivial,?_⟩) λe'=>?_
 ·show(QN,())=r1 (maxQ a b);unfold maxQ; rw[if_pos (by rw[e']; simp)]; rfl
 refine⟨h,?_⟩;rintro _ rfl;refine Br.intro (λq=>?_) λq=>?_
 ·have q:ordF a b<0:=of_decide_eq_true q;show(b,())=r1 (maxQ a b);unfold maxQ; rw[if_neg (by rw[e,e']; decide),if_pos q]; rfl
 ·have q:¬ ordF a b<0:=of_decide_eq_false q;show(a,())=r1 (maxQ a b);unfold maxQ; rw[if_neg (by rw[e,e']; decide),if_neg q]; rfl
def Zyo:=λ(a b:Nat)(post:Nat × Unit->Prop)=>∀ a_1,a_1=fcmp Go.BinOp.neq (f64.format.order a a)->Br a_1 (∃(h:True),post (qnR.1,())) (∀ a_2,
 a_2=fcmp Go.BinOp.neq (f64.format.order b b)->Br a_2 (∃(h:True),post (qnR.1,())) (∃(h:W2 a b),∀ a_3,a_3=decide ((ordR a b).1 > 0)->Br a_3
 (post (b,())) (post (a,()))))
theorem Z1j4(a:Nat)(b:Nat)(h:W2 a b):Zyo  a b (λr=>r=Zh9 a b):=by
 have e1:fcmp .neq (f64.format.order a a)=isN a:=Z7h a;have e2:fcmp .neq (f64.format.order b b)=isN b:=Z7h b;rintro _ rfl;rw[e1];refine Br.intro (λe=>⟨trivial,?_⟩) λe=>?_
 ·show(QN,())=r1 (minQ a b);unfold minQ; rw[if_pos (by rw[e]; rfl)]; rfl
 rintro _ rfl;rw[e2];refine Br.intro (λe'=>⟨trivial,?_⟩) λe'=>?_
 ·show(QN,())=r1 (minQ a b);unfold minQ; rw[if_pos (by rw[e']; simp)]; rfl
 refine⟨h,?_⟩;rintro _ rfl;refine Br.intro (λq=>?_) λq=>?_
 ·have q:0<ordF a b:=of_decide_eq_true q;show(b,())=r1 (minQ a b);unfold minQ; rw[if_neg (by rw[e,e']; decide),if_pos q]; rfl
 ·have q:¬ 0<ordF a b:=of_decide_eq_false q;show(a,())=r1 (minQ a b);unfold minQ; rw[if_neg (by rw[e,e']; decide),if_neg q]; rfl
def Zms:=λ(bed:Nat)(w a:Int)(post:Nat × Unit->Prop)=>∃(h:II w a),∀(a_1:Nat),FRes f64 (f64.format.add bed (Z50 w a).1)
 a_1->∃(h:True),post ((Zt a_1).1,())
theorem Z17l(bed:Nat)(w:Int)(a:Int)(h:Zfi bed w a):Zms  bed w a (λr=>r=Zil bed w a):=by
 refine⟨⟨h.2.1,h.2.2⟩,?_⟩;intro r hr;refine⟨trivial,?_⟩;show(Z13 r,())=r1 (Z3j bed w a);unfold Z3j;rw[show addQ bed (Z7q w a)=Z8 r from(fadd hr).1.symm,Z5w]; rfl
def Zqa:=λ(x:Nat)(m:Int)(post:Int × Unit->Prop)=>∃(h:True),∀ a,a=(nanR x).1->Br a (post (0,())) (∃(h:W64 x),∀ a,a=fcmp Go.BinOp.lss
 (f64.format.order (absR x).1 4890909195324358656)->Br a (∃(h:Zp3 (absR x).1),∀ a,a=fcmp Go.BinOp.lss (f64.format.order x 0)->
 Br a (post (i64.wrap (0 - imin (imax m 0) (i64.wrap (Zp2 (absR x).1).1)),())) (post (imin (imax m 0) (i64.wrap (Zp2 (absR
 x).1).1),()))) (∀ a,a=fcmp Go.BinOp.lss (f64.format.order x 0)->Br a (post (i64.wrap (0 - imax m 0),())) (post (imax m (0:
 Int),()))))
theorem Z1c2(x:Nat)(m:Int)(h:Z132 x m):Zqa  x m (λr=>r=Zu9 x m):=by
 obtain⟨hx,hm⟩:=h;have eN:(nanR x).1=isN x:=rfl;refine⟨trivial,?_⟩;rintro _ rfl;rw[eN];refine Br.intro (λe=>?_) λe=>?_
 ·show((0:Int),())=r1 (Z2f x m);unfold Z2f; rw[if_pos e]; rfl
 refine⟨hx,?_⟩;have eA:(absR x).1=Z1 x:=rfl;rw[eA];have eL:fcmp .lss (f64.format.order (Z1 x) 4890909195324358656)=decide (Z1 x<Z1d):=Zzu x;rintro _ rfl;rw[eL];have eS:fcmp .lss (f64.format.order x 0)=(sgn x&&decide (Z1 x≠0)):=Zp4 e
 have im:0<=imax m 0/\imax m 0<=9223372036854775807:=by
  obtain⟨m1,m2⟩:=hm;unfold imax; split <;> omega
 have key:Z2f x m=if(sgn x&&decide (Z1 x≠0))=true then -(Z3k x m)else Z3k x m:=by
  unfold Z2f; rw[if_neg (by rw[e]; decide)]
 refine Br.intro (λg=>?_) λg=>?_
 ·have g':=of_decide_eq_true g;obtain⟨n0,n1⟩:=Zhd g';have ew:i64.wrap (Zp2 (Z1 x)).1=Z4l (Z1 x):=wi (x:=Z4l (Z1 x)) ⟨by omega,by omega⟩;have ca:Z3k x m=imin (imax m 0) (Z4l (Z1 x)):=by unfold Z3k; rw[if_pos g']
  have cr:0<=imin (imax m 0) (Z4l (Z1 x))/\imin (imax m 0) (Z4l (Z1 x))<=9223372036854775807:=by unfold imin; split <;> omega
  refine⟨g',?_⟩;rw[ew];rintro _ rfl;rw[eS];refine Br.intro (λq=>?_) λq=>?_
  ·show(_,())=r1 (Z2f x m);rw[key,if_pos q,ca,wi ⟨by omega,by omega⟩,Int.zero_sub]; rfl
  ·show(_,())=r1 (Z2f x m);rw[key,if_neg (by rw[q]; decide),ca]; rfl
 ·have g':=of_decide_eq_false g;have ca:Z3k x m=imax m 0:=by unfold Z3k; rw[if_neg g']
  rintro _ rfl;rw[eS];refine Br.intro (λq=>?_) λq=>?_
  ·show(_,())=r1 (Z2f x m);rw[key,if_pos q,ca,wi ⟨by omega,by omega⟩,Int.zero_sub]; rfl
  ·show(_,())=r1 (Z2f x m);rw[key,if_neg (by rw[q]; decide),ca]; rfl
def Zmt:=λ(k:Int)(post:Bool × Unit->Prop)=>∀ a,a=decide (k>=0)->Br a (∀ a,a=decide (k<=3)->post (a,())) (post (false,()))
theorem Z17m(k:Int):Zmt  k (λr=>r=Zim k):=by
 rintro _ rfl;refine Br.intro (λe=>?_) λe=>?_
 ·rintro _ rfl;have e:decide (0<=k)=true:=e;show(decide (k<=3),())=r1 (Z4p k);unfold Z4p; rw[e]; rfl
 ·have e:decide (0<=k)=false:=e;show(false,())=r1 (Z4p k);unfold Z4p; rw[e]; rfl
def Zc8:=λ(a b:Nat)(post:Nat × Unit->Prop)=>post (0,())
theorem Zpx(a:Nat)(b:Nat):Zc8  a b (λr=>r=Zfl a b):=by
 exact rfl
def Zc9:=λ(a b:Nat)(post:Nat × Unit->Prop)=>∀(a_1:Nat),FRes f64 (f64.format.mul 4611686018427387904 a) a_1->∃(h
 : W2 a_1 b),∀ a_2,a_2=Zh9 a_1 b->∀(a_3:Nat),FRes f64 (f64.format.mul 4611686018427387904 b) a_3->∃(h:W2 a a_3),∀ a_4,a_4=Zh9
 a a_3->∃(h:W2 a_2.1 a_4.1),∀ a,a=Z131 a_2.1 a_4.1->post (a.1,())
theorem Zpy(a:Nat)(b:Nat)(h:Zei a b):Zc9  a b (λr=>r=supR a b):=by
 obtain⟨ha,hb⟩:=h;intro x f1;obtain rfl:x=mulQ twoS a:=Z1aj (fmul f1).1 (Z17c ha) (fmul f1).2;have p1:=Z17c ha;have p2:=Z17c hb;refine⟨⟨p1.1,hb.1⟩,?_⟩;rintro _ rfl;intro y f2;obtain rfl:y=mulQ twoS b:=Z1aj (fmul f2).1 p2 (fmul f2).2;refine⟨⟨ha.1,p2.1⟩,?_⟩;rintro _ rfl;refine⟨⟨(Z1ku p1 hb).1,(Z1ku ha p2).1⟩,?_⟩;rintro _ rfl;rfl
def Zca:=λ(a b:Nat)(post:Nat × Unit->Prop)=>∀(a_1:Nat),FRes f64 (f64.format.mul 4611686018427387904 a) a_1->∀
 (a_2:Nat),FRes f64 (f64.format.mul a_1 b) a_2->∀(a_3:Nat),FRes f64 (f64.format.add a b) a_3->∀(a:Nat),FRes
 f64 (f64.format.div a_2 a_3) a->∀ a_4,a_4=fcmp Go.BinOp.neq (f64.format.order a a)->Br a_4 (post (0,())) (∃(h:WI a 0),∀
 a_5,a_5=(Z129 a 0).1->Br a_5 (post (0,())) (post (a,())))
theorem Zpz(a:Nat)(b:Nat)(h:Zei a b):Zca  a b (λr=>r=Z135 a b):=by
 intro x f1;have q1:=fmul f1;intro y f2;have q2:=fmul f2;intro z f3;have q3:=fadd f3;intro s f4;have q4:=fdiv f4
 have e:Z8 s=Z133 a b:=by
  unfold Z133;rw[q4.1];exact Zea (by rw[q2.1,Z4c]; exact Z42 (by rw[q1.1,Z4c]; rfl) rfl) (by rw[q3.1,Zm9])
 have en:fcmp .neq (f64.format.order s s)=isN s:=Z7h s;rintro _ rfl;rw[en]
 have key:Zeh a b=if isN s||decide (Z1 (Z8 s)=infR)then 0 else Z8 s:=by
  unfold Zeh;rw[<- e,Z32]
 refine Br.intro (λg=>?_) λg=>?_
 ·show(0,())=r1 (Zeh a b);rw[key,if_pos (by rw[g]; rfl)]; rfl
 have hq:Z8 s=s:=Zia g;rw[hq]at key;refine⟨q4.2,?_⟩;rintro _ rfl
 have hi:(Z129 s 0).1=decide (Z1 s=infR):=by
  show infS s 0=_;unfold infS; rw[if_pos rfl]
 rw[hi];refine Br.intro (λg2=>?_) λg2=>?_
 ·show(0,())=r1 (Zeh a b);rw[key,if_pos (by rw[g2]; simp)]; rfl
 ·show(s,())=r1 (Zeh a b);rw[key,if_neg (by rw[g,g2]; decide)]; rfl
def Zyp:=λ(a:Nat)(post:Int × Unit->Prop)=>∃(h:True),post ((Z65 a).fst,())
theorem Z1j5(a:Nat):Zyp  a (λr=>r=Z65 a):=by
 exact⟨trivial,rfl⟩
def Zyq:=λ(a b:Nat)(post:Bool × Unit->Prop)=>∃(h:True),∃(h:True),∀(a_1:Bool),a_1=((Z65 a).fst==(Z65 b).fst)->post (a_1,())
theorem Z1j6(a:Nat)(b:Nat):Zyq  a b (λr=>r=Zh2 a b):=by
 refine⟨trivial,trivial,?_⟩;rintro _ rfl;exact congrArg r1 (Z1kc a b)
def Zqb:=λ(post:Nat × Unit->Prop)=>∃(h:True),post ((Zwl 9221120237041090561).fst,())
theorem Z1c3  : Zqb   (λr=>r=qnR):=by
 exact⟨trivial,rfl⟩
def Zyr:=λ(a:Nat)(post:Nat × Unit->Prop)=>∃(h:True),∃(h:True),post ((Zwl (Go.bits Go.BinOp.andNot u64 (Z65 a).fst (9223372036854775808:
 Int))).fst,())
theorem Z1j7(a:Nat)(h:W64 a):Zyr  a (λr=>r=absR a):=by
 refine⟨trivial,trivial,?_⟩;show r1 (Go.bits .andNot .u64 (a:Int) 9223372036854775808).toNat=_;rw[Z1iu h]; rfl
def Zqc:=λ(a:Nat)(post:Bool × Unit->Prop)=>∀(a_1:Bool),a_1=fcmp Go.BinOp.neq (f64.format.order a a)->post (a_1,())
theorem Z1c4(a:Nat):Zqc  a (λr=>r=nanR a):=by
 rintro _ rfl;exact congrArg r1 (Z7h a)
def Zqd:=λ(a:Nat)(post:Nat × Unit->Prop)=>∀(a_1:Bool),a_1=fcmp Go.BinOp.neq (f64.format.order a a)->Br a_1 (∃(h:True),post (qnR.fst,
 ())) (∀(a_2:Bool),a_2=fcmp Go.BinOp.eql (f64.format.order a 0)->Br a_2 (post (0,())) (post (a,())))
theorem Z1c5(a:Nat):Zqd  a (λr=>r=Zt a):=by
 rintro _ rfl;refine Br.intro (λe=>⟨trivial,?_⟩) λe=>?_
 ·have e:isN a=true:=(Z7h a).symm.trans e;exact congrArg r1 (by unfold Z13; rw[if_pos e]; rfl)
 ·have e:isN a=false:=(Z7h a).symm.trans e;rintro _ rfl;refine Br.intro (λz=>?_) λz=>?_
  ·have z:=(Z1fi a).symm.trans z;rw[e]at z;exact congrArg r1 (by unfold Z13; rw[e,if_neg (by simp),if_pos (by simpa using z)])
  ·have z:=(Z1fi a).symm.trans z;rw[e]at z;exact congrArg r1 (by unfold Z13; rw[e,if_neg (by simp),if_neg (by simpa using z)])
def Zup:=λ(a:Nat)(post:Nat × Unit->Prop)=>∃(h:True),∀(a_1:Bool),a_1=(nanR a).fst->Br a_1 (∃(h:True),post ((Zwl (9221120237041090561:
 Int)).fst,())) (post (a,()))
theorem Z1h1(a:Nat):Zup  a (λr=>r=Z1fk a):=by
 refine⟨trivial,?_⟩;rintro _ rfl;refine Br.intro (λe=>⟨trivial,?_⟩) λe=>?_
 ·have e:isN a=true:=e;exact congrArg r1 (by unfold Z8; rw[if_pos e]; rfl)
 ·have e:isN a=false:=e;exact congrArg r1 (by unfold Z8; rw[e]; rfl)
def Zit:=λ(a:Nat)(post:Int × Unit->Prop)=>∃(h:True),∃(h:(0:Int)<=1),post (u64.wrap ((Z65 a).fst*2 ^ Min.min
 (Int.toNat 1) u64.bits),())
theorem Z106(a:Nat)(h:W64 a):Zit  a (λr=>r=Z1e4 a):=by
 refine⟨trivial,by decide,?_⟩;refine congrArg r1 ?_;show u64.wrap ((a:Int)*2 ^ 1)=_;rw[IntKind.wrap_u64]; unfold mag2 magI Z1 sw; omega
def Zqe:=λ(a:Nat)(post:Int × Unit->Prop)=>∃(h:True),∀(a_1:Bool),a_1=decide ((Z65 a).fst>=9223372036854775808)->Br a_1 (post (Go.bits
 Go.BinOp.xor u64 (if u64.signed=true then(-1:Int)else u64.max) (Z65 a).fst,())) (post (Go.bits Go.BinOp.or u64 (Z65 a).fst
 9223372036854775808,()))
theorem Z1c6(a:Nat)(h:W64 a):Zqe  a (λr=>r=Z128 a):=by
 refine⟨trivial,?_⟩;rintro _ rfl;refine Br.intro (λe=>?_) λe=>?_
 ·have e:9223372036854775808<=a:=by have:=of_decide_eq_true e; dsimp only[Z65,r1]at this; omega
  refine congrArg r1 ?_;show Go.bits .xor .u64 _ (a:Int)=_;unfold Zf2; rw[if_pos ((Zma h).2 e)];exact Z1s2 h
 ·have e:a<9223372036854775808:=by have:=of_decide_eq_false e; dsimp only[Z65,r1]at this; omega
  refine congrArg r1 ?_;show Go.bits .or .u64 (a:Int) 9223372036854775808=_;unfold Zf2; rw[if_neg (by rw[Zma h]; omega)];exact Z1ub e
def Zd0:=λ(a:Int)(post:Bool × Unit->Prop)=>∀(a_1:Bool),a_1=(a != a)->post (a_1,())
theorem Zsp(a:Int):Zd0  a (λr=>r=noR a):=by
 rintro _ rfl;exact congrArg r1 (by simp)
def Zb2:=λ(a b:Int)(post:Int × Unit->Prop)=>∃(h:True),∀(a_1:Bool),a_1=(noR a).fst->∃(h:True),∀(a_2:Bool),a_2=(noR b).fst->Br a_1
 (Br a_2 (post (0,())) (post ((-1:Int),()))) (Br a_2 (post (1,())) (∀(a_3:Bool),a_3=decide (a<b)->Br a_3 (post ((-1:Int),())) (∀(a_4:Bool),a_4
 = decide (a > b)->Br a_4 (post (1,())) (post (0,())))))
theorem Zmu(a:Int)(b:Int):Zb2  a b (λr=>r=cmpR a b):=by
 refine⟨trivial,?_⟩;rintro _ rfl;refine⟨trivial,?_⟩;rintro _ rfl;refine Br.intro (λe=>by cases e) λ_=>Br.intro (λe=>by cases e) λ_=>?_;rintro _ rfl;refine Br.intro (λe=>?_) λe=>?_
 ·exact congrArg r1 (by unfold cmpI; rw[if_pos (of_decide_eq_true e)])
 ·rintro _ rfl;refine Br.intro (λf=>?_) λf=>?_
  ·exact congrArg r1 (by unfold cmpI; rw[if_neg (of_decide_eq_false e),if_pos (of_decide_eq_true f)])
  ·exact congrArg r1 (by unfold cmpI; rw[if_neg (of_decide_eq_false e),if_neg (of_decide_eq_false f)])
def Zqf:=λ(a b:Nat)(post:Int × Unit->Prop)=>∃(h:W64 a),∃(h:W64 b),∃(h:True),post ((cmpR (Z128 a).fst (Z128 b).fst).fst,())
theorem Z1c7(a:Nat)(b:Nat)(h:W2 a b):Zqf  a b (λr=>r=ordR a b):=by
 exact⟨h.1,h.2,trivial,rfl⟩
def Zqg:=λ(a:List Int)(post:Int × Unit->Prop)=>HIs [] []/\∃(I:Int × Unit->Unit->Prop),∃(μ:Int × Unit->Unit->Nat),I (0,()) ()/\∀(x:
 Int × Unit) (y:Unit),I x y->∀(a_1:Bool),a_1=decide (x.fst<(↑a.length:Int))->Br a_1 (∃(h:0<=x.fst/\x.fst<(↑a.length:Int)),∀(a_2:Bool),a_2=
 (a.getD x.fst.toNat (0:Int) != 0)->Br a_2 (post (a.getD x.fst.toNat 0,())) (HIs [] []/\I (i64.wrap (x.fst+1),()) ()/\μ (i64.wrap
 (x.fst+1),()) ()<μ x y)) (post (0,()))
theorem Z1c8(a:List Int)(w:KS.wf [.slice (.int .i64)] (a,())):Zqg  a (λr=>r=orR a):=by
 have hl:a.length<=maxN:=w.1.1;unfold maxN at hl;refine⟨rfl,λx _=>∃ i:Nat,x.1=i/\i<=a.length/\Zdb (a.drop i)=Zdb a,λx _=>a.length - x.1.toNat,⟨0,rfl,by omega,rfl⟩,?_⟩;rintro⟨_,⟨⟩⟩ _ ⟨i,hi,hil,hn⟩;dsimp only at hi;subst hi;rintro _ rfl;refine Br.intro (λe=>?_) λe=>?_
 ·have e:i<a.length:=by have:=of_decide_eq_true e; dsimp only at this; omega
  have hd:a.drop i=a.getD i 0 :: a.drop (i+1):=by
   rw[List.drop_eq_getElem_cons e,List.getD_eq_getElem?_getD,List.getElem?_eq_getElem e]; rfl
  rw[hd]at hn;simp only[Int.toNat_natCast];refine⟨⟨by omega,by omega⟩,?_⟩;rintro _ rfl;refine Br.intro (λz=>?_) λz=>⟨rfl,⟨i+1,?_,by omega,?_⟩,?_⟩
  ·have z:a.getD i 0≠0:=by simpa using z
   refine congrArg r1 ?_;rw[<- hn]; unfold Zdb; rw[if_pos z]
  ·rw[wi ⟨by omega,by omega⟩]; omega
  ·have z:a.getD i 0=0:=by simpa using z
   rw[<- hn,z]; rfl
  ·rw[wi ⟨by omega,by omega⟩]; omega
 ·have e:a.length<=i:=by have:=of_decide_eq_false e; dsimp only at this; omega
  refine congrArg r1 ?_;rw[<- hn,List.drop_eq_nil_of_le e]; rfl
def Zkj:=λ(a b:Nat)(post:Int × Unit->Prop)=>∃(h:W64 a),∃(h:W64 b),∃(h:True),∃(h:W2 a b),∃(h:True),post ((orR [(cmpR (Z1e4 a).fst (Z1e4
 b).fst).fst,(ordR a b).fst]).fst,())
theorem Z143(a:Nat)(b:Nat)(h:W2 a b):Zkj  a b (λr=>r=Zp1 a b):=by
 refine⟨h.1,h.2,trivial,h,trivial,?_⟩;refine congrArg r1 ?_;unfold cmpM;show Zdb [cmpI (mag2 a) (mag2 b),ordF a b]=_;simp only[Zdb];split
 ·rfl
 ·split
  ·rfl
  ·rename_i z; simpa using(by simpa using z:ordF a b=0).symm
def Zqh:=λ(a:Nat)(b:Int)(post:Bool × Unit->Prop)=>∀(a_1:Bool),a_1=(b==0)->Br a_1 (∃(h:W64 a),∀(a_2:Bool),a_2=fcmp Go.BinOp.gtr
 (f64.format.order (absR a).fst 9218868437227405311)->post (a_2,())) (∀(a_2:Bool),a_2=decide (b<0)->Br a_2 (∀(a_3:Bool),a_3=fcmp
 Go.BinOp.gtr (f64.format.order (Go.Op.negFloat f64 a) 9218868437227405311)->post (a_3,())) (∀(a_3:Bool),a_3=fcmp Go.BinOp.gtr
 (f64.format.order a 9218868437227405311)->post (a_3,())))
theorem Z1c9(a:Nat)(b:Int)(h:WI a b):Zqh  a b (λr=>r=Z129 a b):=by
 have h:W64 a:=h;rintro _ rfl;refine Br.intro (λe=>⟨h,?_⟩) λe=>?_
 ·have e:b=0:=by simpa using e
  rintro _ rfl;refine congrArg r1 ?_;show fcmp .gtr (Ieee.double.order (Z1 a) 9218868437227405311)=_;unfold infS; rw[if_pos e,Z1fl];have:=Z16r a;have e1:Z1 (Z1 a)=Z1 a:=Zhl this;have e2:sgn (Z1 a)=false:=by rw[Z1kb (by unfold W64; omega)]; simp; omega
  rw[e1,e2]; simp
 ·have e:b≠0:=by simpa using e
  rintro _ rfl;refine Br.intro (λf=>?_) λf=>?_
  ·have f:b<0:=of_decide_eq_true f;rintro _ rfl;refine congrArg r1 ?_;show fcmp .gtr (Ieee.double.order (negF a) 9218868437227405311)=_;unfold infS; rw[if_neg e,if_pos f,Z1fl,(Zu1 h).1,Zzr h]; simp
  ·have f:¬ b<0:=of_decide_eq_false f;rintro _ rfl;refine congrArg r1 ?_;show fcmp .gtr (Ieee.double.order a 9218868437227405311)=_;unfold infS; rw[if_neg e,if_neg f,Z1fl]
section
open Go.Proofs
def Zys:Cx:=⟨Z1v Z26,Z23 [],SqG⟩
theorem Z17n:CxOk Tryz.prog Zys:=⟨Zn Z12,λf c h=>by cases h⟩
def Z7m:Con:=.det [.flt .f64] [.snap (.int .u64)] (λ_=>True) (λx=>Z65 x.1)
theorem Zcb:Z7m.holds Tryz.prog SqG 100:=by
 refine Z1mm (fn:=Tryz.f100) Tryz.func100 (by decide) rfl rfl (by kernel_rfl)
def Zyt:Cx:=addC 100 Z7m Zys
theorem Z17o:CxOk Tryz.prog Zyt:=Zk Z17n Zcb
def Z8w:Con:=.det [.int .u64] [.snap (.flt .f64)] (λ_=>True) (λx=>Zwl x.1)
theorem Ziu:Z8w.holds Tryz.prog SqG 200:=by
 refine Z1mn (fn:=Tryz.f200) Tryz.func200 (by decide) rfl rfl (by kernel_rfl)
def Zyu:Cx:=addC 200 Z8w Zyt
theorem Z9g:CxOk Tryz.prog Zyu:=Zk Z17o Ziu
def Zqi:Con:=.rel [.flt .f64] [.snap (.flt .f64)] (λ_=>True) (λx r=>Zjv x.1 r) (λx h=>Z1ka (Z1k8 _) (Z16o _))
theorem Z1ca:Zqi.holds Tryz.prog SqG 246:=by
 refine Z1sv (fn:=Tryz.f246) Tryz.func246 (by decide) rfl rfl (by kernel_rfl)
def Zuq:Con:=.det [.flt .f64] [.snap (.int .u64)] (λ_=>True) (λx=>Z65 x.1)
theorem Z1h2:SqH Zuq 93:=
 dP Z9g Z5 Zc nHn Tryz.func93 (λx p=>Zyp  x.1 p) λx _ _=>Z1j5  x.1
def Zcc:Con:=.det [.flt .f64,.flt .f64] [.snap .bool] (λ_=>True) (λx=>Zh2 x.1 x.2.1)
theorem Ziv:SqH Zcc 44:=
 dP Z9g Z5 Zc nHn Tryz.func44 (λx p=>Zyq  x.1 x.2.1 p) λx _ _=>Z1j6  x.1 x.2.1
def Zdk:Con:=.det [] [.snap (.flt .f64)] (λ_=>True) (λx=>qnR)
theorem Zmv:SqH Zdk 172:=
 dP Z9g Z5 Zc nHn Tryz.func172 (λx p=>Zqb   p) λx _ _=>Z1c3
def Zyv:Cx:=addC 172 Zdk Zyu
theorem Zmw:CxOk Tryz.prog Zyv:=Zk Z9g Zmv
def Z8x:Con:=.det [.flt .f64] [.snap (.flt .f64)] (λx=>W64 x.1) (λx=>absR x.1)
theorem Zcd:SqH Z8x 152:=
 dP Zmw Z5 Zc nHn Tryz.func152 (λx p=>Zyr  x.1 p) λx h _=>Z1j7  x.1 h
def Zyw:Cx:=addC 152 Z8x Zyv
theorem Zmx:CxOk Tryz.prog Zyw:=Zk Zmw Zcd
def Zdl:Con:=.det [.flt .f64] [.snap .bool] (λ_=>True) (λx=>nanR x.1)
theorem Zmy:SqH Zdl 201:=
 dP Zmx Z5 Zc nHn Tryz.func201 (λx p=>Zqc  x.1 p) λx _ _=>Z1c4  x.1
def Zyx:Cx:=addC 201 Zdl Zyw
theorem Z9h:CxOk Tryz.prog Zyx:=Zk Zmx Zmy
def Z4i:Con:=.det [.flt .f64] [.snap (.flt .f64)] (λ_=>True) (λx=>Zt x.1)
theorem Z5h:SqH Z4i 99:=
 dP Z9h Z5 Zc nHn Tryz.func99 (λx p=>Zqd  x.1 p) λx _ _=>Z1c5  x.1
def Zqj:Con:=.det [.flt .f64] [.snap (.flt .f64)] (λ_=>True) (λx=>Z1fk x.1)
theorem Z1cb:SqH Zqj 276:=
 dP Z9h Z5 Zc nHn Tryz.func276 (λx p=>Zup  x.1 p) λx _ _=>Z1h1  x.1
def Zgj:Con:=.det [.flt .f64] [.snap (.int .u64)] (λx=>W64 x.1) (λx=>Z1e4 x.1)
theorem Zxl:SqH Zgj 250:=
 dP Z9h Z5 Zc nHn Tryz.func250 (λx p=>Zit  x.1 p) λx h _=>Z106  x.1 h
def Zur:Cx:=addC 250 Zgj Zyx
theorem Zkk:CxOk Tryz.prog Zur:=Zk Z9h Zxl
def Zmz:Con:=.det [.flt .f64] [.snap (.int .u64)] (λx=>W64 x.1) (λx=>Z128 x.1)
theorem Z17p:SqH Zmz 242:=
 dP Zkk Z5 Zc nHn Tryz.func242 (λx p=>Zqe  x.1 p) λx h _=>Z1c6  x.1 h
def Zus:Cx:=addC 242 Zmz Zur
theorem Zkl:CxOk Tryz.prog Zus:=Zk Zkk Z17p
def Zce:Con:=.det [.int .u64] [.snap .bool] (λ_=>True) (λx=>noR x.1)
theorem Zq0:SqH Zce 272:=
 dP Zkl Z5 Zc nHn Tryz.func272 (λx p=>Zd0  x.1 p) λx _ _=>Zsp  x.1
def Zut:Cx:=addC 272 Zce Zus
theorem Zkm:CxOk Tryz.prog Zut:=Zk Zkl Zq0
def Za2:Con:=.det [.int .u64,.int .u64] [.snap (.int .i64)] (λ_=>True) (λx=>cmpR x.1 x.2.1)
theorem Zlx:SqH Za2 241:=
 dP Zkm Z5 Zc nHn Tryz.func241 (λx p=>Zb2  x.1 x.2.1 p) λx _ _=>Zmu  x.1 x.2.1
def Zuu:Cx:=addC 241 Za2 Zut
theorem Zkn:CxOk Tryz.prog Zuu:=Zk Zkm Zlx
def Z9i:Con:=.det [.flt .f64,.flt .f64] [.snap (.int .i64)] (λx=>W2 x.1 x.2.1) (λx=>ordR x.1 x.2.1)
theorem Zdm:SqH Z9i 204:=
 dP Zkn Z5 Zc nHn Tryz.func204 (λx p=>Zqf  x.1 x.2.1 p) λx h _=>Z1c7  x.1 x.2.1 h
def Zuv:Cx:=addC 204 Z9i Zuu
theorem Zko:CxOk Tryz.prog Zuv:=Zk Zkn Zdm
def Zn0:Con:=.det [.slice (.int .i64)] [.snap (.int .i64)] (λ_=>True) (λx=>orR x.1)
theorem Z17q:SqH Zn0 249:=
 dP Zko Z5 Zc ({loops:=λk=>match k with | 3=>some {ls:=[(.slot 8,.data (.int .i64))],os:=[]} | _=>none,joins:=λ_=>none,named:=true}) Tryz.func249 (λx p=>Zqg  x.1 p) λx _ w=>Z1c8  x.1 w
def Z1h3:Cx:=addC 249 Zn0 Zuv
theorem Zkp:CxOk Tryz.prog Z1h3:=Zk Zko Z17q
def Ziw:Con:=.det [.flt .f64,.flt .f64] [.snap (.int .i64)] (λx=>W2 x.1 x.2.1) (λx=>Zp1 x.1 x.2.1)
theorem Z107:SqH Ziw 248:=
 dP Zkp Z5 Zc nHn Tryz.func248 (λx p=>Zkj  x.1 x.2.1 p) λx h _=>Z143  x.1 x.2.1 h
def Zdn:Con:=.det [.flt .f64,.int .i64] [.snap .bool] (λx=>WI x.1 x.2.1) (λx=>Z129 x.1 x.2.1)
theorem Zn1:SqH Zdn 240:=
 dP Zkp Z5 Zc nHn Tryz.func240 (λx p=>Zqh  x.1 x.2.1 p) λx h _=>Z1c9  x.1 x.2.1 h
end
def Zkq:=λ(a:Int)(post:Nat × Unit->Prop)=>post (f64.nearest a,())
theorem Z144(a:Int):Zkq  a (λr=>r=ofIR a):=by
 exact rfl
def Zn2:=λ(a b:Int)(post:Nat × Unit->Prop)=>∀ a_1,a_1=decide (a<1)->Br a_1 (post (0,())) (∀ a_2,a_2=decide (b<1)->Br a_2 (post
 (0,())) (∃(h:True),∃(h:True),∀(a_3:Nat),FRes f64 (f64.format.div (ofIR a).1 (ofIR b).1) a_3->post (a_3,())))
theorem Z17r(a:Int)(b:Int)(h:II a b):Zn2  a b (λr=>r=Z50 a b):=by
 rintro _ rfl;refine Br.intro (λe=>?_) λe=>?_
 ·exact congrArg r1 (by unfold Z7q; rw[if_pos (.inl (of_decide_eq_true e))])
 ·rintro _ rfl;refine Br.intro (λf=>?_) λf=>?_
  ·exact congrArg r1 (by unfold Z7q; rw[if_pos (.inr (of_decide_eq_true f))])
  ·have e:=of_decide_eq_false e;have f:=of_decide_eq_false f;refine⟨trivial,trivial,λr hr=>congrArg r1 ?_⟩;rw[Z1kf h.1 (by omega) h.2 hr];unfold Z7q; rw[if_neg (by omega)]
def Zqk:=λ(a:Nat)(post:Nat × Unit->Prop)=>∃(h:WNum a),post ((Zf4 a).1,())
theorem Z1cc(a:Nat)(h:WNum a):Zqk  a (λr=>r=Zf4 a):=by
 exact⟨h,rfl⟩
def Zuw:=λ(a:Nat)(post:Int × Unit->Prop)=>∃(h:WNum a),∀(a_1:Int),F2I f64 (Zf4 a).1 u64 a_1->∀(a_2:Nat),FRes
 f64 (f64.format.sub a (Zf4 a).1) a_2->∀ a,a=fcmp Go.BinOp.gtr (f64.format.order a_2 4602678819172646912)->Br a (post
 (u64.wrap (a_1+1),())) (∀ a,a=fcmp Go.BinOp.eql (f64.format.order a_2 4602678819172646912)->Br a (∃(h:(2:Int)≠0),∀ a,a=
 (a_1.tmod (2:Int)==1)->Br a (post (u64.wrap (a_1+1),())) (post (a_1,()))) (post (a_1,())))
theorem Z1h4(a:Nat)(h:Zp3 a):Zuw  a (λr=>r=Zp2 a):=by
 have hw:W64 a:=by unfold Zp3 Z1d at h; unfold W64; omega
 have hn:isN a=false:=by
  have:=(Zf3 (r:=a) (by unfold Zp3 Z1d at h; omega)).2.1;unfold isN; rw[this,decide_eq_false_iff_not]; unfold Zp3 Z1d at h; unfold infR; omega
 refine⟨⟨hw,hn⟩,?_⟩;intro n hn2;have hn2:=Z1p9 h hn2;subst hn2;intro d hd;have hd:∀ z,Ieee.double.order d z=Ieee.double.order (subQ a (Z1p a)) z:=Z12k hd;obtain⟨_,r1',r2'⟩:=Z19z h;have hwp:u64.wrap (Z5m (Z1p a)+1)=Z5m (Z1p a)+1:=wu1 ⟨by omega,by omega⟩;have tm:(Z5m (Z1p a)).tmod 2=Z5m (Z1p a) % 2:=Int.tmod_eq_emod_of_nonneg r1';rintro _ rfl;refine Br.intro (λe=>?_) λe=>?_
 ·rw[show f64.format.order d 4602678819172646912=_ from hd _]at e;exact congrArg r1 (by rw[hwp]; unfold Z4l; rw[if_pos (by rw[show fcmp .gtr (Ieee.double.order (subQ a (Z1p a)) Z3w)=true from e]; rfl)])
 ·rw[show f64.format.order d 4602678819172646912=_ from hd _]at e;rintro _ rfl;refine Br.intro (λf=>?_) λf=>?_
  ·rw[show f64.format.order d 4602678819172646912=_ from hd _]at f;refine⟨by decide,?_⟩;rintro _ rfl;refine Br.intro (λg=>?_) λg=>?_
   ·rw[tm]at g;exact congrArg r1 (by rw[hwp]; unfold Z4l; rw[if_pos (by rw[show fcmp .eql (Ieee.double.order (subQ a (Z1p a)) Z3w)=true from f,g,Bool.true_and,Bool.or_true])])
   ·rw[tm]at g;exact congrArg r1 (by unfold Z4l; rw[if_neg (by rw[show fcmp .gtr (Ieee.double.order (subQ a (Z1p a)) Z3w)=false from e,g,Bool.and_false]; decide)])
  ·rw[show f64.format.order d 4602678819172646912=_ from hd _]at f;exact congrArg r1 (by unfold Z4l; rw[if_neg (by rw[show fcmp .gtr (Ieee.double.order (subQ a (Z1p a)) Z3w)=false from e,show fcmp .eql (Ieee.double.order (subQ a (Z1p a)) Z3w)=false from f,Bool.false_and]; decide)])
def Zql:=λ(a:Nat)(post:Int × Bool × Unit->Prop)=>∃(h:W64 a),∀ a_1,a_1=fcmp Go.BinOp.lss (f64.format.order (absR a).1 (4890909195324358656
 : Nat))->Br a_1 (∃(h:Zp3 (absR a).1),∀ a_2,a_2=fcmp Go.BinOp.lss (f64.format.order a 0)->Br a_2 (post (i64.wrap (0 -
 i64.wrap (Zp2 (absR a).1).1),true,())) (post (i64.wrap (Zp2 (absR a).1).1,true,()))) (∀ a_2,a_2=fcmp Go.BinOp.eql
 (f64.format.order a 14114281232179134464)->Br a_2 (post ((-9223372036854775808:Int),true,())) (post (0,false,())))
theorem Z1cd(a:Nat)(h:W64 a):Zql  a (λr=>r=Zib a):=by
 refine⟨h,?_⟩;rintro _ rfl;refine Br.intro (λe=>?_) λe=>?_
 ·have e:fcmp .lss (Ieee.double.order (Z1 a) Z1d)=true:=e;rw[Zzu]at e;have e:=of_decide_eq_true e;have hn:isN a=false:=by unfold isN; rw[decide_eq_false_iff_not]; unfold Z1d at e; unfold infR; omega
  refine⟨e,?_⟩;rintro _ rfl;refine Br.intro (λf=>?_) λf=>?_
  ·rw[show fcmp .lss (f64.format.order a 0)=_ from Zp4 hn]at f;unfold Zib Z66; rw[if_pos e,if_pos f]; rfl
  ·rw[show fcmp .lss (f64.format.order a 0)=_ from Zp4 hn]at f;unfold Zib Z66; rw[if_pos e,if_neg (by rw[f]; decide)]; rfl
 ·have e:fcmp .lss (Ieee.double.order (Z1 a) Z1d)=false:=e;rw[Zzu]at e;have e:=of_decide_eq_false e;rintro _ rfl;refine Br.intro (λf=>?_) λf=>?_
  ·rw[show fcmp .eql (f64.format.order a 14114281232179134464)=_ from Z1ke h]at f;unfold Zib Z66; rw[if_neg e,if_pos (show a=Z1d+9223372036854775808 from of_decide_eq_true f)]
  ·rw[show fcmp .eql (f64.format.order a 14114281232179134464)=_ from Z1ke h]at f;unfold Zib Z66; rw[if_neg e,if_neg (show ¬ a=Z1d+9223372036854775808 from of_decide_eq_false f)]
section
open Go.Proofs
def Z145:Cx:=⟨Z1v Z26,Z23 [(152,Z8x)],SqG⟩
theorem Zqm:CxOk Tryz.prog Z145:=⟨Zn Z12,Zr ⟨Zcd,trivial⟩⟩
def Zae:Con:=.det [.int .i64] [.snap (.flt .f64)] (λ_=>True) (λx=>ofIR x.1)
theorem Zix:SqH Zae 167:=
 dP Zqm Z5 Zc nHn Tryz.func167 (λx p=>Zkq  x.1 p) λx _ _=>Z144  x.1
def Z146:Cx:=addC 167 Zae Z145
theorem Zqn:CxOk Tryz.prog Z146:=Zk Zqm Zix
def Z6f:Con:=.det [.int .i64,.int .i64] [.snap (.flt .f64)] (λx=>II x.1 x.2.1) (λx=>Z50 x.1 x.2.1)
theorem Z88:SqH Z6f 89:=
 dP Zqn Z5 Zc nHn Tryz.func89 (λx p=>Zn2  x.1 x.2.1 p) λx h _=>Z17r  x.1 x.2.1 h
def Zfr:Con:=.det [.flt .f64] [.snap (.flt .f64)] (λx=>WNum x.1) (λx=>Zf4 x.1)
theorem Zux:Zfr.holds Tryz.prog SqG 270:=by
 refine Z1q3 (fn:=Tryz.f270) Tryz.func270 (by decide) rfl rfl (by kernel_rfl)
def Z147:Cx:=addC 270 Zfr Z146
theorem Zqo:CxOk Tryz.prog Z147:=Zk Zqn Zux
def Zn3:Con:=.det [.flt .f64] [.snap (.flt .f64)] (λx=>WNum x.1) (λx=>Zf4 x.1)
theorem Z17s:SqH Zn3 236:=
 dP Zqo Z5 Zc nHn Tryz.func236 (λx p=>Zqk  x.1 p) λx h _=>Z1cc  x.1 h
def Z148:Cx:=addC 236 Zn3 Z147
theorem Zqp:CxOk Tryz.prog Z148:=Zk Zqo Z17s
def Zg4:Con:=.det [.flt .f64] [.snap (.int .u64)] (λx=>Zp3 x.1) (λx=>Zp2 x.1)
theorem Zqq:SqH Zg4 202:=
 dP Zqp Z5 Zc nHn Tryz.func202 (λx p=>Zuw  x.1 p) λx h _=>Z1h4  x.1 h
def Z1n8:Cx:=addC 202 Zg4 Z148
theorem Z1ce:CxOk Tryz.prog Z1n8:=Zk Zqp Zqq
def Zn4:Con:=.det [.flt .f64] [.snap (.int .i64),.snap .bool] (λx=>W64 x.1) (λx=>Zib x.1)
theorem Z17t:SqH Zn4 176:=
 dP Z1ce Z5 Zc nHn Tryz.func176 (λx p=>Zql  x.1 p) λx h _=>Z1cd  x.1 h
end
end Go.Lift
namespace Go.Lift
end Go.Lift
namespace Go.Lift
section
open Go.Proofs
end
end Go.Lift
namespace Go.Lift
end Go.Lift
namespace Go.Lift
section
open Go.Proofs
end
section
open Go.Proofs
def Z1ax:Cx:=⟨Z1v Z26,Z23 [(172,Zdk),(204,Z9i),(89,Z6f),(99,Z4i),(201,Zdl),(152,Z8x),(202,Zg4),(240,Zdn)],SqG⟩
theorem Zuy:CxOk Tryz.prog Z1ax:=⟨Zn Z12,Zr ⟨Zmv,Zdm,Z88,Z5h,Zmy,Zcd,Zqq,Zn1,trivial⟩⟩
def Ziy:Con:=Con.nam [.flt .f64,.flt .f64] [.snap (.flt .f64)] (λx=>W2 x.1 x.2.1) (λx=>Z131 x.1 x.2.1)
theorem Zuz:SqH Ziy 157:=
 nP Zuy Z5 Zc ({loops:=Z11 [],joins:=λ_=>none,named:=true}) Tryz.func157 (λx p=>Zyn  x.1 x.2.1 p) λx h _=>Z1j3  x.1 x.2.1 h
def Z1ay:Cx:=addC 157 Ziy Z1ax
theorem Zv0:CxOk Tryz.prog Z1ay:=Zk Zuy Zuz
def Zcf:Con:=Con.nam [.flt .f64,.flt .f64] [.snap (.flt .f64)] (λx=>W2 x.1 x.2.1) (λx=>Zh9 x.1 x.2.1)
theorem Ziz:SqH Zcf 158:=
 nP Zv0 Z5 Zc ({loops:=Z11 [],joins:=λ_=>none,named:=true}) Tryz.func158 (λx p=>Zyo  x.1 x.2.1 p) λx h _=>Z1j4  x.1 x.2.1 h
def Z1qz:Cx:=addC 158 Zcf Z1ay
theorem Z75:CxOk Tryz.prog Z1qz:=Zk Zv0 Ziz
def Z89:Con:=Con.nam [.flt .f64,.int .i64,.int .i64] [.snap (.flt .f64)] (λx=>Zfi x.1 x.2.1 x.2.2.1) (λx=>Zil x.1 x.2.1 x.2.2.1)
theorem Zcg:SqH Z89 92:=
 nP Z75 Z5 Zc nHn Tryz.func92 (λx p=>Zms  x.1 x.2.1 x.2.2.1 p) λx h _=>Z17l  x.1 x.2.1 x.2.2.1 h
def Zdo:Con:=Con.nam [.flt .f64,.int .i64] [.snap (.int .i64)] (λx=>Z132 x.1 x.2.1) (λx=>Zu9 x.1 x.2.1)
theorem Zn5:SqH Zdo 153:=
 nP Z75 Z5 Zc ({loops:=Z11 [],joins:=λ_=>none,named:=true}) Tryz.func153 (λx p=>Zqa  x.1 x.2.1 p) λx h _=>Z1c2  x.1 x.2.1 h
def Zch:Con:=Con.nam [.int .i64] [.snap .bool] (λ_=>True) (λx=>Zim x.1)
theorem Zkr:SqH Zch 61:=
 nP Z75 Z5 Zc ({loops:=Z11 [],joins:=λ_=>none,named:=true}) Tryz.func61 (λx p=>Zmt  x.1 p) λx _ _=>Z17m  x.1
def Zb3:Con:=Con.nam [.flt .f64,.flt .f64] [.snap (.flt .f64)] (λ_=>True) (λx=>Zfl x.1 x.2.1)
theorem Zn6:SqH Zb3 237:=
 nP Z75 Z5 Zc nHn Tryz.func237 (λx p=>Zc8  x.1 x.2.1 p) λx _ _=>Zpx  x.1 x.2.1
def Zb4:Con:=Con.nam [.flt .f64,.flt .f64] [.snap (.flt .f64)] (λx=>Zei x.1 x.2.1) (λx=>supR x.1 x.2.1)
theorem Zn7:SqH Zb4 238:=
 nP Z75 Z5 Zc nHn Tryz.func238 (λx p=>Zc9  x.1 x.2.1 p) λx h _=>Zpy  x.1 x.2.1 h
def Zb5:Con:=Con.nam [.flt .f64,.flt .f64] [.snap (.flt .f64)] (λx=>Zei x.1 x.2.1) (λx=>Z135 x.1 x.2.1)
theorem Zn8:SqH Zb5 239:=
 nP Z75 Z5 Zc ({loops:=Z11 [],joins:=λ_=>none,named:=true}) Tryz.func239 (λx p=>Zca  x.1 x.2.1 p) λx h _=>Zpz  x.1 x.2.1 h
end
def Zqr:=λ(bed:Nat)(k:Int)(lv:Nat)(post:Int × Unit->Prop)=>∀ a,a=fcmp Go.BinOp.gtr (f64.format.order lv bed)->Br (!a) (post (0,())) (∀
 a,a=decide (k<1)->Br a (post (0,())) (∀(a:Nat),FRes f64 (f64.format.sub lv bed) a->∃(h:True),∀(a_1:Nat),FRes f64
 (f64.format.mul a (ofIR k).1) a_1->∃(h:Z132 a_1 4503599627370496),∀ a,a=Zu9 a_1 4503599627370496->post (a.1,())))
theorem Z1cf(bed:Nat)(k:Int)(lv:Nat)(h:Z1n0 bed k lv):Zqr  bed k lv (λr=>r=Z1mz bed k lv):=by
 obtain⟨hb,hk,hl⟩:=h;have e0:fcmp .gtr (f64.format.order lv bed)=gtS lv bed:=rfl;rintro _ rfl;refine Br.intro (λq=>?_) λq=>?_
 ·show((0:Int),())=r1 (Z87 bed k lv);unfold Z87; rw[e0]at q; rw[q]; rfl
 rw[e0]at q;rintro _ rfl;refine Br.intro (λr=>?_) λr=>?_
 ·show((0:Int),())=r1 (Z87 bed k lv);unfold Z87; rw[q,r]; rfl
 intro x hx;have hx:=fsub hx;refine⟨trivial,λy hy=>?_⟩;have hy:=fmul hy;refine⟨⟨hy.2,by decide,by decide⟩,λa ha=>?_⟩;have ha:a=Zu9 y 4503599627370496:=ha;subst ha;have e:mulQ x (ofI k)=mulQ (subQ lv bed) (ofI k):=Z42 (by rw[hx.1,Zbm]) rfl;show(Z2f y 4503599627370496,())=r1 (Z87 bed k lv)
 have e2:Z2f y 4503599627370496=Z2f (mulQ (subQ lv bed) (ofI k)) 4503599627370496:=by
  rw[<- Zyk y,hy.1];show Z2f (mulQ x (ofI k)) 4503599627370496=_;rw[e]
 unfold Z87;rw[q,r,e2]; rfl
def Zqs:=λ(g:Option YG)(s:YS)(e:Int)(post:Bool × Unit->Prop)=>∃(h:Zpf g s e),∀ a,a=Za7 g s e->Br a.2.2.1 (∃(h:Z1ej a.1 a.2.1),∀ a_1,
 a_1=Zua a.1 a.2.1->∀ a,a=a_1.1->post (a,())) (post (false,()))
theorem Z1cg(g:Option YG)(s:YS)(e:Int)(h:Zpf g s e):Zqs  g s e (λr=>r=Z1gy g s e):=by
 refine⟨h,λa ha=>?_⟩;have ha:a=Za7 g s e:=ha;subst ha;obtain⟨hN,hb,hw,he⟩:=h;unfold Za7;by_cases q:Z6y g s e=true
 ·rw[if_pos q];obtain⟨n,hn,rfl,hi,hf⟩:=Zuh hN q;have f:=Z48.1 hf;rw[Z1j]at f;obtain⟨r1',r2'⟩:=Z9f hi;refine⟨⟨Z13v hb (by omega),Z13v hb (by omega)⟩,λa ha=>?_⟩;have ha:a=(Zek _ _,()):=ha;subst ha;rintro _ rfl;show(_,())=r1 (Zc2 _ _ _);unfold Zc2;rw[q]; rfl
 ·rw[if_neg q];show(false,())=r1 (Zc2 _ _ _);unfold Zc2;rw[Bool.not_eq_true]at q;rw[q]; rfl
def Zn9(ty29:Nat)(ty22:Nat)(a:List Nat × Unit)(ty2:Nat)(bed:List Nat)(n:Int):List HObj:=[HObj.box Md.rw ty29 [SV.val (Go.Value.slice none (0:Nat) (0:Nat)),SV.val (Go.Value.slice none (0:Nat) (0:Nat)),SV.val (Go.Value.slice none (0:Nat) (0:Nat)),SV.val (Go.Value.slice none (0:Nat) (0:Nat)),SV.val (Go.Value.int i64 (0:Int)),SV.val (Go.Value.int i64 (0:Int))],HObj.row Md.rw ty22 (K.flt f64) a.1,HObj.row Md.rw ty2 (K.int i64) (List.replicate bed.length (0:Int)),HObj.row Md.rw ty22 (K.flt f64) (List.replicate (Zp (newR n).1).1.toNat (0:Nat)),HObj.box Md.rw ty29 [SV.osl (1:Nat) (0:Nat) a.1.length,SV.junk,SV.osl (2:Nat) (0:Nat) bed.length,SV.osl (3:Nat) (0:Nat) (Zp (newR n).1).1.toNat,SV.val (Go.Value.int i64 (0:Int)),SV.val (Go.Value.int i64 (0:Int))]]
def Zqt:=λ(ty29 ty22 ty2:Nat)(n:Int)(bed:List Nat)(lv:Nat)(post:YS × Int × Unit->Prop)=>∃(h:I64 n),∀ a,a=((newR n).2.1 != (0:Int))->Br a
 (post (([],[],[],[],0,0),(newR n).2.1,())) (∃(h:True),∀ a,a=((↑bed.length:Int) != (Zw (newR n).1).1)->Br a (post (([],[],[],[],0,0),12,())) (∃(h:
 WLF bed (4697254411347427328:Nat)),∀ a,a=decide ((Zdc bed (4697254411347427328:Nat)).1>=(0:Int))->Br a (post (([],[],[],[],0,0),13,())) (∀ a,a=fcmp
 Go.BinOp.geq (f64.format.order lv (13920626448202203136:Nat))->Br a (∀ a,a=fcmp Go.BinOp.leq (f64.format.order lv (4697254411347427328:Nat))->Br
 (!a) (post (([],[],[],[],0,0),1,())) (∃(h:Z13g bed),∀ a,a=Z13f bed->∃(h:(0:Int)<=(↑bed.length:Int)/\(↑bed.length:Int)<=(↑bed.length:Int)/\
 (↑bed.length:Int)*(↑(8:Nat):Int)<=(281474976710656:Int)),∃(h:True),∃(h:(0:Int)<=(Zp (newR n).1).1/\(Zp (newR n).1).1<=(Zp (newR n).1).1/\
 (Zp (newR n).1).1*(↑(8:Nat):Int)<=(281474976710656:Int)),HS (Zn9 ty29 ty22 a ty2 bed n)/\∃(I:Int × List Int × Unit->Unit->Prop),∃(μ:Int × List
 Int × Unit->Unit->Nat),I (0,[],()) ()/\∀(x:Int × List Int × Unit)(y:Unit),I x y->∀ a_1,a_1=decide (x.1<(↑bed.length:Int))->Br a_1 (∃(h:(0:Int)<=x.1/\
 x.1<(↑bed.length:Int)),∃(h:True),∃(h:Z1n0 (bed.getD x.1.toNat (0:Nat)) (Z14 (newR n).1 x.1).1 lv),∀ a_2,a_2=Z1mz (bed.getD x.1.toNat (0:Nat)) (Z14
 (newR n).1 x.1).1 lv->∃(h:x.2.1.length=x.2.1.length/\(x.2.1.length+1)*(8:Nat)<=(140737488355328:Nat)),((0:Nat)=(0:Nat)/\x.2.1.length+1=(x.2.1++
 [a_2.1]).length)/\HS (Zn9 ty29 ty22 a ty2 bed n)/\I (i64.wrap (x.1+1),x.2.1++[a_2.1],()) ()/\μ (i64.wrap (x.1+1),x.2.1++[a_2.1],()) () <
 μ x y) (∃(h:Zmd (List.take x.2.1.length (List.drop (0:Nat) x.2.1)) (0:Int)),∀ a_2,a_2=decide ((Zdd (List.take x.2.1.length (List.drop (0:Nat) x.2.1)) (0:
 Int)).1>=(0:Int))->Br a_2 (post (([],[],[],[],0,0),14,())) (((0:Nat)=(0:Nat)/\a.1.length=a.1.length)/\((0:Nat)=(0:Nat)/\x.2.1.length=x.2.1.length)/\
 ((0:Nat)=(0:Nat)/\bed.length=(List.replicate bed.length (0:Int)).length)/\((0:Nat)=(0:Nat)/\(Zp (newR n).1).1.toNat=(List.replicate (Zp (newR
 n).1).1.toNat (0:Nat)).length)/\post ((a.1,x.2.1,List.replicate bed.length (0:Int),List.replicate (Zp (newR n).1).1.toNat (0:Nat),0,0),0,()))))) (post (([],[],
 [],[],0,0),1,())))))
theorem Z1ch(ty0 ty1 ty2:Nat)(n:Int)(bed:List Nat)(lv:Nat)(h:Zxd n bed lv):Zqt ty0 ty1 ty2 n bed lv (λr=>r=Z80 n bed lv):=by
 obtain⟨hn,hb,hl⟩:=h;have cr:=Z2p n
 have bad:∀ e:Int,Z3s n bed lv=e->e≠0->((([]:List Nat),([]:List Int),([]:List Int),([]:List Nat),(0:Int),(0:Int)),e,())=Z80 n bed lv:=λe h1 h2=>by
  unfold Z80; rw[if_neg (by rw[h1]; exact h2),h1]; rfl
 refine⟨hn,?_⟩;rintro _ rfl;rcases Zuk n with⟨h0,e,_⟩ | ⟨h0,g,e,_⟩
 ·rw[e];refine brY rfl ?_;exact bad 10 (by unfold Z3s; rw[if_pos h0]) (by decide)
 rw[e];refine brN rfl ?_;dsimp only;have nc:(Zw (some (netG n))).1=Z2 n:=Z1j n;have ne:(Zp (some (netG n))).1=2*Z2 n:=Z45 n;rw[nc,ne];refine⟨trivial,?_⟩;rintro _ rfl;refine Br.intro (λq=>?_) λq=>?_
 ·have q:(bed.length:Int)≠Z2 n:=by simpa using q
  exact bad 12 (by unfold Z3s; rw[if_neg h0,if_pos q]) (by decide)
 have q:¬ (bed.length:Int)≠Z2 n:=by simpa using q
 have bl:(bed.length:Int)=Z2 n:=Classical.byContradiction q;refine⟨⟨hb,by unfold W64; decide⟩,?_⟩;rintro _ rfl;refine Br.intro (λr=>?_) λr=>?_
 ·have r:0<=Z2e bed 4697254411347427328:=of_decide_eq_true r;exact bad 13 (by unfold Z3s; rw[if_neg h0,if_neg q,if_pos r]) (by decide)
 have r:¬ 0<=Z2e bed 4697254411347427328:=of_decide_eq_false r
 have far:(fcmp .geq (Ieee.double.order lv 13920626448202203136)&&fcmp .leq (Ieee.double.order lv 4697254411347427328))=false->Z3s n bed lv=1:=λh=>by
  unfold Z3s; rw[if_neg h0,if_neg q,if_neg r,h]; rfl
 rintro _ rfl;refine Br.intro (λt=>?_) λt=>?_
 rotate_left
 ·exact bad 1 (far (by have t:fcmp .geq (Ieee.double.order lv 13920626448202203136)=false:=t; rw[t]; rfl)) (by decide)
 have t:fcmp .geq (Ieee.double.order lv 13920626448202203136)=true:=t;rintro _ rfl;refine Br.intro (λu=>?_) λu=>?_
 ·exact bad 1 (far (by have u:(!fcmp .leq (Ieee.double.order lv 4697254411347427328))=true:=u; rw[t]; simpa using u)) (by decide)
 have u:(!fcmp .leq (Ieee.double.order lv 4697254411347427328))=false:=u;have near:(!(fcmp .geq (Ieee.double.order lv 13920626448202203136)&&fcmp .leq (Ieee.double.order lv 4697254411347427328)))=false:=by rw[t]; simpa using u
 refine⟨show bed.length<=65536 by omega,λa ha=>?_⟩;have ha:a=(bed,()):=ha;subst ha;refine⟨⟨by omega,Int.le_refl _,by omega⟩,trivial,⟨by omega,Int.le_refl _,by omega⟩,rfl,λx _=>∃ k:Nat,x.1=k/\k<=bed.length/\x.2.1=(List.range k).map λc:Nat=>Z87 (bed.getD c 0) (Zv n c) lv,λx _=>((bed.length:Int) - x.1).toNat,⟨0,rfl,Nat.zero_le _,rfl⟩,?_⟩;rintro⟨_,_,⟨⟩⟩ ⟨⟩ ⟨k,rfl,hk,rfl⟩;dsimp only;rintro _ rfl;refine Br.intro (λz=>?_) λz=>?_
 ·have z:k<bed.length:=by have:=of_decide_eq_true z; omega
  have ak:(Z14 (some (netG n)) (k:Int)).1=Zv n k:=Z6e (by omega) (by omega);refine⟨⟨by omega,by omega⟩,trivial,⟨hb _ (Zu (by omega) 0),by rw[ak]; exact(Zde n k).1,hl⟩,λa ha=>?_⟩;have ha:a=(Z87 (bed.getD k 0) (Zv n k) lv,()):=by rw[ha,ak,Int.toNat_natCast]; rfl
  subst ha;have ll:((List.range k).map λc:Nat=>Z87 (bed.getD c 0) (Zv n c) lv).length=k:=by rw[List.length_map,List.length_range]
  rw[Z19 z (by omega)];refine⟨⟨rfl,by rw[ll]; omega⟩,⟨rfl,by rw[List.length_append]; rfl⟩,rfl,⟨k+1,rfl,z,?_⟩,by omega⟩;rw[List.range_succ,List.map_append]; rfl
 have z:k=bed.length:=by have:=of_decide_eq_false z; omega
 subst z
 try simp only[Z7k]
 have wI:AllI (Z1s n bed lv):=λx hx=>by
  obtain⟨c,_,rfl⟩:=List.mem_map.1 hx;unfold Z87;split
  ·exact⟨by decide,by decide⟩
  ·exact Z1vm _ (by decide) (by decide)
 refine⟨⟨wI,by decide,by decide⟩,?_⟩;rintro _ rfl;refine Br.intro (λv=>?_) λv=>?_
 ·have v:0<=Z2h 0 0 (Z1s n bed lv):=of_decide_eq_true v;exact bad 14 (by unfold Z3s; rw[if_neg h0,if_neg q,if_neg r,near,if_neg (by decide),if_pos v]) (by decide)
 have v:¬ 0<=Z2h 0 0 (Z1s n bed lv):=of_decide_eq_false v;refine⟨by simp,by simp,by simp,by simp,?_⟩;have ok:Z3s n bed lv=0:=by unfold Z3s; rw[if_neg h0,if_neg q,if_neg r,near,if_neg (by decide),if_neg v]
 show _=Z80 n bed lv;unfold Z80; rw[if_pos ok]; rfl
def Zb6:=λ(e:Int)(post:Nat × Unit->Prop)=>∃(h:Z2z none e),∀ a,a=(nIsR none e).1->Br (!a) (post (0,())) (∃(h:(none:
 Option (Int × (List (Int × Int × Int × Int)) × (List ((Int × Int) × Int)) × (List (List Int)) × (List Int) × (List Nat) × List Nat))≠none),False)
theorem Zna(e:Int)(h:Z2z none e):Zb6  e (λr=>r=Zio none e):=by
 refine⟨h,?_⟩;rintro _ rfl;exact Br.intro (λ_=>rfl) λq=>by cases q
def Zb7:=λ(g:YG)(e:Int)(post:Nat × Unit->Prop)=>∃(h:Z2z (some g) e),∀ a,a=(nIsR (some g) e).1->Br (!a) (post (0,())) (∃(h
 : some g≠none),∃(h:0<=e/\e<(↑g.2.2.2.2.2.1.length:Int)),post (g.2.2.2.2.2.1.getD e.toNat 0,()))
theorem Znb(g:YG)(e:Int)(h:Z2z (some g) e):Zb7  g e (λr=>r=Zio (some g) e):=by
 obtain⟨hg,he⟩:=h;obtain⟨n,gn,hgn⟩:=Z4o hg;obtain rfl:g=netG n:=hgn;refine⟨⟨hg,he⟩,?_⟩;rintro _ rfl;have hi:(nIsR (some (netG n)) e).1=(decide (0<=e)&&decide (e<((netE n).1.length:Nat))):=rfl;refine Br.intro (λq=>?_) λq=>?_
 ·have q:(nIsR (some (netG n)) e).1=false:=by simpa using q
  have hn:¬ (0<=e/\e<((netE n).1.length:Nat)):=λz=>by rw[hi,decide_eq_true z.1,decide_eq_true z.2]at q; cases q
  show(0,())=r1 (if 0<=e/\e<((netE n).1.length:Nat)then((netE n).1.map (λe=>Z3q n e.1 e.2.1)).getD e.toNat 0 else 0);rw[if_neg hn]; rfl
 ·have q:(nIsR (some (netG n)) e).1=true:=by simpa using q
  have hy:0<=e/\e<((netE n).1.length:Nat):=by
   rw[hi]at q;simpa using q
  have ob:0<=e/\e<((((netE n).1.map (λe=>Z3q n e.1 e.2.1)).length:Nat):Int):=⟨hy.1,by rw[List.length_map]; exact hy.2⟩;refine⟨by simp,ob,?_⟩;show _=r1 (if 0<=e/\e<((netE n).1.length:Nat)then((netE n).1.map (λe=>Z3q n e.1 e.2.1)).getD e.toNat 0 else 0);rw[if_pos hy]; rfl
def Zfs:=λ(e:Int)(post:Nat × Unit->Prop)=>∃(h:Z2z none e),∀ a,a=(nIsR none e).1->Br (!a) (post (0,())) (∃(h:(none:
 Option (Int × (List (Int × Int × Int × Int)) × (List ((Int × Int) × Int)) × (List (List Int)) × (List Int) × (List Nat) × List Nat))≠none),False)
theorem Zv1(e:Int)(h:Z2z none e):Zfs  e (λr=>r=Z1ei none e):=by
 refine⟨h,?_⟩;rintro _ rfl;exact Br.intro (λ_=>rfl) λq=>by cases q
def Zft:=λ(g:YG)(e:Int)(post:Nat × Unit->Prop)=>∃(h:Z2z (some g) e),∀ a,a=(nIsR (some g) e).1->Br (!a) (post (0,())) (∃(h:
 some g≠none),∃(h:0<=e/\e<(↑g.2.2.2.2.2.2.length:Int)),post (g.2.2.2.2.2.2.getD e.toNat 0,()))
theorem Zv2(g:YG)(e:Int)(h:Z2z (some g) e):Zft  g e (λr=>r=Z1ei (some g) e):=by
 obtain⟨hg,he⟩:=h;obtain⟨n,gn,hgn⟩:=Z4o hg;obtain rfl:g=netG n:=hgn;refine⟨⟨hg,he⟩,?_⟩;rintro _ rfl;have hi:(nIsR (some (netG n)) e).1=(decide (0<=e)&&decide (e<((netE n).1.length:Nat))):=rfl;refine Br.intro (λq=>?_) λq=>?_
 ·have q:(nIsR (some (netG n)) e).1=false:=by simpa using q
  have hn:¬ (0<=e/\e<((netE n).1.length:Nat)):=λz=>by rw[hi,decide_eq_true z.1,decide_eq_true z.2]at q; cases q
  show(0,())=r1 (if 0<=e/\e<((netE n).1.length:Nat)then((netE n).1.map (λe=>gapG n e.1 e.2.1)).getD e.toNat 0 else 0);rw[if_neg hn]; rfl
 ·have q:(nIsR (some (netG n)) e).1=true:=by simpa using q
  have hy:0<=e/\e<((netE n).1.length:Nat):=by
   rw[hi]at q;simpa using q
  have ob:0<=e/\e<((((netE n).1.map (λe=>gapG n e.1 e.2.1)).length:Nat):Int):=⟨hy.1,by rw[List.length_map]; exact hy.2⟩;refine⟨by simp,ob,?_⟩;show _=r1 (if 0<=e/\e<((netE n).1.length:Nat)then((netE n).1.map (λe=>gapG n e.1 e.2.1)).getD e.toNat 0 else 0);rw[if_pos hy]; rfl
def Zb8:=λ(e:Int)(post:Int × Int × Bool × Unit->Prop)=>∃(h:Z2z none e),∀ a,a=(nIsR none e).1->Br (!a) (post (0,0,false,
 ())) (∃(h:(none:Option (Int × (List (Int × Int × Int × Int)) × (List ((Int × Int) × Int)) × (List (List Int)) × (List Int) × (List Nat) × List Nat))≠none),
 False)
theorem Znc(e:Int)(h:Z2z none e):Zb8  e (λr=>r=Zip none e):=by
 refine⟨h,?_⟩;rintro _ rfl;exact Br.intro (λ_=>rfl) λq=>by cases q
def Zb9:=λ(g:YG)(e:Int)(post:Int × Int × Bool × Unit->Prop)=>∃(h:Z2z (some g) e),∀ a,a=(nIsR (some g) e).1->Br (!a) (post
 ((0:Int),(0:Int),false,())) (∃(h:some g≠none),∃(h:(0:Int)<=e/\e<(↑g.2.2.2.1.length:Int)),∃(h:(0:Int)<=(0:Int)/\(0:Int) <
 (↑(2:Nat):Int)),∃(h:some g≠none),∃(h:(0:Int)<=e/\e<(↑g.2.2.2.1.length:Int)),∃(h:(0:Int)<=(1:Int)/\(1:Int)<(↑(2:Nat):Int)),
 post (List.getD (g.2.2.2.1.getD e.toNat (K.arr (2:Nat) (K.int i64)).dflt) (Int.toNat (0:Int)) (0:Int),List.getD (g.2.2.2.1.getD e.toNat (K.arr (2:Nat) (K.int
 i64)).dflt) (Int.toNat (1:Int)) (0:Int),true,()))
theorem Znd(g:YG)(e:Int)(h:Z2z (some g) e):Zb9  g e (λr=>r=Zip (some g) e):=by
 obtain⟨hg,he⟩:=h;obtain⟨n,gn,hgn⟩:=Z4o hg;obtain rfl:g=netG n:=hgn;refine⟨⟨hg,he⟩,?_⟩;rintro _ rfl;have hi:(nIsR (some (netG n)) e).1=(decide (0<=e)&&decide (e<((netE n).1.length:Nat))):=rfl;refine Br.intro (λq=>?_) λq=>?_
 ·have q:(nIsR (some (netG n)) e).1=false:=by simpa using q
  have hn:¬ (0<=e/\e<((netE n).1.length:Nat)):=λz=>by rw[hi,decide_eq_true z.1,decide_eq_true z.2]at q; cases q
  have e2:Z3h (some (netG n)) e=(0,0):=by
   show(if 0<=e/\e<((netE n).1.length:Nat)then _ else _)=_;rw[if_neg hn]
  show(0,0,false,())=((Z3h (some (netG n)) e).1,(Z3h (some (netG n)) e).2,(nIsR (some (netG n)) e).1,());rw[e2,q]
 ·have q:(nIsR (some (netG n)) e).1=true:=by simpa using q
  have hy:0<=e/\e<((netE n).1.length:Nat):=by
   rw[hi]at q;simpa using q
  have ob:0<=e/\e<((((netE n).1.map (Z99 n)).length:Nat):Int):=⟨hy.1,by rw[List.length_map]; exact hy.2⟩;refine⟨by simp,ob,⟨by decide,by decide⟩,by simp,ob,⟨by decide,by decide⟩,?_⟩
  have e2:Z3h (some (netG n)) e=((((netE n).1.map (Z99 n)).getD e.toNat [0,0]).getD 0 0,(((netE n).1.map (Z99 n)).getD e.toNat [0,0]).getD 1 0):=by
   show(if 0<=e/\e<((netE n).1.length:Nat)then _ else _)=_;rw[if_pos hy]; rfl
  show _=((Z3h (some (netG n)) e).1,(Z3h (some (netG n)) e).2,(nIsR (some (netG n)) e).1,());rw[e2,q]; rfl
def Zqu:=λ(g:Option YG)(s:YS)(post:Bool × Unit->Prop)=>∃(h:True),∀ a,a=((↑s.1.length:Int)==(Zw g).1)->Br a (∀ a,a=((↑s.2.1.length:
 Int)==(Zw g).1)->Br a (∀ a,a=((↑s.2.2.1.length:Int)==(Zw g).1)->Br a (∃(h:True),∀ a,a=((↑s.2.2.2.1.length:Int)==(Zp g).1)->post (a,()))
 (post (false,()))) (post (false,()))) (post (false,()))
theorem Z1ci(g:Option YG)(s:YS)(h:Z138 g s):Zqu  g s (λr=>r=Ziq g s):=by
 have d:∀ x y:Int,(x==y)=decide (x=y):=λx y=>by rw[Bool.eq_iff_iff]; simp
 have key:Ziq g s=r1 (decide ((s.1.length:Int)=(Zw g).fst)&&decide ((s.2.1.length:Int)=(Zw g).fst)&&decide ((s.2.2.1.length:Int)=(Zw g).fst)&&decide ((s.2.2.2.1.length:Int)=(Zp g).fst)):=rfl;rw[key];refine⟨trivial,?_⟩;rintro _ rfl;rw[d];refine Br.intro (λe1=>?_) λe1=>?_
 rotate_left
 ·rw[e1]; rfl
 rintro _ rfl;rw[d];refine Br.intro (λe2=>?_) λe2=>?_
 rotate_left
 ·rw[e1,e2]; rfl
 rintro _ rfl;rw[d];refine Br.intro (λe3=>?_) λe3=>?_
 rotate_left
 ·rw[e1,e2,e3]; rfl
 refine⟨trivial,?_⟩;rintro _ rfl;rw[d,e1,e2,e3]; rfl
def Zg5:=λ(g:Option YG)(s:YS)(c:Int)(post:(Nat × Nat × Nat × Bool) × Unit->Prop)=>∃(h:True),∃(h:0<=c/\c<(↑s.1.length:Int)),∃(h:
 0<=c/\c<(↑s.2.1.length:Int)),∃(h:II (s.2.1.getD c.toNat 0) (Z14 g c).1),∃(h:0<=c/\c<(↑s.1.length:Int)),∃(h:0<=c/\c <
 (↑s.2.1.length:Int)),∃(h:Zfi (s.1.getD c.toNat 0) (s.2.1.getD c.toNat 0) (Z14 g c).1),∀ a,a=Zil (s.1.getD c.toNat 0) (s.2.1.getD c.toNat
 0) (Z14 g c).1->∃(h:0<=c/\c<(↑s.2.1.length:Int)),∀ a_1,a_1=decide (s.2.1.getD c.toNat (0:Int) > 0)->post ((s.1.getD c.toNat 0,
 (Z50 (s.2.1.getD c.toNat 0) (Z14 g c).1).1,a.1,a_1),())
theorem Z1cj(g:Option YG)(s:YS)(c:Int)(h:Z139 g s c):Zg5  g s c (λr=>r=Z1ek g s c):=by
 obtain⟨hg,hw,hi,hf,c0,c1⟩:=h;rcases hg with rfl | ⟨n,gn,rfl⟩
 ·exact absurd c1 (by show ¬ c<0; omega)
 have f:=Z48.1 hf;rw[Z1j]at c1 f;have hA:(Z14 (some (netG n)) c).fst=Zv n c:=Z6e c0 c1;have i1:0<=c/\c<(s.1.length:Int):=⟨c0,by omega⟩;have i2:0<=c/\c<(s.2.1.length:Int):=⟨c0,by omega⟩;have w1:=hw _ (Zu (l:=s.1) (i:=c.toNat) (by omega) 0);have w2:=hi _ (Zu (l:=s.2.1) (i:=c.toNat) (by omega) 0);have ar:=(Zde n c).1;unfold Zg5;rw[hA];refine⟨trivial,i1,i2,⟨w2,ar⟩,i1,i2,⟨w1,w2,ar⟩,?_⟩;rintro _ rfl;refine⟨i2,?_⟩;rintro _ rfl;rfl
def Zqv:=λ(l m:Nat × Nat × Nat × Bool)(post:Bool × Unit->Prop)=>Br (!l.2.2.2) (Br (!m.2.2.2) (post (false,())) (Br (!l.2.2.2) (∀ a,a=fcmp
 Go.BinOp.leq (f64.format.order m.2.2.1 l.1)->Br a (post (false,())) (Br (!m.2.2.2) (∀ a,a=fcmp Go.BinOp.leq (f64.format.order l.2.2.1 m.1)->Br
 a (post (false,())) (post (true,()))) (post (true,())))) (Br (!m.2.2.2) (∀ a,a=fcmp Go.BinOp.leq (f64.format.order l.2.2.1 m.1)->Br a (post
 (false,())) (post (true,()))) (post (true,()))))) (Br (!l.2.2.2) (∀ a,a=fcmp Go.BinOp.leq (f64.format.order m.2.2.1 l.1)->Br a (post
 (false,())) (Br (!m.2.2.2) (∀ a,a=fcmp Go.BinOp.leq (f64.format.order l.2.2.1 m.1)->Br a (post (false,())) (post (true,()))) (post (true,
 ())))) (Br (!m.2.2.2) (∀ a,a=fcmp Go.BinOp.leq (f64.format.order l.2.2.1 m.1)->Br a (post (false,())) (post (true,()))) (post (true,()))))
theorem Z1ck(l:Nat × Nat × Nat × Bool)(m:Nat × Nat × Nat × Bool)(h:Z1ej l m):Zqv  l m (λr=>r=Zua l m):=by
 obtain⟨lb,ld,ll,lw⟩:=l;obtain⟨rb,rd,rl,rw'⟩:=m
 cases lw
 ·cases rw'
  ·exact Br.intro (λ_=>Br.intro (λ_=>rfl) (λe=>by cases e)) (λe=>by cases e)
  ·refine Br.intro (λ_=>?_) (λe=>by cases e);refine Br.intro (λe=>by cases e) (λ_=>?_);refine Br.intro (λ_=>?_) (λe=>by cases e);rintro _ rfl;refine Br.intro (λe=>?_) λe=>?_
   ·have e:fcmp .leq (Ieee.double.order rl lb)=true:=e;show(false,())=r1 (Zej false lb ll true rb rl);unfold Zej; rw[if_neg (by decide),if_pos (by rw[e]; rfl)]; rfl
   ·have e:fcmp .leq (Ieee.double.order rl lb)=false:=e;refine Br.intro (λe=>by cases e) (λ_=>?_);show(true,())=r1 (Zej false lb ll true rb rl);unfold Zej; rw[if_neg (by decide),if_neg (by rw[e]; decide),if_neg (by simp)]; rfl
 ·cases rw'
  ·refine Br.intro (λe=>by cases e) (λ_=>?_);refine Br.intro (λe=>by cases e) (λ_=>?_);refine Br.intro (λ_=>?_) (λe=>by cases e);rintro _ rfl;refine Br.intro (λe=>?_) λe=>?_
   ·have e:fcmp .leq (Ieee.double.order ll rb)=true:=e;show(false,())=r1 (Zej true lb ll false rb rl);unfold Zej; rw[if_neg (by decide),if_neg (by simp),if_pos (by rw[e]; rfl)]; rfl
   ·have e:fcmp .leq (Ieee.double.order ll rb)=false:=e;show(true,())=r1 (Zej true lb ll false rb rl);unfold Zej; rw[if_neg (by decide),if_neg (by simp),if_neg (by rw[e]; decide)]; rfl
  ·refine Br.intro (λe=>by cases e) (λ_=>?_);refine Br.intro (λe=>by cases e) (λ_=>?_);refine Br.intro (λe=>by cases e) (λ_=>?_);rfl
def Zqw:=λ(g:Option YG)(s:YS)(e:Int)(post:(Nat × Nat × Nat × Bool) × (Nat × Nat × Nat × Bool) × Bool × Unit->Prop)=>∃(h:Z2z g e),Br (!(Z6 g
 e).2.1) (post ((0,0,0,false),(0,0,0,false),false,())) (∃(h:Z138 g s),∀ a,a=Ziq g s->∀ a_1,a_1=a.1->Br (!a_1) (post ((0,0,0,false),
 (0,0,0,false),false,())) (∃(h:Z139 g s (Z6 g e).1.1),∀ a,a=Z1ek g s (Z6 g e).1.1->∃(h:Z139 g s (Z6 g e).1.2.2.1),∀ a_2,a_2=Z1ek g s
 (Z6 g e).1.2.2.1->post (a.1,a_2.1,true,())))
theorem Z1cl(g:Option YG)(s:YS)(e:Int)(h:Zpf g s e):Zqw  g s e (λr=>r=Za7 g s e):=by
 obtain⟨hg,hw,hi,he⟩:=h;refine⟨⟨hg,he⟩,?_⟩;refine Br.intro (λe1=>?_) λe1=>?_
 ·have e1:(!nIs g e)=true:=e1;have e1:nIs g e=false:=by simpa using e1
  have hb:Z6y g s e=false:=by unfold Z6y; rw[e1]; rfl
  unfold Za7; rw[if_neg (by rw[hb]; decide)]
 have e1:(!nIs g e)=false:=e1;have e1:nIs g e=true:=by simpa using e1
 refine⟨hg,?_⟩;rintro _ rfl;rintro _ rfl;have hf:(Ziq g (s.1,s.2.1,s.2.2.1,s.2.2.2.1,s.2.2.2.2.1,s.2.2.2.2.2)).fst=Z2l (Zh g) (Zi g) s:=rfl;rw[hf];refine Br.intro (λe2=>?_) λe2=>?_
 ·have e2:Z2l (Zh g) (Zi g) s=false:=by simpa using e2
  have hb:Z6y g s e=false:=by unfold Z6y; rw[e2]; simp
  unfold Za7; rw[if_neg (by rw[hb]; decide)]
 have e2:Z2l (Zh g) (Zi g) s=true:=by simpa using e2
 have hb:Z6y g s e=true:=by unfold Z6y; rw[e1,e2]; rfl
 obtain⟨n,gn,rfl,_,_⟩:=Zuh hg hb;have hc:=Z9f e1;have wl:∀ c,0<=c->c<Z2 n->Z139 (some (netG n)) (s.1,s.2.1,s.2.2.1,s.2.2.2.1,s.2.2.2.2.1,s.2.2.2.2.2) c:=λc h0 h1=>⟨hg,hw,hi,e2,h0,by rw[Z1j]; exact h1⟩;refine⟨wl _ hc.1.1 hc.1.2,?_⟩;rintro _ rfl;refine⟨wl _ hc.2.1 hc.2.2,?_⟩;rintro _ rfl;unfold Za7; rw[if_pos hb]; rfl
def Zne:=λ(g:Option YG)(p:YP)(s:YS)(e:Int)(post:Nat × Unit->Prop)=>∃(h:Zpf g s e),∀ a,a=Za7 g s e->Br (!a.2.2.1) (post (0,())) (∃(h:
 Z1ej a.1 a.2.1),∀ a_1,a_1=Zua a.1 a.2.1->∀ a_2,a_2=a_1.1->Br (!a_2) (post (0,())) (∀(a_3:Nat),FRes f64 (f64.format.mul p.2.2.1 p.2.1)
 a_3->∀(a_4:Nat),FRes f64 (f64.format.sub a.2.1.2.2.1 a.1.2.2.1) a_4->∀(a_5:Nat),FRes f64 (f64.format.mul a_3 a_4) a_5
 -> ∃(h:Z2z g e),∀ a_6,a_6=Z1ei g e->∀(a_7:Nat),FRes f64 (f64.format.div a_5 a_6.1) a_7->∃(h:0<=e/\e<(↑s.2.2.2.1.length:
 Int)),∀(a_8:Nat),FRes f64 (f64.format.sub (s.2.2.2.1.getD e.toNat 0) a_7) a_8->∀(a_9:Nat),FRes f64
 (f64.format.add a.1.2.1 a.2.1.2.1) a_9->∀(a:Nat),FRes f64 (f64.format.mul 4602678819172646912 a_9) a->∀ a_10,a_10=fcmp
 Go.BinOp.gtr (f64.format.order a 0)->Br (!a_10) (post (0,())) (∀(a_11:Nat),FRes f64 (f64.format.mul p.2.2.2.1 p.2.1) a_11->∃
 (h:W64 a_8),∀(a_12:Nat),FRes f64 (f64.format.mul a_11 (absR a_8).1) a_12->∀(a_13:Nat),FRes f64 (f64.format.div a_12
 a) a_13->∀(a:Nat),FRes f64 (f64.format.add 4607182418800017408 a_13) a->∀(a_14:Nat),FRes f64 (f64.format.div
 a_8 a) a_14->∀ a,a=fcmp Go.BinOp.gtr (f64.format.order a_14 4652218415073722368)->Br a (post (4652218415073722368,())) (∀ a,a=fcmp Go.BinOp.lss
 (f64.format.order a_14 13875590451928498176)->Br a (post (13875590451928498176,())) (∀ a,a=fcmp Go.BinOp.neq (f64.format.order a_14 a_14)->
 Br a (post (0,())) (∃(h:True),post ((Zt a_14).1,())))))))
theorem Z17u(g:Option YG)(p:YP)(s:YS)(e:Int)(h:Z1gf g p s e):Zne  g p s e (λr=>r=Zwx g p s e):=by
 obtain⟨hg,⟨pt,pg,pd⟩,hw,hi,hs,he⟩:=h;refine⟨⟨hg,hw,hi,he⟩,?_⟩;rintro a ha;have ha:a=Za7 g s e:=ha;by_cases hb:Z6y g s e=true
 rotate_left
 ·have ha:a=((0,0,0,false),(0,0,0,false),false,()):=by rw[ha]; unfold Za7; rw[if_neg hb]
  subst ha;refine Br.intro (λ_=>?_) λq=>by cases q
  show(0,())=r1 (Z6a g p s e);unfold Z6a; rw[if_neg hb]; rfl
 obtain⟨n,gn,rfl,e1,e2⟩:=Zuh hg hb;have f:=Z48.1 e2;rw[Z1j]at f;have hc:=Z9f e1
 have hr:0<=e/\e<((netE n).1.length:Int):=by
  have h:(decide (0<=e)&&decide (e<((netE n).1.length:Int)))=true:=e1;simpa using h
 obtain⟨L,hL⟩:∃ L,Zbv (Z44 (some (netG n))) s.1 s.2.1 (Zx (some (netG n)) e).1=L:=⟨_,rfl⟩;obtain⟨R,hR⟩:∃ R,Zbv (Z44 (some (netG n))) s.1 s.2.1 (Zx (some (netG n)) e).2.2.1=R:=⟨_,rfl⟩;have wL:Z137 L:=by rw[<- hL]; exact Z13v hw (by omega)
 have wR:Z137 R:=by rw[<- hR]; exact Z13v hw (by omega)
 have ha:a=(L,R,true,()):=by rw[ha]; unfold Za7; rw[if_pos hb,hL,hR]
 subst ha
 have hS:Zwx (some (netG n)) p s e=r1 (Zbw p.2.2.1 p.2.1 p.2.2.2.1 (nGap (some (netG n)) e) (s.2.2.2.1.getD e.toNat 0) L R):=by
  show r1 (Z6a (some (netG n)) p s e)=_;unfold Z6a; rw[if_pos hb,hL,hR]
 rw[hS];clear hS;refine Br.intro (λq=>by cases q) λ_=>?_;refine⟨⟨wL,wR⟩,?_⟩;rintro _ rfl;rintro _ rfl;have hO:(Zua (L.1,L.2.1,L.2.2.1,L.2.2.2) (R.1,R.2.1,R.2.2.1,R.2.2.2)).fst=Zek L R:=rfl;rw[hO];refine Br.intro (λq=>?_) λq=>?_
 ·unfold Zbw; rw[if_pos q]; rfl
 have q:Zek L R=true:=by simpa using q
 intro x3 f3;have q3:=fmul f3;intro x4 g4;have q4:=fsub g4;intro x5 f5;have q5:=fmul f5;refine⟨⟨hg,he⟩,?_⟩;rintro _ rfl;intro x7 f7;have q7:=fdiv f7
 have hpull:Z8 x7=Zww p.2.2.1 p.2.1 L.2.2.1 R.2.2.1 (nGap (some (netG n)) e):=by
  rw[q7.1]; unfold Zww;exact Zea (by rw[q5.1,Z4c]; exact Z42 (by rw[q3.1,Z4c]) (by rw[q4.1,Zbm])) rfl
 have f4:=f.2.2.2;rw[show Zi (some (netG n))=((netE n).1.length:Int)from rfl]at f4;refine⟨⟨hr.1,by omega⟩,?_⟩;intro x8 f8;have q8:=fsub f8;obtain⟨U,hU⟩:∃ U,subQ (s.2.2.2.1.getD e.toNat 0) (Zww p.2.2.1 p.2.1 L.2.2.1 R.2.2.1 (nGap (some (netG n)) e))=U:=⟨_,rfl⟩
 have h8:Z8 x8=Z8 U:=by
  rw[q8.1,<- hU,Zbm];exact Z122 rfl (by rw[hpull]; unfold Zww; rw[Z16p])
 intro x9 f9;have q9:=fadd f9;intro h1 fh;have qh:=fmul fh;obtain⟨H,hH⟩:∃ H,mulQ Z3w (addQ L.2.1 R.2.1)=H:=⟨_,rfl⟩
 have hh:Z8 h1=Z8 H:=by
  rw[qh.1,<- hH,Z4c];exact Z42 rfl (by rw[q9.1,Zm9])
 have hg0:fcmp .gtr (f64.format.order h1 0)=gtS H 0:=by
  show fcmp .gtr (Ieee.double.order h1 0)=fcmp .gtr (Ieee.double.order H 0);rw[<- Zx6 h1,hh,Zx6]
 have hSp:Zbw p.2.2.1 p.2.1 p.2.2.2.1 (nGap (some (netG n)) e) (s.2.2.2.1.getD e.toNat 0) L R=if(!gtS H 0)=true then 0 else cutQ (Z1u U (Z1eh p.2.2.2.1 p.2.1 U H)):=by
  unfold Zbw; rw[if_neg (by rw[q]; decide),hU,hH]
 rw[hSp];rintro _ rfl;rw[hg0];refine Br.intro (λz=>by rw[if_pos z]; rfl) λz=>?_;rw[if_neg (by rw[z]; decide)];intro x11 f11;have q11:=fmul f11;refine⟨q8.2,?_⟩;intro x12 f12;have q12:=fmul f12;intro x13 f13;have q13:=fdiv f13;intro x14 f14;have q14:=fadd f14;intro v fv;have qv:=fdiv fv;obtain⟨V,hV⟩:∃ V,Z1u U (Z1eh p.2.2.2.1 p.2.1 U H)=V:=⟨_,rfl⟩
 have hv:Z8 v=Z8 V:=by
  rw[qv.1,<- hV,Z16p];refine Zea h8 ?_;rw[q14.1]; unfold Z1eh; rw[Zm9];refine Zh1 rfl ?_;rw[q13.1,Z16p];refine Zea ?_ hh;rw[q12.1,Z4c];refine Z42 (by rw[q11.1,Z4c]) ?_;exact Z1wg h8
 rw[hV];have hcut:cutQ V=cutQ v:=by rw[<- Z13w V,<- hv,Z13w]
 rw[hcut];have en:fcmp .neq (f64.format.order v v)=isN v:=Z7h v;rintro _ rfl;refine Br.intro (λz=>?_) λz=>?_
 ·have z:gtS v Z43=true:=z;show(Z43,())=r1 (cutQ v);unfold cutQ; rw[if_pos z]; rfl
 have z1:gtS v Z43=false:=z;rintro _ rfl;refine Br.intro (λz=>?_) λz=>?_
 ·have z:ltS v Zk6=true:=z;show(Zk6,())=r1 (cutQ v);unfold cutQ; rw[if_neg (by rw[z1]; decide),if_pos z]; rfl
 have z2:ltS v Zk6=false:=z;rintro _ rfl;rw[en];refine Br.intro (λz=>?_) λz=>?_
 ·show(0,())=r1 (cutQ v);unfold cutQ; rw[if_neg (by rw[z1]; decide),if_neg (by rw[z2]; decide),if_pos z]; rfl
 refine⟨trivial,?_⟩;show(Z13 v,())=r1 (cutQ v);unfold cutQ; rw[if_neg (by rw[z1]; decide),if_neg (by rw[z2]; decide),if_neg (by rw[z]; decide)]; rfl
section
open Go.Proofs
def Z1az:Cx:=⟨Z1v Z26,Z23 [(159,Zad),(32,Z21),(31,Z2d),(90,Z3a),(89,Z6f),(92,Z89),(77,Z3u),(152,Z8x),(99,Z4i)],SqG⟩
theorem Zj0:CxOk Tryz.prog Z1az:=⟨Zn Z12,Zr ⟨Zis,Z2c,Z2q,Z3t,Z88,Zcg,Z4q,Zcd,Z5h,trivial⟩⟩
def Zci:Con:=Con.nam [.ptr Z25,.int .i64] [.snap (.flt .f64)] (λx=>Z2z x.1 x.2.1) (λx=>Zio x.1 x.2.1)
theorem Zq1:SqH Zci 71:=
 nPs Zj0 Z5 Zc nHn Tryz.func71 (λy p=>Zb6  y.1 p) (λz y p=>Zb7  z y.1 p) (λy h _=>Zna  y.1 h) λz y h _=>Znb  z y.1 h
def Zgk:Con:=Con.nam [.ptr Z25,.int .i64] [.snap (.flt .f64)] (λx=>Z2z x.1 x.2.1) (λx=>Z1ei x.1 x.2.1)
theorem Zxm:SqH Zgk 151:=
 nPs Zj0 Z5 Zc nHn Tryz.func151 (λy p=>Zfs  y.1 p) (λz y p=>Zft  z y.1 p) (λy h _=>Zv1  y.1 h) λz y h _=>Zv2  z y.1 h
def Z1b0:Cx:=addC 151 Zgk Z1az
theorem Zj1:CxOk Tryz.prog Z1b0:=Zk Zj0 Zxm
def Zcj:Con:=Con.nam [.ptr Z25,.int .i64] [.snap (.int .i64),.snap (.int .i64),.snap .bool] (λx=>Z2z x.1 x.2.1) (λx=>Zip x.1 x.2.1)
theorem Zq2:SqH Zcj 154:=
 nPs Zj1 Z5 Zc nHn Tryz.func154 (λy p=>Zb8  y.1 p) (λz y p=>Zb9  z y.1 p) (λy h _=>Znc  y.1 h) λz y h _=>Znd  z y.1 h
def Zdp:Con:=Con.nam [.ptr Z25,kSea] [.snap .bool] (λx=>Z138 x.1 x.2.1) (λx=>Ziq x.1 x.2.1)
theorem Znf:SqH Zdp 67:=
 nP Zj1 Z5 Zc ({loops:=Z11 [],joins:=λ_=>none,named:=true}) Tryz.func67 (λx p=>Zqu  x.1 x.2.1 p) λx h _=>Z1ci  x.1 x.2.1 h
def Z1b1:Cx:=addC 67 Zdp Z1b0
theorem Zv3:CxOk Tryz.prog Z1b1:=Zk Zj1 Znf
def Zng:Con:=Con.nam [.ptr Z25,kSea,.int .i64] [.snap Z136] (λx=>Z139 x.1 x.2.1 x.2.2.1) (λx=>Z1ek x.1 x.2.1 x.2.2.1)
theorem Z17v:SqH Zng 199:=
 nP Zv3 Z5 Zc ({loops:=Z11 [],joins:=λ_=>none,named:=true}) Tryz.func199 (λx p=>Zg5  x.1 x.2.1 x.2.2.1 p) λx h _=>Z1cj  x.1 x.2.1 x.2.2.1 h
def Z1b2:Cx:=addC 199 Zng Z1b1
theorem Zv4:CxOk Tryz.prog Z1b2:=Zk Zv3 Z17v
def Zdq:Con:=Con.nam [Z136,Z136] [.snap .bool] (λx=>Z1ej x.1 x.2.1) (λx=>Zua x.1 x.2.1)
theorem Znh:SqH Zdq 150:=
 nP Zv4 Z5 Zc ({loops:=Z11 [],joins:=λ_=>none,named:=true}) Tryz.func150 (λx p=>Zqv  x.1 x.2.1 p) λx h _=>Z1ck  x.1 x.2.1 h
def Z1b3:Cx:=addC 150 Zdq Z1b2
theorem Zv5:CxOk Tryz.prog Z1b3:=Zk Zv4 Znh
def Zdr:Con:=Con.nam [.ptr Z25,kSea,.int .i64] [.snap Z136,.snap Z136,.snap .bool] (λx=>Zpf x.1 x.2.1 x.2.2.1) (λx=>Za7 x.1 x.2.1 x.2.2.1)
theorem Zni:SqH Zdr 149:=
 nP Zv5 Z5 Zc ({loops:=Z11 [],joins:=λ_=>none,named:=true}) Tryz.func149 (λx p=>Zqw  x.1 x.2.1 x.2.2.1 p) λx h _=>Z1cl  x.1 x.2.1 x.2.2.1 h
def Z1r0:Cx:=addC 149 Zdr Z1b3
theorem Z1h5:CxOk Tryz.prog Z1r0:=Zk Zv5 Zni
def Zks:Con:=Con.nam [.ptr Z25,Z6o,kSea,.int .i64] [.snap (.flt .f64)] (λx=>Z1gf x.1 x.2.1 x.2.2.1 x.2.2.2.1) (λx=>Zwx x.1 x.2.1 x.2.2.1 x.2.2.2.1)
theorem Z149:SqH Zks 68:=
 nP Z1h5 Z5 Zc ({loops:=Z11 [],joins:=λ_=>none,named:=true}) Tryz.func68 (λx p=>Zne  x.1 x.2.1 x.2.2.1 x.2.2.2.1 p) λx h _=>Z17u  x.1 x.2.1 x.2.2.1 x.2.2.2.1 h
end
def Z1h6(ty92:Nat)(n:Int)(ty93:Nat)(fn49:Nat)(fn50:Nat):List HObj:=[HObj.mp Md.rw ((K.int i64).pair (K.int i64)) (K.int i64) [],HObj.box Md.rw ty92 [SV.val (Go.Value.int i64 n),SV.junk,SV.mref 0,SV.val (Go.Value.slice none 0 0),SV.junk,SV.val (Go.Value.slice none 0 0),SV.val (Go.Value.slice none 0 0)],HObj.box Md.rw ty93 [SV.clo fn49 [LV.ref 1 0] [],SV.clo fn50 [LV.ref 1 0] []]]
def Z1h7(y:List ((Int × Int) × Int) × Unit)(ty92:Nat)(n:Int)(x:Int × List (Int × Int × Int × Int) × List Int × Unit)(ty93:Nat)(fn49:Nat)(fn50:Nat)(ty2:Nat):List HObj:=[HObj.mp Md.rw ((K.int i64).pair (K.int i64)) (K.int i64) y.1,HObj.box Md.rw ty92 [SV.val (Go.Value.int i64 n),SV.junk,SV.mref 0,SV.val (Go.Value.slice none 0 0),SV.osl 4 0 x.2.2.1.length,SV.val (Go.Value.slice none 0 0),SV.val (Go.Value.slice none 0 0)],HObj.box Md.rw ty93 [SV.clo fn49 [LV.ref 1 0] [],SV.clo fn50 [LV.ref 1 0] []],HObj.dead,HObj.row Md.rw ty2 (K.int i64) x.2.2.1]
def Z1h8(y_1:List ((Int × Int) × Int) × Unit)(ty92:Nat)(n:Int)(x:Int × List (Int × Int × Int × Int) × List Int × Unit)(ty93:Nat)(fn49:Nat)(fn50:Nat)(ty2:Nat):List HObj:=[HObj.mp Md.rw ((K.int i64).pair (K.int i64)) (K.int i64) y_1.1,HObj.box Md.rw ty92 [SV.val (Go.Value.int i64 n),SV.junk,SV.mref 0,SV.val (Go.Value.slice none 0 0),SV.osl 4 0 x.2.2.1.length,SV.val (Go.Value.slice none 0 0),SV.val (Go.Value.slice none 0 0)],HObj.box Md.rw ty93 [SV.clo fn49 [LV.ref 1 0] [],SV.clo fn50 [LV.ref 1 0] []],HObj.dead,HObj.row Md.rw ty2 (K.int i64) x.2.2.1]
def Z1h9(a:Int × Int × Unit)(x_2:Int × List (Int × Int × Int × Int) × Unit)(x:Int × List (Int × Int × Int × Int) × List Int × Unit)(y_1:List ((Int × Int) × Int) × Unit)(ty92:Nat)(n:Int)(ty93:Nat)(fn49:Nat)(fn50:Nat)(ty2:Nat):List HObj:=[HObj.mp Md.rw ((K.int i64).pair (K.int i64)) (K.int i64) (mput (a.1,a.2.1) (↑x_2.2.1.length:Int) (mput (x.1,x_2.1) (↑x_2.2.1.length:Int) y_1.1)),HObj.box Md.rw ty92 [SV.val (Go.Value.int i64 n),SV.junk,SV.mref 0,SV.val (Go.Value.slice none 0 0),SV.osl 4 0 x.2.2.1.length,SV.val (Go.Value.slice none 0 0),SV.val (Go.Value.slice none 0 0)],HObj.box Md.rw ty93 [SV.clo fn49 [LV.ref 1 0] [],SV.clo fn50 [LV.ref 1 0] []],HObj.dead,HObj.row Md.rw ty2 (K.int i64) x.2.2.1]
def Z1ha(y_1:List ((Int × Int) × Int) × Unit)(ty92:Nat)(n:Int)(ty93:Nat)(fn49:Nat)(fn50:Nat):List HObj:=[HObj.mp Md.rw ((K.int i64).pair (K.int i64)) (K.int i64) y_1.1,HObj.box Md.rw ty92 [SV.val (Go.Value.int i64 n),SV.junk,SV.mref 0,SV.val (Go.Value.slice none 0 0),SV.junk,SV.val (Go.Value.slice none 0 0),SV.val (Go.Value.slice none 0 0)],HObj.box Md.rw ty93 [SV.clo fn49 [LV.ref 1 0] [],SV.clo fn50 [LV.ref 1 0] []]]
def Zv6(y:List ((Int × Int) × Int) × Unit)(ty92:Nat)(n:Int)(ty93:Nat)(fn49:Nat)(fn50:Nat):List HObj:=[HObj.mp Md.rw ((K.int i64).pair (K.int i64)) (K.int i64) y.1,HObj.box Md.rw ty92 [SV.val (Go.Value.int i64 n),SV.junk,SV.mref 0,SV.val (Go.Value.slice none 0 0),SV.junk,SV.val (Go.Value.slice none 0 0),SV.val (Go.Value.slice none 0 0)],HObj.box Md.rw ty93 [SV.clo fn49 [LV.ref 1 0] [],SV.clo fn50 [LV.ref 1 0] []],HObj.dead,HObj.dead]
def Zv7(y:List ((Int × Int) × Int) × Unit)(ty92:Nat)(n:Int)(x:Int × List (Int × Int × Int × Int) × List Int × Unit)(ty93:Nat)(fn49:Nat)(fn50:Nat)(ty96:Nat)(ty2:Nat):List HObj:=[HObj.mp Md.rw ((K.int i64).pair (K.int i64)) (K.int i64) y.1,HObj.box Md.rw ty92 [SV.val (Go.Value.int i64 n),SV.osl 5 0 x.2.1.length,SV.mref 0,SV.junk,SV.osl 6 0 x.2.2.1.length,SV.junk,SV.junk],HObj.box Md.rw ty93 [SV.clo fn49 [LV.ref 1 0] [],SV.clo fn50 [LV.ref 1 0] []],HObj.dead,HObj.dead,HObj.row Md.rw ty96 ((K.int i64).pair ((K.int i64).pair ((K.int i64).pair (K.int i64)))) x.2.1,HObj.row Md.rw ty2 (K.int i64) x.2.2.1]
def Zyy:=λ(ty92 ty93 ty2 ty96 fn49 fn50:Nat)(n:Int)(post:Option YG × Int × Unit->Prop)=>∃(h:I64 n),Br ((Z4d n).1==(0:Int)) (post (none,(10
 : Int),())) (∃(h:(0:Int)<=(0:Int)/\(0:Int)<(↑(2:Nat):Int)),HS (Z1h6 ty92 n ty93 fn49 fn50)/\∃(I:Int × List (Int × Int × Int × Int) × List Int × Unit
 -> List ((Int × Int) × Int) × Unit->Prop),∃(μ:Int × List (Int × Int × Int × Int) × List Int × Unit->List ((Int × Int) × Int) × Unit->Nat),I ((0:Int),[],[],()) ([],())
 /\ ∀(x:Int × List (Int × Int × Int × Int) × List Int × Unit)(y:List ((Int × Int) × Int) × Unit),I x y->Br (decide (x.1<(Z4d n).1)) (((0:Nat)=(0:Nat)/\
 x.2.1.length=x.2.1.length)/\HS (Z1h7 y ty92 n x ty93 fn49 fn50 ty2)/\∃(I_1:Int × List (Int × Int × Int × Int) × Unit->List ((Int × Int) × Int) × Unit->Prop),∃
 (μ_1:Int × List (Int × Int × Int × Int) × Unit->List ((Int × Int) × Int) × Unit->Nat),I_1 ((0:Int),x.2.1,()) (y.1,())/\∀(x_2:Int × List (Int × Int × Int × Int) ×
 Unit) (y_1:List ((Int × Int) × Int) × Unit),I_1 x_2 y_1->Br (decide (x_2.1<(4:Int))) (∃(h:III n x.1 x_2.1),∀ a,a=Z5x n x.1 x_2.1->Br (decide (x.1 > a.1)) (((0
 : Nat)=(0:Nat)/\x_2.2.1.length=x_2.2.1.length)/\HS (Z1h8 y_1 ty92 n x ty93 fn49 fn50 ty2)/\I_1 (i64.wrap (x_2.1+(1:Int)),x_2.2.1,()) (y_1.1,())/\
 μ_1 (i64.wrap (x_2.1+(1:Int)),x_2.2.1,()) (y_1.1,())<μ_1 x_2 y_1) (∃(h:x_2.2.1.length=x_2.2.1.length/\(x_2.2.1.length+(1:Nat))*(32:Nat)<=
 (140737488355328:Nat)),((0:Nat)=(0:Nat)/\x_2.2.1.length+(1:Nat)=(x_2.2.1++[(x.1,x_2.1,a.1,a.2.1)]).length)/\HS (Z1h9 a x_2 x y_1 ty92 n ty93 fn49
 fn50 ty2)/\I_1 (i64.wrap (x_2.1+(1:Int)),x_2.2.1++[(x.1,x_2.1,a.1,a.2.1)],()) (mput (a.1,a.2.1) (↑x_2.2.1.length:Int) (mput (x.1,x_2.1) (↑x_2.2.1.length:
 Int) y_1.1),())/\μ_1 (i64.wrap (x_2.1+(1:Int)),x_2.2.1++[(x.1,x_2.1,a.1,a.2.1)],()) (mput (a.1,a.2.1) (↑x_2.2.1.length:Int) (mput (x.1,x_2.1)
 (↑x_2.2.1.length:Int) y_1.1),())<μ_1 x_2 y_1)) (((0:Nat)=(0:Nat)/\x_2.2.1.length=x_2.2.1.length)/\((0:Nat)=(0:Nat)/\x.2.2.1.length=x.2.2.1.length)/\HS
 (Z1ha y_1 ty92 n ty93 fn49 fn50)/\I (i64.wrap (x.1+(1:Int)),x_2.2.1,x.2.2.1,()) (y_1.1,())/\μ (i64.wrap (x.1+(1:Int)),x_2.2.1,x.2.2.1,())
 (y_1.1,())<μ x y)) (∃(h:(0:Int)<=i64.wrap ((0:Int)+(1:Int))/\i64.wrap ((0:Int)+(1:Int))<(↑(2:Nat):Int)),((0:Nat)=(0:Nat)/\
 x.2.1.length=x.2.1.length)/\((0:Nat)=(0:Nat)/\x.2.2.1.length=x.2.2.1.length)/\HS (Zv6 y ty92 n ty93 fn49 fn50)/\∃(I:Int × List (Int × Int × Int × Int) ×
 List Int × Unit->List ((Int × Int) × Int) × Unit->Prop),∃(μ:Int × List (Int × Int × Int × Int) × List Int × Unit->List ((Int × Int) × Int) × Unit->Nat),I ((0:Int),
 x.2.1,x.2.2.1,()) (y.1,())/\∀(x:Int × List (Int × Int × Int × Int) × List Int × Unit)(y:List ((Int × Int) × Int) × Unit),I x y->Br (decide (x.1<(Z4d n).1)) (∃(h
 : II n x.1),∃(h:x.2.2.1.length=x.2.2.1.length/\(x.2.2.1.length+(1:Nat))*(8:Nat)<=(140737488355328:Nat)),((0:Nat)=(0:Nat)/\x.2.1.length=x.2.1.length)/\
 ((0:Nat)=(0:Nat)/\x.2.2.1.length+(1:Nat)=(x.2.2.1++[(Z12i n x.1).1]).length)/\HS (Zv6 y ty92 n ty93 fn49 fn50)/\I (i64.wrap (x.1+(1:Int)),
 x.2.1,x.2.2.1++[(Z12i n x.1).1],()) (y.1,())/\μ (i64.wrap (x.1+(1:Int)),x.2.1,x.2.2.1++[(Z12i n x.1).1],()) (y.1,())<μ x y) (HS (Zv7 y ty92 n
 x ty93 fn49 fn50 ty96 ty2)/\∃(I:Int × List (List Int) × List Nat × List Nat × Unit->Unit->Prop),∃(μ:Int × List (List Int) × List Nat × List Nat × Unit->Unit->Nat),I
 ((0:Int),[],[],[],()) ()/\∀(x_3:Int × List (List Int) × List Nat × List Nat × Unit)(y_1:Unit),I x_3 y_1->Br (decide (x_3.1<(↑x.2.1.length:Int))) (∃(h:(0:
 Int)<=x_3.1/\x_3.1<(↑x.2.1.length:Int)),∃(h:(4:Int)≠(0:Int)),∃(h:III n (x.2.1.getD ((0:Nat)+x_3.1.toNat) Z49.dflt).1 ((i64.wrap ((x.2.1.getD ((0
 : Nat)+x_3.1.toNat) Z49.dflt).2.1+(2:Int))).tmod (4:Int))),∀ a,a=Z5x n (x.2.1.getD ((0:Nat)+x_3.1.toNat) Z49.dflt).1 ((i64.wrap ((x.2.1.getD ((0:
 Nat)+x_3.1.toNat) Z49.dflt).2.1+(2:Int))).tmod (4:Int))->∃(h:(4:Int)≠(0:Int)),∃(h:III n (x.2.1.getD ((0:Nat)+x_3.1.toNat) Z49.dflt).2.2.1
 ((i64.wrap ((x.2.1.getD ((0:Nat)+x_3.1.toNat) Z49.dflt).2.2.2+(2:Int))).tmod (4:Int))),∀ a_1,a_1=Z5x n (x.2.1.getD ((0:Nat)+x_3.1.toNat)
 Z49.dflt).2.2.1 ((i64.wrap ((x.2.1.getD ((0:Nat)+x_3.1.toNat) Z49.dflt).2.2.2+(2:Int))).tmod (4:Int))->∃(h:x_3.2.1.length=x_3.2.1.length/\
 (x_3.2.1.length+(1:Nat))*(16:Nat)<=(140737488355328:Nat)),∃(h:III n (x.2.1.getD ((0:Nat)+x_3.1.toNat) Z49.dflt).1 (x.2.1.getD ((0:Nat)+x_3.1.toNat)
 Z49.dflt).2.1),∀ a_2,a_2=Zif n (x.2.1.getD ((0:Nat)+x_3.1.toNat) Z49.dflt).1 (x.2.1.getD ((0:Nat)+x_3.1.toNat) Z49.dflt).2.1->∃(h:x_3.2.2.1.length=
 x_3.2.2.1.length/\(x_3.2.2.1.length+(1:Nat))*(8:Nat)<=(140737488355328:Nat)),∃(h:III n (x.2.1.getD ((0:Nat)+x_3.1.toNat) Z49.dflt).1 (x.2.1.getD ((0:Nat)+
 x_3.1.toNat) Z49.dflt).2.1),∀ a_3,a_3=Z1m9 n (x.2.1.getD ((0:Nat)+x_3.1.toNat) Z49.dflt).1 (x.2.1.getD ((0:Nat)+x_3.1.toNat) Z49.dflt).2.1->∃(h:
 x_3.2.2.2.1.length=x_3.2.2.2.1.length/\(x_3.2.2.2.1.length+(1:Nat))*(8:Nat)<=(140737488355328:Nat)),((0:Nat)=(0:Nat)/\x_3.2.1.length+(1:Nat)=(x_3.2.1
 ++ [[a.1,a_1.1]]).length)/\((0:Nat)=(0:Nat)/\x_3.2.2.1.length+(1:Nat)=(x_3.2.2.1++[a_2.1]).length)/\((0:Nat)=(0:Nat)/\x_3.2.2.2.1.length+(1:Nat)=
 (x_3.2.2.2.1++[a_3.1]).length)/\HS (Zv7 y ty92 n x ty93 fn49 fn50 ty96 ty2)/\I (i64.wrap (x_3.1+(1:Int)),x_3.2.1++[[a.1,a_1.1]],x_3.2.2.1++[a_2.1],
 x_3.2.2.2.1++[a_3.1],()) ()/\μ (i64.wrap (x_3.1+(1:Int)),x_3.2.1++[[a.1,a_1.1]],x_3.2.2.1++[a_2.1],x_3.2.2.2.1++[a_3.1],()) ()<μ x_3 y_1) (post
 (some (n,List.take x.2.1.length (List.drop (0:Nat) x.2.1),y.1,List.take x_3.2.1.length (List.drop (0:Nat) x_3.2.1),List.take x.2.2.1.length (List.drop (0:Nat)
 x.2.2.1),List.take x_3.2.2.1.length (List.drop (0:Nat) x_3.2.2.1),List.take x_3.2.2.2.1.length (List.drop (0:Nat) x_3.2.2.2.1)),(0:Int),())))))
theorem Z1j8(ty0 ty1 ty2 ty3 ty4 ty5:Nat)(n:Int)(h:I64 n):Zyy ty0 ty1 ty2 ty3 ty4 ty5 n (λr=>r=newR n):=by
 have cr:=Z2p n;obtain⟨N,hN⟩:∃ N,(Z2 n).toNat=N:=⟨_,rfl⟩;have hc:Z2 n=(N:Int):=by omega
 have hc':(Z4d n).fst=(N:Int):=hc;have hN1:N<=6144:=by omega
 have nk:=λk=>Zas n k;have i6:∀ {z:Int},0<=z->z<=6144->I64 z:=λ {z} a b=>⟨by omega,by omega⟩;refine⟨h,?_⟩;rw[hc'];refine Br.intro (λe=>?_) λe=>?_
 ·have e:(N:Int)=0:=beq_iff_eq.1 e;show _=newR n;unfold newR; rw[if_pos (by omega)]
 have e:¬ (N:Int)=0:=λq=>by rw[q]at e; cases e
 have hnew:newR n=(some (netG n),0,()):=by unfold newR; rw[if_neg (by omega)]
 refine⟨⟨by decide,by decide⟩,rfl,λx y=>∃ k:Nat,x.1=k/\k<=N/\x.2.1=(netN n k).1/\x.2.2.1=[]/\y.1=(netN n k).2,λx _=>N - x.1.toNat,⟨0,rfl,by omega,rfl,rfl,rfl⟩,?_⟩;rintro⟨_,_,_,⟨⟩⟩ ⟨_,⟨⟩⟩ ⟨k,rfl,hk,rfl,rfl,rfl⟩;dsimp only;refine Br.intro (λe1=>?_) λe1=>?_
 ·have e1:k<N:=by have:=of_decide_eq_true e1; omega
  refine⟨⟨rfl,rfl⟩,rfl,λx y=>∃ j:Nat,x.1=j/\j<=4/\x.2.1=(addN n k (netN n k) j).1/\y.1=(addN n k (netN n k) j).2,λx _=>4 - x.1.toNat,⟨0,rfl,by omega,rfl,rfl⟩,?_⟩;rintro⟨_,_,⟨⟩⟩ ⟨_,⟨⟩⟩ ⟨j,rfl,hj,rfl,rfl⟩;dsimp only;have hlen:=(Z172 (n:=n) (c:=k) (by omega) (by omega) (nk k (by omega)).1 j hj).2;have hlk:=(nk k (by omega)).2;refine Br.intro (λe2=>?_) λe2=>?_
  ·have e2:j<4:=by have e2:(j:Int)<4:=of_decide_eq_true e2; omega
   refine⟨⟨h,i6 (by omega) (by omega),i6 (by omega) (by omega)⟩,?_⟩;rintro⟨b,q,⟨⟩⟩ hb;have hb:(b,q,())=Z5x n k j:=hb;have eb:b=(Z3 n k j).1:=congrArg Prod.fst hb;have eq:q=(Z3 n k j).2:=congrArg (λz=>z.2.1) hb;rw[Z19 e2 (by omega)];refine Br.intro (λg=>?_) λg=>?_
   ·have g:(k:Int) > b:=of_decide_eq_true g
    have hst:addN n k (netN n k) (j+1)=addN n k (netN n k) j:=by
     show addE n k j (addN n k (netN n k) j)=_;unfold addE; rw[if_pos (by omega)]
    exact⟨⟨rfl,rfl⟩,rfl,⟨j+1,rfl,by omega,by rw[hst],by rw[hst]⟩,by omega⟩
   ·have g:¬ (k:Int) > b:=of_decide_eq_false g
    have hst:addN n k (netN n k) (j+1)=((addN n k (netN n k) j).1++[((k:Int),(j:Int),b,q)],mput (b,q) (addN n k (netN n k) j).1.length (mput ((k:Int),(j:Int)) (addN n k (netN n k) j).1.length (addN n k (netN n k) j).2)):=by
     show addE n k j (addN n k (netN n k) j)=_;unfold addE; rw[if_neg (by omega),eb,eq]
    exact⟨⟨rfl,by omega⟩,⟨rfl,by rw[List.length_append]; rfl⟩,rfl,⟨j+1,rfl,by omega,by rw[hst],by rw[hst]⟩,by omega⟩
  ·have e2:j=4:=by have e2:¬ (j:Int)<4:=of_decide_eq_false e2; omega
   subst e2;rw[Z19 e1 (by omega)];exact⟨⟨rfl,rfl⟩,⟨rfl,rfl⟩,rfl,⟨k+1,rfl,by omega,rfl,rfl,rfl⟩,by omega⟩
 have e1:k=N:=by have:=of_decide_eq_false e1; omega
 subst e1;obtain⟨eok,elen⟩:=nk k hN1;have hE:netE n=netN n k:=by unfold netE; rw[hN]
 generalize netN n k=E at *;refine⟨⟨by decide,by decide⟩,⟨rfl,rfl⟩,⟨rfl,rfl⟩,rfl,λx y=>∃ m:Nat,x.1=m/\m<=k/\x.2.1=E.1/\x.2.2.1=((List.range m).map λq:Nat=>Zv n (q:Int))/\y.1=E.2,λx _=>k - x.1.toNat,⟨0,rfl,by omega,rfl,rfl,rfl⟩,?_⟩;rintro⟨_,_,_,⟨⟩⟩ ⟨_,⟨⟩⟩ ⟨m,rfl,hm,rfl,rfl,rfl⟩;dsimp only;have hml:((List.range m).map λq:Nat=>Zv n (q:Int)).length=m:=by rw[List.length_map,List.length_range]
 refine Br.intro (λe1=>?_) λe1=>?_
 ·have e1:m<k:=by have:=of_decide_eq_true e1; omega
  rw[Z19 e1 (by omega)];exact⟨⟨h,i6 (by omega) (by omega)⟩,⟨rfl,by rw[hml]; omega⟩,⟨rfl,rfl⟩,⟨rfl,by rw[List.length_append]; rfl⟩,rfl,⟨m+1,rfl,by omega,rfl,(Z16z (λq:Nat=>Zv n (q:Int)) m).symm,rfl⟩,by omega⟩
 have e1:m=k:=by have:=of_decide_eq_false e1; omega
 subst e1;refine⟨rfl,λx _=>∃ q:Nat,x.1=q/\q<=E.1.length/\x.2.1=(E.1.take q).map (Z99 n)/\x.2.2.1=(E.1.take q).map (λe=>Z3q n e.1 e.2.1)/\x.2.2.2.1=(E.1.take q).map (λe=>gapG n e.1 e.2.1),λx _=>E.1.length - x.1.toNat,⟨0,rfl,by omega,rfl,rfl,rfl⟩,?_⟩;rintro⟨_,_,_,_,⟨⟩⟩ _ ⟨q,rfl,hq,rfl,rfl,rfl⟩;dsimp only;have hl:∀ {α:Type}(f:Ed->α),((E.1.take q).map f).length=q:=λ {α} f=>by rw[List.length_map,List.length_take]; omega
 refine Br.intro (λe1=>?_) λe1=>?_
 ·have e1:q<E.1.length:=by have:=of_decide_eq_true e1; omega
  rw[Int.toNat_natCast,Nat.zero_add,Z19 e1 (by omega)];obtain⟨d,hd⟩:∃ d,E.1.getD q Z49.dflt=d:=⟨_,rfl⟩;have dm:d ∈ E.1:=by rw[<- hd]; exact Zu e1 _
  have ts:E.1.take (q+1)=E.1.take q++[d]:=by rw[Zf8 e1 Z49.dflt,hd]
  rw[hd];obtain⟨d1,d2,d3,d4,d5,d6,d7,d8⟩:=eok d dm;have w1:i64.wrap (d.2.1+2)=d.2.1+2:=wi ⟨by omega,by omega⟩;have w2:i64.wrap (d.2.2.2+2)=d.2.2.2+2:=wi ⟨by omega,by omega⟩;rw[w1,w2];have t1:I64 (Int.tmod (d.2.1+2) 4):=by rw[Int.tmod_eq_emod_of_nonneg (by omega)]; exact i6 (by omega) (by omega)
  have t2:I64 (Int.tmod (d.2.2.2+2) 4):=by rw[Int.tmod_eq_emod_of_nonneg (by omega)]; exact i6 (by omega) (by omega)
  refine⟨⟨by omega,by omega⟩,by decide,⟨h,i6 d1 (by omega),t1⟩,?_⟩;rintro⟨a1,a2,⟨⟩⟩ ha;have ea:a1=(Z3 n d.1 (Int.tmod (d.2.1+2) 4)).1:=congrArg Prod.fst ha;refine⟨by decide,⟨h,i6 d5 (by omega),t2⟩,?_⟩;rintro⟨b1,b2,⟨⟩⟩ hb;have eb:b1=(Z3 n d.2.2.1 (Int.tmod (d.2.2.2+2) 4)).1:=congrArg Prod.fst hb;refine⟨⟨rfl,by rw[hl]; omega⟩,⟨h,i6 d1 (by omega),i6 d3 (by omega)⟩,?_⟩;rintro⟨l1,⟨⟩⟩ hl1;have el:l1=Z3q n d.1 d.2.1:=congrArg Prod.fst hl1;refine⟨⟨rfl,by rw[hl]; omega⟩,⟨h,i6 d1 (by omega),i6 d3 (by omega)⟩,?_⟩;rintro⟨g1,⟨⟩⟩ hg1;have eg:g1=gapG n d.1 d.2.1:=congrArg Prod.fst hg1;refine⟨⟨rfl,by rw[hl]; omega⟩,⟨rfl,by rw[List.length_append]; rfl⟩,⟨rfl,by rw[List.length_append]; rfl⟩,⟨rfl,by rw[List.length_append]; rfl⟩,rfl,⟨q+1,rfl,by omega,?_,?_,?_⟩,by omega⟩
  ·rw[ts,List.map_append]; dsimp only; rw[ea,eb]; rfl
  ·rw[ts,List.map_append]; dsimp only; rw[el]; rfl
  ·rw[ts,List.map_append]; dsimp only; rw[eg]; rfl
 ·have e1:q=E.1.length:=by have:=of_decide_eq_false e1; omega
  subst e1;show _=newR n;rw[hnew];unfold netG Zbq;rw[hE,hN,List.take_length];simp only[List.drop_zero,List.take_length]
def Zv8:=λ(a:Int)(post:Bool × Unit->Prop)=>∀ a_1,a_1=decide (a>=1)->Br a_1 (∀ a_2,a_2=decide (a<=32)->post (a_2,())) (post
 (false,()))
theorem Z1hb(a:Int):Zv8  a (λr=>r=Z12f a):=by
 rintro _ rfl;refine Br.intro (λe=>?_) λe=>?_
 ·rintro _ rfl;refine congrArg r1 ?_;show _=Z24 a;unfold Z24;rw[show decide ((1:Int)<=a)=true from e,Bool.true_and]
 ·refine congrArg r1 ?_;show _=Z24 a;unfold Z24;rw[show decide ((1:Int)<=a)=false from e,Bool.false_and]
def Zqx:=λ(a:Int)(post:Int × Unit->Prop)=>∃(h:True),∀ a_1,a_1=(Z12f a).1->Br (!a_1) (post (0,())) (post (i64.wrap (i64.wrap ((6:
 Int)*a)*a),()))
theorem Z1cm(a:Int)(h:I64 a):Zqx  a (λr=>r=Z4d a):=by
 refine⟨trivial,?_⟩;rintro _ rfl;refine Br.intro (λe=>?_) λe=>?_
 ·have e:(!Z24 a)=true:=e;exact congrArg r1 (Zf6 (by simpa using e)).symm
 ·have e:(!Z24 a)=false:=e;exact congrArg r1 (Z1m8 (by simpa using e))
def Zqy:=λ(n c:Int)(post:Int × Int × Int × Bool × Unit->Prop)=>∀ a,a=decide (c<0)->Br a (post (0,0,0,false,())) (∃(h:I64 n),∀ a,a
 = decide (c>=(Z4d n).1)->Br a (post (0,0,0,false,())) (∃(h:i64.wrap (n*n)≠0),∃(h:n≠0),∃(h:n≠0),∃(h:n≠(0:
 Int)),post (i64.wrap (c.tdiv (i64.wrap (n*n))),c.tmod n,(i64.wrap (c.tdiv n)).tmod n,true,())))
theorem Z1cn(n:Int)(c:Int)(h:II n c):Zqy  n c (λr=>r=Z7 n c):=by
 have bad:Ze n c=false->((0:Int),(0:Int),(0:Int),false,())=Z7 n c:=by
  intro e; unfold Z7; rw[if_neg (by rw[e]; decide)]
 rintro _ rfl;refine Br.intro (λe=>?_) λe=>?_
 ·have e:=of_decide_eq_true e;exact bad (by unfold Ze; rw[decide_eq_false (by omega),Bool.false_and])
 ·have e:=of_decide_eq_false e;refine⟨h.1,?_⟩;rintro _ rfl;refine Br.intro (λf=>?_) λf=>?_
  ·have f:Z2 n<=c:=of_decide_eq_true f;exact bad (by unfold Ze; rw[decide_eq_false (p:=c<Z2 n) (by omega),Bool.and_false])
  ·have f:¬ c>=Z2 n:=of_decide_eq_false f;have ok:Ze n c=true:=by unfold Ze; rw[decide_eq_true (by omega),decide_eq_true (by omega)]; rfl
   obtain⟨h1,h2,h3,h4,h5,h6⟩:=Zeb ok;obtain⟨r1,r2,r3,r4,r5,r6⟩:=Zu5 ok;have w1:i64.wrap (n*n)=n*n:=wi ⟨by omega,by omega⟩;have d1:c.tdiv (n*n)=c / (n*n):=Int.tdiv_eq_ediv_of_nonneg h3;have d2:c.tdiv n=c / n:=Int.tdiv_eq_ediv_of_nonneg h3;have d3:0<=c / n/\c / n<=c:=⟨Int.ediv_nonneg h3 (by omega),Int.ediv_le_self _ h3⟩;have w2:i64.wrap (c / n)=c / n:=wi ⟨by omega,by have:=h.2; unfold I64 at this; omega⟩;have w3:i64.wrap (c / (n*n))=c / (n*n):=wi ⟨by omega,by omega⟩;refine⟨by rw[w1]; omega,by omega,by omega,by omega,?_⟩;rw[w1,d1,w3,d2,w2,Int.tmod_eq_emod_of_nonneg h3,Int.tmod_eq_emod_of_nonneg d3.1];unfold Z7; rw[if_pos ok]
section
open Go.Proofs
def Z14a:Cx:=⟨Z1v Z26,Z23 [],SqG⟩
theorem Zqz:CxOk Tryz.prog Z14a:=⟨Zn Z12,λf c h=>by cases h⟩
def Zg6:Con:=.det [.int .i64] [.snap .bool] (λ_=>True) (λx=>Z12f x.1)
theorem Zr0:SqH Zg6 102:=
 dP Zqz Z5 Zc nHn Tryz.func102 (λx p=>Zv8  x.1 p) λx _ _=>Z1hb  x.1
def Z14b:Cx:=addC 102 Zg6 Z14a
theorem Zr1:CxOk Tryz.prog Z14b:=Zk Zqz Zr0
def Z5i:Con:=.det [.int .i64] [.snap (.int .i64)] (λx=>I64 x.1) (λx=>Z4d x.1)
theorem Z76:SqH Z5i 48:=
 dP Zr1 Z5 Zc nHn Tryz.func48 (λx p=>Zqx  x.1 p) λx h _=>Z1cm  x.1 h
def Z1n9:Cx:=addC 48 Z5i Z14b
theorem Z1co:CxOk Tryz.prog Z1n9:=Zk Zr1 Z76
def Z9j:Con:=.det [.int .i64,.int .i64] [.snap (.int .i64),.snap (.int .i64),.snap (.int .i64),.snap .bool] (λx=>II x.1 x.2.1) (λx=>Z7 x.1 x.2.1)
theorem Zds:SqH Z9j 104:=
 dP Z1co Z5 Zc nHn Tryz.func104 (λx p=>Zqy  x.1 x.2.1 p) λx h _=>Z1cn  x.1 x.2.1 h
end
def Zkt(ty154:Nat)(ty160:Nat)(a_2:Int × Unit)(ty158:Nat)(a_4:List Int × Unit):List HObj:=[HObj.row Md.rw ty154 (K.arr (2:Nat) (K.int i64)) [[(1:Int),(0:Int)],[(0:Int),(1:Int)],[(-1:Int),(0:Int)],[(0:Int),(-1:Int)]],HObj.row Md.rw ty160 (K.arr (3:Nat) (K.int i64)) (Zq.getD a_2.1.toNat (K.arr (3:Nat) (K.arr (3:Nat) (K.int i64))).dflt),HObj.row Md.rw ty158 (K.int i64) a_4.1]
def Znj:=λ(ty154 ty160 ty158:Nat)(n c o:Int)(post:Int × Int × Unit->Prop)=>∃(h:II n c),Br (!(Z7 n c).2.2.2.1) (post ((-1:Int),(0:Int),()))
 (∀ a,a=decide (o<(0:Int))->Br a (post ((-1:Int),(0:Int),())) (∀ a,a=decide (o>=(4:Int))->Br a (post ((-1:Int),(0:Int),())) (∃(h:(List.replicate (4:
 Nat) (K.arr (2:Nat) (K.int i64)).dflt).length=(4:Nat)/\(4:Nat)=(4:Nat)),∃(h:(0:Int)<=o/\o<(↑(4:Nat):Int)/\(4:Nat)<=(4:Nat)),∃(h:(0:
 Int)<=(0:Int)/\(0:Int)<(↑(2:Nat):Int)),∃(h:(0:Int)<=o/\o<(↑(4:Nat):Int)/\(4:Nat)<=(4:Nat)),∃(h:(0:Int)<=(1:Int)/\(1:Int)<(↑(2:Nat)
 : Int)),∃(h:IIII n (Z7 n c).1 (i64.wrap ((Z7 n c).2.1+List.getD ([[(1:Int),(0:Int)],[(0:Int),(1:Int)],[(-1:Int),(0:Int)],[(0:Int),(-1
 : Int)]].getD o.toNat (K.arr (2:Nat) (K.int i64)).dflt) (0:Nat) (0:Int))) (i64.wrap ((Z7 n c).2.2.1+List.getD ([[(1:Int),(0:Int)],[(0:Int),(1
 : Int)],[(-1:Int),(0:Int)],[(0:Int),(-1:Int)]].getD o.toNat (K.arr (2:Nat) (K.int i64)).dflt) ((nat_lit 0+(1:Nat)) / (K.int i64).sz) (0:
 Int)))),∀ a,a=Zwq n (Z7 n c).1 (i64.wrap ((Z7 n c).2.1+List.getD ([[(1:Int),(0:Int)],[(0:Int),(1:Int)],[(-1:Int),(0:Int)],[(0:Int),
 (-1:Int)]].getD o.toNat (K.arr (2:Nat) (K.int i64)).dflt) (0:Nat) (0:Int))) (i64.wrap ((Z7 n c).2.2.1+List.getD ([[(1:Int),(0:Int)],[(0:
 Int),(1:Int)],[(-1:Int),(0:Int)],[(0:Int),(-1:Int)]].getD o.toNat (K.arr (2:Nat) (K.int i64)).dflt) ((nat_lit 0+(1:Nat)) / (K.int i64).sz) (0
 : Int)))->∀ a_1,a_1=decide (a.1>=(0:Int))->Br a_1 (∃(h:(4:Int)≠(0:Int)),post (a.1,(i64.wrap (o+(2:Int))).tmod (4:Int),())) (∃(h:(0:Int)<=
 (Z7 n c).1/\(Z7 n c).1<(↑(6:Nat):Int)),∃(h:WOut (Zq.getD (Z7 n c).1.toNat (K.arr (3:Nat) (K.arr (3:Nat) (K.int i64))).dflt) o),∀ a,a=
 outR (Zq.getD (Z7 n c).1.toNat (K.arr (3:Nat) (K.arr (3:Nat) (K.int i64))).dflt) o->∃(h:True),∀ a_2,a_2=Z170 a.1->∃(h:(0:Int)<=a_2.1/\
 a_2.1<(↑(6:Nat):Int)),∃(h:(List.replicate (3:Nat) (K.arr (3:Nat) (K.int i64)).dflt).length=(3:Nat)/\List.length (Zq.getD a_2.1.toNat (K.arr (3:
 Nat) (K.arr (3:Nat) (K.int i64))).dflt)=(3:Nat)),∃(h:Z35 n (Z7 n c).1 (Z7 n c).2.1 (Z7 n c).2.2.1),∀ a,a=Zzv n (Z7 n c).1
 (Z7 n c).2.1 (Z7 n c).2.2.1->∃(h:(0:Int)<=(Z7 n c).1/\(Z7 n c).1<(↑(6:Nat):Int)),∃(h:WOut (Zq.getD (Z7 n c).1.toNat (K.arr (3:
 Nat) (K.arr (3:Nat) (K.int i64))).dflt) o),∀ a_3,a_3=outR (Zq.getD (Z7 n c).1.toNat (K.arr (3:Nat) (K.arr (3:Nat) (K.int i64))).dflt) o->∃(h
 : Z12m a.1 a_3.1),∀ a_4,a_4=Zwp a.1 a_3.1->∃(h:(List.replicate (3:Nat) (0:Int)).length=(3:Nat)/\a_4.1.length=(3:Nat)),∃(h:a_4.1.length=(3:Nat)),∃
 (h:(0:Int)<=(1:Int)/\(1:Int)<(↑(3:Nat):Int)/\(3:Nat)<=List.length (Zq.getD a_2.1.toNat (K.arr (3:Nat) (K.arr (3:Nat) (K.int i64))).dflt)),∃
 (h:WDot a_4.1 (List.getD (Zq.getD a_2.1.toNat (K.arr (3:Nat) (K.arr (3:Nat) (K.int i64))).dflt) (Int.toNat (1:Int)) (K.arr (3:Nat) (K.int
 i64)).dflt)),∀ a,a=dotR a_4.1 (List.getD (Zq.getD a_2.1.toNat (K.arr (3:Nat) (K.arr (3:Nat) (K.int i64))).dflt) (Int.toNat (1:Int)) (K.arr (3:Nat)
 (K.int i64)).dflt)->∃(h:Z12o n a.1),∀ a_5,a_5=Z12n n a.1->∃(h:a_4.1.length=(3:Nat)),∃(h:(0:Int)<=(2:Int)/\(2:Int)<(↑(3:Nat):Int)/\(3
 : Nat)<=List.length (Zq.getD a_2.1.toNat (K.arr (3:Nat) (K.arr (3:Nat) (K.int i64))).dflt)),∃(h:WDot a_4.1 (List.getD (Zq.getD a_2.1.toNat (K.arr (3:
 Nat) (K.arr (3:Nat) (K.int i64))).dflt) (Int.toNat (2:Int)) (K.arr (3:Nat) (K.int i64)).dflt)),∀ a,a=dotR a_4.1 (List.getD (Zq.getD a_2.1.toNat
 (K.arr (3:Nat) (K.arr (3:Nat) (K.int i64))).dflt) (Int.toNat (2:Int)) (K.arr (3:Nat) (K.int i64)).dflt)->∃(h:Z12o n a.1),∀ a_6,a_6=Z12n n a.1->
 ∃(h:IIII n a_2.1 a_5.1 a_6.1),∀ a,a=Zwq n a_2.1 a_5.1 a_6.1->HS (Zkt ty154 ty160 a_2 ty158 a_4)/\∃(I:Int × Unit->Unit->Prop),∃(μ:Int × Unit->Unit
 -> Nat),I ((0:Int),()) ()/\∀(x:Int × Unit)(y:Unit),I x y->∀ a_7,a_7=decide (x.1<(4:Int))->Br a_7 (∃(h:List.length (Zq.getD a_2.1.toNat (K.arr (3:Nat)
 (K.arr (3:Nat) (K.int i64))).dflt)=(3:Nat)),∃(h:WOut (Zq.getD a_2.1.toNat (K.arr (3:Nat) (K.arr (3:Nat) (K.int i64))).dflt) x.1),∀ a_8,a_8=
 outR (Zq.getD a_2.1.toNat (K.arr (3:Nat) (K.arr (3:Nat) (K.int i64))).dflt) x.1->∃(h:(0:Int)<=(Z7 n c).1/\(Z7 n c).1<(↑(6:Nat):Int)),∃(h
 : (0:Int)<=(0:Int)/\(0:Int)<(↑(3:Nat):Int)),∀ a_9,a_9=eqL a_8.1 (List.getD (Zq.getD (Z7 n c).1.toNat (K.arr (3:Nat) (K.arr (3:Nat) (K.int
 i64))).dflt) (Int.toNat (0:Int)) (K.arr (3:Nat) (K.int i64)).dflt)->Br a_9 (post (a.1,x.1,())) (HS (Zkt ty154 ty160 a_2 ty158 a_4)/\I
 (i64.wrap (x.1+(1:Int)),()) ()/\μ (i64.wrap (x.1+(1:Int)),()) ()<μ x y)) (post ((-1:Int),(0:Int),()))))))
theorem Z17w(ty0 ty1 ty2:Nat)(n:Int)(c:Int)(o:Int)(h:III n c o):Znj ty0 ty1 ty2 n c o (λr=>r=Z5x n c o):=by
 refine⟨⟨h.1,h.2.1⟩,?_⟩
 have no:Zj n c o=false->((-1:Int),(0:Int),())=Z5x n c o:=by
  intro q;have:Z3 n c o=(-1,0):=by unfold Z3; rw[if_neg (by rw[q]; decide)]
  unfold Z5x; rw[this]
 by_cases ok:Ze n c=true
 ·rw[Z1fv ok];have hm:=Zfc ok;have hh:=hm;obtain⟨n1,n2,f0,f5,i0,i1,j0,j1⟩:=hh;dsimp only;refine Br.intro (λe=>absurd e (by decide)) λ_=>?_;rintro _ rfl;refine Br.intro (λe=>no ?_) λe=>?_
  ·have e:=of_decide_eq_true e;unfold Zj; rw[decide_eq_false (p:=0<=o) (by omega)]; simp
  have o0:=of_decide_eq_false e;rintro _ rfl;refine Br.intro (λe=>no ?_) λe=>?_
  ·have e:=of_decide_eq_true e;unfold Zj; rw[decide_eq_false (p:=o<4) (by omega)]; simp
  have o4:=of_decide_eq_false e;have o0:0<=o:=by omega
  have o4:o<4:=by omega
  have okb:Zj n c o=true:=by unfold Zj; rw[ok,decide_eq_true o0,decide_eq_true o4]; rfl
  have d:=dxy (o:=o);obtain⟨F,hF⟩:∃ F,c / (n*n)=F:=⟨_,rfl⟩;obtain⟨i,hi0⟩:∃ i,c % n=i:=⟨_,rfl⟩;obtain⟨j,hj0⟩:∃ j,c / n % n=j:=⟨_,rfl⟩
  have hb:Z3 n c o=if 0<=Z2g n F (i+dxI o) (j+dyI o)then(Z2g n F (i+dxI o) (j+dyI o),Int.tmod (o+2) 4)else Z12p n F i j o:=by
   unfold Z3; rw[if_pos okb,hF,hi0,hj0]
  rw[hF,hi0,hj0];rw[hF]at hm f0 f5;rw[hi0]at hm i0 i1;rw[hj0]at hm j0 j1;have w1:i64.wrap (i+dxI o)=i+dxI o:=wi ⟨by omega,by omega⟩;have w2:i64.wrap (j+dyI o)=j+dyI o:=wi ⟨by omega,by omega⟩;have i6:∀ {z:Int},-1<=z->z<=6144->I64 z:=λ {z} a b=>⟨by omega,by omega⟩;have fb:=Z6j f0 f5;have wo:∀ q,WOut (Z18 F) q:=λq=>⟨(fb 1).mono (by decide),(fb 2).mono (by decide)⟩;refine⟨⟨rfl,rfl⟩,⟨o0,o4,Nat.le_refl _⟩,⟨by decide,by decide⟩,⟨o0,o4,Nat.le_refl _⟩,⟨by decide,by decide⟩,⟨h.1,i6 (by omega) (by omega),Zzw _,Zzw _⟩,?_⟩;intro a ha;have ha:a=Zwq n F (i64.wrap (i+dxI o)) (i64.wrap (j+dyI o)):=ha.trans (by rw[<- Z1wa o0 o4,<- Z1wb o0 o4]; rfl);rw[w1,w2]at ha;obtain⟨a,⟨⟩⟩:=a;have ha:a=Z2g n F (i+dxI o) (j+dyI o):=congrArg Prod.fst ha;rw[<- ha]at hb;rintro _ rfl;refine Br.intro (λe=>?_) λe=>?_
  ·have e:a>=0:=of_decide_eq_true e;rw[if_pos e]at hb;refine⟨by decide,?_⟩;have:i64.wrap (o+2)=o+2:=wi ⟨by omega,by omega⟩;rw[this];unfold Z5x; rw[hb]
  have e:¬ 0<=a:=of_decide_eq_false e;rw[if_neg e]at hb;refine⟨⟨f0,by show F<6; omega⟩,wo o,?_⟩;rintro⟨v1,⟨⟩⟩ hv1;have e1:v1=outF (Z18 F) o:=congrArg Prod.fst hv1;refine⟨trivial,?_⟩;rintro⟨t,⟨⟩⟩ ht;have et:t=Z5e (outF (Z18 F) o):=by rw[<- e1]; exact congrArg Prod.fst ht
  obtain⟨t0,t5⟩:=Z1uq f0 f5 o0 o4;rw[<- et]at t0 t5;have fl:=Z1a4 t0 t5;have tb:=Z6j t0 t5;refine⟨⟨t0,by show t<6; omega⟩,⟨rfl,fl⟩,hm,?_⟩;rintro⟨p,⟨⟩⟩ hp;have ep:p=Z97 n F i j:=congrArg Prod.fst hp;have pb:Bd 96 p:=by rw[ep]; exact Z1pq hm
  refine⟨⟨f0,by show F<6; omega⟩,wo o,?_⟩;rintro⟨v2,⟨⟩⟩ hv2;have e2:v2=outF (Z18 F) o:=congrArg Prod.fst hv2;have vb:Bd 1 v2:=by rw[e2]; exact Z1w9 f0 f5 o
  refine⟨⟨pb.mono (by decide),vb.mono (by decide)⟩,?_⟩;rintro⟨q,⟨⟩⟩ hq;have eq:q=Zed p v2:=congrArg Prod.fst hq;have ql:q.length=3:=by rw[eq]; rfl
  have qb:Bd 97 q:=by rw[eq]; exact Zwr pb vb
  refine⟨⟨rfl,ql⟩,ql,⟨by decide,by decide,Nat.le_of_eq fl.symm⟩,⟨qb.mono (by decide),(tb 1).mono (by decide)⟩,?_⟩;rintro⟨d1,⟨⟩⟩ hd1;have ed1:d1=dotW q (Z2n (Z18 t) 1):=congrArg Prod.fst hd1;have db1:=Z1pp qb (tb 1);rw[<- ed1]at db1;refine⟨⟨n1,n2,by omega,by omega⟩,?_⟩;rintro⟨x1,⟨⟩⟩ hx1;have ex1:x1=Z51 n d1:=congrArg Prod.fst hx1;have xb1:=Z1a5 (a:=d1) n1;rw[<- ex1]at xb1;refine⟨ql,⟨by decide,by decide,Nat.le_of_eq fl.symm⟩,⟨qb.mono (by decide),(tb 2).mono (by decide)⟩,?_⟩;rintro⟨d2,⟨⟩⟩ hd2;have ed2:d2=dotW q (Z2n (Z18 t) 2):=congrArg Prod.fst hd2;have db2:=Z1pp qb (tb 2);rw[<- ed2]at db2;refine⟨⟨n1,n2,by omega,by omega⟩,?_⟩;rintro⟨x2,⟨⟩⟩ hx2;have ex2:x2=Z51 n d2:=congrArg Prod.fst hx2;have xb2:=Z1a5 (a:=d2) n1;rw[<- ex2]at xb2;refine⟨⟨h.1,i6 (by omega) (by omega),i6 (by omega) (by omega),i6 (by omega) (by omega)⟩,?_⟩;rintro⟨cc,⟨⟩⟩ hcc;have ecc:cc=Z2g n t x1 x2:=congrArg Prod.fst hcc
  have hov:Z3 n c o=Zee (Z18 t) (Z2n (Z18 F) 0) cc 4 0:=by
   rw[hb,ecc,ex1,ex2,ed1,ed2,eq,ep,e2,et]; rfl
  refine⟨rfl,λx _=>∃ k:Nat,x.1=k/\k<=4/\Z3 n c o=Zee (Z18 t) (Z2n (Z18 F) 0) cc (4 - k) k,λx _=>4 - x.1.toNat,⟨0,rfl,by omega,hov⟩,?_⟩;rintro⟨_,⟨⟩⟩ _ ⟨k,rfl,hk,hi⟩;dsimp only;rintro _ rfl;refine Br.intro (λg=>?_) λg=>?_
  ·have g:k<4:=by have g:(k:Int)<4:=of_decide_eq_true g; omega
   refine⟨fl,⟨(tb 1).mono (by decide),(tb 2).mono (by decide)⟩,?_⟩;rintro⟨v3,⟨⟩⟩ hv3;have e3:v3=outF (Z18 t) k:=congrArg Prod.fst hv3;refine⟨⟨f0,by show F<6; omega⟩,⟨by decide,by decide⟩,?_⟩;intro z hz;have hz:z=decide (outF (Z18 t) k=Z2n (Z18 F) 0):=by rw[<- e3]; exact hz
   obtain⟨r,hr⟩:∃ r,4 - k=r+1:=⟨3 - k,by omega⟩;rw[hr]at hi;unfold Zee at hi;rw[hz,Z19 g (by omega)];refine Br.intro (λy=>?_) λy=>?_
   ·rw[if_pos (of_decide_eq_true y)]at hi;unfold Z5x; rw[hi]
   ·rw[if_neg (of_decide_eq_false y)]at hi;exact⟨rfl,⟨k+1,rfl,by omega,by rw[show 4 - (k+1)=r by omega]; exact hi⟩,by omega⟩
  ·have g:k=4:=by have g:¬ (k:Int)<4:=of_decide_eq_false g; omega
   subst g;have hi:Z3 n c o=(-1,0):=hi;unfold Z5x; rw[hi]
 ·rw[Z1fw ok];refine Br.intro (λ_=>no ?_) λe=>absurd e (by decide);unfold Zj; rw[show Ze n c=false by simpa using ok]; rfl
def Zgl:=λ(a:List Int)(k:Int)(post:List Int × Unit->Prop)=>∃(h:(0:Int)<=(0:Int)/\(0:Int)<(↑(3:Nat):Int)/\(3:Nat)<=a.length),∃(h
 : (0:Int)<=(1:Int)/\(1:Int)<(↑(3:Nat):Int)/\(3:Nat)<=a.length),∃(h:(0:Int)<=(2:Int)/\(2:Int)<(↑(3:Nat):Int)/\(3:Nat)<=a.length),∃(h:
 (List.replicate (3:Nat) (0:Int)).length=(3:Nat)/\(3:Nat)=(3:Nat)),∃(h:(3:Nat)=(3:Nat)),post ([i64.wrap (k*a.getD (Int.toNat (0:Int)) (0:
 Int)),i64.wrap (k*a.getD (Int.toNat (1:Int)) (0:Int)),i64.wrap (k*a.getD (Int.toNat (2:Int)) (0:Int))],())
theorem Zxn(a:List Int)(k:Int)(h:Z7r a k)(w:KS.wf [kWay,.int .i64] (a,k,())):Zgl  a k (λr=>r=Zf9 a k):=by
 have hl:a.length=3:=w.1.1;obtain⟨hb,k1,k2⟩:=h
 have W:∀ i:Nat,i64.wrap (k*a.getD i 0)=k*a.getD i 0:=λi=>by
  have:=Zfb k1 k2 (hb i).1 (hb i).2;exact wi ⟨by omega,by omega⟩
 refine⟨⟨by decide,by decide,by omega⟩,⟨by decide,by decide,by omega⟩,⟨by decide,by decide,by omega⟩,⟨rfl,rfl⟩,rfl,?_⟩;show([i64.wrap (k*a.getD 0 0),i64.wrap (k*a.getD 1 0),i64.wrap (k*a.getD 2 0)],())=Zf9 a k;rw[W,W,W]; rfl
def Zj2:=λ(a b:List Int)(post:List Int × Unit->Prop)=>∃(h:(0:Int)<=(0:Int)/\(0:Int)<(↑(3:Nat):Int)/\(3:Nat)<=a.length),∃(h:(0:
 Int)<=(0:Int)/\(0:Int)<(↑(3:Nat):Int)/\(3:Nat)<=b.length),∃(h:(0:Int)<=(1:Int)/\(1:Int)<(↑(3:Nat):Int)/\(3:Nat)<=a.length),∃(h:(0:Int)
 <= (1:Int)/\(1:Int)<(↑(3:Nat):Int)/\(3:Nat)<=b.length),∃(h:(0:Int)<=(2:Int)/\(2:Int)<(↑(3:Nat):Int)/\(3:Nat)<=a.length),∃(h:(0:Int)<=(2
 : Int)/\(2:Int)<(↑(3:Nat):Int)/\(3:Nat)<=b.length),∃(h:(List.replicate (3:Nat) (0:Int)).length=(3:Nat)/\(3:Nat)=(3:Nat)),∃(h:(3:Nat)=(3:
 Nat)),post ([i64.wrap (a.getD (Int.toNat (0:Int)) (0:Int)+b.getD (Int.toNat (0:Int)) (0:Int)),i64.wrap (a.getD (Int.toNat (1:Int)) (0:Int)+b.getD
 (Int.toNat (1:Int)) (0:Int)),i64.wrap (a.getD (Int.toNat (2:Int)) (0:Int)+b.getD (Int.toNat (2:Int)) (0:Int))],())
theorem Z108(a:List Int)(b:List Int)(h:Z12m a b)(w:KS.wf [kWay,kWay] (a,b,())):Zj2  a b (λr=>r=Zwp a b):=by
 have hl:a.length=3:=w.1.1;have hm:b.length=3:=w.2.1.1;obtain⟨ha,hb⟩:=h
 have W:∀ i:Nat,i64.wrap (a.getD i 0+b.getD i 0)=a.getD i 0+b.getD i 0:=λi=>by
  have:=ha i; have:=hb i
  exact wi ⟨by omega,by omega⟩
 refine⟨⟨by decide,by decide,by omega⟩,⟨by decide,by decide,by omega⟩,⟨by decide,by decide,by omega⟩,⟨by decide,by decide,by omega⟩,⟨by decide,by decide,by omega⟩,⟨by decide,by decide,by omega⟩,⟨rfl,rfl⟩,rfl,?_⟩;show([i64.wrap (a.getD 0 0+b.getD 0 0),i64.wrap (a.getD 1 0+b.getD 1 0),i64.wrap (a.getD 2 0+b.getD 2 0)],())=Zwp a b;rw[W,W,W]; rfl
def Zku:=λ(a b:List Int)(post:Int × Unit->Prop)=>∃(h:(0:Int)<=(0:Int)/\(0:Int)<(↑(3:Nat):Int)/\(3:Nat)<=a.length),∃(h:(0:Int)<=
 (0:Int)/\(0:Int)<(↑(3:Nat):Int)/\(3:Nat)<=b.length),∃(h:(0:Int)<=(1:Int)/\(1:Int)<(↑(3:Nat):Int)/\(3:Nat)<=a.length),∃(h:(0:Int)<=(1:
 Int)/\(1:Int)<(↑(3:Nat):Int)/\(3:Nat)<=b.length),∃(h:(0:Int)<=(2:Int)/\(2:Int)<(↑(3:Nat):Int)/\(3:Nat)<=a.length),∃(h:(0:Int)<=(2:Int)
 /\ (2:Int)<(↑(3:Nat):Int)/\(3:Nat)<=b.length),post (i64.wrap (i64.wrap (i64.wrap (a.getD (Int.toNat (0:Int)) (0:Int)*b.getD (Int.toNat (0
 : Int)) (0:Int))+i64.wrap (a.getD (Int.toNat (1:Int)) (0:Int)*b.getD (Int.toNat (1:Int)) (0:Int)))+i64.wrap (a.getD (Int.toNat (2:Int)) (0:Int)
 * b.getD (Int.toNat (2:Int)) (0:Int))),())
theorem Z14c(a:List Int)(b:List Int)(h:WDot a b)(w:KS.wf [kWay,kWay] (a,b,())):Zku  a b (λr=>r=dotR a b):=by
 have hl:a.length=3:=w.1.1;have hm:b.length=3:=w.2.1.1;obtain⟨ha,hb⟩:=h;have M:∀ i:Nat,-(1048576*1048576)<=a.getD i 0*b.getD i 0/\a.getD i 0*b.getD i 0<=1048576*1048576:=λi=>Zfb (ha i).1 (ha i).2 (hb i).1 (hb i).2;have m0:=M 0;have m1:=M 1;have m2:=M 2;refine⟨⟨by decide,by decide,by omega⟩,⟨by decide,by decide,by omega⟩,⟨by decide,by decide,by omega⟩,⟨by decide,by decide,by omega⟩,⟨by decide,by decide,by omega⟩,⟨by decide,by decide,by omega⟩,?_⟩;show(i64.wrap (i64.wrap (i64.wrap (a.getD 0 0*b.getD 0 0)+i64.wrap (a.getD 1 0*b.getD 1 0))+i64.wrap (a.getD 2 0*b.getD 2 0)),())=dotR a b;rw[wi (x:=a.getD 0 0*b.getD 0 0) ⟨by omega,by omega⟩,wi (x:=a.getD 1 0*b.getD 1 0) ⟨by omega,by omega⟩,wi (x:=a.getD 2 0*b.getD 2 0) ⟨by omega,by omega⟩,wi (x:=a.getD 0 0*b.getD 0 0+a.getD 1 0*b.getD 1 0) ⟨by omega,by omega⟩,wi ⟨by omega,by omega⟩];rfl
def Zgm:=λ(f:List (List Int))(s:Int)(post:List Int × Unit->Prop)=>∀ a,a=(s==(0:Int))->Br a (∃(h:(0:Int)<=(1:Int)/\(1:Int)<(↑(3:
 Nat):Int)/\(3:Nat)<=f.length),∃(h:(List.replicate (3:Nat) (0:Int)).length=(3:Nat)/\List.length (f.getD (Int.toNat (1:Int)) (K.arr (3:Nat) (K.int
 i64)).dflt)=(3:Nat)),∃(h:List.length (f.getD (Int.toNat (1:Int)) (K.arr (3:Nat) (K.int i64)).dflt)=(3:Nat)),post (f.getD (Int.toNat (1:Int))
 (K.arr (3:Nat) (K.int i64)).dflt,())) (∀ a,a=(s==(1:Int))->Br a (∃(h:(0:Int)<=(2:Int)/\(2:Int)<(↑(3:Nat):Int)/\(3:Nat)<=f.length),∃(h:
 (List.replicate (3:Nat) (0:Int)).length=(3:Nat)/\List.length (f.getD (Int.toNat (2:Int)) (K.arr (3:Nat) (K.int i64)).dflt)=(3:Nat)),∃(h:List.length
 (f.getD (Int.toNat (2:Int)) (K.arr (3:Nat) (K.int i64)).dflt)=(3:Nat)),post (f.getD (Int.toNat (2:Int)) (K.arr (3:Nat) (K.int i64)).dflt,())) (∀ a,a
 = (s==(2:Int))->Br a (∃(h:(0:Int)<=(1:Int)/\(1:Int)<(↑(3:Nat):Int)/\(3:Nat)<=f.length),∃(h:Z7r (f.getD (Int.toNat (1:Int)) (K.arr (3:Nat)
 (K.int i64)).dflt) (-1:Int)),∀ a,a=Zf9 (f.getD (Int.toNat (1:Int)) (K.arr (3:Nat) (K.int i64)).dflt) (-1:Int)->∃(h:(List.replicate (3:Nat) (0
 : Int)).length=(3:Nat)/\a.1.length=(3:Nat)),∃(h:a.1.length=(3:Nat)),post (a.1,())) (∃(h:(0:Int)<=(2:Int)/\(2:Int)<(↑(3:Nat):Int)/\(3:Nat)<=
 f.length),∃(h:Z7r (f.getD (Int.toNat (2:Int)) (K.arr (3:Nat) (K.int i64)).dflt) (-1:Int)),∀ a,a=Zf9 (f.getD (Int.toNat (2:Int)) (K.arr (3:Nat)
 (K.int i64)).dflt) (-1:Int)->∃(h:(List.replicate (3:Nat) (0:Int)).length=(3:Nat)/\a.1.length=(3:Nat)),∃(h:a.1.length=(3:Nat)),post (a.1,()))))
theorem Zxo(f:List (List Int))(s:Int)(h:WOut f s)(w:KS.wf [Z1pf,.int .i64] (f,s,())):Zgm  f s (λr=>r=outR f s):=by
 have hl:f.length=3:=w.1.1
 have hm:∀ i,(Z2n f i).length=3:=λi=>by
  unfold Z2n;rcases Nat.lt_or_ge i f.length with g | g
  ·exact(w.1.2 _ (Zu g [0,0,0])).1
  ·rw[List.getD_eq_getElem?_getD,List.getElem?_eq_none g]; rfl
 obtain⟨h1,h2⟩:=h;have t1:Z7r (Z2n f 1) (-1):=⟨h1,by decide,by decide⟩;have t2:Z7r (Z2n f 2) (-1):=⟨h2,by decide,by decide⟩;rintro _ rfl;refine Br.intro (λe=>?_) λe=>?_
 ·have e:s=0:=beq_iff_eq.1 e;exact⟨⟨by decide,by decide,by omega⟩,⟨rfl,hm 1⟩,hm 1,congrArg r1 (by unfold outF; rw[if_pos e]; rfl)⟩
 have e:¬ s=0:=λq=>by rw[q]at e; cases e
 rintro _ rfl;refine Br.intro (λg=>?_) λg=>?_
 ·have g:s=1:=beq_iff_eq.1 g;exact⟨⟨by decide,by decide,by omega⟩,⟨rfl,hm 2⟩,hm 2,congrArg r1 (by unfold outF; rw[if_neg e,if_pos g]; rfl)⟩
 have g:¬ s=1:=λq=>by rw[q]at g; cases g
 rintro _ rfl;refine Br.intro (λj=>?_) λj=>?_
 ·have j:s=2:=beq_iff_eq.1 j;refine⟨⟨by decide,by decide,by omega⟩,t1,?_⟩;rintro _ rfl;exact⟨⟨rfl,rfl⟩,rfl,congrArg r1 (by unfold outF; rw[if_neg e,if_neg g,if_pos j]; rfl)⟩
 have j:¬ s=2:=λq=>by rw[q]at j; cases j
 refine⟨⟨by decide,by decide,by omega⟩,t2,?_⟩;rintro _ rfl;exact⟨⟨rfl,rfl⟩,rfl,congrArg r1 (by unfold outF; rw[if_neg e,if_neg g,if_neg j]; rfl)⟩
def Zkv(ty158:Nat)(c:List Int):List HObj:=[HObj.row Md.rw ty158 (K.int i64) c]
def Znk:=λ(ty158:Nat)(c:List Int)(post:Int × Unit->Prop)=>HS (Zkv ty158 c)/\∃(I:Int × Unit->Unit->Prop),∃(μ:Int × Unit->Unit->
 Nat),I ((0:Int),()) ()/\∀(x:Int × Unit)(y:Unit),I x y->∀ a,a=decide (x.1<(6:Int))->Br a (∃(h:(0:Int)<=x.1/\x.1<(↑(6:Nat):Int)),∃(h:(0:Int)
 <= (0:Int)/\(0:Int)<(↑(3:Nat):Int)),∃(h:c.length=(3:Nat)),∀ a,a=eqL (List.getD (Zq.getD x.1.toNat (K.arr (3:Nat) (K.arr (3:Nat) (K.int
 i64))).dflt) (Int.toNat (0:Int)) (K.arr (3:Nat) (K.int i64)).dflt) c->Br a (post (x.1,())) (HS (Zkv ty158 c)/\I (i64.wrap (x.1+(1:
 Int)),()) ()/\μ (i64.wrap (x.1+(1:Int)),()) ()<μ x y)) (post ((-1:Int),()))
theorem Z17x(ty0:Nat)(c:List Int)(w:KS.wf [kWay] (c,())):Znk ty0 c (λr=>r=Z170 c):=by
 have hl:c.length=3:=w.1.1;refine⟨rfl,λx _=>∃ k:Nat,x.1=k/\k<=6/\Z5e c=Zbp (λfr=>decide (Z2n fr 0=c)) k (Zq.drop k),λx _=>6 - x.1.toNat,⟨0,rfl,by omega,rfl⟩,?_⟩;rintro⟨_,⟨⟩⟩ _ ⟨k,rfl,hk,hi⟩;dsimp only;rintro _ rfl;refine Br.intro (λe=>?_) λe=>?_
 ·have e:k<6:=by have e:(k:Int)<6:=of_decide_eq_true e; omega
  refine⟨⟨by omega,by show(k:Int)<6; omega⟩,⟨by decide,by decide⟩,hl,?_⟩;rw[Zjy (l:=Zq) (i:=k) e [[0,0,0],[0,0,0],[0,0,0]],Zec]at hi;rw[Int.toNat_natCast,Z19 e (by omega)];intro z hz;have hz:z=decide (Z2n (Zq.getD k [[0,0,0],[0,0,0],[0,0,0]]) 0=c):=hz;rw[hz];refine Br.intro (λg=>?_) λg=>?_
  ·rw[if_pos g]at hi;exact congrArg r1 hi.symm
  ·rw[if_neg (by rw[g]; decide)]at hi;exact⟨rfl,⟨k+1,rfl,by omega,hi⟩,by omega⟩
 ·have e:k=6:=by have e:¬ (k:Int)<6:=of_decide_eq_false e; omega
  subst e;exact congrArg r1 (by rw[hi]; rfl)
def Zv9:=λ(n f i j:Int)(post:Int × Unit->Prop)=>∃(h:True),∀ a,a=(Z12f n).1->Br (!a) (post ((-1:Int),())) (∀ a,a=decide (f<0)->Br a
 (post ((-1:Int),())) (∀ a,a=decide (f>=6)->Br a (post ((-1:Int),())) (∀ a,a=decide (i<0)->Br a (post ((-1:Int),())) (∀ a,a=decide (i>=n)->
 Br a (post ((-1:Int),())) (∀ a,a=decide (j<0)->Br a (post ((-1:Int),())) (∀ a,a=decide (j>=n)->Br a (post ((-1:Int),())) (post (i64.wrap
 (i64.wrap (i64.wrap (i64.wrap (f*n)+j)*n)+i),()))))))))
theorem Z1hc(n:Int)(f:Int)(i:Int)(j:Int)(h:IIII n f i j):Zv9  n f i j (λr=>r=Zwq n f i j):=by
 obtain⟨hn,hf,hi,hj⟩:=h;have no:Z67 n f i j=false->((-1:Int),())=Zwq n f i j:=λq=>congrArg r1 (by unfold Z2g; rw[if_neg (by rw[q]; decide)]);have ok:∀ p,(Z24 n&&decide (0<=f)&&decide (f<6)&&decide (0<=i)&&decide (i<n)&&decide (0<=j)&&decide (j<n))=p->Z67 n f i j=p:=λp q=>q;refine⟨trivial,?_⟩;intro g hg;have hg:g=Z24 n:=hg;rw[hg];refine Br.intro (λe=>no (ok _ ?_)) λe=>?_
 ·have e:Z24 n=false:=by simpa using e
  rw[e]; rfl
 have e:Z24 n=true:=by simpa using e
 rintro _ rfl;refine Br.intro (λq=>no (ok _ ?_)) λq=>?_
 ·rw[decide_eq_false (p:=0<=f) (by have:=of_decide_eq_true q; omega)]; simp
 have q1:=of_decide_eq_false q;rintro _ rfl;refine Br.intro (λq=>no (ok _ ?_)) λq=>?_
 ·rw[decide_eq_false (p:=f<6) (by have:=of_decide_eq_true q; omega)]; simp
 have q2:=of_decide_eq_false q;rintro _ rfl;refine Br.intro (λq=>no (ok _ ?_)) λq=>?_
 ·rw[decide_eq_false (p:=0<=i) (by have:=of_decide_eq_true q; omega)]; simp
 have q3:=of_decide_eq_false q;rintro _ rfl;refine Br.intro (λq=>no (ok _ ?_)) λq=>?_
 ·rw[decide_eq_false (p:=i<n) (by have:=of_decide_eq_true q; omega)]; simp
 have q4:=of_decide_eq_false q;rintro _ rfl;refine Br.intro (λq=>no (ok _ ?_)) λq=>?_
 ·rw[decide_eq_false (p:=0<=j) (by have:=of_decide_eq_true q; omega)]; simp
 have q5:=of_decide_eq_false q;rintro _ rfl;refine Br.intro (λq=>no (ok _ ?_)) λq=>?_
 ·rw[decide_eq_false (p:=j<n) (by have:=of_decide_eq_true q; omega)]; simp
 have q6:=of_decide_eq_false q
 have hok:Z67 n f i j=true:=by
  unfold Z67;rw[e,decide_eq_true (p:=0<=f) (by omega),decide_eq_true (p:=f<6) (by omega),decide_eq_true (p:=0<=i) (by omega),decide_eq_true (p:=i<n) (by omega),decide_eq_true (p:=0<=j) (by omega),decide_eq_true (p:=j<n) (by omega)]; rfl
 obtain⟨r0,r1',n1,n2⟩:=Zp7 hok;have hv:Z2g n f i j=(f*n+j)*n+i:=by unfold Z2g; rw[if_pos hok]
 rw[hv]at r0 r1';have sq:=Zwo n1 n2;have b1:0<=f*n:=Int.mul_nonneg (by omega) (by omega);have b2:f*n<=5*n:=Int.mul_le_mul_of_nonneg_right (by omega) (by omega);have b3:0<=(f*n+j)*n:=Int.mul_nonneg (by omega) (by omega);rw[wi (x:=f*n) ⟨by omega,by omega⟩,wi (x:=f*n+j) ⟨by omega,by omega⟩,wi (x:=(f*n+j)*n) ⟨by omega,by omega⟩,wi (x:=(f*n+j)*n+i) ⟨by omega,by omega⟩];exact congrArg r1 hv.symm
def Zdt:=λ(n f i j:Int)(post:List Int × Unit->Prop)=>∃(h:(0:Int)<=f/\f<(↑(6:Nat):Int)),∃(h:(List.replicate (3:Nat) (K.arr (3:Nat) (K.int
 i64)).dflt).length=(3:Nat)/\List.length (Zq.getD f.toNat (K.arr (3:Nat) (K.arr (3:Nat) (K.int i64))).dflt)=(3:Nat)),∃(h:(0:Int)<=(0:Int)
 /\ (0:Int)<(↑(3:Nat):Int)/\(3:Nat)<=List.length (Zq.getD f.toNat (K.arr (3:Nat) (K.arr (3:Nat) (K.int i64))).dflt)),∃(h:Z7r (List.getD
 (Zq.getD f.toNat (K.arr (3:Nat) (K.arr (3:Nat) (K.int i64))).dflt) (Int.toNat (0:Int)) (K.arr (3:Nat) (K.int i64)).dflt) n),∀ a,a=Zf9
 (List.getD (Zq.getD f.toNat (K.arr (3:Nat) (K.arr (3:Nat) (K.int i64))).dflt) (Int.toNat (0:Int)) (K.arr (3:Nat) (K.int i64)).dflt) n->∃(h:(0:
 Int)<=(1:Int)/\(1:Int)<(↑(3:Nat):Int)/\(3:Nat)<=List.length (Zq.getD f.toNat (K.arr (3:Nat) (K.arr (3:Nat) (K.int i64))).dflt)),∃(h:Z7r
 (List.getD (Zq.getD f.toNat (K.arr (3:Nat) (K.arr (3:Nat) (K.int i64))).dflt) (Int.toNat (1:Int)) (K.arr (3:Nat) (K.int i64)).dflt) (i64.wrap
 (i64.wrap (i64.wrap ((2:Int)*i)+(1:Int)) - n))),∀ a_1,a_1=Zf9 (List.getD (Zq.getD f.toNat (K.arr (3:Nat) (K.arr (3:Nat) (K.int
 i64))).dflt) (Int.toNat (1:Int)) (K.arr (3:Nat) (K.int i64)).dflt) (i64.wrap (i64.wrap (i64.wrap ((2:Int)*i)+(1:Int)) - n))->∃
 (h:Z12m a.1 a_1.1),∀ a_2,a_2=Zwp a.1 a_1.1->∃(h:(0:Int)<=(2:Int)/\(2:Int)<(↑(3:Nat):Int)/\(3:Nat)<=List.length (Zq.getD f.toNat (K.arr (3:
 Nat) (K.arr (3:Nat) (K.int i64))).dflt)),∃(h:Z7r (List.getD (Zq.getD f.toNat (K.arr (3:Nat) (K.arr (3:Nat) (K.int i64))).dflt) (Int.toNat (2:
 Int)) (K.arr (3:Nat) (K.int i64)).dflt) (i64.wrap (i64.wrap (i64.wrap ((2:Int)*j)+(1:Int)) - n))),∀ a,a=Zf9 (List.getD
 (Zq.getD f.toNat (K.arr (3:Nat) (K.arr (3:Nat) (K.int i64))).dflt) (Int.toNat (2:Int)) (K.arr (3:Nat) (K.int i64)).dflt) (i64.wrap
 (i64.wrap (i64.wrap ((2:Int)*j)+(1:Int)) - n))->∃(h:Z12m a_2.1 a.1),∀ a_3,a_3=Zwp a_2.1 a.1->∃(h:(List.replicate (3:Nat) (0:Int)).length
 = (3:Nat)/\a_3.1.length=(3:Nat)),∃(h:a_3.1.length=(3:Nat)),post (a_3.1,())
theorem Z17y(n:Int)(f:Int)(i:Int)(j:Int)(h:Z35 n f i j):Zdt  n f i j (λr=>r=Zzv n f i j):=by
 have hh:=h;obtain⟨n1,n2,f0,f5,i0,i1,j0,j1⟩:=h;have fl:(Zq.getD f.toNat (K.arr (3:Nat) (K.arr (3:Nat) (K.int i64))).dflt).length=3:=Z1a4 f0 f5;have b:=Z6j f0 f5;have t0:Z7r (Z2n (Z18 f) 0) n:=⟨(b 0).mono (by decide),by omega,by omega⟩
 have w1:i64.wrap (i64.wrap (i64.wrap (2*i)+1) - n)=2*i+1 - n:=by
  rw[wi (x:=2*i) ⟨by omega,by omega⟩,wi (x:=2*i+1) ⟨by omega,by omega⟩,wi ⟨by omega,by omega⟩]
 have w2:i64.wrap (i64.wrap (i64.wrap (2*j)+1) - n)=2*j+1 - n:=by
  rw[wi (x:=2*j) ⟨by omega,by omega⟩,wi (x:=2*j+1) ⟨by omega,by omega⟩,wi ⟨by omega,by omega⟩]
 unfold Zdt;rw[w1,w2];have t1:Z7r (Z2n (Z18 f) 1) (2*i+1 - n):=⟨(b 1).mono (by decide),by omega,by omega⟩;have t2:Z7r (Z2n (Z18 f) 2) (2*j+1 - n):=⟨(b 2).mono (by decide),by omega,by omega⟩;have c0:=Z8o (q:=32) (b 0) (k:=n) (by omega) (by omega);have c1:=Z8o (q:=32) (b 1) (k:=2*i+1 - n) (by omega) (by omega);have c2:=Z8o (q:=32) (b 2) (k:=2*j+1 - n) (by omega) (by omega);have p1:=Zwr c0 c1;refine⟨⟨f0,by show f<6; omega⟩,⟨rfl,fl⟩,⟨by decide,by decide,by omega⟩,t0,?_⟩;rintro _ rfl;refine⟨⟨by decide,by decide,by omega⟩,t1,?_⟩;rintro _ rfl;refine⟨⟨c0.mono (by decide),c1.mono (by decide)⟩,?_⟩;rintro _ rfl;refine⟨⟨by decide,by decide,by omega⟩,t2,?_⟩;rintro _ rfl;refine⟨⟨p1.mono (by decide),c2.mono (by decide)⟩,?_⟩;rintro _ rfl;exact⟨⟨rfl,rfl⟩,rfl,rfl⟩
def Zr2:=λ(n a:Int)(post:Int × Unit->Prop)=>∃(h:(2:Int)≠(0:Int)),post (imin (imax (i64.wrap ((i64.wrap (i64.wrap (a+n) -
 (1:Int))).tdiv (2:Int))) (0:Int)) (i64.wrap (n - 1)),())
theorem Z1cp(n:Int)(a:Int)(h:Z12o n a):Zr2  n a (λr=>r=Z12n n a):=by
 obtain⟨n1,n2,a1,a2⟩:=h
 have w1:i64.wrap (i64.wrap (a+n) - 1)=a+n - 1:=by
  rw[wi (x:=a+n) ⟨by omega,by omega⟩,wi ⟨by omega,by omega⟩]
 have w2:i64.wrap (n - 1)=n - 1:=wi ⟨by omega,by omega⟩
 have w3:i64.wrap (Int.tdiv (a+n - 1) 2)=Int.tdiv (a+n - 1) 2:=by
  have:(Int.tdiv (a+n - 1) 2).natAbs<=(a+n - 1).natAbs:=by rw[Int.natAbs_tdiv]; exact Nat.div_le_self _ _
  exact wi ⟨by omega,by omega⟩
 exact⟨by decide,by rw[w1,w2,w3]; rfl⟩
section
open Go.Proofs
def Zyz:Cx:=⟨Z1v Z26,Z23 [(102,Zg6)],SqG⟩
theorem Znl:CxOk Tryz.prog Zyz:=⟨Zn Z12,Zr ⟨Zr0,trivial⟩⟩
def Zfu:Con:=Con.nam [kWay,.int .i64] [.snap kWay] (λx=>Z7r x.1 x.2.1) (λx=>Zf9 x.1 x.2.1)
theorem Zva:SqH Zfu 177:=
 nP Znl Z5 Zc nHn Tryz.func177 (λx p=>Zgl  x.1 x.2.1 p) λx h w=>Zxn  x.1 x.2.1 h w
def Zz0:Cx:=addC 177 Zfu Zyz
theorem Znm:CxOk Tryz.prog Zz0:=Zk Znl Zva
def Z9k:Con:=Con.nam [kWay,kWay] [.snap kWay] (λx=>Z12m x.1 x.2.1) (λx=>Zwp x.1 x.2.1)
theorem Zgn:SqH Z9k 109:=
 nP Znm Z5 Zc nHn Tryz.func109 (λx p=>Zj2  x.1 x.2.1 p) λx h w=>Z108  x.1 x.2.1 h w
def Z1j9:Cx:=addC 109 Z9k Zz0
theorem Z5j:CxOk Tryz.prog Z1j9:=Zk Znm Zgn
def Zj3:Con:=Con.nam [kWay,kWay] [.snap (.int .i64)] (λx=>WDot x.1 x.2.1) (λx=>dotR x.1 x.2.1)
theorem Z109:SqH Zj3 111:=
 nP Z5j Z5 Zc nHn Tryz.func111 (λx p=>Zku  x.1 x.2.1 p) λx h w=>Z14c  x.1 x.2.1 h w
def Zfv:Con:=Con.nam [Z1pf,.int .i64] [.snap kWay] (λx=>WOut x.1 x.2.1) (λx=>outR x.1 x.2.1)
theorem Zvb:SqH Zfv 107:=
 nP Z5j Z5 Zc nHn Tryz.func107 (λx p=>Zgm  x.1 x.2.1 p) λx h w=>Zxo  x.1 x.2.1 h w
def Zkw:Con:=Con.nam [kWay] [.snap (.int .i64)] (λ_=>True) (λx=>Z170 x.1)
theorem Z14d:SqH Zkw 106:=
 nP Z5j Z5 Zc ({loops:=Z11 [(2,{ls:=[(.slot 4,.data (.int .i64))],os:=[]})],joins:=λ_=>none,named:=true}) Tryz.func106 (λx p=>Znk 158 x.1 p) λx _ w=>Z17x 158 x.1 w
def Zr3:Con:=Con.nam [.int .i64,.int .i64,.int .i64,.int .i64] [.snap (.int .i64)] (λx=>IIII x.1 x.2.1 x.2.2.1 x.2.2.2.1) (λx=>Zwq x.1 x.2.1 x.2.2.1 x.2.2.2.1)
theorem Z1cq:SqH Zr3 105:=
 nP Z5j Z5 Zc nHn Tryz.func105 (λx p=>Zv9  x.1 x.2.1 x.2.2.1 x.2.2.2.1 p) λx h _=>Z1hc  x.1 x.2.1 x.2.2.1 x.2.2.2.1 h
def Zkx:Con:=Con.nam [.int .i64,.int .i64,.int .i64,.int .i64] [.snap kWay] (λx=>Z35 x.1 x.2.1 x.2.2.1 x.2.2.2.1) (λx=>Zzv x.1 x.2.1 x.2.2.1 x.2.2.2.1)
theorem Z14e:SqH Zkx 108:=
 nP Z5j Z5 Zc nHn Tryz.func108 (λx p=>Zdt  x.1 x.2.1 x.2.2.1 x.2.2.2.1 p) λx h _=>Z17y  x.1 x.2.1 x.2.2.1 x.2.2.2.1 h
def Znn:Con:=Con.nam [.int .i64,.int .i64] [.snap (.int .i64)] (λx=>Z12o x.1 x.2.1) (λx=>Z12n x.1 x.2.1)
theorem Z17z:SqH Znn 110:=
 nP Z5j Z5 Zc nHn Tryz.func110 (λx p=>Zr2  x.1 x.2.1 p) λx h _=>Z1cp  x.1 x.2.1 h
end
section
open Go.Proofs
def Z1hd:Cx:=⟨Z1v Z26,Z23 [(104,Z9j),(105,Zr3),(107,Zfv),(106,Zkw),(108,Zkx),(109,Z9k),(111,Zj3),(110,Znn)],SqG⟩
theorem Z14f:CxOk Tryz.prog Z1hd:=⟨Zn Z12,Zr ⟨Zds,Z1cq,Zvb,Z14d,Z14e,Zgn,Z109,Z17z,trivial⟩⟩
def Zck:Con:=Con.nam [.int .i64,.int .i64,.int .i64] [.snap (.int .i64),.snap (.int .i64)] (λx=>III x.1 x.2.1 x.2.2.1) (λx=>Z5x x.1 x.2.1 x.2.2.1)
theorem Zky:SqH Zck 51:=
 nP Z14f Z5 Zc ({loops:=Z11 [(13,{ls:=[(.slot 98,.data (.int .i64))],os:=[]})],joins:=λ_=>none,named:=true}) Tryz.func51 (λx p=>Znj 154 160 158 x.1 x.2.1 x.2.2.1 p) λx h _=>Z17w 154 160 158 x.1 x.2.1 x.2.2.1 h
end
def Zr4:=λ(a b:Int)(post:Nat × Unit->Prop)=>∀(a_1:Nat),FRes f64 (f64.format.div (f64.nearest a)
 (f64.nearest b)) a_1->post (a_1,())
theorem Z1cr(a:Int)(b:Int)(h:Zic a b):Zr4  a b (λr=>r=Z4e a b):=by
 intro r hr;exact congrArg r1 (Z1kf h.1 h.2.1 h.2.2 hr)
def Z180(ty166:Nat)(ty236:Nat)(s:Nat)(t:Nat):List HObj:=[HObj.box Md.rw ty166 [SV.val (Go.Value.float f64 (0:Nat)),SV.val (Go.Value.float f64 (0:Nat)),SV.val (Go.Value.float f64 (0:Nat))],HObj.row Md.rw ty236 (K.flt f64) ((List.replicate (3:Nat) (0:Nat)).set (Int.toNat (0:Int)) (Zt ([(4607182418800017408:Nat),s,t].getD (Int.toNat (0:Int)) (0:Nat))).1)]
def Z181(ty166:Nat)(ty236:Nat)(s:Nat)(t:Nat):List HObj:=[HObj.box Md.rw ty166 [SV.val (Go.Value.float f64 (0:Nat)),SV.val (Go.Value.float f64 (0:Nat)),SV.val (Go.Value.float f64 (0:Nat))],HObj.row Md.rw ty236 (K.flt f64) ((List.replicate (3:Nat) (0:Nat)).set (Int.toNat (0:Int)) (Zt (Go.Op.negFloat f64 ([(4607182418800017408:Nat),s,t].getD (Int.toNat (0:Int)) (0:Nat)))).1)]
def Z182(ty166:Nat)(ty236:Nat):List HObj:=[HObj.box Md.rw ty166 [SV.val (Go.Value.float f64 (0:Nat)),SV.val (Go.Value.float f64 (0:Nat)),SV.val (Go.Value.float f64 (0:Nat))],HObj.row Md.rw ty236 (K.flt f64) (List.replicate (3:Nat) (0:Nat))]
def Z183(ty166:Nat)(ty236:Nat)(y:List Nat × Unit)(s:Nat)(t:Nat):List HObj:=[HObj.box Md.rw ty166 [SV.val (Go.Value.float f64 0),SV.val (Go.Value.float f64 0),SV.val (Go.Value.float f64 0)],HObj.row Md.rw ty236 (K.flt f64) (y.1.set (Int.toNat 0) (Zt ([4607182418800017408,s,t].getD (i64.wrap ((0:Int)+1)).toNat 0)).1)]
def Z184(ty166:Nat)(ty236:Nat)(y:List Nat × Unit)(s:Nat)(t:Nat):List HObj:=[HObj.box Md.rw ty166 [SV.val (Go.Value.float f64 0),SV.val (Go.Value.float f64 0),SV.val (Go.Value.float f64 0)],HObj.row Md.rw ty236 (K.flt f64) (y.1.set (Int.toNat 0) (Zt (Go.Op.negFloat f64 ([4607182418800017408,s,t].getD (i64.wrap ((0:Int)+1)).toNat 0))).1)]
def Z3v(ty166:Nat)(ty236:Nat)(y:List Nat × Unit):List HObj:=[HObj.box Md.rw ty166 [SV.val (Go.Value.float f64 0),SV.val (Go.Value.float f64 0),SV.val (Go.Value.float f64 0)],HObj.row Md.rw ty236 (K.flt f64) y.1]
def Z185(ty166:Nat)(ty236:Nat)(y:List Nat × Unit)(s:Nat)(t:Nat):List HObj:=[HObj.box Md.rw ty166 [SV.val (Go.Value.float f64 0),SV.val (Go.Value.float f64 0),SV.val (Go.Value.float f64 0)],HObj.row Md.rw ty236 (K.flt f64) (y.1.set (Int.toNat 0) (Zt ([4607182418800017408,s,t].getD (i64.wrap (i64.wrap ((0:Int)+1)+1)).toNat 0)).1)]
def Z186(ty166:Nat)(ty236:Nat)(y:List Nat × Unit)(s:Nat)(t:Nat):List HObj:=[HObj.box Md.rw ty166 [SV.val (Go.Value.float f64 0),SV.val (Go.Value.float f64 0),SV.val (Go.Value.float f64 0)],HObj.row Md.rw ty236 (K.flt f64) (y.1.set (Int.toNat 0) (Zt (Go.Op.negFloat f64 ([4607182418800017408,s,t].getD (i64.wrap (i64.wrap ((0:Int)+1)+1)).toNat 0))).1)]
def Z187(ty166:Nat)(ty236:Nat)(y:List Nat × Unit)(s:Nat)(t:Nat):List HObj:=[HObj.box Md.rw ty166 [SV.val (Go.Value.float f64 0),SV.val (Go.Value.float f64 0),SV.val (Go.Value.float f64 0)],HObj.row Md.rw ty236 (K.flt f64) (y.1.set (i64.wrap ((0:Int)+1)).toNat (Zt ([4607182418800017408,s,t].getD (Int.toNat 0) 0)).1)]
def Z188(ty166:Nat)(ty236:Nat)(y:List Nat × Unit)(s:Nat)(t:Nat):List HObj:=[HObj.box Md.rw ty166 [SV.val (Go.Value.float f64 0),SV.val (Go.Value.float f64 0),SV.val (Go.Value.float f64 0)],HObj.row Md.rw ty236 (K.flt f64) (y.1.set (i64.wrap ((0:Int)+1)).toNat (Zt (Go.Op.negFloat f64 ([4607182418800017408,s,t].getD (Int.toNat 0) 0))).1)]
def Z14g(ty166:Nat)(ty236:Nat)(y:List Nat × Unit)(s:Nat)(t:Nat):List HObj:=[HObj.box Md.rw ty166 [SV.val (Go.Value.float f64 0),SV.val (Go.Value.float f64 0),SV.val (Go.Value.float f64 0)],HObj.row Md.rw ty236 (K.flt f64) (y.1.set (i64.wrap ((0:Int)+1)).toNat (Zt ([4607182418800017408,s,t].getD (i64.wrap ((0:Int)+1)).toNat 0)).1)]
def Z14h(ty166:Nat)(ty236:Nat)(y:List Nat × Unit)(s:Nat)(t:Nat):List HObj:=[HObj.box Md.rw ty166 [SV.val (Go.Value.float f64 0),SV.val (Go.Value.float f64 0),SV.val (Go.Value.float f64 0)],HObj.row Md.rw ty236 (K.flt f64) (y.1.set (i64.wrap ((0:Int)+1)).toNat (Zt (Go.Op.negFloat f64 ([4607182418800017408,s,t].getD (i64.wrap ((0:Int)+1)).toNat 0))).1)]
def Z14i(ty166:Nat)(ty236:Nat)(y:List Nat × Unit)(s:Nat)(t:Nat):List HObj:=[HObj.box Md.rw ty166 [SV.val (Go.Value.float f64 0),SV.val (Go.Value.float f64 0),SV.val (Go.Value.float f64 0)],HObj.row Md.rw ty236 (K.flt f64) (y.1.set (i64.wrap ((0:Int)+1)).toNat (Zt ([4607182418800017408,s,t].getD (i64.wrap (i64.wrap ((0:Int)+1)+1)).toNat 0)).1)]
def Z14j(ty166:Nat)(ty236:Nat)(y:List Nat × Unit)(s:Nat)(t:Nat):List HObj:=[HObj.box Md.rw ty166 [SV.val (Go.Value.float f64 0),SV.val (Go.Value.float f64 0),SV.val (Go.Value.float f64 0)],HObj.row Md.rw ty236 (K.flt f64) (y.1.set (i64.wrap ((0:Int)+1)).toNat (Zt (Go.Op.negFloat f64 ([4607182418800017408,s,t].getD (i64.wrap (i64.wrap ((0:Int)+1)+1)).toNat 0))).1)]
def Z14k(ty166:Nat)(ty236:Nat)(y:List Nat × Unit)(s:Nat)(t:Nat):List HObj:=[HObj.box Md.rw ty166 [SV.val (Go.Value.float f64 0),SV.val (Go.Value.float f64 0),SV.val (Go.Value.float f64 0)],HObj.row Md.rw ty236 (K.flt f64) (y.1.set (i64.wrap (i64.wrap ((0:Int)+1)+1)).toNat (Zt ([4607182418800017408,s,t].getD (Int.toNat 0) 0)).1)]
def Z14l(ty166:Nat)(ty236:Nat)(y:List Nat × Unit)(s:Nat)(t:Nat):List HObj:=[HObj.box Md.rw ty166 [SV.val (Go.Value.float f64 0),SV.val (Go.Value.float f64 0),SV.val (Go.Value.float f64 0)],HObj.row Md.rw ty236 (K.flt f64) (y.1.set (i64.wrap (i64.wrap ((0:Int)+1)+1)).toNat (Zt (Go.Op.negFloat f64 ([4607182418800017408,s,t].getD (Int.toNat 0) 0))).1)]
def Z14m(ty166:Nat)(ty236:Nat)(y:List Nat × Unit)(s:Nat)(t:Nat):List HObj:=[HObj.box Md.rw ty166 [SV.val (Go.Value.float f64 0),SV.val (Go.Value.float f64 0),SV.val (Go.Value.float f64 0)],HObj.row Md.rw ty236 (K.flt f64) (y.1.set (i64.wrap (i64.wrap ((0:Int)+1)+1)).toNat (Zt ([4607182418800017408,s,t].getD (i64.wrap ((0:Int)+1)).toNat 0)).1)]
def Z14n(ty166:Nat)(ty236:Nat)(y:List Nat × Unit)(s:Nat)(t:Nat):List HObj:=[HObj.box Md.rw ty166 [SV.val (Go.Value.float f64 0),SV.val (Go.Value.float f64 0),SV.val (Go.Value.float f64 0)],HObj.row Md.rw ty236 (K.flt f64) (y.1.set (i64.wrap (i64.wrap ((0:Int)+1)+1)).toNat (Zt (Go.Op.negFloat f64 ([4607182418800017408,s,t].getD (i64.wrap ((0:Int)+1)).toNat 0))).1)]
def Z14o(ty166:Nat)(ty236:Nat)(y:List Nat × Unit)(s:Nat)(t:Nat):List HObj:=[HObj.box Md.rw ty166 [SV.val (Go.Value.float f64 0),SV.val (Go.Value.float f64 0),SV.val (Go.Value.float f64 0)],HObj.row Md.rw ty236 (K.flt f64) (y.1.set (i64.wrap (i64.wrap ((0:Int)+1)+1)).toNat (Zt ([4607182418800017408,s,t].getD (i64.wrap (i64.wrap ((0:Int)+1)+1)).toNat 0)).1)]
def Z14p(ty166:Nat)(ty236:Nat)(y:List Nat × Unit)(s:Nat)(t:Nat):List HObj:=[HObj.box Md.rw ty166 [SV.val (Go.Value.float f64 0),SV.val (Go.Value.float f64 0),SV.val (Go.Value.float f64 0)],HObj.row Md.rw ty236 (K.flt f64) (y.1.set (i64.wrap (i64.wrap ((0:Int)+1)+1)).toNat (Zt (Go.Op.negFloat f64 ([4607182418800017408,s,t].getD (i64.wrap (i64.wrap ((0:Int)+1)+1)).toNat 0))).1)]
def Zr5:=λ(ty166 ty236:Nat)(f:Int)(s t:Nat)(post:(Nat × Nat × Nat) × Unit->Prop)=>∃(post_1:Unit->List Nat × Unit->Prop),(∃(h:(0:Int)<=(0:
 Int)/\(0:Int)<(↑(3:Nat):Int)),∃(h:(0:Int)<=f/\f<(↑(6:Nat):Int)),∃(h:(0:Int)<=(0:Int)/\(0:Int)<(↑(3:Nat):Int)),∃(h:(0:Int)<=(0:
 Int)/\(0:Int)<(↑(3:Nat):Int)),Br (List.getD (List.getD (Zq.getD f.toNat (K.arr (3:Nat) (K.arr (3:Nat) (K.int i64))).dflt) (Int.toNat (0:Int)) (K.arr
 (3:Nat) (K.int i64)).dflt) (Int.toNat (0:Int)) (0:Int)==(1:Int)) (∃(h:True),∃(h:(0:Int)<=(0:Int)/\(0:Int)<(↑(3:Nat):Int)/\(3:Nat)<=
 (List.replicate (3:Nat) (0:Nat)).length),HS (Z180 ty166 ty236 s t)/\post_1 () ((List.replicate (3:Nat) (0:Nat)).set (Int.toNat (0:Int)) (Zt
 ([(4607182418800017408:Nat),s,t].getD (Int.toNat (0:Int)) (0:Nat))).1,())) (Br (List.getD (List.getD (Zq.getD f.toNat (K.arr (3:Nat) (K.arr (3:Nat) (K.int
 i64))).dflt) (Int.toNat (0:Int)) (K.arr (3:Nat) (K.int i64)).dflt) (Int.toNat (0:Int)) (0:Int)==(-1:Int)) (∃(h:True),∃(h:(0:Int)<=(0:Int)/\
 (0:Int)<(↑(3:Nat):Int)/\(3:Nat)<=(List.replicate (3:Nat) (0:Nat)).length),HS (Z181 ty166 ty236 s t)/\post_1 () ((List.replicate (3:Nat) (0:
 Nat)).set (Int.toNat (0:Int)) (Zt (Go.Op.negFloat f64 ([(4607182418800017408:Nat),s,t].getD (Int.toNat (0:Int)) (0:Nat)))).1,())) (HS (Z182
 ty166 ty236)/\post_1 () (List.replicate (3:Nat) (0:Nat),()))))/\∀(x:Unit)(y:List Nat × Unit),post_1 x y->∃(post_2:Unit->List Nat × Unit->Prop),(∃(h:(0:
 Int)<=i64.wrap ((0:Int)+(1:Int))/\i64.wrap ((0:Int)+(1:Int))<(↑(3:Nat):Int)),∃(h:(0:Int)<=f/\f<(↑(6:Nat):Int)),∃(h:(0:Int)
 <= i64.wrap ((0:Int)+(1:Int))/\i64.wrap ((0:Int)+(1:Int))<(↑(3:Nat):Int)),∃(h:(0:Int)<=(0:Int)/\(0:Int)<(↑(3:Nat):Int)),Br
 (List.getD (List.getD (Zq.getD f.toNat (K.arr (3:Nat) (K.arr (3:Nat) (K.int i64))).dflt) (i64.wrap ((0:Int)+(1:Int))).toNat (K.arr (3:Nat) (K.int
 i64)).dflt) (Int.toNat (0:Int)) (0:Int)==(1:Int)) (∃(h:True),∃(h:(0:Int)<=(0:Int)/\(0:Int)<(↑(3:Nat):Int)/\(3:Nat)<=y.1.length),HS
 (Z183 ty166 ty236 y s t)/\post_2 () (y.1.set (Int.toNat (0:Int)) (Zt ([(4607182418800017408:Nat),s,t].getD (i64.wrap ((0:Int)+(1:Int))).toNat (0
 : Nat))).1,())) (Br (List.getD (List.getD (Zq.getD f.toNat (K.arr (3:Nat) (K.arr (3:Nat) (K.int i64))).dflt) (i64.wrap ((0:Int)+(1:Int))).toNat
 (K.arr (3:Nat) (K.int i64)).dflt) (Int.toNat (0:Int)) (0:Int)==(-1:Int)) (∃(h:True),∃(h:(0:Int)<=(0:Int)/\(0:Int)<(↑(3:Nat):Int)/\(3:Nat)
 <= y.1.length),HS (Z184 ty166 ty236 y s t)/\post_2 () (y.1.set (Int.toNat (0:Int)) (Zt (Go.Op.negFloat f64 ([(4607182418800017408:Nat),s,t].getD
 (i64.wrap ((0:Int)+(1:Int))).toNat (0:Nat)))).1,())) (HS (Z3v ty166 ty236 y)/\post_2 () (y.1,()))))/\∀(x:Unit)(y:List Nat × Unit),post_2 x y
 -> ∃(post_3:Unit->List Nat × Unit->Prop),(∃(h:(0:Int)<=i64.wrap (i64.wrap ((0:Int)+(1:Int))+(1:Int))/\i64.wrap (i64.wrap ((0
 : Int)+(1:Int))+(1:Int))<(↑(3:Nat):Int)),∃(h:(0:Int)<=f/\f<(↑(6:Nat):Int)),∃(h:(0:Int)<=i64.wrap (i64.wrap ((0:Int)+(1:
 Int))+(1:Int))/\i64.wrap (i64.wrap ((0:Int)+(1:Int))+(1:Int))<(↑(3:Nat):Int)),∃(h:(0:Int)<=(0:Int)/\(0:Int)<(↑(3:Nat):Int)),
 Br (List.getD (List.getD (Zq.getD f.toNat (K.arr (3:Nat) (K.arr (3:Nat) (K.int i64))).dflt) (i64.wrap (i64.wrap ((0:Int)+(1:Int))+(1:
 Int))).toNat (K.arr (3:Nat) (K.int i64)).dflt) (Int.toNat (0:Int)) (0:Int)==(1:Int)) (∃(h:True),∃(h:(0:Int)<=(0:Int)/\(0:Int)<(↑(3:Nat):Int)
 /\ (3:Nat)<=y.1.length),HS (Z185 ty166 ty236 y s t)/\post_3 () (y.1.set (Int.toNat (0:Int)) (Zt ([(4607182418800017408:Nat),s,t].getD (i64.wrap
 (i64.wrap ((0:Int)+(1:Int))+(1:Int))).toNat (0:Nat))).1,())) (Br (List.getD (List.getD (Zq.getD f.toNat (K.arr (3:Nat) (K.arr (3:Nat) (K.int
 i64))).dflt) (i64.wrap (i64.wrap ((0:Int)+(1:Int))+(1:Int))).toNat (K.arr (3:Nat) (K.int i64)).dflt) (Int.toNat (0:Int)) (0:Int)==
 (-1:Int)) (∃(h:True),∃(h:(0:Int)<=(0:Int)/\(0:Int)<(↑(3:Nat):Int)/\(3:Nat)<=y.1.length),HS (Z186 ty166 ty236 y s t)/\post_3 () (y.1.set
 (Int.toNat (0:Int)) (Zt (Go.Op.negFloat f64 ([(4607182418800017408:Nat),s,t].getD (i64.wrap (i64.wrap ((0:Int)+(1:Int))+(1:
 Int))).toNat (0:Nat)))).1,())) (HS (Z3v ty166 ty236 y)/\post_3 () (y.1,()))))/\∀(x:Unit)(y:List Nat × Unit),post_3 x y->∃(post_4:Unit->List Nat × Unit
 -> Prop),(∃(h:(0:Int)<=(0:Int)/\(0:Int)<(↑(3:Nat):Int)),∃(h:(0:Int)<=f/\f<(↑(6:Nat):Int)),∃(h:(0:Int)<=(0:Int)/\(0:Int)<(↑(3:Nat):
 Int)),∃(h:(0:Int)<=i64.wrap ((0:Int)+(1:Int))/\i64.wrap ((0:Int)+(1:Int))<(↑(3:Nat):Int)),Br (List.getD (List.getD (Zq.getD f.toNat
 (K.arr (3:Nat) (K.arr (3:Nat) (K.int i64))).dflt) (Int.toNat (0:Int)) (K.arr (3:Nat) (K.int i64)).dflt) (i64.wrap ((0:Int)+(1:Int))).toNat (0
 : Int)==(1:Int)) (∃(h:True),∃(h:(0:Int)<=i64.wrap ((0:Int)+(1:Int))/\i64.wrap ((0:Int)+(1:Int))<(↑(3:Nat):Int)/\(3:Nat)<=
 y.1.length),HS (Z187 ty166 ty236 y s t)/\post_4 () (y.1.set (i64.wrap ((0:Int)+(1:Int))).toNat (Zt ([(4607182418800017408:Nat),s,t].getD
 (Int.toNat (0:Int)) (0:Nat))).1,())) (Br (List.getD (List.getD (Zq.getD f.toNat (K.arr (3:Nat) (K.arr (3:Nat) (K.int i64))).dflt) (Int.toNat (0:Int))
 (K.arr (3:Nat) (K.int i64)).dflt) (i64.wrap ((0:Int)+(1:Int))).toNat (0:Int)==(-1:Int)) (∃(h:True),∃(h:(0:Int)<=i64.wrap ((0:Int)
 + (1:Int))/\i64.wrap ((0:Int)+(1:Int))<(↑(3:Nat):Int)/\(3:Nat)<=y.1.length),HS (Z188 ty166 ty236 y s t)/\post_4 () (y.1.set
 (i64.wrap ((0:Int)+(1:Int))).toNat (Zt (Go.Op.negFloat f64 ([(4607182418800017408:Nat),s,t].getD (Int.toNat (0:Int)) (0:Nat)))).1,())) (HS
 (Z3v ty166 ty236 y)/\post_4 () (y.1,()))))/\∀(x:Unit)(y:List Nat × Unit),post_4 x y->∃(post_5:Unit->List Nat × Unit->Prop),(∃(h:(0:Int)<=
 i64.wrap ((0:Int)+(1:Int))/\i64.wrap ((0:Int)+(1:Int))<(↑(3:Nat):Int)),∃(h:(0:Int)<=f/\f<(↑(6:Nat):Int)),∃(h:(0:Int)<=
 i64.wrap ((0:Int)+(1:Int))/\i64.wrap ((0:Int)+(1:Int))<(↑(3:Nat):Int)),∃(h:(0:Int)<=i64.wrap ((0:Int)+(1:Int))/\
 i64.wrap ((0:Int)+(1:Int))<(↑(3:Nat):Int)),Br (List.getD (List.getD (Zq.getD f.toNat (K.arr (3:Nat) (K.arr (3:Nat) (K.int i64))).dflt)
 (i64.wrap ((0:Int)+(1:Int))).toNat (K.arr (3:Nat) (K.int i64)).dflt) (i64.wrap ((0:Int)+(1:Int))).toNat (0:Int)==(1:Int)) (∃(h:
 True),∃(h:(0:Int)<=i64.wrap ((0:Int)+(1:Int))/\i64.wrap ((0:Int)+(1:Int))<(↑(3:Nat):Int)/\(3:Nat)<=y.1.length),HS (Z14g
 ty166 ty236 y s t)/\post_5 () (y.1.set (i64.wrap ((0:Int)+(1:Int))).toNat (Zt ([(4607182418800017408:Nat),s,t].getD (i64.wrap ((0:Int)+(1:
 Int))).toNat (0:Nat))).1,())) (Br (List.getD (List.getD (Zq.getD f.toNat (K.arr (3:Nat) (K.arr (3:Nat) (K.int i64))).dflt) (i64.wrap ((0:Int)+(1:
 Int))).toNat (K.arr (3:Nat) (K.int i64)).dflt) (i64.wrap ((0:Int)+(1:Int))).toNat (0:Int)==(-1:Int)) (∃(h:True),∃(h:(0:Int)<=
 i64.wrap ((0:Int)+(1:Int))/\i64.wrap ((0:Int)+(1:Int))<(↑(3:Nat):Int)/\(3:Nat)<=y.1.length),HS (Z14h ty166 ty236 y s t)/\post_5
 () (y.1.set (i64.wrap ((0:Int)+(1:Int))).toNat (Zt (Go.Op.negFloat f64 ([(4607182418800017408:Nat),s,t].getD (i64.wrap ((0:Int)+(1:
 Int))).toNat (0:Nat)))).1,())) (HS (Z3v ty166 ty236 y)/\post_5 () (y.1,()))))/\∀(x:Unit)(y:List Nat × Unit),post_5 x y->∃(post_6:Unit->List Nat × Unit
 -> Prop),(∃(h:(0:Int)<=i64.wrap (i64.wrap ((0:Int)+(1:Int))+(1:Int))/\i64.wrap (i64.wrap ((0:Int)+(1:Int))+(1:Int)) <
 (↑(3:Nat):Int)),∃(h:(0:Int)<=f/\f<(↑(6:Nat):Int)),∃(h:(0:Int)<=i64.wrap (i64.wrap ((0:Int)+(1:Int))+(1:Int))/\i64.wrap
 (i64.wrap ((0:Int)+(1:Int))+(1:Int))<(↑(3:Nat):Int)),∃(h:(0:Int)<=i64.wrap ((0:Int)+(1:Int))/\i64.wrap ((0:Int)+(1:
 Int))<(↑(3:Nat):Int)),Br (List.getD (List.getD (Zq.getD f.toNat (K.arr (3:Nat) (K.arr (3:Nat) (K.int i64))).dflt) (i64.wrap (i64.wrap ((0:
 Int)+(1:Int))+(1:Int))).toNat (K.arr (3:Nat) (K.int i64)).dflt) (i64.wrap ((0:Int)+(1:Int))).toNat (0:Int)==(1:Int)) (∃(h:True),∃(h:(0
 : Int)<=i64.wrap ((0:Int)+(1:Int))/\i64.wrap ((0:Int)+(1:Int))<(↑(3:Nat):Int)/\(3:Nat)<=y.1.length),HS (Z14i ty166 ty236 y s t)
 /\ post_6 () (y.1.set (i64.wrap ((0:Int)+(1:Int))).toNat (Zt ([(4607182418800017408:Nat),s,t].getD (i64.wrap (i64.wrap ((0:Int)+(1:Int))
 + (1:Int))).toNat (0:Nat))).1,())) (Br (List.getD (List.getD (Zq.getD f.toNat (K.arr (3:Nat) (K.arr (3:Nat) (K.int i64))).dflt) (i64.wrap
 (i64.wrap ((0:Int)+(1:Int))+(1:Int))).toNat (K.arr (3:Nat) (K.int i64)).dflt) (i64.wrap ((0:Int)+(1:Int))).toNat (0:Int)==(-1:Int))
 (∃(h:True),∃(h:(0:Int)<=i64.wrap ((0:Int)+(1:Int))/\i64.wrap ((0:Int)+(1:Int))<(↑(3:Nat):Int)/\(3:Nat)<=y.1.length),HS
 (Z14j ty166 ty236 y s t)/\post_6 () (y.1.set (i64.wrap ((0:Int)+(1:Int))).toNat (Zt (Go.Op.negFloat f64 ([(4607182418800017408:Nat),
 s,t].getD (i64.wrap (i64.wrap ((0:Int)+(1:Int))+(1:Int))).toNat (0:Nat)))).1,())) (HS (Z3v ty166 ty236 y)/\post_6 () (y.1,()))))/\∀(x
 : Unit) (y:List Nat × Unit),post_6 x y->∃(post_7:Unit->List Nat × Unit->Prop),(∃(h:(0:Int)<=(0:Int)/\(0:Int)<(↑(3:Nat):Int)),∃(h:(0:Int)<=f/\f <
 (↑(6:Nat):Int)),∃(h:(0:Int)<=(0:Int)/\(0:Int)<(↑(3:Nat):Int)),∃(h:(0:Int)<=i64.wrap (i64.wrap ((0:Int)+(1:Int))+(1:Int))/\
 i64.wrap (i64.wrap ((0:Int)+(1:Int))+(1:Int))<(↑(3:Nat):Int)),Br (List.getD (List.getD (Zq.getD f.toNat (K.arr (3:Nat) (K.arr (3:Nat)
 (K.int i64))).dflt) (Int.toNat (0:Int)) (K.arr (3:Nat) (K.int i64)).dflt) (i64.wrap (i64.wrap ((0:Int)+(1:Int))+(1:Int))).toNat (0:
 Int)==(1:Int)) (∃(h:True),∃(h:(0:Int)<=i64.wrap (i64.wrap ((0:Int)+(1:Int))+(1:Int))/\i64.wrap (i64.wrap ((0:Int)+(1:
 Int))+(1:Int))<(↑(3:Nat):Int)/\(3:Nat)<=y.1.length),HS (Z14k ty166 ty236 y s t)/\post_7 () (y.1.set (i64.wrap (i64.wrap ((0:Int)+(1
 : Int))+(1:Int))).toNat (Zt ([(4607182418800017408:Nat),s,t].getD (Int.toNat (0:Int)) (0:Nat))).1,())) (Br (List.getD (List.getD (Zq.getD f.toNat (K.arr (3:
 Nat) (K.arr (3:Nat) (K.int i64))).dflt) (Int.toNat (0:Int)) (K.arr (3:Nat) (K.int i64)).dflt) (i64.wrap (i64.wrap ((0:Int)+(1:Int))+
 (1:Int))).toNat (0:Int)==(-1:Int)) (∃(h:True),∃(h:(0:Int)<=i64.wrap (i64.wrap ((0:Int)+(1:Int))+(1:Int))/\i64.wrap
 (i64.wrap ((0:Int)+(1:Int))+(1:Int))<(↑(3:Nat):Int)/\(3:Nat)<=y.1.length),HS (Z14l ty166 ty236 y s t)/\post_7 () (y.1.set
 (i64.wrap (i64.wrap ((0:Int)+(1:Int))+(1:Int))).toNat (Zt (Go.Op.negFloat f64 ([(4607182418800017408:Nat),s,t].getD (Int.toNat (0:
 Int)) (0:Nat)))).1,())) (HS (Z3v ty166 ty236 y)/\post_7 () (y.1,()))))/\∀(x:Unit)(y:List Nat × Unit),post_7 x y->∃(post_8:Unit->List Nat × Unit->
 Prop),(∃(h:(0:Int)<=i64.wrap ((0:Int)+(1:Int))/\i64.wrap ((0:Int)+(1:Int))<(↑(3:Nat):Int)),∃(h:(0:Int)<=f/\f<(↑(6:Nat):
 Int)),∃(h:(0:Int)<=i64.wrap ((0:Int)+(1:Int))/\i64.wrap ((0:Int)+(1:Int))<(↑(3:Nat):Int)),∃(h:(0:Int)<=i64.wrap
 (i64.wrap ((0:Int)+(1:Int))+(1:Int))/\i64.wrap (i64.wrap ((0:Int)+(1:Int))+(1:Int))<(↑(3:Nat):Int)),Br (List.getD (List.getD
 (Zq.getD f.toNat (K.arr (3:Nat) (K.arr (3:Nat) (K.int i64))).dflt) (i64.wrap ((0:Int)+(1:Int))).toNat (K.arr (3:Nat) (K.int i64)).dflt)
 (i64.wrap (i64.wrap ((0:Int)+(1:Int))+(1:Int))).toNat (0:Int)==(1:Int)) (∃(h:True),∃(h:(0:Int)<=i64.wrap (i64.wrap ((0:
 Int)+(1:Int))+(1:Int))/\i64.wrap (i64.wrap ((0:Int)+(1:Int))+(1:Int))<(↑(3:Nat):Int)/\(3:Nat)<=y.1.length),HS (Z14m ty166
 ty236 y s t)/\post_8 () (y.1.set (i64.wrap (i64.wrap ((0:Int)+(1:Int))+(1:Int))).toNat (Zt ([(4607182418800017408:Nat),s,t].getD
 (i64.wrap ((0:Int)+(1:Int))).toNat (0:Nat))).1,())) (Br (List.getD (List.getD (Zq.getD f.toNat (K.arr (3:Nat) (K.arr (3:Nat) (K.int i64))).dflt)
 (i64.wrap ((0:Int)+(1:Int))).toNat (K.arr (3:Nat) (K.int i64)).dflt) (i64.wrap (i64.wrap ((0:Int)+(1:Int))+(1:Int))).toNat (0:
 Int)==(-1:Int)) (∃(h:True),∃(h:(0:Int)<=i64.wrap (i64.wrap ((0:Int)+(1:Int))+(1:Int))/\i64.wrap (i64.wrap ((0:Int)+(1
 : Int))+(1:Int))<(↑(3:Nat):Int)/\(3:Nat)<=y.1.length),HS (Z14n ty166 ty236 y s t)/\post_8 () (y.1.set (i64.wrap (i64.wrap ((0:Int)+
 (1:Int))+(1:Int))).toNat (Zt (Go.Op.negFloat f64 ([(4607182418800017408:Nat),s,t].getD (i64.wrap ((0:Int)+(1:Int))).toNat (0:Nat)))).1,
 ())) (HS (Z3v ty166 ty236 y)/\post_8 () (y.1,()))))/\∀(x:Unit)(y:List Nat × Unit),post_8 x y->∃(post_9:Unit->List Nat × Unit->Prop),(∃(h:(0:Int)<=
 i64.wrap (i64.wrap ((0:Int)+(1:Int))+(1:Int))/\i64.wrap (i64.wrap ((0:Int)+(1:Int))+(1:Int))<(↑(3:Nat):Int)),∃(h:(0
 : Int)<=f/\f<(↑(6:Nat):Int)),∃(h:(0:Int)<=i64.wrap (i64.wrap ((0:Int)+(1:Int))+(1:Int))/\i64.wrap (i64.wrap ((0:Int)+
 (1:Int))+(1:Int))<(↑(3:Nat):Int)),∃(h:(0:Int)<=i64.wrap (i64.wrap ((0:Int)+(1:Int))+(1:Int))/\i64.wrap (i64.wrap ((0
 : Int)+(1:Int))+(1:Int))<(↑(3:Nat):Int)),Br (List.getD (List.getD (Zq.getD f.toNat (K.arr (3:Nat) (K.arr (3:Nat) (K.int i64))).dflt)
 (i64.wrap (i64.wrap ((0:Int)+(1:Int))+(1:Int))).toNat (K.arr (3:Nat) (K.int i64)).dflt) (i64.wrap (i64.wrap ((0:Int)+(1:
 Int))+(1:Int))).toNat (0:Int)==(1:Int)) (∃(h:True),∃(h:(0:Int)<=i64.wrap (i64.wrap ((0:Int)+(1:Int))+(1:Int))/\i64.wrap
 (i64.wrap ((0:Int)+(1:Int))+(1:Int))<(↑(3:Nat):Int)/\(3:Nat)<=y.1.length),HS (Z14o ty166 ty236 y s t)/\post_9 () (y.1.set
 (i64.wrap (i64.wrap ((0:Int)+(1:Int))+(1:Int))).toNat (Zt ([(4607182418800017408:Nat),s,t].getD (i64.wrap (i64.wrap ((0:Int)+
 (1:Int))+(1:Int))).toNat (0:Nat))).1,())) (Br (List.getD (List.getD (Zq.getD f.toNat (K.arr (3:Nat) (K.arr (3:Nat) (K.int i64))).dflt) (i64.wrap
 (i64.wrap ((0:Int)+(1:Int))+(1:Int))).toNat (K.arr (3:Nat) (K.int i64)).dflt) (i64.wrap (i64.wrap ((0:Int)+(1:Int))+(1:
 Int))).toNat (0:Int)==(-1:Int)) (∃(h:True),∃(h:(0:Int)<=i64.wrap (i64.wrap ((0:Int)+(1:Int))+(1:Int))/\i64.wrap
 (i64.wrap ((0:Int)+(1:Int))+(1:Int))<(↑(3:Nat):Int)/\(3:Nat)<=y.1.length),HS (Z14p ty166 ty236 y s t)/\post_9 () (y.1.set
 (i64.wrap (i64.wrap ((0:Int)+(1:Int))+(1:Int))).toNat (Zt (Go.Op.negFloat f64 ([(4607182418800017408:Nat),s,t].getD
 (i64.wrap (i64.wrap ((0:Int)+(1:Int))+(1:Int))).toNat (0:Nat)))).1,())) (HS (Z3v ty166 ty236 y)/\post_9 () (y.1,()))))/\∀(x:Unit)(y
 : List Nat × Unit),post_9 x y->∃(h:(0:Int)<=(0:Int)/\(0:Int)<(↑(3:Nat):Int)/\(3:Nat)<=y.1.length),∃(h:(0:Int)<=(1:Int)/\(1:Int)<(↑(3:Nat):
 Int)/\(3:Nat)<=y.1.length),∃(h:(0:Int)<=(2:Int)/\(2:Int)<(↑(3:Nat):Int)/\(3:Nat)<=y.1.length),∃(h:WV (y.1.getD (Int.toNat (0:Int)) (0:Nat),
 y.1.getD (Int.toNat (1:Int)) (0:Nat),y.1.getD (Int.toNat (2:Int)) (0:Nat))),post (((Z12c (y.1.getD (Int.toNat (0:Int)) (0:Nat),y.1.getD (Int.toNat (1:Int)) (0:
 Nat),y.1.getD (Int.toNat (2:Int)) (0:Nat))).1.1,(Z12c (y.1.getD (Int.toNat (0:Int)) (0:Nat),y.1.getD (Int.toNat (1:Int)) (0:Nat),y.1.getD (Int.toNat (2:Int)) (0
 : Nat))).1.2.1,(Z12c (y.1.getD (Int.toNat (0:Int)) (0:Nat),y.1.getD (Int.toNat (1:Int)) (0:Nat),y.1.getD (Int.toNat (2:Int)) (0:Nat))).1.2.2),())
theorem Z1cs(ty0 ty1:Nat)(f:Int)(s:Nat)(t:Nat)(h:Z12g f s t):Zr5 ty0 ty1 f s t (λr=>r=Zf5 f s t):=by
 obtain⟨f0,f5,hs,ht⟩:=h;have hfb:0<=f/\f<((6:Nat):Int):=⟨f0,by omega⟩;refine⟨λ_ y=>y.1=[(Za (Z9 f 0 0) (List.getD [(4607182418800017408:Nat),s,t] (Int.toNat (0:Int)) (0:Nat)) 0),0,0],⟨by decide,hfb,by decide,by decide,Z95 (m:=(Z9 f 0 0)) (v:=(List.getD [(4607182418800017408:Nat),s,t] (Int.toNat (0:Int)) (0:Nat))) (c:=0) (P:=λz=>[z,0,0]=[(Za (Z9 f 0 0) (List.getD [(4607182418800017408:Nat),s,t] (Int.toNat (0:Int)) (0:Nat)) 0),0,0]) rfl (λe=>⟨trivial,⟨by decide,by decide,Nat.le_refl 3⟩,rfl,e⟩) (λe=>⟨trivial,⟨by decide,by decide,Nat.le_refl 3⟩,rfl,e⟩) (λe=>⟨rfl,e⟩)⟩,?_⟩;rintro⟨⟩ ⟨_,⟨⟩⟩ rfl;refine⟨λ_ y=>y.1=[(Za (Z9 f 1 0) s (Za (Z9 f 0 0) (List.getD [(4607182418800017408:Nat),s,t] (Int.toNat (0:Int)) (0:Nat)) 0)),0,0],⟨by decide,hfb,by decide,by decide,Z95 (m:=(Z9 f 1 0)) (v:=s) (c:=(Za (Z9 f 0 0) (List.getD [(4607182418800017408:Nat),s,t] (Int.toNat (0:Int)) (0:Nat)) 0)) (P:=λz=>[z,0,0]=[(Za (Z9 f 1 0) s (Za (Z9 f 0 0) (List.getD [(4607182418800017408:Nat),s,t] (Int.toNat (0:Int)) (0:Nat)) 0)),0,0]) rfl (λe=>⟨trivial,⟨by decide,by decide,Nat.le_refl 3⟩,rfl,e⟩) (λe=>⟨trivial,⟨by decide,by decide,Nat.le_refl 3⟩,rfl,e⟩) (λe=>⟨rfl,e⟩)⟩,?_⟩;rintro⟨⟩ ⟨_,⟨⟩⟩ rfl;refine⟨λ_ y=>y.1=[(Za (Z9 f 2 0) t (Za (Z9 f 1 0) s (Za (Z9 f 0 0) (List.getD [(4607182418800017408:Nat),s,t] (Int.toNat (0:Int)) (0:Nat)) 0))),0,0],⟨by decide,hfb,by decide,by decide,Z95 (m:=(Z9 f 2 0)) (v:=t) (c:=(Za (Z9 f 1 0) s (Za (Z9 f 0 0) (List.getD [(4607182418800017408:Nat),s,t] (Int.toNat (0:Int)) (0:Nat)) 0))) (P:=λz=>[z,0,0]=[(Za (Z9 f 2 0) t (Za (Z9 f 1 0) s (Za (Z9 f 0 0) (List.getD [(4607182418800017408:Nat),s,t] (Int.toNat (0:Int)) (0:Nat)) 0))),0,0]) rfl (λe=>⟨trivial,⟨by decide,by decide,Nat.le_refl 3⟩,rfl,e⟩) (λe=>⟨trivial,⟨by decide,by decide,Nat.le_refl 3⟩,rfl,e⟩) (λe=>⟨rfl,e⟩)⟩,?_⟩;rintro⟨⟩ ⟨_,⟨⟩⟩ rfl;refine⟨λ_ y=>y.1=[(Za (Z9 f 2 0) t (Za (Z9 f 1 0) s (Za (Z9 f 0 0) (List.getD [(4607182418800017408:Nat),s,t] (Int.toNat (0:Int)) (0:Nat)) 0))),(Za (Z9 f 0 1) (List.getD [(4607182418800017408:Nat),s,t] (Int.toNat (0:Int)) (0:Nat)) 0),0],⟨by decide,hfb,by decide,by decide,Z95 (m:=(Z9 f 0 1)) (v:=(List.getD [(4607182418800017408:Nat),s,t] (Int.toNat (0:Int)) (0:Nat))) (c:=0) (P:=λz=>[(Za (Z9 f 2 0) t (Za (Z9 f 1 0) s (Za (Z9 f 0 0) (List.getD [(4607182418800017408:Nat),s,t] (Int.toNat (0:Int)) (0:Nat)) 0))),z,0]=[(Za (Z9 f 2 0) t (Za (Z9 f 1 0) s (Za (Z9 f 0 0) (List.getD [(4607182418800017408:Nat),s,t] (Int.toNat (0:Int)) (0:Nat)) 0))),(Za (Z9 f 0 1) (List.getD [(4607182418800017408:Nat),s,t] (Int.toNat (0:Int)) (0:Nat)) 0),0]) rfl (λe=>⟨trivial,⟨by decide,by decide,Nat.le_refl 3⟩,rfl,e⟩) (λe=>⟨trivial,⟨by decide,by decide,Nat.le_refl 3⟩,rfl,e⟩) (λe=>⟨rfl,e⟩)⟩,?_⟩;rintro⟨⟩ ⟨_,⟨⟩⟩ rfl;refine⟨λ_ y=>y.1=[(Za (Z9 f 2 0) t (Za (Z9 f 1 0) s (Za (Z9 f 0 0) (List.getD [(4607182418800017408:Nat),s,t] (Int.toNat (0:Int)) (0:Nat)) 0))),(Za (Z9 f 1 1) s (Za (Z9 f 0 1) (List.getD [(4607182418800017408:Nat),s,t] (Int.toNat (0:Int)) (0:Nat)) 0)),0],⟨by decide,hfb,by decide,by decide,Z95 (m:=(Z9 f 1 1)) (v:=s) (c:=(Za (Z9 f 0 1) (List.getD [(4607182418800017408:Nat),s,t] (Int.toNat (0:Int)) (0:Nat)) 0)) (P:=λz=>[(Za (Z9 f 2 0) t (Za (Z9 f 1 0) s (Za (Z9 f 0 0) (List.getD [(4607182418800017408:Nat),s,t] (Int.toNat (0:Int)) (0:Nat)) 0))),z,0]=[(Za (Z9 f 2 0) t (Za (Z9 f 1 0) s (Za (Z9 f 0 0) (List.getD [(4607182418800017408:Nat),s,t] (Int.toNat (0:Int)) (0:Nat)) 0))),(Za (Z9 f 1 1) s (Za (Z9 f 0 1) (List.getD [(4607182418800017408:Nat),s,t] (Int.toNat (0:Int)) (0:Nat)) 0)),0]) rfl (λe=>⟨trivial,⟨by decide,by decide,Nat.le_refl 3⟩,rfl,e⟩) (λe=>⟨trivial,⟨by decide,by decide,Nat.le_refl 3⟩,rfl,e⟩) (λe=>⟨rfl,e⟩)⟩,?_⟩;rintro⟨⟩ ⟨_,⟨⟩⟩ rfl;refine⟨λ_ y=>y.1=[(Za (Z9 f 2 0) t (Za (Z9 f 1 0) s (Za (Z9 f 0 0) (List.getD [(4607182418800017408:Nat),s,t] (Int.toNat (0:Int)) (0:Nat)) 0))),(Za (Z9 f 2 1) t (Za (Z9 f 1 1) s (Za (Z9 f 0 1) (List.getD [(4607182418800017408:Nat),s,t] (Int.toNat (0:Int)) (0:Nat)) 0))),0],⟨by decide,hfb,by decide,by decide,Z95 (m:=(Z9 f 2 1)) (v:=t) (c:=(Za (Z9 f 1 1) s (Za (Z9 f 0 1) (List.getD [(4607182418800017408:Nat),s,t] (Int.toNat (0:Int)) (0:Nat)) 0))) (P:=λz=>[(Za (Z9 f 2 0) t (Za (Z9 f 1 0) s (Za (Z9 f 0 0) (List.getD [(4607182418800017408:Nat),s,t] (Int.toNat (0:Int)) (0:Nat)) 0))),z,0]=[(Za (Z9 f 2 0) t (Za (Z9 f 1 0) s (Za (Z9 f 0 0) (List.getD [(4607182418800017408:Nat),s,t] (Int.toNat (0:Int)) (0:Nat)) 0))),(Za (Z9 f 2 1) t (Za (Z9 f 1 1) s (Za (Z9 f 0 1) (List.getD [(4607182418800017408:Nat),s,t] (Int.toNat (0:Int)) (0:Nat)) 0))),0]) rfl (λe=>⟨trivial,⟨by decide,by decide,Nat.le_refl 3⟩,rfl,e⟩) (λe=>⟨trivial,⟨by decide,by decide,Nat.le_refl 3⟩,rfl,e⟩) (λe=>⟨rfl,e⟩)⟩,?_⟩;rintro⟨⟩ ⟨_,⟨⟩⟩ rfl;refine⟨λ_ y=>y.1=[(Za (Z9 f 2 0) t (Za (Z9 f 1 0) s (Za (Z9 f 0 0) (List.getD [(4607182418800017408:Nat),s,t] (Int.toNat (0:Int)) (0:Nat)) 0))),(Za (Z9 f 2 1) t (Za (Z9 f 1 1) s (Za (Z9 f 0 1) (List.getD [(4607182418800017408:Nat),s,t] (Int.toNat (0:Int)) (0:Nat)) 0))),(Za (Z9 f 0 2) (List.getD [(4607182418800017408:Nat),s,t] (Int.toNat (0:Int)) (0:Nat)) 0)],⟨by decide,hfb,by decide,by decide,Z95 (m:=(Z9 f 0 2)) (v:=(List.getD [(4607182418800017408:Nat),s,t] (Int.toNat (0:Int)) (0:Nat))) (c:=0) (P:=λz=>[(Za (Z9 f 2 0) t (Za (Z9 f 1 0) s (Za (Z9 f 0 0) (List.getD [(4607182418800017408:Nat),s,t] (Int.toNat (0:Int)) (0:Nat)) 0))),(Za (Z9 f 2 1) t (Za (Z9 f 1 1) s (Za (Z9 f 0 1) (List.getD [(4607182418800017408:Nat),s,t] (Int.toNat (0:Int)) (0:Nat)) 0))),z]=[(Za (Z9 f 2 0) t (Za (Z9 f 1 0) s (Za (Z9 f 0 0) (List.getD [(4607182418800017408:Nat),s,t] (Int.toNat (0:Int)) (0:Nat)) 0))),(Za (Z9 f 2 1) t (Za (Z9 f 1 1) s (Za (Z9 f 0 1) (List.getD [(4607182418800017408:Nat),s,t] (Int.toNat (0:Int)) (0:Nat)) 0))),(Za (Z9 f 0 2) (List.getD [(4607182418800017408:Nat),s,t] (Int.toNat (0:Int)) (0:Nat)) 0)]) rfl (λe=>⟨trivial,⟨by decide,by decide,Nat.le_refl 3⟩,rfl,e⟩) (λe=>⟨trivial,⟨by decide,by decide,Nat.le_refl 3⟩,rfl,e⟩) (λe=>⟨rfl,e⟩)⟩,?_⟩;rintro⟨⟩ ⟨_,⟨⟩⟩ rfl;refine⟨λ_ y=>y.1=[(Za (Z9 f 2 0) t (Za (Z9 f 1 0) s (Za (Z9 f 0 0) (List.getD [(4607182418800017408:Nat),s,t] (Int.toNat (0:Int)) (0:Nat)) 0))),(Za (Z9 f 2 1) t (Za (Z9 f 1 1) s (Za (Z9 f 0 1) (List.getD [(4607182418800017408:Nat),s,t] (Int.toNat (0:Int)) (0:Nat)) 0))),(Za (Z9 f 1 2) s (Za (Z9 f 0 2) (List.getD [(4607182418800017408:Nat),s,t] (Int.toNat (0:Int)) (0:Nat)) 0))],⟨by decide,hfb,by decide,by decide,Z95 (m:=(Z9 f 1 2)) (v:=s) (c:=(Za (Z9 f 0 2) (List.getD [(4607182418800017408:Nat),s,t] (Int.toNat (0:Int)) (0:Nat)) 0)) (P:=λz=>[(Za (Z9 f 2 0) t (Za (Z9 f 1 0) s (Za (Z9 f 0 0) (List.getD [(4607182418800017408:Nat),s,t] (Int.toNat (0:Int)) (0:Nat)) 0))),(Za (Z9 f 2 1) t (Za (Z9 f 1 1) s (Za (Z9 f 0 1) (List.getD [(4607182418800017408:Nat),s,t] (Int.toNat (0:Int)) (0:Nat)) 0))),z]=[(Za (Z9 f 2 0) t (Za (Z9 f 1 0) s (Za (Z9 f 0 0) (List.getD [(4607182418800017408:Nat),s,t] (Int.toNat (0:Int)) (0:Nat)) 0))),(Za (Z9 f 2 1) t (Za (Z9 f 1 1) s (Za (Z9 f 0 1) (List.getD [(4607182418800017408:Nat),s,t] (Int.toNat (0:Int)) (0:Nat)) 0))),(Za (Z9 f 1 2) s (Za (Z9 f 0 2) (List.getD [(4607182418800017408:Nat),s,t] (Int.toNat (0:Int)) (0:Nat)) 0))]) rfl (λe=>⟨trivial,⟨by decide,by decide,Nat.le_refl 3⟩,rfl,e⟩) (λe=>⟨trivial,⟨by decide,by decide,Nat.le_refl 3⟩,rfl,e⟩) (λe=>⟨rfl,e⟩)⟩,?_⟩;rintro⟨⟩ ⟨_,⟨⟩⟩ rfl;refine⟨λ_ y=>y.1=[(Za (Z9 f 2 0) t (Za (Z9 f 1 0) s (Za (Z9 f 0 0) (List.getD [(4607182418800017408:Nat),s,t] (Int.toNat (0:Int)) (0:Nat)) 0))),(Za (Z9 f 2 1) t (Za (Z9 f 1 1) s (Za (Z9 f 0 1) (List.getD [(4607182418800017408:Nat),s,t] (Int.toNat (0:Int)) (0:Nat)) 0))),(Za (Z9 f 2 2) t (Za (Z9 f 1 2) s (Za (Z9 f 0 2) (List.getD [(4607182418800017408:Nat),s,t] (Int.toNat (0:Int)) (0:Nat)) 0)))],⟨by decide,hfb,by decide,by decide,Z95 (m:=(Z9 f 2 2)) (v:=t) (c:=(Za (Z9 f 1 2) s (Za (Z9 f 0 2) (List.getD [(4607182418800017408:Nat),s,t] (Int.toNat (0:Int)) (0:Nat)) 0))) (P:=λz=>[(Za (Z9 f 2 0) t (Za (Z9 f 1 0) s (Za (Z9 f 0 0) (List.getD [(4607182418800017408:Nat),s,t] (Int.toNat (0:Int)) (0:Nat)) 0))),(Za (Z9 f 2 1) t (Za (Z9 f 1 1) s (Za (Z9 f 0 1) (List.getD [(4607182418800017408:Nat),s,t] (Int.toNat (0:Int)) (0:Nat)) 0))),z]=[(Za (Z9 f 2 0) t (Za (Z9 f 1 0) s (Za (Z9 f 0 0) (List.getD [(4607182418800017408:Nat),s,t] (Int.toNat (0:Int)) (0:Nat)) 0))),(Za (Z9 f 2 1) t (Za (Z9 f 1 1) s (Za (Z9 f 0 1) (List.getD [(4607182418800017408:Nat),s,t] (Int.toNat (0:Int)) (0:Nat)) 0))),(Za (Z9 f 2 2) t (Za (Z9 f 1 2) s (Za (Z9 f 0 2) (List.getD [(4607182418800017408:Nat),s,t] (Int.toNat (0:Int)) (0:Nat)) 0)))]) rfl (λe=>⟨trivial,⟨by decide,by decide,Nat.le_refl 3⟩,rfl,e⟩) (λe=>⟨trivial,⟨by decide,by decide,Nat.le_refl 3⟩,rfl,e⟩) (λe=>⟨rfl,e⟩)⟩,?_⟩;rintro⟨⟩ ⟨_,⟨⟩⟩ rfl;refine⟨⟨by decide,by decide,Nat.le_refl 3⟩,⟨by decide,by decide,Nat.le_refl 3⟩,⟨by decide,by decide,Nat.le_refl 3⟩,⟨Z16y f hs ht 0,Z16y f hs ht 1,Z16y f hs ht 2⟩,rfl⟩
def Zno:=λ(n f i j:Int)(post:(Nat × Nat × Nat) × Bool × Unit->Prop)=>∃(h:I64 n),∀ a,a=((Z4d n).1==0)->Br a (post ((0,0,0),false,
 ())) (∀ a,a=decide (f<0)->Br a (post ((0,0,0),false,())) (∀ a,a=decide (f > 5)->Br a (post ((0,0,0),false,())) (∀ a,a=decide (i<(0
 : Int))->Br a (post ((0,0,0),false,())) (∀ a,a=decide (i > n)->Br a (post ((0,0,0),false,())) (∀ a,a=decide (j<0)->Br a (post ((0,0,0),
 false,())) (∀ a,a=decide (j > n)->Br a (post ((0,0,0),false,())) (∃(h:Zic (i64.wrap (i64.wrap (2*i) - n)) n),∃(h:Zic
 (i64.wrap (i64.wrap (2*j) - n)) n),∃(h:Z12g f (Z4e (i64.wrap (i64.wrap (2*i) - n)) n).1 (Z4e (i64.wrap
 (i64.wrap (2*j) - n)) n).1),post (((Zf5 f (Z4e (i64.wrap (i64.wrap (2*i) - n)) n).1 (Z4e (i64.wrap (i64.wrap
 (2*j) - n)) n).1).1.1,(Zf5 f (Z4e (i64.wrap (i64.wrap (2*i) - n)) n).1 (Z4e (i64.wrap (i64.wrap (2*j) - n))
 n).1).1.2.1,(Zf5 f (Z4e (i64.wrap (i64.wrap (2*i) - n)) n).1 (Z4e (i64.wrap (i64.wrap (2*j) - n)) n).1).1.2.2),
 true,()))))))))
theorem Z189(n:Int)(f:Int)(i:Int)(j:Int)(h:IIII n f i j):Zno  n f i j (λr=>r=Z1k n f i j):=by
 obtain⟨hn,hf,hi,hj⟩:=h
 have bad:Z8n n f i j=false->(((0:Nat),(0:Nat),(0:Nat)),false,())=Z1k n f i j:=by
  intro e; unfold Z1k; rw[if_neg (by rw[e]; decide)]
 refine⟨hn,?_⟩;rintro _ rfl;refine Br.intro (λe=>?_) λe0=>?_
 ·have e:Z2 n=0:=by have e:(Z2 n==0)=true:=e; simpa using e
  refine bad ?_
  cases hg:Z24 n with
  | false=>unfold Z8n; rw[hg]; rfl
  | true=>rw[Zh4 hg]at e; have:=Zwo (Z47.1 hg).1 (Z47.1 hg).2; omega
 have e0:¬ Z2 n=0:=by have e:(Z2 n==0)=false:=e0; simpa using e
 have hg:Z24 n=true:=by
  cases hg:Z24 n with
  | false=>exact absurd (Zf6 hg) e0
  | true=>rfl
 obtain⟨n1,n2⟩:=Z47.1 hg
 have no:¬ (0<=f/\f<=5/\0<=i/\i<=n/\0<=j/\j<=n)->Z8n n f i j=false:=by
  intro q;rw[Bool.eq_false_iff];intro w;unfold Z8n at w;simp only[Bool.and_eq_true,decide_eq_true_eq]at w;omega
 rintro _ rfl;refine Br.intro (λe=>bad (no (by have e:=of_decide_eq_true e; omega))) λe1=>?_;have e1:=of_decide_eq_false e1;rintro _ rfl;refine Br.intro (λe=>bad (no (by have e:=of_decide_eq_true e; omega))) λe2=>?_;have e2:=of_decide_eq_false e2;rintro _ rfl;refine Br.intro (λe=>bad (no (by have e:=of_decide_eq_true e; omega))) λe3=>?_;have e3:=of_decide_eq_false e3;rintro _ rfl;refine Br.intro (λe=>bad (no (by have e:=of_decide_eq_true e; omega))) λe4=>?_;have e4:=of_decide_eq_false e4;rintro _ rfl;refine Br.intro (λe=>bad (no (by have e:=of_decide_eq_true e; omega))) λe5=>?_;have e5:=of_decide_eq_false e5;rintro _ rfl;refine Br.intro (λe=>bad (no (by have e:=of_decide_eq_true e; omega))) λe6=>?_;have e6:=of_decide_eq_false e6;obtain⟨w1,w2⟩:=Z12l n1 n2 (i:=i) (by omega) (by omega);obtain⟨w3,w4⟩:=Z12l n1 n2 (i:=j) (by omega) (by omega);rw[w1,w3];refine⟨w2,w4,⟨by omega,by omega,Z5v _ _,Z5v _ _⟩,?_⟩
 have ok:Z8n n f i j=true:=by
  unfold Z8n;rw[hg,decide_eq_true (by omega),decide_eq_true (by omega),decide_eq_true (by omega),decide_eq_true (by omega),decide_eq_true (by omega),decide_eq_true (by omega)];rfl
 unfold Z1k; rw[if_pos ok]; rfl
def Zkz:=λ(n c:Int)(post:List (Nat × Nat × Nat) × Bool × Unit->Prop)=>∃(h:II n c),Br (!(Z7 n c).2.2.2.1) (∃(h:(List.replicate (4:Nat) ((K.flt
 f64).pair ((K.flt f64).pair (K.flt f64))).dflt).length=(4:Nat)/\(4:Nat)=(4:Nat)),∃(h:(4:Nat)=(4:Nat)),post ([((0:
 Nat),(0:Nat),(0:Nat)),((0:Nat),(0:Nat),(0:Nat)),((0:Nat),(0:Nat),(0:Nat)),((0:Nat),(0:Nat),(0:Nat))],false,())) (∃(h:(0:Int)<=(0:
 Int)/\(0:Int)<(↑(4:Nat):Int)),∃(h:(List.replicate (2:Nat) (0:Int)).length=(2:Nat)/\List.length ([[(0:Int),(0:Int)],[(1:Int),(0:Int)],[(1:Int),
 (1:Int)],[(0:Int),(1:Int)]].getD (Int.toNat (0:Int)) (K.arr (2:Nat) (K.int i64)).dflt)=(2:Nat)),∃(h:(0:Int)<=(0:Int)/\(0:Int)<(↑(2:Nat):
 Int)/\(2:Nat)<=List.length ([[(0:Int),(0:Int)],[(1:Int),(0:Int)],[(1:Int),(1:Int)],[(0:Int),(1:Int)]].getD (Int.toNat (0:Int)) (K.arr (2:Nat) (K.int
 i64)).dflt)),∃(h:(0:Int)<=(1:Int)/\(1:Int)<(↑(2:Nat):Int)/\(2:Nat)<=List.length ([[(0:Int),(0:Int)],[(1:Int),(0:Int)],[(1:Int),(1:
 Int)],[(0:Int),(1:Int)]].getD (Int.toNat (0:Int)) (K.arr (2:Nat) (K.int i64)).dflt)),∃(h:IIII n (Z7 n c).1 (i64.wrap ((Z7 n c).2.1+
 List.getD ([[(0:Int),(0:Int)],[(1:Int),(0:Int)],[(1:Int),(1:Int)],[(0:Int),(1:Int)]].getD (Int.toNat (0:Int)) (K.arr (2:Nat) (K.int i64)).dflt)
 (Int.toNat (0:Int)) (0:Int))) (i64.wrap ((Z7 n c).2.2.1+List.getD ([[(0:Int),(0:Int)],[(1:Int),(0:Int)],[(1:Int),(1:Int)],[(0:Int),(1:
 Int)]].getD (Int.toNat (0:Int)) (K.arr (2:Nat) (K.int i64)).dflt) (Int.toNat (1:Int)) (0:Int)))),∃(h:(0:Int)<=(0:Int)/\(0:Int)<(↑(4:Nat):Int)/\
 (4:Nat)<=(List.replicate (4:Nat) ((K.flt f64).pair ((K.flt f64).pair (K.flt f64))).dflt).length),∃(h:(0:Int)<=i64.wrap
 ((0:Int)+(1:Int))/\i64.wrap ((0:Int)+(1:Int))<(↑(4:Nat):Int)),∃(h:(List.replicate (2:Nat) (0:Int)).length=(2:Nat)/\List.length ([[(0:
 Int),(0:Int)],[(1:Int),(0:Int)],[(1:Int),(1:Int)],[(0:Int),(1:Int)]].getD (i64.wrap ((0:Int)+(1:Int))).toNat (K.arr (2:Nat) (K.int
 i64)).dflt)=(2:Nat)),∃(h:(0:Int)<=(0:Int)/\(0:Int)<(↑(2:Nat):Int)/\(2:Nat)<=List.length ([[(0:Int),(0:Int)],[(1:Int),(0:Int)],[(1:
 Int),(1:Int)],[(0:Int),(1:Int)]].getD (i64.wrap ((0:Int)+(1:Int))).toNat (K.arr (2:Nat) (K.int i64)).dflt)),∃(h:(0:Int)<=(1:Int)/\(1:
 Int)<(↑(2:Nat):Int)/\(2:Nat)<=List.length ([[(0:Int),(0:Int)],[(1:Int),(0:Int)],[(1:Int),(1:Int)],[(0:Int),(1:Int)]].getD (i64.wrap ((0:
 Int)+(1:Int))).toNat (K.arr (2:Nat) (K.int i64)).dflt)),∃(h:IIII n (Z7 n c).1 (i64.wrap ((Z7 n c).2.1+List.getD ([[(0:Int),(0:Int)],[(1
 : Int),(0:Int)],[(1:Int),(1:Int)],[(0:Int),(1:Int)]].getD (i64.wrap ((0:Int)+(1:Int))).toNat (K.arr (2:Nat) (K.int i64)).dflt) (Int.toNat (0
 : Int)) (0:Int))) (i64.wrap ((Z7 n c).2.2.1+List.getD ([[(0:Int),(0:Int)],[(1:Int),(0:Int)],[(1:Int),(1:Int)],[(0:Int),(1:Int)]].getD
 (i64.wrap ((0:Int)+(1:Int))).toNat (K.arr (2:Nat) (K.int i64)).dflt) (Int.toNat (1:Int)) (0:Int)))),∃(h:(0:Int)<=i64.wrap ((0:Int)+
 (1:Int))/\i64.wrap ((0:Int)+(1:Int))<(↑(4:Nat):Int)/\(4:Nat)<=((List.replicate (4:Nat) ((K.flt f64).pair ((K.flt f64).pair
 (K.flt f64))).dflt).set (Int.toNat (0:Int)) (Z1k n (Z7 n c).1 (i64.wrap ((Z7 n c).2.1+List.getD ([[(0:Int),(0:Int)],[(1:Int),(0:
 Int)],[(1:Int),(1:Int)],[(0:Int),(1:Int)]].getD (Int.toNat (0:Int)) (K.arr (2:Nat) (K.int i64)).dflt) (Int.toNat (0:Int)) (0:Int))) (i64.wrap
 ((Z7 n c).2.2.1+List.getD ([[(0:Int),(0:Int)],[(1:Int),(0:Int)],[(1:Int),(1:Int)],[(0:Int),(1:Int)]].getD (Int.toNat (0:Int)) (K.arr (2:Nat)
 (K.int i64)).dflt) (Int.toNat (1:Int)) (0:Int)))).1).length),∃(h:(0:Int)<=i64.wrap (i64.wrap ((0:Int)+(1:Int))+(1:Int))/\
 i64.wrap (i64.wrap ((0:Int)+(1:Int))+(1:Int))<(↑(4:Nat):Int)),∃(h:(List.replicate (2:Nat) (0:Int)).length=(2:Nat)/\List.length ([[(0:
 Int),(0:Int)],[(1:Int),(0:Int)],[(1:Int),(1:Int)],[(0:Int),(1:Int)]].getD (i64.wrap (i64.wrap ((0:Int)+(1:Int))+(1:Int))).toNat
 (K.arr (2:Nat) (K.int i64)).dflt)=(2:Nat)),∃(h:(0:Int)<=(0:Int)/\(0:Int)<(↑(2:Nat):Int)/\(2:Nat)<=List.length ([[(0:Int),(0:Int)],[(1:
 Int),(0:Int)],[(1:Int),(1:Int)],[(0:Int),(1:Int)]].getD (i64.wrap (i64.wrap ((0:Int)+(1:Int))+(1:Int))).toNat (K.arr (2:Nat) (K.int
 i64)).dflt)),∃(h:(0:Int)<=(1:Int)/\(1:Int)<(↑(2:Nat):Int)/\(2:Nat)<=List.length ([[(0:Int),(0:Int)],[(1:Int),(0:Int)],[(1:Int),(1:
 Int)],[(0:Int),(1:Int)]].getD (i64.wrap (i64.wrap ((0:Int)+(1:Int))+(1:Int))).toNat (K.arr (2:Nat) (K.int i64)).dflt)),∃(h:IIII n
 (Z7 n c).1 (i64.wrap ((Z7 n c).2.1+List.getD ([[(0:Int),(0:Int)],[(1:Int),(0:Int)],[(1:Int),(1:Int)],[(0:Int),(1:Int)]].getD
 (i64.wrap (i64.wrap ((0:Int)+(1:Int))+(1:Int))).toNat (K.arr (2:Nat) (K.int i64)).dflt) (Int.toNat (0:Int)) (0:Int))) (i64.wrap
 ((Z7 n c).2.2.1+List.getD ([[(0:Int),(0:Int)],[(1:Int),(0:Int)],[(1:Int),(1:Int)],[(0:Int),(1:Int)]].getD (i64.wrap (i64.wrap ((0:
 Int)+(1:Int))+(1:Int))).toNat (K.arr (2:Nat) (K.int i64)).dflt) (Int.toNat (1:Int)) (0:Int)))),∃(h:(0:Int)<=i64.wrap (i64.wrap ((0:
 Int)+(1:Int))+(1:Int))/\i64.wrap (i64.wrap ((0:Int)+(1:Int))+(1:Int))<(↑(4:Nat):Int)/\(4:Nat)<=(((List.replicate (4:Nat) ((K.flt
 f64).pair ((K.flt f64).pair (K.flt f64))).dflt).set (Int.toNat (0:Int)) (Z1k n (Z7 n c).1 (i64.wrap ((Z7 n c).2.1+
 List.getD ([[(0:Int),(0:Int)],[(1:Int),(0:Int)],[(1:Int),(1:Int)],[(0:Int),(1:Int)]].getD (Int.toNat (0:Int)) (K.arr (2:Nat) (K.int i64)).dflt)
 (Int.toNat (0:Int)) (0:Int))) (i64.wrap ((Z7 n c).2.2.1+List.getD ([[(0:Int),(0:Int)],[(1:Int),(0:Int)],[(1:Int),(1:Int)],[(0:Int),(1:
 Int)]].getD (Int.toNat (0:Int)) (K.arr (2:Nat) (K.int i64)).dflt) (Int.toNat (1:Int)) (0:Int)))).1).set (i64.wrap ((0:Int)+(1:Int))).toNat (Z1k n
 (Z7 n c).1 (i64.wrap ((Z7 n c).2.1+List.getD ([[(0:Int),(0:Int)],[(1:Int),(0:Int)],[(1:Int),(1:Int)],[(0:Int),(1:Int)]].getD
 (i64.wrap ((0:Int)+(1:Int))).toNat (K.arr (2:Nat) (K.int i64)).dflt) (Int.toNat (0:Int)) (0:Int))) (i64.wrap ((Z7 n c).2.2.1+List.getD
 ([[(0:Int),(0:Int)],[(1:Int),(0:Int)],[(1:Int),(1:Int)],[(0:Int),(1:Int)]].getD (i64.wrap ((0:Int)+(1:Int))).toNat (K.arr (2:Nat) (K.int
 i64)).dflt) (Int.toNat (1:Int)) (0:Int)))).1).length),∃(h:(0:Int)<=i64.wrap (i64.wrap (i64.wrap ((0:Int)+(1:Int))+(1:Int))+
 (1:Int))/\i64.wrap (i64.wrap (i64.wrap ((0:Int)+(1:Int))+(1:Int))+(1:Int))<(↑(4:Nat):Int)),∃(h:(List.replicate (2:Nat) (0:
 Int)).length=(2:Nat)/\List.length ([[(0:Int),(0:Int)],[(1:Int),(0:Int)],[(1:Int),(1:Int)],[(0:Int),(1:Int)]].getD (i64.wrap (i64.wrap
 (i64.wrap ((0:Int)+(1:Int))+(1:Int))+(1:Int))).toNat (K.arr (2:Nat) (K.int i64)).dflt)=(2:Nat)),∃(h:(0:Int)<=(0:Int)/\(0:Int) <
 (↑(2:Nat):Int)/\(2:Nat)<=List.length ([[(0:Int),(0:Int)],[(1:Int),(0:Int)],[(1:Int),(1:Int)],[(0:Int),(1:Int)]].getD (i64.wrap
 (i64.wrap (i64.wrap ((0:Int)+(1:Int))+(1:Int))+(1:Int))).toNat (K.arr (2:Nat) (K.int i64)).dflt)),∃(h:(0:Int)<=(1:Int)/\(1:Int)
 < (↑(2:Nat):Int)/\(2:Nat)<=List.length ([[(0:Int),(0:Int)],[(1:Int),(0:Int)],[(1:Int),(1:Int)],[(0:Int),(1:Int)]].getD (i64.wrap
 (i64.wrap (i64.wrap ((0:Int)+(1:Int))+(1:Int))+(1:Int))).toNat (K.arr (2:Nat) (K.int i64)).dflt)),∃(h:IIII n (Z7 n c).1
 (i64.wrap ((Z7 n c).2.1+List.getD ([[(0:Int),(0:Int)],[(1:Int),(0:Int)],[(1:Int),(1:Int)],[(0:Int),(1:Int)]].getD (i64.wrap
 (i64.wrap (i64.wrap ((0:Int)+(1:Int))+(1:Int))+(1:Int))).toNat (K.arr (2:Nat) (K.int i64)).dflt) (Int.toNat (0:Int)) (0:Int)))
 (i64.wrap ((Z7 n c).2.2.1+List.getD ([[(0:Int),(0:Int)],[(1:Int),(0:Int)],[(1:Int),(1:Int)],[(0:Int),(1:Int)]].getD (i64.wrap
 (i64.wrap (i64.wrap ((0:Int)+(1:Int))+(1:Int))+(1:Int))).toNat (K.arr (2:Nat) (K.int i64)).dflt) (Int.toNat (1:Int)) (0:Int)))),∃(h:
 (0:Int)<=i64.wrap (i64.wrap (i64.wrap ((0:Int)+(1:Int))+(1:Int))+(1:Int))/\i64.wrap (i64.wrap (i64.wrap ((0:
 Int)+(1:Int))+(1:Int))+(1:Int))<(↑(4:Nat):Int)/\(4:Nat)<=((((List.replicate (4:Nat) ((K.flt f64).pair ((K.flt f64).pair (K.flt
 f64))).dflt).set (Int.toNat (0:Int)) (Z1k n (Z7 n c).1 (i64.wrap ((Z7 n c).2.1+List.getD ([[(0:Int),(0:Int)],[(1:Int),(0:Int)],
 [(1:Int),(1:Int)],[(0:Int),(1:Int)]].getD (Int.toNat (0:Int)) (K.arr (2:Nat) (K.int i64)).dflt) (Int.toNat (0:Int)) (0:Int))) (i64.wrap
 ((Z7 n c).2.2.1+List.getD ([[(0:Int),(0:Int)],[(1:Int),(0:Int)],[(1:Int),(1:Int)],[(0:Int),(1:Int)]].getD (Int.toNat (0:Int)) (K.arr (2:Nat)
 (K.int i64)).dflt) (Int.toNat (1:Int)) (0:Int)))).1).set (i64.wrap ((0:Int)+(1:Int))).toNat (Z1k n (Z7 n c).1 (i64.wrap ((Z7 n
 c).2.1+List.getD ([[(0:Int),(0:Int)],[(1:Int),(0:Int)],[(1:Int),(1:Int)],[(0:Int),(1:Int)]].getD (i64.wrap ((0:Int)+(1:Int))).toNat (K.arr
 (2:Nat) (K.int i64)).dflt) (Int.toNat (0:Int)) (0:Int))) (i64.wrap ((Z7 n c).2.2.1+List.getD ([[(0:Int),(0:Int)],[(1:Int),(0:Int)],[(1:
 Int),(1:Int)],[(0:Int),(1:Int)]].getD (i64.wrap ((0:Int)+(1:Int))).toNat (K.arr (2:Nat) (K.int i64)).dflt) (Int.toNat (1:Int)) (0:
 Int)))).1).set (i64.wrap (i64.wrap ((0:Int)+(1:Int))+(1:Int))).toNat (Z1k n (Z7 n c).1 (i64.wrap ((Z7 n c).2.1+List.getD ([[(0:
 Int),(0:Int)],[(1:Int),(0:Int)],[(1:Int),(1:Int)],[(0:Int),(1:Int)]].getD (i64.wrap (i64.wrap ((0:Int)+(1:Int))+(1:Int))).toNat
 (K.arr (2:Nat) (K.int i64)).dflt) (Int.toNat (0:Int)) (0:Int))) (i64.wrap ((Z7 n c).2.2.1+List.getD ([[(0:Int),(0:Int)],[(1:Int),(0:Int)],
 [(1:Int),(1:Int)],[(0:Int),(1:Int)]].getD (i64.wrap (i64.wrap ((0:Int)+(1:Int))+(1:Int))).toNat (K.arr (2:Nat) (K.int i64)).dflt)
 (Int.toNat (1:Int)) (0:Int)))).1).length),∃(h:(((((List.replicate (4:Nat) ((K.flt f64).pair ((K.flt f64).pair (K.flt
 f64))).dflt).set (Int.toNat (0:Int)) (Z1k n (Z7 n c).1 (i64.wrap ((Z7 n c).2.1+List.getD ([[(0:Int),(0:Int)],[(1:Int),(0:Int)],
 [(1:Int),(1:Int)],[(0:Int),(1:Int)]].getD (Int.toNat (0:Int)) (K.arr (2:Nat) (K.int i64)).dflt) (Int.toNat (0:Int)) (0:Int))) (i64.wrap
 ((Z7 n c).2.2.1+List.getD ([[(0:Int),(0:Int)],[(1:Int),(0:Int)],[(1:Int),(1:Int)],[(0:Int),(1:Int)]].getD (Int.toNat (0:Int)) (K.arr (2:Nat)
 (K.int i64)).dflt) (Int.toNat (1:Int)) (0:Int)))).1).set (i64.wrap ((0:Int)+(1:Int))).toNat (Z1k n (Z7 n c).1 (i64.wrap ((Z7 n
 c).2.1+List.getD ([[(0:Int),(0:Int)],[(1:Int),(0:Int)],[(1:Int),(1:Int)],[(0:Int),(1:Int)]].getD (i64.wrap ((0:Int)+(1:Int))).toNat (K.arr
 (2:Nat) (K.int i64)).dflt) (Int.toNat (0:Int)) (0:Int))) (i64.wrap ((Z7 n c).2.2.1+List.getD ([[(0:Int),(0:Int)],[(1:Int),(0:Int)],[(1:
 Int),(1:Int)],[(0:Int),(1:Int)]].getD (i64.wrap ((0:Int)+(1:Int))).toNat (K.arr (2:Nat) (K.int i64)).dflt) (Int.toNat (1:Int)) (0:
 Int)))).1).set (i64.wrap (i64.wrap ((0:Int)+(1:Int))+(1:Int))).toNat (Z1k n (Z7 n c).1 (i64.wrap ((Z7 n c).2.1+List.getD ([[(0:
 Int),(0:Int)],[(1:Int),(0:Int)],[(1:Int),(1:Int)],[(0:Int),(1:Int)]].getD (i64.wrap (i64.wrap ((0:Int)+(1:Int))+(1:Int))).toNat
 (K.arr (2:Nat) (K.int i64)).dflt) (Int.toNat (0:Int)) (0:Int))) (i64.wrap ((Z7 n c).2.2.1+List.getD ([[(0:Int),(0:Int)],[(1:Int),(0:Int)],
 [(1:Int),(1:Int)],[(0:Int),(1:Int)]].getD (i64.wrap (i64.wrap ((0:Int)+(1:Int))+(1:Int))).toNat (K.arr (2:Nat) (K.int i64)).dflt)
 (Int.toNat (1:Int)) (0:Int)))).1).set (i64.wrap (i64.wrap (i64.wrap ((0:Int)+(1:Int))+(1:Int))+(1:Int))).toNat (Z1k n (Z7 n c).1
 (i64.wrap ((Z7 n c).2.1+List.getD ([[(0:Int),(0:Int)],[(1:Int),(0:Int)],[(1:Int),(1:Int)],[(0:Int),(1:Int)]].getD (i64.wrap
 (i64.wrap (i64.wrap ((0:Int)+(1:Int))+(1:Int))+(1:Int))).toNat (K.arr (2:Nat) (K.int i64)).dflt) (Int.toNat (0:Int)) (0:Int)))
 (i64.wrap ((Z7 n c).2.2.1+List.getD ([[(0:Int),(0:Int)],[(1:Int),(0:Int)],[(1:Int),(1:Int)],[(0:Int),(1:Int)]].getD (i64.wrap
 (i64.wrap (i64.wrap ((0:Int)+(1:Int))+(1:Int))+(1:Int))).toNat (K.arr (2:Nat) (K.int i64)).dflt) (Int.toNat (1:Int)) (0:
 Int)))).1).length=(4:Nat)),∃(h:(List.replicate (4:Nat) ((K.flt f64).pair ((K.flt f64).pair (K.flt f64))).dflt).length=(4:Nat)
 /\ (((((List.replicate (4:Nat) ((K.flt f64).pair ((K.flt f64).pair (K.flt f64))).dflt).set (Int.toNat (0:Int)) (Z1k n (Z7 n c).1
 (i64.wrap ((Z7 n c).2.1+List.getD ([[(0:Int),(0:Int)],[(1:Int),(0:Int)],[(1:Int),(1:Int)],[(0:Int),(1:Int)]].getD (Int.toNat (0:Int))
 (K.arr (2:Nat) (K.int i64)).dflt) (Int.toNat (0:Int)) (0:Int))) (i64.wrap ((Z7 n c).2.2.1+List.getD ([[(0:Int),(0:Int)],[(1:Int),(0:Int)],
 [(1:Int),(1:Int)],[(0:Int),(1:Int)]].getD (Int.toNat (0:Int)) (K.arr (2:Nat) (K.int i64)).dflt) (Int.toNat (1:Int)) (0:Int)))).1).set (i64.wrap
 ((0:Int)+(1:Int))).toNat (Z1k n (Z7 n c).1 (i64.wrap ((Z7 n c).2.1+List.getD ([[(0:Int),(0:Int)],[(1:Int),(0:Int)],[(1:Int),(1:
 Int)],[(0:Int),(1:Int)]].getD (i64.wrap ((0:Int)+(1:Int))).toNat (K.arr (2:Nat) (K.int i64)).dflt) (Int.toNat (0:Int)) (0:Int)))
 (i64.wrap ((Z7 n c).2.2.1+List.getD ([[(0:Int),(0:Int)],[(1:Int),(0:Int)],[(1:Int),(1:Int)],[(0:Int),(1:Int)]].getD (i64.wrap ((0:
 Int)+(1:Int))).toNat (K.arr (2:Nat) (K.int i64)).dflt) (Int.toNat (1:Int)) (0:Int)))).1).set (i64.wrap (i64.wrap ((0:Int)+(1:Int))+(1:
 Int))).toNat (Z1k n (Z7 n c).1 (i64.wrap ((Z7 n c).2.1+List.getD ([[(0:Int),(0:Int)],[(1:Int),(0:Int)],[(1:Int),(1:Int)],[(0:Int),(1:
 Int)]].getD (i64.wrap (i64.wrap ((0:Int)+(1:Int))+(1:Int))).toNat (K.arr (2:Nat) (K.int i64)).dflt) (Int.toNat (0:Int)) (0:Int)))
 (i64.wrap ((Z7 n c).2.2.1+List.getD ([[(0:Int),(0:Int)],[(1:Int),(0:Int)],[(1:Int),(1:Int)],[(0:Int),(1:Int)]].getD (i64.wrap
 (i64.wrap ((0:Int)+(1:Int))+(1:Int))).toNat (K.arr (2:Nat) (K.int i64)).dflt) (Int.toNat (1:Int)) (0:Int)))).1).set (i64.wrap
 (i64.wrap (i64.wrap ((0:Int)+(1:Int))+(1:Int))+(1:Int))).toNat (Z1k n (Z7 n c).1 (i64.wrap ((Z7 n c).2.1+List.getD ([[(0:
 Int),(0:Int)],[(1:Int),(0:Int)],[(1:Int),(1:Int)],[(0:Int),(1:Int)]].getD (i64.wrap (i64.wrap (i64.wrap ((0:Int)+(1:Int))+(1:
 Int))+(1:Int))).toNat (K.arr (2:Nat) (K.int i64)).dflt) (Int.toNat (0:Int)) (0:Int))) (i64.wrap ((Z7 n c).2.2.1+List.getD ([[(0:Int),(0:
 Int)],[(1:Int),(0:Int)],[(1:Int),(1:Int)],[(0:Int),(1:Int)]].getD (i64.wrap (i64.wrap (i64.wrap ((0:Int)+(1:Int))+(1:Int))+(1
 : Int))).toNat (K.arr (2:Nat) (K.int i64)).dflt) (Int.toNat (1:Int)) (0:Int)))).1).length=(4:Nat)),∃(h:(((((List.replicate (4:Nat) ((K.flt
 f64).pair ((K.flt f64).pair (K.flt f64))).dflt).set (Int.toNat (0:Int)) (Z1k n (Z7 n c).1 (i64.wrap ((Z7 n c).2.1+
 List.getD ([[(0:Int),(0:Int)],[(1:Int),(0:Int)],[(1:Int),(1:Int)],[(0:Int),(1:Int)]].getD (Int.toNat (0:Int)) (K.arr (2:Nat) (K.int i64)).dflt)
 (Int.toNat (0:Int)) (0:Int))) (i64.wrap ((Z7 n c).2.2.1+List.getD ([[(0:Int),(0:Int)],[(1:Int),(0:Int)],[(1:Int),(1:Int)],[(0:Int),(1:
 Int)]].getD (Int.toNat (0:Int)) (K.arr (2:Nat) (K.int i64)).dflt) (Int.toNat (1:Int)) (0:Int)))).1).set (i64.wrap ((0:Int)+(1:Int))).toNat (Z1k n
 (Z7 n c).1 (i64.wrap ((Z7 n c).2.1+List.getD ([[(0:Int),(0:Int)],[(1:Int),(0:Int)],[(1:Int),(1:Int)],[(0:Int),(1:Int)]].getD
 (i64.wrap ((0:Int)+(1:Int))).toNat (K.arr (2:Nat) (K.int i64)).dflt) (Int.toNat (0:Int)) (0:Int))) (i64.wrap ((Z7 n c).2.2.1+List.getD
 ([[(0:Int),(0:Int)],[(1:Int),(0:Int)],[(1:Int),(1:Int)],[(0:Int),(1:Int)]].getD (i64.wrap ((0:Int)+(1:Int))).toNat (K.arr (2:Nat) (K.int
 i64)).dflt) (Int.toNat (1:Int)) (0:Int)))).1).set (i64.wrap (i64.wrap ((0:Int)+(1:Int))+(1:Int))).toNat (Z1k n (Z7 n c).1
 (i64.wrap ((Z7 n c).2.1+List.getD ([[(0:Int),(0:Int)],[(1:Int),(0:Int)],[(1:Int),(1:Int)],[(0:Int),(1:Int)]].getD (i64.wrap
 (i64.wrap ((0:Int)+(1:Int))+(1:Int))).toNat (K.arr (2:Nat) (K.int i64)).dflt) (Int.toNat (0:Int)) (0:Int))) (i64.wrap ((Z7 n c).2.2.1
 + List.getD ([[(0:Int),(0:Int)],[(1:Int),(0:Int)],[(1:Int),(1:Int)],[(0:Int),(1:Int)]].getD (i64.wrap (i64.wrap ((0:Int)+(1:Int))+(1
 : Int))).toNat (K.arr (2:Nat) (K.int i64)).dflt) (Int.toNat (1:Int)) (0:Int)))).1).set (i64.wrap (i64.wrap (i64.wrap ((0:Int)+(1:Int))
 + (1:Int))+(1:Int))).toNat (Z1k n (Z7 n c).1 (i64.wrap ((Z7 n c).2.1+List.getD ([[(0:Int),(0:Int)],[(1:Int),(0:Int)],[(1:Int),(1:
 Int)],[(0:Int),(1:Int)]].getD (i64.wrap (i64.wrap (i64.wrap ((0:Int)+(1:Int))+(1:Int))+(1:Int))).toNat (K.arr (2:Nat) (K.int
 i64)).dflt) (Int.toNat (0:Int)) (0:Int))) (i64.wrap ((Z7 n c).2.2.1+List.getD ([[(0:Int),(0:Int)],[(1:Int),(0:Int)],[(1:Int),(1:Int)],
 [(0:Int),(1:Int)]].getD (i64.wrap (i64.wrap (i64.wrap ((0:Int)+(1:Int))+(1:Int))+(1:Int))).toNat (K.arr (2:Nat) (K.int
 i64)).dflt) (Int.toNat (1:Int)) (0:Int)))).1).length=(4:Nat)),post (((((List.replicate (4:Nat) ((K.flt f64).pair ((K.flt f64).pair
 (K.flt f64))).dflt).set (Int.toNat (0:Int)) (Z1k n (Z7 n c).1 (i64.wrap ((Z7 n c).2.1+List.getD ([[(0:Int),(0:Int)],[(1:Int),(0:
 Int)],[(1:Int),(1:Int)],[(0:Int),(1:Int)]].getD (Int.toNat (0:Int)) (K.arr (2:Nat) (K.int i64)).dflt) (Int.toNat (0:Int)) (0:Int))) (i64.wrap
 ((Z7 n c).2.2.1+List.getD ([[(0:Int),(0:Int)],[(1:Int),(0:Int)],[(1:Int),(1:Int)],[(0:Int),(1:Int)]].getD (Int.toNat (0:Int)) (K.arr (2:Nat)
 (K.int i64)).dflt) (Int.toNat (1:Int)) (0:Int)))).1).set (i64.wrap ((0:Int)+(1:Int))).toNat (Z1k n (Z7 n c).1 (i64.wrap ((Z7 n
 c).2.1+List.getD ([[(0:Int),(0:Int)],[(1:Int),(0:Int)],[(1:Int),(1:Int)],[(0:Int),(1:Int)]].getD (i64.wrap ((0:Int)+(1:Int))).toNat (K.arr
 (2:Nat) (K.int i64)).dflt) (Int.toNat (0:Int)) (0:Int))) (i64.wrap ((Z7 n c).2.2.1+List.getD ([[(0:Int),(0:Int)],[(1:Int),(0:Int)],[(1:
 Int),(1:Int)],[(0:Int),(1:Int)]].getD (i64.wrap ((0:Int)+(1:Int))).toNat (K.arr (2:Nat) (K.int i64)).dflt) (Int.toNat (1:Int)) (0:
 Int)))).1).set (i64.wrap (i64.wrap ((0:Int)+(1:Int))+(1:Int))).toNat (Z1k n (Z7 n c).1 (i64.wrap ((Z7 n c).2.1+List.getD ([[(0:
 Int),(0:Int)],[(1:Int),(0:Int)],[(1:Int),(1:Int)],[(0:Int),(1:Int)]].getD (i64.wrap (i64.wrap ((0:Int)+(1:Int))+(1:Int))).toNat
 (K.arr (2:Nat) (K.int i64)).dflt) (Int.toNat (0:Int)) (0:Int))) (i64.wrap ((Z7 n c).2.2.1+List.getD ([[(0:Int),(0:Int)],[(1:Int),(0:Int)],
 [(1:Int),(1:Int)],[(0:Int),(1:Int)]].getD (i64.wrap (i64.wrap ((0:Int)+(1:Int))+(1:Int))).toNat (K.arr (2:Nat) (K.int i64)).dflt)
 (Int.toNat (1:Int)) (0:Int)))).1).set (i64.wrap (i64.wrap (i64.wrap ((0:Int)+(1:Int))+(1:Int))+(1:Int))).toNat (Z1k n (Z7 n c).1
 (i64.wrap ((Z7 n c).2.1+List.getD ([[(0:Int),(0:Int)],[(1:Int),(0:Int)],[(1:Int),(1:Int)],[(0:Int),(1:Int)]].getD (i64.wrap
 (i64.wrap (i64.wrap ((0:Int)+(1:Int))+(1:Int))+(1:Int))).toNat (K.arr (2:Nat) (K.int i64)).dflt) (Int.toNat (0:Int)) (0:Int)))
 (i64.wrap ((Z7 n c).2.2.1+List.getD ([[(0:Int),(0:Int)],[(1:Int),(0:Int)],[(1:Int),(1:Int)],[(0:Int),(1:Int)]].getD (i64.wrap
 (i64.wrap (i64.wrap ((0:Int)+(1:Int))+(1:Int))+(1:Int))).toNat (K.arr (2:Nat) (K.int i64)).dflt) (Int.toNat (1:Int)) (0:Int)))).1,
 true,()))
theorem Z14q(n:Int)(c:Int)(h:II n c):Zkz  n c (λr=>r=Zs n c):=by
 obtain⟨hn,hc⟩:=h;refine⟨⟨hn,hc⟩,Br.intro (λe=>?_) λe=>?_⟩
 ·refine⟨⟨by decide,by decide⟩,by decide,?_⟩
  have ok:Ze n c=false:=by
   cases q:Ze n c with
   | false=>rfl
   | true=>unfold Z7 at e; rw[if_pos q]at e; cases e
  unfold Zs; rw[if_neg (by rw[ok]; decide)]
 have ok:Ze n c=true:=by
  cases q:Ze n c with
  | true=>rfl
  | false=>unfold Z7 at e; rw[if_neg (by rw[q]; decide)]at e; cases e
 obtain⟨h1,h2,h3,h4,h5,h6⟩:=Zeb ok;obtain⟨r1,r2,r3,r4,r5,r6⟩:=Zu5 ok;have hp:Z7 n c=(c / (n*n),c % n,c / n % n,true,()):=by unfold Z7; rw[if_pos ok]
 have hf:I64 (c / (n*n)):=⟨by omega,by omega⟩;have ho:∀ x,0<=x->x<=33->I64 x:=λx a b=>⟨by omega,by omega⟩;have w0:∀ x,0<=x->x<=33->i64.wrap (x+0)=x:=λx a b=>by rw[Int.add_zero,wi (ho x a b)]
 have w1:∀ x,0<=x->x<=32->i64.wrap (x+1)=x+1:=λx a b=>wi (ho _ (by omega) (by omega))
 have hC:∀ i j,0<=i->i<=n->0<=j->j<=n->Z1k n (c / (n*n)) i j=(Zar n (c / (n*n)) i j,true,()):=by
  intro i j a1 a2 a3 a4;unfold Z1k;rw[if_pos];unfold Z8n;rw[Z47.2 ⟨h1,h2⟩,decide_eq_true (by omega),decide_eq_true (by omega),decide_eq_true (by omega),decide_eq_true (by omega),decide_eq_true (by omega),decide_eq_true (by omega)];rfl
 have a0:=w0 (c % n) (by omega) (by omega);have a1:=w1 (c % n) (by omega) (by omega);have b0:=w0 (c / n % n) (by omega) (by omega);have b1:=w1 (c / n % n) (by omega) (by omega);have A0:I64 (i64.wrap (c % n+0)):=by rw[a0]; exact ho _ (by omega) (by omega)
 have A1:I64 (i64.wrap (c % n+1)):=by rw[a1]; exact ho _ (by omega) (by omega)
 have B0:I64 (i64.wrap (c / n % n+0)):=by rw[b0]; exact ho _ (by omega) (by omega)
 have B1:I64 (i64.wrap (c / n % n+1)):=by rw[b1]; exact ho _ (by omega) (by omega)
 rw[hp]
 refine⟨by decide,⟨by decide,by decide⟩,⟨by decide,by decide,by decide⟩,⟨by decide,by decide,by decide⟩,⟨hn,hf,A0,B0⟩,⟨by decide,by decide,Nat.le_refl 4⟩,
  by decide,⟨by decide,by decide⟩,⟨by decide,by decide,by decide⟩,⟨by decide,by decide,by decide⟩,⟨hn,hf,A1,B0⟩,⟨by decide,by decide,Nat.le_refl 4⟩,
  by decide,⟨by decide,by decide⟩,⟨by decide,by decide,by decide⟩,⟨by decide,by decide,by decide⟩,⟨hn,hf,A1,B1⟩,⟨by decide,by decide,Nat.le_refl 4⟩,
  by decide,⟨by decide,by decide⟩,⟨by decide,by decide,by decide⟩,⟨by decide,by decide,by decide⟩,⟨hn,hf,A0,B1⟩,⟨by decide,by decide,Nat.le_refl 4⟩,rfl,⟨rfl,rfl⟩,rfl,?_⟩
 show([(Z1k n (c / (n*n)) (i64.wrap (c % n+0)) (i64.wrap (c / n % n+0))).1,(Z1k n (c / (n*n)) (i64.wrap (c % n+1)) (i64.wrap (c / n % n+0))).1,(Z1k n (c / (n*n)) (i64.wrap (c % n+1)) (i64.wrap (c / n % n+1))).1,(Z1k n (c / (n*n)) (i64.wrap (c % n+0)) (i64.wrap (c / n % n+1))).1],true,())=_;rw[a0,a1,b0,b1,hC _ _ (by omega) (by omega) (by omega) (by omega),hC _ _ (by omega) (by omega) (by omega) (by omega),hC _ _ (by omega) (by omega) (by omega) (by omega),hC _ _ (by omega) (by omega) (by omega) (by omega)];unfold Zs; rw[if_pos ok]
def Zvc:=λ(n c:Int)(post:Int × Unit->Prop)=>∃(h:II n c),∃(h:(List.replicate (4:Nat) ((K.flt f64).pair ((K.flt f64).pair
 (K.flt f64))).dflt).length=(4:Nat)/\(Zs n c).1.length=(4:Nat)),Br (!(Zs n c).2.1) (post ((0:Int),())) (∃(h:(0:Int)<=(2:Int)/\(2:
 Int)<(↑(4:Nat):Int)/\(4:Nat)<=(Zs n c).1.length),∃(h:(0:Int)<=(0:Int)/\(0:Int)<(↑(4:Nat):Int)/\(4:Nat)<=(Zs n c).1.length),∃(h:WV2
 ((Zs n c).1.getD (Int.toNat (2:Int)) ((K.flt f64).pair ((K.flt f64).pair (K.flt f64))).dflt) ((Zs n c).1.getD (Int.toNat (0:
 Int)) ((K.flt f64).pair ((K.flt f64).pair (K.flt f64))).dflt)),∃(h:(0:Int)<=(3:Int)/\(3:Int)<(↑(4:Nat):Int)/\(4:Nat)<=
 (Zs n c).1.length),∃(h:(0:Int)<=(1:Int)/\(1:Int)<(↑(4:Nat):Int)/\(4:Nat)<=(Zs n c).1.length),∃(h:WV2 ((Zs n c).1.getD (Int.toNat (3:
 Int)) ((K.flt f64).pair ((K.flt f64).pair (K.flt f64))).dflt) ((Zs n c).1.getD (Int.toNat (1:Int)) ((K.flt f64).pair
 ((K.flt f64).pair (K.flt f64))).dflt)),∃(h:True),∃(h:WV (Zu2 (Z9w ((Zs n c).1.getD (Int.toNat (2:Int)) ((K.flt
 f64).pair ((K.flt f64).pair (K.flt f64))).dflt) ((Zs n c).1.getD (Int.toNat (0:Int)) ((K.flt f64).pair ((K.flt
 f64).pair (K.flt f64))).dflt)).1 (Z9w ((Zs n c).1.getD (Int.toNat (3:Int)) ((K.flt f64).pair ((K.flt f64).pair
 (K.flt f64))).dflt) ((Zs n c).1.getD (Int.toNat (1:Int)) ((K.flt f64).pair ((K.flt f64).pair (K.flt
 f64))).dflt)).1).1),∀(a:Nat),FRes f64 (f64.format.mul (Z6w (Zu2 (Z9w ((Zs n c).1.getD (Int.toNat (2:Int)) ((K.flt
 f64).pair ((K.flt f64).pair (K.flt f64))).dflt) ((Zs n c).1.getD (Int.toNat (0:Int)) ((K.flt f64).pair ((K.flt
 f64).pair (K.flt f64))).dflt)).1 (Z9w ((Zs n c).1.getD (Int.toNat (3:Int)) ((K.flt f64).pair ((K.flt f64).pair
 (K.flt f64))).dflt) ((Zs n c).1.getD (Int.toNat (1:Int)) ((K.flt f64).pair ((K.flt f64).pair (K.flt
 f64))).dflt)).1).1).1 (4602678819172646912:Nat)) a->∀(a_1:Nat),FRes f64 (f64.format.mul a (4742290407621132288:Nat)) a_1->∃(h:
 W64 a_1),post (imax (Zib a_1).1 (1:Int),()))
theorem Z1he(n:Int)(c:Int)(h:II n c):Zvc  n c (λr=>r=Z12i n c):=by
 have g0:∀ i:Nat,WV ((Zs n c).fst.getD i ((K.flt f64).pair ((K.flt f64).pair (K.flt f64))).dflt):=Z1pb n c;have hl:=Zyc n c;refine⟨h,⟨by decide,hl⟩,?_⟩;rw[hl];refine Br.intro (λe=>?_) λe=>?_
 ·rw[Zp6]at e;exact congrArg r1 (by unfold Zv; rw[if_neg (by intro q; rw[q]at e; cases e)])
 rw[Zp6]at e;have ok:Ze n c=true:=by simpa using e
 refine⟨⟨by decide,by decide,Nat.le_refl 4⟩,⟨by decide,by decide,Nat.le_refl 4⟩,⟨g0 2,g0 0⟩,⟨by decide,by decide,Nat.le_refl 4⟩,⟨by decide,by decide,Nat.le_refl 4⟩,⟨g0 3,g0 1⟩,trivial,Z1sa _ _,?_⟩;intro x hx y hy;obtain⟨x1,x2⟩:=fmul hx;obtain⟨y1,y2⟩:=fmul hy;refine⟨y2,congrArg r1 ?_⟩
 have hs:Zs n c=([Z2x n c 0 0,Z2x n c 1 0,Z2x n c 1 1,Z2x n c 0 1],true,()):=by
  unfold Zs; rw[if_pos ok]; unfold Z2x; rw[Int.add_zero,Int.add_zero]
 have hq:[Z2x n c 0 0,Z2x n c 1 0,Z2x n c 1 1,Z2x n c 0 1]=(Zs n c).1:=by rw[hs]
 have hx1:Z8 x=mulQ (Z12h n c) Z3w:=by
  rw[x1];exact congrArg (λz=>mulQ z 4602678819172646912) (Z1w5 (z:=(0,0,0)) hq.symm)
 have hy1:Z8 y=mulQ (mulQ (Z12h n c) Z3w) Zzt:=by
  rw[y1];have u:Z8 x=Z8 (mulQ (Z12h n c) Z3w):=by rw[hx1,Z4c]
  exact Z42 u rfl
 show imax (Z66 y).1 1=Zv n c;unfold Zv;rw[if_pos ok,Z1ix y2,hy1]
def Zvd:=λ(a b c:Nat)(post:(Nat × Nat × Nat) × Unit->Prop)=>∃(h:True),∃(h:True),∃(h:True),post (((Zt a).fst,(Zt b).fst,(Zt c).fst),
 ())
theorem Z1hf(a:Nat)(b:Nat)(c:Nat):Zvd  a b c (λr=>r=Z6v a b c):=by
 exact⟨trivial,trivial,trivial,rfl⟩
def Zve:=λ(a b:Nat × Nat × Nat)(post:(Nat × Nat × Nat) × Unit->Prop)=>∀(a_1:Nat),FRes f64 (f64.format.sub a.fst b.fst) a_1->∀
 (a_2:Nat),FRes f64 (f64.format.sub a.snd.fst b.snd.fst) a_2->∀(a_3:Nat),FRes f64 (f64.format.sub a.snd.snd b.snd.snd)
 a_3->∃(h:True),post (((Z6v a_1 a_2 a_3).fst.fst,(Z6v a_1 a_2 a_3).fst.snd.fst,(Z6v a_1 a_2 a_3).fst.snd.snd),())
theorem Z1hg(a:Nat × Nat × Nat)(b:Nat × Nat × Nat)(h:WV2 a b):Zve  a b (λr=>r=Z9w a b):=by
 intro x hx y hy z hz;exact⟨trivial,congrArg r1 (Zi9 (fsub hx).1 (fsub hy).1 (fsub hz).1)⟩
def Zvf:=λ(a b:Nat × Nat × Nat)(post:(Nat × Nat × Nat) × Unit->Prop)=>∀(a_1:Nat),FRes f64 (f64.format.mul a.snd.fst b.snd.snd)
 a_1->∀(a_2:Nat),FRes f64 (f64.format.mul a.snd.snd b.snd.fst) a_2->∀(a_3:Nat),FRes f64 (f64.format.sub a_1 a_2) a_3->
 ∀(a_4:Nat),FRes f64 (f64.format.mul a.snd.snd b.fst) a_4->∀(a_5:Nat),FRes f64 (f64.format.mul a.fst b.snd.snd) a_5->∀
 (a_6:Nat),FRes f64 (f64.format.sub a_4 a_5) a_6->∀(a_7:Nat),FRes f64 (f64.format.mul a.fst b.snd.fst) a_7->∀(a_8:
 Nat),FRes f64 (f64.format.mul a.snd.fst b.fst) a_8->∀(a:Nat),FRes f64 (f64.format.sub a_7 a_8) a->∃(h:True),post
 (((Z6v a_3 a_6 a).fst.fst,(Z6v a_3 a_6 a).fst.snd.fst,(Z6v a_3 a_6 a).fst.snd.snd),())
theorem Z1hh(a:Nat × Nat × Nat)(b:Nat × Nat × Nat):Zvf  a b (λr=>r=Zu2 a b):=by
 intro x1 h1 x2 h2 x3 h3 x4 h4 x5 h5 x6 h6 x7 h7 x8 h8 x9 h9;exact⟨trivial,congrArg r1 (Zi9 (Z16t (fmul h1).1 (fmul h2).1 (fsub h3).1) (Z16t (fmul h4).1 (fmul h5).1 (fsub h6).1) (Z16t (fmul h7).1 (fmul h8).1 (fsub h9).1))⟩
def Zvg:=λ(a:Nat)(post:Nat × Unit->Prop)=>∃(h:True),∀(a_1:Nat × Unit),Zjv a a_1->post (a_1.fst,())
theorem Z1hi(a:Nat):Zvg  a (λr=>Zjv a r):=by
 exact⟨trivial,λx hx=>hx⟩
def Zr6:=λ(a:Nat × Nat × Nat)(post:Nat × Unit->Prop)=>∀(a_1:Nat),FRes f64 (f64.format.mul a.fst a.fst) a_1->∀(a_2:Nat),FRes
 f64 (f64.format.mul a.snd.fst a.snd.fst) a_2->∀(a_3:Nat),FRes f64 (f64.format.mul a.snd.snd a.snd.snd) a_3->∃(h:W3 a_1
 a_2 a_3),∃(h:True),∀(a:Nat × Unit),Zjv (Z12a a_1 a_2 a_3).fst a->∃(h:True),post ((Zt a.fst).fst,())
theorem Z1ct(a:Nat × Nat × Nat)(h:WV a):Zr6  a (λr=>r=Z6w a):=by
 intro x hx y hy z hz;exact⟨⟨(fmul hx).2,(fmul hy).2,(fmul hz).2⟩,trivial,λw hw=>⟨trivial,congrArg r1 (length_eq (fmul hx).1 (fmul hy).1 (fmul hz).1 hw.1)⟩⟩
def Z14r:=λ(a b:Nat × Nat × Nat)(post:Nat × Unit->Prop)=>∃(h:WV2 (a.fst,a.snd.fst,a.snd.snd) (b.fst,b.snd.fst,b.snd.snd)),∃(h:WV (Z9w (a.fst,
 a.snd.fst,a.snd.snd) (b.fst,b.snd.fst,b.snd.snd)).fst),post ((Z6w (Z9w (a.fst,a.snd.fst,a.snd.snd) (b.fst,b.snd.fst,b.snd.snd)).fst).fst,())
theorem Z1na(a:Nat × Nat × Nat)(b:Nat × Nat × Nat)(h:WV2 a b):Z14r  a b (λr=>r=gapR a b):=by
 exact⟨h,Z1s5 _ _,rfl⟩
def Zz1:=λ(a:Nat × Nat × Nat)(post:(Nat × Nat × Nat) × Unit->Prop)=>∃(h:WV (a.fst,a.snd.fst,a.snd.snd)),∀(a_1:Bool),a_1=fcmp Go.BinOp.gtr
 (f64.format.order (Z6w (a.fst,a.snd.fst,a.snd.snd)).fst 0)->Br (!a_1) (post ((0,0,0),())) (∃(h:WI (Z6w (a.fst,
 a.snd.fst,a.snd.snd)).fst 1),∀(a_2:Bool),a_2=(Z129 (Z6w (a.fst,a.snd.fst,a.snd.snd)).fst 1).fst->Br a_2 (post ((0,0,0),
 ())) (∀(a_3:Nat),FRes f64 (f64.format.div a.fst (Z6w (a.fst,a.snd.fst,a.snd.snd)).fst) a_3->∀(a_4:Nat),FRes f64
 (f64.format.div a.snd.fst (Z6w (a.fst,a.snd.fst,a.snd.snd)).fst) a_4->∀(a_5:Nat),FRes f64 (f64.format.div a.snd.snd (Z6w
 (a.fst,a.snd.fst,a.snd.snd)).fst) a_5->∃(h:True),post (((Z6v a_3 a_4 a_5).fst.fst,(Z6v a_3 a_4 a_5).fst.snd.fst,(Z6v a_3 a_4 a_5).fst.snd.snd),())))
theorem Z1ja(a:Nat × Nat × Nat)(h:WV a):Zz1  a (λr=>r=Z12c a):=by
 refine⟨h,?_⟩;have hs:=Zya a;have hg:=Z1ue hs;rintro _ rfl;refine Br.intro (λe=>?_) λe=>⟨Z19w a,?_⟩
 ·have e:(!fcmp .gtr (Ieee.double.order (Z1r a) 0))=true:=e;rw[hg]at e;refine(congrArg r1 (Z19x ?_)).symm;rw[Z16u];rintro⟨h1,h2⟩;have:isN (Z1r a)=false:=by unfold isN; simp; omega
  rw[this]at e;simp[h1]at e
 ·have e:(!fcmp .gtr (Ieee.double.order (Z1r a) 0))=false:=e;rw[hg]at e;have e:isN (Z1r a)=false/\Z1 (Z1r a)≠0:=by simpa using e
  have hi:infS (Z1r a) 1=decide (Z1 (Z1r a)=infR):=by unfold infS; rw[if_neg (by decide),if_neg (by decide),hs]; simp
  rintro _ rfl;refine Br.intro (λf=>?_) λf=>?_
  ·have f:infS (Z1r a) 1=true:=f;rw[hi]at f;have f:=of_decide_eq_true f;exact(congrArg r1 (Z19x (by rw[Z16u]; rintro⟨h1,h2⟩; omega))).symm
  ·have f:infS (Z1r a) 1=false:=f;rw[hi]at f;have f:=of_decide_eq_false f;have g:Z1 (Z1r a)<=infR:=by have:=e.1; unfold isN at this; simpa using this
   intro x hx y hy z hz;exact⟨trivial,congrArg r1 (Z1p5 ((Z16u _).2 ⟨e.2,by omega⟩) (fdiv hx).1 (fdiv hy).1 (fdiv hz).1)⟩
end Go.Lift
