/- tarnlaw19.RiverDowns: at every input it returns true and leaves the arguments as they were; cube.frames and geom.frames read as the program's text lays them. -/
import Derived.Test.YtplhligfkbgllaaGreatDoorTie
import Derived.Test.YtplhligfkbgllaaGreatDoorCards
import Derived.Test.YtplhligfkbgllaaGreatDoorPtE
set_option linter.unusedVariables false
set_option linter.unusedSimpArgs false
set_option linter.unusedSectionVars false
open Go.IntKind (i64 u64 u32 u8)
open Go.FloatKind (f64 f32)
namespace Go.Lift
def Z7y:=fun (a:Int × Int × Int) (k:Int) (b:Int × Int × Int) (post:(Int × Int × Int) × Unit→Prop)=>post ((i64.wrap (a.fst+i64.wrap (k *
 b.fst)),i64.wrap (a.snd.fst+i64.wrap (k*b.snd.fst)),i64.wrap (a.snd.snd+i64.wrap (k*b.snd.snd))),())
theorem Z168 (a:Int × Int × Int) (k:Int) (b:Int × Int × Int) (h:Z2i a k b):Z7y  a k b (fun r=>r=Z2n a k b):=by
 obtain ⟨⟨⟨a1,a2⟩,⟨a3,a4⟩,a5,a6⟩,k1,k2,⟨b1,b2⟩,⟨b3,b4⟩,b5,b6⟩:=h
 have e1:=Z2f k1 k2 b1 b2
 have e2:=Z2f k1 k2 b3 b4
 have e3:=Z2f k1 k2 b5 b6
 unfold Z7y
 rw [wi (x:=k*b.1) ⟨by omega,by omega⟩,wi (x:=k*b.2.1) ⟨by omega,by omega⟩,wi (x:=k*b.2.2) ⟨by omega,by omega⟩,wi (x:=a.1+k*b.1) ⟨by omega,by omega⟩,wi (x:=a.2.1+k*b.2.1) ⟨by omega,by omega⟩,wi (x:=a.2.2+k*b.2.2) ⟨by omega,by omega⟩]
 rfl
def Z9s:=fun (a b:Int × Int × Int) (post:Int × Unit→Prop)=>post (i64.wrap (i64.wrap (i64.wrap (a.fst*b.fst)+i64.wrap
 (a.snd.fst*b.snd.fst))+i64.wrap (a.snd.snd*b.snd.snd)),())
theorem Z197 (a:Int × Int × Int) (b:Int × Int × Int) (h:Zy8 a b):Z9s  a b (fun r=>r=Zm5 a b):=by
 obtain ⟨⟨⟨a1,a2⟩,⟨a3,a4⟩,a5,a6⟩,⟨b1,b2⟩,⟨b3,b4⟩,b5,b6⟩:=h
 have e1:=Z2f a1 a2 b1 b2
 have e2:=Z2f a3 a4 b3 b4
 have e3:=Z2f a5 a6 b5 b6
 unfold Z9s
 rw [wi (x:=a.1*b.1) ⟨by omega,by omega⟩,wi (x:=a.2.1*b.2.1) ⟨by omega,by omega⟩,wi (x:=a.2.2*b.2.2) ⟨by omega,by omega⟩,wi (x:=a.1*b.1+a.2.1*b.2.1) ⟨by omega,by omega⟩,wi (x:=a.1*b.1+a.2.1*b.2.1+a.2.2*b.2.2) ⟨by omega,by omega⟩]
 rfl
def Zb9:=fun (f:Int) (post:(Int × Int × Int) × (Int × Int × Int) × (Int × Int × Int) × Unit→Prop)=>∀ (a:Bool),a=(f==(0:Int))→Br a (post (((1:Int),
 (0:Int),(0:Int)),((0:Int),(1:Int),(0:Int)),((0:Int),(0:Int),(1:Int)),())) (∀ (a:Bool),a=(f==(1:Int))→Br a (∃ (h:Z2i ((0:Int),(0:Int),
 (0:Int)) (-1:Int) ((1:Int),(0:Int),(0:Int))),∀ (a:(Int × Int × Int) × Unit),a=Z2n ((0:Int),(0:Int),(0:Int)) (-1:Int) ((1:Int),(0:Int),(0 :
 Int))→post (((0:Int),(1:Int),(0:Int)),(a.fst.fst,a.fst.snd.fst,a.fst.snd.snd),((0:Int),(0:Int),(1:Int)),())) (∀ (a:Bool),a=(f==(2:Int))→Br a (∃
 (h:Z2i ((0:Int),(0:Int),(0:Int)) (-1:Int) ((1:Int),(0:Int),(0:Int))),∀ (a:(Int × Int × Int) × Unit),a=Z2n ((0:Int),(0:Int),(0:Int)) (-1 :
 Int) ((1:Int),(0:Int),(0:Int))→∃ (h:Z2i ((0:Int),(0:Int),(0:Int)) (-1:Int) ((0:Int),(1:Int),(0:Int))),∀ (a_1:(Int × Int × Int) × Unit),a_1 =
 Z2n ((0:Int),(0:Int),(0:Int)) (-1:Int) ((0:Int),(1:Int),(0:Int))→post ((a.fst.fst,a.fst.snd.fst,a.fst.snd.snd),(a_1.fst.fst,a_1.fst.snd.fst,
 a_1.fst.snd.snd),((0:Int),(0:Int),(1:Int)),())) (∀ (a:Bool),a=(f==(3:Int))→Br a (∃ (h:Z2i ((0:Int),(0:Int),(0:Int)) (-1:Int) ((0:Int),(1 :
 Int),(0:Int))),∀ (a:(Int × Int × Int) × Unit),a=Z2n ((0:Int),(0:Int),(0:Int)) (-1:Int) ((0:Int),(1:Int),(0:Int))→post ((a.fst.fst,a.fst.snd.fst,
 a.fst.snd.snd),((1:Int),(0:Int),(0:Int)),((0:Int),(0:Int),(1:Int)),())) (∀ (a:Bool),a=(f==(4:Int))→Br a (∃ (h:Z2i ((0:Int),(0:Int),(0 :
 Int)) (-1:Int) ((1:Int),(0:Int),(0:Int))),∀ (a:(Int × Int × Int) × Unit),a=Z2n ((0:Int),(0:Int),(0:Int)) (-1:Int) ((1:Int),(0:Int),(0:Int)) →
 post (((0:Int),(0:Int),(1:Int)),((0:Int),(1:Int),(0:Int)),(a.fst.fst,a.fst.snd.fst,a.fst.snd.snd),())) (∃ (h:Z2i ((0:Int),(0:Int),(0:Int)) (-1 :
 Int) ((0:Int),(0:Int),(1:Int))),∀ (a:(Int × Int × Int) × Unit),a=Z2n ((0:Int),(0:Int),(0:Int)) (-1:Int) ((0:Int),(0:Int),(1:Int))→post
 ((a.fst.fst,a.fst.snd.fst,a.fst.snd.snd),((0:Int),(1:Int),(0:Int)),((1:Int),(0:Int),(0:Int)),()))))))
theorem Z133 (f:Int):Zb9  f (fun r=>r=Z4g f):=by
 have wp:∀ b:Pt,Bp 65536 b→Z2i ((0:Int),(0:Int),(0:Int)) (-1:Int) b:=fun b hb=>⟨Z6e.mono (by decide),by decide,by decide,hb⟩
 have w1:=wp ((1:Int),(0:Int),(0:Int)) (by unfold Bp; decide)
 have w2:=wp ((0:Int),(1:Int),(0:Int)) (by unfold Bp; decide)
 have w3:=wp ((0:Int),(0:Int),(1:Int)) (by unfold Bp; decide)
 rintro _ rfl
 refine Br.intro (fun e=>?_) fun e0=>?_
 ·rw [show f=0 from beq_iff_eq.1 e]; rfl
 rintro _ rfl
 refine Br.intro (fun e=>?_) fun e1=>?_
 ·rw [show f=1 from beq_iff_eq.1 e]
  refine ⟨w1,?_⟩
  rintro _ rfl
  rfl
 rintro _ rfl
 refine Br.intro (fun e=>?_) fun e2=>?_
 ·rw [show f=2 from beq_iff_eq.1 e]
  refine ⟨w1,?_⟩
  rintro _ rfl
  refine ⟨w2,?_⟩
  rintro _ rfl
  rfl
 rintro _ rfl
 refine Br.intro (fun e=>?_) fun e3=>?_
 ·rw [show f=3 from beq_iff_eq.1 e]
  refine ⟨w2,?_⟩
  rintro _ rfl
  rfl
 rintro _ rfl
 refine Br.intro (fun e=>?_) fun e4=>?_
 ·rw [show f=4 from beq_iff_eq.1 e]
  refine ⟨w1,?_⟩
  rintro _ rfl
  rfl
 refine ⟨w3,?_⟩
 rintro _ rfl
 have b:∀ k:Int,(f==k)=false→¬ f=k:=fun k e q=>by rw [q,beq_self_eq_true] at e; cases e
 have hf:Z0 f=((0,0,-1),(0,1,0),(1,0,0)):=by
  unfold Z0; rw [if_neg (b _ e0),if_neg (b _ e1),if_neg (b _ e2),if_neg (b _ e3),if_neg (b _ e4)]
 show _=((Z0 f).1,(Z0 f).2.1,(Z0 f).2.2,())
 rw [hf]; rfl
def Zdj:=fun (n f i j:Int) (post:Int × Unit→Prop)=>∃ (h:I64 n),∀ (a:Bool),a=((Z11 n).fst==(0:Int))→Br a (post ((-1:Int),())) (∀ (a:Bool),a
 = decide (f<(0:Int))→Br a (post ((-1:Int),())) (∀ (a:Bool),a=decide (f > (5:Int))→Br a (post ((-1:Int),())) (∀ (a:Bool),a=decide (i<(0:Int))→Br a
 (post ((-1:Int),())) (∀ (a:Bool),a=decide (i≥n)→Br a (post ((-1:Int),())) (∀ (a:Bool),a=decide (j<(0:Int))→Br a (post ((-1:Int),())) (∀ (a:Bool),a
 = decide (j≥n)→Br a (post ((-1:Int),())) (post (i64.wrap (i64.wrap (i64.wrap (i64.wrap (f*n)+j)*n)+i),()))))))))
theorem Z169 (n:Int) (f:Int) (i:Int) (j:Int) (h:IIII n f i j):Zdj  n f i j (fun r=>r=Z95 n f i j):=by
 obtain ⟨hn,hf,hi,hj⟩:=h
 have no:Z1v n f i j=false→((-1:Int),())=Z95 n f i j:=fun q=>congrArg r1 (by unfold Zr; rw [if_neg (by rw [q]; decide)])
 refine ⟨hn,?_⟩
 rintro _ rfl
 refine Br.intro (fun e=>no ?_) fun e=>?_
 ·have e:Zb n=0:=beq_iff_eq.1 e
  cases g:Z1b n with
  | false=>unfold Z1v; rw [g]; rfl
  | true =>
   rw [Z94 g] at e
   obtain ⟨n1,n2⟩:=Z1r.1 g
   have:=Zhf n1 n2
   omega
 have g:Z1b n=true:=by
  cases g:Z1b n with
  | true=>rfl
  | false =>
   have:(Z11 n).fst=0:=Z69 g
   rw [this] at e; cases e
 rintro _ rfl
 refine Br.intro (fun q=>no ?_) fun q=>?_
 ·unfold Z1v; rw [decide_eq_false (p:=0≤f) (by have:=of_decide_eq_true q; omega)]; simp
 have q1:=of_decide_eq_false q
 rintro _ rfl
 refine Br.intro (fun q=>no ?_) fun q=>?_
 ·unfold Z1v; rw [decide_eq_false (p:=f<6) (by have:=of_decide_eq_true q; omega)]; simp
 have q2:=of_decide_eq_false q
 rintro _ rfl
 refine Br.intro (fun q=>no ?_) fun q=>?_
 ·unfold Z1v; rw [decide_eq_false (p:=0≤i) (by have:=of_decide_eq_true q; omega)]; simp
 have q3:=of_decide_eq_false q
 rintro _ rfl
 refine Br.intro (fun q=>no ?_) fun q=>?_
 ·unfold Z1v; rw [decide_eq_false (p:=i<n) (by have:=of_decide_eq_true q; omega)]; simp
 have q4:=of_decide_eq_false q
 rintro _ rfl
 refine Br.intro (fun q=>no ?_) fun q=>?_
 ·unfold Z1v; rw [decide_eq_false (p:=0≤j) (by have:=of_decide_eq_true q; omega)]; simp
 have q5:=of_decide_eq_false q
 rintro _ rfl
 refine Br.intro (fun q=>no ?_) fun q=>?_
 ·unfold Z1v; rw [decide_eq_false (p:=j<n) (by have:=of_decide_eq_true q; omega)]; simp
 have q6:=of_decide_eq_false q
 have hok:Z1v n f i j=true:=by
  unfold Z1v
  rw [g,decide_eq_true (p:=0≤f) (by omega),decide_eq_true (p:=f<6) (by omega),decide_eq_true (p:=0≤i) (by omega),decide_eq_true (p:=i<n) (by omega),decide_eq_true (p:=0≤j) (by omega),decide_eq_true (p:=j<n) (by omega)]; rfl
 obtain ⟨r0,r1',n1,n2⟩:=Zal hok
 have hv:Zr n f i j=(f*n+j)*n+i:=by unfold Zr; rw [if_pos hok]
 rw [hv] at r0 r1'
 have sq:=Zhf n1 n2
 have b1:0≤f*n:=Int.mul_nonneg (by omega) (by omega)
 have b2:f*n≤5*n:=Int.mul_le_mul_of_nonneg_right (by omega) (by omega)
 have b3:0≤(f*n+j)*n:=Int.mul_nonneg (by omega) (by omega)
 rw [wi (x:=f*n) ⟨by omega,by omega⟩,wi (x:=f*n+j) ⟨by omega,by omega⟩,wi (x:=(f*n+j)*n) ⟨by omega,by omega⟩,wi (x:=(f*n+j)*n+i) ⟨by omega,by omega⟩]
 exact congrArg r1 hv.symm
def Z61:=fun (n c:Int) (post:(Int × Int × Int) × Unit→Prop)=>∃ (h:II n c),∃ (h:True),∀ (a:(Int × Int × Int) × (Int × Int × Int) × (Int × Int × Int) ×
 Unit),a=Z4g (Z2 n c).fst→∃ (h:Z2i ((0:Int),(0:Int),(0:Int)) n (a.fst.fst,a.fst.snd.fst,a.fst.snd.snd)),∀ (a_1:(Int × Int × Int) × Unit),a_1 =
 Z2n ((0:Int),(0:Int),(0:Int)) n (a.fst.fst,a.fst.snd.fst,a.fst.snd.snd)→∃ (h:Z2i a_1.fst (i64.wrap (i64.wrap (i64.wrap ((2:Int) *
 (Z2 n c).snd.fst)+(1:Int)) - n)) (a.snd.fst.fst,a.snd.fst.snd.fst,a.snd.fst.snd.snd)),∀ (a_2:(Int × Int × Int) × Unit),a_2=Z2n a_1.fst (i64.wrap
 (i64.wrap (i64.wrap ((2:Int)*(Z2 n c).snd.fst)+(1:Int)) - n)) (a.snd.fst.fst,a.snd.fst.snd.fst,a.snd.fst.snd.snd)→∃ (h:Z2i a_2.fst
 (i64.wrap (i64.wrap (i64.wrap ((2:Int)*(Z2 n c).snd.snd.fst)+(1:Int)) - n)) (a.snd.snd.fst.fst,a.snd.snd.fst.snd.fst,
 a.snd.snd.fst.snd.snd)),∀ (a_3:(Int × Int × Int) × Unit),a_3=Z2n a_2.fst (i64.wrap (i64.wrap (i64.wrap ((2:Int)*(Z2 n c).snd.snd.fst) +
 (1:Int)) - n)) (a.snd.snd.fst.fst,a.snd.snd.fst.snd.fst,a.snd.snd.fst.snd.snd)→post ((a_3.fst.fst,a_3.fst.snd.fst,a_3.fst.snd.snd),())
theorem Z101 (n:Int) (c:Int) (h:Z18g n c):Z61  n c (fun r=>r=Z16u n c):=by
 have hm:=Z3f h
 obtain ⟨g1,g2,g3,g4,g5,g6⟩:=Z41 h
 unfold Z61
 rw [Zm2 h]
 obtain ⟨n1,n2,f0,f5,i0,i1,j0,j1⟩:=hm
 dsimp only
 have w1:i64.wrap (i64.wrap (i64.wrap (2*(c % n))+1) - n)=2*(c % n)+1 - n:=by
  rw [wi (x:=2*(c % n)) ⟨by omega,by omega⟩,wi (x:=2*(c % n)+1) ⟨by omega,by omega⟩,wi ⟨by omega,by omega⟩]
 have w2:i64.wrap (i64.wrap (i64.wrap (2*(c / n % n))+1) - n)=2*(c / n % n)+1 - n:=by
  rw [wi (x:=2*(c / n % n)) ⟨by omega,by omega⟩,wi (x:=2*(c / n % n)+1) ⟨by omega,by omega⟩,wi ⟨by omega,by omega⟩]
 rw [w1,w2]
 obtain ⟨b1,b2,b3⟩:=Zcc (c / (n*n))
 have p1:=Z35 Z6e b1 (k:=n) (q:=32) (by omega) (by omega)
 have p2:=Z35 p1 b2 (k:=2*(c % n)+1 - n) (q:=32) (by omega) (by omega)
 refine ⟨⟨⟨by omega,by omega⟩,by omega,by omega⟩,trivial,?_⟩
 rintro _ rfl
 refine ⟨⟨Z6e.mono (by decide),by omega,by omega,b1.mono (by decide)⟩,?_⟩
 rintro _ rfl
 refine ⟨⟨p1.mono (by decide),by omega,by omega,b2.mono (by decide)⟩,?_⟩
 rintro _ rfl
 refine ⟨⟨p2.mono (by decide),by omega,by omega,b3.mono (by decide)⟩,?_⟩
 rintro _ rfl
 rfl
def Z9t:=fun (n c o:Int) (post:(Int × Int × Int) × Unit→Prop)=>∃ (h:II n c),∃ (h:True),∀ (a:(Int × Int × Int) × (Int × Int × Int) × (Int × Int × Int) ×
 Unit),a=Z4g (Z2 n c).fst→∀ (a_1:Bool),a_1=(o==(0:Int))→Br a_1 (post ((a.snd.fst.fst,a.snd.fst.snd.fst,a.snd.fst.snd.snd),())) (∀ (a_2:Bool),a_2=(o
 == (1:Int))→Br a_2 (post ((a.snd.snd.fst.fst,a.snd.snd.fst.snd.fst,a.snd.snd.fst.snd.snd),())) (∀ (a_3:Bool),a_3=(o==(2:Int))→Br a_3 (∃ (h:Z2i ((0:Int),
 (0:Int),(0:Int)) (-1:Int) (a.snd.fst.fst,a.snd.fst.snd.fst,a.snd.fst.snd.snd)),∀ (a_4:(Int × Int × Int) × Unit),a_4=Z2n ((0:Int),(0:Int),(0:Int)) (-1 :
 Int) (a.snd.fst.fst,a.snd.fst.snd.fst,a.snd.fst.snd.snd)→post ((a_4.fst.fst,a_4.fst.snd.fst,a_4.fst.snd.snd),())) (∃ (h:Z2i ((0:Int),(0:Int),(0:Int)) (-1 :
 Int) (a.snd.snd.fst.fst,a.snd.snd.fst.snd.fst,a.snd.snd.fst.snd.snd)),∀ (a_4:(Int × Int × Int) × Unit),a_4=Z2n ((0:Int),(0:Int),(0:Int)) (-1:Int)
 (a.snd.snd.fst.fst,a.snd.snd.fst.snd.fst,a.snd.snd.fst.snd.snd)→post ((a_4.fst.fst,a_4.fst.snd.fst,a_4.fst.snd.snd),()))))
theorem Z198 (n:Int) (c:Int) (o:Int) (h:Z11f n c o):Z9t  n c o (fun r=>r=Z16v n c o):=by
 have hm:=Z3f h
 obtain ⟨g1,g2,g3,g4,g5,g6⟩:=Z41 h
 unfold Z9t
 have h':Zh n c=true:=h
 rw [Zm2 h']
 dsimp only
 obtain ⟨b1,b2,b3⟩:=Zcc (c / (n*n))
 refine ⟨⟨⟨by omega,by omega⟩,by omega,by omega⟩,trivial,?_⟩
 rintro _ rfl
 have b:∀ k:Int,(o==k)=false→¬ o=k:=fun k e q=>by rw [q,beq_self_eq_true] at e; cases e
 rintro _ rfl
 refine Br.intro (fun e=>?_) fun e0=>?_
 ·rw [show o=0 from beq_iff_eq.1 e]; rfl
 rintro _ rfl
 refine Br.intro (fun e=>?_) fun e1=>?_
 ·rw [show o=1 from beq_iff_eq.1 e]; rfl
 rintro _ rfl
 refine Br.intro (fun e=>?_) fun e2=>?_
 ·refine ⟨⟨Z6e.mono (by decide),by decide,by decide,b2.mono (by decide)⟩,?_⟩
  rintro _ rfl
  rw [show o=2 from beq_iff_eq.1 e]; rfl
 refine ⟨⟨Z6e.mono (by decide),by decide,by decide,b3.mono (by decide)⟩,?_⟩
 rintro _ rfl
 show _=(dirP (c / (n*n)) o,())
 unfold dirP
 rw [if_neg (b _ e0),if_neg (b _ e1),if_neg (b _ e2)]; rfl
def Z9u:=fun (ty138:Nat) (n c o:Int) (post:Int × Int × Unit→Prop)=>∀ (a:Bool),a=decide (c<(0:Int))→Br a (post ((-1:Int),(0:Int),())) (∃ (h :
 I64 n),∀ (a:Bool),a=decide (c≥(Z11 n).fst)→Br a (post ((-1:Int),(0:Int),())) (∀ (a:Bool),a=decide (o<(0:Int))→Br a (post ((-1:Int),(0:Int),()))
 (∀ (a:Bool),a=decide (o > (3:Int))→Br a (post ((-1:Int),(0:Int),())) (∃ (h:Z18g n c),∀ (a:(Int × Int × Int) × Unit),a=Z16u n c→∃ (h:Z11f n c o),∀
 (a_1:(Int × Int × Int) × Unit),a_1=Z16v n c o→∃ (h:Z2i a.fst (1:Int) a_1.fst),∀ (a_2:(Int × Int × Int) × Unit),a_2=Z2n a.fst (1:Int) a_1.fst→HIs
 [HObj.box Md.rw ty138 [SV.val (Go.Value.int i64 a_2.fst.fst),SV.val (Go.Value.int i64 a_2.fst.snd.fst),SV.val (Go.Value.int i64 a_2.fst.snd.snd)]]
 [HObj.box Md.rw ty138 [SV.val (Go.Value.int i64 a_2.fst.fst),SV.val (Go.Value.int i64 a_2.fst.snd.fst),SV.val (Go.Value.int i64 a_2.fst.snd.snd)]]∧∃ (I
 : Int × Unit→Unit→Prop),∃ (μ:Int × Unit→Unit→Nat),I ((0:Int),()) ()∧∀ (x:Int × Unit) (y:Unit),I x y→∀ (a:Bool),a=decide (x.fst<(6:Int))→Br a (∃
 (h:True),∀ (a:(Int × Int × Int) × (Int × Int × Int) × (Int × Int × Int) × Unit),a=Z4g x.fst→∃ (h:Zy8 (a_2.fst.fst,a_2.fst.snd.fst,a_2.fst.snd.snd) (a.fst.fst,
 a.fst.snd.fst,a.fst.snd.snd)),∀ (a_3:Int × Unit),a_3=Zm5 (a_2.fst.fst,a_2.fst.snd.fst,a_2.fst.snd.snd) (a.fst.fst,a.fst.snd.fst,a.fst.snd.snd)→∀ (a_4:Bool),a_4 =
 (a_3.fst != n)→Br a_4 (HIs [HObj.box Md.rw ty138 [SV.val (Go.Value.int i64 a_2.fst.fst),SV.val (Go.Value.int i64 a_2.fst.snd.fst),SV.val (Go.Value.int
 i64 a_2.fst.snd.snd)]] [HObj.box Md.rw ty138 [SV.val (Go.Value.int i64 a_2.fst.fst),SV.val (Go.Value.int i64 a_2.fst.snd.fst),SV.val (Go.Value.int
 i64 a_2.fst.snd.snd)]]∧I (i64.wrap (x.fst+(1:Int)),()) ()∧μ (i64.wrap (x.fst+(1:Int)),()) ()<μ x y) (HIs [HObj.box Md.rw ty138 [SV.val
 (Go.Value.int i64 a_2.fst.fst),SV.val (Go.Value.int i64 a_2.fst.snd.fst),SV.val (Go.Value.int i64 a_2.fst.snd.snd)],HObj.box Md.rw ty138 [SV.val
 (Go.Value.int i64 a.fst.fst),SV.val (Go.Value.int i64 a.fst.snd.fst),SV.val (Go.Value.int i64 a.fst.snd.snd)],HObj.box Md.rw ty138 [SV.val (Go.Value.int
 i64 a.snd.fst.fst),SV.val (Go.Value.int i64 a.snd.fst.snd.fst),SV.val (Go.Value.int i64 a.snd.fst.snd.snd)],HObj.box Md.rw ty138 [SV.val (Go.Value.int
 i64 a.snd.snd.fst.fst),SV.val (Go.Value.int i64 a.snd.snd.fst.snd.fst),SV.val (Go.Value.int i64 a.snd.snd.fst.snd.snd)]] [HObj.box Md.rw ty138 [SV.val
 (Go.Value.int i64 a_2.fst.fst),SV.val (Go.Value.int i64 a_2.fst.snd.fst),SV.val (Go.Value.int i64 a_2.fst.snd.snd)],HObj.box Md.rw ty138 [SV.val
 (Go.Value.int i64 a.fst.fst),SV.val (Go.Value.int i64 a.fst.snd.fst),SV.val (Go.Value.int i64 a.fst.snd.snd)],HObj.box Md.rw ty138 [SV.val (Go.Value.int
 i64 a.snd.fst.fst),SV.val (Go.Value.int i64 a.snd.fst.snd.fst),SV.val (Go.Value.int i64 a.snd.fst.snd.snd)],HObj.box Md.rw ty138 [SV.val (Go.Value.int
 i64 a.snd.snd.fst.fst),SV.val (Go.Value.int i64 a.snd.snd.fst.snd.fst),SV.val (Go.Value.int i64 a.snd.snd.fst.snd.snd)]]∧∃ (I_1:Int × Unit→Unit →
 Prop),∃ (μ_1:Int × Unit→Unit→Nat),I_1 ((0:Int),()) ()∧∀ (x_6:Int × Unit) (y_1:Unit),I_1 x_6 y_1→∀ (a_5:Bool),a_5=decide (x_6.fst<(4:Int))→Br a_5 (∃
 (h:Z2i (a_2.fst.fst,a_2.fst.snd.fst,a_2.fst.snd.snd) (-1:Int) (a.snd.fst.fst,a.snd.fst.snd.fst,a.snd.fst.snd.snd)),∀ (a_6:(Int × Int × Int) × Unit),a_6=Z2n
 (a_2.fst.fst,a_2.fst.snd.fst,a_2.fst.snd.snd) (-1:Int) (a.snd.fst.fst,a.snd.fst.snd.fst,a.snd.fst.snd.snd)→∃ (post_1:Int × Int × Int × Unit→Unit→Prop),(∀ (a_7 :
 Bool),a_7=(x_6.fst==(1:Int))→Br a_7 (∃ (h:Z2i (a_2.fst.fst,a_2.fst.snd.fst,a_2.fst.snd.snd) (-1:Int) (a.snd.snd.fst.fst,a.snd.snd.fst.snd.fst,
 a.snd.snd.fst.snd.snd)),∀ (a_8:(Int × Int × Int) × Unit),a_8=Z2n (a_2.fst.fst,a_2.fst.snd.fst,a_2.fst.snd.snd) (-1:Int) (a.snd.snd.fst.fst,a.snd.snd.fst.snd.fst,
 a.snd.snd.fst.snd.snd)→HIs [HObj.box Md.rw ty138 [SV.val (Go.Value.int i64 a_2.fst.fst),SV.val (Go.Value.int i64 a_2.fst.snd.fst),SV.val (Go.Value.int
 i64 a_2.fst.snd.snd)],HObj.box Md.rw ty138 [SV.val (Go.Value.int i64 a.fst.fst),SV.val (Go.Value.int i64 a.fst.snd.fst),SV.val (Go.Value.int i64
 a.fst.snd.snd)],HObj.box Md.rw ty138 [SV.val (Go.Value.int i64 a.snd.fst.fst),SV.val (Go.Value.int i64 a.snd.fst.snd.fst),SV.val (Go.Value.int i64
 a.snd.fst.snd.snd)],HObj.box Md.rw ty138 [SV.val (Go.Value.int i64 a.snd.snd.fst.fst),SV.val (Go.Value.int i64 a.snd.snd.fst.snd.fst),SV.val (Go.Value.int
 i64 a.snd.snd.fst.snd.snd)],HObj.box Md.rw ty138 [SV.junk,SV.junk,SV.junk]] [HObj.box Md.rw ty138 [SV.val (Go.Value.int i64 a_2.fst.fst),SV.val (Go.Value.int
 i64 a_2.fst.snd.fst),SV.val (Go.Value.int i64 a_2.fst.snd.snd)],HObj.box Md.rw ty138 [SV.val (Go.Value.int i64 a.fst.fst),SV.val (Go.Value.int
 i64 a.fst.snd.fst),SV.val (Go.Value.int i64 a.fst.snd.snd)],HObj.box Md.rw ty138 [SV.val (Go.Value.int i64 a.snd.fst.fst),SV.val (Go.Value.int
 i64 a.snd.fst.snd.fst),SV.val (Go.Value.int i64 a.snd.fst.snd.snd)],HObj.box Md.rw ty138 [SV.val (Go.Value.int i64 a.snd.snd.fst.fst),SV.val
 (Go.Value.int i64 a.snd.snd.fst.snd.fst),SV.val (Go.Value.int i64 a.snd.snd.fst.snd.snd)],HObj.box Md.rw ty138 [SV.junk,SV.junk,SV.junk]]∧post_1
 (a_8.fst.fst,a_8.fst.snd.fst,a_8.fst.snd.snd,()) ()) (HIs [HObj.box Md.rw ty138 [SV.val (Go.Value.int i64 a_2.fst.fst),SV.val (Go.Value.int i64
 a_2.fst.snd.fst),SV.val (Go.Value.int i64 a_2.fst.snd.snd)],HObj.box Md.rw ty138 [SV.val (Go.Value.int i64 a.fst.fst),SV.val (Go.Value.int i64
 a.fst.snd.fst),SV.val (Go.Value.int i64 a.fst.snd.snd)],HObj.box Md.rw ty138 [SV.val (Go.Value.int i64 a.snd.fst.fst),SV.val (Go.Value.int i64
 a.snd.fst.snd.fst),SV.val (Go.Value.int i64 a.snd.fst.snd.snd)],HObj.box Md.rw ty138 [SV.val (Go.Value.int i64 a.snd.snd.fst.fst),SV.val (Go.Value.int
 i64 a.snd.snd.fst.snd.fst),SV.val (Go.Value.int i64 a.snd.snd.fst.snd.snd)],HObj.box Md.rw ty138 [SV.junk,SV.junk,SV.junk]] [HObj.box Md.rw ty138 [SV.val
 (Go.Value.int i64 a_2.fst.fst),SV.val (Go.Value.int i64 a_2.fst.snd.fst),SV.val (Go.Value.int i64 a_2.fst.snd.snd)],HObj.box Md.rw ty138 [SV.val
 (Go.Value.int i64 a.fst.fst),SV.val (Go.Value.int i64 a.fst.snd.fst),SV.val (Go.Value.int i64 a.fst.snd.snd)],HObj.box Md.rw ty138 [SV.val (Go.Value.int
 i64 a.snd.fst.fst),SV.val (Go.Value.int i64 a.snd.fst.snd.fst),SV.val (Go.Value.int i64 a.snd.fst.snd.snd)],HObj.box Md.rw ty138 [SV.val (Go.Value.int
 i64 a.snd.snd.fst.fst),SV.val (Go.Value.int i64 a.snd.snd.fst.snd.fst),SV.val (Go.Value.int i64 a.snd.snd.fst.snd.snd)],HObj.box Md.rw ty138 [SV.junk,
 SV.junk,SV.junk]]∧post_1 (a_6.fst.fst,a_6.fst.snd.fst,a_6.fst.snd.snd,()) ()))∧∀ (x_10:Int × Int × Int × Unit) (y:Unit),post_1 x_10 y→∃ (post_2:Int × Int × Int ×
 Unit→Unit→Prop),(∀ (a_7:Bool),a_7=(x_6.fst==(2:Int))→Br a_7 (∃ (h:Z2i (a_2.fst.fst,a_2.fst.snd.fst,a_2.fst.snd.snd) (1:Int) (a.snd.fst.fst,
 a.snd.fst.snd.fst,a.snd.fst.snd.snd)),∀ (a_8:(Int × Int × Int) × Unit),a_8=Z2n (a_2.fst.fst,a_2.fst.snd.fst,a_2.fst.snd.snd) (1:Int) (a.snd.fst.fst,
 a.snd.fst.snd.fst,a.snd.fst.snd.snd)→HIs [HObj.box Md.rw ty138 [SV.val (Go.Value.int i64 a_2.fst.fst),SV.val (Go.Value.int i64 a_2.fst.snd.fst),SV.val
 (Go.Value.int i64 a_2.fst.snd.snd)],HObj.box Md.rw ty138 [SV.val (Go.Value.int i64 a.fst.fst),SV.val (Go.Value.int i64 a.fst.snd.fst),SV.val
 (Go.Value.int i64 a.fst.snd.snd)],HObj.box Md.rw ty138 [SV.val (Go.Value.int i64 a.snd.fst.fst),SV.val (Go.Value.int i64 a.snd.fst.snd.fst),SV.val
 (Go.Value.int i64 a.snd.fst.snd.snd)],HObj.box Md.rw ty138 [SV.val (Go.Value.int i64 a.snd.snd.fst.fst),SV.val (Go.Value.int i64 a.snd.snd.fst.snd.fst),
 SV.val (Go.Value.int i64 a.snd.snd.fst.snd.snd)],HObj.box Md.rw ty138 [SV.junk,SV.junk,SV.junk]] [HObj.box Md.rw ty138 [SV.val (Go.Value.int i64 a_2.fst.fst),
 SV.val (Go.Value.int i64 a_2.fst.snd.fst),SV.val (Go.Value.int i64 a_2.fst.snd.snd)],HObj.box Md.rw ty138 [SV.val (Go.Value.int i64 a.fst.fst),SV.val
 (Go.Value.int i64 a.fst.snd.fst),SV.val (Go.Value.int i64 a.fst.snd.snd)],HObj.box Md.rw ty138 [SV.val (Go.Value.int i64 a.snd.fst.fst),SV.val
 (Go.Value.int i64 a.snd.fst.snd.fst),SV.val (Go.Value.int i64 a.snd.fst.snd.snd)],HObj.box Md.rw ty138 [SV.val (Go.Value.int i64 a.snd.snd.fst.fst),
 SV.val (Go.Value.int i64 a.snd.snd.fst.snd.fst),SV.val (Go.Value.int i64 a.snd.snd.fst.snd.snd)],HObj.box Md.rw ty138 [SV.junk,SV.junk,SV.junk]]∧post_2
 (a_8.fst.fst,a_8.fst.snd.fst,a_8.fst.snd.snd,()) ()) (HIs [HObj.box Md.rw ty138 [SV.val (Go.Value.int i64 a_2.fst.fst),SV.val (Go.Value.int i64
 a_2.fst.snd.fst),SV.val (Go.Value.int i64 a_2.fst.snd.snd)],HObj.box Md.rw ty138 [SV.val (Go.Value.int i64 a.fst.fst),SV.val (Go.Value.int i64
 a.fst.snd.fst),SV.val (Go.Value.int i64 a.fst.snd.snd)],HObj.box Md.rw ty138 [SV.val (Go.Value.int i64 a.snd.fst.fst),SV.val (Go.Value.int i64
 a.snd.fst.snd.fst),SV.val (Go.Value.int i64 a.snd.fst.snd.snd)],HObj.box Md.rw ty138 [SV.val (Go.Value.int i64 a.snd.snd.fst.fst),SV.val (Go.Value.int
 i64 a.snd.snd.fst.snd.fst),SV.val (Go.Value.int i64 a.snd.snd.fst.snd.snd)],HObj.box Md.rw ty138 [SV.junk,SV.junk,SV.junk]] [HObj.box Md.rw ty138 [SV.val
 (Go.Value.int i64 a_2.fst.fst),SV.val (Go.Value.int i64 a_2.fst.snd.fst),SV.val (Go.Value.int i64 a_2.fst.snd.snd)],HObj.box Md.rw ty138 [SV.val
 (Go.Value.int i64 a.fst.fst),SV.val (Go.Value.int i64 a.fst.snd.fst),SV.val (Go.Value.int i64 a.fst.snd.snd)],HObj.box Md.rw ty138 [SV.val (Go.Value.int
 i64 a.snd.fst.fst),SV.val (Go.Value.int i64 a.snd.fst.snd.fst),SV.val (Go.Value.int i64 a.snd.fst.snd.snd)],HObj.box Md.rw ty138 [SV.val (Go.Value.int
 i64 a.snd.snd.fst.fst),SV.val (Go.Value.int i64 a.snd.snd.fst.snd.fst),SV.val (Go.Value.int i64 a.snd.snd.fst.snd.snd)],HObj.box Md.rw ty138 [SV.junk,
 SV.junk,SV.junk]]∧post_2 (x_10.fst,x_10.snd.fst,x_10.snd.snd.fst,()) ()))∧∀ (x_12:Int × Int × Int × Unit) (y:Unit),post_2 x_12 y→∃ (post_3:Int × Int × Int × Unit
 → Unit→Prop),(∀ (a_7:Bool),a_7=(x_6.fst==(3:Int))→Br a_7 (∃ (h:Z2i (a_2.fst.fst,a_2.fst.snd.fst,a_2.fst.snd.snd) (1:Int) (a.snd.snd.fst.fst,
 a.snd.snd.fst.snd.fst,a.snd.snd.fst.snd.snd)),∀ (a_8:(Int × Int × Int) × Unit),a_8=Z2n (a_2.fst.fst,a_2.fst.snd.fst,a_2.fst.snd.snd) (1:Int) (a.snd.snd.fst.fst,
 a.snd.snd.fst.snd.fst,a.snd.snd.fst.snd.snd)→HIs [HObj.box Md.rw (138:Nat) [SV.val (Go.Value.int i64 a_2.fst.fst),SV.val (Go.Value.int i64 a_2.fst.snd.fst),
 SV.val (Go.Value.int i64 a_2.fst.snd.snd)],HObj.box Md.rw (138:Nat) [SV.val (Go.Value.int i64 a.fst.fst),SV.val (Go.Value.int i64 a.fst.snd.fst),
 SV.val (Go.Value.int i64 a.fst.snd.snd)],HObj.box Md.rw (138:Nat) [SV.val (Go.Value.int i64 a.snd.fst.fst),SV.val (Go.Value.int i64 a.snd.fst.snd.fst),
 SV.val (Go.Value.int i64 a.snd.fst.snd.snd)],HObj.box Md.rw (138:Nat) [SV.val (Go.Value.int i64 a.snd.snd.fst.fst),SV.val (Go.Value.int i64
 a.snd.snd.fst.snd.fst),SV.val (Go.Value.int i64 a.snd.snd.fst.snd.snd)],HObj.box Md.rw (138:Nat) [SV.junk,SV.junk,SV.junk]] [HObj.box Md.rw (138:Nat) [SV.val
 (Go.Value.int i64 a_2.fst.fst),SV.val (Go.Value.int i64 a_2.fst.snd.fst),SV.val (Go.Value.int i64 a_2.fst.snd.snd)],HObj.box Md.rw (138:Nat) [SV.val
 (Go.Value.int i64 a.fst.fst),SV.val (Go.Value.int i64 a.fst.snd.fst),SV.val (Go.Value.int i64 a.fst.snd.snd)],HObj.box Md.rw (138:Nat) [SV.val
 (Go.Value.int i64 a.snd.fst.fst),SV.val (Go.Value.int i64 a.snd.fst.snd.fst),SV.val (Go.Value.int i64 a.snd.fst.snd.snd)],HObj.box Md.rw (138:Nat)
 [SV.val (Go.Value.int i64 a.snd.snd.fst.fst),SV.val (Go.Value.int i64 a.snd.snd.fst.snd.fst),SV.val (Go.Value.int i64 a.snd.snd.fst.snd.snd)],HObj.box
 Md.rw (138:Nat) [SV.junk,SV.junk,SV.junk]]∧post_3 (a_8.fst.fst,a_8.fst.snd.fst,a_8.fst.snd.snd,()) ()) (HIs [HObj.box Md.rw ty138 [SV.val (Go.Value.int i64
 a_2.fst.fst),SV.val (Go.Value.int i64 a_2.fst.snd.fst),SV.val (Go.Value.int i64 a_2.fst.snd.snd)],HObj.box Md.rw ty138 [SV.val (Go.Value.int i64
 a.fst.fst),SV.val (Go.Value.int i64 a.fst.snd.fst),SV.val (Go.Value.int i64 a.fst.snd.snd)],HObj.box Md.rw ty138 [SV.val (Go.Value.int i64
 a.snd.fst.fst),SV.val (Go.Value.int i64 a.snd.fst.snd.fst),SV.val (Go.Value.int i64 a.snd.fst.snd.snd)],HObj.box Md.rw ty138 [SV.val (Go.Value.int i64
 a.snd.snd.fst.fst),SV.val (Go.Value.int i64 a.snd.snd.fst.snd.fst),SV.val (Go.Value.int i64 a.snd.snd.fst.snd.snd)],HObj.box Md.rw ty138 [SV.junk,SV.junk,
 SV.junk]] [HObj.box Md.rw ty138 [SV.val (Go.Value.int i64 a_2.fst.fst),SV.val (Go.Value.int i64 a_2.fst.snd.fst),SV.val (Go.Value.int i64
 a_2.fst.snd.snd)],HObj.box Md.rw ty138 [SV.val (Go.Value.int i64 a.fst.fst),SV.val (Go.Value.int i64 a.fst.snd.fst),SV.val (Go.Value.int i64
 a.fst.snd.snd)],HObj.box Md.rw ty138 [SV.val (Go.Value.int i64 a.snd.fst.fst),SV.val (Go.Value.int i64 a.snd.fst.snd.fst),SV.val (Go.Value.int i64
 a.snd.fst.snd.snd)],HObj.box Md.rw ty138 [SV.val (Go.Value.int i64 a.snd.snd.fst.fst),SV.val (Go.Value.int i64 a.snd.snd.fst.snd.fst),SV.val (Go.Value.int
 i64 a.snd.snd.fst.snd.snd)],HObj.box Md.rw ty138 [SV.junk,SV.junk,SV.junk]]∧post_3 (x_12.fst,x_12.snd.fst,x_12.snd.snd.fst,()) ()))∧∀ (x_14:Int × Int × Int ×
 Unit) (y:Unit),post_3 x_14 y→∃ (h:Zy8 (x_14.fst,x_14.snd.fst,x_14.snd.snd.fst) (a.snd.fst.fst,a.snd.fst.snd.fst,a.snd.fst.snd.snd)),∀ (a_7:Int × Unit),a_7=Zm5
 (x_14.fst,x_14.snd.fst,x_14.snd.snd.fst) (a.snd.fst.fst,a.snd.fst.snd.fst,a.snd.fst.snd.snd)→∃ (h:Zy8 (x_14.fst,x_14.snd.fst,x_14.snd.snd.fst) (a.snd.snd.fst.fst,
 a.snd.snd.fst.snd.fst,a.snd.snd.fst.snd.snd)),∀ (a_8:Int × Unit),a_8=Zm5 (x_14.fst,x_14.snd.fst,x_14.snd.snd.fst) (a.snd.snd.fst.fst,a.snd.snd.fst.snd.fst,
 a.snd.snd.fst.snd.snd)→∃ (h:(2:Int)≠(0:Int)),∀ (a_9:Bool),a_9=((i64.wrap (i64.wrap (a_7.fst+n) - (1:Int))).tmod (2:Int) != (0:Int))→Br
 a_9 (HIs [HObj.box Md.rw (138:Nat) [SV.val (Go.Value.int i64 a_2.fst.fst),SV.val (Go.Value.int i64 a_2.fst.snd.fst),SV.val (Go.Value.int i64
 a_2.fst.snd.snd)],HObj.box Md.rw (138:Nat) [SV.val (Go.Value.int i64 a.fst.fst),SV.val (Go.Value.int i64 a.fst.snd.fst),SV.val (Go.Value.int i64
 a.fst.snd.snd)],HObj.box Md.rw (138:Nat) [SV.val (Go.Value.int i64 a.snd.fst.fst),SV.val (Go.Value.int i64 a.snd.fst.snd.fst),SV.val (Go.Value.int i64
 a.snd.fst.snd.snd)],HObj.box Md.rw (138:Nat) [SV.val (Go.Value.int i64 a.snd.snd.fst.fst),SV.val (Go.Value.int i64 a.snd.snd.fst.snd.fst),SV.val (Go.Value.int
 i64 a.snd.snd.fst.snd.snd)]] [HObj.box Md.rw (138:Nat) [SV.val (Go.Value.int i64 a_2.fst.fst),SV.val (Go.Value.int i64 a_2.fst.snd.fst),SV.val
 (Go.Value.int i64 a_2.fst.snd.snd)],HObj.box Md.rw (138:Nat) [SV.val (Go.Value.int i64 a.fst.fst),SV.val (Go.Value.int i64 a.fst.snd.fst),SV.val
 (Go.Value.int i64 a.fst.snd.snd)],HObj.box Md.rw (138:Nat) [SV.val (Go.Value.int i64 a.snd.fst.fst),SV.val (Go.Value.int i64 a.snd.fst.snd.fst),SV.val
 (Go.Value.int i64 a.snd.fst.snd.snd)],HObj.box Md.rw (138:Nat) [SV.val (Go.Value.int i64 a.snd.snd.fst.fst),SV.val (Go.Value.int i64
 a.snd.snd.fst.snd.fst),SV.val (Go.Value.int i64 a.snd.snd.fst.snd.snd)]]∧I_1 (i64.wrap (x_6.fst+(1:Int)),()) ()∧μ_1 (i64.wrap (x_6.fst+(1 :
 Int)),()) ()<μ_1 x_6 y_1) (∃ (h:(2:Int)≠(0:Int)),∀ (a_10:Bool),a_10=((i64.wrap (i64.wrap (a_8.fst+n) - (1:Int))).tmod (2:Int) != (0:Int))
 → Br a_10 (HIs [HObj.box Md.rw (138:Nat) [SV.val (Go.Value.int i64 a_2.fst.fst),SV.val (Go.Value.int i64 a_2.fst.snd.fst),SV.val (Go.Value.int i64
 a_2.fst.snd.snd)],HObj.box Md.rw (138:Nat) [SV.val (Go.Value.int i64 a.fst.fst),SV.val (Go.Value.int i64 a.fst.snd.fst),SV.val (Go.Value.int i64
 a.fst.snd.snd)],HObj.box Md.rw (138:Nat) [SV.val (Go.Value.int i64 a.snd.fst.fst),SV.val (Go.Value.int i64 a.snd.fst.snd.fst),SV.val (Go.Value.int i64
 a.snd.fst.snd.snd)],HObj.box Md.rw (138:Nat) [SV.val (Go.Value.int i64 a.snd.snd.fst.fst),SV.val (Go.Value.int i64 a.snd.snd.fst.snd.fst),SV.val (Go.Value.int
 i64 a.snd.snd.fst.snd.snd)]] [HObj.box Md.rw (138:Nat) [SV.val (Go.Value.int i64 a_2.fst.fst),SV.val (Go.Value.int i64 a_2.fst.snd.fst),SV.val
 (Go.Value.int i64 a_2.fst.snd.snd)],HObj.box Md.rw (138:Nat) [SV.val (Go.Value.int i64 a.fst.fst),SV.val (Go.Value.int i64 a.fst.snd.fst),SV.val
 (Go.Value.int i64 a.fst.snd.snd)],HObj.box Md.rw (138:Nat) [SV.val (Go.Value.int i64 a.snd.fst.fst),SV.val (Go.Value.int i64 a.snd.fst.snd.fst),SV.val
 (Go.Value.int i64 a.snd.fst.snd.snd)],HObj.box Md.rw (138:Nat) [SV.val (Go.Value.int i64 a.snd.snd.fst.fst),SV.val (Go.Value.int i64
 a.snd.snd.fst.snd.fst),SV.val (Go.Value.int i64 a.snd.snd.fst.snd.snd)]]∧I_1 (i64.wrap (x_6.fst+(1:Int)),()) ()∧μ_1 (i64.wrap (x_6.fst+(1 :
 Int)),()) ()<μ_1 x_6 y_1) (∃ (h:(2:Int)≠(0:Int)),∃ (h:(2:Int)≠(0:Int)),∃ (h:IIII n x.fst (i64.wrap ((i64.wrap (i64.wrap (a_7.fst +
 n) - (1:Int))).tdiv (2:Int))) (i64.wrap ((i64.wrap (i64.wrap (a_8.fst+n) - (1:Int))).tdiv (2:Int)))),∀ (a_11:Int × Unit),a_11=Z95 n x.fst
 (i64.wrap ((i64.wrap (i64.wrap (a_7.fst+n) - (1:Int))).tdiv (2:Int))) (i64.wrap ((i64.wrap (i64.wrap (a_8.fst+n) - (1 :
 Int))).tdiv (2:Int)))→∀ (a_12:Bool),a_12=decide (a_11.fst≥(0:Int))→Br a_12 (∀ (a_13:Bool),a_13=(a_11.fst != c)→Br a_13 (post (a_11.fst,x_6.fst,())) (HIs
 [HObj.box Md.rw (138:Nat) [SV.val (Go.Value.int i64 a_2.fst.fst),SV.val (Go.Value.int i64 a_2.fst.snd.fst),SV.val (Go.Value.int i64 a_2.fst.snd.snd)],
 HObj.box Md.rw (138:Nat) [SV.val (Go.Value.int i64 a.fst.fst),SV.val (Go.Value.int i64 a.fst.snd.fst),SV.val (Go.Value.int i64 a.fst.snd.snd)],
 HObj.box Md.rw (138:Nat) [SV.val (Go.Value.int i64 a.snd.fst.fst),SV.val (Go.Value.int i64 a.snd.fst.snd.fst),SV.val (Go.Value.int i64
 a.snd.fst.snd.snd)],HObj.box Md.rw (138:Nat) [SV.val (Go.Value.int i64 a.snd.snd.fst.fst),SV.val (Go.Value.int i64 a.snd.snd.fst.snd.fst),SV.val (Go.Value.int
 i64 a.snd.snd.fst.snd.snd)]] [HObj.box Md.rw (138:Nat) [SV.val (Go.Value.int i64 a_2.fst.fst),SV.val (Go.Value.int i64 a_2.fst.snd.fst),SV.val
 (Go.Value.int i64 a_2.fst.snd.snd)],HObj.box Md.rw (138:Nat) [SV.val (Go.Value.int i64 a.fst.fst),SV.val (Go.Value.int i64 a.fst.snd.fst),SV.val
 (Go.Value.int i64 a.fst.snd.snd)],HObj.box Md.rw (138:Nat) [SV.val (Go.Value.int i64 a.snd.fst.fst),SV.val (Go.Value.int i64 a.snd.fst.snd.fst),SV.val
 (Go.Value.int i64 a.snd.fst.snd.snd)],HObj.box Md.rw (138:Nat) [SV.val (Go.Value.int i64 a.snd.snd.fst.fst),SV.val (Go.Value.int i64
 a.snd.snd.fst.snd.fst),SV.val (Go.Value.int i64 a.snd.snd.fst.snd.snd)]]∧I_1 (i64.wrap (x_6.fst+(1:Int)),()) ()∧μ_1 (i64.wrap (x_6.fst+(1 :
 Int)),()) ()<μ_1 x_6 y_1)) (HIs [HObj.box Md.rw (138:Nat) [SV.val (Go.Value.int i64 a_2.fst.fst),SV.val (Go.Value.int i64 a_2.fst.snd.fst),SV.val
 (Go.Value.int i64 a_2.fst.snd.snd)],HObj.box Md.rw (138:Nat) [SV.val (Go.Value.int i64 a.fst.fst),SV.val (Go.Value.int i64 a.fst.snd.fst),SV.val
 (Go.Value.int i64 a.fst.snd.snd)],HObj.box Md.rw (138:Nat) [SV.val (Go.Value.int i64 a.snd.fst.fst),SV.val (Go.Value.int i64 a.snd.fst.snd.fst),SV.val
 (Go.Value.int i64 a.snd.fst.snd.snd)],HObj.box Md.rw (138:Nat) [SV.val (Go.Value.int i64 a.snd.snd.fst.fst),SV.val (Go.Value.int i64
 a.snd.snd.fst.snd.fst),SV.val (Go.Value.int i64 a.snd.snd.fst.snd.snd)]] [HObj.box Md.rw (138:Nat) [SV.val (Go.Value.int i64 a_2.fst.fst),SV.val (Go.Value.int
 i64 a_2.fst.snd.fst),SV.val (Go.Value.int i64 a_2.fst.snd.snd)],HObj.box Md.rw (138:Nat) [SV.val (Go.Value.int i64 a.fst.fst),SV.val (Go.Value.int
 i64 a.fst.snd.fst),SV.val (Go.Value.int i64 a.fst.snd.snd)],HObj.box Md.rw (138:Nat) [SV.val (Go.Value.int i64 a.snd.fst.fst),SV.val (Go.Value.int
 i64 a.snd.fst.snd.fst),SV.val (Go.Value.int i64 a.snd.fst.snd.snd)],HObj.box Md.rw (138:Nat) [SV.val (Go.Value.int i64 a.snd.snd.fst.fst),SV.val
 (Go.Value.int i64 a.snd.snd.fst.snd.fst),SV.val (Go.Value.int i64 a.snd.snd.fst.snd.snd)]]∧I_1 (i64.wrap (x_6.fst+(1:Int)),()) ()∧μ_1
 (i64.wrap (x_6.fst+(1:Int)),()) ()<μ_1 x_6 y_1)))) (HIs [HObj.box Md.rw ty138 [SV.val (Go.Value.int i64 a_2.fst.fst),SV.val (Go.Value.int i64
 a_2.fst.snd.fst),SV.val (Go.Value.int i64 a_2.fst.snd.snd)]] [HObj.box Md.rw ty138 [SV.val (Go.Value.int i64 a_2.fst.fst),SV.val (Go.Value.int i64
 a_2.fst.snd.fst),SV.val (Go.Value.int i64 a_2.fst.snd.snd)]]∧I (i64.wrap (x.fst+(1:Int)),()) ()∧μ (i64.wrap (x.fst+(1:Int)),()) ()<μ x
 y))) (post ((-1:Int),(0:Int),()))))))
theorem Z102 (ty0:Nat) (n:Int) (c:Int) (o:Int) (h:III n c o):Z9u ty0 n c o (fun r=>r=Z1k n c o):=by
 have no:Zn n c o=false→((-1:Int),(0:Int),())=Z1k n c o:=by
  intro q
  have:Z3 n c o=(-1,0):=by unfold Z3; rw [if_neg (by rw [q]; decide)]
  unfold Z1k; rw [this]
 have nb:∀ p:Prop,(Zn n c o=true→p)→¬ p→Zn n c o=false:=fun p hp hn=>by
  cases q:Zn n c o with
  | false=>rfl
  | true=>exact absurd (hp q) hn
 rintro _ rfl
 refine Br.intro (fun e=>no (nb (0≤c) (fun q=>(Z21 (Zy.1 q).1).1) (by have:=of_decide_eq_true e; omega))) fun e1=>?_
 refine ⟨h.1,?_⟩
 rintro _ rfl
 refine Br.intro (fun e=>no (nb (c<Zb n) (fun q=>(Z21 (Zy.1 q).1).2) (by have:c≥Zb n:=of_decide_eq_true e; omega))) fun e2=>?_
 rintro _ rfl
 refine Br.intro (fun e=>no (nb (0≤o) (fun q=>(Zy.1 q).2.1) (by have:=of_decide_eq_true e; omega))) fun e3=>?_
 rintro _ rfl
 refine Br.intro (fun e=>no (nb (o<4) (fun q=>(Zy.1 q).2.2) (by have:=of_decide_eq_true e; omega))) fun e4=>?_
 have e1:=of_decide_eq_false e1
 have e2:¬ c≥Zb n:=of_decide_eq_false e2
 have e3:=of_decide_eq_false e3
 have e4:=of_decide_eq_false e4
 have hp:Zh n c=true:=by unfold Zh; rw [decide_eq_true (p:=0≤c) (by omega),decide_eq_true (p:=c<Zb n) (by omega)]; rfl
 have ok:Zn n c o=true:=Zy.2 ⟨hp,by omega,by omega⟩
 have hm:=Z3f hp
 obtain ⟨n1,n2,f0,f5,i0,i1,j0,j1⟩:=hm
 refine ⟨hp,?_⟩
 rintro _ rfl
 refine ⟨hp,?_⟩
 rintro _ rfl
 have bm:=Z1jd (Z3f hp)
 have bd:=Z1je (c / (n*n)) o
 refine ⟨⟨bm.mono (by decide),by decide,by decide,bd.mono (by decide)⟩,?_⟩
 have be:=Z35 bm bd (k:=1) (q:=1) (by decide) (by decide)
 have hQ:Z3 n c o=(Z6y n c (Z14 (midP n (c / (n*n)) (c % n) (c / n % n)) 1 (dirP (c / (n*n)) o)) 6 0).getD (-1,0):=by
  rw [← Z1a8]; unfold Zjo; rw [if_pos ok]
 have hE:Z2n (Z16u n c).1 1 (Z16v n c o).1=(Z14 (midP n (c / (n*n)) (c % n) (c / n % n)) 1 (dirP (c / (n*n)) o),()):=rfl
 rw [hE]
 generalize Z14 (midP n (c / (n*n)) (c % n) (c / n % n)) 1 (dirP (c / (n*n)) o)=e at *
 rintro _ rfl
 refine ⟨rfl,fun x _=>∃ k:Nat,x.1=k∧k≤6∧Z3 n c o=(Z6y n c e (6 - k) k).getD (-1,0),fun x _=>6 - x.1.toNat,⟨0,rfl,by omega,hQ⟩,?_⟩
 rintro ⟨_,⟨⟩⟩ _ ⟨k,rfl,hk,hi⟩
 dsimp only
 rintro _ rfl
 refine Br.intro (fun g=>?_) fun g=>?_
 rotate_left
 ·have g:k=6:=by have g:¬ (k:Int)<6:=of_decide_eq_false g; omega
  subst g
  have hi:Z3 n c o=(-1,0):=hi
  unfold Z1k; rw [hi]
 have g:k<6:=by have g:(k:Int)<6:=of_decide_eq_true g; omega
 obtain ⟨r,hr⟩:∃ r,6 - k=r+1:=⟨5 - k,by omega⟩
 have hr':6 - (k+1)=r:=by omega
 rw [hr] at hi
 have hst:Z6y n c e (r+1) k=(valF n c e k).or (Z6y n c e r (k+1)):=by
  show (match valF n c e k with | some v=>some v | none=>Z6y n c e r (k+1))=_
  cases valF n c e k <;> rfl
 rw [hst] at hi
 obtain ⟨b1,b2,b3⟩:=Zcc (k:Int)
 refine ⟨trivial,?_⟩
 rintro _ rfl
 refine ⟨⟨be.mono (by decide),b1.mono (by decide)⟩,?_⟩
 rintro _ rfl
 rw [Z26 g (by omega)]
 rintro _ rfl
 refine Br.intro (fun q=>?_) fun q=>?_
 ·have q:dotP e (Z0 k).1≠n:=bne_iff_ne.1 q
  rw [Z11e q] at hi
  exact ⟨rfl,⟨k+1,rfl,by omega,by rw [hr']; exact hi⟩,by omega⟩
 have q:dotP e (Z0 k).1=n:=by
  have q:(dotP e (Z0 k).1 != n)=false:=q
  simpa using q
 have hv:valF n c e k=Z98 n c k e 4 0:=by unfold valF; rw [if_pos q]
 rw [hv] at hi
 refine ⟨rfl,fun x _=>∃ s:Nat,x.1=s∧s≤4∧Z3 n c o=((Z98 n c k e (4 - s) s).or (Z6y n c e r (k+1))).getD (-1,0),fun x _=>4 - x.1.toNat,⟨0,rfl,by omega,hi⟩,?_⟩
 clear hi hv
 rintro ⟨_,⟨⟩⟩ _ ⟨s,rfl,hs,hi⟩
 dsimp only
 rintro _ rfl
 refine Br.intro (fun g2=>?_) fun g2=>?_
 rotate_left
 ·have g2:s=4:=by have g2:¬ (s:Int)<4:=of_decide_eq_false g2; omega
  subst g2
  exact ⟨rfl,⟨k+1,rfl,by omega,by rw [hr']; exact hi⟩,by omega⟩
 have g2:s<4:=by have g2:(s:Int)<4:=of_decide_eq_true g2; omega
 obtain ⟨r2,hr2⟩:∃ r2,4 - s=r2+1:=⟨3 - s,by omega⟩
 have hr2':4 - (s+1)=r2:=by omega
 rw [hr2] at hi
 have hst2:Z98 n c k e (r2+1) s=(tryS n c k e s).or (Z98 n c k e r2 (s+1)):=by
  show (match tryS n c k e s with | some v=>some v | none=>Z98 n c k e r2 (s+1))=_
  cases tryS n c k e s <;> rfl
 rw [hst2] at hi
 rw [Z26 g2 (by omega)]
 have wm:∀ (z:Int) (b:Pt),-1≤z→z≤1→Bp 1 b→Z2i e z b:=fun z b h1 h2 hb=>⟨be.mono (by decide),by omega,by omega,hb.mono (by decide)⟩
 refine ⟨wm _ _ (by decide) (by decide) b2,?_⟩
 rintro _ rfl
 refine ⟨fun x _=>(x.1,x.2.1,x.2.2.1)=if (s:Int)=1 then Z14 e (-1) (Z0 k).2.2 else Z14 e (-1) (Z0 k).2.1,?_,?_⟩
 ·rintro _ rfl
  refine Br.intro (fun y=>?_) fun y=>?_
  ·refine ⟨wm _ _ (by decide) (by decide) b3,?_⟩
   rintro _ rfl
   exact ⟨rfl,by rw [if_pos (beq_iff_eq.1 y)]; rfl⟩
  ·exact ⟨rfl,by rw [if_neg (fun z=>by rw [z] at y; cases y)]; rfl⟩
 rintro ⟨p1,p2,p3,⟨⟩⟩ _ hp1
 refine ⟨fun x _=>(x.1,x.2.1,x.2.2.1)=if (s:Int)=2 then Z14 e 1 (Z0 k).2.1 else (p1,p2,p3),?_,?_⟩
 ·rintro _ rfl
  refine Br.intro (fun y=>?_) fun y=>?_
  ·refine ⟨wm _ _ (by decide) (by decide) b2,?_⟩
   rintro _ rfl
   exact ⟨rfl,by rw [if_pos (beq_iff_eq.1 y)]; rfl⟩
  ·exact ⟨rfl,by rw [if_neg (fun z=>by rw [z] at y; cases y)]⟩
 rintro ⟨q1,q2,q3,⟨⟩⟩ _ hp2
 refine ⟨fun x _=>(x.1,x.2.1,x.2.2.1)=if (s:Int)=3 then Z14 e 1 (Z0 k).2.2 else (q1,q2,q3),?_,?_⟩
 ·rintro _ rfl
  refine Br.intro (fun y=>?_) fun y=>?_
  ·refine ⟨wm _ _ (by decide) (by decide) b3,?_⟩
   rintro _ rfl
   exact ⟨rfl,by rw [if_pos (beq_iff_eq.1 y)]; rfl⟩
  ·exact ⟨rfl,by rw [if_neg (fun z=>by rw [z] at y; cases y)]⟩
 rintro ⟨t1,t2,t3,⟨⟩⟩ _ hp3
 have hM:(t1,t2,t3)=mP e (Z0 k).2.1 (Z0 k).2.2 s:=by
  have hp1:(p1,p2,p3)=_:=hp1
  have hp2:(q1,q2,q3)=_:=hp2
  have hp3:(t1,t2,t3)=_:=hp3
  unfold mP
  rw [hp3,hp2,hp1]
 have bM:Bp 98 (mP e (Z0 k).2.1 (Z0 k).2.2 s):=by
  unfold mP
  split
  ·exact Z35 be b3 (q:=1) (by decide) (by decide)
  ·split
   ·exact Z35 be b2 (q:=1) (by decide) (by decide)
   ·split
    ·exact Z35 be b3 (q:=1) (by decide) (by decide)
    ·exact Z35 be b2 (q:=1) (by decide) (by decide)
 dsimp only
 rw [hM]
 have dr:=Z1bj bM b2
 have du:=Z1bj bM b3
 refine ⟨⟨bM.mono (by decide),b2.mono (by decide)⟩,?_⟩
 rintro _ rfl
 refine ⟨⟨bM.mono (by decide),b3.mono (by decide)⟩,?_⟩
 rintro _ rfl
 have w1:i64.wrap (i64.wrap ((Zm5 (mP e (Z0 k).2.1 (Z0 k).2.2 s) ((Z4g (k:Int)).2.1.1,(Z4g (k:Int)).2.1.2.1,(Z4g (k:Int)).2.1.2.2)).1+n) - 1)=dotP (mP e (Z0 k).2.1 (Z0 k).2.2 s) (Z0 k).2.1+n - 1:=by
  show i64.wrap (i64.wrap (dotP (mP e (Z0 k).2.1 (Z0 k).2.2 s) (Z0 k).2.1+n) - 1)=_
  rw [wi (x:=dotP (mP e (Z0 k).2.1 (Z0 k).2.2 s) (Z0 k).2.1+n) ⟨by omega,by omega⟩,wi ⟨by omega,by omega⟩]
 have w2:i64.wrap (i64.wrap ((Zm5 (mP e (Z0 k).2.1 (Z0 k).2.2 s) ((Z4g (k:Int)).2.2.1.1,(Z4g (k:Int)).2.2.1.2.1,(Z4g (k:Int)).2.2.1.2.2)).1+n) - 1)=dotP (mP e (Z0 k).2.1 (Z0 k).2.2 s) (Z0 k).2.2+n - 1:=by
  show i64.wrap (i64.wrap (dotP (mP e (Z0 k).2.1 (Z0 k).2.2 s) (Z0 k).2.2+n) - 1)=_
  rw [wi (x:=dotP (mP e (Z0 k).2.1 (Z0 k).2.2 s) (Z0 k).2.2+n) ⟨by omega,by omega⟩,wi ⟨by omega,by omega⟩]
 have hT:tryS n c k e s=hitC c s (tryC n k (dotP (mP e (Z0 k).2.1 (Z0 k).2.2 s) (Z0 k).2.1+n - 1) (dotP (mP e (Z0 k).2.1 (Z0 k).2.2 s) (Z0 k).2.2+n - 1)):=rfl
 rw [hT] at hi
 rw [w1,w2]
 generalize dotP (mP e (Z0 k).2.1 (Z0 k).2.2 s) (Z0 k).2.1=Dr at *
 generalize dotP (mP e (Z0 k).2.1 (Z0 k).2.2 s) (Z0 k).2.2=Du at *
 obtain ⟨I0,hI0⟩:∃ I0,Dr+n - 1=I0:=⟨_,rfl⟩
 obtain ⟨J0,hJ0⟩:∃ J0,Du+n - 1=J0:=⟨_,rfl⟩
 rw [hI0,hJ0] at hi ⊢
 refine ⟨by decide,?_⟩
 rintro _ rfl
 refine Br.intro (fun y=>?_) fun y=>?_
 ·have y:Int.tmod I0 2≠0:=bne_iff_ne.1 y
  rw [show tryC n k I0 J0=none from if_pos (Or.inl y),Z2m] at hi
  exact ⟨rfl,⟨s+1,rfl,by omega,by rw [hr2']; exact hi⟩,by omega⟩
 have y:Int.tmod I0 2=0:=by simpa using y
 refine ⟨by decide,?_⟩
 rintro _ rfl
 refine Br.intro (fun y2=>?_) fun y2=>?_
 ·have y2:Int.tmod J0 2≠0:=bne_iff_ne.1 y2
  rw [show tryC n k I0 J0=none from if_pos (Or.inr y2),Z2m] at hi
  exact ⟨rfl,⟨s+1,rfl,by omega,by rw [hr2']; exact hi⟩,by omega⟩
 have y2:Int.tmod J0 2=0:=by simpa using y2
 rw [show tryC n k I0 J0=some (Zr n k (Int.tdiv I0 2) (Int.tdiv J0 2)) from if_neg (by rintro (z | z); exact z y; exact z y2)] at hi
 have a1:(Int.tdiv I0 2).natAbs≤I0.natAbs:=by rw [Int.natAbs_tdiv]; exact Nat.div_le_self _ _
 have a2:(Int.tdiv J0 2).natAbs≤J0.natAbs:=by rw [Int.natAbs_tdiv]; exact Nat.div_le_self _ _
 rw [wi (x:=Int.tdiv I0 2) ⟨by omega,by omega⟩,wi (x:=Int.tdiv J0 2) ⟨by omega,by omega⟩]
 refine ⟨by decide,by decide,⟨h.1,⟨by omega,by omega⟩,⟨by omega,by omega⟩,by omega,by omega⟩,?_⟩
 rintro _ rfl
 obtain ⟨d,hd⟩:∃ d,Zr n k (Int.tdiv I0 2) (Int.tdiv J0 2)=d:=⟨_,rfl⟩
 have hc:Z95 n k (Int.tdiv I0 2) (Int.tdiv J0 2)=(d,()):=by rw [← hd]; rfl
 rw [hc]
 rw [hd] at hi
 rintro _ rfl
 refine Br.intro (fun z=>?_) fun z=>?_
 ·have z:d≥0:=of_decide_eq_true z
  rintro _ rfl
  refine Br.intro (fun y3=>?_) fun y3=>?_
  ·have y3:d≠c:=bne_iff_ne.1 y3
   rw [show hitC c s (some d)=some (d,(s:Int)) from if_pos ⟨z,y3⟩] at hi
   have hi:Z3 n c o=(d,(s:Int)):=hi
   unfold Z1k; rw [hi]
  ·have y3:d=c:=by simpa using y3
   rw [show hitC c s (some d)=none from if_neg fun w=>w.2 y3] at hi
   exact ⟨rfl,⟨s+1,rfl,by omega,by rw [hr2']; exact hi⟩,by omega⟩
 ·have z:¬ d≥0:=of_decide_eq_false z
  rw [show hitC c s (some d)=none from if_neg fun w=>z w.1] at hi
  exact ⟨rfl,⟨s+1,rfl,by omega,by rw [hr2']; exact hi⟩,by omega⟩
end Go.Lift

namespace Go.Lift
open Go.Proofs
def Z4l:Con:=Con.nam [Z2g,.int .i64,Z2g] [.snap Z2g] (fun x=>Z2i x.1 x.2.1 x.2.2.1) (fun x=>Z2n x.1 x.2.1 x.2.2.1)
def Zkw:Cx:=⟨Zf Zi,Zg [],RbG⟩
theorem Zsq:CxOk Tryz.prog Zkw:=⟨Z4 Z7,fun f c h=>by cases h⟩
theorem Z103:FnAt Tryz.prog 102 Tryz.f102.ntmps Tryz.f102.results.toList (Tryz.f102.body.getD .skip):=⟨Tryz.f102,Tryz.func102,rfl,rfl,by simp,by decide⟩
theorem Z104 (a:Int × Int × Int) (k:Int) (b:Int × Int × Int) (post:(Int × Int × Int) × Unit→Prop):Za Zkw nHn Tryz.f102.ntmps Tryz.f102.results.toList (Tryz.f102.body.getD .skip) [Z2g,.int .i64,Z2g] [.snap Z2g] (a,k,b,()) post=Z7y  a k b post:=by kernel_rfl
theorem Z78:Z4l.holds Tryz.prog RbG 102 :=
 Zq (detP Zsq Z8 nHn Z103 (F:=fun x post=>Z7y  x.1 x.2.1 x.2.2.1 post) (fun x post=>Z104 x.1 x.2.1 x.2.2.1 post) fun x h _=>Z168  x.1 x.2.1 x.2.2.1 h)
def Znq:Con:=Con.nam [Z2g,Z2g] [.snap (.int .i64)] (fun x=>Zy8 x.1 x.2.1) (fun x=>Zm5 x.1 x.2.1)
def Znr:Cx:=⟨Zf Zi,Zg [],RbG⟩
theorem Zvo:CxOk Tryz.prog Znr:=⟨Z4 Z7,fun f c h=>by cases h⟩
theorem Z134:FnAt Tryz.prog 106 Tryz.f106.ntmps Tryz.f106.results.toList (Tryz.f106.body.getD .skip):=⟨Tryz.f106,Tryz.func106,rfl,rfl,by simp,by decide⟩
theorem Z135 (a:Int × Int × Int) (b:Int × Int × Int) (post:Int × Unit→Prop):Za Znr nHn Tryz.f106.ntmps Tryz.f106.results.toList (Tryz.f106.body.getD .skip) [Z2g,Z2g] [.snap (.int .i64)] (a,b,()) post=Z9s  a b post:=by kernel_rfl
theorem Z16a:Znq.holds Tryz.prog RbG 106 :=
 Zq (detP Zvo Z8 nHn Z134 (F:=fun x post=>Z9s  x.1 x.2.1 post) (fun x post=>Z135 x.1 x.2.1 post) fun x h _=>Z197  x.1 x.2.1 h)
def Z62:Con:=Con.nam [.int .i64] [.snap Z2g,.snap Z2g,.snap Z2g] (fun _=>True) (fun x=>Z4g x.1)
def Zie:Cx:=⟨Zf Zi,Zg [(102,Z4l)],RbG⟩
theorem Zqs:CxOk Tryz.prog Zie:=⟨Z4 Z7,Z6 ⟨Z78,trivial⟩⟩
theorem Zvp:FnAt Tryz.prog 105 Tryz.f105.ntmps Tryz.f105.results.toList (Tryz.f105.body.getD .skip):=⟨Tryz.f105,Tryz.func105,rfl,rfl,by simp,by decide⟩
theorem Zvq (f:Int) (post:(Int × Int × Int) × (Int × Int × Int) × (Int × Int × Int) × Unit→Prop):Za Zie nHn Tryz.f105.ntmps Tryz.f105.results.toList (Tryz.f105.body.getD .skip) [.int .i64] [.snap Z2g,.snap Z2g,.snap Z2g] (f,()) post=Zb9  f post:=by kernel_rfl
theorem Z9v:Z62.holds Tryz.prog RbG 105 :=
 Zq (detP Zqs Z8 nHn Zvp (F:=fun x post=>Zb9  x.1 post) (fun x post=>Zvq x.1 post) fun x _ _=>Z133  x.1)
def Zkx:Con:=Con.nam [.int .i64,.int .i64,.int .i64,.int .i64] [.snap (.int .i64)] (fun x=>IIII x.1 x.2.1 x.2.2.1 x.2.2.2.1) (fun x=>Z95 x.1 x.2.1 x.2.2.1 x.2.2.2.1)
def Zif:Hn:=nHn
def Zky:Cx:=⟨Zf Zi,Zg [(63,Z32)],RbG⟩
theorem Zsr:CxOk Tryz.prog Zky:=⟨Z4 Z7,Z6 ⟨Z3z,trivial⟩⟩
theorem Z105:FnAt Tryz.prog 107 Tryz.f107.ntmps Tryz.f107.results.toList (Tryz.f107.body.getD .skip):=⟨Tryz.f107,Tryz.func107,rfl,rfl,by simp,by decide⟩
theorem Z106 (n:Int) (f:Int) (i:Int) (j:Int) (post:Int × Unit→Prop):Za Zky Zif Tryz.f107.ntmps Tryz.f107.results.toList (Tryz.f107.body.getD .skip) [.int .i64,.int .i64,.int .i64,.int .i64] [.snap (.int .i64)] (n,f,i,j,()) post=Zdj  n f i j post:=by kernel_rfl
theorem Z136:Zkx.holds Tryz.prog RbG 107 :=
 Zq (detP Zsr Z8 Zif Z105 (F:=fun x post=>Zdj  x.1 x.2.1 x.2.2.1 x.2.2.2.1 post) (fun x post=>Z106 x.1 x.2.1 x.2.2.1 x.2.2.2.1 post) fun x h _=>Z169  x.1 x.2.1 x.2.2.1 x.2.2.2.1 h)
def Zgd:Con:=Con.nam [.int .i64,.int .i64] [.snap Z2g] (fun x=>Z18g x.1 x.2.1) (fun x=>Z16u x.1 x.2.1)
def Zge:Cx:=⟨Zf Zi,Zg [(130,Z9r),(105,Z62),(102,Z4l)],RbG⟩
theorem Zoc:CxOk Tryz.prog Zge:=⟨Z4 Z7,Z6 ⟨Zid,Z9v,Z78,trivial⟩⟩
theorem Zss:FnAt Tryz.prog 103 Tryz.f103.ntmps Tryz.f103.results.toList (Tryz.f103.body.getD .skip):=⟨Tryz.f103,Tryz.func103,rfl,rfl,by simp,by decide⟩
theorem Zst (n:Int) (c:Int) (post:(Int × Int × Int) × Unit→Prop):Za Zge nHn Tryz.f103.ntmps Tryz.f103.results.toList (Tryz.f103.body.getD .skip) [.int .i64,.int .i64] [.snap Z2g] (n,c,()) post=Z61  n c post:=by kernel_rfl
theorem Zvr:Zgd.holds Tryz.prog RbG 103 :=
 Zq (detP Zoc Z8 nHn Zss (F:=fun x post=>Z61  x.1 x.2.1 post) (fun x post=>Zst x.1 x.2.1 post) fun x h _=>Z101  x.1 x.2.1 h)
def Zns:Con:=Con.nam [.int .i64,.int .i64,.int .i64] [.snap Z2g] (fun x=>Z11f x.1 x.2.1 x.2.2.1) (fun x=>Z16v x.1 x.2.1 x.2.2.1)
def Znt:Cx:=⟨Zf Zi,Zg [(130,Z9r),(105,Z62),(102,Z4l)],RbG⟩
theorem Zvs:CxOk Tryz.prog Znt:=⟨Z4 Z7,Z6 ⟨Zid,Z9v,Z78,trivial⟩⟩
theorem Z137:FnAt Tryz.prog 104 Tryz.f104.ntmps Tryz.f104.results.toList (Tryz.f104.body.getD .skip):=⟨Tryz.f104,Tryz.func104,rfl,rfl,by simp,by decide⟩
theorem Z138 (n:Int) (c:Int) (o:Int) (post:(Int × Int × Int) × Unit→Prop):Za Znt nHn Tryz.f104.ntmps Tryz.f104.results.toList (Tryz.f104.body.getD .skip) [.int .i64,.int .i64,.int .i64] [.snap Z2g] (n,c,o,()) post=Z9t  n c o post:=by kernel_rfl
theorem Z16b:Zns.holds Tryz.prog RbG 104 :=
 Zq (detP Zvs Z8 nHn Z137 (F:=fun x post=>Z9t  x.1 x.2.1 x.2.2.1 post) (fun x post=>Z138 x.1 x.2.1 x.2.2.1 post) fun x h _=>Z198  x.1 x.2.1 x.2.2.1 h)
def Z86:Con:=Con.nam [.int .i64,.int .i64,.int .i64] [.snap (.int .i64),.snap (.int .i64)] (fun x=>III x.1 x.2.1 x.2.2.1) (fun x=>Z1k x.1 x.2.1 x.2.2.1)
def Zdv:Hn:={ loops:=Z2b [(5,{ ls:=[(.slot 9,.data (.int .i64))],os:=[] }),(10,{ ls:=[(.slot 13,.data (.int .i64))],os:=[] })],joins:=Z2b [(15,{ ls:=[(.cell 4 0,.data (.int .i64)),(.cell 4 1,.data (.int .i64)),(.cell 4 2,.data (.int .i64))],os:=[] }),(17,{ ls:=[(.cell 4 0,.data (.int .i64)),(.cell 4 1,.data (.int .i64)),(.cell 4 2,.data (.int .i64))],os:=[] }),(19,{ ls:=[(.cell 4 0,.data (.int .i64)),(.cell 4 1,.data (.int .i64)),(.cell 4 2,.data (.int .i64))],os:=[] })],named:=true }
def Zgf:Cx:=⟨Zf Zi,Zg [(63,Z32),(103,Zgd),(104,Zns),(102,Z4l),(105,Z62),(106,Znq),(107,Zkx)],RbG⟩
theorem Zod:CxOk Tryz.prog Zgf:=⟨Z4 Z7,Z6 ⟨Z3z,Zvr,Z16b,Z78,Z9v,Z16a,Z136,trivial⟩⟩
theorem Zsu:FnAt Tryz.prog 64 Tryz.f64.ntmps Tryz.f64.results.toList (Tryz.f64.body.getD .skip):=⟨Tryz.f64,Tryz.func64,rfl,rfl,by simp,by decide⟩
theorem Zsv (n:Int) (c:Int) (o:Int) (post:Int × Int × Unit→Prop):Za Zgf Zdv Tryz.f64.ntmps Tryz.f64.results.toList (Tryz.f64.body.getD .skip) [.int .i64,.int .i64,.int .i64] [.snap (.int .i64),.snap (.int .i64)] (n,c,o,()) post=Z9u 138 n c o post:=by kernel_rfl
theorem Zgg:Z86.holds Tryz.prog RbG 64 :=
 Zq (detP Zod Z8 Zdv Zsu (F:=fun x post=>Z9u 138 x.1 x.2.1 x.2.2.1 post) (fun x post=>Zsv x.1 x.2.1 x.2.2.1 post) fun x h _=>Z102 138 x.1 x.2.1 x.2.2.1 h)
end Go.Lift

namespace Go.Lift
open Go.Proofs
def Znu:Con:=Con.nam [.int .i64] [.snap (.ptr Z2h),.snap (.int .i64)] (fun x=>I64 x.1) (fun x=>Z7u x.1)
def Zkz:Hn:={ loops:=Z2b [(6,{ ls:=[(.slot 6,.data (.int .i64)),(.cell 1 1,.row 91 Z1x)],os:=[(0,3,.int .i64)] }),(9,{ ls:=[(.slot 7,.data (.int .i64)),(.cell 1 1,.row 91 Z1x)],os:=[(0,3,.int .i64)] })],joins:=fun _=>none,named:=true }
def Znv:Cx:=⟨Zf Zi,Zg [(63,Z32),(64,Z86)],RbG⟩
theorem Zvt:CxOk Tryz.prog Znv:=⟨Z4 Z7,Z6 ⟨Z3z,Zgg,trivial⟩⟩
theorem Z139:FnAt Tryz.prog 25 Tryz.f25.ntmps Tryz.f25.results.toList (Tryz.f25.body.getD .skip):=⟨Tryz.f25,Tryz.func25,rfl,rfl,by simp,by decide⟩
theorem Z13a (n:Int) (post:(Option (Int × (List (Int × Int × Int × Int)) × List Int)) × Int × Unit→Prop):Za Znv Zkz Tryz.f25.ntmps Tryz.f25.results.toList (Tryz.f25.body.getD .skip) [.int .i64] [.snap (.ptr Z2h),.snap (.int .i64)] (n,()) post=Z9q 3 95 n post:=by kernel_rfl
theorem Z16c:Znu.holds Tryz.prog RbG 25 :=
 Zq (detP Zvt Z8 Zkz Z139 (F:=fun x post=>Z9q 3 95 x.1 post) (fun x post=>Z13a x.1 post) fun x h _=>Z196 3 95 x.1 h)
def Z5t:Con:=.det [.ptr Z2h] [.snap (.int .i64)] (fun _=>True) (fun x=>Z7o x.1)
def Z5u:Cx:=⟨Zf Zi,Zg [],RbG⟩
theorem Zjb:CxOk Tryz.prog Z5u:=⟨Z4 Z7,fun f c h=>by cases h⟩
theorem Zmo:FnAt Tryz.prog 77 Tryz.f77.ntmps Tryz.f77.results.toList (Tryz.f77.body.getD .skip):=⟨Tryz.f77,Tryz.func77,rfl,rfl,by simp,by decide⟩
theorem Zjc  (post:Int × Unit→Prop):Za Z5u nHn Tryz.f77.ntmps Tryz.f77.results.toList (Tryz.f77.body.getD .skip) [.ptr Z2h] [.snap (.int .i64)] (none,()) post=Z57   post:=by kernel_rfl
theorem Zjd (g:Int × (List (Int × Int × Int × Int)) × List Int) (post:Int × Unit→Prop):Za Z5u nHn Tryz.f77.ntmps Tryz.f77.results.toList (Tryz.f77.body.getD .skip) [.ptr Z2h] [.snap (.int .i64)] ((some g),()) post=Z58  g post:=by kernel_rfl
def Zoe (x:KS [.ptr Z2h]) (post:RS [.snap (.int .i64)]→Prop):Prop:=match x with
 | (none,y)=>Z57   post
 | (some g,y)=>Z58  g post
theorem Za7:Z5t.holds Tryz.prog RbG 77 :=
 detP Zjb Z8 nHn Zmo (F:=Zoe) (fun x post=>match x with
  | (none,y)=>Zjc  post
  | (some g,y)=>Zjd g post) fun x h w=>match x,h,w with
  | (none,y),h,w=>Zmm   w
  | (some g,y),h,w=>Zmn  g w
def Z9w:Con:=.det [.ptr Z2h] [.snap (.int .i64)] (fun x=>Zrr x.1) (fun x=>Zjr x.1)
def Z59:Cx:=⟨Zf Zi,Zg [(77,Z5t),(63,Z32)],RbG⟩
theorem Zgr:CxOk Tryz.prog Z59:=⟨Z4 Z7,Z6 ⟨Za7,Z3z,trivial⟩⟩
theorem Zl0:FnAt Tryz.prog 76 Tryz.f76.ntmps Tryz.f76.results.toList (Tryz.f76.body.getD .skip):=⟨Tryz.f76,Tryz.func76,rfl,rfl,by simp,by decide⟩
theorem Zgs  (post:Int × Unit→Prop):Za Z59 nHn Tryz.f76.ntmps Tryz.f76.results.toList (Tryz.f76.body.getD .skip) [.ptr Z2h] [.snap (.int .i64)] (none,()) post=Z4j   post:=by kernel_rfl
theorem Zgt (g:Int × (List (Int × Int × Int × Int)) × List Int) (post:Int × Unit→Prop):Za Z59 nHn Tryz.f76.ntmps Tryz.f76.results.toList (Tryz.f76.body.getD .skip) [.ptr Z2h] [.snap (.int .i64)] ((some g),()) post=Z4k  g post:=by kernel_rfl
def Zmp (x:KS [.ptr Z2h]) (post:RS [.snap (.int .i64)]→Prop):Prop:=match x with
 | (none,y)=>Z4j   post
 | (some g,y)=>Z4k  g post
theorem Zmq:Z9w.holds Tryz.prog RbG 76 :=
 detP Zgr Z8 nHn Zl0 (F:=Zmp) (fun x post=>match x with
  | (none,y)=>Zgs  post
  | (some g,y)=>Zgt g post) fun x h w=>match x,h,w with
  | (none,y),h,w=>Zku   h w
  | (some g,y),h,w=>Zkv  g h w
end Go.Lift

namespace Go.Lift
end Go.Lift

namespace Go.Lift
end Go.Lift

namespace Go.Lift
end Go.Lift

namespace Go.Lift
open Go.Proofs
end Go.Lift

namespace Go.Lift
open Go.Proofs
end Go.Lift

namespace Go.Lift
open Ieee
end Go.Lift

namespace Go.Lift
end Go.Lift

namespace Go.Lift
end Go.Lift

namespace Go.Lift
open Go.Proofs
end Go.Lift

namespace Go.Lift
open Go.Proofs
end Go.Lift

namespace Go.Lift
open Go.Proofs
end Go.Lift

namespace Go.Lift
def Z7d:=fun (e:Int) (post:Bool × Unit→Prop)=>post (false,())
theorem Zsw (e:Int) (h:Zeg none e) (w:KS.wf [.ptr Zx,.int .i64] (none,e,())):Z7d  e (fun r=>r=nIsR none e):=by
 exact rfl
def Z7e:=fun (g:Int × List (Int × Int × Int × Int) × List ((Int × Int) × Int) × List (List Int) × List Int × List Nat × List Nat) (e:Int) (post:Bool × Unit →
 Prop)=>∀ (a:Bool),a=decide (e≥(0:Int))→Br a (∃ (h:some g≠none),∀ (a:Bool),a=decide (e<(↑g.snd.fst.length:Int))→post (a,())) (post
 (false,()))
theorem Zsx (g:Int × (List (Int × Int × Int × Int)) × (List ((Int × Int) × Int)) × (List (List Int)) × (List Int) × (List Nat) × List Nat) (e:Int) (h:Zeg (some g) e) (w:KS.wf [.ptr Zx,.int .i64] ((some g),e,())):Z7e  g e (fun r=>r=nIsR (some g) e):=by
 rintro _ rfl
 refine Br.intro (fun e1=>?_) fun e1=>?_
 ·refine ⟨by simp,?_⟩
  rintro _ rfl
  show _=(decide (0≤e)&&decide (e<(g.2.1.length:Nat)),())
  rw [decide_eq_true (p:=0≤e) (of_decide_eq_true e1)]; rfl
 ·show _=(decide (0≤e)&&decide (e<(g.2.1.length:Nat)),())
  rw [decide_eq_false (p:=0≤e) (of_decide_eq_false e1)]; rfl
def Z5v:=fun (e:Int) (post:(Int × Int × Int × Int) × Bool × Unit→Prop)=>∃ (h:Zeg none e),∀ (a:Bool),a=(nIsR none e).fst→Br (!a)
 (post (((0:Int),(0:Int),(0:Int),(0:Int)),false,())) (∃ (h:(none:Option (Int × (List (Int × Int × Int × Int)) × (List ((Int × Int) × Int)) × (List
 (List Int)) × (List Int) × (List Nat) × List Nat))≠none),False)
theorem Zof (e:Int) (h:Zeg none e) (w:KS.wf [.ptr Zx,.int .i64] (none,e,())):Z5v  e (fun r=>r=Z1o none e):=by
 refine ⟨h,?_⟩
 rintro _ rfl
 exact Br.intro (fun _=>rfl) fun q=>by cases q
def Z5w:=fun (g:Int × List (Int × Int × Int × Int) × List ((Int × Int) × Int) × List (List Int) × List Int × List Nat × List Nat) (e:Int) (post:(Int × Int ×
 Int × Int) × Bool × Unit→Prop)=>∃ (h:Zeg (some g) e),∀ (a:Bool),a=(nIsR (some g) e).fst→Br (!a) (post (((0:Int),(0:Int),(0:Int),(0:Int)),
 false,())) (∃ (h:some g≠none),∃ (h:(0:Int)≤e∧e<(↑g.snd.fst.length:Int)),post (((g.snd.fst.getD e.toNat ((K.int i64).pair ((K.int
 i64).pair ((K.int i64).pair (K.int i64)))).dflt).fst,(g.snd.fst.getD e.toNat ((K.int i64).pair ((K.int i64).pair ((K.int i64).pair
 (K.int i64)))).dflt).snd.fst,(g.snd.fst.getD e.toNat ((K.int i64).pair ((K.int i64).pair ((K.int i64).pair (K.int
 i64)))).dflt).snd.snd.fst,(g.snd.fst.getD e.toNat ((K.int i64).pair ((K.int i64).pair ((K.int i64).pair (K.int i64)))).dflt).snd.snd.snd),
 true,()))
theorem Zog (g:Int × (List (Int × Int × Int × Int)) × (List ((Int × Int) × Int)) × (List (List Int)) × (List Int) × (List Nat) × List Nat) (e:Int) (h:Zeg (some g) e) (w:KS.wf [.ptr Zx,.int .i64] ((some g),e,())):Z5w  g e (fun r=>r=Z1o (some g) e):=by
 refine ⟨h,?_⟩
 rintro _ rfl
 have hi:(nIsR (some g) e).1=(decide (0≤e)&&decide (e<(g.2.1.length:Nat))):=rfl
 refine Br.intro (fun q=>?_) fun q=>?_
 ·have q:(nIsR (some g) e).1=false:=by simpa using q
  have hn:¬ (0≤e∧e<(g.2.1.length:Nat)):=fun z=>by rw [hi,decide_eq_true z.1,decide_eq_true z.2] at q; cases q
  show _=(Z7v (some g) e,nIs (some g) e,())
  have q2:nIs (some g) e=false:=q
  unfold Z7v
  dsimp only
  rw [q2,if_neg hn]; rfl
 ·have q:(nIsR (some g) e).1=true:=by simpa using q
  have hy:0≤e∧e<(g.2.1.length:Nat):=by
   rw [hi] at q
   simpa using q
  refine ⟨by simp,hy,?_⟩
  show _=(Z7v (some g) e,nIs (some g) e,())
  have q2:nIs (some g) e=true:=q
  unfold Z7v
  dsimp only
  rw [q2,if_pos hy]; rfl
def Z4m:=fun (c o:Int) (post:Int × Int × Unit→Prop)=>post ((0:Int),(0:Int),())
theorem Zl1 (c:Int) (o:Int) (h:WNet none c o) (w:KS.wf [.ptr Zx,.int .i64,.int .i64] (none,c,o,())):Z4m  c o (fun r=>r=Z80 none c o):=by
 exact rfl
def Z4n:=fun (g:Int × List (Int × Int × Int × Int) × List ((Int × Int) × Int) × List (List Int) × List Int × List Nat × List Nat) (c o:Int) (post:Int × Int
 × Unit→Prop)=>∃ (h:some g≠none),Br (!(mget (c,o) g.snd.snd.fst).isSome) (post ((0:Int),(0:Int),())) (∃ (h:some g≠none),∃ (h:(0 :
 Int)≤(mget (c,o) g.snd.snd.fst).getD (0:Int)∧(mget (c,o) g.snd.snd.fst).getD (0:Int)<(↑g.snd.fst.length:Int)),∀ (a:Bool),a=((g.snd.fst.getD ((mget (c,o)
 g.snd.snd.fst).getD (0:Int)).toNat ((K.int i64).pair ((K.int i64).pair ((K.int i64).pair (K.int i64)))).dflt).fst==c)→Br a (post ((mget (c,
 o) g.snd.snd.fst).getD (0:Int),(1:Int),())) (post ((mget (c,o) g.snd.snd.fst).getD (0:Int),(-1:Int),())))
theorem Zl2 (g:Int × (List (Int × Int × Int × Int)) × (List ((Int × Int) × Int)) × (List (List Int)) × (List Int) × (List Nat) × List Nat) (c:Int) (o:Int) (h:WNet (some g) c o) (w:KS.wf [.ptr Zx,.int .i64,.int .i64] ((some g),c,o,())):Z4n  g c o (fun r=>r=Z80 (some g) c o):=by
 obtain ⟨hg,hc,ho⟩:=h
 obtain ⟨n,gn,hgn⟩:∃ n,Z1b n=true∧g=netG n:=by
  rcases hg with hg | ⟨n,gn,hg⟩
  ·cases hg
  ·exact ⟨n,gn,Option.some.inj hg⟩
 subst hgn
 refine ⟨by simp,?_⟩
 have hr:Z80 (some (netG n)) c o=match mget (c,o) (netE n).2 with
   | none=>((0:Int),(0:Int),())
   | some e=>if ((netE n).1.getD e.toNat dEd).1=c then (e,(1:Int),()) else (e,(-1:Int),()):=by
  unfold Z80 Zam netG
  dsimp only
  cases mget (c,o) (netE n).2 with
  | none=>rfl
  | some e=>dsimp only; split <;> rfl
 rw [hr]
 by_cases ok:Zn n c o=true
 ·obtain ⟨k,hk,k1,_,_⟩:=Z18f ok
  have k1':mget (c,o) (netG n).2.2.1=some (k:Int):=k1
  rw [k1',k1]
  refine Br.intro (fun q=>by cases q) fun _=>?_
  refine ⟨by simp,⟨by show (0:Int)≤k; omega,by show (k:Int)<((netE n).1.length:Nat); omega⟩,?_⟩
  intro a ha
  have ha:a=decide (((netE n).1.getD (k:Int).toNat dEd).1=c):=ha
  rw [ha]
  dsimp only
  refine Br.intro (fun q=>?_) fun q=>?_
  ·rw [if_pos (of_decide_eq_true q)]; rfl
  ·rw [if_neg (of_decide_eq_false q)]; rfl
 ·have k1:=Z1hh ok
  have k1':mget (c,o) (netG n).2.2.1=none:=k1
  rw [k1',k1]
  exact Br.intro (fun _=>rfl) fun q=>by cases q
end Go.Lift

namespace Go.Lift
open Go.Proofs
def Zgh:Con:=.det [.ptr Zx,.int .i64] [.snap .bool] (fun x=>Zeg x.1 x.2.1) (fun x=>nIsR x.1 x.2.1)
def Z7f:Hn:=nHn
def Z87:Cx:=⟨Zf Zi,Zg [],RbG⟩
theorem Zoh:CxOk Tryz.prog Z87:=⟨Z4 Z7,fun f c h=>by cases h⟩
theorem Zsy:FnAt Tryz.prog 113 Tryz.f113.ntmps Tryz.f113.results.toList (Tryz.f113.body.getD .skip):=⟨Tryz.f113,Tryz.func113,rfl,rfl,by simp,by decide⟩
theorem Zoi (e:Int) (post:Bool × Unit→Prop):Za Z87 Z7f Tryz.f113.ntmps Tryz.f113.results.toList (Tryz.f113.body.getD .skip) [.ptr Zx,.int .i64] [.snap .bool] (none,e,()) post=Z7d  e post:=by kernel_rfl
theorem Zoj (g:Int × (List (Int × Int × Int × Int)) × (List ((Int × Int) × Int)) × (List (List Int)) × (List Int) × (List Nat) × List Nat) (e:Int) (post:Bool × Unit→Prop):Za Z87 Z7f Tryz.f113.ntmps Tryz.f113.results.toList (Tryz.f113.body.getD .skip) [.ptr Zx,.int .i64] [.snap .bool] ((some g),e,()) post=Z7e  g e post:=by kernel_rfl
def Zvu (x:KS [.ptr Zx,.int .i64]) (post:RS [.snap .bool]→Prop):Prop:=match x with
 | (none,y)=>Z7d  y.1 post
 | (some g,y)=>Z7e  g y.1 post
theorem Zvv:Zgh.holds Tryz.prog RbG 113 :=
 detP Zoh Z8 Z7f Zsy (F:=Zvu) (fun x post=>match x with
  | (none,y)=>Zoi y.1 post
  | (some g,y)=>Zoj g y.1 post) fun x h w=>match x,h,w with
  | (none,y),h,w=>Zsw  y.1 h w
  | (some g,y),h,w=>Zsx  g y.1 h w
def Zcn:Con:=.det [.ptr Zx,.int .i64] [.snap Z1x,.snap .bool] (fun x=>Zeg x.1 x.2.1) (fun x=>Z1o x.1 x.2.1)
def Z5x:Hn:=nHn
def Z6m:Cx:=⟨Zf Zi,Zg [(113,Zgh)],RbG⟩
theorem Zl3:CxOk Tryz.prog Z6m:=⟨Z4 Z7,Z6 ⟨Zvv,trivial⟩⟩
theorem Zok:FnAt Tryz.prog 75 Tryz.f75.ntmps Tryz.f75.results.toList (Tryz.f75.body.getD .skip):=⟨Tryz.f75,Tryz.func75,rfl,rfl,by simp,by decide⟩
theorem Zl4 (e:Int) (post:(Int × Int × Int × Int) × Bool × Unit→Prop):Za Z6m Z5x Tryz.f75.ntmps Tryz.f75.results.toList (Tryz.f75.body.getD .skip) [.ptr Zx,.int .i64] [.snap Z1x,.snap .bool] (none,e,()) post=Z5v  e post:=by kernel_rfl
theorem Zl5 (g:Int × (List (Int × Int × Int × Int)) × (List ((Int × Int) × Int)) × (List (List Int)) × (List Int) × (List Nat) × List Nat) (e:Int) (post:(Int × Int × Int × Int) × Bool × Unit→Prop):Za Z6m Z5x Tryz.f75.ntmps Tryz.f75.results.toList (Tryz.f75.body.getD .skip) [.ptr Zx,.int .i64] [.snap Z1x,.snap .bool] ((some g),e,()) post=Z5w  g e post:=by kernel_rfl
def Zqt (x:KS [.ptr Zx,.int .i64]) (post:RS [.snap Z1x,.snap .bool]→Prop):Prop:=match x with
 | (none,y)=>Z5v  y.1 post
 | (some g,y)=>Z5w  g y.1 post
theorem Zqu:Zcn.holds Tryz.prog RbG 75 :=
 detP Zl3 Z8 Z5x Zok (F:=Zqt) (fun x post=>match x with
  | (none,y)=>Zl4 y.1 post
  | (some g,y)=>Zl5 g y.1 post) fun x h w=>match x,h,w with
  | (none,y),h,w=>Zof  y.1 h w
  | (some g,y),h,w=>Zog  g y.1 h w
def Z9x:Con:=Con.nam [.ptr Zx,.int .i64,.int .i64] [.snap (.int .i64),.snap (.int .i64)] (fun x=>WNet x.1 x.2.1 x.2.2.1) (fun x=>Z80 x.1 x.2.1 x.2.2.1)
def Z4o:Hn:=nHn
def Z5a:Cx:=⟨Zf Zi,Zg [],RbG⟩
theorem Zgu:CxOk Tryz.prog Z5a:=⟨Z4 Z7,fun f c h=>by cases h⟩
theorem Zl6:FnAt Tryz.prog 46 Tryz.f46.ntmps Tryz.f46.results.toList (Tryz.f46.body.getD .skip):=⟨Tryz.f46,Tryz.func46,rfl,rfl,by simp,by decide⟩
theorem Zgv (c:Int) (o:Int) (post:Int × Int × Unit→Prop):Za Z5a Z4o Tryz.f46.ntmps Tryz.f46.results.toList (Tryz.f46.body.getD .skip) [.ptr Zx,.int .i64,.int .i64] [.snap (.int .i64),.snap (.int .i64)] (none,c,o,()) post=Z4m  c o post:=by kernel_rfl
theorem Zgw (g:Int × (List (Int × Int × Int × Int)) × (List ((Int × Int) × Int)) × (List (List Int)) × (List Int) × (List Nat) × List Nat) (c:Int) (o:Int) (post:Int × Int × Unit→Prop):Za Z5a Z4o Tryz.f46.ntmps Tryz.f46.results.toList (Tryz.f46.body.getD .skip) [.ptr Zx,.int .i64,.int .i64] [.snap (.int .i64),.snap (.int .i64)] ((some g),c,o,()) post=Z4n  g c o post:=by kernel_rfl
def Zmr (x:KS [.ptr Zx,.int .i64,.int .i64]) (post:RS [.snap (.int .i64),.snap (.int .i64)]→Prop):Prop:=match x with
 | (none,y)=>Z4m  y.1 y.2.1 post
 | (some g,y)=>Z4n  g y.1 y.2.1 post
theorem Zms:Z9x.holds Tryz.prog RbG 46 :=
 Zq (detP Zgu Z8 Z4o Zl6 (F:=Zmr) (fun x post=>match x with
  | (none,y)=>Zgv y.1 y.2.1 post
  | (some g,y)=>Zgw g y.1 y.2.1 post) fun x h w=>match x,h,w with
  | (none,y),h,w=>Zl1  y.1 y.2.1 h w
  | (some g,y),h,w=>Zl2  g y.1 y.2.1 h w)
end Go.Lift

namespace Go.Lift
def Z88:=fun (a b:Nat) (post:Int × Unit→Prop)=>∃ (h:True),∃ (h:True),∃ (h:W2 (Zk a).fst (Zk b).fst),post ((ordR (Zk a).fst (Zk
 b).fst).fst,())
theorem Zvw (a:Nat) (b:Nat) (h:W2 a b):Z88  a b (fun r=>r=Z70 a b):=by
 exact ⟨trivial,trivial,⟨Z40 h.1,Z40 h.2⟩,rfl⟩
def Zdk:=fun (a b:Nat) (post:Bool × Unit→Prop)=>∃ (h:W64 a),∃ (h:W64 b),∃ (h:W2 (Zk a).fst (Zk b).fst),∀ (a_1:Bool),a_1=decide ((ordR
 (Zk a).fst (Zk b).fst).fst<(0:Int))→post (a_1,())
theorem Z16d (a:Nat) (b:Nat) (h:W2 a b):Zdk  a b (fun r=>r=Zfi a b):=by
 refine ⟨by first | trivial | exact h.1,by first | trivial | exact h.2,⟨Z40 h.1,Z40 h.2⟩,?_⟩
 rintro _ rfl
 rfl
def Z5y:=fun (x y:Int) (post:Int × Unit→Prop)=>False
theorem Zol (x:Int) (y:Int) (h:WCmp x y none):Z5y  x y (fun r=>r=Z9c x y none):=by
 obtain ⟨_,e,_⟩:=h
 cases e
def Z5z:=fun (x y:Int) (p:List Nat) (post:Int × Unit→Prop)=>∃ (h:(0:Int)≤y∧y<(↑p.length:Int)),∃ (h:(0:Int)≤x∧x<(↑p.length:Int)),
 ∃ (h:W2 (p.getD y.toNat (0:Nat)) (p.getD x.toNat (0:Nat))),∀ (a:Int × Unit),a=Z70 (p.getD y.toNat (0:Nat)) (p.getD x.toNat (0:Nat))→post (a.fst,())
theorem Zom (x:Int) (y:Int) (p:List Nat) (h:WCmp x y (some p)):Z5z  x y p (fun r=>r=Z9c x y (some p)):=by
 obtain ⟨bed,e,hx,hy,hw⟩:=h
 cases e
 refine ⟨hy,hx,⟨hw _ (Z2w (by omega) 0),hw _ (Z2w (by omega) 0)⟩,?_⟩
 rintro _ rfl
 rfl
end Go.Lift

namespace Go.Lift
open Go.Proofs
def Z7g:Con:=Con.nam [.flt .f64,.flt .f64] [.snap (.int .i64)] (fun x=>W2 x.1 x.2.1) (fun x=>Z70 x.1 x.2.1)
def Zdw:Cx:=⟨Zf Zi,Zg [(88,Z4i),(87,Zb0)],RbG⟩
theorem Zmt:CxOk Tryz.prog Zdw:=⟨Z4 Z7,Z6 ⟨Z76,Zkc,trivial⟩⟩
theorem Zqv:FnAt Tryz.prog 73 Tryz.f73.ntmps Tryz.f73.results.toList (Tryz.f73.body.getD .skip):=⟨Tryz.f73,Tryz.func73,rfl,rfl,by simp,by decide⟩
theorem Zqw (a:Nat) (b:Nat) (post:Int × Unit→Prop):Za Zdw nHn Tryz.f73.ntmps Tryz.f73.results.toList (Tryz.f73.body.getD .skip) [.flt .f64,.flt .f64] [.snap (.int .i64)] (a,b,()) post=Z88  a b post:=by kernel_rfl
theorem Zdx:Z7g.holds Tryz.prog RbG 73 :=
 Zq (detP Zmt Z8 nHn Zqv (F:=fun x post=>Z88  x.1 x.2.1 post) (fun x post=>Zqw x.1 x.2.1 post) fun x h _=>Zvw  x.1 x.2.1 h)
def Zba:Con:=Con.nam [.flt .f64,.flt .f64] [.snap .bool] (fun x=>W2 x.1 x.2.1) (fun x=>Zfi x.1 x.2.1)
def Zl7:Cx:=⟨Zf Zi,Zg [(115,Zhu),(114,Zhx)],RbG⟩
theorem Zsz:CxOk Tryz.prog Zl7:=⟨Z4 Z7,Z6 ⟨Zz5,Zzc,trivial⟩⟩
theorem Z107:FnAt Tryz.prog 78 Tryz.f78.ntmps Tryz.f78.results.toList (Tryz.f78.body.getD .skip):=⟨Tryz.f78,Tryz.func78,rfl,rfl,by simp,by decide⟩
theorem Z108 (a:Nat) (b:Nat) (post:Bool × Unit→Prop):Za Zl7 nHn Tryz.f78.ntmps Tryz.f78.results.toList (Tryz.f78.body.getD .skip) [.flt .f64,.flt .f64] [.snap .bool] (a,b,()) post=Zdk  a b post:=by kernel_rfl
theorem Zl8:Zba.holds Tryz.prog RbG 78 :=
 Zq (detP Zsz Z8 nHn Z107 (F:=fun x post=>Zdk  x.1 x.2.1 post) (fun x post=>Z108 x.1 x.2.1 post) fun x h _=>Z16d  x.1 x.2.1 h)
def Zco:Con:=Con.nam [.int .i64,.int .i64,.ptr (.slice (.flt .f64))] [.snap (.int .i64)] (fun x=>WCmp x.1 x.2.1 x.2.2.1) (fun x=>Z9c x.1 x.2.1 x.2.2.1)
def Z60:Hn:=nHn
def Z6n:Cx:=⟨Zf Zi,Zg [(73,Z7g)],RbG⟩
theorem Zl9:CxOk Tryz.prog Z6n:=⟨Z4 Z7,Z6 ⟨Zdx,trivial⟩⟩
theorem Zon:FnAt Tryz.prog 72 Tryz.f72.ntmps Tryz.f72.results.toList (Tryz.f72.body.getD .skip):=⟨Tryz.f72,Tryz.func72,rfl,rfl,by simp,by decide⟩
theorem Zla (x:Int) (y:Int) (post:Int × Unit→Prop):Za Z6n Z60 Tryz.f72.ntmps Tryz.f72.results.toList (Tryz.f72.body.getD .skip) [.int .i64,.int .i64,.ptr (.slice (.flt .f64))] [.snap (.int .i64)] (x,y,none,()) post=Z5y  x y post:=by kernel_rfl
theorem Zlb (x:Int) (y:Int) (p:List Nat) (post:Int × Unit→Prop):Za Z6n Z60 Tryz.f72.ntmps Tryz.f72.results.toList (Tryz.f72.body.getD .skip) [.int .i64,.int .i64,.ptr (.slice (.flt .f64))] [.snap (.int .i64)] (x,y,(some p),()) post=Z5z  x y p post:=by kernel_rfl
def Zqx (x:KS [.int .i64,.int .i64,.ptr (.slice (.flt .f64))]) (post:RS [.snap (.int .i64)]→Prop):Prop:=match x with
 | (z0,z1,none,y)=>Z5y  z0 z1 post
 | (z0,z1,some g,y)=>Z5z  z0 z1 g post
theorem Zqy:Zco.holds Tryz.prog RbG 72 :=
 Zq (detP Zl9 Z8 Z60 Zon (F:=Zqx) (fun x post=>match x with
  | (z0,z1,none,y)=>Zla z0 z1 post
  | (z0,z1,some g,y)=>Zlb z0 z1 g post) fun x h w=>match x,h,w with
  | (z0,z1,none,y),h,w=>Zol  z0 z1 h
  | (z0,z1,some g,y),h,w=>Zom  z0 z1 g h )
end Go.Lift

namespace Go.Lift
open Go.Proofs
def Zlc:Con:=Con.nam [.slice (.int .i64)] [.snap .bool] (fun _=>True) (fun x=>Z16z x.1)
def Zig:Hn:={ loops:=Z2b [(3,{ ls:=[(.slot 8,.data (.int .i64)),(.slot 3,.data (.int .i64))],os:=[] })],joins:=fun _=>none,named:=true }
def Zld:Cx:=⟨Zf Zi,Zg [],RbG⟩
theorem Zt0:CxOk Tryz.prog Zld:=⟨Z4 Z7,fun f c h=>by cases h⟩
theorem Z109:FnAt Tryz.prog 56 Tryz.f56.ntmps Tryz.f56.results.toList (Tryz.f56.body.getD .skip):=⟨Tryz.f56,Tryz.func56,rfl,rfl,by simp,by decide⟩
theorem Z10a (l:List Int) (post:Bool × Unit→Prop):Za Zld Zig Tryz.f56.ntmps Tryz.f56.results.toList (Tryz.f56.body.getD .skip) [.slice (.int .i64)] [.snap .bool] (l,()) post=Zdi  l post:=by kernel_rfl
theorem Z13b:Zlc.holds Tryz.prog RbG 56 :=
 Zq (detP Zt0 Z8 Zig Z109 (F:=fun x post=>Zdi  x.1 post) (fun x post=>Z10a x.1 post) fun x _ w=>Z167  x.1 w)
def Z4p:Con:=Con.nam [.slice (.int .i64)] [.own 2 (.int .i64)] (fun x=>Z170 x.1) (fun x=>Zpt x.1)
def Z45:Hn:={ loops:=fun _=>none,joins:=fun _=>none,named:=true }
def Z4q:Cx:=⟨Zf Zi,Zg [],RbG⟩
theorem Z8s:CxOk Tryz.prog Z4q:=⟨Z4 Z7,fun f c h=>by cases h⟩
theorem Za4:FnAt Tryz.prog 57 Tryz.f57.ntmps Tryz.f57.results.toList (Tryz.f57.body.getD .skip):=⟨Tryz.f57,Tryz.func57,rfl,rfl,by simp,by decide⟩
theorem Za5 (l:List Int) (post:(List Int) × Unit→Prop):Za Z4q Z45 Tryz.f57.ntmps Tryz.f57.results.toList (Tryz.f57.body.getD .skip) [.slice (.int .i64)] [.own 2 (.int .i64)] (l,()) post=Z2z  l post:=by kernel_rfl
theorem Zbb:Z4p.holds Tryz.prog RbG 57 :=
 Zq (detP Z8s Z8 Z45 Za4 (F:=fun x post=>Z2z  x.1 post) (fun x post=>Za5 x.1 post) fun x h _=>Zcm  x.1 h)
def Z79:Con:=Con.nam [.ptr Zx,.slice (.flt .f64),.int .i64] [.snap (.int .i64)] (fun x=>Z27 x.1 x.2.1 x.2.2.1) (fun x=>Z1m x.1 x.2.1 x.2.2.1)
def Z9y:Hn:={ loops:=Z2b [(5,{ ls:=[(.slot 34,.data (.int .i64)),(.slot 7,.data (.int .i64))],os:=[] })],joins:=fun _=>none,named:=true }
def Zbc:Cx:=⟨Zf Zi,Zg [(31,Z2v),(46,Z9x),(75,Zcn),(73,Z7g)],RbG⟩
theorem Zt1:CxOk Tryz.prog Zbc:=⟨Z4 Z7,Z6 ⟨Z3p,Zms,Zqu,Zdx,trivial⟩⟩
theorem Z10b:FnAt Tryz.prog 32 Tryz.f32.ntmps Tryz.f32.results.toList (Tryz.f32.body.getD .skip):=⟨Tryz.f32,Tryz.func32,rfl,rfl,by simp,by decide⟩
theorem Zt2 (bed:List Nat) (c:Int) (post:Int × Unit→Prop):Za Zbc Z9y Tryz.f32.ntmps Tryz.f32.results.toList (Tryz.f32.body.getD .skip) [.ptr Zx,.slice (.flt .f64),.int .i64] [.snap (.int .i64)] (none,bed,c,()) post=Z9m  bed c post:=by kernel_rfl
theorem Zt3 (g:Int × (List (Int × Int × Int × Int)) × (List ((Int × Int) × Int)) × (List (List Int)) × (List Int) × (List Nat) × List Nat) (bed:List Nat) (c:Int) (post:Int × Unit→Prop):Za Zbc Z9y Tryz.f32.ntmps Tryz.f32.results.toList (Tryz.f32.body.getD .skip) [.ptr Zx,.slice (.flt .f64),.int .i64] [.snap (.int .i64)] ((some g),bed,c,()) post=Z9n  g bed c post:=by kernel_rfl
def Z13c (x:KS [.ptr Zx,.slice (.flt .f64),.int .i64]) (post:RS [.snap (.int .i64)]→Prop):Prop:=match x with
 | (none,y)=>Z9m  y.1 y.2.1 post
 | (some g,y)=>Z9n  g y.1 y.2.1 post
theorem Zbd:Z79.holds Tryz.prog RbG 32 :=
 Zq (detP Zt1 Z8 Z9y Z10b (F:=Z13c) (fun x post=>match x with
  | (none,y)=>Zt2 y.1 y.2.1 post
  | (some g,y)=>Zt3 g y.1 y.2.1 post) fun x h w=>match x,h,w with
  | (none,y),h,w=>Zzx  y.1 y.2.1 h w
  | (some g,y),h,w=>Zzy  g y.1 y.2.1 h w)
def Zle:Con:=Con.nam [.ptr Z2h,.slice (.flt .f64),.int .i64] [.snap (.int .i64)] (fun x=>Z3m x.1 x.2.1 x.2.2.1) (fun x=>Z3l x.1 x.2.1 x.2.2.1)
def Z9z:Hn:={ loops:=Z2b [(5,{ ls:=[(.slot 8,.data (.int .i64)),(.slot 7,.data (.int .i64))],os:=[] })],joins:=fun _=>none,named:=true }
def Zbe:Cx:=⟨Zf Zi,Zg [(76,Z9w),(77,Z5t),(64,Z86),(78,Zba)],RbG⟩
theorem Zt4:CxOk Tryz.prog Zbe:=⟨Z4 Z7,Z6 ⟨Zmq,Za7,Zgg,Zl8,trivial⟩⟩
theorem Z10c:FnAt Tryz.prog 33 Tryz.f33.ntmps Tryz.f33.results.toList (Tryz.f33.body.getD .skip):=⟨Tryz.f33,Tryz.func33,rfl,rfl,by simp,by decide⟩
theorem Zt5 (bed:List Nat) (c:Int) (post:Int × Unit→Prop):Za Zbe Z9z Tryz.f33.ntmps Tryz.f33.results.toList (Tryz.f33.body.getD .skip) [.ptr Z2h,.slice (.flt .f64),.int .i64] [.snap (.int .i64)] (none,bed,c,()) post=Z9o  bed c post:=by kernel_rfl
theorem Zt6 (g:Int × (List (Int × Int × Int × Int)) × List Int) (bed:List Nat) (c:Int) (post:Int × Unit→Prop):Za Zbe Z9z Tryz.f33.ntmps Tryz.f33.results.toList (Tryz.f33.body.getD .skip) [.ptr Z2h,.slice (.flt .f64),.int .i64] [.snap (.int .i64)] ((some g),bed,c,()) post=Z9p  g bed c post:=by kernel_rfl
def Z13d (x:KS [.ptr Z2h,.slice (.flt .f64),.int .i64]) (post:RS [.snap (.int .i64)]→Prop):Prop:=match x with
 | (none,y)=>Z9o  y.1 y.2.1 post
 | (some g,y)=>Z9p  g y.1 y.2.1 post
theorem Z13e:Zle.holds Tryz.prog RbG 33 :=
 Zq (detP Zt4 Z8 Z9z Z10c (F:=Z13d) (fun x post=>match x with
  | (none,y)=>Zt5 y.1 y.2.1 post
  | (some g,y)=>Zt6 g y.1 y.2.1 post) fun x h w=>match x,h,w with
  | (none,y),h,w=>Zzz  y.1 y.2.1 h w
  | (some g,y),h,w=>Z100  g y.1 y.2.1 h w)
def Z7h:Con:=Con.nam [.slice (.int .i64),.slice (.int .i64)] [.snap .bool] (fun _=>True) (fun x=>Zya x.1 x.2.1)
def Zcp:Hn:={ loops:=Z2b [(4,{ ls:=[(.slot 5,.data (.int .i64))],os:=[] })],joins:=fun _=>none,named:=true }
def Zdy:Cx:=⟨Zf Zi,Zg [],RbG⟩
theorem Zmu:CxOk Tryz.prog Zdy:=⟨Z4 Z7,fun f c h=>by cases h⟩
theorem Zqz:FnAt Tryz.prog 28 Tryz.f28.ntmps Tryz.f28.results.toList (Tryz.f28.body.getD .skip):=⟨Tryz.f28,Tryz.func28,rfl,rfl,by simp,by decide⟩
theorem Zr0 (a:List Int) (b:List Int) (post:Bool × Unit→Prop):Za Zdy Zcp Tryz.f28.ntmps Tryz.f28.results.toList (Tryz.f28.body.getD .skip) [.slice (.int .i64),.slice (.int .i64)] [.snap .bool] (a,b,()) post=Z85  a b post:=by kernel_rfl
theorem Zdz:Z7h.holds Tryz.prog RbG 28 :=
 Zq (detP Zmu Z8 Zcp Zqz (F:=fun x post=>Z85  x.1 x.2.1 post) (fun x post=>Zr0 x.1 x.2.1 post) fun x _ w=>Zvj  x.1 x.2.1 w)
end Go.Lift

namespace Go.Lift
def Z5b:=fun (N:Nat) (bed:List Nat) (a b:Int) (post:List Int × Unit→Prop)=>∀ (a_1:Bool),a_1=decide (i64.wrap (b - a)<(1:Int))→Br a_1
 (post ([],())) (∀ (a_2:Bool),a_2=(i64.wrap (b - a)==(1:Int))→Br a_2 (((0:Nat)=(0:Nat)∧(1:Nat)=(1:Nat))∧post ([a],())) (∃ (h:(2:Int)≠(0 :
 Int)),∃ (h:Z16y N bed a (i64.wrap (a+i64.wrap ((i64.wrap (b - a)).tdiv (2:Int))))),∀ (a_3:List Int × Unit),a_3=Z5j bed a
 (i64.wrap (a+i64.wrap ((i64.wrap (b - a)).tdiv (2:Int))))→∃ (h:Z16y N bed (i64.wrap (a+i64.wrap ((i64.wrap (b - a)).tdiv
 (2:Int)))) b),∀ (a_4:List Int × Unit),a_4=Z5j bed (i64.wrap (a+i64.wrap ((i64.wrap (b - a)).tdiv (2:Int)))) b→∃ (h:WMrg bed (List.take
 a_3.fst.length (List.drop (0:Nat) a_3.fst)) (List.take a_4.fst.length (List.drop (0:Nat) a_4.fst))),∀ (a:List Int × Unit),a=mrgR bed (List.take a_3.fst.length (List.drop
 (0:Nat) a_3.fst)) (List.take a_4.fst.length (List.drop (0:Nat) a_4.fst))→((0:Nat)=(0:Nat)∧a.fst.length=a.fst.length)∧post (a.fst,())))
theorem Zvx (N:Nat) (bed:List Nat) (a b:Int) (h:Z16y (N+1) bed a b):Z5b N bed a b (fun r=>r=Z5j bed a b):=by
 obtain ⟨⟨⟨hw,hb⟩,h0,h1,h2⟩,hN⟩:=h
 unfold Z5b
 rw [Zt (x:=b - a) (by omega) (by omega)]
 rintro _ rfl
 refine Br.intro (fun d=>?_) fun d=>?_
 ·have d:b - a<1:=of_decide_eq_true d
  have e:Z1l bed a b=[]:=List.eq_nil_of_length_eq_zero (by rw [Zej]; omega)
  show ([],())=(Z1l bed a b,())
  rw [e]
 have d:¬ b - a<1:=of_decide_eq_false d
 rintro _ rfl
 refine Br.intro (fun e=>?_) fun e=>?_
 ·have e:b - a=1:=by simpa using e
  refine ⟨⟨by trivial,by trivial⟩,?_⟩
  show ([a],())=(Z1l bed a b,())
  have hs:seg a b=[a]:=by
   unfold seg
   rw [show b.toNat - a.toNat=1 by omega]
   show [((a.toNat:Nat):Int)]=[a]
   rw [show ((a.toNat:Nat):Int)=a by omega]
  rw [← Z5g (bed:=bed) (a:=a) (b:=b) (l:=[a]) (by rw [hs]) (List.pairwise_singleton _ _)]
 have e:¬ b - a=1:=by simpa using e
 have q:Int.tdiv (b - a) 2=(b - a) / 2:=Int.tdiv_eq_ediv_of_nonneg (by omega)
 rw [q,Zt (x:=(b - a) / 2) (by omega) (by omega),Zt (x:=a+(b - a) / 2) (by omega) (by omega)]
 obtain ⟨m,hm⟩:∃ m,a+(b - a) / 2=m:=⟨_,rfl⟩
 rw [hm]
 have hab:a<m∧m<b:=by omega
 refine ⟨by decide,⟨⟨⟨hw,hb⟩,by omega,by omega,by omega⟩,by omega⟩,?_⟩
 rintro _ rfl
 refine ⟨⟨⟨⟨hw,hb⟩,by omega,by omega,by omega⟩,by omega⟩,?_⟩
 rintro _ rfl
 have e1:List.take (Z5j bed a m).1.length (List.drop 0 (Z5j bed a m).1)=Z1l bed a m:=by rw [List.drop_zero,List.take_length]; rfl
 have e2:List.take (Z5j bed m b).1.length (List.drop 0 (Z5j bed m b).1)=Z1l bed m b:=by rw [List.drop_zero,List.take_length]; rfl
 rw [e1,e2]
 refine ⟨⟨⟨hw,hb⟩,fun x hx=>by have:=Z71 hx; omega,fun x hx=>by have:=Z71 hx; omega,by rw [Zej]; omega,by rw [Zej]; omega⟩,?_⟩
 rintro _ rfl
 refine ⟨⟨by trivial,by trivial⟩,?_⟩
 show (mrgL bed (Z1l bed a m) (Z1l bed m b),())=(Z1l bed a b,())
 rw [Z1jh h0 (by omega) (by omega)]
end Go.Lift

namespace Go.Lift
def Za0:=fun (bed:List Nat) (l r:List Int) (post:List Int × Unit→Prop)=>HIs [] []∧∃ (I:Int × Int × List Int × Unit→Unit→Prop),∃ (μ:Int × Int ×
 List Int × Unit→Unit→Nat),I ((0:Int),(0:Int),[],()) ()∧∀ (x:Int × Int × List Int × Unit) (y:Unit),I x y→∀ (a:Bool),a=decide (x.fst<(↑l.length:Int)) →
 Br a (∀ (a:Bool),a=(x.snd.fst==(↑r.length:Int))→Br a (∃ (h:(0:Int)≤x.fst∧x.fst<(↑l.length:Int)),∃ (h:x.snd.snd.fst.length=x.snd.snd.fst.length ∧
 (x.snd.snd.fst.length+(1:Nat))*(8:Nat)≤(140737488355328:Nat)),((0:Nat)=(0:Nat)∧x.snd.snd.fst.length+(1:Nat)=(x.snd.snd.fst++[l.getD x.fst.toNat (0 :
 Int)]).length)∧HIs [] []∧I (i64.wrap (x.fst+(1:Int)),x.snd.fst,x.snd.snd.fst++[l.getD x.fst.toNat (0:Int)],()) ()∧μ (i64.wrap (x.fst+(1:Int)),
 x.snd.fst,x.snd.snd.fst++[l.getD x.fst.toNat (0:Int)],()) ()<μ x y) (∀ (a:Bool),a=decide (x.fst<(↑l.length:Int))→Br a (∃ (h:(0:Int)≤x.fst∧x.fst <
 (↑l.length:Int)),∃ (h:(0:Int)≤l.getD x.fst.toNat (0:Int)∧l.getD x.fst.toNat (0:Int)<(↑bed.length:Int)),∃ (h:(0:Int)≤x.snd.fst∧x.snd.fst<(↑r.length :
 Int)),∃ (h:(0:Int)≤r.getD x.snd.fst.toNat (0:Int)∧r.getD x.snd.fst.toNat (0:Int)<(↑bed.length:Int)),∃ (h:W2 (bed.getD (Int.toNat (l.getD x.fst.toNat (0 :
 Int))) (0:Nat)) (bed.getD (Int.toNat (r.getD x.snd.fst.toNat (0:Int))) (0:Nat))),∀ (a:Bool × Unit),a=Zfi (bed.getD (Int.toNat (l.getD x.fst.toNat (0:Int))) (0 :
 Nat)) (bed.getD (Int.toNat (r.getD x.snd.fst.toNat (0:Int))) (0:Nat))→∀ (a_1:Bool),a_1=a.fst→Br (!a_1) (∃ (h:(0:Int)≤x.fst∧x.fst<(↑l.length:Int)),∃ (h :
 x.snd.snd.fst.length=x.snd.snd.fst.length∧(x.snd.snd.fst.length+(1:Nat))*(8:Nat)≤(140737488355328:Nat)),((0:Nat)=(0:Nat)∧x.snd.snd.fst.length+(1:Nat)
 = (x.snd.snd.fst++[l.getD x.fst.toNat (0:Int)]).length)∧HIs [] []∧I (i64.wrap (x.fst+(1:Int)),x.snd.fst,x.snd.snd.fst++[l.getD x.fst.toNat (0:Int)],())
 ()∧μ (i64.wrap (x.fst+(1:Int)),x.snd.fst,x.snd.snd.fst++[l.getD x.fst.toNat (0:Int)],()) ()<μ x y) (∃ (h:(0:Int)≤x.snd.fst∧x.snd.fst<(↑r.length :
 Int)),∃ (h:x.snd.snd.fst.length=x.snd.snd.fst.length∧(x.snd.snd.fst.length+(1:Nat))*(8:Nat)≤(140737488355328:Nat)),((0:Nat)=(0:Nat) ∧
 x.snd.snd.fst.length+(1:Nat)=(x.snd.snd.fst++[r.getD x.snd.fst.toNat (0:Int)]).length)∧HIs [] []∧I (x.fst,i64.wrap (x.snd.fst+(1:Int)),x.snd.snd.fst ++
 [r.getD x.snd.fst.toNat (0:Int)],()) ()∧μ (x.fst,i64.wrap (x.snd.fst+(1:Int)),x.snd.snd.fst++[r.getD x.snd.fst.toNat (0:Int)],()) ()<μ x y)) (∃ (h:(0 :
 Int)≤x.snd.fst∧x.snd.fst<(↑r.length:Int)),∃ (h:x.snd.snd.fst.length=x.snd.snd.fst.length∧(x.snd.snd.fst.length+(1:Nat))*(8:Nat)≤(140737488355328:Nat)),
 ((0:Nat)=(0:Nat)∧x.snd.snd.fst.length+(1:Nat)=(x.snd.snd.fst++[r.getD x.snd.fst.toNat (0:Int)]).length)∧HIs [] []∧I (x.fst,i64.wrap (x.snd.fst+(1
 : Int)),x.snd.snd.fst++[r.getD x.snd.fst.toNat (0:Int)],()) ()∧μ (x.fst,i64.wrap (x.snd.fst+(1:Int)),x.snd.snd.fst++[r.getD x.snd.fst.toNat (0:Int)],())
 ()<μ x y))) (∀ (a:Bool),a=decide (x.snd.fst<(↑r.length:Int))→Br a (∀ (a:Bool),a=(x.snd.fst==(↑r.length:Int))→Br a (∃ (h:(0:Int)≤x.fst∧x.fst <
 (↑l.length:Int)),∃ (h:x.snd.snd.fst.length=x.snd.snd.fst.length∧(x.snd.snd.fst.length+(1:Nat))*(8:Nat)≤(140737488355328:Nat)),((0:Nat)=(0:Nat) ∧
 x.snd.snd.fst.length+(1:Nat)=(x.snd.snd.fst++[l.getD x.fst.toNat (0:Int)]).length)∧HIs [] []∧I (i64.wrap (x.fst+(1:Int)),x.snd.fst,x.snd.snd.fst ++
 [l.getD x.fst.toNat (0:Int)],()) ()∧μ (i64.wrap (x.fst+(1:Int)),x.snd.fst,x.snd.snd.fst++[l.getD x.fst.toNat (0:Int)],()) ()<μ x y) (∀ (a:Bool),a =
 decide (x.fst<(↑l.length:Int))→Br a (∃ (h:(0:Int)≤x.fst∧x.fst<(↑l.length:Int)),∃ (h:(0:Int)≤l.getD x.fst.toNat (0:Int)∧l.getD x.fst.toNat (0:Int) <
 (↑bed.length:Int)),∃ (h:(0:Int)≤x.snd.fst∧x.snd.fst<(↑r.length:Int)),∃ (h:(0:Int)≤r.getD x.snd.fst.toNat (0:Int)∧r.getD x.snd.fst.toNat (0:Int) <
 (↑bed.length:Int)),∃ (h:W2 (bed.getD (Int.toNat (l.getD x.fst.toNat (0:Int))) (0:Nat)) (bed.getD (Int.toNat (r.getD x.snd.fst.toNat (0:Int))) (0:Nat))),∀ (a:Bool ×
 Unit),a=Zfi (bed.getD (Int.toNat (l.getD x.fst.toNat (0:Int))) (0:Nat)) (bed.getD (Int.toNat (r.getD x.snd.fst.toNat (0:Int))) (0:Nat))→∀ (a_1:Bool),a_1=a.fst
 → Br (!a_1) (∃ (h:(0:Int)≤x.fst∧x.fst<(↑l.length:Int)),∃ (h:x.snd.snd.fst.length=x.snd.snd.fst.length∧(x.snd.snd.fst.length+(1:Nat))*(8:Nat) ≤
 (140737488355328:Nat)),((0:Nat)=(0:Nat)∧x.snd.snd.fst.length+(1:Nat)=(x.snd.snd.fst++[l.getD x.fst.toNat (0:Int)]).length)∧HIs [] []∧I (i64.wrap
 (x.fst+(1:Int)),x.snd.fst,x.snd.snd.fst++[l.getD x.fst.toNat (0:Int)],()) ()∧μ (i64.wrap (x.fst+(1:Int)),x.snd.fst,x.snd.snd.fst++[l.getD x.fst.toNat
 (0:Int)],()) ()<μ x y) (∃ (h:(0:Int)≤x.snd.fst∧x.snd.fst<(↑r.length:Int)),∃ (h:x.snd.snd.fst.length=x.snd.snd.fst.length∧(x.snd.snd.fst.length+(1:Nat))
 * (8:Nat)≤(140737488355328:Nat)),((0:Nat)=(0:Nat)∧x.snd.snd.fst.length+(1:Nat)=(x.snd.snd.fst++[r.getD x.snd.fst.toNat (0:Int)]).length)∧HIs [] []∧I
 (x.fst,i64.wrap (x.snd.fst+(1:Int)),x.snd.snd.fst++[r.getD x.snd.fst.toNat (0:Int)],()) ()∧μ (x.fst,i64.wrap (x.snd.fst+(1:Int)),x.snd.snd.fst
 ++ [r.getD x.snd.fst.toNat (0:Int)],()) ()<μ x y)) (∃ (h:(0:Int)≤x.snd.fst∧x.snd.fst<(↑r.length:Int)),∃ (h:x.snd.snd.fst.length=x.snd.snd.fst.length ∧
 (x.snd.snd.fst.length+(1:Nat))*(8:Nat)≤(140737488355328:Nat)),((0:Nat)=(0:Nat)∧x.snd.snd.fst.length+(1:Nat)=(x.snd.snd.fst++[r.getD x.snd.fst.toNat (0
 : Int)]).length)∧HIs [] []∧I (x.fst,i64.wrap (x.snd.fst+(1:Int)),x.snd.snd.fst++[r.getD x.snd.fst.toNat (0:Int)],()) ()∧μ (x.fst,i64.wrap
 (x.snd.fst+(1:Int)),x.snd.snd.fst++[r.getD x.snd.fst.toNat (0:Int)],()) ()<μ x y))) (((0:Nat)=(0:Nat)∧x.snd.snd.fst.length=x.snd.snd.fst.length)∧post
 (x.snd.snd.fst,())))
theorem Z10d (bed:List Nat) (l:List Int) (t:List Int) (h:WMrg bed l t):Za0  bed l t (fun r=>r=mrgR bed l t):=by
 obtain ⟨⟨hw,hb⟩,hl,hr,ll,lr⟩:=h
 refine ⟨rfl,fun x _=>∃ i j:Nat,x.1=i∧x.2.1=j∧i≤l.length∧j≤t.length∧x.2.2.1.length=i+j∧x.2.2.1++mrgL bed (l.drop i) (t.drop j)=mrgL bed l t,fun x _=>l.length+t.length - (x.1+x.2.1).toNat,⟨0,0,rfl,rfl,by omega,by omega,rfl,rfl⟩,?_⟩
 rintro ⟨_,_,out,⟨⟩⟩ _ ⟨i,j,rfl,rfl,hi,hj,lo,ho⟩
 dsimp only at lo ho ⊢
 have w1:∀ u:Nat,u≤65536→i64.wrap ((u:Int)+1)=((u+1:Nat):Int):=fun u h=>by rw [Zt (by omega) (by omega)]; omega
 rw [w1 i (by omega),w1 j (by omega)]
 simp only [Int.toNat_natCast]
 have dle:∀ u v:Nat,decide ((u:Int)<v)=true→u<v:=fun u v d=>by have d:(u:Int)<v:=of_decide_eq_true d; omega
 have dge:∀ u v:Nat,decide ((u:Int)<v)=false→v≤u:=fun u v d=>by have d:¬ (u:Int)<v:=of_decide_eq_false d; omega
 have nextA:i<l.length→(j=t.length∨(j<t.length∧keyB bed (at0 l i)≤keyB bed (at0 t j)))→(out++[at0 l i])++mrgL bed (l.drop (i+1)) (t.drop j)=mrgL bed l t:=fun h1 h2=>by
  rw [← ho,Z1hs h1 h2,List.append_assoc]; rfl
 have nextB:j<t.length→(i=l.length∨(i<l.length∧¬ keyB bed (at0 l i)≤keyB bed (at0 t j)))→(out++[at0 t j])++mrgL bed (l.drop i) (t.drop (j+1))=mrgL bed l t:=fun h1 h2=>by
  rw [← ho,Z1g1 h1 h2,List.append_assoc]; rfl
 rintro _ rfl
 refine Br.intro (fun d=>?_) fun d=>?_
 rotate_left
 ·rintro _ rfl
  refine Br.intro (fun d2=>?_) fun d2=>?_
  rotate_left
  ·have d:=dge _ _ d
   have d2:=dge _ _ d2
   refine ⟨⟨by trivial,by trivial⟩,?_⟩
   rw [show i=l.length by omega,show j=t.length by omega,List.drop_length,List.drop_length] at ho
   have e:mrgL bed [] []=[]:=by unfold mrgL; simp
   rw [e,List.append_nil] at ho
   rw [ho]; rfl
  have d:i<l.length∨j<t.length:=.inr (dle _ _ d2)
  rintro _ rfl
  refine Br.intro (fun e=>?_) fun e=>?_
  ·have e:j=t.length:=by
    have e:(j:Int)=t.length:=by simpa using e
    omega
   exact ⟨⟨by omega,by omega⟩,⟨by trivial,by omega⟩,⟨by trivial,by simp⟩,rfl,⟨i+1,j,rfl,rfl,by omega,hj,by rw [List.length_append]; simp; omega,nextA (by omega) (.inl e)⟩,by omega⟩
  have e:j<t.length:=by
   have e:¬ (j:Int)=t.length:=by simpa using e
   omega
  rintro _ rfl
  refine Br.intro (fun f=>?_) fun f=>?_
  rotate_left
  ·have f:=dge _ _ f
   exact ⟨⟨by omega,by omega⟩,⟨by trivial,by omega⟩,⟨by trivial,by simp⟩,rfl,⟨i,j+1,rfl,rfl,hi,by omega,by rw [List.length_append]; simp; omega,nextB e (.inl (by omega))⟩,by omega⟩
  have f:=dle _ _ f
  have m1:=hl _ (Z8m f)
  have m2:=hr _ (Z8m e)
  refine ⟨⟨by omega,by omega⟩,m1,⟨by omega,by omega⟩,m2,⟨hw _ (Z2w (by show (at0 l i).toNat<_; omega) 0),hw _ (Z2w (by show (at0 t j).toNat<_; omega) 0)⟩,?_⟩
  rintro _ rfl
  rintro _ rfl
  have lk:=Z18o bed (at0 l i) (at0 t j)
  refine Br.intro (fun g=>?_) fun g=>?_
  ·have g:¬ Z3o (bed.getD (at0 l i).toNat 0) (bed.getD (at0 t j).toNat 0)=true:=by
    intro q
    have g:(!Z3o (bed.getD (at0 l i).toNat 0) (bed.getD (at0 t j).toNat 0))=true:=g
    rw [q] at g; exact absurd g (by decide)
   rw [lk] at g
   exact ⟨⟨by omega,by omega⟩,⟨by trivial,by omega⟩,⟨by trivial,by simp⟩,rfl,⟨i+1,j,rfl,rfl,by omega,hj,by rw [List.length_append]; simp; omega,nextA f (.inr ⟨e,by omega⟩)⟩,by omega⟩
  ·have g:Z3o (bed.getD (at0 l i).toNat 0) (bed.getD (at0 t j).toNat 0)=true:=by
    have g:(!Z3o (bed.getD (at0 l i).toNat 0) (bed.getD (at0 t j).toNat 0))=false:=g
    simpa using g
   rw [lk] at g
   exact ⟨⟨by omega,by omega⟩,⟨by trivial,by omega⟩,⟨by trivial,by simp⟩,rfl,⟨i,j+1,rfl,rfl,hi,by omega,by rw [List.length_append]; simp; omega,nextB e (.inr ⟨f,by omega⟩)⟩,by omega⟩
 have d:i<l.length∨j<t.length:=.inl (dle _ _ d)
 rintro _ rfl
 refine Br.intro (fun e=>?_) fun e=>?_
 ·have e:j=t.length:=by
   have e:(j:Int)=t.length:=by simpa using e
   omega
  exact ⟨⟨by omega,by omega⟩,⟨by trivial,by omega⟩,⟨by trivial,by simp⟩,rfl,⟨i+1,j,rfl,rfl,by omega,hj,by rw [List.length_append]; simp; omega,nextA (by omega) (.inl e)⟩,by omega⟩
 have e:j<t.length:=by
  have e:¬ (j:Int)=t.length:=by simpa using e
  omega
 rintro _ rfl
 refine Br.intro (fun f=>?_) fun f=>?_
 rotate_left
 ·have f:=dge _ _ f
  exact ⟨⟨by omega,by omega⟩,⟨by trivial,by omega⟩,⟨by trivial,by simp⟩,rfl,⟨i,j+1,rfl,rfl,hi,by omega,by rw [List.length_append]; simp; omega,nextB e (.inl (by omega))⟩,by omega⟩
 have f:=dle _ _ f
 have m1:=hl _ (Z8m f)
 have m2:=hr _ (Z8m e)
 refine ⟨⟨by omega,by omega⟩,m1,⟨by omega,by omega⟩,m2,⟨hw _ (Z2w (by show (at0 l i).toNat<_; omega) 0),hw _ (Z2w (by show (at0 t j).toNat<_; omega) 0)⟩,?_⟩
 rintro _ rfl
 rintro _ rfl
 have lk:=Z18o bed (at0 l i) (at0 t j)
 refine Br.intro (fun g=>?_) fun g=>?_
 ·have g:¬ Z3o (bed.getD (at0 l i).toNat 0) (bed.getD (at0 t j).toNat 0)=true:=by
   intro q
   have g:(!Z3o (bed.getD (at0 l i).toNat 0) (bed.getD (at0 t j).toNat 0))=true:=g
   rw [q] at g; exact absurd g (by decide)
  rw [lk] at g
  exact ⟨⟨by omega,by omega⟩,⟨by trivial,by omega⟩,⟨by trivial,by simp⟩,rfl,⟨i+1,j,rfl,rfl,by omega,hj,by rw [List.length_append]; simp; omega,nextA f (.inr ⟨e,by omega⟩)⟩,by omega⟩
 ·have g:Z3o (bed.getD (at0 l i).toNat 0) (bed.getD (at0 t j).toNat 0)=true:=by
   have g:(!Z3o (bed.getD (at0 l i).toNat 0) (bed.getD (at0 t j).toNat 0))=false:=g
   simpa using g
  rw [lk] at g
  exact ⟨⟨by omega,by omega⟩,⟨by trivial,by omega⟩,⟨by trivial,by simp⟩,rfl,⟨i,j+1,rfl,rfl,hi,by omega,by rw [List.length_append]; simp; omega,nextB e (.inr ⟨f,by omega⟩)⟩,by omega⟩
def Zbf:=fun (bed:List Nat) (post:List Int × Unit→Prop)=>∃ (h:Z1d9 bed (0:Int) (↑bed.length:Int)),∀ (a:List Int × Unit),a=Z5j bed (0:Int)
 (↑bed.length:Int)→((0:Nat)=(0:Nat)∧a.fst.length=a.fst.length)∧post (a.fst,())
theorem Z13f (bed:List Nat) (h:WOrd bed):Zbf  bed (fun r=>r=Z9b bed):=by
 refine ⟨⟨h,by omega,by omega,by omega⟩,?_⟩
 rintro _ rfl
 exact ⟨⟨by trivial,by trivial⟩,rfl⟩
def Zbg:=fun (ty37 ty3:Nat) (bed:List Nat) (post:List Int × Unit→Prop)=>∃ (h:(0:Int)≤(↑bed.length:Int)∧(↑bed.length:Int)≤(↑bed.length:Int) ∧
 (↑bed.length:Int)*(↑(8:Nat):Int)≤(281474976710656:Int)),HIs [HObj.box Md.rw ty37 [SV.data (K.flt f64).slice bed],HObj.row Md.rw ty3 (K.int i64)
 (List.replicate bed.length (0:Int))] [HObj.box Md.rw ty37 [SV.data (K.flt f64).slice bed],HObj.row Md.rw ty3 (K.int i64) (List.replicate bed.length (0 :
 Int))]∧∃ (I:Int × Unit→List Int × Unit→Prop),∃ (μ:Int × Unit→List Int × Unit→Nat),I ((0:Int),()) (List.replicate bed.length (0:Int),())∧∀ (x:Int × Unit)
 (y:List Int × Unit),I x y→∀ (a:Bool),a=decide (x.fst<(↑bed.length:Int))→Br a (∃ (h:(0:Int)≤x.fst∧x.fst<(↑bed.length:Int)),HIs [HObj.box Md.rw ty37
 [SV.data (K.flt f64).slice bed],HObj.row Md.rw ty3 (K.int i64) (y.fst.set ((0:Nat)+x.fst.toNat) x.fst)] [HObj.box Md.rw ty37 [SV.data (K.flt
 f64).slice bed],HObj.row Md.rw ty3 (K.int i64) (y.fst.set ((0:Nat)+x.fst.toNat) x.fst)]∧I (i64.wrap (x.fst+(1:Int)),()) (y.fst.set ((0 :
 Nat)+x.fst.toNat) x.fst,())∧μ (i64.wrap (x.fst+(1:Int)),()) (y.fst.set ((0:Nat)+x.fst.toNat) x.fst,())<μ x y) (∃ (x:(ty3=ty3)∧(72:Nat)=(72 :
 Nat)∧bed.length=y.fst.length∧Z2y bed y.fst),∀ (ys:List Int),Rr (keyB bed) (0:Nat) y.fst.length y.fst ys∧Sgm (keyB bed) ys (0:Nat) y.fst.length→((0:Nat)=(0
 : Nat)∧bed.length=ys.length)∧post (ys,()))
theorem Z13g (ty0 ty1:Nat) (bed:List Nat) (h:WOrd bed):Zbg ty0 ty1 bed (fun r=>r=Z9b bed):=by
 obtain ⟨hw,hb⟩:=h
 have mx:maxN=281474976710656:=rfl
 refine ⟨⟨by omega,by omega,by omega⟩,rfl,fun x y=>∃ k:Nat,x.1=k∧k≤bed.length∧y.1.length=bed.length∧∀ j,j<k→at0 y.1 j=j,fun x _=>bed.length - x.1.toNat,⟨0,rfl,by omega,List.length_replicate,fun j h=>by omega⟩,?_⟩
 rintro ⟨_,⟨⟩⟩ ⟨y,⟨⟩⟩ ⟨k,rfl,hk,ly,hy⟩
 dsimp only at ly hy ⊢
 rintro _ rfl
 refine Br.intro (fun d=>?_) fun d=>?_
 ·have d:k<bed.length:=by have d:(k:Int)<bed.length:=of_decide_eq_true d; omega
  rw [Int.toNat_natCast,Nat.zero_add,Z26 d (by omega)]
  refine ⟨⟨by omega,by omega⟩,rfl,⟨k+1,rfl,by omega,by rw [List.length_set]; exact ly,fun j hj=>?_⟩,by omega⟩
  rw [Zan (by omega)]
  split
  ·rename_i e; rw [e]
  ·exact hy j (by omega)
 have d:k=bed.length:=by have d:¬ (k:Int)<bed.length:=of_decide_eq_false d; omega
 have e:y=seg 0 bed.length:=Z1k9 ly fun j hj=>hy j (by omega)
 refine ⟨⟨by trivial,by trivial,ly.symm,hw,fun x hx=>?_,by omega⟩,?_⟩
 ·rw [e] at hx
  have:=Z1bl hx
  omega
 rintro ys ⟨h1,h2⟩
 have q:=Z1dd (n:=bed.length) e h1 h2
 exact ⟨⟨by trivial,by rw [h1.len]; exact ly.symm⟩,by rw [q]; rfl⟩
end Go.Lift

namespace Go.Lift
def Z10e:=fun (ty3:Nat) (m:Md) (tb:Nat) (cs:List SV) (xs:List Int) (a b n:Int) (fv:EV) (k:EV→List HObj→Prop)=>HIs [HObj.box m tb cs,HObj.row Md.rw ty3
 (K.int i64) xs] [HObj.box m tb cs,HObj.row Md.rw ty3 (K.int i64) xs]∧∃ (I:Int × Unit→List Int × Unit→Prop),∃ (μ:Int × Unit→List Int × Unit→Nat),I
 ((0:Int),()) (xs,())∧∀ (x:Int × Unit) (y:List Int × Unit),I x y→∀ (a_1:Bool),a_1=decide (x.fst<n)→Br a_1 (∃ (h:(0:Int)≤i64.wrap (b+x.fst) ∧
 i64.wrap (b+x.fst)<(↑xs.length:Int)),∃ (h:(0:Int)≤i64.wrap (a+x.fst)∧i64.wrap (a+x.fst)<(↑xs.length:Int)),∃ (h:(0:Int) ≤
 i64.wrap (a+x.fst)∧i64.wrap (a+x.fst)<(↑xs.length:Int)),∃ (h:(0:Int)≤i64.wrap (b+x.fst)∧i64.wrap (b+x.fst)<(↑xs.length :
 Int)),HIs [HObj.box m tb cs,HObj.row Md.rw ty3 (K.int i64) ((y.fst.set ((0:Nat)+(i64.wrap (a+x.fst)).toNat) (y.fst.getD ((0:Nat)+(i64.wrap (b +
 x.fst)).toNat) (0:Int))).set ((0:Nat)+(i64.wrap (b+x.fst)).toNat) (y.fst.getD ((0:Nat)+(i64.wrap (a+x.fst)).toNat) (0:Int)))] [HObj.box m tb cs,
 HObj.row Md.rw ty3 (K.int i64) ((y.fst.set ((0:Nat)+(i64.wrap (a+x.fst)).toNat) (y.fst.getD ((0:Nat)+(i64.wrap (b+x.fst)).toNat) (0 :
 Int))).set ((0:Nat)+(i64.wrap (b+x.fst)).toNat) (y.fst.getD ((0:Nat)+(i64.wrap (a+x.fst)).toNat) (0:Int)))]∧I (i64.wrap (x.fst+(1 :
 Int)),()) ((y.fst.set ((0:Nat)+(i64.wrap (a+x.fst)).toNat) (y.fst.getD ((0:Nat)+(i64.wrap (b+x.fst)).toNat) (0:Int))).set ((0:Nat) +
 (i64.wrap (b+x.fst)).toNat) (y.fst.getD ((0:Nat)+(i64.wrap (a+x.fst)).toNat) (0:Int)),())∧μ (i64.wrap (x.fst+(1:Int)),()) ((y.fst.set ((0
 : Nat)+(i64.wrap (a+x.fst)).toNat) (y.fst.getD ((0:Nat)+(i64.wrap (b+x.fst)).toNat) (0:Int))).set ((0:Nat)+(i64.wrap (b+x.fst)).toNat)
 (y.fst.getD ((0:Nat)+(i64.wrap (a+x.fst)).toNat) (0:Int)),())<μ x y) (k (EV.tup []) [HObj.box m tb cs,HObj.row Md.rw ty3 (K.int i64) y.fst])
theorem Z1dk (ty0:Nat) (m:Md) (tb:Nat) (cs:List SV) (xs:List Int) (a b n:Int) (fv:EV) (k:EV→List HObj→Prop) (h:List.length xs≤maxN∧0≤a∧0≤n∧a+n≤b∧b+n≤(List.length xs:Int)) (hk:∀ ys:List Int,ys=Z2j xs (swI a.toNat b.toNat n.toNat)∧ys.Perm xs→k (.tup []) [.box m tb cs,.row .rw ty0 (.int .i64) ys]):Z10e ty0 m tb cs xs a b n fv k:=by
 obtain ⟨hl,ha,hn,hab,hb⟩:=h
 have mx:maxN=281474976710656:=rfl
 obtain ⟨A,rfl⟩:∃ q:Nat,a=(q:Int):=⟨a.toNat,by omega⟩
 obtain ⟨B,rfl⟩:∃ q:Nat,b=(q:Int):=⟨b.toNat,by omega⟩
 obtain ⟨N,rfl⟩:∃ q:Nat,n=(q:Int):=⟨n.toNat,by omega⟩
 simp only [Int.toNat_natCast] at hk
 refine ⟨rfl,fun x y=>∃ j:Nat,x.1=j∧j≤N∧y.1=Z2j xs (swI A B j)∧y.1.Perm xs,fun x _=>N - x.1.toNat,⟨0,rfl,by omega,(Z18j fun p _=>Z1hi A B p).symm,.refl _⟩,?_⟩
 rintro ⟨_,⟨⟩⟩ ⟨y,⟨⟩⟩ ⟨j,rfl,hj,hy,hp⟩
 dsimp only at hy hp ⊢
 have ly:y.length=xs.length:=by rw [hy,Z1g]
 rintro _ rfl
 refine Br.intro (fun d=>?_) fun d=>?_
 ·have d:j<N:=by have d:(j:Int)<N:=of_decide_eq_true d; omega
  rw [Zt (x:=(B:Int)+j) (by omega) (by omega),Zt (x:=(A:Int)+j) (by omega) (by omega),Zt (x:=(j:Int)+1) (by omega) (by omega),show ((B:Int)+j).toNat=B+j by omega,show ((A:Int)+j).toNat=A+j by omega,Nat.zero_add,Nat.zero_add]
  refine ⟨⟨by omega,by omega⟩,⟨by omega,by omega⟩,⟨by omega,by omega⟩,⟨by omega,by omega⟩,rfl,⟨j+1,by omega,by omega,?_,?_⟩,by omega⟩
  ·show swp y (A+j) (B+j)=_
   rw [hy]; exact Z1fx (by omega) (by omega)
  ·exact (Z18i (by omega) (by omega)).trans hp
 have d:j=N:=by have d:¬ (j:Int)<N:=of_decide_eq_false d; omega
 subst d
 exact hk _ ⟨hy,hp⟩
def Zr1:=fun (ty3:Nat) (md:Md) (tb:Nat) (cs:List SV) (xs:List Int) (a m b:Int) (fv:EV) (k:EV→List HObj→Prop)=>HIs [HObj.box md tb cs,HObj.row Md.rw
 ty3 (K.int i64) xs] [HObj.box md tb cs,HObj.row Md.rw ty3 (K.int i64) xs]∧∃ (I:Int × Int × Unit→List Int × Unit→Prop),∃ (μ:Int × Int × Unit→List Int
 × Unit→Nat),I (i64.wrap (m - a),i64.wrap (b - m),()) (xs,())∧∀ (x:Int × Int × Unit) (y:List Int × Unit),I x y→∀ (a:Bool),a=(x.fst != x.snd.fst)
 → Br a (∀ (a:Bool),a=decide (x.fst > x.snd.fst)→Br a (∃ (x_4:(ty3=ty3)∧xs.length=y.fst.length∧y.fst.length≤maxN∧(0:Int)≤i64.wrap (m - x.fst)∧(0
 : Int)≤x.snd.fst∧i64.wrap (m - x.fst)+x.snd.fst≤m∧m+x.snd.fst≤(↑y.fst.length:Int)),∀ (ys:List Int),ys=Z2j y.fst (swI (i64.wrap (m -
 x.fst)).toNat m.toNat x.snd.fst.toNat)∧ys.Perm y.fst→HIs [HObj.box md tb cs,HObj.row Md.rw ty3 (K.int i64) ys] [HObj.box md tb cs,HObj.row Md.rw ty3 (K.int
 i64) ys]∧I (i64.wrap (x.fst - x.snd.fst),x.snd.fst,()) (ys,())∧μ (i64.wrap (x.fst - x.snd.fst),x.snd.fst,()) (ys,())<μ x y) (∃ (x_4:(ty3 =
 ty3)∧xs.length=y.fst.length∧y.fst.length≤maxN∧(0:Int)≤i64.wrap (m - x.fst)∧(0:Int)≤x.fst∧i64.wrap (m - x.fst)+x.fst≤i64.wrap
 (i64.wrap (m+x.snd.fst) - x.fst)∧i64.wrap (i64.wrap (m+x.snd.fst) - x.fst)+x.fst≤(↑y.fst.length:Int)),∀ (ys:List Int),ys=Z2j y.fst (swI
 (i64.wrap (m - x.fst)).toNat (i64.wrap (i64.wrap (m+x.snd.fst) - x.fst)).toNat x.fst.toNat)∧ys.Perm y.fst→HIs [HObj.box md tb cs,HObj.row Md.rw ty3
 (K.int i64) ys] [HObj.box md tb cs,HObj.row Md.rw ty3 (K.int i64) ys]∧I (x.fst,i64.wrap (x.snd.fst - x.fst),()) (ys,())∧μ (x.fst,i64.wrap
 (x.snd.fst - x.fst),()) (ys,())<μ x y)) (∃ (x_3:(ty3=ty3)∧xs.length=y.fst.length∧y.fst.length≤maxN∧(0:Int)≤i64.wrap (m - x.fst)∧(0:Int)≤x.fst ∧
 i64.wrap (m - x.fst)+x.fst≤m∧m+x.fst≤(↑y.fst.length:Int)),∀ (ys:List Int),ys=Z2j y.fst (swI (i64.wrap (m - x.fst)).toNat m.toNat x.fst.toNat) ∧
 ys.Perm y.fst→k (EV.tup []) [HObj.box md tb cs,HObj.row Md.rw ty3 (K.int i64) ys])
theorem Z1gc (ty0:Nat) (md:Md) (tb:Nat) (cs:List SV) (xs:List Int) (a m b:Int) (fv:EV) (k:EV→List HObj→Prop) (h:List.length xs≤maxN∧0≤a∧a<m∧m<b∧b≤(List.length xs:Int)) (hk:∀ ys:List Int,ys=Z2j xs (rotI a.toNat m.toNat b.toNat)∧ys.Perm xs→k (.tup []) [.box md tb cs,.row .rw ty0 (.int .i64) ys]):Zr1 ty0 md tb cs xs a m b fv k:=by
 unfold Zr1
 obtain ⟨hl,ha,ham,hmb,hb⟩:=h
 have mx:maxN=281474976710656:=rfl
 obtain ⟨A,rfl⟩:∃ q:Nat,a=(q:Int):=⟨a.toNat,by omega⟩
 obtain ⟨M,rfl⟩:∃ q:Nat,m=(q:Int):=⟨m.toNat,by omega⟩
 obtain ⟨B,rfl⟩:∃ q:Nat,b=(q:Int):=⟨b.toNat,by omega⟩
 simp only [Int.toNat_natCast] at hk
 have wsub:∀ u v:Nat,v≤u→u≤xs.length→i64.wrap ((u:Int) - v)=((u - v:Nat):Int):=fun u v h1 h2=>by rw [Zt (by omega) (by omega)]; omega
 rw [wsub M A (by omega) (by omega),wsub B M (by omega) (by omega)]
 refine ⟨rfl,fun x y=>∃ i j:Nat,x.1=i∧x.2.1=j∧0<i∧0<j∧i≤M∧M+j≤xs.length∧y.1.length=xs.length∧Z2j y.1 (rotI (M - i) M (M+j))=Z2j xs (rotI A M B)∧y.1.Perm xs,fun x _=>(x.1+x.2.1).toNat,⟨M - A,B - M,rfl,rfl,by omega,by omega,by omega,by omega,rfl,by rw [show M - (M - A)=A by omega,show M+(B - M)=B by omega],.refl _⟩,?_⟩
 rintro ⟨_,_,⟨⟩⟩ ⟨y,⟨⟩⟩ ⟨i,j,rfl,rfl,hi,hj,hiM,hMj,ly,hy,hp⟩
 dsimp only at ly hy hp ⊢
 rintro _ rfl
 refine Br.intro (fun d=>?_) fun d=>?_
 ·have d:i≠j:=fun e=>by subst e; simp at d
  rintro _ rfl
  refine Br.intro (fun e=>?_) fun e=>?_
  ·have e:j<i:=by have e:(j:Int)<i:=of_decide_eq_true e; omega
   rw [wsub M i (by omega) (by omega),Int.toNat_natCast,Int.toNat_natCast,Int.toNat_natCast,Zt (x:=(i:Int) - j) (by omega) (by omega)]
   refine ⟨⟨rfl,ly.symm,by omega,by omega,by omega,by omega,by omega⟩,?_⟩
   rintro ys ⟨rfl,hps⟩
   refine ⟨rfl,⟨i - j,j,by omega,rfl,by omega,hj,by omega,hMj,by rw [Z1g]; exact ly,?_,hps.trans hp⟩,by omega⟩
   rw [Ztr (υ:=rotI (M - i) M (M+j)) (fun p hp=>Z11g (by omega) (by omega) (by omega) hp) fun p _=>Z1hj hj e hiM p]
   exact hy
  ·have e:i<j:=by have e:¬ (j:Int)<i:=of_decide_eq_false e; omega
   have w2:i64.wrap (i64.wrap ((M:Int)+j) - i)=((M+j - i:Nat):Int):=by rw [Zt (x:=(M:Int)+j) (by omega) (by omega),Zt (by omega) (by omega)]; omega
   rw [w2,wsub M i (by omega) (by omega),Int.toNat_natCast,Int.toNat_natCast,Int.toNat_natCast,Zt (x:=(j:Int) - i) (by omega) (by omega)]
   refine ⟨⟨rfl,ly.symm,by omega,by omega,by omega,by omega,by omega⟩,?_⟩
   rintro ys ⟨rfl,hps⟩
   refine ⟨rfl,⟨i,j - i,rfl,by omega,hi,by omega,by omega,by omega,by rw [Z1g]; exact ly,?_,hps.trans hp⟩,by omega⟩
   rw [Ztr (υ:=rotI (M - i) M (M+j)) (fun p hp=>Z11g (by omega) (by omega) (by omega) hp) fun p _=>Z1hk hi e hiM p]
   exact hy
 have d:i=j:=by
  have d:(i:Int)=j:=by simpa using d
  omega
 subst d
 rw [wsub M i (by omega) (by omega),Int.toNat_natCast,Int.toNat_natCast,Int.toNat_natCast]
 refine ⟨⟨rfl,ly.symm,by omega,by omega,by omega,by omega,by omega⟩,?_⟩
 rintro ys ⟨hys,hps⟩
 refine hk _ ⟨?_,hps.trans hp⟩
 rw [← hy,hys]
 congr 1
 funext p
 exact Z1hl hi hiM p
def Zr2:=fun (ty3:Nat) (m:Md) (tb:Nat) (bed:List Nat) (xs:List Int) (a b:Int) (k:EV→List HObj→Prop)=>HIs [HObj.box m tb [SV.data (K.flt
 f64).slice bed],HObj.row Md.rw ty3 (K.int i64) xs] [HObj.box m tb [SV.data (K.flt f64).slice bed],HObj.row Md.rw ty3 (K.int i64) xs] ∧
 ∃ (I:Int × Unit→List Int × Unit→Prop),∃ (μ:Int × Unit→List Int × Unit→Nat),I (i64.wrap (a+(1:Int)),()) (xs,())∧∀ (x:Int × Unit) (y:List Int ×
 Unit),I x y→∀ (a_1:Bool),a_1=decide (x.fst<b)→Br a_1 (HIs [HObj.box m tb [SV.data (K.flt f64).slice bed],HObj.row Md.rw ty3 (K.int i64) y.fst]
 [HObj.box m tb [SV.data (K.flt f64).slice bed],HObj.row Md.rw ty3 (K.int i64) y.fst]∧∃ (I_1:Int × Unit→List Int × Unit→Prop),∃ (μ_1:Int × Unit →
 List Int × Unit→Nat),I_1 (x.fst,()) (y.fst,())∧∀ (x_3:Int × Unit) (y_1:List Int × Unit),I_1 x_3 y_1→∀ (a_2:Bool),a_2=decide (x_3.fst > a)→Br a_2 (∃ (h:(0 :
 Int)≤x_3.fst∧x_3.fst<(↑xs.length:Int)),∃ (h:(0:Int)≤i64.wrap (x_3.fst - (1:Int))∧i64.wrap (x_3.fst - (1:Int))<(↑xs.length:Int)),∃ (h :
 WCmp (y_1.fst.getD ((0:Nat)+x_3.fst.toNat) (0:Int)) (y_1.fst.getD ((0:Nat)+(i64.wrap (x_3.fst - (1:Int))).toNat) (0:Int)) (some bed)),∀ (a:Int ×
 Unit),a=Z9c (y_1.fst.getD ((0:Nat)+x_3.fst.toNat) (0:Int)) (y_1.fst.getD ((0:Nat)+(i64.wrap (x_3.fst - (1:Int))).toNat) (0:Int)) (some bed)→∀
 (a_3:Bool),a_3=decide (a.fst<(0:Int))→Br a_3 (∃ (h:(0:Int)≤i64.wrap (x_3.fst - (1:Int))∧i64.wrap (x_3.fst - (1:Int))<(↑xs.length:Int)),
 ∃ (h:(0:Int)≤x_3.fst∧x_3.fst<(↑xs.length:Int)),∃ (h:(0:Int)≤x_3.fst∧x_3.fst<(↑xs.length:Int)),∃ (h:(0:Int)≤i64.wrap (x_3.fst - (1:Int)) ∧
 i64.wrap (x_3.fst - (1:Int))<(↑xs.length:Int)),HIs [HObj.box m tb [SV.data (K.flt f64).slice bed],HObj.row Md.rw ty3 (K.int i64) ((y_1.fst.set
 ((0:Nat)+x_3.fst.toNat) (y_1.fst.getD ((0:Nat)+(i64.wrap (x_3.fst - (1:Int))).toNat) (0:Int))).set ((0:Nat)+(i64.wrap (x_3.fst - (1:Int))).toNat)
 (y_1.fst.getD ((0:Nat)+x_3.fst.toNat) (0:Int)))] [HObj.box m tb [SV.data (K.flt f64).slice bed],HObj.row Md.rw ty3 (K.int i64) ((y_1.fst.set ((0:Nat)
 + x_3.fst.toNat) (y_1.fst.getD ((0:Nat)+(i64.wrap (x_3.fst - (1:Int))).toNat) (0:Int))).set ((0:Nat)+(i64.wrap (x_3.fst - (1:Int))).toNat)
 (y_1.fst.getD ((0:Nat)+x_3.fst.toNat) (0:Int)))]∧I_1 (i64.wrap (x_3.fst - (1:Int)),()) ((y_1.fst.set ((0:Nat)+x_3.fst.toNat) (y_1.fst.getD ((0:Nat) +
 (i64.wrap (x_3.fst - (1:Int))).toNat) (0:Int))).set ((0:Nat)+(i64.wrap (x_3.fst - (1:Int))).toNat) (y_1.fst.getD ((0:Nat)+x_3.fst.toNat) (0:Int)),
 ())∧μ_1 (i64.wrap (x_3.fst - (1:Int)),()) ((y_1.fst.set ((0:Nat)+x_3.fst.toNat) (y_1.fst.getD ((0:Nat)+(i64.wrap (x_3.fst - (1:Int))).toNat) (0 :
 Int))).set ((0:Nat)+(i64.wrap (x_3.fst - (1:Int))).toNat) (y_1.fst.getD ((0:Nat)+x_3.fst.toNat) (0:Int)),())<μ_1 x_3 y_1) (HIs [HObj.box m tb [SV.data
 (K.flt f64).slice bed],HObj.row Md.rw ty3 (K.int i64) y_1.fst] [HObj.box m tb [SV.data (K.flt f64).slice bed],HObj.row Md.rw ty3 (K.int
 i64) y_1.fst]∧I (i64.wrap (x.fst+(1:Int)),()) (y_1.fst,())∧μ (i64.wrap (x.fst+(1:Int)),()) (y_1.fst,())<μ x y)) (HIs [HObj.box m tb
 [SV.data (K.flt f64).slice bed],HObj.row Md.rw ty3 (K.int i64) y_1.fst] [HObj.box m tb [SV.data (K.flt f64).slice bed],HObj.row Md.rw ty3
 (K.int i64) y_1.fst]∧I (i64.wrap (x.fst+(1:Int)),()) (y_1.fst,())∧μ (i64.wrap (x.fst+(1:Int)),()) (y_1.fst,())<μ x y)) (k (EV.tup [])
 [HObj.box m tb [SV.data (K.flt f64).slice bed],HObj.row Md.rw ty3 (K.int i64) y.fst])
theorem Z1gd (ty0:Nat) (m:Md) (tb:Nat) (bed:List Nat) (xs:List Int) (a b:Int) (k:EV→List HObj→Prop) (h:Z2y bed xs∧0≤a∧a≤b∧b≤(List.length xs:Int)) (hk:∀ ys:List Int,Rr (keyB bed) a.toNat b.toNat xs ys∧Sgm (keyB bed) ys a.toNat b.toNat→k (.tup []) [.box m tb [.data (.slice (.flt .f64)) bed],.row .rw ty0 (.int .i64) ys]):Zr2 ty0 m tb bed xs a b k:=by
 unfold Zr2
 obtain ⟨bo,ha,hab,hb⟩:=h
 have mx:maxN=281474976710656:=rfl
 have hmx:=bo.2.2
 obtain ⟨A,rfl⟩:∃ q:Nat,a=(q:Int):=⟨a.toNat,by omega⟩
 obtain ⟨B,rfl⟩:∃ q:Nat,b=(q:Int):=⟨b.toNat,by omega⟩
 simp only [Int.toNat_natCast] at hk
 rw [Zt (x:=(A:Int)+1) (by omega) (by omega)]
 refine ⟨rfl,fun x y=>∃ i:Nat,x.1=i∧A<i∧Rr (keyB bed) A B xs y.1∧Sgm (keyB bed) y.1 A i,fun x _=>B - x.1.toNat,⟨A+1,by omega,by omega,.refl _ _ _,.one (by omega)⟩,?_⟩
 rintro ⟨_,⟨⟩⟩ ⟨y,⟨⟩⟩ ⟨i,rfl,hi,hr,hs⟩
 dsimp only at hr hs ⊢
 rintro _ rfl
 refine Br.intro (fun d=>?_) fun d=>?_
 rotate_left
 ·have d:B≤i:=by have d:¬ (i:Int)<B:=of_decide_eq_false d; omega
  exact hk _ ⟨hr,hs.sub (Nat.le_refl _) d⟩
 have d:i<B:=by have d:(i:Int)<B:=of_decide_eq_true d; omega
 rw [Zt (x:=(i:Int)+1) (by omega) (by omega)]
 refine ⟨rfl,fun x y=>∃ j:Nat,x.1=j∧A≤j∧j≤i∧Rr (keyB bed) A B xs y.1∧InsI (keyB bed) y.1 A i j,fun x _=>x.1.toNat,⟨i,rfl,by omega,by omega,hr,.start hs⟩,?_⟩
 rintro ⟨_,⟨⟩⟩ ⟨z,⟨⟩⟩ ⟨j,rfl,hj1,hj2,hz,hI⟩
 dsimp only at hz hI ⊢
 have lz:=hz.len
 have bz:=bo.perm hz.perm
 rintro _ rfl
 refine Br.intro (fun e=>?_) fun e=>?_
 rotate_left
 ·have e:j=A:=by have e:¬ (A:Int)<j:=of_decide_eq_false e; omega
  exact ⟨rfl,⟨i+1,by omega,by omega,hz,hI.done hj2 (.inl e)⟩,by omega⟩
 have e:A<j:=by have e:(A:Int)<j:=of_decide_eq_true e; omega
 obtain ⟨j',rfl⟩:∃ j',j=j'+1:=⟨j - 1,by omega⟩
 have w1:i64.wrap (((j'+1:Nat):Int) - 1)=(j':Int):=by rw [Zt (by omega) (by omega)]; omega
 rw [w1,Int.toNat_natCast,Int.toNat_natCast,Nat.zero_add,Nat.zero_add]
 refine ⟨⟨by omega,by omega⟩,⟨by omega,by omega⟩,bz.cmp (by omega) (by omega),?_⟩
 rintro _ rfl
 rintro _ rfl
 refine Br.intro (fun c=>?_) fun c=>?_
 ·have c:keyB bed (at0 z (j'+1))<keyB bed (at0 z j'):=(Z6h _ _ _).1 (of_decide_eq_true c)
  exact ⟨⟨by omega,by omega⟩,⟨by omega,by omega⟩,⟨by omega,by omega⟩,⟨by omega,by omega⟩,rfl,⟨j',rfl,by omega,by omega,hz.trans (Z18k (i:=j') (by omega) (by omega) (by omega) c),hI.step hj2 (by omega) (by omega) c⟩,by omega⟩
 ·have c:¬ keyB bed (at0 z (j'+1))<keyB bed (at0 z j'):=fun q=>of_decide_eq_false c ((Z6h _ _ _).2 q)
  exact ⟨rfl,⟨i+1,by omega,by omega,hz,hI.done hj2 (.inr ⟨e,by show keyB bed (at0 z (j'+1 - 1))≤_; rw [show j'+1 - 1=j' by omega]; omega⟩)⟩,by omega⟩
def Zr3:=fun (ty3 fn72:Nat) (md:Md) (tb N:Nat) (bed:List Nat) (xs:List Int) (a m b:Int) (k:EV→List HObj→Prop)=>∀ (a_1:Bool),a_1=(i64.wrap (m
 - a)==(1:Int))→Br a_1 (HIs [HObj.box md tb [SV.data (K.flt f64).slice bed],HObj.row Md.rw ty3 (K.int i64) xs] [HObj.box md tb [SV.data (K.flt
 f64).slice bed],HObj.row Md.rw ty3 (K.int i64) xs]∧∃ (I:Int × Int × Unit→Unit→Prop),∃ (μ:Int × Int × Unit→Unit→Nat),I (m,b,()) ()∧∀ (x :
 Int × Int × Unit) (y:Unit),I x y→∀ (a_2:Bool),a_2=decide (x.fst<x.snd.fst)→Br a_2 (∃ (h:(0:Int)≤(1:Int)),∃ (h:(0:Int)≤i64.wrap
 ((u64.wrap (i64.wrap (x.fst+x.snd.fst))).fdiv ((2:Int) ^ Min.min (Int.toNat (1:Int)) u64.bits))∧i64.wrap ((u64.wrap
 (i64.wrap (x.fst+x.snd.fst))).fdiv ((2:Int) ^ Min.min (Int.toNat (1:Int)) u64.bits))<(↑xs.length:Int)),∃ (h:(0:Int)≤a∧a<(↑xs.length:Int)),∃
 (h:WCmp (xs.getD ((0:Nat)+(i64.wrap ((u64.wrap (i64.wrap (x.fst+x.snd.fst))).fdiv ((2:Int) ^ Min.min (Int.toNat (1:Int))
 u64.bits))).toNat) (0:Int)) (xs.getD ((0:Nat)+a.toNat) (0:Int)) (some bed)),∀ (a_3:Int × Unit),a_3=Z9c (xs.getD ((0:Nat)+(i64.wrap
 ((u64.wrap (i64.wrap (x.fst+x.snd.fst))).fdiv ((2:Int) ^ Min.min (Int.toNat (1:Int)) u64.bits))).toNat) (0:Int)) (xs.getD ((0:Nat)+a.toNat) (0
 : Int)) (some bed)→∀ (a:Bool),a=decide (a_3.fst<(0:Int))→Br a (HIs [HObj.box md tb [SV.data (K.flt f64).slice bed],HObj.row Md.rw ty3 (K.int
 i64) xs] [HObj.box md tb [SV.data (K.flt f64).slice bed],HObj.row Md.rw ty3 (K.int i64) xs]∧I (i64.wrap (i64.wrap
 ((u64.wrap (i64.wrap (x.fst+x.snd.fst))).fdiv ((2:Int) ^ Min.min (Int.toNat (1:Int)) u64.bits))+(1:Int)),x.snd.fst,()) ()∧μ (i64.wrap
 (i64.wrap ((u64.wrap (i64.wrap (x.fst+x.snd.fst))).fdiv ((2:Int) ^ Min.min (Int.toNat (1:Int)) u64.bits))+(1:Int)),x.snd.fst,()) ()<μ
 x y) (HIs [HObj.box md tb [SV.data (K.flt f64).slice bed],HObj.row Md.rw ty3 (K.int i64) xs] [HObj.box md tb [SV.data (K.flt f64).slice bed],
 HObj.row Md.rw ty3 (K.int i64) xs]∧I (x.fst,i64.wrap ((u64.wrap (i64.wrap (x.fst+x.snd.fst))).fdiv ((2:Int) ^ Min.min (Int.toNat (1:Int))
 u64.bits)),()) ()∧μ (x.fst,i64.wrap ((u64.wrap (i64.wrap (x.fst+x.snd.fst))).fdiv ((2:Int) ^ Min.min (Int.toNat (1:Int))
 u64.bits)),()) ()<μ x y)) (HIs [HObj.box md tb [SV.data (K.flt f64).slice bed],HObj.row Md.rw ty3 (K.int i64) xs] [HObj.box md tb [SV.data (K.flt
 f64).slice bed],HObj.row Md.rw ty3 (K.int i64) xs]∧∃ (I:Int × Unit→List Int × Unit→Prop),∃ (μ:Int × Unit→List Int × Unit→Nat),I (a,()) (xs,
 ())∧∀ (x_3:Int × Unit) (y:List Int × Unit),I x_3 y→∀ (a:Bool),a=decide (x_3.fst<i64.wrap (x.fst - (1:Int)))→Br a (∃ (h:(0:Int)≤i64.wrap
 (x_3.fst+(1:Int))∧i64.wrap (x_3.fst+(1:Int))<(↑xs.length:Int)),∃ (h:(0:Int)≤x_3.fst∧x_3.fst<(↑xs.length:Int)),∃ (h:(0:Int)≤x_3.fst ∧
 x_3.fst<(↑xs.length:Int)),∃ (h:(0:Int)≤i64.wrap (x_3.fst+(1:Int))∧i64.wrap (x_3.fst+(1:Int))<(↑xs.length:Int)),HIs [HObj.box md tb
 [SV.data (K.flt f64).slice bed],HObj.row Md.rw ty3 (K.int i64) ((y.fst.set ((0:Nat)+x_3.fst.toNat) (y.fst.getD ((0:Nat)+(i64.wrap (x_3.fst +
 (1:Int))).toNat) (0:Int))).set ((0:Nat)+(i64.wrap (x_3.fst+(1:Int))).toNat) (y.fst.getD ((0:Nat)+x_3.fst.toNat) (0:Int)))] [HObj.box md tb [SV.data
 (K.flt f64).slice bed],HObj.row Md.rw ty3 (K.int i64) ((y.fst.set ((0:Nat)+x_3.fst.toNat) (y.fst.getD ((0:Nat)+(i64.wrap (x_3.fst+(1 :
 Int))).toNat) (0:Int))).set ((0:Nat)+(i64.wrap (x_3.fst+(1:Int))).toNat) (y.fst.getD ((0:Nat)+x_3.fst.toNat) (0:Int)))]∧I (i64.wrap (x_3.fst+(1
 : Int)),()) ((y.fst.set ((0:Nat)+x_3.fst.toNat) (y.fst.getD ((0:Nat)+(i64.wrap (x_3.fst+(1:Int))).toNat) (0:Int))).set ((0:Nat)+(i64.wrap
 (x_3.fst+(1:Int))).toNat) (y.fst.getD ((0:Nat)+x_3.fst.toNat) (0:Int)),())∧μ (i64.wrap (x_3.fst+(1:Int)),()) ((y.fst.set ((0:Nat)+x_3.fst.toNat)
 (y.fst.getD ((0:Nat)+(i64.wrap (x_3.fst+(1:Int))).toNat) (0:Int))).set ((0:Nat)+(i64.wrap (x_3.fst+(1:Int))).toNat) (y.fst.getD ((0:Nat) +
 x_3.fst.toNat) (0:Int)),())<μ x_3 y) (k (EV.tup []) [HObj.box md tb [SV.data (K.flt f64).slice bed],HObj.row Md.rw ty3 (K.int i64) y.fst]))) (∀ (a_2 :
 Bool),a_2=(i64.wrap (b - m)==(1:Int))→Br a_2 (HIs [HObj.box md tb [SV.data (K.flt f64).slice bed],HObj.row Md.rw ty3 (K.int i64) xs]
 [HObj.box md tb [SV.data (K.flt f64).slice bed],HObj.row Md.rw ty3 (K.int i64) xs]∧∃ (I:Int × Int × Unit→Unit→Prop),∃ (μ:Int × Int × Unit→Unit →
 Nat),I (a,m,()) ()∧∀ (x:Int × Int × Unit) (y:Unit),I x y→∀ (a:Bool),a=decide (x.fst<x.snd.fst)→Br a (∃ (h:(0:Int)≤(1:Int)),∃ (h:(0:Int)≤m∧m <
 (↑xs.length:Int)),∃ (h:(0:Int)≤i64.wrap ((u64.wrap (i64.wrap (x.fst+x.snd.fst))).fdiv ((2:Int) ^ Min.min (Int.toNat (1:Int))
 u64.bits))∧i64.wrap ((u64.wrap (i64.wrap (x.fst+x.snd.fst))).fdiv ((2:Int) ^ Min.min (Int.toNat (1:Int)) u64.bits))<(↑xs.length :
 Int)),∃ (h:WCmp (xs.getD ((0:Nat)+m.toNat) (0:Int)) (xs.getD ((0:Nat)+(i64.wrap ((u64.wrap (i64.wrap (x.fst+x.snd.fst))).fdiv ((2:Int) ^
 Min.min (Int.toNat (1:Int)) u64.bits))).toNat) (0:Int)) (some bed)),∀ (a:Int × Unit),a=Z9c (xs.getD ((0:Nat)+m.toNat) (0:Int)) (xs.getD ((0:Nat)
 + (i64.wrap ((u64.wrap (i64.wrap (x.fst+x.snd.fst))).fdiv ((2:Int) ^ Min.min (Int.toNat (1:Int)) u64.bits))).toNat) (0:Int)) (some
 bed)→∀ (a_3:Bool),a_3=decide (a.fst<(0:Int))→Br (!a_3) (HIs [HObj.box md tb [SV.data (K.flt f64).slice bed],HObj.row Md.rw ty3 (K.int i64) xs]
 [HObj.box md tb [SV.data (K.flt f64).slice bed],HObj.row Md.rw ty3 (K.int i64) xs]∧I (i64.wrap (i64.wrap ((u64.wrap
 (i64.wrap (x.fst+x.snd.fst))).fdiv ((2:Int) ^ Min.min (Int.toNat (1:Int)) u64.bits))+(1:Int)),x.snd.fst,()) ()∧μ (i64.wrap (i64.wrap
 ((u64.wrap (i64.wrap (x.fst+x.snd.fst))).fdiv ((2:Int) ^ Min.min (Int.toNat (1:Int)) u64.bits))+(1:Int)),x.snd.fst,()) ()<μ x y) (HIs
 [HObj.box md tb [SV.data (K.flt f64).slice bed],HObj.row Md.rw ty3 (K.int i64) xs] [HObj.box md tb [SV.data (K.flt f64).slice bed],HObj.row
 Md.rw ty3 (K.int i64) xs]∧I (x.fst,i64.wrap ((u64.wrap (i64.wrap (x.fst+x.snd.fst))).fdiv ((2:Int) ^ Min.min (Int.toNat (1:Int))
 u64.bits)),()) ()∧μ (x.fst,i64.wrap ((u64.wrap (i64.wrap (x.fst+x.snd.fst))).fdiv ((2:Int) ^ Min.min (Int.toNat (1:Int))
 u64.bits)),()) ()<μ x y)) (HIs [HObj.box md tb [SV.data (K.flt f64).slice bed],HObj.row Md.rw ty3 (K.int i64) xs] [HObj.box md tb [SV.data (K.flt
 f64).slice bed],HObj.row Md.rw ty3 (K.int i64) xs]∧∃ (I:Int × Unit→List Int × Unit→Prop),∃ (μ:Int × Unit→List Int × Unit→Nat),I (m,()) (xs,
 ())∧∀ (x_3:Int × Unit) (y:List Int × Unit),I x_3 y→∀ (a:Bool),a=decide (x_3.fst > x.fst)→Br a (∃ (h:(0:Int)≤i64.wrap (x_3.fst - (1:Int)) ∧
 i64.wrap (x_3.fst - (1:Int))<(↑xs.length:Int)),∃ (h:(0:Int)≤x_3.fst∧x_3.fst<(↑xs.length:Int)),∃ (h:(0:Int)≤x_3.fst∧x_3.fst<(↑xs.length :
 Int)),∃ (h:(0:Int)≤i64.wrap (x_3.fst - (1:Int))∧i64.wrap (x_3.fst - (1:Int))<(↑xs.length:Int)),HIs [HObj.box md tb [SV.data (K.flt
 f64).slice bed],HObj.row Md.rw ty3 (K.int i64) ((y.fst.set ((0:Nat)+x_3.fst.toNat) (y.fst.getD ((0:Nat)+(i64.wrap (x_3.fst - (1 :
 Int))).toNat) (0:Int))).set ((0:Nat)+(i64.wrap (x_3.fst - (1:Int))).toNat) (y.fst.getD ((0:Nat)+x_3.fst.toNat) (0:Int)))] [HObj.box md tb [SV.data (K.flt
 f64).slice bed],HObj.row Md.rw ty3 (K.int i64) ((y.fst.set ((0:Nat)+x_3.fst.toNat) (y.fst.getD ((0:Nat)+(i64.wrap (x_3.fst - (1 :
 Int))).toNat) (0:Int))).set ((0:Nat)+(i64.wrap (x_3.fst - (1:Int))).toNat) (y.fst.getD ((0:Nat)+x_3.fst.toNat) (0:Int)))]∧I (i64.wrap (x_3.fst - (1
 : Int)),()) ((y.fst.set ((0:Nat)+x_3.fst.toNat) (y.fst.getD ((0:Nat)+(i64.wrap (x_3.fst - (1:Int))).toNat) (0:Int))).set ((0:Nat)+(i64.wrap
 (x_3.fst - (1:Int))).toNat) (y.fst.getD ((0:Nat)+x_3.fst.toNat) (0:Int)),())∧μ (i64.wrap (x_3.fst - (1:Int)),()) ((y.fst.set ((0:Nat)+x_3.fst.toNat)
 (y.fst.getD ((0:Nat)+(i64.wrap (x_3.fst - (1:Int))).toNat) (0:Int))).set ((0:Nat)+(i64.wrap (x_3.fst - (1:Int))).toNat) (y.fst.getD ((0:Nat) +
 x_3.fst.toNat) (0:Int)),())<μ x_3 y) (k (EV.tup []) [HObj.box md tb [SV.data (K.flt f64).slice bed],HObj.row Md.rw ty3 (K.int i64) y.fst]))) (∃ (h:(0
 : Int)≤(1:Int)),∃ (post:Int × Int × Unit→Unit→Prop),(∀ (a_3:Bool),a_3=decide (m > i64.wrap ((u64.wrap (i64.wrap (a+b))).fdiv ((2:Int)
 ^ Min.min (Int.toNat (1:Int)) u64.bits)))→Br a_3 (HIs [HObj.box md tb [SV.data (K.flt f64).slice bed],HObj.row Md.rw ty3 (K.int i64) xs]
 [HObj.box md tb [SV.data (K.flt f64).slice bed],HObj.row Md.rw ty3 (K.int i64) xs]∧post (i64.wrap (i64.wrap (i64.wrap
 ((u64.wrap (i64.wrap (a+b))).fdiv ((2:Int) ^ Min.min (Int.toNat (1:Int)) u64.bits))+m) - b),i64.wrap ((u64.wrap (i64.wrap
 (a+b))).fdiv ((2:Int) ^ Min.min (Int.toNat (1:Int)) u64.bits)),()) ()) (HIs [HObj.box md tb [SV.data (K.flt f64).slice bed],HObj.row Md.rw ty3 (K.int
 i64) xs] [HObj.box md tb [SV.data (K.flt f64).slice bed],HObj.row Md.rw ty3 (K.int i64) xs]∧post (a,m,()) ()))∧∀ (x:Int × Int × Unit) (y :
 Unit),post x y→HIs [HObj.box md tb [SV.data (K.flt f64).slice bed],HObj.row Md.rw ty3 (K.int i64) xs] [HObj.box md tb [SV.data (K.flt
 f64).slice bed],HObj.row Md.rw ty3 (K.int i64) xs]∧∃ (I:Int × Int × Unit→Unit→Prop),∃ (μ:Int × Int × Unit→Unit→Nat),I (x.fst,x.snd.fst,())
 ()∧∀ (x:Int × Int × Unit) (y:Unit),I x y→∀ (a_3:Bool),a_3=decide (x.fst<x.snd.fst)→Br a_3 (∃ (h:(0:Int)≤(1:Int)),∃ (h:(0:Int)≤i64.wrap
 (i64.wrap (i64.wrap (i64.wrap ((u64.wrap (i64.wrap (a+b))).fdiv ((2:Int) ^ Min.min (Int.toNat (1:Int)) u64.bits))+m) - (1 :
 Int)) - i64.wrap ((u64.wrap (i64.wrap (x.fst+x.snd.fst))).fdiv ((2:Int) ^ Min.min (Int.toNat (1:Int)) u64.bits)))∧i64.wrap
 (i64.wrap (i64.wrap (i64.wrap ((u64.wrap (i64.wrap (a+b))).fdiv ((2:Int) ^ Min.min (Int.toNat (1:Int)) u64.bits))+m) - (1 :
 Int)) - i64.wrap ((u64.wrap (i64.wrap (x.fst+x.snd.fst))).fdiv ((2:Int) ^ Min.min (Int.toNat (1:Int)) u64.bits)))<(↑xs.length:Int)),∃ (h
 : (0:Int)≤i64.wrap ((u64.wrap (i64.wrap (x.fst+x.snd.fst))).fdiv ((2:Int) ^ Min.min (Int.toNat (1:Int)) u64.bits))∧i64.wrap
 ((u64.wrap (i64.wrap (x.fst+x.snd.fst))).fdiv ((2:Int) ^ Min.min (Int.toNat (1:Int)) u64.bits))<(↑xs.length:Int)),∃ (h:WCmp (xs.getD ((0 :
 Nat)+(i64.wrap (i64.wrap (i64.wrap (i64.wrap ((u64.wrap (i64.wrap (a+b))).fdiv ((2:Int) ^ Min.min (Int.toNat (1:Int))
 u64.bits))+m) - (1:Int)) - i64.wrap ((u64.wrap (i64.wrap (x.fst+x.snd.fst))).fdiv ((2:Int) ^ Min.min (Int.toNat (1:Int))
 u64.bits)))).toNat) (0:Int)) (xs.getD ((0:Nat)+(i64.wrap ((u64.wrap (i64.wrap (x.fst+x.snd.fst))).fdiv ((2:Int) ^ Min.min (Int.toNat (1 :
 Int)) u64.bits))).toNat) (0:Int)) (some bed)),∀ (a_4:Int × Unit),a_4=Z9c (xs.getD ((0:Nat)+(i64.wrap (i64.wrap (i64.wrap
 (i64.wrap ((u64.wrap (i64.wrap (a+b))).fdiv ((2:Int) ^ Min.min (Int.toNat (1:Int)) u64.bits))+m) - (1:Int)) - i64.wrap
 ((u64.wrap (i64.wrap (x.fst+x.snd.fst))).fdiv ((2:Int) ^ Min.min (Int.toNat (1:Int)) u64.bits)))).toNat) (0:Int)) (xs.getD ((0:Nat) +
 (i64.wrap ((u64.wrap (i64.wrap (x.fst+x.snd.fst))).fdiv ((2:Int) ^ Min.min (Int.toNat (1:Int)) u64.bits))).toNat) (0:Int)) (some
 bed)→∀ (a:Bool),a=decide (a_4.fst<(0:Int))→Br (!a) (HIs [HObj.box md tb [SV.data (K.flt f64).slice bed],HObj.row Md.rw ty3 (K.int i64) xs]
 [HObj.box md tb [SV.data (K.flt f64).slice bed],HObj.row Md.rw ty3 (K.int i64) xs]∧I (i64.wrap (i64.wrap ((u64.wrap
 (i64.wrap (x.fst+x.snd.fst))).fdiv ((2:Int) ^ Min.min (Int.toNat (1:Int)) u64.bits))+(1:Int)),x.snd.fst,()) ()∧μ (i64.wrap (i64.wrap
 ((u64.wrap (i64.wrap (x.fst+x.snd.fst))).fdiv ((2:Int) ^ Min.min (Int.toNat (1:Int)) u64.bits))+(1:Int)),x.snd.fst,()) ()<μ x y) (HIs
 [HObj.box md tb [SV.data (K.flt f64).slice bed],HObj.row Md.rw ty3 (K.int i64) xs] [HObj.box md tb [SV.data (K.flt f64).slice bed],HObj.row
 Md.rw ty3 (K.int i64) xs]∧I (x.fst,i64.wrap ((u64.wrap (i64.wrap (x.fst+x.snd.fst))).fdiv ((2:Int) ^ Min.min (Int.toNat (1:Int))
 u64.bits)),()) ()∧μ (x.fst,i64.wrap ((u64.wrap (i64.wrap (x.fst+x.snd.fst))).fdiv ((2:Int) ^ Min.min (Int.toNat (1:Int))
 u64.bits)),()) ()<μ x y)) (∃ (post:Unit→List Int × Unit→Prop),(∀ (a_4:Bool),a_4=decide (x.fst<m)→Br a_4 (∀ (a_5:Bool),a_5=decide (m <
 i64.wrap (i64.wrap (i64.wrap ((u64.wrap (i64.wrap (a+b))).fdiv ((2:Int) ^ Min.min (Int.toNat (1:Int)) u64.bits))+m) -
 x.fst))→Br a_5 (∃ (x_6:(ty3=ty3)∧xs.length=xs.length∧xs.length≤maxN∧(0:Int)≤x.fst∧x.fst<m∧m<i64.wrap (i64.wrap (i64.wrap
 ((u64.wrap (i64.wrap (a+b))).fdiv ((2:Int) ^ Min.min (Int.toNat (1:Int)) u64.bits))+m) - x.fst)∧i64.wrap (i64.wrap
 (i64.wrap ((u64.wrap (i64.wrap (a+b))).fdiv ((2:Int) ^ Min.min (Int.toNat (1:Int)) u64.bits))+m) - x.fst)≤(↑xs.length:Int)),∀ (ys :
 List Int),ys=Z2j xs (rotI x.fst.toNat m.toNat (i64.wrap (i64.wrap (i64.wrap ((u64.wrap (i64.wrap (a+b))).fdiv ((2:Int) ^ Min.min
 (Int.toNat (1:Int)) u64.bits))+m) - x.fst)).toNat)∧ys.Perm xs→HIs [HObj.box md tb [SV.data (K.flt f64).slice bed],HObj.row Md.rw ty3 (K.int
 i64) ys] [HObj.box md tb [SV.data (K.flt f64).slice bed],HObj.row Md.rw ty3 (K.int i64) ys]∧post () (ys,())) (HIs [HObj.box md tb [SV.data (K.flt
 f64).slice bed],HObj.row Md.rw ty3 (K.int i64) xs] [HObj.box md tb [SV.data (K.flt f64).slice bed],HObj.row Md.rw ty3 (K.int i64) xs] ∧
 post () (xs,()))) (HIs [HObj.box md tb [SV.data (K.flt f64).slice bed],HObj.row Md.rw ty3 (K.int i64) xs] [HObj.box md tb [SV.data (K.flt
 f64).slice bed],HObj.row Md.rw ty3 (K.int i64) xs]∧post () (xs,())))∧∀ (x_4:Unit) (y:List Int × Unit),post x_4 y→∃ (post:Unit→List Int × Unit
 → Prop),(∀ (a_4:Bool),a_4=decide (a<x.fst)→Br a_4 (∀ (a_5:Bool),a_5=decide (x.fst<i64.wrap ((u64.wrap (i64.wrap (a+b))).fdiv ((2:Int)
 ^ Min.min (Int.toNat (1:Int)) u64.bits)))→Br a_5 (∃ (x:(ty3=ty3)∧(fn72=fn72)∧xs.length=y.fst.length∧Z2y bed y.fst∧(0:Int)≤a∧a<x.fst∧x.fst <
 i64.wrap ((u64.wrap (i64.wrap (a+b))).fdiv ((2:Int) ^ Min.min (Int.toNat (1:Int)) u64.bits))∧i64.wrap ((u64.wrap
 (i64.wrap (a+b))).fdiv ((2:Int) ^ Min.min (Int.toNat (1:Int)) u64.bits))≤(↑y.fst.length:Int)∧(i64.wrap ((u64.wrap (i64.wrap (a
 + b))).fdiv ((2:Int) ^ Min.min (Int.toNat (1:Int)) u64.bits)) - a).toNat<N∧Sgm (keyB bed) y.fst a.toNat x.fst.toNat∧Sgm (keyB bed) y.fst x.fst.toNat
 (i64.wrap ((u64.wrap (i64.wrap (a+b))).fdiv ((2:Int) ^ Min.min (Int.toNat (1:Int)) u64.bits))).toNat),∀ (ys:List Int),Rr (keyB bed)
 a.toNat (i64.wrap ((u64.wrap (i64.wrap (a+b))).fdiv ((2:Int) ^ Min.min (Int.toNat (1:Int)) u64.bits))).toNat y.fst ys∧Sgm (keyB bed) ys
 a.toNat (i64.wrap ((u64.wrap (i64.wrap (a+b))).fdiv ((2:Int) ^ Min.min (Int.toNat (1:Int)) u64.bits))).toNat→HIs [HObj.box md tb [SV.data
 (K.flt f64).slice bed],HObj.row Md.rw ty3 (K.int i64) ys] [HObj.box md tb [SV.data (K.flt f64).slice bed],HObj.row Md.rw ty3 (K.int
 i64) ys]∧post () (ys,())) (HIs [HObj.box md tb [SV.data (K.flt f64).slice bed],HObj.row Md.rw ty3 (K.int i64) y.fst] [HObj.box md tb [SV.data
 (K.flt f64).slice bed],HObj.row Md.rw ty3 (K.int i64) y.fst]∧post () (y.fst,()))) (HIs [HObj.box md tb [SV.data (K.flt f64).slice bed],
 HObj.row Md.rw ty3 (K.int i64) y.fst] [HObj.box md tb [SV.data (K.flt f64).slice bed],HObj.row Md.rw ty3 (K.int i64) y.fst]∧post () (y.fst,()))) ∧
 ∀ (x_6:Unit) (y:List Int × Unit),post x_6 y→∀ (a_4:Bool),a_4=decide (i64.wrap ((u64.wrap (i64.wrap (a+b))).fdiv ((2:Int) ^ Min.min
 (Int.toNat (1:Int)) u64.bits))<i64.wrap (i64.wrap (i64.wrap ((u64.wrap (i64.wrap (a+b))).fdiv ((2:Int) ^ Min.min (Int.toNat
 (1:Int)) u64.bits))+m) - x.fst))→Br a_4 (∀ (a_5:Bool),a_5=decide (i64.wrap (i64.wrap (i64.wrap ((u64.wrap (i64.wrap (a +
 b))).fdiv ((2:Int) ^ Min.min (Int.toNat (1:Int)) u64.bits))+m) - x.fst)<b)→Br a_5 (∃ (x:(ty3=ty3)∧(fn72=fn72)∧xs.length=y.fst.length∧Z2y bed
 y.fst∧(0:Int)≤i64.wrap ((u64.wrap (i64.wrap (a+b))).fdiv ((2:Int) ^ Min.min (Int.toNat (1:Int)) u64.bits))∧i64.wrap
 ((u64.wrap (i64.wrap (a+b))).fdiv ((2:Int) ^ Min.min (Int.toNat (1:Int)) u64.bits))<i64.wrap (i64.wrap (i64.wrap
 ((u64.wrap (i64.wrap (a+b))).fdiv ((2:Int) ^ Min.min (Int.toNat (1:Int)) u64.bits))+m) - x.fst)∧i64.wrap (i64.wrap
 (i64.wrap ((u64.wrap (i64.wrap (a+b))).fdiv ((2:Int) ^ Min.min (Int.toNat (1:Int)) u64.bits))+m) - x.fst)<b∧b≤(↑y.fst.length:Int) ∧
 (b - i64.wrap ((u64.wrap (i64.wrap (a+b))).fdiv ((2:Int) ^ Min.min (Int.toNat (1:Int)) u64.bits))).toNat<N∧Sgm (keyB bed) y.fst
 (i64.wrap ((u64.wrap (i64.wrap (a+b))).fdiv ((2:Int) ^ Min.min (Int.toNat (1:Int)) u64.bits))).toNat (i64.wrap (i64.wrap
 (i64.wrap ((u64.wrap (i64.wrap (a+b))).fdiv ((2:Int) ^ Min.min (Int.toNat (1:Int)) u64.bits))+m) - x.fst)).toNat∧Sgm (keyB bed) y.fst
 (i64.wrap (i64.wrap (i64.wrap ((u64.wrap (i64.wrap (a+b))).fdiv ((2:Int) ^ Min.min (Int.toNat (1:Int)) u64.bits))+m) -
 x.fst)).toNat b.toNat),∀ (ys:List Int),Rr (keyB bed) (i64.wrap ((u64.wrap (i64.wrap (a+b))).fdiv ((2:Int) ^ Min.min (Int.toNat (1:Int))
 u64.bits))).toNat b.toNat y.fst ys∧Sgm (keyB bed) ys (i64.wrap ((u64.wrap (i64.wrap (a+b))).fdiv ((2:Int) ^ Min.min (Int.toNat (1:Int))
 u64.bits))).toNat b.toNat→k (EV.tup []) [HObj.box md tb [SV.data (K.flt f64).slice bed],HObj.row Md.rw ty3 (K.int i64) ys]) (k (EV.tup [])
 [HObj.box md tb [SV.data (K.flt f64).slice bed],HObj.row Md.rw ty3 (K.int i64) y.fst])) (k (EV.tup []) [HObj.box md tb [SV.data (K.flt
 f64).slice bed],HObj.row Md.rw ty3 (K.int i64) y.fst]))))
theorem Z1ge (ty0 ty1:Nat) (md:Md) (tb N:Nat) (bed:List Nat) (xs:List Int) (a m b:Int) (k:EV→List HObj→Prop) (h:Z2y bed xs∧0≤a∧a<m∧m<b∧b≤(List.length xs:Int)∧(b - a).toNat<N+1∧Sgm (keyB bed) xs a.toNat m.toNat∧Sgm (keyB bed) xs m.toNat b.toNat) (hk:∀ ys:List Int,Rr (keyB bed) a.toNat b.toNat xs ys∧Sgm (keyB bed) ys a.toNat b.toNat→k (.tup []) [.box md tb [.data (.slice (.flt .f64)) bed],.row .rw ty0 (.int .i64) ys]):Zr3 ty0 ty1 md tb N bed xs a m b k:=by
 unfold Zr3
 obtain ⟨bo,ha,ham,hmb,hb,hN,hs1,hs2⟩:=h
 have mx:maxN=281474976710656:=rfl
 have hmx:=bo.2.2
 obtain ⟨A,rfl⟩:∃ q:Nat,a=(q:Int):=⟨a.toNat,by omega⟩
 obtain ⟨M,rfl⟩:∃ q:Nat,m=(q:Int):=⟨m.toNat,by omega⟩
 obtain ⟨B,rfl⟩:∃ q:Nat,b=(q:Int):=⟨b.toNat,by omega⟩
 simp only [Int.toNat_natCast] at hk hs1 hs2
 have ham:A<M:=by omega
 have hmb:M<B:=by omega
 have hb:B≤xs.length:=by omega
 have wsub:∀ u v:Nat,v≤u→u≤2*xs.length→i64.wrap ((u:Int) - v)=((u - v:Nat):Int):=fun u v h1 h2=>by rw [Zt (by omega) (by omega)]; omega
 have whalf:∀ u v:Nat,u≤xs.length→v≤xs.length→i64.wrap ((u64.wrap (i64.wrap ((u:Int)+v))).fdiv (2 ^ Min.min (Int.toNat 1) u64.bits))=(((u+v) / 2:Nat):Int):=fun u v h1 h2=>by
  rw [Z1fz (by omega) (by omega)]; omega
 have wadd:∀ u:Nat,u≤xs.length→i64.wrap ((u:Int)+1)=((u+1:Nat):Int):=fun u h1=>by rw [Zt (by omega) (by omega)]; omega
 rw [wsub M A (by omega) (by omega),wsub B M (by omega) (by omega),whalf A B (by omega) (by omega)]
 have wdec:∀ u:Nat,1≤u→u≤2*xs.length→i64.wrap ((u:Int) - 1)=((u - 1:Nat):Int):=fun u h1 h2=>by rw [Zt (by omega) (by omega)]; omega
 have dle:∀ u v:Nat,decide ((u:Int)<v)=true→u<v:=fun u v d=>by have d:(u:Int)<v:=of_decide_eq_true d; omega
 have dge:∀ u v:Nat,decide ((u:Int)<v)=false→v≤u:=fun u v d=>by have d:¬ (u:Int)<v:=of_decide_eq_false d; omega
 rintro _ rfl
 refine Br.intro (fun e=>?_) fun e=>?_
 ·have e:M=A+1:=by
   have e:((M - A:Nat):Int)=1:=by simpa using e
   omega
  refine ⟨rfl,fun x _=>∃ i j:Nat,x.1=i∧x.2.1=j∧M≤i∧i≤j∧j≤B∧(∀ p,M≤p→p<i→keyB bed (at0 xs p)<keyB bed (at0 xs A))∧(∀ p,j≤p→p<B→keyB bed (at0 xs A)≤keyB bed (at0 xs p)),fun x _=>(x.2.1 - x.1).toNat,⟨M,B,rfl,rfl,by omega,by omega,by omega,fun p h1 h2=>by omega,fun p h1 h2=>by omega⟩,?_⟩
  rintro ⟨_,_,⟨⟩⟩ _ ⟨i,j,rfl,rfl,h1,h2,h3,hlo,hhi⟩
  dsimp only
  rintro _ rfl
  refine Br.intro (fun d=>?_) fun d=>?_
  ·have d:=dle _ _ d
   obtain ⟨c,hc⟩:∃ c,(i+j) / 2=c:=⟨_,rfl⟩
   rw [whalf i j (by omega) (by omega),hc,Int.toNat_natCast,Int.toNat_natCast,Nat.zero_add,Nat.zero_add,wadd c (by omega)]
   refine ⟨by decide,⟨by omega,by omega⟩,⟨by omega,by omega⟩,bo.cmp (by omega) (by omega),?_⟩
   rintro _ rfl
   rintro _ rfl
   refine Br.intro (fun q=>?_) fun q=>?_
   ·have q:keyB bed (at0 xs c)<keyB bed (at0 xs A):=(Z6h _ _ _).1 (of_decide_eq_true q)
    refine ⟨rfl,⟨c+1,j,rfl,rfl,by omega,by omega,h3,fun p h1 h2=>?_,hhi⟩,by omega⟩
    have:=Zcf hs2 (i:=p) (j:=c) h1 (by omega) (by omega)
    omega
   ·have q:¬ keyB bed (at0 xs c)<keyB bed (at0 xs A):=fun w=>of_decide_eq_false q ((Z6h _ _ _).2 w)
    refine ⟨rfl,⟨i,c,rfl,rfl,h1,by omega,by omega,hlo,fun p h1 h2=>?_⟩,by omega⟩
    have:=Zcf hs2 (i:=c) (j:=p) (by omega) (by omega) (by omega)
    omega
  have d:=dge _ _ d
  have ij:i=j:=by omega
  subst ij
  refine ⟨rfl,fun x y=>∃ k:Nat,x.1=k∧A≤k∧k≤i - 1∧Rr (keyB bed) A B xs y.1∧ShU xs y.1 A k,fun x _=>i - 1 - x.1.toNat,⟨A,rfl,by omega,by omega,.refl _ _ _,.start _ _⟩,?_⟩
  rintro ⟨_,⟨⟩⟩ ⟨y,⟨⟩⟩ ⟨k,rfl,k1,k2,hr,hu⟩
  dsimp only at hr hu ⊢
  have ly:=hr.len
  rw [wdec i (by omega) (by omega)]
  rintro _ rfl
  refine Br.intro (fun d=>?_) fun d=>?_
  ·have d:=dle _ _ d
   rw [wadd k (by omega),Int.toNat_natCast,Int.toNat_natCast,Nat.zero_add,Nat.zero_add]
   have q:keyB bed (at0 y (k+1))<keyB bed (at0 y k):=by
    rw [hu (k+1),hu k,if_neg (by omega),if_neg (by omega),if_neg (by omega),if_pos rfl]
    exact hlo _ (by omega) (by omega)
   have hst:(y.set k (at0 y (k+1))).set (k+1) (at0 y k)=swp y (k+1) k:=Z1hq (by omega)
   refine ⟨⟨by omega,by omega⟩,⟨by omega,by omega⟩,⟨by omega,by omega⟩,⟨by omega,by omega⟩,rfl,⟨k+1,rfl,by omega,by omega,?_,?_⟩,by omega⟩
   ·show Rr (keyB bed) A B xs ((y.set k (at0 y (k+1))).set (k+1) (at0 y k))
    rw [hst]; exact hr.trans (Z18k (by omega) (by omega) (by omega) q)
   ·show ShU xs ((y.set k (at0 y (k+1))).set (k+1) (at0 y k)) A (k+1)
    rw [hst]; exact hu.step ly (by omega) (by omega)
  have d:=dge _ _ d
  have ek:k=i - 1:=by omega
  subst ek
  exact hk _ ⟨hr,hu.done (by omega) h3 (by rw [← e]; exact hs2) (fun p h1 h2=>hlo p (by omega) h2) hhi⟩
 rintro _ rfl
 refine Br.intro (fun e2=>?_) fun e2=>?_
 ·have e2:B=M+1:=by
   have e2:((B - M:Nat):Int)=1:=by simpa using e2
   omega
  refine ⟨rfl,fun x _=>∃ i j:Nat,x.1=i∧x.2.1=j∧A≤i∧i≤j∧j≤M∧(∀ p,A≤p→p<i→keyB bed (at0 xs p)≤keyB bed (at0 xs M))∧(∀ p,j≤p→p<M→keyB bed (at0 xs M)<keyB bed (at0 xs p)),fun x _=>(x.2.1 - x.1).toNat,⟨A,M,rfl,rfl,by omega,by omega,by omega,fun p h1 h2=>by omega,fun p h1 h2=>by omega⟩,?_⟩
  rintro ⟨_,_,⟨⟩⟩ _ ⟨i,j,rfl,rfl,h1,h2,h3,hlo,hhi⟩
  dsimp only
  rintro _ rfl
  refine Br.intro (fun d=>?_) fun d=>?_
  ·have d:=dle _ _ d
   obtain ⟨c,hc⟩:∃ c,(i+j) / 2=c:=⟨_,rfl⟩
   rw [whalf i j (by omega) (by omega),hc,Int.toNat_natCast,Int.toNat_natCast,Nat.zero_add,Nat.zero_add,wadd c (by omega)]
   refine ⟨by decide,⟨by omega,by omega⟩,⟨by omega,by omega⟩,bo.cmp (by omega) (by omega),?_⟩
   rintro _ rfl
   rintro _ rfl
   refine Br.intro (fun q=>?_) fun q=>?_
   ·have q:¬ keyB bed (at0 xs M)<keyB bed (at0 xs c):=fun w=>by
     have:decide ((Z9c (at0 xs M) (at0 xs c) (some bed)).fst<0)=true:=decide_eq_true ((Z6h _ _ _).2 w)
     unfold at0 at this
     rw [this] at q; exact absurd q (by decide)
    refine ⟨rfl,⟨c+1,j,rfl,rfl,by omega,by omega,h3,fun p h1 h2=>?_,hhi⟩,by omega⟩
    have:=Zcf hs1 (i:=p) (j:=c) h1 (by omega) (by omega)
    omega
   ·have q:keyB bed (at0 xs M)<keyB bed (at0 xs c):=(Z6h _ _ _).1 (by
     have q:decide ((Z9c (at0 xs M) (at0 xs c) (some bed)).fst<0)=true:=by simpa using q
     exact of_decide_eq_true q)
    refine ⟨rfl,⟨i,c,rfl,rfl,h1,by omega,by omega,hlo,fun p h1 h2=>?_⟩,by omega⟩
    have:=Zcf hs1 (i:=c) (j:=p) (by omega) (by omega) (by omega)
    omega
  have d:=dge _ _ d
  have ij:i=j:=by omega
  subst ij
  refine ⟨rfl,fun x y=>∃ k:Nat,x.1=k∧i≤k∧k≤M∧Rr (keyB bed) A B xs y.1∧ShD xs y.1 M k,fun x _=>x.1.toNat,⟨M,rfl,by omega,by omega,.refl _ _ _,.start _ _⟩,?_⟩
  rintro ⟨_,⟨⟩⟩ ⟨y,⟨⟩⟩ ⟨k,rfl,k1,k2,hr,hu⟩
  dsimp only at hr hu ⊢
  have ly:=hr.len
  rintro _ rfl
  refine Br.intro (fun d=>?_) fun d=>?_
  ·have d:=dle _ _ d
   obtain ⟨k',rfl⟩:∃ k',k=k'+1:=⟨k - 1,by omega⟩
   rw [wdec (k'+1) (by omega) (by omega),show k'+1 - 1=k' by omega,Int.toNat_natCast,Int.toNat_natCast,Nat.zero_add,Nat.zero_add]
   have q:keyB bed (at0 y (k'+1))<keyB bed (at0 y k'):=by
    rw [hu (k'+1),hu k',if_neg (by omega),if_pos rfl,if_neg (by omega),if_neg (by omega)]
    exact hhi _ (by omega) (by omega)
   exact ⟨⟨by omega,by omega⟩,⟨by omega,by omega⟩,⟨by omega,by omega⟩,⟨by omega,by omega⟩,rfl,⟨k',rfl,by omega,by omega,hr.trans (Z18k (by omega) (by omega) (by omega) q),hu.step ly (by omega) (by omega)⟩,by omega⟩
  have d:=dge _ _ d
  have ek:k=i:=by omega
  subst ek
  rw [e2] at hk
  rw [e2] at hr
  exact hk _ ⟨hr,hu.done h1 h3 hs1 hlo hhi⟩
 obtain ⟨mid,hm⟩:∃ mid,mid=(A+B) / 2:=⟨_,rfl⟩
 rw [← hm]
 refine ⟨by decide,fun x _=>∃ s0 r0:Nat,x.1=s0∧x.2.1=r0∧((M > mid∧s0+B=mid+M∧r0=mid)∨(M≤mid∧s0=A∧r0=M)),?_,?_⟩
 ·have wn:i64.wrap (i64.wrap ((mid:Int)+M) - B)=((mid+M - B:Nat):Int)∨M≤mid:=by
   by_cases q:M≤mid
   ·exact .inr q
   ·exact .inl (by rw [Zt (x:=(mid:Int)+M) (by omega) (by omega),Zt (by omega) (by omega)]; omega)
  rintro _ rfl
  refine Br.intro (fun d=>?_) fun d=>?_
  ·have d:=dle _ _ d
   rcases wn with wn | wn
   ·rw [wn]; exact ⟨rfl,_,_,rfl,rfl,.inl ⟨d,by omega,rfl⟩⟩
   ·omega
  ·have d:=dge _ _ d
   exact ⟨rfl,_,_,rfl,rfl,.inr ⟨d,rfl,rfl⟩⟩
 rintro ⟨_,_,⟨⟩⟩ _ ⟨s0,r0,rfl,rfl,h0⟩
 dsimp only
 have h00:A≤s0∧s0≤r0∧r0≤M∧∀ q,s0≤q→q<r0→M≤mid+M - 1 - q∧mid+M - 1 - q<B∧q≤mid+M - 1:=by
  rcases h0 with h0 | h0
  ·exact ⟨by omega,by omega,by omega,fun q q1 q2=>by omega⟩
  ·exact ⟨by omega,by omega,by omega,fun q q1 q2=>by omega⟩
 obtain ⟨h01,h02,h03,h04⟩:=h00
 refine ⟨rfl,fun x _=>∃ s r:Nat,x.1=s∧x.2.1=r∧s0≤s∧s≤r∧r≤r0∧(∀ q,s0≤q→q<s→keyB bed (at0 xs q)≤keyB bed (at0 xs (mid+M - 1 - q)))∧(∀ q,r≤q→q<r0→keyB bed (at0 xs (mid+M - 1 - q))<keyB bed (at0 xs q)),fun x _=>(x.2.1 - x.1).toNat,⟨s0,r0,rfl,rfl,by omega,by omega,by omega,fun q q1 q2=>by omega,fun q q1 q2=>by omega⟩,?_⟩
 rintro ⟨_,_,⟨⟩⟩ _ ⟨s,r,rfl,rfl,h1,h2,h3,hlo,hhi⟩
 dsimp only
 rintro _ rfl
 refine Br.intro (fun d=>?_) fun d=>?_
 ·have d:=dle _ _ d
  obtain ⟨c,hc⟩:∃ c,(s+r) / 2=c:=⟨_,rfl⟩
  obtain ⟨c1,c2,c3⟩:=h04 c (by omega) (by omega)
  have w3:i64.wrap (i64.wrap (i64.wrap ((mid:Int)+M) - 1) - c)=((mid+M - 1 - c:Nat):Int):=by
   rw [Zt (x:=(mid:Int)+M) (by omega) (by omega),Zt (x:=(mid:Int)+M - 1) (by omega) (by omega),Zt (by omega) (by omega)]; omega
  rw [whalf s r (by omega) (by omega),hc,w3,Int.toNat_natCast,Int.toNat_natCast,Nat.zero_add,Nat.zero_add,wadd c (by omega)]
  refine ⟨by decide,⟨by omega,by omega⟩,⟨by omega,by omega⟩,bo.cmp (by omega) (by omega),?_⟩
  rintro _ rfl
  rintro _ rfl
  refine Br.intro (fun q=>?_) fun q=>?_
  ·have q:¬ keyB bed (at0 xs (mid+M - 1 - c))<keyB bed (at0 xs c):=fun w=>by
    have:decide ((Z9c (at0 xs (mid+M - 1 - c)) (at0 xs c) (some bed)).fst<0)=true:=decide_eq_true ((Z6h _ _ _).2 w)
    unfold at0 at this
    rw [this] at q; exact absurd q (by decide)
   refine ⟨rfl,⟨c+1,r,rfl,rfl,by omega,by omega,h3,fun p p1 p2=>?_,hhi⟩,by omega⟩
   have:=Zcf hs1 (i:=p) (j:=c) (by omega) (by omega) (by omega)
   have:=Zcf hs2 (i:=mid+M - 1 - c) (j:=mid+M - 1 - p) (by omega) (by omega) (h04 p p1 (by omega)).2.1
   omega
  ·have q:keyB bed (at0 xs (mid+M - 1 - c))<keyB bed (at0 xs c):=(Z6h _ _ _).1 (by
    have q:decide ((Z9c (at0 xs (mid+M - 1 - c)) (at0 xs c) (some bed)).fst<0)=true:=by simpa using q
    exact of_decide_eq_true q)
   refine ⟨rfl,⟨s,c,rfl,rfl,h1,by omega,by omega,hlo,fun p p1 p2=>?_⟩,by omega⟩
   have:=Zcf hs1 (i:=c) (j:=p) (by omega) (by omega) (by omega)
   have:=Zcf hs2 (i:=mid+M - 1 - p) (j:=mid+M - 1 - c) (h04 p (by omega) p2).1 (by omega) (by omega)
   omega
 have d:=dge _ _ d
 have sr:s=r:=by omega
 subst sr
 have cd:=cutd hm ham hmb h0 hs1 hs2 h1 h3 hlo hhi
 obtain ⟨l1,l2,l3,l4⟩:=cd.le
 have we:i64.wrap (i64.wrap ((mid:Int)+M) - s)=((mid+M - s:Nat):Int):=by rw [Zt (x:=(mid:Int)+M) (by omega) (by omega),Zt (by omega) (by omega)]; omega
 rw [we]
 have smid:A≤s∧s≤mid∧mid<B∧A<mid∧mid≤mid+M - s:=by omega
 refine ⟨fun _ y=>Trnd (keyB bed) xs y.1 A M B s (mid+M - s) mid,?_,?_⟩
 ·have same:s=M∨M=mid+M - s→Trnd (keyB bed) xs xs A M B s (mid+M - s) mid:=fun q=>trnd cd hm ham hmb hb hs1 hs2 (.refl _) (Z1g0 l2 l3 q).symm
  rintro _ rfl
  refine Br.intro (fun d=>?_) fun d=>⟨rfl,same (.inl (by have:=dge _ _ d; omega))⟩
  have d:=dle _ _ d
  rintro _ rfl
  refine Br.intro (fun d2=>?_) fun d2=>⟨rfl,same (.inr (by have:=dge _ _ d2; omega))⟩
  have d2:=dle _ _ d2
  refine ⟨⟨rfl,rfl,hmx,by omega,by omega,by omega,by omega⟩,?_⟩
  simp only [Int.toNat_natCast]
  rintro ys ⟨q1,q2⟩
  exact ⟨rfl,trnd cd hm ham hmb hb hs1 hs2 q2 q1⟩
 rintro _ ⟨y,⟨⟩⟩ ⟨hr,g1,g2,g3,g4,cr⟩
 dsimp only at hr g1 g2 g3 g4 cr ⊢
 have ly:=hr.len
 simp only [Int.toNat_natCast]
 have gA:s=A→Sgm (keyB bed) y A mid:=fun e=>by rw [← e]; exact g2
 have gM:s=mid→Sgm (keyB bed) y A mid:=fun e=>by rw [← e]; exact g1
 refine ⟨fun _ y=>Rr (keyB bed) A B xs y.1∧Sgm (keyB bed) y.1 A mid∧Sgm (keyB bed) y.1 mid (mid+M - s)∧Sgm (keyB bed) y.1 (mid+M - s) B∧Crs (keyB bed) y.1 A mid B,?_,?_⟩
 ·rintro _ rfl
  refine Br.intro (fun d=>?_) fun d=>⟨rfl,hr,gA (by have:=dge _ _ d; omega),g3,g4,cr⟩
  have d:=dle _ _ d
  rintro _ rfl
  refine Br.intro (fun d2=>?_) fun d2=>⟨rfl,hr,gM (by have:=dge _ _ d2; omega),g3,g4,cr⟩
  have d2:=dle _ _ d2
  refine ⟨⟨by trivial,by trivial,ly.symm,bo.perm hr.perm,by omega,by omega,by omega,by omega,by omega,g1,g2⟩,?_⟩
  rintro ys ⟨q1,q2⟩
  exact ⟨rfl,hr.trans (q1.wide (Nat.le_refl _) (by omega)),q2,q1.sgm g3 (.inr (Nat.le_refl _)),q1.sgm g4 (.inr (by omega)),cr.left q1⟩
 clear gA gM hr g1 g2 g3 g4 cr ly
 rintro _ ⟨y,⟨⟩⟩ ⟨hr,g1,g3,g4,cr⟩
 dsimp only at hr g1 g3 g4 cr ⊢
 have ly:=hr.len
 rintro _ rfl
 refine Br.intro (fun d=>?_) fun d=>hk _ ⟨hr,by
  have:=dge _ _ d
  have e:mid+M - s=mid:=by omega
  rw [e] at g4
  exact cr.join g1 g4⟩
 have d:=dle _ _ d
 rintro _ rfl
 refine Br.intro (fun d2=>?_) fun d2=>hk _ ⟨hr,by
  have:=dge _ _ d2
  have e:mid+M - s=B:=by omega
  rw [e] at g3
  exact cr.join g1 g3⟩
 have d2:=dle _ _ d2
 refine ⟨⟨by trivial,by trivial,ly.symm,bo.perm hr.perm,by omega,by omega,by omega,by omega,by omega,g3,g4⟩,?_⟩
 rintro ys ⟨q1,q2⟩
 exact hk _ ⟨hr.trans (q1.wide (by omega) (Nat.le_refl _)),(cr.right q1).join (q1.sgm g1 (.inl (Nat.le_refl _))) q2⟩
def Zr4:=fun (ty3 fn72:Nat) (m:Md) (tb N:Nat) (bed:List Nat) (xs:List Int) (n:Int) (k:EV→List HObj→Prop)=>HIs [HObj.box m tb [SV.data (K.flt
 f64).slice bed],HObj.row Md.rw ty3 (K.int i64) xs] [HObj.box m tb [SV.data (K.flt f64).slice bed],HObj.row Md.rw ty3 (K.int i64) xs] ∧
 ∃ (I:Int × Int × Unit→List Int × Unit→Prop),∃ (μ:Int × Int × Unit→List Int × Unit→Nat),I ((0:Int),(20:Int),()) (xs,())∧∀ (x:Int × Int × Unit) (y:List
 Int × Unit),I x y→∀ (a:Bool),a=decide (x.snd.fst≤n)→Br a (∃ (x_3:(ty3=ty3)∧(fn72=fn72)∧xs.length=y.fst.length∧Z2y bed y.fst∧(0:Int)≤x.fst∧x.fst
 ≤ x.snd.fst∧x.snd.fst≤(↑y.fst.length:Int)),∀ (ys:List Int),Rr (keyB bed) x.fst.toNat x.snd.fst.toNat y.fst ys∧Sgm (keyB bed) ys x.fst.toNat x.snd.fst.toNat→HIs
 [HObj.box m tb [SV.data (K.flt f64).slice bed],HObj.row Md.rw ty3 (K.int i64) ys] [HObj.box m tb [SV.data (K.flt f64).slice bed],HObj.row Md.rw
 ty3 (K.int i64) ys]∧I (x.snd.fst,i64.wrap (x.snd.fst+(20:Int)),()) (ys,())∧μ (x.snd.fst,i64.wrap (x.snd.fst+(20:Int)),()) (ys,())<μ x
 y) (∃ (x_3:(ty3=ty3)∧(fn72=fn72)∧xs.length=y.fst.length∧Z2y bed y.fst∧(0:Int)≤x.fst∧x.fst≤n∧n≤(↑y.fst.length:Int)),∀ (ys:List Int),Rr (keyB
 bed) x.fst.toNat n.toNat y.fst ys∧Sgm (keyB bed) ys x.fst.toNat n.toNat→HIs [HObj.box m tb [SV.data (K.flt f64).slice bed],HObj.row Md.rw ty3 (K.int i64)
 ys] [HObj.box m tb [SV.data (K.flt f64).slice bed],HObj.row Md.rw ty3 (K.int i64) ys]∧∃ (I:Int × Unit→List Int × Unit→Prop),∃ (μ:Int × Unit→List
 Int × Unit→Nat),I ((20:Int),()) (ys,())∧∀ (x:Int × Unit) (y:List Int × Unit),I x y→∀ (a:Bool),a=decide (x.fst<n)→Br a (HIs [HObj.box m tb [SV.data (K.flt
 f64).slice bed],HObj.row Md.rw ty3 (K.int i64) y.fst] [HObj.box m tb [SV.data (K.flt f64).slice bed],HObj.row Md.rw ty3 (K.int i64)
 y.fst]∧∃ (I_1:Int × Int × Unit→List Int × Unit→Prop),∃ (μ_1:Int × Int × Unit→List Int × Unit→Nat),I_1 ((0:Int),i64.wrap ((2:Int)*x.fst),()) (y.fst,
 ())∧∀ (x_6:Int × Int × Unit) (y_1:List Int × Unit),I_1 x_6 y_1→∀ (a:Bool),a=decide (x_6.snd.fst≤n)→Br a (∃ (x_9:(ty3=ty3)∧(fn72=fn72)∧xs.length =
 y_1.fst.length∧Z2y bed y_1.fst∧(0:Int)≤x_6.fst∧x_6.fst<i64.wrap (x_6.fst+x.fst)∧i64.wrap (x_6.fst+x.fst)<x_6.snd.fst∧x_6.snd.fst ≤
 (↑y_1.fst.length:Int)∧(x_6.snd.fst - x_6.fst).toNat<N∧Sgm (keyB bed) y_1.fst x_6.fst.toNat (i64.wrap (x_6.fst+x.fst)).toNat∧Sgm (keyB bed) y_1.fst
 (i64.wrap (x_6.fst+x.fst)).toNat x_6.snd.fst.toNat),∀ (ys:List Int),Rr (keyB bed) x_6.fst.toNat x_6.snd.fst.toNat y_1.fst ys∧Sgm (keyB bed) ys x_6.fst.toNat
 x_6.snd.fst.toNat→HIs [HObj.box m tb [SV.data (K.flt f64).slice bed],HObj.row Md.rw ty3 (K.int i64) ys] [HObj.box m tb [SV.data (K.flt
 f64).slice bed],HObj.row Md.rw ty3 (K.int i64) ys]∧I_1 (x_6.snd.fst,i64.wrap (x_6.snd.fst+i64.wrap ((2:Int)*x.fst)),()) (ys,()) ∧
 μ_1 (x_6.snd.fst,i64.wrap (x_6.snd.fst+i64.wrap ((2:Int)*x.fst)),()) (ys,())<μ_1 x_6 y_1) (∃ (post:Int × Unit→List Int × Unit→Prop),(∀ (a :
 Bool),a=decide (i64.wrap (x_6.fst+x.fst)<n)→Br a (∃ (x_10:(ty3=ty3)∧(fn72=fn72)∧xs.length=y_1.fst.length∧Z2y bed y_1.fst∧(0:Int)≤x_6.fst ∧
 x_6.fst<i64.wrap (x_6.fst+x.fst)∧i64.wrap (x_6.fst+x.fst)<n∧n≤(↑y_1.fst.length:Int)∧(n - x_6.fst).toNat<N∧Sgm (keyB bed) y_1.fst
 x_6.fst.toNat (i64.wrap (x_6.fst+x.fst)).toNat∧Sgm (keyB bed) y_1.fst (i64.wrap (x_6.fst+x.fst)).toNat n.toNat),∀ (ys:List Int),Rr (keyB bed)
 x_6.fst.toNat n.toNat y_1.fst ys∧Sgm (keyB bed) ys x_6.fst.toNat n.toNat→HIs [HObj.box m tb [SV.data (K.flt f64).slice bed],HObj.row Md.rw ty3 (K.int
 i64) ys] [HObj.box m tb [SV.data (K.flt f64).slice bed],HObj.row Md.rw ty3 (K.int i64) ys]∧post (x.fst,()) (ys,())) (HIs [HObj.box m tb [SV.data
 (K.flt f64).slice bed],HObj.row Md.rw ty3 (K.int i64) y_1.fst] [HObj.box m tb [SV.data (K.flt f64).slice bed],HObj.row Md.rw ty3 (K.int
 i64) y_1.fst]∧post (x.fst,()) (y_1.fst,())))∧∀ (x_9:Int × Unit) (y_2:List Int × Unit),post x_9 y_2→HIs [HObj.box m tb [SV.data (K.flt f64).slice
 bed],HObj.row Md.rw ty3 (K.int i64) y_2.fst] [HObj.box m tb [SV.data (K.flt f64).slice bed],HObj.row Md.rw ty3 (K.int i64) y_2.fst]∧I
 (i64.wrap (x_9.fst*(2:Int)),()) (y_2.fst,())∧μ (i64.wrap (x_9.fst*(2:Int)),()) (y_2.fst,())<μ x y)) (k (EV.tup []) [HObj.box m tb [SV.data (K.flt
 f64).slice bed],HObj.row Md.rw ty3 (K.int i64) y.fst]))
theorem Z1gf (ty0 ty1:Nat) (m:Md) (tb N:Nat) (bed:List Nat) (xs:List Int) (n:Int) (k:EV→List HObj→Prop) (h:Z2y bed xs∧n=(List.length xs:Int)∧List.length xs<N) (hk:∀ ys:List Int,Rr (keyB bed) 0 n.toNat xs ys∧Sgm (keyB bed) ys 0 n.toNat→k (.tup []) [.box m tb [.data (.slice (.flt .f64)) bed],.row .rw ty0 (.int .i64) ys]):Zr4 ty0 ty1 m tb N bed xs n k:=by
 unfold Zr4
 obtain ⟨bo,hn,hN⟩:=h
 have mx:maxN=281474976710656:=rfl
 have hmx:=bo.2.2
 obtain ⟨n0,hn0⟩:∃ n0,xs.length=n0:=⟨_,rfl⟩
 rw [hn0] at hn hN hmx
 subst hn
 simp only [Int.toNat_natCast] at hk
 have dle:∀ u v:Nat,decide ((u:Int)<v)=true→u<v:=fun u v d=>by have d:(u:Int)<v:=of_decide_eq_true d; omega
 have dge:∀ u v:Nat,decide ((u:Int)<v)=false→v≤u:=fun u v d=>by have d:¬ (u:Int)<v:=of_decide_eq_false d; omega
 have ele:∀ u v:Nat,decide ((u:Int)≤v)=true→u≤v:=fun u v d=>by have d:(u:Int)≤v:=of_decide_eq_true d; omega
 have ege:∀ u v:Nat,decide ((u:Int)≤v)=false→v<u:=fun u v d=>by have d:¬ (u:Int)≤v:=of_decide_eq_false d; omega
 have wadd:∀ u v:Nat,u≤4*n0+40→v≤4*n0+40→i64.wrap ((u:Int)+v)=((u+v:Nat):Int):=fun u v h1 h2=>by rw [Zt (by omega) (by omega)]; omega
 refine ⟨rfl,fun x y=>∃ q:Nat,x.1=(q*20:Nat)∧x.2.1=(q*20+20:Nat)∧q*20≤n0∧Rr (keyB bed) 0 n0 xs y.1∧∀ q',q'<q→Sgm (keyB bed) y.1 (q'*20) (q'*20+20),fun x _=>n0+20 - x.1.toNat,⟨0,rfl,rfl,by omega,.refl _ _ _,fun q' h=>by omega⟩,?_⟩
 rintro ⟨_,_,⟨⟩⟩ ⟨y,⟨⟩⟩ ⟨q,rfl,rfl,hq,hr,hs⟩
 dsimp only at hr hs ⊢
 have ly:=hr.len
 rintro _ rfl
 refine Br.intro (fun d=>?_) fun d=>?_
 ·have d:=ele _ _ d
  rw [show i64.wrap (((q*20+20:Nat):Int)+20)=((q*20+20+20:Nat):Int) from wadd (q*20+20) 20 (by omega) (by omega)]
  refine ⟨⟨by trivial,by trivial,ly.symm,bo.perm hr.perm,by omega,by omega,by omega⟩,?_⟩
  simp only [Int.toNat_natCast]
  rintro ys ⟨r1,r2⟩
  refine ⟨rfl,⟨q+1,by omega,by omega,by omega,hr.trans (r1.wide (by omega) d),fun q' h=>?_⟩,by omega⟩
  by_cases e:q'=q
  ·subst e; exact r2
  ·exact r1.sgm (hs q' (by omega)) (.inl (by omega))
 have d:=ege _ _ d
 refine ⟨⟨by trivial,by trivial,ly.symm,bo.perm hr.perm,by omega,by omega,by omega⟩,?_⟩
 simp only [Int.toNat_natCast]
 rintro ys ⟨r1,r2⟩
 have hr1:=hr.trans (r1.wide (Nat.zero_le _) (Nat.le_refl _))
 have hb0:∀ q',Sgm (keyB bed) ys (q'*20) (min (q'*20+20) n0):=fun q'=>by
  by_cases e:q'=q
  ·subst e; exact r2.sub (Nat.le_refl _) (by omega)
  ·by_cases e2:q'<q
   ·exact (r1.sgm (hs q' e2) (.inl (by omega))).sub (Nat.le_refl _) (by omega)
   ·exact .one (by omega)
 clear hr hs r1 r2 ly d hq
 refine ⟨rfl,fun x y=>∃ s:Nat,x.1=s∧0<s∧s≤2*n0+20∧Rr (keyB bed) 0 n0 xs y.1∧∀ q',Sgm (keyB bed) y.1 (q'*s) (min (q'*s+s) n0),fun x _=>n0 - x.1.toNat,⟨20,rfl,by decide,by omega,hr1,hb0⟩,?_⟩
 rintro ⟨_,⟨⟩⟩ ⟨y,⟨⟩⟩ ⟨s,rfl,hs0,hsn,hr,hb⟩
 dsimp only at hr hb ⊢
 clear hr1 hb0
 have ly:=hr.len
 rintro _ rfl
 refine Br.intro (fun d=>?_) fun d=>?_
 rotate_left
 ·have d:=dge _ _ d
  have:=hb 0
  rw [Nat.zero_mul,Nat.zero_add,Nat.min_eq_right d] at this
  exact hk _ ⟨hr,this⟩
 have d:=dle _ _ d
 have w2:i64.wrap (2*(s:Int))=((2*s:Nat):Int):=by rw [Zt (by omega) (by omega)]; omega
 rw [w2]
 refine ⟨rfl,fun x y=>∃ q:Nat,x.1=(q*(2*s):Nat)∧x.2.1=(q*(2*s)+2*s:Nat)∧q*(2*s)≤n0∧Rr (keyB bed) 0 n0 xs y.1∧(∀ q',q'<q→Sgm (keyB bed) y.1 (q'*(2*s)) (q'*(2*s)+2*s))∧∀ q',2*q≤q'→Sgm (keyB bed) y.1 (q'*s) (min (q'*s+s) n0),fun x _=>n0+2*s - x.1.toNat,⟨0,by simp,by simp,by omega,hr,fun q' h=>by omega,fun q' _=>hb q'⟩,?_⟩
 rintro ⟨_,_,⟨⟩⟩ ⟨z,⟨⟩⟩ ⟨q,rfl,rfl,hq,hz,hd,ht⟩
 dsimp only at hz hd ht ⊢
 have lz:=hz.len
 have ht0:=ht (2*q) (Nat.le_refl _)
 have ht1:=ht (2*q+1) (by omega)
 have e0:2*q*s=q*(2*s):=by rw [Nat.mul_comm 2 q,Nat.mul_assoc]
 have e1:(2*q+1)*s=q*(2*s)+s:=by rw [Nat.add_mul,e0,Nat.one_mul]
 have ep:∀ q',q'*(2*s)=2*q'*s:=fun q'=>by rw [Nat.mul_comm 2 q',Nat.mul_assoc]
 have en:(q+1)*(2*s)=q*(2*s)+2*s:=by rw [Nat.add_mul,Nat.one_mul]
 have lt:∀ q',q'<q→q'*(2*s)+2*s≤q*(2*s):=fun q' h=>by
  have:=Nat.mul_le_mul_right (2*s) (show q'+1≤q from h)
  rw [Nat.add_mul,Nat.one_mul] at this; exact this
 have gt:∀ q',2*(q+1)≤q'→q*(2*s)+2*s≤q'*s:=fun q' h=>by
  have:=Nat.mul_le_mul_right s h
  rw [← ep,en] at this; exact this
 rw [e0] at ht0
 rw [e1] at ht1
 obtain ⟨A,hA⟩:∃ A,q*(2*s)=A:=⟨_,rfl⟩
 rw [hA] at ht0 ht1 hq en lt gt ⊢
 rw [wadd A s (by omega) (by omega)]
 rintro _ rfl
 refine Br.intro (fun d2=>?_) fun d2=>?_
 ·have d2:=ele _ _ d2
  rw [wadd (A+2*s) (2*s) (by omega) (by omega)]
  simp only [Int.toNat_natCast]
  rw [Nat.min_eq_left (by omega)] at ht0 ht1
  have f1:A+s+s=A+2*s:=by omega
  rw [f1] at ht1
  refine ⟨⟨by trivial,by trivial,lz.symm,bo.perm hz.perm,by omega,by omega,by omega,by omega,by omega,ht0,ht1⟩,?_⟩
  rintro ys ⟨r1,r2⟩
  refine ⟨rfl,⟨q+1,by rw [en],by rw [en],by omega,hz.trans (r1.wide (Nat.zero_le _) d2),fun q' h=>?_,fun q' h=>?_⟩,by omega⟩
  ·by_cases e:q'=q
   ·subst e; rw [hA]; exact r2
   ·have:=lt q' (by omega)
    exact r1.sgm (hd q' (by omega)) (.inl (by omega))
  ·have:=gt q' h
   exact r1.sgm (ht q' (by omega)) (.inr (by omega))
 have d2:=ege _ _ d2
 have fin:∀ ys,Rr (keyB bed) A n0 z ys→Sgm (keyB bed) ys A n0→Rr (keyB bed) 0 n0 xs ys∧∀ q',Sgm (keyB bed) ys (q'*(2*s)) (min (q'*(2*s)+2*s) n0):=fun ys r1 r2=>⟨hz.trans (r1.wide (Nat.zero_le _) (Nat.le_refl _)),fun q'=>by
  by_cases e:q'=q
  ·subst e; rw [hA]; exact r2.sub (Nat.le_refl _) (by omega)
  ·by_cases e2:q'<q
   ·have:=lt q' e2
    exact (r1.sgm (hd q' e2) (.inl (by omega))).sub (Nat.le_refl _) (by omega)
   ·have:=lt
    have h3:=Nat.mul_le_mul_right (2*s) (show q+1≤q' by omega)
    rw [en] at h3
    exact .one (by omega)⟩
 refine ⟨fun x y=>x.1=(s:Int)∧Rr (keyB bed) 0 n0 xs y.1∧∀ q',Sgm (keyB bed) y.1 (q'*(2*s)) (min (q'*(2*s)+2*s) n0),?_,?_⟩
 ·rintro _ rfl
  refine Br.intro (fun d3=>?_) fun d3=>?_
  ·have d3:=dle _ _ d3
   simp only [Int.toNat_natCast]
   rw [Nat.min_eq_left (by omega)] at ht0
   rw [Nat.min_eq_right (by omega)] at ht1
   refine ⟨⟨by trivial,by trivial,lz.symm,bo.perm hz.perm,by omega,by omega,by omega,by omega,by omega,ht0,ht1⟩,?_⟩
   rintro ys ⟨r1,r2⟩
   exact ⟨rfl,by trivial,fin ys r1 r2⟩
  ·have d3:=dge _ _ d3
   rw [Nat.min_eq_right (by omega)] at ht0
   exact ⟨rfl,by trivial,fin z (.refl _ _ _) ht0⟩
 rintro ⟨_,⟨⟩⟩ ⟨w,⟨⟩⟩ ⟨rfl,h1,h2⟩
 dsimp only at h1 h2 ⊢
 have w3:i64.wrap ((s:Int)*2)=((2*s:Nat):Int):=by rw [Zt (by omega) (by omega)]; omega
 rw [w3]
 exact ⟨rfl,⟨2*s,rfl,by omega,by omega,h1,h2⟩,by omega⟩
def Z10f:=fun (ty3 fn72:Nat) (m:Md) (tb N:Nat) (bed:List Nat) (xs:List Int) (k:EV→List HObj→Prop)=>∃ (x:(ty3=ty3)∧(fn72=fn72)∧xs.length =
 xs.length∧Z2y bed xs∧(↑xs.length:Int)=(↑xs.length:Int)),∀ (ys:List Int),Rr (keyB bed) (0:Nat) xs.length xs ys∧Sgm (keyB bed) ys (0:Nat) xs.length→k (EV.tup
 []) [HObj.box m tb [SV.data (K.flt f64).slice bed],HObj.row Md.rw ty3 (K.int i64) ys]
theorem Z1dl (ty0 ty1:Nat) (m:Md) (tb N:Nat) (bed:List Nat) (xs:List Int) (k:EV→List HObj→Prop) (h:Z2y bed xs) (hk:∀ ys:List Int,Rr (keyB bed) 0 xs.length xs ys∧Sgm (keyB bed) ys 0 xs.length→k (.tup []) [.box m tb [.data (.slice (.flt .f64)) bed],.row .rw ty0 (.int .i64) ys]):Z10f ty0 ty1 m tb N bed xs k:=by
 refine ⟨⟨rfl,rfl,rfl,h,rfl⟩,?_⟩
 rintro ys ⟨h1,h2⟩
 exact hk ys ⟨by simpa using h1,by simpa using h2⟩
end Go.Lift

namespace Go.Lift
open Go.Proofs
def Z29:Cx:=⟨Zf Zi,Zg [(72,Zco)],RbG⟩
theorem Z6o:CxOk Tryz.prog Z29:=⟨Z4 Z7,Z6 ⟨Zqy,trivial⟩⟩
def Zr5:Hn:={ loops:=Z2b [(1,{ ls:=[(.slot 10,.data (.int .i64))],os:=[(1,3,.int .i64)] })],joins:=fun _=>none,named:=true }
theorem Z199:FnAt Tryz.prog 179 Tryz.f179.ntmps Tryz.f179.results.toList (Tryz.f179.body.getD .skip):=⟨Tryz.f179,Tryz.func179,rfl,rfl,by simp,by decide⟩
theorem Z19a (m:Md) (tb:Nat) (cs:List SV) (xs:List Int) (a b n:Int) (fv:EV) (k:EV→List HObj→Prop):Zce Z29 Zr5 (Z3j) Tryz.f179.ntmps Tryz.f179.results.toList (Tryz.f179.body.getD .skip) [.x (.one (.osl 1 0 (List.length xs))),.x (.one (.val (.int .i64 a))),.x (.one (.val (.int .i64 b))),.x (.one (.val (.int .i64 n))),fv] [.box m tb cs,.row .rw 3 (.int .i64) xs] k=Z10e 3 m tb cs xs a b n fv k:=by kernel_rfl
theorem Z19b:EvOk Tryz.prog Z29 179 (Z6g 3):=(Z8l Z6o Z8 Z8d Z199 Zr5).of fun args hp k q=>by
 unfold Z6g at q
 split at q
 ·rename_i len a b n fv m tb cs t xs
  obtain ⟨⟨rfl,rfl,h⟩,hk⟩:=q
  have e:=Z19a m tb cs xs a b n fv k
  have f:=Z1dk 3 m tb cs xs a b n fv k h hk
  first | (rw [e]; exact f) | exact Eq.mpr e f
 ·exact q.elim
theorem Z1bq:Z2e Tryz.prog Z29 (Z1i 179 (Z6g 3) (Z3j)):=Z81 Z19b Z8d
def Ztw:Hn:={ loops:=Z2b [(2,{ ls:=[(.slot 10,.data (.int .i64)),(.slot 11,.data (.int .i64))],os:=[(1,3,.int .i64)] })],joins:=fun _=>none,named:=true,inl:=inlL [179] }
theorem Z1ag:FnAt Tryz.prog 165 Tryz.f165.ntmps Tryz.f165.results.toList (Tryz.f165.body.getD .skip):=⟨Tryz.f165,Tryz.func165,rfl,rfl,by simp,by decide⟩
theorem Z1ah (md:Md) (tb:Nat) (cs:List SV) (xs:List Int) (a m b:Int) (fv:EV) (k:EV→List HObj→Prop):Zce Z29 Ztw (Z1i 179 (Z6g 3) (Z3j)) Tryz.f165.ntmps Tryz.f165.results.toList (Tryz.f165.body.getD .skip) [.x (.one (.osl 1 0 (List.length xs))),.x (.one (.val (.int .i64 a))),.x (.one (.val (.int .i64 m))),.x (.one (.val (.int .i64 b))),fv] [.box md tb cs,.row .rw 3 (.int .i64) xs] k=Zr1 3 md tb cs xs a m b fv k:=by kernel_rfl
theorem Z1ai:EvOk Tryz.prog Z29 165 (Zeh 3):=(Z8l Z6o Z8 Z1bq Z1ag Ztw).of fun args hp k q=>by
 unfold Zeh at q
 split at q
 ·rename_i len a m b fv md tb cs t xs
  obtain ⟨⟨rfl,rfl,h⟩,hk⟩:=q
  have e:=Z1ah md tb cs xs a m b fv k
  have f:=Z1gc 3 md tb cs xs a m b fv k h hk
  first | (rw [e]; exact f) | exact Eq.mpr e f
 ·exact q.elim
theorem Z1jk:Z2e Tryz.prog Z29 (Z1i 165 (Zeh 3) (Z1i 179 (Z6g 3) (Z3j))):=Z81 Z1ai Z1bq
def Ztx:Hn:={ loops:=Z2b [(1,{ ls:=[(.slot 8,.data (.int .i64))],os:=[(1,3,.int .i64)] }),(4,{ ls:=[(.slot 9,.data (.int .i64))],os:=[(1,3,.int .i64)] })],joins:=fun _=>none,named:=true,inl:=fun _=>false }
theorem Z1aj:FnAt Tryz.prog 138 Tryz.f138.ntmps Tryz.f138.results.toList (Tryz.f138.body.getD .skip):=⟨Tryz.f138,Tryz.func138,rfl,rfl,by simp,by decide⟩
theorem Z1ak (m:Md) (tb:Nat) (bed:List Nat) (xs:List Int) (a b:Int) (k:EV→List HObj→Prop):Zce Z29 Ztx (Z3j) Tryz.f138.ntmps Tryz.f138.results.toList (Tryz.f138.body.getD .skip) [.x (.one (.osl 1 0 (List.length xs))),.x (.one (.val (.int .i64 a))),.x (.one (.val (.int .i64 b))),.x (.one (.clo 72 [] [.ref 0 0]))] [.box m tb [.data (.slice (.flt .f64)) bed],.row .rw 3 (.int .i64) xs] k=Zr2 3 m tb bed xs a b k:=by kernel_rfl
theorem Z1al:EvOk Tryz.prog Z29 138 (Zhh 3 72):=(Z8l Z6o Z8 Z8d Z1aj Ztx).of fun args hp k q=>by
 unfold Zhh at q
 split at q
 ·rename_i len a b f m tb bed t xs
  obtain ⟨⟨rfl,rfl,rfl,h⟩,hk⟩:=q
  have e:=Z1ak m tb bed xs a b k
  have f:=Z1gd 3 m tb bed xs a b k h hk
  first | (rw [e]; exact f) | exact Eq.mpr e f
 ·exact q.elim
theorem Z1br:Z2e Tryz.prog Z29 (Z1i 138 (Zhh 3 72) (Z1i 165 (Zeh 3) (Z1i 179 (Z6g 3) (Z3j)))):=Z81 Z1al Z1jk
def Zty:Hn:={ loops:=Z2b [(3,{ ls:=[(.slot 10,.data (.int .i64)),(.slot 11,.data (.int .i64))],os:=[] }),(9,{ ls:=[(.slot 13,.data (.int .i64))],os:=[(1,3,.int .i64)] }),(15,{ ls:=[(.slot 14,.data (.int .i64)),(.slot 15,.data (.int .i64))],os:=[] }),(21,{ ls:=[(.slot 17,.data (.int .i64))],os:=[(1,3,.int .i64)] }),(33,{ ls:=[(.slot 20,.data (.int .i64)),(.slot 21,.data (.int .i64))],os:=[] })],joins:=Z2b [(32,{ ls:=[(.slot 20,.data (.int .i64)),(.slot 21,.data (.int .i64))],os:=[] }),(41,{ ls:=[],os:=[(1,3,.int .i64)] }),(43,{ ls:=[],os:=[(1,3,.int .i64)] })],named:=true,inl:=inlL [165,139] }
theorem Z1am:FnAt Tryz.prog 139 Tryz.f139.ntmps Tryz.f139.results.toList (Tryz.f139.body.getD .skip):=⟨Tryz.f139,Tryz.func139,rfl,rfl,by simp,by decide⟩
theorem Z1an (md:Md) (tb N:Nat) (bed:List Nat) (xs:List Int) (a m b:Int) (k:EV→List HObj→Prop):Zce Z29 Zty (Z1i 139 (Zhi 3 72 N) (Z1i 138 (Zhh 3 72) (Z1i 165 (Zeh 3) (Z1i 179 (Z6g 3) (Z3j))))) Tryz.f139.ntmps Tryz.f139.results.toList (Tryz.f139.body.getD .skip) [.x (.one (.osl 1 0 (List.length xs))),.x (.one (.val (.int .i64 a))),.x (.one (.val (.int .i64 m))),.x (.one (.val (.int .i64 b))),.x (.one (.clo 72 [] [.ref 0 0]))] [.box md tb [.data (.slice (.flt .f64)) bed],.row .rw 3 (.int .i64) xs] k=Zr3 3 72 md tb N bed xs a m b k:=by kernel_rfl
theorem Ztz:∀ N,EvOk Tryz.prog Z29 139 (Zhi 3 72 N)
 | 0=>fun c hi hg args vs k hall q=>by
  unfold Zhi at q
  split at q
  ·obtain ⟨⟨_,_,_,_,_,_,_,_,hN,_⟩,_⟩:=q
   exact absurd hN (Nat.not_lt_zero _)
  ·exact q.elim
 | N+1=>(Z8l Z6o Z8 (Z81 (Ztz N) Z1br) Z1am Zty).of fun args hp k q=>by
  unfold Zhi at q
  split at q
  ·rename_i len a m b f md tb bed t xs
   obtain ⟨⟨rfl,rfl,rfl,h⟩,hk⟩:=q
   have e:=Z1an md tb N bed xs a m b k
   have f:=Z1ge 3 72 md tb N bed xs a m b k h hk
   first | (rw [e]; exact f) | exact Eq.mpr e f
  ·exact q.elim
theorem Z1bs (N:Nat):Z2e Tryz.prog Z29 (Z1i 139 (Zhi 3 72 N) (Z1i 138 (Zhh 3 72) (Z1i 165 (Zeh 3) (Z1i 179 (Z6g 3) (Z3j))))):=Z81 (Ztz N) Z1br
def Zu0:Hn:={ loops:=Z2b [(2,{ ls:=[(.slot 7,.data (.int .i64)),(.slot 8,.data (.int .i64))],os:=[(1,3,.int .i64)] }),(7,{ ls:=[(.slot 6,.data (.int .i64))],os:=[(1,3,.int .i64)] }),(9,{ ls:=[(.slot 7,.data (.int .i64)),(.slot 8,.data (.int .i64))],os:=[(1,3,.int .i64)] })],joins:=Z2b [(16,{ ls:=[(.slot 6,.data (.int .i64))],os:=[(1,3,.int .i64)] })],named:=true,inl:=inlL [138,139] }
theorem Z1ao:FnAt Tryz.prog 111 Tryz.f111.ntmps Tryz.f111.results.toList (Tryz.f111.body.getD .skip):=⟨Tryz.f111,Tryz.func111,rfl,rfl,by simp,by decide⟩
theorem Z1ap (m:Md) (tb N:Nat) (bed:List Nat) (xs:List Int) (n:Int) (k:EV→List HObj→Prop):Zce Z29 Zu0 (Z1i 139 (Zhi 3 72 N) (Z1i 138 (Zhh 3 72) (Z1i 165 (Zeh 3) (Z1i 179 (Z6g 3) (Z3j))))) Tryz.f111.ntmps Tryz.f111.results.toList (Tryz.f111.body.getD .skip) [.x (.one (.osl 1 0 (List.length xs))),.x (.one (.val (.int .i64 n))),.x (.one (.clo 72 [] [.ref 0 0]))] [.box m tb [.data (.slice (.flt .f64)) bed],.row .rw 3 (.int .i64) xs] k=Zr4 3 72 m tb N bed xs n k:=by kernel_rfl
theorem Z1aq:EvOk Tryz.prog Z29 111 (Z16x 3 72):=.ofN (fun N=>Z8l Z6o Z8 (Z1bs N) Z1ao Zu0) fun args hp k q=>by
 unfold Z16x at q
 split at q
 ·rename_i len n f m tb bed t xs
  obtain ⟨⟨rfl,rfl,rfl,h1,h2⟩,hk⟩:=q
  refine ⟨List.length xs+1,?_⟩
  have e:=Z1ap m tb (List.length xs+1) bed xs n k
  have f:=Z1gf 3 72 m tb (List.length xs+1) bed xs n k ⟨h1,h2,Nat.lt_succ_self _⟩ hk
  first | (rw [e]; exact f) | exact Eq.mpr e f
 ·exact q.elim
theorem Z1jl (N:Nat):Z2e Tryz.prog Z29 (Z1i 111 (Z16x 3 72) (Z1i 139 (Zhi 3 72 N) (Z1i 138 (Zhh 3 72) (Z1i 165 (Zeh 3) (Z1i 179 (Z6g 3) (Z3j)))))):=Z81 Z1aq (Z1bs N)
def Zr6:Hn:={ loops:=fun _=>none,joins:=fun _=>none,named:=true,inl:=inlL [111] }
theorem Z19c:FnAt Tryz.prog 71 Tryz.f71.ntmps Tryz.f71.results.toList (Tryz.f71.body.getD .skip):=⟨Tryz.f71,Tryz.func71,rfl,rfl,by simp,by decide⟩
theorem Z19d (m:Md) (tb N:Nat) (bed:List Nat) (xs:List Int) (k:EV→List HObj→Prop):Zce Z29 Zr6 (Z1i 111 (Z16x 3 72) (Z1i 139 (Zhi 3 72 N) (Z1i 138 (Zhh 3 72) (Z1i 165 (Zeh 3) (Z1i 179 (Z6g 3) (Z3j)))))) Tryz.f71.ntmps Tryz.f71.results.toList (Tryz.f71.body.getD .skip) [.x (.one (.osl 1 0 (List.length xs))),.x (.one (.clo 72 [] [.ref 0 0]))] [.box m tb [.data (.slice (.flt .f64)) bed],.row .rw 3 (.int .i64) xs] k=Z10f 3 72 m tb N bed xs k:=by kernel_rfl
theorem Z19e:EvOk Tryz.prog Z29 71 (Zyb 3 72):=(Z8l Z6o Z8 (Z1jl 0) Z19c Zr6).of fun args hp k q=>by
 unfold Zyb at q
 split at q
 ·rename_i len f m tb bed t xs
  obtain ⟨⟨rfl,rfl,rfl,h⟩,hk⟩:=q
  have e:=Z19d m tb 0 bed xs k
  have f:=Z1dl 3 72 m tb 0 bed xs k h hk
  first | (rw [e]; exact f) | exact Eq.mpr e f
 ·exact q.elim
theorem Z1jm:Z2e Tryz.prog Z29 (Z1i 71 (Zyb 3 72) Z3j):=Z81 Z19e Z8d
end Go.Lift

namespace Go.Lift
open Go.Proofs
def Zgi:Con:=Con.nam [.slice (.flt .f64),.slice (.int .i64),.slice (.int .i64)] [.own 3 (.int .i64)] (fun x=>WMrg x.1 x.2.1 x.2.2.1) (fun x=>mrgR x.1 x.2.1 x.2.2.1)
def Ze0:Hn:={ loops:=Z2b [(4,{ ls:=[(.slot 8,.data (.int .i64)),(.slot 9,.data (.int .i64)),(.slot 7,.row 3 (.int .i64))],os:=[] })],joins:=fun _=>none,named:=true }
def Zgj:Cx:=⟨Zf Zi,Zg [(78,Zba)],RbG⟩
theorem Zoo:CxOk Tryz.prog Zgj:=⟨Z4 Z7,Z6 ⟨Zl8,trivial⟩⟩
theorem Zt7:FnAt Tryz.prog 112 Tryz.f112.ntmps Tryz.f112.results.toList (Tryz.f112.body.getD .skip):=⟨Tryz.f112,Tryz.func112,rfl,rfl,by simp,by decide⟩
theorem Zt8 (bed:List Nat) (l:List Int) (t:List Int) (post:(List Int) × Unit→Prop):Za Zgj Ze0 Tryz.f112.ntmps Tryz.f112.results.toList (Tryz.f112.body.getD .skip) [.slice (.flt .f64),.slice (.int .i64),.slice (.int .i64)] [.own 3 (.int .i64)] (bed,l,t,()) post=Za0  bed l t post:=by kernel_rfl
theorem Zvy:Zgi.holds Tryz.prog RbG 112 :=
 Zq (detP Zoo Z8 Ze0 Zt7 (F:=fun x post=>Za0  x.1 x.2.1 x.2.2.1 post) (fun x post=>Zt8 x.1 x.2.1 x.2.2.1 post) fun x h _=>Z10d  x.1 x.2.1 x.2.2.1 h)
def Ze1:Con:=Con.nam [.slice (.flt .f64),.int .i64,.int .i64] [.own 3 (.int .i64)] (fun x=>Z1d9 x.1 x.2.1 x.2.2.1) (fun x=>Z5j x.1 x.2.1 x.2.2.1)
def Zcq (N:Nat):Con:=Con.nam [.slice (.flt .f64),.int .i64,.int .i64] [.own 3 (.int .i64)] (fun x=>Z16y N x.1 x.2.1 x.2.2.1) (fun x=>Z5j x.1 x.2.1 x.2.2.1)
def Zcr (N:Nat):Cx:=⟨Zf Zi,Zg [(112,Zgi),(74,Zcq N)],RbG⟩
theorem Zr7:FnAt Tryz.prog 74 Tryz.f74.ntmps Tryz.f74.results.toList (Tryz.f74.body.getD .skip):=⟨Tryz.f74,Tryz.func74,rfl,rfl,by simp,by decide⟩
theorem Zr8 (N:Nat) (bed:List Nat) (a b:Int) (post:List Int × Unit→Prop):Za (Zcr N) nHn Tryz.f74.ntmps Tryz.f74.results.toList (Tryz.f74.body.getD .skip) [.slice (.flt .f64),.int .i64,.int .i64] [.own 3 (.int .i64)] (bed,a,b,()) post=Z5b N bed a b post:=by kernel_rfl
theorem Zcs:∀ N,(Zcq N).holds Tryz.prog RbG 74
 | 0=>fun w ok hok x vs ha hg hp=>absurd hp.2 (Nat.not_lt_zero _)
 | N+1=>Zq (detP (cx:=Zcr N) ⟨Z4 Z7,Z6 ⟨Zvy,Zcs N,trivial⟩⟩ Z8 nHn Zr7 (F:=fun x post=>Z5b N x.1 x.2.1 x.2.2.1 post) (fun x post=>Zr8 N x.1 x.2.1 x.2.2.1 post) fun x h w=>Zvx N _ _ _ h)
theorem Zt9:Ze1.holds Tryz.prog RbG 74:=fun w ok hok x vs ha hg hp=>Zcs ((Int.sub x.2.2.1 x.2.1).toNat+1) w ok hok x vs ha hg ⟨hp,Nat.lt_succ_self _⟩
def Zih:Con:=Con.nam [.slice (.flt .f64)] [.own 3 (.int .i64)] (fun x=>WOrd x.1) (fun x=>Z9b x.1)
def Zii:Cx:=⟨Zf Zi,Zg [(74,Ze1)],RbG⟩
theorem Zr9:CxOk Tryz.prog Zii:=⟨Z4 Z7,Z6 ⟨Zt9,trivial⟩⟩
theorem Zvz:FnAt Tryz.prog 30 Tryz.f30.ntmps Tryz.f30.results.toList (Tryz.f30.body.getD .skip):=⟨Tryz.f30,Tryz.func30,rfl,rfl,by simp,by decide⟩
theorem Zw0 (bed:List Nat) (post:(List Int) × Unit→Prop):Za Zii nHn Tryz.f30.ntmps Tryz.f30.results.toList (Tryz.f30.body.getD .skip) [.slice (.flt .f64)] [.own 3 (.int .i64)] (bed,()) post=Zbf  bed post:=by kernel_rfl
theorem Z10g:Zih.holds Tryz.prog RbG 30 :=
 Zq (detP Zr9 Z8 nHn Zvz (F:=fun x post=>Zbf  x.1 post) (fun x post=>Zw0 x.1 post) fun x h _=>Z13f  x.1 h)
def Z63:Con:=Con.nam [.slice (.flt .f64)] [.own 3 (.int .i64)] (fun x=>WOrd x.1) (fun x=>Z9b x.1)
def Zgk:Hn:={ loops:=Z2b [(3,{ ls:=[(.slot 10,.data (.int .i64))],os:=[(1,3,.int .i64)] })],joins:=fun _=>none,named:=true,inl:=inlL [71] }
abbrev Z10h:Cx:=Z29
theorem Zra:CxOk Tryz.prog Z10h:=Z6o
theorem Zw1:FnAt Tryz.prog 29 Tryz.f29.ntmps Tryz.f29.results.toList (Tryz.f29.body.getD .skip):=⟨Tryz.f29,Tryz.func29,rfl,rfl,by simp,by decide⟩
theorem Zw2 (bed:List Nat) (post:(List Int) × Unit→Prop):Z6u Z29 Zgk (Z1i 71 (Zyb 3 72) Z3j) Tryz.f29.ntmps Tryz.f29.results.toList (Tryz.f29.body.getD .skip) [.slice (.flt .f64)] [.own 3 (.int .i64)] (bed,()) post=Zbg 37 3 bed post:=by kernel_rfl
theorem Za1:Z63.holds Tryz.prog RbG 29 :=
 Zq (Z16n Zra Z8 Zgk Z1jm Zw1 (F:=fun x post=>Zbg 37 3 x.1 post) (fun x post=>Zw2 x.1 post) fun x h _=>Z13g 37 3 x.1 h)
end Go.Lift

namespace Go.Lift
def Zbh:=F18
theorem Z13h (a:Int) (b:Int) (h:WU2 a b):Zbh  a b (fun r=>r=Z1i9 a b):=by
 exact Z1cw h.1.1 h.1.2 h.2.1 h.2.2 rfl
def Zbi:=F19
theorem Z13i (a:Int) (b:Int) (c:Int) (h:WDiv a b c):Zbi  a b c (fun r=>r=Z1ia a b c):=by
 obtain ⟨ha,hb,hc,hac⟩:=h
 have hc0:(0:Int)<c:=Int.lt_of_le_of_lt ha.1 hac
 obtain ⟨s0,s1,s2,s3⟩:=Z1j0 hc0 hc.2
 exact Z1cz (a:=a) (b:=b) (c:=c) rfl hc s0 s1 s2 s3 ha.1 hac hb.1 hb.2 rfl
def Zdl:=F12
theorem Z16e (a:Int) (b:Int) (c:Int) (h:III a b c):Zdl  a b c (fun r=>r=prtR a b c):=by
 exact Z1fl h.1 h.2.1 h.2.2 rfl
end Go.Lift

namespace Go.Lift
open Go.Proofs
def Zij:Con:=.det [.int .u64,.int .u64] [.snap (.int .u64),.snap (.int .u64)] (fun x=>WU2 x.1 x.2.1) (fun x=>Z1i9 x.1 x.2.1)
def Zik:Cx:=⟨Zf Zi,Zg [],RbG⟩
theorem Zrb:CxOk Tryz.prog Zik:=⟨Z4 Z7,fun f c h=>by cases h⟩
theorem Zw3:FnAt Tryz.prog 91 Tryz.f91.ntmps Tryz.f91.results.toList (Tryz.f91.body.getD .skip):=⟨Tryz.f91,Tryz.func91,rfl,rfl,by simp,by decide⟩
theorem Zw4 (a:Int) (b:Int) (post:Int × Int × Unit→Prop):Za Zik nHn Tryz.f91.ntmps Tryz.f91.results.toList (Tryz.f91.body.getD .skip) [.int .u64,.int .u64] [.snap (.int .u64),.snap (.int .u64)] (a,b,()) post=Zbh  a b post:=by kernel_rfl
theorem Z10i:Zij.holds Tryz.prog RbG 91 :=
 detP Zrb Z8 nHn Zw3 (F:=fun x post=>Zbh  x.1 x.2.1 post) (fun x post=>Zw4 x.1 x.2.1 post) fun x h _=>Z13h  x.1 x.2.1 h
def Z6p:Con:=.det [.int .u64] [.snap (.int .i64)] (fun x=>U64 x.1) (fun x=>lzR x.1)
def Z1bt:Cx:=⟨Zf Zi,fun _=>none,RbG⟩
theorem Z1dm:CxOk Tryz.prog Z1bt:=⟨Z4 Z7,fun f c h=>by cases h⟩
def Z14q:Con:=.det [.int .u64] [.snap (.int .i64)] (fun x=>U64 x.1) (fun x=>(Z24 x.1,()))
theorem Z1dn:FnAt Tryz.prog 147 Tryz.f147.ntmps Tryz.f147.results.toList (Tryz.f147.body.getD .skip):=⟨Tryz.f147,Tryz.func147,rfl,rfl,by simp,by decide⟩
theorem Z1do (a:Int) (post:Int × Unit→Prop):Za Z1bt Z16w Tryz.f147.ntmps Tryz.f147.results.toList (Tryz.f147.body.getD .skip) [.int .u64] [.snap (.int .i64)] (a,()) post=F22 a post:=by kernel_rfl
theorem Z1gg:Z14q.holds Tryz.prog RbG 147:=detP Z1dm Z8 Z16w Z1dn (F:=fun x post=>F22 x.1 post) (fun x post=>Z1do x.1 post) fun x h _=>Z1cy h.1 h.2 rfl
def Z6q:Cx:=⟨Zf Zi,Zg [(147,Z14q)],RbG⟩
theorem Zct:CxOk Tryz.prog Z6q:=⟨Z4 Z7,Z6 ⟨Z1gg,trivial⟩⟩
theorem Zem:FnAt Tryz.prog 121 Tryz.f121.ntmps Tryz.f121.results.toList (Tryz.f121.body.getD .skip):=⟨Tryz.f121,Tryz.func121,rfl,rfl,by simp,by decide⟩
theorem Zen (a:Int) (post:Int × Unit→Prop):Za Z6q Z16w Tryz.f121.ntmps Tryz.f121.results.toList (Tryz.f121.body.getD .skip) [.int .u64] [.snap (.int .i64)] (a,()) post=F21 a post:=by kernel_rfl
theorem Zgl:Z6p.holds Tryz.prog RbG 121:=detP Zct Z8 Z16w Zem (F:=fun x post=>F21 x.1 post) (fun x post=>Zen x.1 post) fun x h _=>Z1jf h
def Zil:Con:=.det [.int .u64,.int .u64,.int .u64] [.snap (.int .u64),.snap (.int .u64)] (fun x=>WDiv x.1 x.2.1 x.2.2.1) (fun x=>Z1ia x.1 x.2.1 x.2.2.1)
def Zgm:Hn:=hn19
def Zim:Cx:=⟨Zf Zi,Zg [(121,Z6p)],RbG⟩
theorem Zrc:CxOk Tryz.prog Zim:=⟨Z4 Z7,Z6 ⟨Zgl,trivial⟩⟩
theorem Zw5:FnAt Tryz.prog 92 Tryz.f92.ntmps Tryz.f92.results.toList (Tryz.f92.body.getD .skip):=⟨Tryz.f92,Tryz.func92,rfl,rfl,by simp,by decide⟩
theorem Zw6 (a:Int) (b:Int) (c:Int) (post:Int × Int × Unit→Prop):Za Zim Zgm Tryz.f92.ntmps Tryz.f92.results.toList (Tryz.f92.body.getD .skip) [.int .u64,.int .u64,.int .u64] [.snap (.int .u64),.snap (.int .u64)] (a,b,c,()) post=Zbi  a b c post:=by kernel_rfl
theorem Z10j:Zil.holds Tryz.prog RbG 92 :=
 detP Zrc Z8 Zgm Zw5 (F:=fun x post=>Zbi  x.1 x.2.1 x.2.2.1 post) (fun x post=>Zw6 x.1 x.2.1 x.2.2.1 post) fun x h _=>Z13i  x.1 x.2.1 x.2.2.1 h
def Zlf:Con:=.det [.int .i64,.int .i64,.int .i64] [.snap (.int .i64)] (fun x=>III x.1 x.2.1 x.2.2.1) (fun x=>prtR x.1 x.2.1 x.2.2.1)
def Zin:Hn:={ loops:=fun _=>none,joins:=fun _=>none }
def Zlg:Cx:=⟨Zf Zi,Zg [(91,Zij),(92,Zil)],RbG⟩
theorem Zta:CxOk Tryz.prog Zlg:=⟨Z4 Z7,Z6 ⟨Z10i,Z10j,trivial⟩⟩
theorem Z10k:FnAt Tryz.prog 44 Tryz.f44.ntmps Tryz.f44.results.toList (Tryz.f44.body.getD .skip):=⟨Tryz.f44,Tryz.func44,rfl,rfl,by simp,by decide⟩
theorem Z10l (a:Int) (b:Int) (c:Int) (post:Int × Unit→Prop):Za Zlg Zin Tryz.f44.ntmps Tryz.f44.results.toList (Tryz.f44.body.getD .skip) [.int .i64,.int .i64,.int .i64] [.snap (.int .i64)] (a,b,c,()) post=Zdl  a b c post:=by kernel_rfl
theorem Z13j:Zlf.holds Tryz.prog RbG 44 :=
 detP Zta Z8 Zin Z10k (F:=fun x post=>Zdl  x.1 x.2.1 x.2.2.1 post) (fun x post=>Z10l x.1 x.2.1 x.2.2.1 post) fun x h _=>Z16e  x.1 x.2.1 x.2.2.1 h
end Go.Lift

namespace Go.Lift
open Go.Proofs
def Znw:Con:=Con.nam [.ptr Zx,kSea] [.own 2 (.int .i64),.own 2 (.int .i64),.snap (.int .i64)] (fun x=>WRun x.1 x.2.1) (fun x=>Z7w x.1 x.2.1)
def Zbj:Hn:={ loops:=Z2b [(8,{ ls:=[(.slot 68,.data (.int .i64))],os:=[(1,2,.int .i64),(2,2,.int .i64)] })],joins:=fun _=>none,named:=true }
def Zdm:Cx:=⟨Zf Zi,Zg [(31,Z2v),(55,Z5q),(56,Zlc),(57,Z4p),(29,Z63),(32,Z79),(38,Z6k),(37,Zi1),(44,Zlf)],RbG⟩
theorem Zw7:CxOk Tryz.prog Zdm:=⟨Z4 Z7,Z6 ⟨Z3p,Za6,Z13b,Zbb,Za1,Zbd,Zcl,Zzk,Z13j,trivial⟩⟩
theorem Z13k:FnAt Tryz.prog 23 Tryz.f23.ntmps Tryz.f23.results.toList (Tryz.f23.body.getD .skip):=⟨Tryz.f23,Tryz.func23,rfl,rfl,by simp,by decide⟩
theorem Zw8 (s:(List Nat) × (List Int) × (List Int) × (List Nat) × Int × Int) (post:(List Int) × (List Int) × Int × Unit→Prop):Za Zdm Zbj Tryz.f23.ntmps Tryz.f23.results.toList (Tryz.f23.body.getD .skip) [.ptr Zx,kSea] [.own 2 (.int .i64),.own 2 (.int .i64),.snap (.int .i64)] (none,s,()) post=Zb5  s post:=by kernel_rfl
theorem Zw9 (g:Int × (List (Int × Int × Int × Int)) × (List ((Int × Int) × Int)) × (List (List Int)) × (List Int) × (List Nat) × List Nat) (s:(List Nat) × (List Int) × (List Int) × (List Nat) × Int × Int) (post:(List Int) × (List Int) × Int × Unit→Prop):Za Zdm Zbj Tryz.f23.ntmps Tryz.f23.results.toList (Tryz.f23.body.getD .skip) [.ptr Zx,kSea] [.own 2 (.int .i64),.own 2 (.int .i64),.snap (.int .i64)] ((some g),s,()) post=Zb6 39 2 3 g s post:=by kernel_rfl
def Z16f (x:KS [.ptr Zx,kSea]) (post:RS [.own 2 (.int .i64),.own 2 (.int .i64),.snap (.int .i64)]→Prop):Prop:=match x with
 | (none,y)=>Zb5  y.1 post
 | (some g,y)=>Zb6 39 2 3 g y.1 post
theorem Z16g:Znw.holds Tryz.prog RbG 23 :=
 Zq (detP Zw7 Z8 Zbj Z13k (F:=Z16f) (fun x post=>match x with
  | (none,y)=>Zw8 y.1 post
  | (some g,y)=>Zw9 g y.1 post) fun x h w=>match x,h,w with
  | (none,y),h,w=>Z12z  y.1 h w
  | (some g,y),h,w=>Z130 39 2 3 g y.1 h w)
end Go.Lift

namespace Go.Lift
open Go.Proofs
def Zio:Con:=Con.nam [] [.snap .bool] (fun _=>True) (fun x=>yesR)
def Zgn:Hn:={ loops:=Z2b [(8,{ ls:=[(.slot 4,.data (.int .i64))],os:=[(2,59,.flt .f64),(3,2,.int .i64)] })],joins:=fun _=>none,named:=true,inl:=inlL [54] }
def Za2:Cx:=⟨Zf Zi,Zg [(24,Zgb),(31,Z2v),(55,Z5q),(38,Z6k),(23,Znw),(32,Z79),(29,Z63),(28,Z7h)],RbG⟩
theorem Zcu:CxOk Tryz.prog Za2:=⟨Z4 Z7,Z6 ⟨Zqo,Z3p,Za6,Zcl,Z16g,Zbd,Za1,Zdz,trivial⟩⟩
theorem Zwa:FnAt Tryz.prog 22 Tryz.f22.ntmps Tryz.f22.results.toList (Tryz.f22.body.getD .skip):=⟨Tryz.f22,Tryz.func22,rfl,rfl,by simp,by decide⟩
theorem Zwb  (post:Bool × Unit→Prop):Z6u Za2 Zgn (Zes Za2 Zfk 6) Tryz.f22.ntmps Tryz.f22.results.toList (Tryz.f22.body.getD .skip) [] [.snap .bool] (()) post=Z72 39 59 2  post:=by kernel_rfl
theorem Z10m:Zio.holds Tryz.prog RbG 22 :=
 Zq (Z16n Zcu Z8 Zgn (Zec Zcu Z8 Zyc 6) Zwa (F:=fun x post=>Z72 39 59 2  post) (fun x post=>Zwb  post) fun x _ _=>Z11o 39 59 2 )
end Go.Lift

namespace Go.Lift
open Go.Proofs
def Zmv:Con:=.det [.int .i64,.slice (.flt .f64),.int .i64] [.snap .bool] (fun x=>Z1ic x.1 x.2.1 x.2.2.1) (fun x=>yesD x.1 x.2.1 x.2.2.1)
def Z8r:Hn:={ loops:=Z2b [(10,{ ls:=[(.slot 11,.data (.int .i64))],os:=[] })],joins:=fun _=>none,named:=true }
def Za3:Cx:=⟨Zf Zi,Zg [(22,Zio),(29,Z63),(30,Zih),(28,Z7h),(24,Zgb),(25,Znu),(31,Z2v),(32,Z79),(33,Zle)],RbG⟩
theorem Zgx:CxOk Tryz.prog Za3:=⟨Z4 Z7,Z6 ⟨Z10m,Za1,Z10g,Zdz,Zqo,Z16c,Z3p,Zbd,Z13e,trivial⟩⟩
theorem Zlh:FnAt Tryz.prog 6 Tryz.f6.ntmps Tryz.f6.results.toList (Tryz.f6.body.getD .skip):=⟨Tryz.f6,Tryz.func6,rfl,rfl,by simp,by decide⟩
theorem Zli (n:Int) (bed:List Nat) (c:Int) (post:Bool × Unit→Prop):Za Za3 Z8r Tryz.f6.ntmps Tryz.f6.results.toList (Tryz.f6.body.getD .skip) [.int .i64,.slice (.flt .f64),.int .i64] [.snap .bool] (n,bed,c,()) post=Z5l 3 n bed c post:=by kernel_rfl
theorem Zmw:Zmv.holds Tryz.prog RbG 6 :=
 detP Zgx Z8 Z8r Zlh (F:=fun x post=>Z5l 3 x.1 x.2.1 x.2.2.1 post) (fun x post=>Zli x.1 x.2.1 x.2.2.1 post) fun x h w=>Znx 3 x.1 x.2.1 x.2.2.1 h w
end Go.Lift

namespace Go.Proofs.YtplhligfkbgllaaGreatDoor
open Go.Lift
theorem riverDowns_law:Z1b4 Rows.riverDownsSpec 3:=⟨rfl,fun H ds h=>by
 match ds,h with
 | [d1,d2,d3],_=>rfl⟩
set_option maxRecDepth 100000 in
theorem riverDowns_lifted (os:Os) (started:os.Started) (H:Type) (enc:TypeId × Value→H) :
  ReturnsInHanded {} Tryz.checked os 6 .any (fun w args=>(Rows.riverDownsSpec.pre enc Tryz.prog Tryz.f6 [] false w args∧laidMetH Tryz.prog Zyd w)∧sizedMet enc Tryz.prog Tryz.f6 (OpenSpec.ofChange Rows.riverDownsSpec) false w args) (Rows.riverDownsSpec.post enc Tryz.prog Tryz.f6 false true false false) :=
 Z1ho (C:=Tryz.checked) (X:=fun w _=>laidMetH Tryz.prog Zyd w) (fun _ _ _ hh h=>h.of_heap hh) (fun w _ h=>Z1db w h) own started (by kernel_rfl) Tryz.func6 rfl (by decide)
  (ChangeSpec.witness_shaped (enc:=enc) (C:=Tryz.checked) (os:=os) (X:=fun w _=>laidMetH Tryz.prog Zyd w) false (World.doorLaid Tryz.prog 400 os) #[.int .i64 0,.slice none 0 0,.int .i64 0] 12 rfl (World.shaped_of_RefB (by kernel_rfl) (by kernel_rfl)) (by kernel_rfl) (by kernel_rfl) (by kernel_rfl) (Z1hp os _))
  Z1jg (Zxj _ [.int .i64,.slice (.flt .f64),.int .i64] (by kernel_rfl)) (by decide +kernel) rfl (by kernel_rfl) riverDowns_law Zmw (fun x h w=>⟨rngI h.1,rngL h.2.1,rngI h.2.2.1⟩)
theorem riverDowns_holds:Rows.RiverDownsSaid :=
 OpenClaim.holds_of_wide 6 Tryz.f6 rfl rfl rfl rfl rfl rfl rfl ⟨rfl,rfl,rfl,rfl,rfl⟩ rfl rfl rfl rfl rfl (by kernel_rfl) Tryz.func6 (by kernel_rfl)
  (of_decide_eq_true (by kernel_rfl)) (by unfold Func.isWrapper; first | (rw [if_pos (by decide +kernel)]; kernel_rfl) | (rw [if_neg (by decide +kernel)]; exact ⟨rfl,rfl⟩))
  (fun os started H enc _=>riverDowns_lifted os started H enc)
theorem riverDowns_card:Rows.RiverDownsCardSaid :=
 Claim7.holds_tied_plain_at .later [] [.wider,.data] true (true, "78fee6c63abe0f1848884245aa960bf780b6b198ac179e9f617ebec8ad318169") false
  riverDowns_holds (fun _ h=>by cases h) (by kernel_rfl) (fun _ h=>by cases h) riverDowns_row_tie rfl ⟨rfl,rfl⟩ (by kernel_rfl) rfl
  (fun f fn hf hfn=>by
   obtain rfl:f=6:=Option.some.inj ((show Tryz.prog.funcNamed "tarn/tarnlaw19.RiverDowns" = some 6 by kernel_rfl).symm.trans hf) |>.symm
   obtain rfl:fn=Tryz.f6:=(Option.some.inj (Tryz.func6.symm.trans hfn)).symm
   exact ⟨by kernel_rfl,fun j t ht=>by
    rw [Tryz.params6] at ht
    have hm:t ∈ [3,37,3]:=by simpa using Array.mem_of_getElem? ht
    have hall:([3,37,3].all fun u=>!Tryz.prog.wantsStandIn u)=true:=by kernel_rfl
    exact (show Tryz.prog.wantsStandIn t=false by simpa using List.all_eq_true.1 hall t hm)⟩)
  (by kernel_rfl)
end Go.Proofs.YtplhligfkbgllaaGreatDoor
