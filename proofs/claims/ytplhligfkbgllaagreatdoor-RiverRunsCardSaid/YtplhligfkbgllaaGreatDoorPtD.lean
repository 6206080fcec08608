/- A part of the proof of RiverRunsCard: an own lifter of code into plain terms, and plain laws. -/
import Derived.Laws.Externs
import Derived.Test.YtplhligfkbgllaaGreatDoorProg
import Derived.LaidMore
import Derived.MakeChecks
import Derived.Test.YtplhligfkbgllaaGreatDoorRows
import Derived.ProofKit
import Derived.SevenTiedAt
import Derived.Test.YtplhligfkbgllaaGreatDoorPtC
set_option linter.unusedVariables false
set_option linter.unusedSimpArgs false
set_option linter.unusedSectionVars false
open Go.IntKind (i64 u64 u32 u8)
open Go.FloatKind (f64 f32)
namespace Go.Lift
theorem Zr5 {n p x:Int} (h:x=2*p+1 - n) (h0:0≤p) (h1:p<n):Z3m n x=p:=by
 have e:Int.tdiv (x+n - 1) 2=p:=by rw [show x+n - 1=2*p by omega,Int.mul_tdiv_cancel_left _ (by decide)]
 unfold Z3m imin imax
 rw [e]
 (repeat' split) <;> omega
theorem Z1ia {n x:Int} (h:x=n) (h1:1≤n):Z3m n x=n - 1:=by
 have e:Int.tdiv (x+n - 1) 2=n - 1:=by rw [Int.tdiv_eq_ediv_of_nonneg (by omega)]; omega
 unfold Z3m imin imax
 rw [e]
 (repeat' split) <;> omega
theorem Z1ib {n x:Int} (h:x=-n) (h1:1≤n):Z3m n x=0:=by
 have e:Int.tdiv (x+n - 1) 2=0:=by rw [show x+n - 1=-1 by omega]; rfl
 unfold Z3m imin imax
 rw [e]
 (repeat' split) <;> omega
theorem Z1pu {n f i j o:Int} (hm:Z1d n f i j) (o0:0≤o) (o4:o<4) (hr:rim n i j o) :
  0≤Z36 n (Zm f o).2.2 (Z1m o i j)∧Z36 n (Zm f o).2.2 (Z1m o i j)<n ∧
  dotP (Z1b (midP n f i j) 1 (dirP f o)) (crP (Zm f o).1 (Zm f o).2.1)=n*sg (Zm f o).2.1∧dotP (Z1b (midP n f i j) 1 (dirP f o)) (alP (Zm f o).1 (Zm f o).2.1)=2*Z36 n (Zm f o).2.2 (Z1m o i j)+1 - n:=by
 obtain ⟨n1,n2,f0,f5,i0,i1,j0,j1⟩:=hm
 have hR:=fun v=>Z1lk n f i j o v o0 o4 hr
 obtain ⟨a1,a2,a3,a4,a5,⟨b1,b2,b3⟩,⟨d1,d2,d3⟩,e1,e2,e3⟩:=Zvb f0 f5 o0 o4
 obtain ⟨k0,k1⟩:=Z167 (n:=n) o0 o4 i0 i1 j0 j1
 generalize Zm f o=E at *
 obtain ⟨t,s,fl⟩:=E
 dsimp only at *
 have h2:=lin3 (hR _) d1 d2 d3
 have h3:=lin3 (hR _) e1 e2 e3
 cases fl
 ·have h3:dotP (Z1b (midP n f i j) 1 (dirP f o)) (alP t s)=n*0+n*0+(2*Z1m o i j+1 - n)*1:=h3
  exact ⟨k0,k1,by omega,by show _=2*Z1m o i j+1 - n; omega⟩
 ·have h3:dotP (Z1b (midP n f i j) 1 (dirP f o)) (alP t s)=n*0+n*0+(2*Z1m o i j+1 - n)*-1:=h3
  exact ⟨by show 0≤n - 1 - _; omega,by show n - 1 - _<n; omega,by omega,by show _=2*(n - 1 - Z1m o i j)+1 - n; omega⟩
def toL (p:Pt):List Int:=[p.1,p.2.1,p.2.2]
theorem Z1ll (a b:Pt):dotW (toL a) (toL b)=dotP a b:=rfl
theorem Z1rl (a b:Pt):Zdw (toL a) (toL b)=toL (Z1b a 1 b):=by
 show [a.1+b.1,a.2.1+b.2.1,a.2.2+b.2.2]=[a.1+1*b.1,a.2.1+1*b.2.1,a.2.2+1*b.2.2]
 rw [Int.one_mul,Int.one_mul,Int.one_mul]
theorem Z1lm {f:Int} (f0:0≤f) (f5:f≤5):Z1r (Zz f) 0=toL (Z2 f).1∧Z1r (Zz f) 1=toL (Z2 f).2.1∧Z1r (Zz f) 2=toL (Z2 f).2.2:=by
 rcases Z27 f0 f5 with rfl | rfl | rfl | rfl | rfl | rfl <;> exact ⟨rfl,rfl,rfl⟩
theorem Z1tp {n f i j:Int} (f0:0≤f) (f5:f≤5):Z80 n f i j=toL (midP n f i j):=by
 obtain ⟨a,b,c⟩:=Z1lm f0 f5
 unfold Z80
 rw [a,b,c]
 show [n*(Z2 f).1.1+(2*i+1 - n)*(Z2 f).2.1.1+(2*j+1 - n)*(Z2 f).2.2.1,n*(Z2 f).1.2.1+(2*i+1 - n)*(Z2 f).2.1.2.1+(2*j+1 - n)*(Z2 f).2.2.2.1,n*(Z2 f).1.2.2+(2*i+1 - n)*(Z2 f).2.1.2.2+(2*j+1 - n)*(Z2 f).2.2.2.2] =
  [0+n*(Z2 f).1.1+(2*i+1 - n)*(Z2 f).2.1.1+(2*j+1 - n)*(Z2 f).2.2.1,0+n*(Z2 f).1.2.1+(2*i+1 - n)*(Z2 f).2.1.2.1+(2*j+1 - n)*(Z2 f).2.2.2.1,0+n*(Z2 f).1.2.2+(2*i+1 - n)*(Z2 f).2.1.2.2+(2*j+1 - n)*(Z2 f).2.2.2.2]
 rw [Int.zero_add,Int.zero_add,Int.zero_add]
theorem Z1tq {f o:Int} (f0:0≤f) (f5:f≤5) (o0:0≤o) (o4:o<4):outF (Zz f) o=toL (dirP f o)∧Z3w (toL (dirP f o))=(Zm f o).1∧∀ z,Z1sc (Zz (Zm f o).1) (Z1r (Zz f) 0) z=(z,(Zm f o).2.1):=by
 rcases Z27 f0 f5 with rfl | rfl | rfl | rfl | rfl | rfl <;> rcases Z1a o0 o4 with rfl | rfl | rfl | rfl <;> exact ⟨rfl,rfl,fun z=>rfl⟩
theorem Z1tr {n f i j o:Int} (hm:Z1d n f i j) (o0:0≤o) (o4:o<4) (hr:rim n i j o):Z162 n f i j o=nbC n f i j o:=by
 obtain ⟨k0,k1,hc,ha⟩:=Z1pu hm o0 o4 hr
 obtain ⟨n1,n2,f0,f5,i0,i1,j0,j1⟩:=hm
 obtain ⟨b1,b2,b3⟩:=Z1tq f0 f5 o0 o4
 obtain ⟨a1,a2,a3,a4,a5,_⟩:=Zvb f0 f5 o0 o4
 obtain ⟨_,t2,t3⟩:=Z1lm a1 a2
 have hn:nbC n f i j o=(Zu n (Zm f o).1 (atO n (Zm f o).2.1 (Z36 n (Zm f o).2.2 (Z1m o i j))).1 (atO n (Zm f o).2.1 (Z36 n (Zm f o).2.2 (Z1m o i j))).2,(Zm f o).2.1):=by unfold nbC nb; rw [if_pos hr]; rfl
 rw [hn]
 unfold Z162
 rw [b1,b2,b3,t2,t3,Z1tp f0 f5,Z1rl,Z1ll,Z1ll]
 generalize Zm f o=E at *
 obtain ⟨t,s,fl⟩:=E
 dsimp only at *
 generalize Z36 n fl (Z1m o i j)=k at *
 rcases Z1a a4 a5 with rfl | rfl | rfl | rfl
 ·have hc:dotP (Z1b (midP n f i j) 1 (dirP f o)) (Z2 t).2.1=n*1:=hc
  have ha:dotP (Z1b (midP n f i j) 1 (dirP f o)) (Z2 t).2.2=_:=ha
  rw [Z1ia (by omega) n1,Zr5 ha k0 k1]; rfl
 ·have hc:dotP (Z1b (midP n f i j) 1 (dirP f o)) (Z2 t).2.2=n*1:=hc
  have ha:dotP (Z1b (midP n f i j) 1 (dirP f o)) (Z2 t).2.1=_:=ha
  rw [Zr5 ha k0 k1,Z1ia (by omega) n1]; rfl
 ·have hc:dotP (Z1b (midP n f i j) 1 (dirP f o)) (Z2 t).2.1=n*-1:=hc
  have ha:dotP (Z1b (midP n f i j) 1 (dirP f o)) (Z2 t).2.2=_:=ha
  rw [Z1ib (by omega) n1,Zr5 ha k0 k1]; rfl
 ·have hc:dotP (Z1b (midP n f i j) 1 (dirP f o)) (Z2 t).2.2=n*-1:=hc
  have ha:dotP (Z1b (midP n f i j) 1 (dirP f o)) (Z2 t).2.1=_:=ha
  rw [Zr5 ha k0 k1,Z1ib (by omega) n1]; rfl
theorem Zvc {n c o:Int} (h:Zr n c o=true):Z7 n c o=nbC n (c / (n*n)) (c % n) (c / n % n) o:=by
 have h':=h
 unfold Zr at h'
 simp only [Bool.and_eq_true,decide_eq_true_eq] at h'
 obtain ⟨⟨hp,o0⟩,o4⟩:=h'
 have hm:=Z3u hp
 unfold Z7
 rw [if_pos h]
 generalize c / (n*n)=f at *
 generalize c % n=i at *
 generalize c / n % n=j at *
 by_cases hr:rim n i j o
 ·have bad:¬ Z1d n f (i+dxI o) (j+dyI o):=by
   intro w
   obtain ⟨_,_,_,_,a,b,d,e⟩:=w
   rcases Z1a o0 o4 with rfl | rfl | rfl | rfl
   ·have hr:i=n - 1:=hr
    have b:i+1<n:=b
    omega
   ·have hr:j=n - 1:=hr
    have b:j+1<n:=e
    omega
   ·have hr:i=0:=hr
    have b:0≤i+-1:=a
    omega
   ·have hr:j=0:=hr
    have b:0≤j+-1:=d
    omega
  rw [Z1i8 bad,if_neg (by decide)]
  exact Z1tr hm o0 o4 hr
 ·have good:Z1d n f (i+dxI o) (j+dyI o):=by
   obtain ⟨n1,n2,f0,f5,i0,i1,j0,j1⟩:=hm
   rcases Z1a o0 o4 with rfl | rfl | rfl | rfl
   ·have hr:¬ i=n - 1:=hr
    exact ⟨n1,n2,f0,f5,by show 0≤i+1; omega,by show i+1<n; omega,by show 0≤j+0; omega,by show j+0<n; omega⟩
   ·have hr:¬ j=n - 1:=hr
    exact ⟨n1,n2,f0,f5,by show 0≤i+0; omega,by show i+0<n; omega,by show 0≤j+1; omega,by show j+1<n; omega⟩
   ·have hr:¬ i=0:=hr
    exact ⟨n1,n2,f0,f5,by show 0≤i+-1; omega,by show i+-1<n; omega,by show 0≤j+0; omega,by show j+0<n; omega⟩
   ·have hr:¬ j=0:=hr
    exact ⟨n1,n2,f0,f5,by show 0≤i+0; omega,by show i+0<n; omega,by show 0≤j+-1; omega,by show j+-1<n; omega⟩
  rw [if_pos (Zca (Zhf good)).1]
  unfold nbC nb
  rw [if_neg hr]
  show _=(Zu n f (i+dxI o) (j+dyI o),(o+2) % 4)
  rw [Int.tmod_eq_emod_of_nonneg (by omega)]
theorem Z1ka {n c o:Int}:Zo4 n c o=Z7 n c o:=by
 by_cases h:Zr n c o=true
 ·rw [Z1n8 h,Zvc h]
 ·unfold Zo4 Z7; rw [if_neg h,if_neg h]
theorem Z1pv {f o:Int} (f0:0≤f) (f5:f≤5) (o0:0≤o) (o4:o<4):0≤(Zm f o).1∧(Zm f o).1≤5∧(Zm f o).1≠f∧0≤(Zm f o).2.1∧(Zm f o).2.1<4∧Zm (Zm f o).1 (Zm f o).2.1=(f,o,(Zm f o).2.2):=by
 rcases Z27 f0 f5 with rfl | rfl | rfl | rfl | rfl | rfl <;> rcases Z1a o0 o4 with rfl | rfl | rfl | rfl <;> decide
theorem Z1rm {n s k:Int} (s0:0≤s) (s4:s<4) (k0:0≤k) (k1:k<n):0≤(atO n s k).1∧(atO n s k).1<n∧0≤(atO n s k).2∧(atO n s k).2<n∧rim n (atO n s k).1 (atO n s k).2 s∧Z1m s (atO n s k).1 (atO n s k).2=k:=by
 rcases Z1a s0 s4 with rfl | rfl | rfl | rfl
 ·exact ⟨by show 0≤n - 1; omega,by show n - 1<n; omega,k0,k1,show n - 1=n - 1 from rfl,rfl⟩
 ·exact ⟨k0,k1,by show 0≤n - 1; omega,by show n - 1<n; omega,show n - 1=n - 1 from rfl,rfl⟩
 ·exact ⟨Int.le_refl 0,by show 0<n; omega,k0,k1,show (0:Int)=0 from rfl,rfl⟩
 ·exact ⟨k0,k1,Int.le_refl 0,by show 0<n; omega,show (0:Int)=0 from rfl,rfl⟩
theorem Z1rn {n s i j:Int} (s0:0≤s) (s4:s<4) (h:rim n i j s):atO n s (Z1m s i j)=(i,j):=by
 rcases Z1a s0 s4 with rfl | rfl | rfl | rfl
 ·have h:i=n - 1:=h
  rw [h]; rfl
 ·have h:j=n - 1:=h
  rw [h]; rfl
 ·have h:i=0:=h
  rw [h]; rfl
 ·have h:j=0:=h
  rw [h]; rfl
theorem Z1pw {n s i j:Int} (s0:0≤s) (s4:s<4) (i0:0≤i) (i1:i<n) (j0:0≤j) (j1:j<n):0≤Z1m s i j∧Z1m s i j<n:=by
 rcases Z1a s0 s4 with rfl | rfl | rfl | rfl
 ·exact ⟨j0,j1⟩
 ·exact ⟨i0,i1⟩
 ·exact ⟨j0,j1⟩
 ·exact ⟨i0,i1⟩
theorem Z1ro {n k:Int} {b:Bool} (k0:0≤k) (k1:k<n):0≤Z36 n b k∧Z36 n b k<n∧Z36 n b (Z36 n b k)=k:=by
 cases b
 ·exact ⟨k0,k1,rfl⟩
 ·exact ⟨by show 0≤n - 1 - k; omega,by show n - 1 - k<n; omega,by show n - 1 - (n - 1 - k)=k; omega⟩
theorem Z1rp {n f i j o:Int} (hm:Z1d n f i j) (o0:0≤o) (o4:o<4):Z1d n (nb n f i j o).1.1 (nb n f i j o).1.2.1 (nb n f i j o).1.2.2∧(nb n f i j o).1≠(f,i,j)∧0≤(nb n f i j o).2∧(nb n f i j o).2<4 ∧
  nb n (nb n f i j o).1.1 (nb n f i j o).1.2.1 (nb n f i j o).1.2.2 (nb n f i j o).2=((f,i,j),o):=by
 obtain ⟨n1,n2,f0,f5,i0,i1,j0,j1⟩:=hm
 by_cases hr:rim n i j o
 ·obtain ⟨a1,a2,a3,a4,a5,a6⟩:=Z1pv f0 f5 o0 o4
  obtain ⟨k0,k1⟩:=Z1pw (n:=n) o0 o4 i0 i1 j0 j1
  obtain ⟨g0,g1,g2⟩:=Z1ro (b:=(Zm f o).2.2) k0 k1
  obtain ⟨b1,b2,b3,b4,b5,b6⟩:=Z1rm a4 a5 g0 g1
  have hn:nb n f i j o=(((Zm f o).1,atO n (Zm f o).2.1 (Z36 n (Zm f o).2.2 (Z1m o i j))),(Zm f o).2.1):=by unfold nb; rw [if_pos hr]
  rw [hn]
  refine ⟨⟨n1,n2,a1,a2,b1,b2,b3,b4⟩,fun q=>a3 (congrArg Prod.fst q),a4,a5,?_⟩
  show nb n (Zm f o).1 (atO n (Zm f o).2.1 (Z36 n (Zm f o).2.2 (Z1m o i j))).1 (atO n (Zm f o).2.1 (Z36 n (Zm f o).2.2 (Z1m o i j))).2 (Zm f o).2.1=_
  unfold nb
  rw [if_pos b5,a6,b6]
  show ((f,atO n o (Z36 n (Zm f o).2.2 (Z36 n (Zm f o).2.2 (Z1m o i j)))),o)=_
  rw [g2,Z1rn o0 o4 hr]
 ·have hn:nb n f i j o=((f,i+dxI o,j+dyI o),(o+2) % 4):=by unfold nb; rw [if_neg hr]
  rw [hn]
  rcases Z1a o0 o4 with rfl | rfl | rfl | rfl
  ·have hr:¬ i=n - 1:=hr
   refine ⟨⟨n1,n2,f0,f5,by show 0≤i+1; omega,by show i+1<n; omega,by show 0≤j+0; omega,by show j+0<n; omega⟩,fun q=>?_,by show (0:Int)≤_ % 4; omega,by show _ % 4<(4:Int); omega,?_⟩
   ·have:i+1=i:=congrArg (fun z=>z.2.1) q
    omega
   ·show nb n f (i+1) (j+0) 2=_
    unfold nb; rw [if_neg (show ¬ rim n (i+1) (j+0) 2 from fun q=>by have q:i+1=0:=q; omega)]
    show ((f,i+1+-1,j+0+0),(0:Int))=_
    rw [show i+1+-1=i by omega,show j+0+0=j by omega]
  ·have hr:¬ j=n - 1:=hr
   refine ⟨⟨n1,n2,f0,f5,by show 0≤i+0; omega,by show i+0<n; omega,by show 0≤j+1; omega,by show j+1<n; omega⟩,fun q=>?_,by show (0:Int)≤_ % 4; omega,by show _ % 4<(4:Int); omega,?_⟩
   ·have:j+1=j:=congrArg (fun z=>z.2.2) q
    omega
   ·show nb n f (i+0) (j+1) 3=_
    unfold nb; rw [if_neg (show ¬ rim n (i+0) (j+1) 3 from fun q=>by have q:j+1=0:=q; omega)]
    show ((f,i+0+0,j+1+-1),(1:Int))=_
    rw [show i+0+0=i by omega,show j+1+-1=j by omega]
  ·have hr:¬ i=0:=hr
   refine ⟨⟨n1,n2,f0,f5,by show 0≤i+-1; omega,by show i+-1<n; omega,by show 0≤j+0; omega,by show j+0<n; omega⟩,fun q=>?_,by show (0:Int)≤_ % 4; omega,by show _ % 4<(4:Int); omega,?_⟩
   ·have:i+-1=i:=congrArg (fun z=>z.2.1) q
    omega
   ·show nb n f (i+-1) (j+0) 0=_
    unfold nb; rw [if_neg (show ¬ rim n (i+-1) (j+0) 0 from fun q=>by have q:i+-1=n - 1:=q; omega)]
    show ((f,i+-1+1,j+0+0),(2:Int))=_
    rw [show i+-1+1=i by omega,show j+0+0=j by omega]
  ·have hr:¬ j=0:=hr
   refine ⟨⟨n1,n2,f0,f5,by show 0≤i+0; omega,by show i+0<n; omega,by show 0≤j+-1; omega,by show j+-1<n; omega⟩,fun q=>?_,by show (0:Int)≤_ % 4; omega,by show _ % 4<(4:Int); omega,?_⟩
   ·have:j+-1=j:=congrArg (fun z=>z.2.2) q
    omega
   ·show nb n f (i+0) (j+-1) 1=_
    unfold nb; rw [if_neg (show ¬ rim n (i+0) (j+-1) 1 from fun q=>by have q:j+-1=n - 1:=q; omega)]
    show ((f,i+0+0,j+-1+1),(3:Int))=_
    rw [show i+0+0=i by omega,show j+-1+1=j by omega]
theorem Z15 {n c o:Int}:Zr n c o=true↔Zl n c=true∧0≤o∧o<4:=by
 unfold Zr; simp [Bool.and_eq_true,and_assoc]
theorem Z4m {n c o:Int} (h:Zr n c o=true):Zl n (Z7 n c o).1=true∧(Z7 n c o).1≠c∧0≤(Z7 n c o).2∧(Z7 n c o).2<4∧Z7 n (Z7 n c o).1 (Z7 n c o).2=(c,o):=by
 obtain ⟨hp,o0,o4⟩:=Z15.1 h
 have hm:=Z3u hp
 obtain ⟨a,b,d,e,g⟩:=Z1rp hm o0 o4
 have hc:=Z165 hp
 rw [Zvc h]
 generalize c / (n*n)=f at *
 generalize c % n=i at *
 generalize c / n % n=j at *
 unfold nbC
 obtain ⟨x,hx⟩:∃ x,nb n f i j o=x:=⟨_,rfl⟩
 rw [hx] at a b d e g ⊢
 obtain ⟨⟨t,p,q⟩,s⟩:=x
 dsimp only at *
 show Zl n (Zu n t p q)=true∧Zu n t p q≠c∧0≤s∧s<4∧Z7 n (Zu n t p q) s=(c,o)
 have p1:Zl n (Zu n t p q)=true:=Z1n5 a
 refine ⟨p1,fun w=>?_,d,e,?_⟩
 ·obtain ⟨u,v,z⟩:=Z11f a hm (w.trans hc.symm)
  exact b (Prod.ext u (Prod.ext v z))
 ·rw [Zvc (Z15.2 ⟨p1,d,e⟩)]
  obtain ⟨u,v,z⟩:=Zr4 a
  rw [u,v,z]
  unfold nbC
  rw [g]
  show (Zu n f i j,o)=_
  rw [hc]
end Go.Lift

namespace Go.Lift
theorem Z2b (y z:Int × Int) (v:Int):∀ m:Nm,mget z (mput y v m)=if y=z then some v else mget z m
 | []=>rfl
 | p :: l=>by
  show mget z (if p.1=y then (y,v) :: l else p :: mput y v l)=_
  by_cases h:p.1=y
  ·rw [if_pos h]
   show (if y=z then some v else mget z l)=if y=z then some v else (if p.1=z then some p.2 else mget z l)
   by_cases g:y=z
   ·rw [if_pos g,if_pos g]
   ·rw [if_neg g,if_neg g,if_neg (by rw [h]; exact g)]
  ·rw [if_neg h]
   show (if p.1=z then some p.2 else mget z (mput y v l))=if y=z then some v else (if p.1=z then some p.2 else mget z l)
   rw [Z2b y z v l]
   by_cases g:p.1=z
   ·rw [if_pos g,if_pos g,if_neg (by rintro rfl; exact h g)]
   ·rw [if_neg g,if_neg g]
abbrev Rg:=Int × List Ed × List Int
def Z1g:K:=.pair (.int .i64) (.pair (.slice Z28) (.slice (.int .i64)))
def Zai (n c o:Int) (s:List Ed × List Int):List Ed × List Int :=
 if c<(Z7 n c o).1 then (s.1++[(c,o,(Z7 n c o).1,(Z7 n c o).2)],(s.2.set (4*c+o).toNat s.1.length).set (4*(Z7 n c o).1+(Z7 n c o).2).toNat s.1.length) else s
def Z3f (n c:Int) (s:List Ed × List Int):Nat→List Ed × List Int
 | 0=>s
 | k+1=>Zai n c k (Z3f n c s k)
def Z37 (n:Int):Nat→List Ed × List Int
 | 0=>([],List.replicate (4*Zb n).toNat 0)
 | k+1=>Z3f n k (Z37 n k) 4
def Z8x (n:Int):List Ed × List Int:=Z37 n (Zb n).toNat
def Z2n (n:Int):Rg:=(n,(Z8x n).1,(Z8x n).2)
def Zaj (n:Int):Option Rg × Int × Unit:=if Zb n=0 then (none,10,()) else (some (Z2n n),0,())
structure NInv (n T:Int) (E:List Ed) (m:Nm) (a:List Int):Prop where
 there:∀ c o,Zr n c o=true→c<(Z7 n c o).1→4*c+o<T→∃ k:Nat,mget (c,o) m=some (k:Int)∧mget (Z7 n c o) m=some (k:Int)∧a[(4*c+o).toNat]?=some (k:Int) ∧
  a[(4*(Z7 n c o).1+(Z7 n c o).2).toNat]?=some (k:Int)∧E[k]?=some (c,o,Z7 n c o)
 keys:∀ c o v,mget (c,o) m=some v→Zr n c o=true
 edges:∀ e ∈ E,Zr n e.1 e.2.1=true∧Z7 n e.1 e.2.1=e.2.2∧e.1<e.2.2.1∧4*e.1+e.2.1<T
 len:a.length=(4*Zb n).toNat
 back:∀ (k:Nat) (e:Ed),E[k]?=some e→mget (e.1,e.2.1) m=some (k:Int)∧mget e.2.2 m=some (k:Int)
theorem Z2d {n c:Int} (h:Zl n c=true):0≤c∧c<Zb n:=by
 unfold Zl at h
 simp only [Bool.and_eq_true,decide_eq_true_eq] at h
 exact h
theorem NInv.skip {n c o:Int} {E:List Ed} {m:Nm} {a:List Int} (h:NInv n (4*c+o) E m a) (ok:Zr n c o=true) (hd:¬ c<(Z7 n c o).1):NInv n (4*c+o+1) E m a:=by
 obtain ⟨hp,o0,o4⟩:=Z15.1 ok
 refine ⟨fun c' o' ok' hl ht=>h.there c' o' ok' hl ?_,h.keys,fun e he=>?_,h.len,h.back⟩
 ·obtain ⟨hp',o0',o4'⟩:=Z15.1 ok'
  rcases Int.lt_or_eq_of_le (show 4*c'+o'≤4*c+o by omega) with q | q
  ·exact q
  ·have:c'=c∧o'=o:=by omega
   obtain ⟨rfl,rfl⟩:=this
   exact absurd hl hd
 ·obtain ⟨a1,a2,a3,a4⟩:=h.edges e he
  exact ⟨a1,a2,a3,by omega⟩
theorem NInv.add {n c o:Int} {E:List Ed} {m:Nm} {a:List Int} (h:NInv n (4*c+o) E m a) (ok:Zr n c o=true) (hd:c<(Z7 n c o).1) :
  NInv n (4*c+o+1) (E++[(c,o,Z7 n c o)]) (mput (Z7 n c o) E.length (mput (c,o) E.length m)) ((a.set (4*c+o).toNat E.length).set (4*(Z7 n c o).1+(Z7 n c o).2).toNat E.length):=by
 obtain ⟨hp,o0,o4⟩:=Z15.1 ok
 obtain ⟨b1,b2,b3,b4,b5⟩:=Z4m ok
 have okb:Zr n (Z7 n c o).1 (Z7 n c o).2=true:=Z15.2 ⟨b1,b3,b4⟩
 obtain ⟨c0,c1⟩:=Z2d hp
 obtain ⟨d0,d1⟩:=Z2d b1
 obtain ⟨p,hP⟩:∃ p,Z7 n c o=p:=⟨_,rfl⟩
 rw [hP] at hd b1 b2 b3 b4 b5 okb d0 d1 ⊢
 have la:∀ i:Nat,i<a.length→((a.set (4*c+o).toNat (E.length:Int)).set (4*p.1+p.2).toNat (E.length:Int))[i]?=if i=(4*p.1+p.2).toNat then some (E.length:Int) else if i=(4*c+o).toNat then some (E.length:Int) else a[i]?:=by
  intro i hi
  rw [List.getElem?_set,List.getElem?_set]
  by_cases q1:(4*p.1+p.2).toNat=i
  ·rw [if_pos q1,if_pos q1.symm,if_pos (by rw [List.length_set]; omega)]
  ·rw [if_neg q1,if_neg (show ¬ i=(4*p.1+p.2).toNat from fun e=>q1 e.symm)]
   by_cases q2:(4*c+o).toNat=i
   ·rw [if_pos q2,if_pos q2.symm,if_pos (by omega)]
   ·rw [if_neg q2,if_neg (show ¬ i=(4*c+o).toNat from fun e=>q2 e.symm)]
 have other:∀ c' o':Int,Zr n c' o'=true→c'<(Z7 n c' o').1→4*c'+o'<4*c+o→¬ (c,o)=(c',o')∧¬ p=(c',o')∧¬ (c,o)=Z7 n c' o'∧¬ p=Z7 n c' o':=by
  intro c' o' ok' hl lt
  obtain ⟨hp',o0',o4'⟩:=Z15.1 ok'
  obtain ⟨b1',b2',b3',b4',b5'⟩:=Z4m ok'
  have n1:¬ (c,o)=(c',o'):=fun e=>by
   have e1:c=c':=congrArg Prod.fst e
   have e2:o=o':=congrArg Prod.snd e
   omega
  have n2:¬ p=(c',o'):=by
   intro e
   have e1:p.1=c':=congrArg Prod.fst e
   omega
  refine ⟨n1,n2,fun e=>?_,fun e=>?_⟩
  ·rw [← e] at b5'
   have e1:Z7 n c o=(c',o'):=b5'
   rw [hP] at e1
   exact n2 e1
  ·rw [← e,b5] at b5'
   exact n1 b5'
 refine ⟨fun c' o' ok' hl ht=>?_,fun c' o' v hv=>?_,fun e he=>?_,by rw [List.length_set,List.length_set]; exact h.len,fun k e hk=>?_⟩
 ·obtain ⟨hp',o0',o4'⟩:=Z15.1 ok'
  obtain ⟨b1',b2',b3',b4',b5'⟩:=Z4m ok'
  obtain ⟨c0',c1'⟩:=Z2d hp'
  obtain ⟨d0',d1'⟩:=Z2d b1'
  by_cases q:c'=c∧o'=o
  ·obtain ⟨rfl,rfl⟩:=q
   rw [hP]
   have hl2:=h.len
   refine ⟨E.length,?_,?_,?_,?_,by rw [List.getElem?_append_right (Nat.le_refl _),Nat.sub_self]; rfl⟩
   ·rw [Z2b]
    split
    ·rfl
    ·rw [Z2b,if_pos rfl]
   ·rw [Z2b,if_pos rfl]
   ·rw [la _ (by omega)]
    split
    ·rfl
    ·rw [if_pos rfl]
   ·rw [la _ (by omega),if_pos rfl]
  ·have lt:4*c'+o'<4*c+o:=by
    rcases Int.lt_or_eq_of_le (show 4*c'+o'≤4*c+o by omega) with q' | q'
    ·exact q'
    ·exact absurd (show c'=c∧o'=o by omega) q
   obtain ⟨k,k1,k2,k3,k4,k5⟩:=h.there c' o' ok' hl lt
   obtain ⟨n1,n2,n3,n4⟩:=other c' o' ok' hl lt
   have hl2:=h.len
   have i1:(4*c'+o').toNat≠(4*c+o).toNat:=by omega
   have i2:(4*c'+o').toNat≠(4*p.1+p.2).toNat:=by
    intro e
    exact n2 (Prod.ext (by show p.1=c'; omega) (by show p.2=o'; omega))
   obtain ⟨w,hW⟩:∃ w,Z7 n c' o'=w:=⟨_,rfl⟩
   rw [hW] at hl b5' k2 k4 k5 n3 n4 d0' d1' b3' b4' ⊢
   have i3:(4*w.1+w.2).toNat≠(4*c+o).toNat:=by
    intro e
    exact n3 (Prod.ext (by show c=w.1; omega) (by show o=w.2; omega))
   have i4:(4*w.1+w.2).toNat≠(4*p.1+p.2).toNat:=by
    intro e
    exact n4 (Prod.ext (by omega) (by omega))
   refine ⟨k,?_,?_,?_,?_,?_⟩
   ·rw [Z2b,if_neg n2,Z2b,if_neg n1,k1]
   ·rw [Z2b,if_neg n4,Z2b,if_neg n3,k2]
   ·rw [la _ (by omega),if_neg i2,if_neg i1,k3]
   ·rw [la _ (by omega),if_neg i4,if_neg i3,k4]
   ·rw [List.getElem?_append_left (List.getElem?_eq_some_iff.1 k5).1,k5]
 ·rw [Z2b] at hv
  split at hv
  ·rename_i e
   rw [e] at okb; exact okb
  ·rw [Z2b] at hv
   split at hv
   ·rename_i e
    cases e; exact ok
   ·exact h.keys c' o' v hv
 ·rcases List.mem_append.1 he with he | he
  ·obtain ⟨a1,a2,a3,a4⟩:=h.edges e he
   exact ⟨a1,a2,a3,by omega⟩
  ·obtain rfl:=List.mem_singleton.1 he
   exact ⟨ok,hP,hd,by show 4*c+o<_; omega⟩
 ·rcases Nat.lt_or_ge k E.length with hk' | hk'
  ·rw [List.getElem?_append_left hk'] at hk
   obtain ⟨m1,m2⟩:=h.back k e hk
   obtain ⟨a1,a2,a3,a4⟩:=h.edges e (List.mem_of_getElem? hk)
   obtain ⟨n1,n2,n3,n4⟩:=other e.1 e.2.1 a1 (by rw [a2]; exact a3) a4
   rw [a2] at n3 n4
   exact ⟨by rw [Z2b,if_neg n2,Z2b,if_neg n1,m1],by rw [Z2b,if_neg n4,Z2b,if_neg n3,m2]⟩
  ·rw [List.getElem?_append_right hk'] at hk
   have hk0:k=E.length:=by
    have:=(List.getElem?_eq_some_iff.1 hk).1
    simp at this; omega
   subst hk0
   rw [Nat.sub_self] at hk
   obtain rfl:(c,o,p)=e:=Option.some.inj hk
   refine ⟨?_,by rw [Z2b,if_pos rfl]⟩
   rw [Z2b]
   split
   ·rfl
   ·rw [Z2b,if_pos rfl]
theorem Z1px {n c o:Int} {s:List Ed × Nm} {r:List Ed × List Int} (he:s.1=r.1) (h:NInv n (4*c+o) s.1 s.2 r.2) (ok:Zr n c o=true) :
  (addE n c o s).1=(Zai n c o r).1∧NInv n (4*c+o+1) (addE n c o s).1 (addE n c o s).2 (Zai n c o r).2:=by
 obtain ⟨b1,b2,b3,b4,b5⟩:=Z4m ok
 unfold addE Zai
 by_cases hd:c<(Z7 n c o).1
 ·rw [if_neg (by omega),if_pos hd]
  refine ⟨by show s.1++_=r.1++_; rw [he],?_⟩
  have:=h.add ok hd
  rw [← he]
  exact this
 ·rw [if_pos (by omega),if_neg hd]
  exact ⟨he,h.skip ok hd⟩
theorem Z1e2 {n c:Int} {s:List Ed × Nm} {r:List Ed × List Int} (hp:Zl n c=true) (he:s.1=r.1) (h:NInv n (4*c) s.1 s.2 r.2):∀ k:Nat,k≤4 →
  (addN n c s k).1=(Z3f n c r k).1∧NInv n (4*c+k) (addN n c s k).1 (addN n c s k).2 (Z3f n c r k).2
 | 0,_=>⟨he,by show NInv n (4*c+0) s.1 s.2 r.2; rw [Int.add_zero]; exact h⟩
 | k+1,hk=>by
  obtain ⟨a,b⟩:=Z1e2 hp he h k (by omega)
  have:=Z1px (c:=c) (o:=k) a b (Z15.2 ⟨hp,by omega,by omega⟩)
  rw [show (4*c+((k+1:Nat):Int))=4*c+k+1 by omega]
  exact this
theorem Z1ic (n:Int):∀ k:Nat,(k:Int)≤Zb n→(netN n k).1=(Z37 n k).1∧NInv n (4*k) (netN n k).1 (netN n k).2 (Z37 n k).2
 | 0,_=>⟨rfl,⟨fun c o ok hl ht=>by
   obtain ⟨hp,o0,o4⟩:=Z15.1 ok
   have:=Z2d hp
   have ht:4*c+o<4*0:=ht
   omega,fun c o v hv=>(by cases hv),fun e he=>(by cases he),List.length_replicate,fun k e hk=>(by cases hk)⟩⟩
 | k+1,hk=>by
  obtain ⟨a,b⟩:=Z1ic n k (by omega)
  have hp:Zl n (k:Int)=true:=by
   unfold Zl
   simp only [Bool.and_eq_true,decide_eq_true_eq]
   omega
  have:=Z1e2 hp a b 4 (Nat.le_refl _)
  rw [show (4*((k+1:Nat):Int))=4*(k:Int)+(4:Nat) by omega]
  exact this
theorem Zkr (n:Int):(netE n).1=(Z8x n).1∧NInv n (4*Zb n) (netE n).1 (netE n).2 (Z8x n).2:=by
 have cr:=Z4f n
 have:=Z1ic n (Zb n).toNat (by omega)
 rw [show (((Zb n).toNat:Nat):Int)=Zb n by omega] at this
 exact this
theorem Z1id {n c o:Int} (ok:Zr n c o=true):∃ k:Nat,k<(netE n).1.length∧mget (c,o) (netE n).2=some (k:Int)∧(Z8x n).2[(4*c+o).toNat]?=some (k:Int) ∧
  ((c<(Z7 n c o).1∧(netE n).1[k]?=some (c,o,Z7 n c o))∨((Z7 n c o).1<c∧(netE n).1[k]?=some ((Z7 n c o).1,(Z7 n c o).2,c,o))):=by
 obtain ⟨_,I⟩:=Zkr n
 obtain ⟨hp,o0,o4⟩:=Z15.1 ok
 obtain ⟨b1,b2,b3,b4,b5⟩:=Z4m ok
 obtain ⟨c0,c1⟩:=Z2d hp
 obtain ⟨d0,d1⟩:=Z2d b1
 by_cases hd:c<(Z7 n c o).1
 ·obtain ⟨k,k1,k2,k3,k4,k5⟩:=I.there c o ok hd (by omega)
  exact ⟨k,(List.getElem?_eq_some_iff.1 k5).1,k1,k3,.inl ⟨hd,k5⟩⟩
 ·obtain ⟨k,k1,k2,k3,k4,k5⟩:=I.there (Z7 n c o).1 (Z7 n c o).2 (Z15.2 ⟨b1,b3,b4⟩) (by rw [b5]; show (Z7 n c o).1<c; omega) (by omega)
  rw [b5] at k2 k4 k5
  exact ⟨k,(List.getElem?_eq_some_iff.1 k5).1,k2,k4,.inr ⟨by omega,k5⟩⟩
theorem Z1rq {n c o:Int} (h:¬ Zr n c o=true):mget (c,o) (netE n).2=none:=by
 cases hm:mget (c,o) (netE n).2 with
 | none=>rfl
 | some v=>exact absurd ((Zkr n).2.keys c o v hm) h
def dEd:Ed:=(0,0,0,0)
def nIs (g:Option Gr) (e:Int):Bool:=match g with
 | none=>false
 | some g=>decide (0≤e)&&decide (e<(g.2.1.length:Nat))
def nIsR (g:Option Gr) (e:Int):Bool × Unit:=r1 (nIs g e)
def Z8y (g:Option Gr) (e:Int):Ed:=match g with
 | none=>dEd
 | some g=>if 0≤e∧e<(g.2.1.length:Nat) then g.2.1.getD e.toNat dEd else dEd
def Z20 (g:Option Gr) (e:Int):Ed × Bool × Unit:=(Z8y g e,nIs g e,())
def Zcb (g:Option Gr) (c o:Int):Int × Int:=match g with
 | none=>(0,0)
 | some g=>match mget (c,o) g.2.2.1 with
  | none=>(0,0)
  | some e=>if (g.2.1.getD e.toNat dEd).1=c then (e,1) else (e,-1)
def Z93 (g:Option Gr) (c o:Int):Int × Int × Unit:=((Zcb g c o).1,(Zcb g c o).2,())
def NetP (g:Option Gr):Prop:=g=none∨∃ n,Z1i n=true∧g=some (netG n)
def Z8z (g:Option Rg):Int:=match g with
 | none=>0
 | some g=>g.1
def Z66 (g:Option Rg):Int × Unit:=r1 (Z8z g)
def Z34 (g:Option Rg):Int × Unit:=r1 (Zb (Z8z g))
def Zvd (g:Option Rg):Int:=match g with
 | none=>0
 | some g=>(g.2.1.length:Nat)
def Zhr (g:Option Rg):Int × Unit:=r1 (Zvd g)
def Z1ts (g:Option Rg) (c o:Int):Int × Int:=match g with
 | none=>(0,0)
 | some g=>if Zr g.1 c o then (if (g.2.1.getD (g.2.2.getD (4*c+o).toNat 0).toNat dEd).1=c then (g.2.2.getD (4*c+o).toNat 0,1) else (g.2.2.getD (4*c+o).toNat 0,-1)) else (0,0)
def Zak (g:Option Rg):Prop:=g=none∨∃ n,Z1i n=true∧g=some (Z2n n)
def Z1sk (g:Option Gr) (r:Option Rg):Prop:=(g=none∧r=none)∨∃ n,Z1i n=true∧g=some (netG n)∧r=some (Z2n n)
def sgnE (n c o:Int):Int:=if c<(Z7 n c o).1 then 1 else -1
theorem Z1n9 {n c o:Int} (ok:Zr n c o=true):∃ k:Nat,k<(netE n).1.length∧Zcb (some (netG n)) c o=((k:Int),sgnE n c o)∧Z1ts (some (Z2n n)) c o=((k:Int),sgnE n c o) ∧
  ((c<(Z7 n c o).1∧(netE n).1[k]?=some (c,o,Z7 n c o))∨((Z7 n c o).1<c∧(netE n).1[k]?=some ((Z7 n c o).1,(Z7 n c o).2,c,o))):=by
 obtain ⟨k,hk,k1,k2,k3⟩:=Z1id ok
 have he:=(Zkr n).1
 have g1:(Z8x n).2.getD (4*c+o).toNat 0=(k:Int):=by rw [List.getD_eq_getElem?_getD,k2]; rfl
 refine ⟨k,hk,?_,?_,k3⟩
 ·show (match mget (c,o) (netE n).2 with | none=>((0:Int),(0:Int)) | some e=>if ((netE n).1.getD e.toNat dEd).1=c then (e,1) else (e,-1))=_
  rw [k1]
  dsimp only
  rw [Int.toNat_natCast,List.getD_eq_getElem?_getD]
  rcases k3 with ⟨h1,h2⟩ | ⟨h1,h2⟩
  ·rw [h2]; unfold sgnE; rw [if_pos h1]; exact if_pos rfl
  ·rw [h2]; unfold sgnE; rw [if_neg (show ¬ c<(Z7 n c o).1 by omega)]; exact if_neg (show ¬ (Z7 n c o).1=c by omega)
 ·show (if Zr n c o then (if ((Z8x n).1.getD ((Z8x n).2.getD (4*c+o).toNat 0).toNat dEd).1=c then ((Z8x n).2.getD (4*c+o).toNat 0,(1:Int)) else ((Z8x n).2.getD (4*c+o).toNat 0,-1)) else (0,0))=_
  rw [if_pos ok,g1,← he,Int.toNat_natCast,List.getD_eq_getElem?_getD]
  rcases k3 with ⟨h1,h2⟩ | ⟨h1,h2⟩
  ·rw [h2]; unfold sgnE; rw [if_pos h1]; exact if_pos rfl
  ·rw [h2]; unfold sgnE; rw [if_neg (show ¬ c<(Z7 n c o).1 by omega)]; exact if_neg (show ¬ (Z7 n c o).1=c by omega)
theorem Z1na {g:Option Gr} {r:Option Rg} (h:Z1sk g r):Zo3 g=Zvd r:=by
 rcases h with ⟨rfl,rfl⟩ | ⟨n,hn,rfl,rfl⟩
 ·rfl
 ·show (((netE n).1.length:Nat):Int)=(((Z8x n).1.length:Nat):Int)
  rw [(Zkr n).1]
theorem Z5n (n:Int):Z65 (some (netG n))=Zb n:=by
 have cr:=Z4f n
 show (((Zaf n).length:Nat):Int)=_
 unfold Zaf
 rw [List.length_map,List.length_range]; omega
end Go.Lift

namespace Go.Lift
def Bp (m:Int) (a:Pt):Prop:=(-m≤a.1∧a.1≤m)∧(-m≤a.2.1∧a.2.1≤m)∧(-m≤a.2.2∧a.2.2≤m)
def Z2s (a:Pt) (k:Int) (b:Pt):Prop:=Bp 65536 a∧-65536≤k∧k≤65536∧Bp 65536 b
def Z168 (a b:Pt):Prop:=Bp 65536 a∧Bp 65536 b
def Z31 (a:Pt) (k:Int) (b:Pt):Pt × Unit:=r1 (Z1b a k b)
def Zr6 (a b:Pt):Int × Unit:=r1 (dotP a b)
def Z4z (f:Int):Pt × Pt × Pt × Unit:=((Z2 f).1,(Z2 f).2.1,(Z2 f).2.2,())
def Z1gk (n c:Int):Pt × Unit:=r1 (midP n (c / (n*n)) (c % n) (c / n % n))
def Z1gl (n c o:Int):Pt × Unit:=r1 (dirP (c / (n*n)) o)
def Z1ie (n c:Int):Prop:=Zl n c=true
def Z1ab (n c _o:Int):Prop:=Zl n c=true
def WNet (g:Option Gr) (c o:Int):Prop:=NetP g∧I64 c∧I64 o
def Zhg (g:Option Gr) (e:Int):Prop:=NetP g∧I64 e
theorem Bp.mono {m m':Int} {a:Pt} (h:Bp m a) (hm:m≤m'):Bp m' a:=by unfold Bp at *; omega
theorem Zeq (f:Int):Bp 1 (Z2 f).1∧Bp 1 (Z2 f).2.1∧Bp 1 (Z2 f).2.2:=by
 unfold Z2
 (repeat' split) <;> (unfold Bp; decide)
theorem Z3i {m q r:Int} {a b:Pt} {k:Int} (ha:Bp m a) (hb:Bp r b) (h1:-q≤k) (h2:k≤q):Bp (m+q*r) (Z1b a k b):=by
 obtain ⟨⟨a1,a2⟩,⟨a3,a4⟩,a5,a6⟩:=ha
 obtain ⟨⟨b1,b2⟩,⟨b3,b4⟩,b5,b6⟩:=hb
 have e1:=Z2q h1 h2 b1 b2
 have e2:=Z2q h1 h2 b3 b4
 have e3:=Z2q h1 h2 b5 b6
 unfold Bp Z1b
 dsimp only
 omega
theorem Z7a:Bp 0 (0,0,0):=by unfold Bp; decide
theorem Z1tt {n f i j:Int} (hm:Z1d n f i j):Bp 96 (midP n f i j):=by
 obtain ⟨n1,n2,f0,f5,i0,i1,j0,j1⟩:=hm
 obtain ⟨a,b,c⟩:=Zeq f
 exact (Z3i (Z3i (Z3i Z7a a (q:=32) (by omega) (by omega)) b (q:=32) (by omega) (by omega)) c (q:=32) (by omega) (by omega)).mono (by decide)
theorem Z1tu (f o:Int):Bp 1 (dirP f o):=by
 obtain ⟨a,b,c⟩:=Zeq f
 unfold dirP
 split
 ·exact b
 ·split
  ·exact c
  ·split
   ·exact (Z3i Z7a b (q:=1) (by omega) (by omega)).mono (by decide)
   ·exact (Z3i Z7a c (q:=1) (by omega) (by omega)).mono (by decide)
theorem Z1ln {m r:Int} {a b:Pt} (ha:Bp m a) (hb:Bp r b):-(3*(m*r))≤dotP a b∧dotP a b≤3*(m*r):=by
 obtain ⟨⟨a1,a2⟩,⟨a3,a4⟩,a5,a6⟩:=ha
 obtain ⟨⟨b1,b2⟩,⟨b3,b4⟩,b5,b6⟩:=hb
 have e1:=Z2q a1 a2 b1 b2
 have e2:=Z2q a3 a4 b3 b4
 have e3:=Z2q a5 a6 b5 b6
 unfold dotP
 omega
theorem Z1py (n c o:Int) (s:List Ed × List Int):(Zai n c o s).1.length≤s.1.length+1∧(Zai n c o s).2.length=s.2.length:=by
 unfold Zai
 split
 ·exact ⟨by rw [List.length_append]; exact Nat.le_refl _,by rw [List.length_set,List.length_set]⟩
 ·exact ⟨Nat.le_succ _,rfl⟩
theorem Zve (n c:Int) (s:List Ed × List Int):∀ k,(Z3f n c s k).1.length≤s.1.length+k∧(Z3f n c s k).2.length=s.2.length
 | 0=>⟨Nat.le_refl _,rfl⟩
 | k+1=>by
  obtain ⟨a,b⟩:=Zve n c s k
  obtain ⟨d,e⟩:=Z1py n c k (Z3f n c s k)
  exact ⟨by show (Zai n c k (Z3f n c s k)).1.length≤_; omega,e.trans b⟩
theorem Zvf (n:Int):∀ k,(Z37 n k).1.length≤4*k∧(Z37 n k).2.length=(4*Zb n).toNat
 | 0=>⟨Nat.le_refl _,List.length_replicate⟩
 | k+1=>by
  obtain ⟨a,b⟩:=Zvf n k
  obtain ⟨d,e⟩:=Zve n k (Z37 n k) 4
  exact ⟨by show (Z3f n k (Z37 n k) 4).1.length≤_; omega,e.trans b⟩
theorem Zer {n:Int} {k:Nat} (h:(k:Int)<Zb n):Zl n (k:Int)=true:=by
 unfold Zl
 rw [decide_eq_true (p:=(0:Int)≤k) (by omega),decide_eq_true (p:=(k:Int)<Zb n) h]; rfl
end Go.Lift

namespace Go.Lift
def Z1gm:Hn:={ loops:=fun _=>none,joins:=fun _=>none }
def WU2 (a b:Int):Prop:=U64 a∧U64 b
def Z1gn (a b:Int):Int × Int × Unit:=(mulHi a b,mulLo a b,())
def lzR (a:Int):Int × Unit:=(lz64 a,())
theorem Z1tv {a:Int} (ha:U64 a):F21 a (fun r=>r=lzR a):=by
 have b:=Z10r (x:=a) ha.2
 exact ⟨ha,by rw [Z6c _ (by omega) (by omega)]; rfl⟩
def WDiv (a b c:Int):Prop:=U64 a∧U64 b∧U64 c∧a<c
def Z1sl (a b c:Int):Int × Int × Unit:=(divQ a b c,divR a b c,())
def prtR (a b c:Int):Int × Unit:=(part a b c,())
def AllI (c:List Int):Prop:=∀ x ∈ c,I64 x
end Go.Lift

namespace Go.Lift
def Z169 (f:Int):Bool:=decide (-4503599627370496≤f)&&decide (f≤4503599627370496)
abbrev Ar:=Int→Int→Int × Int
def outN (ar:Ar) (f:List Int) (c o:Int):Int:=imax 0 (f.getD (ar c o).1.toNat 0*(ar c o).2)
def Z1sm (ar:Ar) (f:List Int) (c:Int):List Int:=[outN ar f c 0,outN ar f c 1,outN ar f c 2,outN ar f c 3]
def yesR:Bool × Unit:=(true,())
end Go.Lift

namespace Go.Lift
open Go
def iw (x:Int):Int:=i64.wrap x
def Zks (a b:List Int):Bool × Unit:=(a==b,())
end Go.Lift

namespace Go.Lift
section Z48
variable {a b:Int} {c:List Int}
end Z48
section cuts
variable {a:Int} {c:List Int}
end cuts
structure ArOk (n:Int) (ar:Ar):Prop where
 side:∀ c o,Zr n c o=true→∃ k:Nat,k<(netE n).1.length∧ar c o=((k:Int),sgnE n c o)∧mget (c,o) (netE n).2=some (k:Int) ∧
  ((c<(Z7 n c o).1∧(netE n).1[k]?=some (c,o,Z7 n c o))∨((Z7 n c o).1<c∧(netE n).1[k]?=some ((Z7 n c o).1,(Z7 n c o).2,c,o)))
section
variable {n:Int} {ar:Ar} (A:ArOk n ar) {f:List Int} (hf:∀ x ∈ f,Z169 x=true) (hl:f.length=(netE n).1.length)
include A hf hl
end
def gvV (ar:Ar) (f:List Int) (gv:Nat→List Int) (c o:Int):Int:=if 0<outN ar f c o then (gv c.toNat).getD o.toNat 0*(ar c o).2 else 0
def visV (ar:Ar) (f:List Int) (gv:Nat→List Int) (T c o:Int):Int:=if 4*c+o<T then gvV ar f gv c o else 0
def Z1if (n:Int) (ar:Ar) (f:List Int) (gv:Nat→List Int) (T:Int) (all:List Int):Prop :=
 all.length=(netE n).1.length∧∀ (k:Nat) (e:Ed),(netE n).1[k]?=some e→all[k]?=some (visV ar f gv T e.1 e.2.1+visV ar f gv T e.2.2.1 e.2.2.2)
section
variable {n:Int} {ar:Ar} (A:ArOk n ar) {f:List Int} {gv:Nat→List Int}
include A
end
end Go.Lift

namespace Go.Lift
section
variable {n:Int} {ar:Ar} (A:ArOk n ar) {f:List Int} (hf:∀ x ∈ f,Z169 x=true) (hl:f.length=(netE n).1.length)
include A hf
include hl
end
theorem Z1e3 {g:Gr} (h:NetP (some g)):∃ n,Z1i n=true∧g=netG n:=by
 rcases h with h | ⟨n,gn,h⟩
 ·cases h
 ·exact ⟨n,gn,Option.some.inj h⟩
theorem Z16a {g:Rg} (h:Zak (some g)):∃ n,Z1i n=true∧g=Z2n n:=by
 rcases h with h | ⟨n,gn,h⟩
 ·cases h
 ·exact ⟨n,gn,Option.some.inj h⟩
theorem Zs {x:Int} (h1:-9223372036854775808≤x) (h2:x<9223372036854775808):i64.wrap x=x:=wi ⟨h1,h2⟩
end Go.Lift

namespace Go.Lift
section
variable {n:Int} {ar:Ar} (A:ArOk n ar) {f:List Int} (hf:∀ x ∈ f,Z169 x=true)
include A hf
end
section
variable {N M:Int} {ar:Ar} {w h f:List Int}
end
end Go.Lift

namespace Go.Lift
abbrev at0 (xs:List Int) (i:Nat):Int:=xs.getD i 0
theorem Z9t {xs:List Int} {i j:Nat} {v:Int} (hi:i<xs.length):at0 (xs.set i v) j=if j=i then v else at0 xs j:=by
 unfold at0
 by_cases e:j=i
 ·subst e; rw [if_pos rfl]; rw [List.getD_eq_getElem?_getD,List.getElem?_set,if_pos rfl,if_pos hi]; rfl
 ·rw [if_neg e,List.getD_eq_getElem?_getD,List.getElem?_set,if_neg (fun q=>e q.symm),← List.getD_eq_getElem?_getD]
theorem Zo7 {xs ys:List Int} (hl:xs.length=ys.length) (h:∀ i,i<xs.length→at0 xs i=at0 ys i):xs=ys:=by
 apply List.ext_getElem hl
 intro i h1 h2
 have:=h i h1
 unfold at0 at this
 rw [List.getD_eq_getElem?_getD,List.getD_eq_getElem?_getD,List.getElem?_eq_getElem h1,List.getElem?_eq_getElem h2] at this
 exact this
def swp (xs:List Int) (i j:Nat):List Int:=(xs.set i (at0 xs j)).set j (at0 xs i)
theorem Zy7 (xs:List Int) (i j:Nat):(swp xs i j).length=xs.length:=by unfold swp; rw [List.length_set,List.length_set]
theorem Z7b {xs:List Int} {i j p:Nat} (hi:i<xs.length) (hj:j<xs.length):at0 (swp xs i j) p=if p=j then at0 xs i else if p=i then at0 xs j else at0 xs p:=by
 unfold swp
 rw [Z9t (by rw [List.length_set]; exact hj),Z9t hi]
theorem Zhs {xs:List Int} {i:Nat} (hi:i<xs.length):at0 xs i=xs[i]:=by
 unfold at0; rw [List.getD_eq_getElem?_getD,List.getElem?_eq_getElem hi]; rfl
theorem Z1ig {xs:List Int} {i j:Nat} (hi:i<xs.length) (hj:j<xs.length):(swp xs i j).Perm xs:=by
 unfold swp
 rw [Zhs hi,Zhs hj]
 exact List.set_set_perm hi hj
def Z2u (xs:List Int) (σ:Nat→Nat):List Int:=(List.range xs.length).map fun p=>at0 xs (σ p)
theorem Z1q (xs:List Int) (σ:Nat→Nat):(Z2u xs σ).length=xs.length:=by unfold Z2u; rw [List.length_map,List.length_range]
theorem Z3a {xs:List Int} {σ:Nat→Nat} {p:Nat} (h:p<xs.length):at0 (Z2u xs σ) p=at0 xs (σ p):=by
 unfold Z2u
 rw [show at0 ((List.range xs.length).map fun p=>at0 xs (σ p)) p=(((List.range xs.length).map fun p=>at0 xs (σ p))[p]?).getD 0 from List.getD_eq_getElem?_getD ..,List.getElem?_map,List.getElem?_range h]; rfl
theorem Z10u {xs:List Int} {σ τ υ:Nat→Nat} (hτ:∀ p,p<xs.length→τ p<xs.length) (h:∀ p,p<xs.length→σ (τ p)=υ p):Z2u (Z2u xs σ) τ=Z2u xs υ:=by
 refine Zo7 (by rw [Z1q,Z1q,Z1q]) fun i hi=>?_
 rw [Z1q,Z1q] at hi
 rw [Z3a (by rw [Z1q]; exact hi),Z3a (hτ i hi),Z3a hi,h i hi]
theorem Z1ih {xs:List Int} {σ:Nat→Nat} (h:∀ p,p<xs.length→σ p=p):Z2u xs σ=xs :=
 Zo7 (Z1q _ _) fun i hi=>by rw [Z1q] at hi; rw [Z3a hi,h i hi]
def swI (a b n p:Nat):Nat:=if a≤p∧p<a+n then b+(p - a) else if b≤p∧p<b+n then a+(p - b) else p
def rotI (a m b p:Nat):Nat:=if a≤p∧p<a+(b - m) then m+(p - a) else if a+(b - m)≤p∧p<b then a+(p - (a+(b - m))) else p
theorem Z1rr (a b p:Nat):swI a b 0 p=p:=by unfold swI; (repeat' split) <;> omega
theorem Z1pz {xs:List Int} {a b n:Nat} (h:a+n<b) (hb:b+n<xs.length):swp (Z2u xs (swI a b n)) (a+n) (b+n)=Z2u xs (swI a b (n+1)):=by
 refine Zo7 (by rw [Zy7,Z1q,Z1q]) fun i hi=>?_
 rw [Zy7,Z1q] at hi
 rw [Z7b (i:=a+n) (j:=b+n) (by rw [Z1q]; omega) (by rw [Z1q]; omega),Z3a (p:=a+n) (by omega),Z3a (p:=b+n) (by omega),Z3a hi,Z3a hi]
 by_cases e1:i=b+n
 ·subst e1
  rw [if_pos rfl]
  congr 1
  unfold swI
  (repeat' split) <;> omega
 rw [if_neg e1]
 by_cases e2:i=a+n
 ·subst e2
  rw [if_pos rfl]
  congr 1
  unfold swI
  (repeat' split) <;> omega
 rw [if_neg e2]
 congr 1
 unfold swI
 (repeat' split) <;> omega
theorem Z1rs {m i j:Nat} (h0:0<j) (h:j<i) (hm:i≤m) (p:Nat):swI (m - i) m j (rotI (m - (i - j)) m (m+j) p)=rotI (m - i) m (m+j) p:=by
 unfold rotI
 (repeat' split) <;> unfold swI <;> (repeat' split) <;> omega
theorem Z1rt {m i j:Nat} (h0:0<i) (h:i<j) (hm:i≤m) (p:Nat):swI (m - i) (m+j - i) i (rotI (m - i) m (m+(j - i)) p)=rotI (m - i) m (m+j) p:=by
 unfold rotI
 (repeat' split) <;> unfold swI <;> (repeat' split) <;> omega
theorem Z1ru {m i:Nat} (h0:0<i) (hm:i≤m) (p:Nat):swI (m - i) m i p=rotI (m - i) m (m+i) p:=by
 unfold swI rotI
 repeat' split
 all_goals omega
theorem Z1ac {a m b n p:Nat} (h1:a≤m) (h2:m≤b) (h3:b≤n) (h:p<n):rotI a m b p<n:=by
 unfold rotI; (repeat' split) <;> omega
section
variable (kf:Int→Int)
def Stb (xs:List Int):Prop:=∀ i j,i<j→j<xs.length→kf (at0 xs i)=kf (at0 xs j)→at0 xs i<at0 xs j
def Sgm (xs:List Int) (a b:Nat):Prop:=∀ i j,a≤i→i<j→j<b→kf (at0 xs i)≤kf (at0 xs j)
structure Rr (a b:Nat) (xs ys:List Int):Prop where
 perm:ys.Perm xs
 len:ys.length=xs.length
 out:∀ i,i<a∨b≤i→at0 ys i=at0 xs i
 ins:∀ P:Int→Prop,(∀ i,a≤i→i<b→P (at0 xs i))→∀ i,a≤i→i<b→P (at0 ys i)
 st:Stb kf xs→Stb kf ys
variable {kf}
theorem Rr.refl (a b:Nat) (xs:List Int):Rr kf a b xs xs:=⟨.refl _,rfl,fun _ _=>rfl,fun P h=>h,fun h=>h⟩
theorem Rr.trans {a b:Nat} {xs ys zs:List Int} (h:Rr kf a b xs ys) (g:Rr kf a b ys zs):Rr kf a b xs zs :=
 ⟨g.perm.trans h.perm,g.len.trans h.len,fun i hi=>(g.out i hi).trans (h.out i hi),fun P hP=>g.ins P (h.ins P hP),fun q=>g.st (h.st q)⟩
theorem Rr.wide {a b a' b':Nat} {xs ys:List Int} (h:Rr kf a b xs ys) (h1:a'≤a) (h2:b≤b'):Rr kf a' b' xs ys :=
 ⟨h.perm,h.len,fun i hi=>h.out i (by omega),fun P hP i i1 i2=>by
  by_cases q:a≤i∧i<b
  ·exact h.ins P (fun i i1 i2=>hP i (by omega) (by omega)) i q.1 q.2
  ·rw [h.out i (by omega)]; exact hP i i1 i2,h.st⟩
theorem Rr.sgm {a b c d:Nat} {xs ys:List Int} (h:Rr kf a b xs ys) (hs:Sgm kf xs c d) (hd:d≤a∨b≤c):Sgm kf ys c d:=fun i j h1 h2 h3=>by
 rw [h.out i (by omega),h.out j (by omega)]; exact hs i j h1 h2 h3
theorem Sgm.sub {a b a' b':Nat} {xs:List Int} (h:Sgm kf xs a b) (h1:a≤a') (h2:b'≤b):Sgm kf xs a' b':=fun i j g1 g2 g3=>h i j (by omega) g2 (by omega)
theorem Sgm.one {a b:Nat} {xs:List Int} (h:b≤a+1):Sgm kf xs a b:=fun i j g1 g2 g3=>by omega
theorem Z1ii {xs:List Int} {i a b:Nat} (h1:a≤i) (h2:i+1<b) (h3:i+1<xs.length) (hlt:kf (at0 xs (i+1))<kf (at0 xs i)):Rr kf a b xs (swp xs (i+1) i) where
 perm:=Z1ig h3 (by omega)
 len:=Zy7 _ _ _
 out p hp:=by rw [Z7b h3 (by omega),if_neg (by omega),if_neg (by omega)]
 ins P hP p p1 p2:=by
  rw [Z7b h3 (by omega)]
  split
  ·exact hP _ (by omega) (by omega)
  ·split
   ·exact hP _ (by omega) (by omega)
   ·exact hP _ p1 p2
 st hs p q hpq hq he:=by
  rw [Zy7] at hq
  rw [Z7b h3 (by omega),Z7b h3 (by omega)] at he ⊢
  by_cases e1:p=i
  ·subst e1
   rw [if_pos rfl] at he ⊢
   by_cases e2:q=p+1
   ·subst e2
    rw [if_neg (by omega),if_pos rfl] at he
    omega
   ·rw [if_neg (by omega),if_neg e2] at he ⊢
    exact hs _ _ (by omega) hq he
  rw [if_neg e1] at he ⊢
  by_cases e2:p=i+1
  ·subst e2
   rw [if_pos rfl,if_neg (by omega),if_neg (by omega)] at he ⊢
   exact hs _ _ (by omega) hq he
  rw [if_neg e2] at he ⊢
  by_cases e3:q=i
  ·subst e3
   rw [if_pos rfl] at he ⊢
   exact hs _ _ (by omega) (by omega) he
  rw [if_neg e3] at he ⊢
  by_cases e4:q=i+1
  ·subst e4
   rw [if_pos rfl] at he ⊢
   exact hs _ _ (by omega) (by omega) he
  rw [if_neg e4] at he ⊢
  exact hs _ _ hpq hq he
theorem Z1un {xs ys:List Int} {a m b:Nat} (h1:a≤m) (h2:m≤b) (h3:b≤xs.length) (hp:ys.Perm xs) (he:ys=Z2u xs (rotI a m b)) (hlt:∀ i j,a≤i→i<m→m≤j→j<b→kf (at0 xs j)<kf (at0 xs i)):Rr kf a b xs ys where
 perm:=hp
 len:=by rw [he,Z1q]
 out p hp':=by
  subst he
  rcases Nat.lt_or_ge p xs.length with g | g
  ·rw [Z3a g]; congr 1; unfold rotI; rw [if_neg (by omega),if_neg (by omega)]
  ·unfold at0
   rw [List.getD_eq_getElem?_getD,List.getD_eq_getElem?_getD,List.getElem?_eq_none (by rw [Z1q]; exact g),List.getElem?_eq_none g]
 ins P hP p p1 p2:=by
  subst he
  rw [Z3a (p:=p) (by omega)]
  refine hP _ ?_ ?_ <;> unfold rotI <;> (repeat' split) <;> omega
 st hs p q hpq hq hk:=by
  subst he
  rw [Z1q] at hq
  rw [Z3a (p:=p) (by omega),Z3a hq] at hk ⊢
  have key:rotI a m b p<rotI a m b q∨(m≤rotI a m b p∧rotI a m b p<b∧a≤rotI a m b q∧rotI a m b q<m):=by
   unfold rotI; (repeat' split) <;> omega
  rcases key with key | ⟨k1,k2,k3,k4⟩
  ·exact hs _ _ key (Z1ac h1 h2 h3 hq) hk
  ·have:=hlt _ _ k3 k4 k1 k2
   omega
end
end Go.Lift

namespace Go.Lift
theorem Z2g.one {w w':World} {k:K} {x:k.T} {v:Value} {ok:Nat→Prop} (h:∀ fr,KRep w' fr k x v):Z2g w w' ok [.snap k] (x,()) v :=
 ⟨[v],[],rfl,fun i j b h=>by simp at h,v,[],[],[],rfl,rfl,⟨rfl,h _⟩,rfl,rfl⟩
section
variable {P:Program} {G:Z7t} {f:FuncId} {fn:Func} (hf:P.funcs[f]?=some fn) (hname:(fn.name == "runtime.NumGoroutine")=false) (hb:fn.body.isNone=true) (hn:Extern.findNext fn=none)
include hf hname hb hn
theorem Z1nb (he:Extern.find fn=some Extern.MathFloatBits.float64bits):(Con.det [.flt .f64] [.snap (.int .u64)] (fun _=>True) (fun x=>Z1k x.1)).holds P G f:=by
 have main:∀ (w:World) (ok:Nat→Prop) (b:Nat) (vs:List Value),vs=[.float .f64 b]→Z29 P f vs.toArray w fun v w'=>Grows w w'∧Z2g w w' ok [.snap (.int .u64)] (Z1k b) v:=by
  rintro w ok b _ rfl
  refine .inl ⟨.int .u64 b,w,?_,Grows.refl w,Z2g.one fun _=>rfl⟩
  rw [run_callFunc_extern hf hname hb hn he]; rfl
 rintro w ok _ ⟨b,⟨⟩⟩ vs ⟨v,r,rfl,h1,rfl⟩ _ _
 exact main w ok b _ h1
theorem Z1nc (he:Extern.find fn=some Extern.MathFloatBits.float64frombits):(Con.det [.int .u64] [.snap (.flt .f64)] (fun _=>True) (fun x=>Z7x x.1)).holds P G f:=by
 have main:∀ (w:World) (ok:Nat→Prop) (b:Int) (vs:List Value),vs=[.int .u64 b]→Z29 P f vs.toArray w fun v w'=>Grows w w'∧Z2g w w' ok [.snap (.flt .f64)] (Z7x b) v:=by
  rintro w ok b _ rfl
  refine .inl ⟨.float .f64 b.toNat,w,?_,Grows.refl w,Z2g.one fun _=>rfl⟩
  rw [run_callFunc_extern hf hname hb hn he]; rfl
 rintro w ok _ ⟨b,⟨⟩⟩ vs ⟨v,r,rfl,h1,rfl⟩ _ _
 exact main w ok b _ h1
theorem Z1rv (he:Extern.find fn=some Extern.MathSqrt.sqrt) {ne}:(Con.rel [.flt .f64] [.snap (.flt .f64)] (fun _=>True) (fun x r=>Z8w x.1 r) ne).holds P G f:=by
 have main:∀ (w:World) (ok:Nat→Prop) (b:Nat) (vs:List Value),vs=[.float .f64 b]→Z29 P f vs.toArray w fun v w'=>∃ r:RS [.snap (.flt .f64)],Z8w b r∧Grows w w'∧Z2g w w' ok [.snap (.flt .f64)] r v:=by
  rintro w ok b _ rfl
  have e:Extern.MathSqrt.sqrt [Value.float .f64 b].toArray=(match f64.format.sqrt b with
   | some r=>pure (.float .f64 r)
   | none=>do pure (.float .f64 (← choose (.nanBits .f64 b b)))):=rfl
  have key:∀ (r:Nat) (w':World),FRes .f64 (f64.format.sqrt b) r→Grows w w'→(Extern.MathSqrt.sqrt [Value.float .f64 b].toArray).run P w=.ok (.float .f64 r) w' →
    Z29 P f [Value.float .f64 b].toArray w fun v w'=>∃ r:RS [.snap (.flt .f64)],Z8w b r∧Grows w w'∧Z2g w w' ok [.snap (.flt .f64)] r v:=by
   intro r w' hr hg hrun
   refine .inl ⟨.float .f64 r,w',?_,(r,()),Z1ut hr,hg,Z2g.one fun _=>rfl⟩
   rw [run_callFunc_extern hf hname hb hn he,hrun]; rfl
  cases hs:f64.format.sqrt b with
  | some r=>exact key r w (by rw [hs]; rfl) (Grows.refl w) (by rw [e,hs]; rfl)
  | none =>
   refine key ((Question.nanBits .f64 b b).cut (w.tape w.drawn (.nanBits .f64 b b))) w.drew (by rw [hs]; exact Z1ky _ _ _ _) (Grows.drew w) ?_
   have hq:(Question.nanBits .f64 b b).forced=false:=rfl
   rw [e,hs]
   simp [hq]
 rintro w ok _ ⟨b,⟨⟩⟩ vs ⟨v,r,rfl,h1,rfl⟩ _ _
 exact main w ok b _ h1
end
end Go.Lift

namespace Go.Lift
section
variable {P:Program} {G:Z7t} {f:FuncId} {fn:Func} (hf:P.funcs[f]?=some fn) (hname:(fn.name == "runtime.NumGoroutine")=false) (hb:fn.body.isNone=true) (hn:Extern.findNext fn=none)
include hf hname hb hn
theorem Z1q0 (he:Extern.find fn=some (Extern.MathFloor.toIntegral "math.archFloor" .down)):(Con.det [.flt .f64] [.snap (.flt .f64)] (fun x=>WNum x.1) (fun x=>Zem x.1)).holds P G f:=by
 have main:∀ (w:World) (ok:Nat→Prop) (b:Nat) (vs:List Value),vs=[.float .f64 b]→WNum b→Z29 P f vs.toArray w fun v w'=>Grows w w'∧Z2g w w' ok [.snap (.flt .f64)] (Zem b) v:=by
  rintro w ok b _ rfl hq
  refine .inl ⟨.float .f64 (Z1e b),w,?_,Grows.refl w,Z2g.one fun _=>rfl⟩
  rw [run_callFunc_extern hf hname hb hn he]
  have e:Extern.MathFloor.toIntegral "math.archFloor" .down [Value.float .f64 b].toArray=pure (.float .f64 (Z1e b)):=by
   show (match Ieee.double.read b with
    | .nan s t=>_
    | d=>pure (Value.float .f64 (f64.encode (d.integral .down))))=_
   have:(Ieee.double.read b).isNaN=false:=(Z1nx b).trans hq.2
   unfold Z1e
   cases h:Ieee.double.read b with
   | nan s t=>rw [h] at this; cases this
   | number s m e=>rfl
   | infinity s=>rfl
  rw [e]; rfl
 rintro w ok _ ⟨b,⟨⟩⟩ vs ⟨v,r,rfl,h1,rfl⟩ _ hp
 exact main w ok b _ h1 hp
end
end Go.Lift

namespace Go.Lift
def Zes (cx:Cx) (hn:Hn) (call:Z25) (nt:Nat) (vars:List ResultVar) (code:Code) (args:List EV) (h:List HObj) (k:EV→List HObj→Prop):Prop :=
 Z3e cx hn call code (args++List.replicate (nt - args.length) (.x (.one .junk))) h fun e env h'=>match e with
  | .normal | .ret=>Zha cx env h' vars fun vs=>k (EV.of vs) h'
  | _=>False
def EvOk (P:Program) (cx:Cx) (f:FuncId) (ev:List EV→List HObj→(EV→List HObj→Prop)→Prop):Prop:=∀ (c:RC) (_:c.Inv) (_:GOk cx.glob c) {args:List EV} {vs:List Value} {k:EV→List HObj→Prop},All2 (EV.rel c) args vs→ev args c.heap k →
 Z29 P f vs.toArray c.w fun v w'=>∃ ev c',k ev c'.heap∧c'.w=w'∧Ext c c'∧c'.Inv∧ev.rel c' v
theorem Z9u {P:Program} {cx:Cx} (hx:CxOk P cx) (hmix:P.follows .mixedOrders=true) {call:Z25} (hcall:Z2p P cx call) {f nt:Nat} {vars:List ResultVar} {code:Code} (hf:FnAt P f nt vars code) (hn:Hn):EvOk P cx f (Zes cx hn call nt vars code):=by
 intro c hi hg args vs k hall h
 unfold Zes at h
 obtain ⟨fu,h1,h2,h3,h4,h5⟩:=hf.ex
 refine .inr ⟨Za7 h1 h2 h5 _ _,calls_of_wp h1 h2 ?_⟩
 have hE:=Z1dr hall nt
 rw [← h3] at hE h
 refine Zn1 hx hmix hn hcall code (D:=dsts code) (fun t h=>h) hi (a:=⟨_,[]⟩) hg hE h fun e c' env' a' k1 k2 k3 k4 k5=>?_
 have fin:Zha cx env' c'.heap vars (fun vs=>k (EV.of vs) c'.heap)→a'.defers=[]∧∃ v,(results fu a'.tmps).run P c'.w=.ok v c'.w∧∃ u,Ending.returned v=Ending.returned u∧∃ ev c2,k ev c2.heap∧c2.w=c'.w∧Ext c c2∧c2.Inv∧ev.rel c2 u:=by
  intro hr
  obtain ⟨xs,us,g1,g2,g3⟩:=Zkk hx.1 k3 k4 vars hr
  obtain ⟨v,ev,hv⟩:=Zn2 h4 g3
  exact ⟨k5.defers,v,hv,v,rfl,_,c',g1,rfl,k2,k3,EV.of_rel g2 ev⟩
 cases e with
 | normal=>exact fin k1
 | ret=>exact fin k1
 | _=>exact k1.elim
theorem EvOk.of {P:Program} {cx:Cx} {f:FuncId} {ev ev':List EV→List HObj→(EV→List HObj→Prop)→Prop} (h:EvOk P cx f ev') (hl:∀ args hp k,ev args hp k→ev' args hp k):EvOk P cx f ev:=fun c hi hg args vs k hall q=>h c hi hg hall (hl _ _ _ q)
theorem EvOk.ofN {P:Program} {cx:Cx} {f:FuncId} {ev:List EV→List HObj→(EV→List HObj→Prop)→Prop} {ev':Nat→List EV→List HObj→(EV→List HObj→Prop)→Prop} (h:∀ N,EvOk P cx f (ev' N)) (hl:∀ args hp k,ev args hp k→∃ N,ev' N args hp k):EvOk P cx f ev:=fun c hi hg args vs k hall q=>by
 obtain ⟨N,hN⟩:=hl _ _ _ q
 exact h N c hi hg hall hN
def Z1t (f0:FuncId) (ev:List EV→List HObj→(EV→List HObj→Prop)→Prop) (call:Z25):Z25:=fun f args h k=>match Nat.beq f f0 with
 | true=>ev args h k
 | false=>call f args h k
theorem Z94 {P:Program} {cx:Cx} {f0:FuncId} {ev:List EV→List HObj→(EV→List HObj→Prop)→Prop} {call:Z25} (hev:EvOk P cx f0 ev) (hcall:Z2p P cx call):Z2p P cx (Z1t f0 ev call):=by
 intro c hi hg f args vs k hall h
 unfold Z1t at h
 split at h
 ·rename_i e
  have e:=Nat.eq_of_beq_eq_true e
  subst e
  exact hev c hi hg hall h
 ·exact hcall c hi hg hall h
def Z12 (bed:List Nat) (i:Int):Int:=Z4d (Z16 (bed.getD i.toNat 0))
def keyB (bed:List Nat) (i:Int):Int:=-(Z12 bed i)
def cmpB (bed:List Nat) (x y:Int):Int:=ordF (Z16 (bed.getD y.toNat 0)) (Z16 (bed.getD x.toNat 0))
def AllW (bed:List Nat):Prop:=∀ b ∈ bed,W64 b
def Z3b (bed:List Nat) (xs:List Int):Prop:=AllW bed∧(∀ x ∈ xs,0≤x∧x<bed.length)∧xs.length≤maxN
def Z7c (ti:TypeId) (args:List EV) (h:List HObj) (k:EV→List HObj→Prop):Prop:=match args,h with
 | [.x (.one (.osl 1 0 len)),.x (.one (.val (.int .i64 a))),.x (.one (.val (.int .i64 b))),.x (.one (.val (.int .i64 n))),_],[.box m tb cs,.row .rw t (.int .i64) xs] =>
  ∃ _:t=ti∧len=@List.length Int xs∧@List.length Int xs≤maxN∧0≤a∧0≤n∧a+n≤b∧b+n≤(@List.length Int xs:Int),∀ ys:List Int,ys=Z2u xs (swI a.toNat b.toNat n.toNat)∧ys.Perm xs→k (.tup []) [.box m tb cs,.row .rw t (.int .i64) ys]
 | _,_=>False
def Zhh (ti:TypeId) (args:List EV) (h:List HObj) (k:EV→List HObj→Prop):Prop:=match args,h with
 | [.x (.one (.osl 1 0 len)),.x (.one (.val (.int .i64 a))),.x (.one (.val (.int .i64 m))),.x (.one (.val (.int .i64 b))),_],[.box md tb cs,.row .rw t (.int .i64) xs] =>
  ∃ _:t=ti∧len=@List.length Int xs∧@List.length Int xs≤maxN∧0≤a∧a<m∧m<b∧b≤(@List.length Int xs:Int),∀ ys:List Int,ys=Z2u xs (rotI a.toNat m.toNat b.toNat)∧ys.Perm xs→k (.tup []) [.box md tb cs,.row .rw t (.int .i64) ys]
 | _,_=>False
def Zkt (ti:TypeId) (fc:FuncId) (args:List EV) (h:List HObj) (k:EV→List HObj→Prop):Prop:=match args,h with
 | [.x (.one (.osl 1 0 len)),.x (.one (.val (.int .i64 a))),.x (.one (.val (.int .i64 b))),.x (.one (.clo f [] [.ref 0 0]))],[.box m tb [.data (.slice (.flt .f64)) bed],.row .rw t (.int .i64) xs] =>
  ∃ _:t=ti∧f=fc∧len=@List.length Int xs∧Z3b bed xs∧0≤a∧a≤b∧b≤(@List.length Int xs:Int),∀ ys:List Int,Rr (keyB bed) a.toNat b.toNat xs ys∧Sgm (keyB bed) ys a.toNat b.toNat→k (.tup []) [.box m tb [.data (.slice (.flt .f64)) bed],.row .rw t (.int .i64) ys]
 | _,_=>False
def Zku (ti:TypeId) (fc:FuncId) (N:Nat) (args:List EV) (h:List HObj) (k:EV→List HObj→Prop):Prop:=match args,h with
 | [.x (.one (.osl 1 0 len)),.x (.one (.val (.int .i64 a))),.x (.one (.val (.int .i64 m))),.x (.one (.val (.int .i64 b))),.x (.one (.clo f [] [.ref 0 0]))],[.box md tb [.data (.slice (.flt .f64)) bed],.row .rw t (.int .i64) xs] =>
  ∃ _:t=ti∧f=fc∧len=@List.length Int xs∧Z3b bed xs∧0≤a∧a<m∧m<b∧b≤(@List.length Int xs:Int)∧(b - a).toNat<N∧Sgm (keyB bed) xs a.toNat m.toNat∧Sgm (keyB bed) xs m.toNat b.toNat,∀ ys:List Int,Rr (keyB bed) a.toNat b.toNat xs ys∧Sgm (keyB bed) ys a.toNat b.toNat→k (.tup []) [.box md tb [.data (.slice (.flt .f64)) bed],.row .rw t (.int .i64) ys]
 | _,_=>False
def Z1go (ti:TypeId) (fc:FuncId) (args:List EV) (h:List HObj) (k:EV→List HObj→Prop):Prop:=match args,h with
 | [.x (.one (.osl 1 0 len)),.x (.one (.val (.int .i64 n))),.x (.one (.clo f [] [.ref 0 0]))],[.box m tb [.data (.slice (.flt .f64)) bed],.row .rw t (.int .i64) xs] =>
  ∃ _:t=ti∧f=fc∧len=@List.length Int xs∧Z3b bed xs∧n=(@List.length Int xs:Int),∀ ys:List Int,Rr (keyB bed) 0 n.toNat xs ys∧Sgm (keyB bed) ys 0 n.toNat→k (.tup []) [.box m tb [.data (.slice (.flt .f64)) bed],.row .rw t (.int .i64) ys]
 | _,_=>False
def Z16b (ti:TypeId) (fc:FuncId) (args:List EV) (h:List HObj) (k:EV→List HObj→Prop):Prop:=match args,h with
 | [.x (.one (.osl 1 0 len)),.x (.one (.clo f [] [.ref 0 0]))],[.box m tb [.data (.slice (.flt .f64)) bed],.row .rw t (.int .i64) xs] =>
  ∃ _:t=ti∧f=fc∧len=@List.length Int xs∧Z3b bed xs,∀ ys:List Int,Rr (keyB bed) 0 (@List.length Int xs) xs ys∧Sgm (keyB bed) ys 0 (@List.length Int xs)→k (.tup []) [.box m tb [.data (.slice (.flt .f64)) bed],.row .rw t (.int .i64) ys]
 | _,_=>False
end Go.Lift

namespace Go.Lift
def Z83 (a b:Nat):Int × Unit:=r1 (ordF (Z16 a) (Z16 b))
def Z41 (a b:Nat):Bool:=decide (ordF (Z16 a) (Z16 b)<0)
def Zii (a b:Nat):Bool × Unit:=r1 (Z41 a b)
def seg (a b:Int):List Int:=(List.range' a.toNat (b.toNat - a.toNat)).map fun n:Nat=>(n:Int)
def leB (bed:List Nat) (x y:Int):Bool:=decide (keyB bed x<keyB bed y∨(keyB bed x=keyB bed y∧x≤y))
def Z1y (bed:List Nat) (a b:Int):List Int:=(seg a b).mergeSort (leB bed)
def Z6d (bed:List Nat) (a b:Int):List Int × Unit:=(Z1y bed a b,())
def ordL (bed:List Nat):List Int:=Z1y bed 0 bed.length
def Zal (bed:List Nat):List Int × Unit:=(ordL bed,())
def WOrd (bed:List Nat):Prop:=AllW bed∧bed.length≤65536
def Z1nd (bed:List Nat) (a b:Int):Prop:=WOrd bed∧0≤a∧a≤b∧b≤(bed.length:Int)
def Z1gp (N:Nat) (bed:List Nat) (a b:Int):Prop:=Z1nd bed a b∧(b - a).toNat<N
def mrgL (bed:List Nat) (l r:List Int):List Int:=List.merge l r (fun x y=>decide (keyB bed x≤keyB bed y))
def mrgR (bed:List Nat) (l r:List Int):List Int × Unit:=(mrgL bed l r,())
def WMrg (bed:List Nat) (l r:List Int):Prop:=WOrd bed∧(∀ x ∈ l,0≤x∧x<(bed.length:Int))∧(∀ x ∈ r,0≤x∧x<(bed.length:Int))∧l.length≤65536∧r.length≤65536
def Zam (x y:Int) (p:Option (List Nat)):Int × Unit:=match p with
 | some bed=>r1 (cmpB bed x y)
 | none=>r1 0
def WCmp (x y:Int) (p:Option (List Nat)):Prop:=∃ bed,p=some bed∧(0≤x∧x<(bed.length:Int))∧(0≤y∧y<(bed.length:Int))∧AllW bed
end Go.Lift

namespace Go.Lift
def Z1l (s:Int):List Int→Bool
 | []=>true
 | x :: l=>if x<0∨x > 4503599627370496 - s then false else Z1l (s+x) l
def Zkv (l:List Int):Bool × Unit:=r1 (Z1l 0 l)
def Z8q (l:List Int):List Int × Unit:=(l,())
def Zkw (l:List Int):Prop:=l.length≤65536
abbrev SeaT:=List Nat × List Int × List Int × List Nat × Int × Int
def Z42 (n m:Int) (s:SeaT):Bool:=decide ((s.1.length:Int)=n)&&decide ((s.2.1.length:Int)=n)&&decide ((s.2.2.1.length:Int)=n)&&decide ((s.2.2.2.1.length:Int)=m)
def Zht (g:Option Rg) (s:SeaT):Bool × Unit:=r1 (Z42 (Zb (Z8z g)) (Zvd g) s)
def Z1ad (g:Option Rg) (_:SeaT):Prop:=Zak g
def Z1ne (g:Option Gr):Int:=match g with
 | none=>0
 | some g=>g.1
def Zkx (bed:List Nat) (best to:Int):Int:=if best<0∨Z12 bed to<Z12 bed best∨(Z12 bed to=Z12 bed best∧to<best) then to else best
def Z10 (n:Int) (bed:List Nat) (c:Int):Nat→Int
 | 0=>-1
 | k+1=>Zkx bed (Z10 n bed c k) (Z7 n c k).1
def Z4t (n:Int) (bed:List Nat) (c:Int):Int:=if Z12 bed (Z10 n bed c 4)<Z12 bed c then Z10 n bed c 4 else -1
def Z1z (some:Bool) (cells n:Int) (bed:List Nat) (c:Int):Int:=if !some∨(bed.length:Int)≠cells∨c<0∨(bed.length:Int)≤c then -1 else Z4t n bed c
def Z47 (g:Option Gr) (bed:List Nat) (c:Int):Int × Unit:=r1 (Z1z g.isSome (Z65 g) (Z1ne g) bed c)
def Zcc (g:Option Rg) (bed:List Nat) (c:Int):Int × Unit:=r1 (Z1z g.isSome (Zb (Z8z g)) (Z8z g) bed c)
def Zhu (g:Option Gr) (bed:List Nat) (c:Int):Prop:=NetP g∧AllW bed
def Zr7 (g:Option Rg) (bed:List Nat) (c:Int):Prop:=Zak g∧AllW bed
def Z16c (g:Option Rg) (c:Int):Int × Unit:=r1 (Zx (Z8z g) c)
def Z1ij (g:Option Rg) (c:Int):Prop:=Zak g∧0≤c∧c<Zb (Z8z g)
def Z5o (w a:Int):Bool:=fcmp Go.BinOp.lss (f64.format.order (Zid w a).1 4602678819172646912)
def mvL (l:List Int) (i j:Int) (d:Int):List Int:=(l.set i.toNat (l.getD i.toNat 0 - d)).set j.toNat ((l.set i.toNat (l.getD i.toNat 0 - d)).getD j.toNat 0+d)
def Z2t (area down:Int→Int) (st:List Int × List Int) (c:Int):List Int × List Int :=
 if down c<0∨st.1.getD c.toNat 0≤0∨Z5o (st.1.getD c.toNat 0) (area c)=false then st else
 (mvL st.1 c (down c) (st.1.getD c.toNat 0 / 4),mvL st.2 c (down c) (part (st.2.getD c.toNat 0) (st.1.getD c.toNat 0 / 4) (st.1.getD c.toNat 0)))
def runA (area down:Int→Int) (order:List Int) (st:List Int × List Int):List Int × List Int:=order.foldl (Z2t area down) st
def runF (some:Bool) (n m:Int) (area down:Int→Int) (s:SeaT):List Int × List Int × Int × Unit:=if !some then ([],[],2,()) else
 if (Z42 n m s&&Z1l 0 s.2.1)&&Z1l 0 s.2.2.1 then ((runA area down (ordL s.1) (s.2.1,s.2.2.1)).1,(runA area down (ordL s.1) (s.2.1,s.2.2.1)).2,0,()) else ([],[],1,())
def Z4h (g:Option Gr) (s:SeaT):List Int × List Int × Int × Unit:=runF g.isSome (Z65 g) (Zo3 g) (Zx (Z1ne g)) (Z1z g.isSome (Z65 g) (Z1ne g) s.1) s
def Zdy (g:Option Rg) (s:SeaT):List Int × List Int × Int × Unit:=runF g.isSome (Zb (Z8z g)) (Zvd g) (Zx (Z8z g)) (Z1z g.isSome (Zb (Z8z g)) (Z8z g) s.1) s
def WRun (g:Option Gr) (s:SeaT):Prop:=NetP g∧AllW s.1∧AllI s.2.1∧AllI s.2.2.1
def Z16d (g:Option Rg) (s:SeaT):Prop:=Zak g∧AllW s.1∧AllI s.2.1∧AllI s.2.2.1
end Go.Lift

namespace Go.Lift
def yesS (_:Int) (_:SeaT):Bool × Unit:=(true,())
end Go.Lift

namespace Go.Lift
open Go.Proofs
def Zf:List (Nat × TD):=[
 (72,⟨.arr 4 2,4,32,[.int .i64 0,.int .i64 0,.int .i64 0,.int .i64 0],some (.arr 4 (.int .i64))⟩),
 (138,⟨.struct [(0,3),(1,3),(2,3)],3,24,[.int .i64 0,.int .i64 0,.int .i64 0],some (.pair (.int .i64) (.pair (.int .i64) (.int .i64)))⟩),
 (95,⟨.struct [(0,3),(1,84),(2,49)],3,56,[.int .i64 0,.slice none 0 0,.slice none 0 0],some (.pair (.int .i64) (.pair (.slice (.pair (.int .i64) (.pair (.int .i64) (.pair (.int .i64) (.int .i64))))) (.slice (.int .i64))))⟩),
 (25,⟨.ptr 95,1,8,[.pointer none],some (.ptr (.pair (.int .i64) (.pair (.slice (.pair (.int .i64) (.pair (.int .i64) (.pair (.int .i64) (.int .i64))))) (.slice (.int .i64)))))⟩),
 (2,⟨.int .i64,1,8,[.int .i64 0],some (.int .i64)⟩),
 (3,⟨.int .i64,1,8,[.int .i64 0],some (.int .i64)⟩),
 (4,⟨.bool,1,1,[.bool false],some (.bool)⟩),
 (5,⟨.int .u8,1,1,[.int .u8 0],some (.int .u8)⟩),
 (9,⟨.str,1,16,[.string ⟨#[]⟩],none⟩),
 (201,⟨.int .u32,1,4,[.int .u32 0],some (.int .u32)⟩),
 (28,⟨.int .i64,1,8,[.int .i64 0],some (.int .i64)⟩),
 (70,⟨.int .u64,1,8,[.int .u64 0],some (.int .u64)⟩),
 (37,⟨.slice 59,1,24,[.slice none 0 0],some (.slice (.flt .f64))⟩),
 (22,⟨.slice 2,1,24,[.slice none 0 0],some (.slice (.int .i64))⟩),
 (60,⟨.slice 4,1,24,[.slice none 0 0],some (.slice (.bool))⟩),
 (39,⟨.struct [(0,37),(1,22),(2,22),(3,37),(4,2),(5,3)],6,112,[.slice none 0 0,.slice none 0 0,.slice none 0 0,.slice none 0 0,.int .i64 0,.int .i64 0],some (.pair (.slice (.flt .f64)) (.pair (.slice (.int .i64)) (.pair (.slice (.int .i64)) (.pair (.slice (.flt .f64)) (.pair (.int .i64) (.int .i64))))))⟩),
 (59,⟨.flt .f64,1,8,[.float .f64 0],some (.flt .f64)⟩),
 (73,⟨.arr 4 3,4,32,[.int .i64 0,.int .i64 0,.int .i64 0,.int .i64 0],some (.arr 4 (.int .i64))⟩),
 (118,⟨.int .u64,1,8,[.int .u64 0],some (.int .u64)⟩),
 (130,⟨.struct [(0,59),(1,59),(2,59)],3,24,[.float .f64 0,.float .f64 0,.float .f64 0],some (.pair (.flt .f64) (.pair (.flt .f64) (.flt .f64)))⟩),
 (131,⟨.arr 4 130,12,96,[.float .f64 0,.float .f64 0,.float .f64 0,.float .f64 0,.float .f64 0,.float .f64 0,.float .f64 0,.float .f64 0,.float .f64 0,.float .f64 0,.float .f64 0,.float .f64 0],some (.arr 4 (.pair (.flt .f64) (.pair (.flt .f64) (.flt .f64))))⟩),
 (92,⟨.arr 2 3,2,16,[.int .i64 0,.int .i64 0],some (.arr 2 (.int .i64))⟩),
 (105,⟨.arr 4 92,8,64,[.int .i64 0,.int .i64 0,.int .i64 0,.int .i64 0,.int .i64 0,.int .i64 0,.int .i64 0,.int .i64 0],some (.arr 4 (.arr 2 (.int .i64)))⟩),
 (169,⟨.arr 3 59,3,24,[.float .f64 0,.float .f64 0,.float .f64 0],some (.arr 3 (.flt .f64))⟩),
 (108,⟨.arr 3 3,3,24,[.int .i64 0,.int .i64 0,.int .i64 0],some (.arr 3 (.int .i64))⟩),
 (170,⟨.arr 3 108,9,72,[.int .i64 0,.int .i64 0,.int .i64 0,.int .i64 0,.int .i64 0,.int .i64 0,.int .i64 0,.int .i64 0,.int .i64 0],some (.arr 3 (.arr 3 (.int .i64)))⟩),
 (171,⟨.arr 6 170,54,432,[.int .i64 0,.int .i64 0,.int .i64 0,.int .i64 0,.int .i64 0,.int .i64 0,.int .i64 0,.int .i64 0,.int .i64 0,.int .i64 0,.int .i64 0,.int .i64 0,.int .i64 0,.int .i64 0,.int .i64 0,.int .i64 0,.int .i64 0,.int .i64 0,.int .i64 0,.int .i64 0,.int .i64 0,.int .i64 0,.int .i64 0,.int .i64 0,.int .i64 0,.int .i64 0,.int .i64 0,.int .i64 0,.int .i64 0,.int .i64 0,.int .i64 0,.int .i64 0,.int .i64 0,.int .i64 0,.int .i64 0,.int .i64 0,.int .i64 0,.int .i64 0,.int .i64 0,.int .i64 0,.int .i64 0,.int .i64 0,.int .i64 0,.int .i64 0,.int .i64 0,.int .i64 0,.int .i64 0,.int .i64 0,.int .i64 0,.int .i64 0,.int .i64 0,.int .i64 0,.int .i64 0,.int .i64 0],some (.arr 6 (.arr 3 (.arr 3 (.int .i64))))⟩),
 (49,⟨.slice 3,1,24,[.slice none 0 0],some (.slice (.int .i64))⟩),
 (109,⟨.arr 3 3,3,24,[.int .i64 0,.int .i64 0,.int .i64 0],some (.arr 3 (.int .i64))⟩),
 (111,⟨.arr 3 109,9,72,[.int .i64 0,.int .i64 0,.int .i64 0,.int .i64 0,.int .i64 0,.int .i64 0,.int .i64 0,.int .i64 0,.int .i64 0],some (.arr 3 (.arr 3 (.int .i64)))⟩),
 (112,⟨.arr 6 111,54,432,[.int .i64 0,.int .i64 0,.int .i64 0,.int .i64 0,.int .i64 0,.int .i64 0,.int .i64 0,.int .i64 0,.int .i64 0,.int .i64 0,.int .i64 0,.int .i64 0,.int .i64 0,.int .i64 0,.int .i64 0,.int .i64 0,.int .i64 0,.int .i64 0,.int .i64 0,.int .i64 0,.int .i64 0,.int .i64 0,.int .i64 0,.int .i64 0,.int .i64 0,.int .i64 0,.int .i64 0,.int .i64 0,.int .i64 0,.int .i64 0,.int .i64 0,.int .i64 0,.int .i64 0,.int .i64 0,.int .i64 0,.int .i64 0,.int .i64 0,.int .i64 0,.int .i64 0,.int .i64 0,.int .i64 0,.int .i64 0,.int .i64 0,.int .i64 0,.int .i64 0,.int .i64 0,.int .i64 0,.int .i64 0,.int .i64 0,.int .i64 0,.int .i64 0,.int .i64 0,.int .i64 0,.int .i64 0],some (.arr 6 (.arr 3 (.arr 3 (.int .i64))))⟩),
 (87,⟨.struct [(0,3),(1,84),(2,83),(3,85),(4,22),(5,37),(6,37)],7,136,[.int .i64 0,.slice none 0 0,.map none,.slice none 0 0,.slice none 0 0,.slice none 0 0,.slice none 0 0],some (.pair (.int .i64) (.pair (.slice (.pair (.int .i64) (.pair (.int .i64) (.pair (.int .i64) (.int .i64))))) (.pair (.map (.pair (.int .i64) (.int .i64)) (.int .i64)) (.pair (.slice (.arr 2 (.int .i64))) (.pair (.slice (.int .i64)) (.pair (.slice (.flt .f64)) (.slice (.flt .f64))))))))⟩),
 (24,⟨.ptr 87,1,8,[.pointer none],some (.ptr (.pair (.int .i64) (.pair (.slice (.pair (.int .i64) (.pair (.int .i64) (.pair (.int .i64) (.int .i64))))) (.pair (.map (.pair (.int .i64) (.int .i64)) (.int .i64)) (.pair (.slice (.arr 2 (.int .i64))) (.pair (.slice (.int .i64)) (.pair (.slice (.flt .f64)) (.slice (.flt .f64)))))))))⟩),
 (91,⟨.struct [(0,3),(1,3),(2,3),(3,3)],4,32,[.int .i64 0,.int .i64 0,.int .i64 0,.int .i64 0],some (.pair (.int .i64) (.pair (.int .i64) (.pair (.int .i64) (.int .i64))))⟩),
 (84,⟨.slice 91,1,24,[.slice none 0 0],some (.slice (.pair (.int .i64) (.pair (.int .i64) (.pair (.int .i64) (.int .i64)))))⟩),
 (85,⟨.slice 92,1,24,[.slice none 0 0],some (.slice (.arr 2 (.int .i64)))⟩),
 (83,⟨.map 124 3,1,8,[.map none],some (.map (.pair (.int .i64) (.int .i64)) (.int .i64))⟩),
 (124,⟨.struct [(0,3),(1,3)],2,16,[.int .i64 0,.int .i64 0],some (.pair (.int .i64) (.int .i64))⟩),
 (88,⟨.plain,1,8,[.nilFunc],none⟩),
 (89,⟨.slice 88,1,24,[.slice none 0 0],none⟩)]
theorem Z6:tabB Tryz.prog Zf=true:=by kernel_rfl
theorem Z8:Tryz.prog.follows .mixedOrders=true:=by kernel_rfl
def RbG:Z7t:=fun g=>match g with | 0=>some ⟨.arr 6 (.arr 3 (.arr 3 (.int .i64))),Zq⟩ | 4=>some ⟨.arr 6 (.arr 3 (.arr 3 (.int .i64))),Zq⟩ | _=>none
noncomputable def Zn5 (f:Nat):Option InFn:=match f with
 | 167=>some ⟨Tryz.f167.ntmps,Tryz.f167.results.toList,Tryz.f167.body.getD .skip,{ loops:=fun _=>none,joins:=fun _=>none,inl:=inlL [167,180,188],unroll:=fun k=>some 4 }⟩
 | 180=>some ⟨Tryz.f180.ntmps,Tryz.f180.results.toList,Tryz.f180.body.getD .skip,{ loops:=fun _=>none,joins:=fun _=>none,inl:=inlL [167,180,188],unroll:=fun k=>some 4 }⟩
 | 188=>some ⟨Tryz.f188.ntmps,Tryz.f188.results.toList,Tryz.f188.body.getD .skip,{ loops:=fun _=>none,joins:=fun _=>none,inl:=inlL [167,180,188],unroll:=fun k=>some 4 }⟩
 | _=>none
theorem Z1ae:Z15m Tryz.prog Zn5:=by
 intro f fn h
 unfold Zn5 at h
 split at h
 ·cases h; exact ⟨Tryz.f167,Tryz.func167,rfl,rfl,by simp,by decide⟩
 ·cases h; exact ⟨Tryz.f180,Tryz.func180,rfl,rfl,by simp,by decide⟩
 ·cases h; exact ⟨Tryz.f188,Tryz.func188,rfl,rfl,by simp,by decide⟩
 ·cases h
noncomputable def Zij (f:Nat):Option InFn:=match f with
 | 186=>some ⟨Tryz.f186.ntmps,Tryz.f186.results.toList,Tryz.f186.body.getD .skip,nHn⟩
 | 187=>some ⟨Tryz.f187.ntmps,Tryz.f187.results.toList,Tryz.f187.body.getD .skip,nHn⟩
 | _=>none
theorem Z16e:Z15m Tryz.prog Zij:=by
 intro f fn h
 unfold Zij at h
 split at h
 ·cases h; exact ⟨Tryz.f186,Tryz.func186,rfl,rfl,by simp,by decide⟩
 ·cases h; exact ⟨Tryz.f187,Tryz.func187,rfl,rfl,by simp,by decide⟩
 ·cases h
noncomputable def Zik (f:Nat):Option InFn:=match f with
 | 54=>some ⟨Tryz.f54.ntmps,Tryz.f54.results.toList,Tryz.f54.body.getD .skip,{ loops:=Z22 [(6,{ ls:=[(.slot 5,.data (.int .i64))],os:=[(3,2,.int .i64)] })],joins:=fun _=>none,named:=true }⟩
 | _=>none
theorem Z16f:Z15m Tryz.prog Zik:=by
 intro f fn h
 unfold Zik at h
 split at h
 ·cases h; exact ⟨Tryz.f54,Tryz.func54,rfl,rfl,by simp,by decide⟩
 ·cases h
noncomputable def Zr8 (f:Nat):Option InFn:=match f with
 | 59=>some ⟨Tryz.f59.ntmps,Tryz.f59.results.toList,Tryz.f59.body.getD .skip,{ loops:=Z22 [(1,{ ls:=[(.slot 7,.data (.int .i64)),(.cell 1 1,.row 91 Z28)],os:=[(0,83,.ent (.pair (.int .i64) (.int .i64)) (.int .i64))] })],joins:=fun _=>none }⟩
 | 60=>some ⟨Tryz.f60.ntmps,Tryz.f60.results.toList,Tryz.f60.body.getD .skip,nHn⟩
 | _=>none
theorem Z1ep:Z15m Tryz.prog Zr8:=by
 intro f fn h
 unfold Zr8 at h
 split at h
 ·cases h; exact ⟨Tryz.f59,Tryz.func59,rfl,rfl,by simp,by decide⟩
 ·cases h; exact ⟨Tryz.f60,Tryz.func60,rfl,rfl,by simp,by decide⟩
 ·cases h
end Go.Lift

namespace Go.Lift
theorem rngF {b:Nat} (h:K.rng (.flt .f64) b):W64 b:=by
 have h:(Lit.float .f64 b).wf=true:=h
 have:=of_decide_eq_true (show decide (b<2 ^ 64)=true from h)
 exact this
theorem rngL {l:List Nat} (h:K.rng (.slice (.flt .f64)) l):WL l:=fun x hx=>rngF (h x hx)
end Go.Lift

namespace Go.Lift
open Go.ChangeShapes Go.WideShapes Go.RowKit
mutual
def K.ofD:(k:K)→DataW Unit→Option k.T
 | .int ik,.lit (.int jk n)=>if jk=ik then some n else none
 | .arr n e,.agg ds=>match ofDs e ds with
  | some xs=>if xs.length=n then some xs else none
  | none=>none
 | _,_=>none
def ofDs:(e:K)→List (DataW Unit)→Option (List e.T)
 | _,[]=>some []
 | e,d :: ds=>match K.ofD e d with
  | some x=>match ofDs e ds with
   | some xs=>some (x :: xs)
   | none=>none
  | none=>none
end
theorem Z1lo {α:Type} {R:α→List Value→Prop} {s:Nat}:∀ {ys:List α} {cs:List Value},cs.length=ys.length*s→(∀ (i:Nat) (y:α),ys[i]?=some y→R y ((cs.drop (i*s)).take s))→Rows R ys cs
 | [],cs,h,_=>List.eq_nil_of_length_eq_zero (by simpa using h)
 | y :: ys,cs,h,hr=>by
  rw [List.length_cons,Nat.add_mul,Nat.one_mul] at h
  refine ⟨cs.take s,cs.drop s,(List.take_append_drop s cs).symm,by simpa using hr 0 y rfl,Z1lo (s:=s) (by rw [List.length_drop]; omega) fun i z hz=>?_⟩
  have:=hr (i+1) z (by simpa using hz)
  rwa [Nat.add_mul,Nat.one_mul,Nat.add_comm,← List.drop_drop] at this
theorem Z1ik:∀ {e:K} {ds:List (DataW Unit)} {xs:List e.T},ofDs e ds=some xs→xs.length=ds.length∧∀ (i:Nat) (x:e.T),xs[i]?=some x→∃ d,ds[i]?=some d∧K.ofD e d=some x
 | e,[],xs,h=>by simp only [ofDs,Option.some.injEq] at h; subst h; exact ⟨rfl,fun i x hx=>by simp at hx⟩
 | e,d :: ds,xs,h=>by
  simp only [ofDs] at h
  split at h
  ·rename_i x hx
   split at h
   ·rename_i ys hys
    cases h
    obtain ⟨h1,h2⟩:=Z1ik hys
    refine ⟨by simp [h1],fun i z hz=>?_⟩
    cases i with
    | zero=>simp at hz; subst hz; exact ⟨d,rfl,hx⟩
    | succ i=>simpa using h2 i z (by simpa using hz)
   ·cases h
  ·cases h
theorem Z1rw {P:Program} {w:World} {ok:Nat→Prop}:∀ {k:K} {t:TypeId},KT P t k→∀ {fuel:Nat} {cs:List Value} {x:DataW Unit × List MemPlace} {y:k.T},DataW.trod (fun _=>()) P w 0 (fun _=>true) false fuel t cs=some x→K.ofD k x.1=some y→k.rep w ok y cs:=by
 intro k
 induction k with
 | int ik =>
  intro t hk fuel cs x y h hy
  cases hk with
  | int ht =>
   obtain ⟨n,h1,h2,_⟩:=DataW.trod_int ht h
   rw [h2] at hy
   simp only [K.ofD,if_true] at hy
   obtain rfl:=Option.some.inj hy
   exact h1
 | arr n e ih =>
  intro t hk fuel cs x y h hy
  cases hk with
  | arr ht hc hs he =>
   obtain ⟨xs,m,rfl,rfl,h1,h2,h3⟩:=DataW.trod_array ht h
   simp only [K.ofD] at hy
   split at hy
   ·rename_i ys hys
    split at hy
    ·rename_i hl
     cases hy
     obtain ⟨g1,g2⟩:=Z1ik hys
     refine ⟨hl,Z1lo (s:=e.sz) (by rw [h1,hs,hl]) fun i z hz=>?_⟩
     obtain ⟨d,hd,hz2⟩:=g2 i z hz
     have hi:i<n:=by rw [← hl]; exact (List.getElem?_eq_some_iff.1 hz).1
     have h4:=h3 i hi
     rw [hc] at h4
     rw [List.getElem?_map] at hd
     cases hx:xs[i]? with
     | none=>rw [hx] at hd; cases hd
     | some q =>
      rw [hx] at hd h4
      cases hd
      exact ih he h4 hz2
    ·cases hy
   ·cases hy
 | _=>intro t hk fuel cs x y h hy; simp [K.ofD] at hy
theorem Z1il {P:Program} {w:World} {n:String} {d:DataW Unit}:∀ {l:List (String × DataW Unit)} {ps:List MemPlace},DataW.LaidVars P w l ps→(n,d) ∈ l →
  ∃ g t cs fuel p,P.globalNamed n=some g∧(P.globals[g]?).map (·.type)=some t∧w.var? P n=some cs∧DataW.trod (fun _=>()) P w 0 (fun _=>true) false fuel t cs.toList=some (d,p)
 | [],ps,_,h=>by cases h
 | (m,e) :: l,ps,⟨g,t,cs,fuel,p,q,h1,h2,h3,h4,h5,_⟩,h=>by
  rcases List.mem_cons.1 h with h | h
  ·cases h; exact ⟨g,t,cs,fuel,p,h1,h2,h3,h4⟩
  ·exact Z1il h5 h
theorem Z1im {P:Program} {w:World} {l:List (String × DataW Unit)} (h:laidMet P l w) {n:String} {d:DataW Unit} (hm:(n,d) ∈ l) {g:Nat} {t:TypeId} (hg:P.globalNamed n=some g) (ht:(P.globals[g]?).map (·.type)=some t) {k:K} (hk:KT P t k) {x:k.T} (hx:K.ofD k d=some x) :
  (K.ptr k).rep w (fun b=>b<w.heap.size) (some x) [.pointer (some ⟨g,0,none⟩)]:=by
 obtain ⟨ps,h1,_,_⟩:=h
 obtain ⟨g',t',cs,fuel,p,h2,h3,h4,h5⟩:=Z1il h1 hm
 rw [hg] at h2; cases h2
 rw [ht] at h3; cases h3
 have hlt:g<w.heap.size:=by
  simp only [World.var?,hg,Option.bind_some] at h4
  split at h4
  ·rename_i hh; exact Z1h hh
  ·cases h4
 refine .inr ⟨x,g,0,cs.toList,rfl,rfl,hlt,Z1rw hk h5 hx,fun j v hj=>?_⟩
 rw [Nat.zero_add,World.var?_cell hg h4 j]
 simpa using hj
section
variable {H:Type} {enc:TypeId × Value→H}
theorem Z1rx {C:Checked} {os:Os} {f:FuncId} {fn:Func} {s:ChangeSpec} {ks:List K} {pre:KS ks→Prop} {tb:TypeId} {G:Z7t} {X:World→Array Value→Prop} (hX:∀ (w w':World) (args:Array Value),w.heap=w'.heap→X w args→X w' args) (hG:∀ (w:World) (args:Array Value),X w args→GW G w (fun b=>b<w.heap.size))
  (own:ownKnob C.prog.godebug=none) (started:os.Started) (noInit:C.prog.inits.idxOf? f=none)
  (hfn:C.prog.funcs[f]?=some fn) (hbody:fn.body.isSome=true) (hname:(fn.name == "runtime.NumGoroutine")=false)
  (witness:∃ (w:World) (tape:Tape) (i:Input),w.os=os∧(w.forCall tape i).Shaped C.prog∧i.vars=[]∧Input.okWide C.prog (w.forCall tape i) .any w.heap.size f i ∧
   ((s.pre enc C.prog fn [] false (w.forCall tape i).memory i.args∧X (w.forCall tape i).memory i.args)∧sizedMet enc C.prog fn (OpenSpec.ofChange s) false (w.forCall tape i).memory i.args)∧({}:Assume).holds C.prog (lone (Frame.enter C.prog f i.args .normal) [] (w.forCall tape i)))
  (hl:laidOutB C.prog=true) (hks:All2 (KT C.prog) fn.params.toList ks) (hread:∀ t ∈ fn.params.toList,C.prog.readableRec t=true∧t<C.prog.types.size)
  (hres:fn.resultTypes=#[tb]) (htb:C.prog.underlying tb=some .bool) (hs:Z1l7 s ks.length)
  (hcon:(Con.det ks [.snap .bool] pre (fun _=>(true,()))).holds C.prog G f) (hpre:∀ x,KS.rng ks x→KS.wf ks x→pre x) :
  ReturnsInHanded {} C os f .any (fun w args=>(s.pre enc C.prog fn [] false w args∧X w args)∧sizedMet enc C.prog fn (OpenSpec.ofChange s) false w args) (s.post enc C.prog fn false true false false):=by
 refine returnsInHanded_of_calls own started noInit witness ?_
 intro w tape i _ _ _ hok hp hholds
 obtain ⟨_,_,_,fn',hfn',_,_,_,_,hval⟩:=hok
 have e:fn'=fn:=Option.some.inj (hfn'.symm.trans hfn)
 subst e
 obtain ⟨⟨⟨ds,gs,before,hw,hc⟩,hx⟩,hz⟩:=hp
 have hx:=hX _ (w.forCall tape i) _ (by rfl) hx
 have hW:=DataW.Whole.of_heap (w':=w.forCall tape i) (by rfl) hw
 have hwt:=hz.weights hw
 generalize w.forCall tape i=W at *
 have hlt:∀ p ∈ before,p.block<W.heap.size:=fun p hp=>hW.lt p hp
 obtain ⟨p,q,hA,hV,rfl,hfz,hnd⟩:=id hW
 rw [hs.1] at hV
 obtain ⟨rfl,rfl⟩:=trodVars_none hV
 have hvt:(OpenSpec.ofChange s).bare.plain.varTypes C.prog=[]:=by
  show (s.plain.varTypes C.prog)=[]
  unfold DataSpec.varTypes
  show s.vars.filterMap _=[]
  rw [hs.1]; rfl
 simp only [List.append_nil] at hwt hW hlt
 rw [hvt,List.append_nil,List.all_eq_true] at hwt
 obtain ⟨x,h1,h2,h3⟩:=Z1r1 hks hA (fun j t v ht hv=>hval j t v (by simpa using ht) (by simpa using hv)) (fun m hm=>by simpa using hwt m hm)
 have hspec:=hcon W (fun b=>b<W.heap.size) (fun _ h=>h) x i.args.toList h1 (hG W _ hx) (hpre x h2 h1.wf)
 obtain ⟨code,hcode⟩:=Option.isSome_iff_exists.1 hbody
 have hcalls:Calls C.prog f i.args W fun e w'=>∃ v,e=.returned v∧Grows W w'∧Z2g W w' (fun b=>b<W.heap.size) [.snap .bool] (true,()) v:=by
  rcases hspec with ⟨v,w',g1,_⟩ | ⟨_,g2⟩
  ·have:=Za7 hfn hcode hname i.args.toList.toArray W
   rw [this] at g1; cases g1
  ·simpa using g2
 refine hcalls.mono fun e W' ⟨v,he,hg,hr⟩=>?_
 subst he
 refine ChangeSpec.post_blind ?_
 have hv:v=.bool true:=by
  obtain ⟨vs,obs,hv,_,v0,vr,o1,o2,rfl,_,⟨_,h5⟩,rfl,_⟩:=hr
  rw [hv]
  exact (List.cons.inj h5).1
 subst hv
 have hds:=hs.2 H ds h3
 have hb:Below W.heap.size W W':=⟨hg.os,hg.tape,hg.output,hg.size,hg.keep⟩
 refine ⟨ds,[],p,[],p,[],hW,?_,?_,?_,World.keptBut_mono (fun p hp=>⟨hp,.inr (.inl hp)⟩) (hb.frame (· ∈ p)),fun h=>by cases h⟩
 ·rw [List.append_nil,hds,hres]
  exact trodAll_mk1 (RowKit.shut_bool htb true)
 ·rw [List.append_nil,hds]
  exact Z1oz hl hg hread hA hlt (fun x hx=>by simpa using hlt x hx)
 ·rw [List.append_nil,hds,hs.1]
  rfl
end
end Go.Lift

namespace Go.Lift
theorem rngI {n:Int} (h:K.rng (.int .i64) n):I64 n:=by
 have h':(decide (i64.min≤n)&&decide (n≤i64.max))=true:=h
 simp [IntKind.min,IntKind.max,IntKind.bits,IntKind.signed] at h'
 unfold I64; omega
theorem Z1v0 {s:Se} (h:K.rng kSea s):Z1sa s:=⟨rngL h.1,fun x hx=>rngI (h.2.1 x hx),fun x hx=>rngI (h.2.2.1 x hx),rngL h.2.2.2.1,rngI h.2.2.2.2.1,rngI h.2.2.2.2.2⟩
end Go.Lift

namespace Go.Proofs.YtplhligfkbgllaaGreatDoor
open Go.Lift
theorem own:ownKnob Tryz.checked.prog.godebug=none:=by kernel_rfl
theorem Z1tw:laidOutB Tryz.checked.prog=true:=by kernel_rfl
theorem gFr:Tryz.prog.globalNamed "tarn/geom.frames" = some 4:=by kernel_rfl
theorem tFr:(Tryz.prog.globals[4]?).map (·.type)=some 171:=by kernel_rfl
theorem gFc:Tryz.prog.globalNamed "tarn/cube.frames" = some 0:=by kernel_rfl
theorem tFc:(Tryz.prog.globals[0]?).map (·.type)=some 112:=by kernel_rfl
def Z16g:List (String × DataW Unit):=[("tarn/cube.frames",Rows.laid_tarn_cube_frames),("tarn/geom.frames",Rows.laid_tarn_geom_frames)]
theorem Z1ry (os:Os) (args:Array Value):laidMetH Tryz.prog Z16g ((World.doorLaid Tryz.prog 400 os).forCall (fun _ _=>0) ⟨#[],args,[]⟩).memory :=
 laidMetH_of_parts3 (fuel:=8) (laidMet_of_run' 8 (by kernel_rfl) (by kernel_rfl)) (by kernel_rfl) (by kernel_rfl)
theorem Z1nf (w:World) (h:laidMetH Tryz.prog Z16g w):GW RbG w (fun b=>b<w.heap.size):=by
 rw [MakeChecks.laidMetH_plain _ _ _ (by kernel_rfl)] at h
 intro g k x hg
 unfold RbG at hg
 split at hg
 ·cases hg
  exact Z1im h (n := "tarn/cube.frames") List.mem_cons_self gFc tFc (Z9n 9 112 _ (by kernel_rfl)) (by kernel_rfl)
 ·cases hg
  exact Z1im h (n := "tarn/geom.frames") (List.mem_cons_of_mem _ List.mem_cons_self) gFr tFr (Z9n 9 171 _ (by kernel_rfl)) (by kernel_rfl)
 ·cases hg
end Go.Proofs.YtplhligfkbgllaaGreatDoor

namespace Go.Lift
theorem Z1rz {xs:List Int} {i j:Nat} (h:i≠j):swp xs i j=swp xs j i:=by
 unfold swp; rw [List.set_comm _ _ h]
theorem Z1q1 {x:Int} (h0:0≤x) (h1:x<9223372036854775808):i64.wrap ((u64.wrap (i64.wrap x)).fdiv (2 ^ Min.min (Int.toNat 1) u64.bits))=x / 2:=by
 rw [Zs (x:=x) (by omega) (by omega)]
 have:u64.wrap x=x:=by rw [IntKind.wrap_u64]; exact Int.emod_eq_of_lt h0 (by omega)
 rw [this,show (2:Int) ^ Min.min (Int.toNat 1) u64.bits=2 from rfl,Int.fdiv_eq_ediv_of_nonneg _ (by decide),Zs (by omega) (by omega)]
theorem Z7d (bed:List Nat) (x y:Int):cmpB bed x y<0↔keyB bed x<keyB bed y:=by
 unfold cmpB keyB Z12 ordF cmpI
 split
 ·constructor <;> intro _ <;> omega
 ·split <;> constructor <;> intro _ <;> omega
theorem Z3b.perm {bed:List Nat} {xs ys:List Int} (h:Z3b bed xs) (hp:ys.Perm xs):Z3b bed ys:=⟨h.1,fun x hx=>h.2.1 x (hp.mem_iff.1 hx),by rw [hp.length_eq]; exact h.2.2⟩
theorem Z84 {xs:List Int} {p:Nat} (h:p<xs.length):at0 xs p ∈ xs:=Z39 h 0
theorem Z3b.cmp {bed:List Nat} {xs:List Int} (h:Z3b bed xs) {p q:Nat} (hp:p<xs.length) (hq:q<xs.length):WCmp (at0 xs p) (at0 xs q) (some bed):=⟨bed,rfl,h.2.1 _ (Z84 hp),h.2.1 _ (Z84 hq),h.1⟩
theorem Zet {kf:Int→Int} {xs:List Int} {a b i j:Nat} (h:Sgm kf xs a b) (h1:a≤i) (h2:i≤j) (h3:j<b):kf (at0 xs i)≤kf (at0 xs j):=by
 by_cases e:i=j
 ·subst e; exact Int.le_refl _
 ·exact h i j h1 (by omega) h3
section
variable {kf:Int→Int}
def InsI (kf:Int→Int) (ys:List Int) (a i j:Nat):Prop:=(∀ p q,a≤p→p<q→q≤i→p≠j→q≠j→kf (at0 ys p)≤kf (at0 ys q))∧∀ q,j<q→q≤i→kf (at0 ys j)≤kf (at0 ys q)
theorem InsI.start {ys:List Int} {a i:Nat} (h:Sgm kf ys a i):InsI kf ys a i i:=⟨fun p q h1 h2 h3 h4 h5=>h p q h1 h2 (by omega),fun q h1 h2=>by omega⟩
theorem InsI.done {ys:List Int} {a i j:Nat} (h:InsI kf ys a i j) (hj:j≤i) (he:j=a∨(a<j∧kf (at0 ys (j - 1))≤kf (at0 ys j))):Sgm kf ys a (i+1):=by
 intro p q h1 h2 h3
 by_cases e1:p=j
 ·subst e1; exact h.2 q h2 (by omega)
 by_cases e2:q=j
 ·subst e2
  rcases he with he | ⟨g1,g2⟩
  ·omega
  by_cases e3:p=q - 1
  ·subst e3; exact g2
  ·exact Int.le_trans (h.1 p (q - 1) h1 (by omega) (by omega) (by omega) (by omega)) g2
 exact h.1 p q h1 h2 (by omega) e1 e2
theorem InsI.step {ys:List Int} {a i j:Nat} (h:InsI kf ys a i (j+1)) (hj:j+1≤i) (ha:a≤j) (hi:i<ys.length) (hlt:kf (at0 ys (j+1))<kf (at0 ys j)):InsI kf (swp ys (j+1) j) a i j:=by
 refine ⟨fun p q h1 h2 h3 h4 h5=>?_,fun q h1 h2=>?_⟩
 ·rw [Z7b (by omega) (by omega),Z7b (by omega) (by omega),if_neg h4,if_neg h5]
  by_cases e1:p=j+1
  ·subst e1
   rw [if_pos rfl,if_neg (by omega)]
   exact h.1 j q ha (by omega) h3 (by omega) (by omega)
  rw [if_neg e1]
  by_cases e2:q=j+1
  ·subst e2
   rw [if_pos rfl]
   exact h.1 p j h1 (by omega) (by omega) e1 (by omega)
  rw [if_neg e2]
  exact h.1 p q h1 h2 h3 e1 e2
 ·rw [Z7b (by omega) (by omega),Z7b (by omega) (by omega),if_pos rfl,if_neg (by omega)]
  by_cases e2:q=j+1
  ·subst e2; rw [if_pos rfl]; omega
  rw [if_neg e2]
  exact h.2 q (by omega) h2
def ShU (xs ys:List Int) (a k:Nat):Prop:=∀ p,at0 ys p=if a≤p∧p<k then at0 xs (p+1) else if p=k then at0 xs a else at0 xs p
theorem ShU.start (xs:List Int) (a:Nat):ShU xs xs a a:=fun p=>by
 rw [if_neg (by omega)]; split
 ·rename_i e; rw [e]
 ·rfl
theorem ShU.step {xs ys:List Int} {a k:Nat} (h:ShU xs ys a k) (hl:ys.length=xs.length) (ha:a≤k) (hk:k+1<xs.length):ShU xs (swp ys (k+1) k) a (k+1):=fun p=>by
 rw [Z7b (by omega) (by omega),h (k+1),h k,h p,if_neg (show ¬ (a≤k+1∧k+1<k) by omega),if_neg (show ¬ k+1=k by omega),if_neg (show ¬ (a≤k∧k<k) by omega),if_pos (show k=k from rfl)]
 by_cases e1:p=k
 ·subst e1; rw [if_pos rfl,if_pos (by omega)]
 rw [if_neg e1]
 by_cases e2:p=k+1
 ·subst e2; rw [if_pos rfl,if_neg (by omega),if_pos rfl]
 rw [if_neg e2,if_neg e2]
 by_cases e3:a≤p∧p<k
 ·rw [if_pos e3,if_pos (by omega)]
 ·rw [if_neg e3,if_neg (by omega),if_neg (by omega)]
theorem ShU.done {xs ys:List Int} {a i b:Nat} (h:ShU xs ys a (i - 1)) (h1:a+1≤i) (h2:i≤b) (hs:Sgm kf xs (a+1) b) (hlt:∀ p,a+1≤p→p<i→kf (at0 xs p)<kf (at0 xs a)) (hge:∀ p,i≤p→p<b→kf (at0 xs a)≤kf (at0 xs p)):Sgm kf ys a b:=by
 intro p q g1 g2 g3
 rw [h p,h q]
 by_cases e1:a≤p∧p<i - 1
 ·rw [if_pos e1]
  by_cases e2:a≤q∧q<i - 1
  ·rw [if_pos e2]; exact hs _ _ (by omega) (by omega) (by omega)
  rw [if_neg e2]
  by_cases e3:q=i - 1
  ·rw [if_pos e3]; have:=hlt (p+1) (by omega) (by omega); omega
  rw [if_neg e3]
  have:=hlt (p+1) (by omega) (by omega)
  have:=hge q (by omega) g3
  omega
 rw [if_neg e1,if_neg (show ¬ (a≤q∧q<i - 1) by omega)]
 rw [if_neg (show ¬ q=i - 1 by omega)]
 by_cases e3:p=i - 1
 ·rw [if_pos e3]; exact hge q (by omega) g3
 rw [if_neg e3]
 exact hs _ _ (by omega) g2 g3
def ShD (xs ys:List Int) (m k:Nat):Prop:=∀ p,at0 ys p=if k<p∧p≤m then at0 xs (p - 1) else if p=k then at0 xs m else at0 xs p
theorem ShD.start (xs:List Int) (m:Nat):ShD xs xs m m:=fun p=>by
 rw [if_neg (by omega)]; split
 ·rename_i e; rw [e]
 ·rfl
theorem ShD.step {xs ys:List Int} {m k:Nat} (h:ShD xs ys m (k+1)) (hl:ys.length=xs.length) (ha:k+1≤m) (hk:m<xs.length):ShD xs (swp ys (k+1) k) m k:=fun p=>by
 rw [Z7b (by omega) (by omega),h (k+1),h k,h p,if_neg (show ¬ (k+1<k+1∧k+1≤m) by omega),if_pos (show k+1=k+1 from rfl),if_neg (show ¬ (k+1<k∧k≤m) by omega),if_neg (show ¬ k=k+1 by omega)]
 by_cases e1:p=k
 ·subst e1; rw [if_pos rfl,if_neg (by omega),if_pos rfl]
 rw [if_neg e1,if_neg e1]
 by_cases e2:p=k+1
 ·subst e2; rw [if_pos rfl,if_pos (by omega)]; congr 1
 rw [if_neg e2]
 by_cases e3:k+1<p∧p≤m
 ·rw [if_pos e3,if_pos (by omega)]
 ·rw [if_neg e3,if_neg (by omega),if_neg (by omega)]
theorem ShD.done {xs ys:List Int} {a m i:Nat} (h:ShD xs ys m i) (h1:a≤i) (h2:i≤m) (hs:Sgm kf xs a m) (hle:∀ p,a≤p→p<i→kf (at0 xs p)≤kf (at0 xs m)) (hgt:∀ p,i≤p→p<m→kf (at0 xs m)<kf (at0 xs p)):Sgm kf ys a (m+1):=by
 intro p q g1 g2 g3
 rw [h p,h q]
 by_cases e1:i<p∧p≤m
 ·rw [if_pos e1,if_pos (by omega)]
  exact hs _ _ (by omega) (by omega) (by omega)
 rw [if_neg e1]
 by_cases e2:i<q∧q≤m
 ·rw [if_pos e2]
  by_cases e3:p=i
  ·rw [if_pos e3]; have:=hgt (q - 1) (by omega) (by omega); omega
  rw [if_neg e3]
  by_cases e4:p=q - 1
  ·omega
  exact hs _ _ g1 (by omega) (by omega)
 rw [if_neg e2,if_neg (show ¬ p=i by omega)]
 by_cases e3:q=i
 ·rw [if_pos e3]; exact hle p g1 (by omega)
 ·rw [if_neg e3]; exact hs _ _ g1 g2 (by omega)
def Crs (kf:Int→Int) (ys:List Int) (a m b:Nat):Prop:=∀ i j,a≤i→i<m→m≤j→j<b→kf (at0 ys i)≤kf (at0 ys j)
theorem Crs.left {ys zs:List Int} {a m b:Nat} (h:Crs kf ys a m b) (r:Rr kf a m ys zs):Crs kf zs a m b:=fun i j h1 h2 h3 h4=>by
 rw [r.out j (by omega)]
 exact r.ins (fun v=>kf v≤kf (at0 ys j)) (fun i h1 h2=>h i j h1 h2 h3 h4) i h1 h2
theorem Crs.right {ys zs:List Int} {a m b:Nat} (h:Crs kf ys a m b) (r:Rr kf m b ys zs):Crs kf zs a m b:=fun i j h1 h2 h3 h4=>by
 rw [r.out i (by omega)]
 exact r.ins (fun v=>kf (at0 ys i)≤kf v) (fun j h3 h4=>h i j h1 h2 h3 h4) j h3 h4
theorem Crs.join {ys:List Int} {a m b:Nat} (h:Crs kf ys a m b) (h1:Sgm kf ys a m) (h2:Sgm kf ys m b):Sgm kf ys a b:=fun i j g1 g2 g3=>by
 by_cases e1:j<m
 ·exact h1 i j g1 g2 e1
 by_cases e2:m≤i
 ·exact h2 i j e2 g2 g3
 exact h i j g1 (by omega) (by omega) g3
structure Cutd (kf:Int→Int) (xs:List Int) (a m b s e:Nat):Prop where
 le:a≤s∧s≤m∧m≤e∧e≤b
 low:∀ i j,a≤i→i<s→e≤j→j<b→kf (at0 xs i)≤kf (at0 xs j)
 high:∀ i j,s≤i→i<m→m≤j→j<e→kf (at0 xs j)<kf (at0 xs i)
theorem cutd {xs:List Int} {a m b s0 r0 s mid:Nat} (hm:mid=(a+b) / 2) (h1:a<m) (h2:m<b) (h0:(m > mid∧s0+b=mid+m∧r0=mid)∨(m≤mid∧s0=a∧r0=m)) (hs1:Sgm kf xs a m) (hs2:Sgm kf xs m b) (g1:s0≤s) (g2:s≤r0)
  (lo:∀ q,s0≤q→q<s→kf (at0 xs q)≤kf (at0 xs (mid+m - 1 - q))) (hi:∀ q,s≤q→q<r0→kf (at0 xs (mid+m - 1 - q))<kf (at0 xs q)):Cutd kf xs a m b s (mid+m - s) where
 le:=by omega
 low i j i1 i2 j1 j2:=by
  by_cases e:s=s0
  ·omega
  ·have hl:=lo (s - 1) (by omega) (by omega)
   have a1:kf (at0 xs i)≤kf (at0 xs (s - 1)):=by
    by_cases q:i=s - 1
    ·subst q; omega
    ·exact hs1 _ _ i1 (by omega) (by omega)
   have e2:mid+m - 1 - (s - 1)=mid+m - s:=by omega
   rw [e2] at hl
   have a2:kf (at0 xs (mid+m - s))≤kf (at0 xs j):=by
    by_cases q:j=mid+m - s
    ·subst q; omega
    ·exact hs2 _ _ (by omega) (by omega) j2
   omega
 high i j i1 i2 j1 j2:=by
  by_cases e:s=r0
  ·omega
  ·have hl:=hi s (by omega) (by omega)
   have a1:kf (at0 xs s)≤kf (at0 xs i):=by
    by_cases q:i=s
    ·subst q; omega
    ·exact hs1 _ _ (by omega) (by omega) i2
   have a2:kf (at0 xs j)≤kf (at0 xs (mid+m - 1 - s)):=by
    by_cases q:j=mid+m - 1 - s
    ·subst q; omega
    ·exact hs2 _ _ j1 (by omega) (by omega)
   omega
structure Trnd (kf:Int→Int) (xs ys:List Int) (a m b s e mid:Nat):Prop where
 rr:Rr kf a b xs ys
 g1:Sgm kf ys a s
 g2:Sgm kf ys s mid
 g3:Sgm kf ys mid e
 g4:Sgm kf ys e b
 cr:Crs kf ys a mid b
theorem trnd {xs ys:List Int} {a m b s mid:Nat} (c:Cutd kf xs a m b s (mid+m - s)) (hm:mid=(a+b) / 2) (h1:a<m) (h2:m<b) (h3:b≤xs.length) (hs1:Sgm kf xs a m) (hs2:Sgm kf xs m b) (hp:ys.Perm xs) (he:ys=Z2u xs (rotI s m (mid+m - s))):Trnd kf xs ys a m b s (mid+m - s) mid:=by
 obtain ⟨⟨l1,l2,l3,l4⟩,clo,chi⟩:=c
 have rr:=Z1un (kf:=kf) l2 l3 (by omega) hp he chi
 have key:∀ p,p<b→at0 ys p=at0 xs (rotI s m (mid+m - s) p):=fun p hp=>by rw [he,Z3a (by omega)]
 have k1:∀ p,p<s→rotI s m (mid+m - s) p=p:=fun p hp=>by unfold rotI; rw [if_neg (by omega),if_neg (by omega)]
 have k2:∀ p,s≤p→p<mid→rotI s m (mid+m - s) p=m+(p - s):=fun p h1 h2=>by unfold rotI; rw [if_pos (by omega)]
 have k3:∀ p,mid≤p→p<mid+m - s→rotI s m (mid+m - s) p=s+(p - mid):=fun p h1 h2=>by unfold rotI; rw [if_neg (by omega),if_pos (by omega)]; omega
 have k4:∀ p,mid+m - s≤p→rotI s m (mid+m - s) p=p:=fun p h1=>by unfold rotI; rw [if_neg (by omega),if_neg (by omega)]
 have ms:s≤mid:=by omega
 refine ⟨rr.wide l1 l4,fun i j i1 i2 i3=>?_,fun i j i1 i2 i3=>?_,fun i j i1 i2 i3=>?_,fun i j i1 i2 i3=>?_,fun i j i1 i2 i3 i4=>?_⟩
 ·rw [key i (by omega),key j (by omega),k1 i (by omega),k1 j (by omega)]
  exact hs1 i j i1 i2 (by omega)
 ·rw [key i (by omega),key j (by omega),k2 i (by omega) (by omega),k2 j (by omega) (by omega)]
  exact hs2 _ _ (by omega) (by omega) (by omega)
 ·rw [key i (by omega),key j (by omega),k3 i (by omega) (by omega),k3 j (by omega) (by omega)]
  exact hs1 _ _ (by omega) (by omega) (by omega)
 ·rw [key i (by omega),key j (by omega),k4 i (by omega),k4 j (by omega)]
  exact hs2 _ _ (by omega) (by omega) (by omega)
 ·rw [key i (by omega),key j (by omega)]
  by_cases e1:i<s
  ·rw [k1 i e1]
   by_cases e2:j<mid+m - s
   ·rw [k3 j i3 e2]; exact hs1 _ _ i1 (by omega) (by omega)
   ·rw [k4 j (by omega)]; exact clo i j i1 e1 (by omega) i4
  ·rw [k2 i (by omega) i2]
   by_cases e2:j<mid+m - s
   ·rw [k3 j i3 e2]
    have:=chi (s+(j - mid)) (m+(i - s)) (by omega) (by omega) (by omega) (by omega)
    omega
   ·rw [k4 j (by omega)]; exact hs2 _ _ (by omega) (by omega) (by omega)
theorem Z1q2 {xs:List Int} {s m e:Nat} (h1:s≤m) (h2:m≤e) (h:s=m∨m=e):Z2u xs (rotI s m e)=xs:=Z1ih fun p _=>by
 unfold rotI; (repeat' split) <;> omega
end
end Go.Lift

namespace Go.Lift
theorem Zhv {bed:List Nat} {x y:Int}:leB bed x y=true↔keyB bed x<keyB bed y∨(keyB bed x=keyB bed y∧x≤y):=by unfold leB; rw [decide_eq_true_eq]
theorem Z1e4 (bed:List Nat):∀ a b c:Int,leB bed a b=true→leB bed b c=true→leB bed a c=true:=fun a b c h1 h2=>by
 rw [Zhv] at *; omega
theorem Z1e5 (bed:List Nat):∀ a b:Int,(leB bed a b||leB bed b a)=true:=fun a b=>by
 rw [Bool.or_eq_true,Zhv,Zhv]; omega
theorem Z1s0 {bed:List Nat} {a b:Int} (h1:leB bed a b=true) (h2:leB bed b a=true):a=b:=by
 rw [Zhv] at *; omega
theorem Z1af (a b:Int):(seg a b).length=b.toNat - a.toNat:=by unfold seg; rw [List.length_map,List.length_range']
theorem Z1lp {a b x:Int} (h:x ∈ seg a b):(a.toNat:Int)≤x∧x<b.toNat:=by
 unfold seg at h
 obtain ⟨n,hn,rfl⟩:=List.mem_map.1 h
 rw [List.mem_range'_1] at hn
 omega
theorem Z6e (bed:List Nat) (a b:Int):(Z1y bed a b).Perm (seg a b):=List.mergeSort_perm _ _
theorem Zfb (bed:List Nat) (a b:Int):List.Pairwise (fun x y=>leB bed x y=true) (Z1y bed a b):=List.pairwise_mergeSort (Z1e4 bed) (Z1e5 bed) _
theorem Z5p {bed:List Nat} {a b x:Int} (h:x ∈ Z1y bed a b):(a.toNat:Int)≤x∧x<b.toNat:=Z1lp ((Z6e bed a b).mem_iff.1 h)
theorem Zan (bed:List Nat) (a b:Int):(Z1y bed a b).length=b.toNat - a.toNat:=(Z6e bed a b).length_eq.trans (Z1af a b)
theorem Z67 {bed:List Nat} {a b:Int} {l:List Int} (hp:l.Perm (seg a b)) (hs:List.Pairwise (fun x y=>leB bed x y=true) l):l=Z1y bed a b :=
 List.Perm.eq_of_pairwise (fun x y _ _ h1 h2=>Z1s0 h1 h2) hs (Zfb bed a b) (hp.trans (Z6e bed a b).symm)
theorem Zn6 {s s':Int→Int→Bool}:∀ (n:Nat) (l r:List Int),l.length+r.length≤n→(∀ x ∈ l,∀ y ∈ r,s x y=s' x y)→List.merge l r s=List.merge l r s'
 | _,[],r,_,_=>by rw [List.nil_merge,List.nil_merge]
 | _,x :: l,[],_,_=>by simp
 | 0,x :: l,y :: r,hn,_=>by simp at hn
 | n+1,x :: l,y :: r,hn,h=>by
  simp only [List.length_cons] at hn
  rw [List.cons_merge_cons,List.cons_merge_cons,h x List.mem_cons_self y List.mem_cons_self,Zn6 n l (y :: r) (by simp only [List.length_cons]; omega) fun a ha b hb=>h a (List.mem_cons_of_mem _ ha) b hb,
   Zn6 n (x :: l) r (by simp only [List.length_cons]; omega) fun a ha b hb=>h a ha b (List.mem_cons_of_mem _ hb)]
theorem Z1ng {a m b:Int} (h0:0≤a) (h1:a≤m) (h2:m≤b):seg a m++seg m b=seg a b:=by
 unfold seg
 rw [← List.map_append]
 congr 1
 have:=List.range'_append (s:=a.toNat) (m:=m.toNat - a.toNat) (n:=b.toNat - m.toNat) (step:=1)
 rw [show a.toNat+1*(m.toNat - a.toNat)=m.toNat by omega,show m.toNat - a.toNat+(b.toNat - m.toNat)=b.toNat - a.toNat by omega] at this
 exact this
theorem Z1tx {bed:List Nat} {a m b:Int} (h0:0≤a) (h1:a≤m) (h2:m≤b):mrgL bed (Z1y bed a m) (Z1y bed m b)=Z1y bed a b:=by
 have e:mrgL bed (Z1y bed a m) (Z1y bed m b)=List.merge (Z1y bed a m) (Z1y bed m b) (leB bed):=by
  unfold mrgL
  refine Zn6 _ _ _ (Nat.le_refl _) fun x hx y hy=>?_
  have hx:=Z5p hx
  have hy:=Z5p hy
  rw [Bool.eq_iff_iff,decide_eq_true_eq,Zhv]
  omega
 rw [e]
 refine Z67 ?_ (List.pairwise_merge (Z1e4 bed) (Z1e5 bed) _ _ (Zfb _ _ _) (Zfb _ _ _))
 refine (List.merge_perm_append _).trans ?_
 rw [← Z1ng h0 h1 h2]
 exact (Z6e _ _ _).append (Z6e _ _ _)
theorem Z1in (bed:List Nat) (x y:Int):Z41 (bed.getD x.toNat 0) (bed.getD y.toNat 0)=true↔keyB bed y<keyB bed x:=by
 unfold Z41 keyB Z12 ordF cmpI
 rw [decide_eq_true_eq]
 split
 ·constructor <;> intro _ <;> omega
 ·split <;> constructor <;> intro _ <;> omega
theorem Z9v {l:List Int} {i:Nat} (h:i<l.length):l.drop i=at0 l i :: l.drop (i+1):=by
 rw [Zhs h]; exact List.drop_eq_getElem_cons h
theorem Z1s1 {bed:List Nat} {l r:List Int} {i j:Nat} (h:i<l.length) (hj:j=r.length∨(j<r.length∧keyB bed (at0 l i)≤keyB bed (at0 r j))):mrgL bed (l.drop i) (r.drop j)=at0 l i :: mrgL bed (l.drop (i+1)) (r.drop j):=by
 unfold mrgL
 rcases hj with rfl | ⟨h2,h3⟩
 ·rw [List.drop_length,Z9v h]; simp
 ·rw [Z9v h,Z9v h2,List.cons_merge_cons,if_pos (decide_eq_true h3)]
theorem Z1q3 {bed:List Nat} {l r:List Int} {i j:Nat} (h:j<r.length) (hi:i=l.length∨(i<l.length∧¬ keyB bed (at0 l i)≤keyB bed (at0 r j))):mrgL bed (l.drop i) (r.drop j)=at0 r j :: mrgL bed (l.drop i) (r.drop (j+1)):=by
 unfold mrgL
 rcases hi with rfl | ⟨h2,h3⟩
 ·rw [List.drop_length,Z9v h]; simp
 ·rw [Z9v h2,Z9v h,List.cons_merge_cons,if_neg (by rw [decide_eq_true_eq]; exact h3)]
theorem Z1uo {n:Nat} {l:List Int} (hl:l.length=n) (h:∀ j,j<n→at0 l j=j):l=seg 0 n:=by
 refine Zo7 (by rw [Z1af,hl]; simp) fun i hi=>?_
 rw [h i (by omega)]
 unfold at0 seg
 rw [List.getD_eq_getElem?_getD,List.getElem?_map,List.getElem?_range' (by simp; omega)]
 simp
theorem Z1nh {bed:List Nat} {xs ys:List Int} {n:Nat} (hx:xs=seg 0 n) (h1:Rr (keyB bed) 0 xs.length xs ys) (h2:Sgm (keyB bed) ys 0 xs.length):ys=Z1y bed 0 n:=by
 subst hx
 have st:Stb (keyB bed) (seg 0 n):=fun i j hij hj _=>by
  have e:∀ k,k<n→at0 (seg 0 n) k=k:=fun k hk=>by
   unfold at0 seg
   rw [List.getD_eq_getElem?_getD,List.getElem?_map,List.getElem?_range' (by omega)]
   simp
  rw [Z1af] at hj
  rw [e i (by omega),e j (by omega)]
  omega
 refine Z67 h1.perm (List.pairwise_iff_getElem.2 fun i j hi hj hij=>?_)
 rw [← Zhs hi,← Zhs hj,Zhv]
 have a:=h2 i j (by omega) hij (by rw [← h1.len]; exact hj)
 have b:=h1.st st i j hij hj
 omega
end Go.Lift

namespace Go.Lift
section
variable {n:Int} {ar:Ar} (A:ArOk n ar)
include A
variable {f:List Int} {gv:Nat→List Int} {all:List Int} (hL:Z1if n ar f gv (4*Zb n) all)
 (hg:∀ c:Nat,(c:Int)<Zb n→∀ o:Nat,o<4→0≤(gv c).getD o 0∧(0<(gv c).getD o 0→0<outN ar f c o))
include hL hg
end
end Go.Lift

namespace Go.Lift
section
variable {n:Int} {ar:Ar} (A:ArOk n ar) {f:List Int} {gv:Nat→List Int} {all:List Int} (hL:Z1if n ar f gv (4*Zb n) all)
 (hg:∀ c:Nat,(c:Int)<Zb n→∀ o:Nat,o<4→0≤(gv c).getD o 0∧(0<(gv c).getD o 0→0<outN ar f c o))
include A hL hg
end
section
variable {n:Int} {ar:Ar} (A:ArOk n ar) {f:List Int} {gv:Nat→List Int} {all:List Int} (hL:Z1if n ar f gv (4*Zb n) all)
 (hg:∀ c:Nat,(c:Int)<Zb n→∀ o:Nat,o<4→0≤(gv c).getD o 0∧(0<(gv c).getD o 0→0<outN ar f c o))
include A hL hg
end
end Go.Lift

namespace Go.Lift
section
variable {N:Int} {w F:List Int} (lw:(w.length:Int)=Zb N) (lF:(F.length:Int)=(netE N).1.length) (hw:∀ x ∈ w,0≤x) (hF:∀ x ∈ F,Z169 x=true)
include lw lF hw hF
section
variable {h:List Int} (lh:(h.length:Int)=Zb N) (hh:∀ x ∈ h,0≤x∧x≤9223372036854775807) (hok:∀ c:Nat,(c:Int)<Zb N→okTo (w.getD c 0) (Z1sm (Zcb (some (netG N))) F c) (Z1sm (Zcb (some (netG N))) F c).length)
include lh hh hok
end
end
end Go.Lift

namespace Go.Lift
theorem Zr9 (s x:Int) (l:List Int):Z1l s (x :: l)=if x<0∨x > 4503599627370496 - s then false else Z1l (s+x) l:=rfl
theorem Z1ty (bed:List Nat) (x y:Int):ordF (Z16 (bed.getD x.toNat 0)) (Z16 (bed.getD y.toNat 0))=cmpI (Z12 bed x) (Z12 bed y):=rfl
theorem Z1ag {x y:Int}:cmpI x y<0↔x<y:=by
 unfold cmpI; split
 ·exact ⟨fun _=>by assumption,fun _=>by decide⟩
 ·split
  ·exact ⟨fun h=>by omega,fun h=>by omega⟩
  ·exact ⟨fun h=>by omega,fun h=>by omega⟩
theorem Z1lq {x y:Int}:cmpI x y > 0↔x > y:=by
 unfold cmpI; split
 ·exact ⟨fun h=>by omega,fun h=>by omega⟩
 ·split
  ·exact ⟨fun _=>by assumption,fun _=>by decide⟩
  ·exact ⟨fun h=>by omega,fun h=>by omega⟩
theorem Z1lr {x y:Int}:cmpI x y=0↔x=y:=by
 unfold cmpI; split
 ·exact ⟨fun h=>by omega,fun h=>by omega⟩
 ·split
  ·exact ⟨fun h=>by omega,fun h=>by omega⟩
  ·exact ⟨fun h=>by omega,fun h=>by omega⟩
theorem Z9w (bed:List Nat) (x y:Int):Z41 (bed.getD x.toNat 0) (bed.getD y.toNat 0)=true↔Z12 bed x<Z12 bed y:=by
 unfold Z41; rw [decide_eq_true_eq,Z1ty,Z1ag]
theorem Zao {bed:List Nat} {best to:Int} (h:0≤best) (h2:Z12 bed best<Z12 bed to∨(Z12 bed to=Z12 bed best∧best≤to)):Zkx bed best to=best:=by
 unfold Zkx; rw [if_neg (by omega)]
theorem Z5q {bed:List Nat} {best to:Int} (h2:best<0∨Z12 bed to<Z12 bed best∨(Z12 bed to=Z12 bed best∧to≤best)):Zkx bed best to=to:=by
 unfold Zkx
 by_cases q:best<0∨Z12 bed to<Z12 bed best∨(Z12 bed to=Z12 bed best∧to<best)
 ·rw [if_pos q]
 ·rw [if_neg q]; omega
theorem Z9x {cells n:Int} {bed:List Nat} {c:Int} (h:(bed.length:Int)≠cells∨c<0∨(bed.length:Int)≤c):Z1z true cells n bed c=-1:=by
 unfold Z1z; rw [if_pos (.inr h)]
theorem Zra {cells n:Int} {bed:List Nat} {c:Int} (h1:(bed.length:Int)=cells) (h2:0≤c) (h3:c<(bed.length:Int)):Z1z true cells n bed c=Z4t n bed c:=by
 unfold Z1z; rw [if_neg (by simp; omega)]
theorem Z7e {n c:Int} {k:Nat} (hp:Zl n c=true) (hk:k<4):0≤(Z7 n c k).1∧(Z7 n c k).1<Zb n:=by
 obtain ⟨b1,_⟩:=Z4m (Z15.2 ⟨hp,(by omega:(0:Int)≤k),(by omega:(k:Int)<4)⟩)
 exact Z2d b1
theorem Zdz {n c:Int} {bed:List Nat} (hp:Zl n c=true):∀ k:Nat,k≤4→-1≤Z10 n bed c k∧Z10 n bed c k<Zb n∧(0<k→∃ j,j<k∧Z10 n bed c k=(Z7 n c j).1) ∧
  ∀ j,j<k→Z12 bed (Z10 n bed c k)<Z12 bed (Z7 n c j).1∨(Z12 bed (Z10 n bed c k)=Z12 bed (Z7 n c j).1∧Z10 n bed c k≤(Z7 n c j).1)
 | 0,_=>⟨by show (-1:Int)≤-1; decide,by have:=Z2d hp; show (-1:Int)<_; omega,fun h=>by omega,fun j h=>by omega⟩
 | k+1,hk=>by
  obtain ⟨i1,i2,i3,i4⟩:=Zdz (bed:=bed) hp k (by omega)
  obtain ⟨t1,t2⟩:=Z7e hp (k:=k) (by omega)
  have e:Z10 n bed c (k+1)=Zkx bed (Z10 n bed c k) (Z7 n c k).1:=rfl
  by_cases q:Z10 n bed c k<0∨Z12 bed (Z7 n c k).1<Z12 bed (Z10 n bed c k)∨(Z12 bed (Z7 n c k).1=Z12 bed (Z10 n bed c k)∧(Z7 n c k).1≤Z10 n bed c k)
  ·rw [e,Z5q q]
   refine ⟨by omega,t2,fun _=>⟨k,by omega,rfl⟩,fun j hj=>?_⟩
   by_cases ej:j=k
   ·subst ej; exact .inr ⟨rfl,Int.le_refl _⟩
   ·have:=i4 j (by omega)
    rcases q with q | q | q
    ·obtain ⟨j0,g1,g2⟩:=i3 (by omega)
     have:=(Z7e hp (k:=j0) (by omega)).1
     omega
    ·omega
    ·omega
  ·rw [e,Zao (by omega) (by omega)]
   refine ⟨i1,i2,fun _=>?_,fun j hj=>?_⟩
   ·rcases Nat.eq_zero_or_pos k with z | z
    ·subst z
     exact absurd (.inl (show (-1:Int)<0 by decide)) q
    ·obtain ⟨j0,g1,g2⟩:=i3 z
     exact ⟨j0,by omega,g2⟩
   ·by_cases ej:j=k
    ·subst ej; omega
    ·exact i4 j (by omega)
theorem Z1ni {n c:Int} {bed:List Nat} (hp:Zl n c=true):0≤Z10 n bed c 4∧Z10 n bed c 4<Zb n:=by
 obtain ⟨i1,i2,i3,i4⟩:=Zdz (bed:=bed) hp 4 (by omega)
 obtain ⟨j0,g1,g2⟩:=i3 (by omega)
 have:=(Z7e hp (k:=j0) (by omega)).1
 exact ⟨by omega,i2⟩
theorem Z1e6 {n c:Int} {bed:List Nat} (hp:Zl n c=true):Z4t n bed c=-1∨(0≤Z4t n bed c∧Z4t n bed c<Zb n∧Z12 bed (Z4t n bed c)<Z12 bed c∧Z4t n bed c=Z10 n bed c 4):=by
 unfold Z4t
 split
 ·have:=Z1ni (bed:=bed) hp
  exact .inr ⟨this.1,this.2,by assumption,rfl⟩
 ·exact .inl rfl
theorem Z1tz {n c:Int} {o:Nat} (ok:Zr n c o=true):∃ q:Nat,q<(netE n).1.length∧(Zcb (some (netG n)) c o).1=q∧(Z8y (some (netG n)) q).1+(Z8y (some (netG n)) q).2.2.1=c+(Z7 n c o).1:=by
 obtain ⟨q,hq,h1,h2,h3⟩:=Z1n9 ok
 refine ⟨q,hq,by rw [h1],?_⟩
 have e:Z8y (some (netG n)) q=(netE n).1.getD q dEd:=by
  unfold Z8y
  show (if (0:Int)≤q∧(q:Int)<((netE n).1.length:Nat) then (netE n).1.getD (q:Int).toNat dEd else dEd)=_
  rw [if_pos ⟨by omega,by omega⟩,Int.toNat_natCast]
 rw [e,List.getD_eq_getElem?_getD]
 rcases h3 with ⟨_,h3⟩ | ⟨_,h3⟩ <;> rw [h3]
 ·rfl
 ·show (Z7 n c o).1+c=_
  omega
end Go.Lift

namespace Go.Lift
theorem Z1ah:∀ (l:List Int) (i:Nat) (v:Int),i<l.length→(l.set i v).sum=l.sum - at0 l i+v
 | [],i,v,h=>by simp at h
 | x :: l,0,v,h=>by
  rw [List.set_cons_zero,List.sum_cons,List.sum_cons]
  show v+l.sum=x+l.sum - x+v
  omega
 | x :: l,i+1,v,h=>by
  rw [List.set_cons_succ,List.sum_cons,List.sum_cons,Z1ah l i v (by simpa using h)]
  show x+(l.sum - at0 l i+v)=x+l.sum - at0 l i+v
  omega
theorem Z1ls:∀ {l:List Int},(∀ x ∈ l,0≤x)→0≤l.sum∧∀ x ∈ l,x≤l.sum
 | [],_=>⟨by simp,fun x h=>by cases h⟩
 | y :: l,h=>by
  obtain ⟨a,b⟩:=Z1ls fun x hx=>h x (List.mem_cons_of_mem _ hx)
  have hy:=h y List.mem_cons_self
  rw [List.sum_cons]
  refine ⟨by omega,fun x hx=>?_⟩
  rcases List.mem_cons.1 hx with rfl | hx
  ·omega
  ·have:=b x hx; omega
theorem Zap:∀ {l:List Int} {s:Int},Z1l s l=true→s≤4503599627370496→(∀ x ∈ l,0≤x)∧s+l.sum≤4503599627370496
 | [],s,_,hs=>⟨fun x h=>(by cases h),by simpa using hs⟩
 | y :: l,s,h,hs=>by
  rw [Zr9] at h
  by_cases q:y<0∨y > 4503599627370496 - s
  ·rw [if_pos q] at h; cases h
  ·rw [if_neg q] at h
   obtain ⟨a,b⟩:=Zap h (by omega)
   rw [List.sum_cons]
   refine ⟨fun x hx=>?_,by omega⟩
   rcases List.mem_cons.1 hx with rfl | hx
   ·omega
   ·exact a x hx
structure Pool (n:Nat) (T:Int) (l:List Int):Prop where
 len:l.length=n
 nn:∀ x ∈ l,0≤x
 sum:l.sum=T
theorem Pool.at {n:Nat} {T:Int} {l:List Int} (h:Pool n T l) {i:Nat} (hi:i<n):0≤at0 l i∧at0 l i≤T:=by
 have:=h.len
 have m:=Z84 (xs:=l) (p:=i) (by omega)
 exact ⟨h.nn _ m,by rw [← h.sum]; exact (Z1ls h.nn).2 _ m⟩
theorem Pool.mv {n:Nat} {T:Int} {l:List Int} (h:Pool n T l) {i j d:Int} (i0:0≤i) (i1:i<n) (j0:0≤j) (j1:j<n) (d0:0≤d) (d1:d≤l.getD i.toNat 0) :
  Pool n T (mvL l i j d)∧0≤l.getD i.toNat 0 - d∧l.getD i.toNat 0 - d≤T∧0≤(l.set i.toNat (l.getD i.toNat 0 - d)).getD j.toNat 0+d∧(l.set i.toNat (l.getD i.toNat 0 - d)).getD j.toNat 0+d≤T:=by
 have hl:=h.len
 have hi:=h.at (i:=i.toNat) (by omega)
 have hi:0≤l.getD i.toNat 0∧l.getD i.toNat 0≤T:=hi
 have nn1:∀ x ∈ l.set i.toNat (l.getD i.toNat 0 - d),0≤x:=fun x hx=>by
  rcases List.mem_or_eq_of_mem_set hx with hx | rfl
  ·exact h.nn x hx
  ·omega
 have l1:(l.set i.toNat (l.getD i.toNat 0 - d)).length=n:=by rw [List.length_set]; exact hl
 have v0:=nn1 _ (Z39 (l:=l.set i.toNat (l.getD i.toNat 0 - d)) (i:=j.toNat) (by omega) 0)
 have P:Pool n T (mvL l i j d):=by
  refine ⟨by unfold mvL; rw [List.length_set]; exact l1,fun x hx=>?_,?_⟩
  ·unfold mvL at hx
   rcases List.mem_or_eq_of_mem_set hx with hx | rfl
   ·exact nn1 x hx
   ·omega
  ·unfold mvL
   rw [Z1ah _ _ _ (by omega),Z1ah _ _ _ (by omega),h.sum]
   show T - at0 l i.toNat+(at0 l i.toNat - d) - _+(_+d)=T
   unfold at0
   omega
 have hj:=P.at (i:=j.toNat) (by omega)
 have e:at0 (mvL l i j d) j.toNat=(l.set i.toNat (l.getD i.toNat 0 - d)).getD j.toNat 0+d:=by
  unfold mvL; rw [Z9t (by omega),if_pos rfl]
 rw [e] at hj
 exact ⟨P,by omega,by omega,hj.1,hj.2⟩
theorem Zy8 {a b c:Int} (ha:0≤a) (hb:0≤b) (hbc:b≤c) (hc:1≤c):0≤part a b c∧part a b c≤a:=by
 refine ⟨(Z1mz a b c).1,?_⟩
 have k:a*b / c≤a:=by
  refine Int.ediv_le_of_le_mul (by omega) ?_
  exact Int.mul_le_mul_of_nonneg_left hbc ha
 unfold part
 rw [if_neg (by omega),if_neg (by omega),if_neg (by omega)]
 split <;> omega
theorem Zrb {n:Nat} {W T:Int} {area down:Int→Int} {st:List Int × List Int} {c:Int} (h1:Pool n W st.1) (h2:Pool n T st.2) (c0:0≤c) (c1:c<n) (hd:down c<0∨(0≤down c∧down c<n)) :
  Pool n W (Z2t area down st c).1∧Pool n T (Z2t area down st c).2:=by
 unfold Z2t
 split
 ·exact ⟨h1,h2⟩
 ·rename_i q
  have a1:=h2.at (i:=c.toNat) (by omega)
  have a1:0≤st.2.getD c.toNat 0∧_:=a1
  have p:=Zy8 (a:=st.2.getD c.toNat 0) (b:=st.1.getD c.toNat 0 / 4) (c:=st.1.getD c.toNat 0) a1.1 (by omega) (by omega) (by omega)
  exact ⟨(h1.mv c0 c1 (by omega) (by omega) (by omega) (by omega)).1,(h2.mv c0 c1 (by omega) (by omega) p.1 p.2).1⟩
theorem Z1ai {n:Nat} {W T:Int} {area down:Int→Int} (hd:∀ c:Int,0≤c→c<(n:Int)→down c<0∨(0≤down c∧down c<(n:Int))):∀ (order:List Int) {st:List Int × List Int},(∀ c ∈ order,0≤c∧c<(n:Int))→Pool n W st.1→Pool n T st.2 →
  Pool n W (runA area down order st).1∧Pool n T (runA area down order st).2
 | [],st,_,h1,h2=>⟨h1,h2⟩
 | c :: l,st,hc,h1,h2=>by
  have h0:=hc c List.mem_cons_self
  obtain ⟨a,b⟩:=Zrb (area:=area) h1 h2 h0.1 h0.2 (hd c h0.1 h0.2)
  exact Z1ai hd l (fun x hx=>hc x (List.mem_cons_of_mem _ hx)) a b
theorem Z1e7 {area down:Int→Int} {order:List Int} {st:List Int × List Int} {k:Nat} (hk:k<order.length):runA area down (order.take (k+1)) st=Z2t area down (runA area down (order.take k) st) (at0 order k):=by
 unfold runA
 have e:order.take (k+1)=order.take k++[at0 order k]:=by rw [Zhs hk,List.take_append_getElem hk]
 rw [e,List.foldl_append]; rfl
theorem Z1io {n m:Int} {area down:Int→Int} {s:SeaT} (h:((Z42 n m s&&Z1l 0 s.2.1)&&Z1l 0 s.2.2.1)=false):runF true n m area down s=([],[],1,()):=by
 unfold runF; rw [if_neg (by decide),h]; rfl
theorem Zvg {n m:Int} {area down:Int→Int} {s:SeaT} (h1:Z42 n m s=true) (h2:Z1l 0 s.2.1=true) (h3:Z1l 0 s.2.2.1=true):runF true n m area down s=((runA area down (ordL s.1) (s.2.1,s.2.2.1)).1,(runA area down (ordL s.1) (s.2.1,s.2.2.1)).2,0,()):=by
 unfold runF; rw [if_neg (by decide),h1,h2,h3]; rfl
theorem Zky {n m:Int} {s:SeaT}:Z42 n m s=true↔(s.1.length:Int)=n∧(s.2.1.length:Int)=n∧(s.2.2.1.length:Int)=n∧(s.2.2.2.1.length:Int)=m:=by
 unfold Z42
 simp only [Bool.and_eq_true,decide_eq_true_eq,and_assoc]
theorem Z1e8 {n:Int} {bed:List Nat} (hb:(bed.length:Int)=Zb n) (c:Int) (c0:0≤c) (c1:c<(bed.length:Int)):Z1z true (Zb n) n bed c<0∨(0≤Z1z true (Zb n) n bed c∧Z1z true (Zb n) n bed c<(bed.length:Int)):=by
 rw [Zra hb c0 c1]
 have hp:Zl n c=true:=by
  obtain ⟨k,rfl⟩:∃ k:Nat,c=k:=⟨c.toNat,by omega⟩
  exact Zer (by omega)
 rcases Z1e6 (bed:=bed) hp with q | ⟨q1,q2,_⟩
 ·exact .inl (by omega)
 ·exact .inr ⟨q1,by omega⟩
theorem Z1q4 {n c:Int} (c0:0≤c) (c1:c<Zb n):Zr1 (some (netG n)) c=Zx n c:=by
 have hl:(Zaf n).length=(Zb n).toNat:=by unfold Zaf; rw [List.length_map,List.length_range]
 show (if 0≤c∧c<((Zaf n).length:Nat) then (Zaf n).getD c.toNat 0 else 0)=_
 rw [if_pos ⟨c0,by omega⟩]
 unfold Zaf
 rw [List.getD_eq_getElem?_getD,List.getElem?_map,List.getElem?_range (by omega)]
 show Zx n ((c.toNat:Nat):Int)=_
 rw [show ((c.toNat:Nat):Int)=c by omega]
end Go.Lift

namespace Go.Lift
theorem Z1q5 {l:List Int} {i j d:Int} {k:Nat} (hi:i.toNat<l.length) (hj:j.toNat<l.length) (hij:i.toNat≠j.toNat):at0 (mvL l i j d) k=if k=j.toNat then at0 l k+d else if k=i.toNat then at0 l k - d else at0 l k:=by
 have e1:(l.set i.toNat (l.getD i.toNat 0 - d)).getD j.toNat 0=at0 l j.toNat:=by
  show at0 (l.set i.toNat (l.getD i.toNat 0 - d)) j.toNat=_
  rw [Z9t hi,if_neg (fun q=>hij q.symm)]
 unfold mvL
 rw [e1,Z9t (by rw [List.length_set]; exact hj)]
 by_cases q:k=j.toNat
 ·rw [if_pos q,if_pos q,q]
 ·rw [if_neg q,if_neg q,Z9t hi]
  by_cases q2:k=i.toNat
  ·rw [if_pos q2,if_pos q2,q2]; try rfl
  ·rw [if_neg q2,if_neg q2]
def Z9y (n:Nat) (down:Int→Int):Prop:=∀ c:Int,0≤c→c<(n:Int)→down c<0∨(0≤down c∧down c<(n:Int)∧down c≠c)
theorem Z9y.weak {n:Nat} {down:Int→Int} (h:Z9y n down):∀ c:Int,0≤c→c<(n:Int)→down c<0∨(0≤down c∧down c<(n:Int)):=fun c a b=>(h c a b).imp id fun q=>⟨q.1,q.2.1⟩
theorem Z16h {n:Nat} {W T:Int} {area down:Int→Int} {st:List Int × List Int} {c:Int} (h1:Pool n W st.1) (h2:Pool n T st.2) (c0:0≤c) (c1:c<n) (hd:Z9y n down) (k:Nat) :
  (k≠c.toNat∨down c<0→at0 st.1 k≤at0 (Z2t area down st c).1 k∧at0 st.2 k≤at0 (Z2t area down st c).2 k)∧(k=c.toNat→at0 st.1 k - at0 st.1 k / 4≤at0 (Z2t area down st c).1 k):=by
 have hn:=h1.len
 have hn2:=h2.len
 unfold Z2t
 split
 ·refine ⟨fun _=>⟨Int.le_refl _,Int.le_refl _⟩,fun q=>?_⟩
  have:=(h1.at (i:=k) (by omega)).1
  omega
 ·rename_i q
  obtain ⟨d0,d1,d2⟩:=(hd c c0 c1).resolve_left fun z=>q (.inl z)
  have a1:=h2.at (i:=c.toNat) (by omega)
  have a1:0≤st.2.getD c.toNat 0∧_:=a1
  have p:=Zy8 (a:=st.2.getD c.toNat 0) (b:=st.1.getD c.toNat 0 / 4) (c:=st.1.getD c.toNat 0) a1.1 (by omega) (by omega) (by omega)
  have g0:0<st.1.getD c.toNat 0:=by omega
  have ne:c.toNat≠(down c).toNat:=by omega
  have e:st.1.getD c.toNat 0=at0 st.1 c.toNat:=rfl
  dsimp only
  rw [Z1q5 (by omega) (by omega) ne,Z1q5 (by omega) (by omega) ne]
  refine ⟨fun z=>?_,fun z=>?_⟩
  ·have z:k≠c.toNat:=z.resolve_right (by omega)
   rw [if_neg z,if_neg z]
   constructor <;> split <;> omega
  ·subst z
   rw [if_neg ne,if_pos rfl,e]
   omega
theorem Zvh {n:Nat} {W T:Int} {area down:Int→Int} (hd:Z9y n down) (k:Nat):∀ (order:List Int) {st:List Int × List Int},(∀ c ∈ order,0≤c∧c<(n:Int))→(∀ c ∈ order,k≠c.toNat∨down c<0)→Pool n W st.1→Pool n T st.2 →
  at0 st.1 k≤at0 (runA area down order st).1 k∧at0 st.2 k≤at0 (runA area down order st).2 k
 | [],st,_,_,_,_=>⟨Int.le_refl _,Int.le_refl _⟩
 | c :: l,st,hc,hk,h1,h2=>by
  have h0:=hc c List.mem_cons_self
  obtain ⟨a,b⟩:=Zrb (area:=area) h1 h2 h0.1 h0.2 (hd.weak c h0.1 h0.2)
  obtain ⟨i1,i2⟩:=Zvh hd k l (fun x hx=>hc x (List.mem_cons_of_mem _ hx)) (fun x hx=>hk x (List.mem_cons_of_mem _ hx)) a b
  obtain ⟨j1,j2⟩:=(Z16h (area:=area) h1 h2 h0.1 h0.2 hd k).1 (hk c List.mem_cons_self)
  exact ⟨Int.le_trans j1 i1,Int.le_trans j2 i2⟩
theorem Z1e9 {n:Nat} {W T:Int} {area down:Int→Int} (hd:Z9y n down) (k:Nat) (hkn:k<n):∀ (order:List Int) {st:List Int × List Int},(∀ c ∈ order,0≤c∧c<(n:Int))→order.Nodup→Pool n W st.1→Pool n T st.2 →
  at0 st.1 k - at0 st.1 k / 4≤at0 (runA area down order st).1 k
 | [],st,_,_,h1,h2=>by
  have:=(h1.at hkn).1
  show at0 st.1 k - at0 st.1 k / 4≤at0 st.1 k
  omega
 | c :: l,st,hc,hk,h1,h2=>by
  have h0:=hc c List.mem_cons_self
  obtain ⟨a,b⟩:=Zrb (area:=area) h1 h2 h0.1 h0.2 (hd.weak c h0.1 h0.2)
  obtain ⟨j1,j2⟩:=Z16h (area:=area) h1 h2 h0.1 h0.2 hd k
  have hcl:=fun x hx=>hc x (List.mem_cons_of_mem _ hx)
  obtain ⟨n1,n2⟩:=List.nodup_cons.1 hk
  by_cases q:k=c.toNat
  ·have:=(Zvh (area:=area) hd k l hcl (fun x hx=>.inl fun z=>n1 (by have:=(hcl x hx).1; rw [show c=x by omega]; exact hx)) a b).1
   exact Int.le_trans (j2 q) this
  ·have i1:=Z1e9 (area:=area) hd k hkn l hcl n2 a b
   have:=(j1 (.inl q)).1
   refine Int.le_trans ?_ i1
   omega
theorem Z1q6 (a b:Int):(seg a b).Nodup:=by
 unfold seg
 refine List.pairwise_map.2 ((List.nodup_range' (s:=a.toNat) (n:=b.toNat - a.toNat)).imp fun h q=>h ?_)
 exact Int.ofNat_inj.1 q
theorem Z1q7 (bed:List Nat):(ordL bed).Nodup:=(Z6e bed 0 bed.length).nodup_iff.2 (Z1q6 _ _)
theorem Z1aj {bed:List Nat} {x:Int} (h:x ∈ ordL bed):0≤x∧x<(bed.length:Int):=by
 have:=Z5p h
 omega
theorem Z1q8 {n:Int} {bed:List Nat} (hb:(bed.length:Int)=Zb n):Z9y bed.length (Z1z true (Zb n) n bed):=fun c c0 c1=>by
 rw [Zra hb c0 c1]
 have hp:Zl n c=true:=by
  obtain ⟨k,rfl⟩:∃ k:Nat,c=k:=⟨c.toNat,by omega⟩
  exact Zer (by omega)
 rcases Z1e6 (bed:=bed) hp with q | ⟨q1,q2,q3,_⟩
 ·exact .inl (by omega)
 ·exact .inr ⟨q1,by omega,fun e=>by rw [e] at q3; omega⟩
end Go.Lift

namespace Go.Lift
open Go
theorem BLs.app {a b:List Int} (ha:BLs a) (hb:BLs b):BLs (a++b):=fun x h=>(List.mem_append.1 h).elim (ha x) (hb x)
theorem BLs.take {a:List Int} (ha:BLs a) (n:Nat):BLs (a.take n):=fun x h=>ha x (List.mem_of_mem_take h)
theorem BLs.drop {a:List Int} (ha:BLs a) (n:Nat):BLs (a.drop n):=fun x h=>ha x (List.mem_of_mem_drop h)
end Go.Lift

namespace Go.Lift
open Go
theorem Z1s2 {α:Type} {l:List α} {k n:Nat} (hl:l.length=k) (hk:k<n) (z v:α):(l++List.replicate (n - k) z).set (0+k) v=l++[v]++List.replicate (n - (k+1)) z:=by
 obtain ⟨m,hm⟩:∃ m,n - k=m+1:=⟨n - k - 1,by omega⟩
 rw [hm,show n - (k+1)=m by omega,List.replicate_succ,Nat.zero_add,Z1lf hl,List.append_assoc]
 rfl
end Go.Lift

namespace Go.Lift
open Go
end Go.Lift

namespace Go.Lift
open Go
end Go.Lift

namespace Go.Lift
open Go
def Zrc (g:Option Gr) (c:Nat):Int:=if c=1 then iw (2*Zr1 g c) else Zr1 g c
theorem Z1q9 {l:List Int} {k:Nat} (hl:l.length=k) (a:Int) (r:List Int):(l++[a]++r).set (0+k) (i64.wrap (2*(l++[a]++r).getD (0+k) 0))=l++[iw (2*a)]++r:=by
 rw [Nat.zero_add,List.append_assoc,List.append_assoc]
 show (l++a :: r).set k (i64.wrap (2*(l++a :: r).getD k 0))=l++iw (2*a) :: r
 rw [Z1lf hl]
 have:(l++a :: r).getD k 0=a:=by
  rw [List.getD_eq_getElem?_getD,List.getElem?_append_right (by omega),hl,Nat.sub_self]; rfl
 rw [this]; rfl
theorem new1:newR 1=(some (netG 1),0,()):=by unfold newR; rw [if_neg (by decide)]
end Go.Lift

namespace Go.Lift
def Z4u:List Nat:=[4617315517961601024,4616189618054758400,4613937818241073152,4611686018427387904,4607182418800017408,0]
theorem Z1s3:ordL Z4u=[0,1,2,3,4,5]:=(Z67 (by decide +kernel) (by decide +kernel)).symm
theorem Z1qa:ordL [4607182418800017408,4613937818241073152,4611686018427387904,4613937818241073152]=[1,3,2,0]:=(Z67 (by decide +kernel) (by decide +kernel)).symm
def Z1nj:SeaT:=(Z4u,[100,0,0,0,0,0],[10,0,0,0,0,0],[0,0,0,0,0,0,0,0,0,0,0,0],0,0)
theorem Z1qb:runA (Zx 1) (Z1z true 6 1 Z4u) [0,1,2,3,4,5] ([100,0,0,0,0,0],[10,0,0,0,0,0])=([75,0,0,0,0,25],[8,0,0,0,0,2]):=by decide +kernel
theorem Zhi:Z65 (some (netG 1))=6:=by rw [Z5n]; decide
theorem Z16i:Zo3 (some (netG 1))=12:=by decide +kernel
theorem Z1s4:Z4h (some (netG 1)) Z1nj=([75,0,0,0,0,25],[8,0,0,0,0,2],0,()):=by
 show runF true (Z65 (some (netG 1))) (Zo3 (some (netG 1))) (Zx 1) (Z1z true (Z65 (some (netG 1))) 1 Z1nj.1) Z1nj=_
 rw [Zhi,Z16i,Zvg (by decide) (by decide) (by decide)]
 show ((runA (Zx 1) (Z1z true 6 1 Z4u) (ordL Z4u) ([100,0,0,0,0,0],[10,0,0,0,0,0])).1,(runA (Zx 1) (Z1z true 6 1 Z4u) (ordL Z4u) ([100,0,0,0,0,0],[10,0,0,0,0,0])).2,0,())=_
 rw [Z1s3,Z1qb]
theorem Z1nk:Z47 (some (netG 1)) Z4u 0=(5,()):=by
 show r1 (Z1z true (Z65 (some (netG 1))) 1 Z4u 0)=_
 rw [Zhi]; decide +kernel
theorem Z1nl:Z47 (some (netG 1)) Z4u 5=(-1,()):=by
 show r1 (Z1z true (Z65 (some (netG 1))) 1 Z4u 5)=_
 rw [Zhi]; decide +kernel
def Zy9:Nat→List Int
 | 0=>[1431655765,2863311530,1431655765,1431655765,1431655765,1431655765]
 | k+1=>(Zy9 k).set k 0
def Z1gq:Nat→List Nat
 | 0=>[0,0,0,0,0,0]
 | k+1=>(Z1gq k).set k (f64.nearest (5 - (k:Int)))
theorem Z1up:Z1gq 6=Z4u:=by decide +kernel
theorem Z1uq:(Zy9 6).set 0 100=[100,0,0,0,0,0]:=by decide
theorem Z1ak:AllW Z4u:=by unfold AllW W64 Z4u; decide
theorem Z1ur:(List.range 6).map (Zrc (some (netG 1)))=Zy9 0:=by decide +kernel
theorem Z1qc (n:Int):(Zb n=0∧newR n=(none,10,())∧Zaj n=(none,10,()))∨(Zb n≠0∧Z1i n=true∧newR n=(some (netG n),0,())∧Zaj n=(some (Z2n n),0,())):=by
 by_cases q:Zb n=0
 ·exact .inl ⟨q,by unfold newR; rw [if_pos q],by unfold Zaj; rw [if_pos q]⟩
 ·refine .inr ⟨q,?_,by unfold newR; rw [if_neg q],by unfold Zaj; rw [if_neg q]⟩
  unfold Zb at q
  by_cases g:Z1i n=true
  ·exact g
  ·exact absurd (if_neg g) q
theorem Z1s5 {n:Int} (g:Z1i n=true) (s:SeaT):Z4h (some (netG n)) s=Zdy (some (Z2n n)) s:=by
 have hE:Z1sk (some (netG n)) (some (Z2n n)):=.inr ⟨n,g,rfl,rfl⟩
 show runF true (Z65 (some (netG n))) (Zo3 (some (netG n))) (Zx n) (Z1z true (Z65 (some (netG n))) n s.1) s=runF true (Zb n) (Zvd (some (Z2n n))) (Zx n) (Z1z true (Zb n) n s.1) s
 rw [Z5n,Z1na hE]
structure Ran (n:Int) (s:SeaT) (w t:List Int):Prop where
 bed:(s.1.length:Int)=Zb n
 wat:s.2.1.length=s.1.length
 tra:s.2.2.1.length=s.1.length
 p1:Pool s.1.length s.2.1.sum s.2.1
 p2:Pool s.1.length s.2.2.1.sum s.2.2.1
 b1:s.2.1.sum≤4503599627370496
 b2:s.2.2.1.sum≤4503599627370496
 run:runA (Zx n) (Z1z true (Zb n) n s.1) (ordL s.1) (s.2.1,s.2.2.1)=(w,t)
 q1:Pool s.1.length s.2.1.sum w
 q2:Pool s.1.length s.2.2.1.sum t
theorem Ran.keep {n:Int} {s:SeaT} {w t:List Int} (h:Ran n s w t) {k:Nat} (hk:k<s.1.length) :
  at0 s.2.1 k - at0 s.2.1 k / 4≤at0 w k∧(Z1z true (Zb n) n s.1 k<0→at0 s.2.1 k≤at0 w k∧at0 s.2.2.1 k≤at0 t k):=by
 have he:=Z1q8 (n:=n) (bed:=s.1) h.bed
 constructor
 ·have:=Z1e9 (area:=Zx n) he k hk (ordL s.1) (st:=(s.2.1,s.2.2.1)) (fun c hc=>Z1aj hc) (Z1q7 _) h.p1 h.p2
  rw [h.run] at this; exact this
 ·intro hd
  have:=Zvh (area:=Zx n) he k (ordL s.1) (st:=(s.2.1,s.2.2.1)) (fun c hc=>Z1aj hc) (fun c hc=>by
   by_cases q:k=c.toNat
   ·right
    have:=(Z1aj hc).1
    rw [show c=(k:Int) by omega]; exact hd
   ·exact .inl q) h.p1 h.p2
  rw [h.run] at this; exact this
end Go.Lift

namespace Go.Lift
def Z7f:=fun (n:Int) (s:List Nat × List Int × List Int × List Nat × Int × Int) (post:Bool × Unit→Prop)=>∃ (h:True),∀ (a:Bool × Unit),a=yesR→∀
 (a_1:Bool),a_1=a.fst→Br (!a_1) (post (false,())) (∃ (h:WRun none (s.fst,s.snd.fst,s.snd.snd.fst,s.snd.snd.snd.fst,s.snd.snd.snd.snd.fst,
 s.snd.snd.snd.snd.snd)),∀ (a:List Int × List Int × Int × Unit),a=Z4h none (s.fst,s.snd.fst,s.snd.snd.fst,s.snd.snd.snd.fst,s.snd.snd.snd.snd.fst,
 s.snd.snd.snd.snd.snd)→∀ (a_2:Bool),a_2=((↑a.fst.length:Int) != (0:Int))→Br a_2 (post (false,())) (∀ (a_3:Bool),a_3=((↑a.snd.fst.length:Int) != (0 :
 Int))→Br a_3 (post (false,())) (∀ (a_4:Bool),a_4=(a.snd.snd.fst != (2:Int))→Br a_4 (post (false,())) (∃ (h:I64 n),∃ (h:I64 n),∀ (a:Option (Int ×
 List (Int × Int × Int × Int) × List Int) × Int × Unit),a=Zaj n→∀ (a_5:Bool),a_5=((newR n).snd.fst != a.snd.fst)→Br a_5 (∀ (a_6:Bool),a_6=((newR n).snd.fst ==
 a.snd.fst)→post (a_6,())) (∀ (a_6:Bool),a_6=(a.snd.fst != (0:Int))→Br a_6 (∀ (a_7:Bool),a_7=((newR n).snd.fst==a.snd.fst)→post (a_7,())) (∃ (h:WRun (newR
 n).fst (s.fst,s.snd.fst,s.snd.snd.fst,s.snd.snd.snd.fst,s.snd.snd.snd.snd.fst,s.snd.snd.snd.snd.snd)),∀ (a_7:List Int × List Int × Int × Unit),a_7=Z4h (newR n).fst
 (s.fst,s.snd.fst,s.snd.snd.fst,s.snd.snd.snd.fst,s.snd.snd.snd.snd.fst,s.snd.snd.snd.snd.snd)→∃ (h:Z16d a.fst (s.fst,s.snd.fst,s.snd.snd.fst,s.snd.snd.snd.fst,
 s.snd.snd.snd.snd.fst,s.snd.snd.snd.snd.snd)),∀ (a_8:List Int × List Int × Int × Unit),a_8=Zdy a.fst (s.fst,s.snd.fst,s.snd.snd.fst,s.snd.snd.snd.fst,
 s.snd.snd.snd.snd.fst,s.snd.snd.snd.snd.snd)→∀ (a:Bool),a=(a_7.snd.snd.fst==a_8.snd.snd.fst)→Br a (∃ (h:True),∀ (a:Bool × Unit),a=Zks (List.take
 a_7.fst.length (List.drop (0:Nat) a_7.fst)) (List.take a_8.fst.length (List.drop (0:Nat) a_8.fst))→∀ (a_9:Bool),a_9=a.fst→Br a_9 (∃ (h:True),∀ (a:Bool × Unit),a
 = Zks (List.take a_7.snd.fst.length (List.drop (0:Nat) a_7.snd.fst)) (List.take a_8.snd.fst.length (List.drop (0:Nat) a_8.snd.fst))→∀ (a_10:Bool),a_10=a.fst→post
 (a_10,())) (post (false,()))) (post (false,()))))))))
theorem Zvi (n:Int) (s:(List Nat) × (List Int) × (List Int) × (List Nat) × Int × Int) (h:Z1p9 n s) (w:KS.wf [.int .i64,kSea] (n,s,())):Z7f  n s (fun r=>r=yesS n s):=by
 obtain ⟨hn,hs⟩:=h
 have wr:∀ {g},NetP g→WRun g (s.1,s.2.1,s.2.2.1,s.2.2.2.1,s.2.2.2.2.1,s.2.2.2.2.2):=fun hg=>⟨hg,hs.1,hs.2.1,hs.2.2.1⟩
 have wrr:∀ {g},Zak g→Z16d g (s.1,s.2.1,s.2.2.1,s.2.2.2.1,s.2.2.2.2.1,s.2.2.2.2.2):=fun hg=>⟨hg,hs.1,hs.2.1,hs.2.2.1⟩
 have same:∀ l:List Int,(Zks l l).1=true:=fun l=>beq_self_eq_true l
 refine ⟨trivial,?_⟩
 rintro _ rfl
 rintro _ rfl
 refine Br.intro (fun e=>absurd e (by first | decide | simp)) fun _=>?_
 refine ⟨wr (.inl rfl),?_⟩
 rintro _ rfl
 have e0:Z4h none (s.1,s.2.1,s.2.2.1,s.2.2.2.1,s.2.2.2.2.1,s.2.2.2.2.2)=([],[],2,()):=rfl
 rw [e0]
 rintro _ rfl
 refine Br.intro (fun e=>absurd e (by first | decide | simp)) fun _=>?_
 rintro _ rfl
 refine Br.intro (fun e=>absurd e (by first | decide | simp)) fun _=>?_
 rintro _ rfl
 refine Br.intro (fun e=>absurd e (by first | decide | simp)) fun _=>?_
 refine ⟨hn,hn,?_⟩
 rintro _ rfl
 rcases Z1qc n with ⟨_,e1,e2⟩ | ⟨_,gn,e1,e2⟩
 ·rw [e1,e2]
  rintro _ rfl
  refine Br.intro (fun e=>absurd e (by decide)) fun _=>?_
  rintro _ rfl
  refine Br.intro (fun _=>?_) fun e=>absurd e (by decide)
  rintro _ rfl
  rfl
 rw [e1,e2]
 rintro _ rfl
 refine Br.intro (fun e=>absurd e (by first | decide | simp)) fun _=>?_
 rintro _ rfl
 refine Br.intro (fun e=>absurd e (by first | decide | simp)) fun _=>?_
 refine ⟨wr (.inr ⟨n,gn,rfl⟩),?_⟩
 rintro _ rfl
 refine ⟨wrr (.inr ⟨n,gn,rfl⟩),?_⟩
 rintro _ rfl
 have e3:Z4h (some (netG n)) (s.1,s.2.1,s.2.2.1,s.2.2.2.1,s.2.2.2.2.1,s.2.2.2.2.2)=Zdy (some (Z2n n)) (s.1,s.2.1,s.2.2.1,s.2.2.2.1,s.2.2.2.2.1,s.2.2.2.2.2):=Z1s5 gn s
 rw [e3]
 generalize Zdy (some (Z2n n)) (s.1,s.2.1,s.2.2.1,s.2.2.2.1,s.2.2.2.2.1,s.2.2.2.2.2)=R
 rintro _ rfl
 refine Br.intro (fun _=>?_) fun e=>by simp at e
 refine ⟨trivial,?_⟩
 rintro _ rfl
 rintro _ rfl
 rw [same]
 refine Br.intro (fun _=>?_) fun e=>absurd e (by decide)
 refine ⟨trivial,?_⟩
 rintro _ rfl
 rintro _ rfl
 rw [same]
 rfl
end Go.Lift

namespace Go.Lift
def Z85:=fun (ty39 ty59 ty2:Nat) (post:Bool × Unit→Prop)=>∃ (h:I64 (1:Int)),∀ (a:Bool),a=((newR (1:Int)).snd.fst != (0:Int))→Br a (post
 (false,())) (∃ (h:True),∀ (a:Bool),a=decide ((Zi (newR (1:Int)).fst).fst<(0:Int))→Br a (∀ (a:Bool),a=((0:Int) != (6:Int))→Br a (post
 (false,())) False) (∀ (a:Bool),a=decide ((Zi (newR (1:Int)).fst).fst > (6144:Int))→Br a (∀ (a:Bool),a=((0:Int) != (6:Int))→Br a (post (false,
 ())) False) (∃ (h:True),∀ (a:Bool),a=((Zc9 (newR (1:Int)).fst).fst != i64.wrap ((2:Int)*(Zi (newR (1:Int)).fst).fst))→Br a (∀ (a:Bool),a =
 ((0:Int) != (6:Int))→Br a (post (false,())) False) (∃ (h:(0:Int)≤(Zi (newR (1:Int)).fst).fst∧(Zi (newR (1:Int)).fst).fst≤(Zi (newR (1 :
 Int)).fst).fst∧(Zi (newR (1:Int)).fst).fst*(↑(8:Nat):Int)≤(281474976710656:Int)),∃ (h:(0:Int)≤(Zi (newR (1:Int)).fst).fst∧(Zi (newR (1 :
 Int)).fst).fst≤(Zi (newR (1:Int)).fst).fst∧(Zi (newR (1:Int)).fst).fst*(↑(8:Nat):Int)≤(281474976710656:Int)),∃ (h:(0:Int)≤(Zi (newR (1 :
 Int)).fst).fst∧(Zi (newR (1:Int)).fst).fst≤(Zi (newR (1:Int)).fst).fst∧(Zi (newR (1:Int)).fst).fst*(↑(8:Nat):Int)≤(281474976710656:Int)),∃ (h
 : (0:Int)≤i64.wrap ((2:Int)*(Zi (newR (1:Int)).fst).fst)∧i64.wrap ((2:Int)*(Zi (newR (1:Int)).fst).fst)≤i64.wrap ((2:Int) *
 (Zi (newR (1:Int)).fst).fst)∧i64.wrap ((2:Int)*(Zi (newR (1:Int)).fst).fst)*(↑(8:Nat):Int)≤(281474976710656:Int)),HIs [HObj.pend,HObj.box
 Md.rw ty39 [SV.val (Go.Value.slice none (0:Nat) (0:Nat)),SV.val (Go.Value.slice none (0:Nat) (0:Nat)),SV.val (Go.Value.slice none (0:Nat) (0 :
 Nat)),SV.val (Go.Value.slice none (0:Nat) (0:Nat)),SV.val (Go.Value.int i64 (0:Int)),SV.val (Go.Value.int i64 (0:Int))],HObj.row Md.rw ty59
 (K.flt f64) (List.replicate (Zi (newR (1:Int)).fst).fst.toNat (0:Nat)),HObj.row Md.rw ty2 (K.int i64) (List.replicate (Zi (newR (1 :
 Int)).fst).fst.toNat (0:Int)),HObj.row Md.rw ty2 (K.int i64) (List.replicate (Zi (newR (1:Int)).fst).fst.toNat (0:Int)),HObj.row Md.rw ty59 (K.flt
 f64) (List.replicate (i64.wrap ((2:Int)*(Zi (newR (1:Int)).fst).fst)).toNat (0:Nat)),HObj.box Md.rw ty39 [SV.osl (2:Nat) (0:Nat) (6:Nat),
 SV.osl (3:Nat) (0:Nat) (6:Nat),SV.osl (4:Nat) (0:Nat) (6:Nat),SV.osl (5:Nat) (0:Nat) (12:Nat),SV.val (Go.Value.int i64 (0:Int)),SV.val
 (Go.Value.int i64 (0:Int))]] [HObj.pend,HObj.box Md.rw ty39 [SV.val (Go.Value.slice none (0:Nat) (0:Nat)),SV.val (Go.Value.slice none (0:Nat) (0 :
 Nat)),SV.val (Go.Value.slice none (0:Nat) (0:Nat)),SV.val (Go.Value.slice none (0:Nat) (0:Nat)),SV.val (Go.Value.int i64 (0:Int)),SV.val
 (Go.Value.int i64 (0:Int))],HObj.row Md.rw ty59 (K.flt f64) (List.replicate (Zi (newR (1:Int)).fst).fst.toNat (0:Nat)),HObj.row Md.rw ty2 (K.int
 i64) (List.replicate (Zi (newR (1:Int)).fst).fst.toNat (0:Int)),HObj.row Md.rw ty2 (K.int i64) (List.replicate (Zi (newR (1:Int)).fst).fst.toNat
 (0:Int)),HObj.row Md.rw ty59 (K.flt f64) (List.replicate (i64.wrap ((2:Int)*(Zi (newR (1:Int)).fst).fst)).toNat (0:Nat)),HObj.box Md.rw ty39
 [SV.osl (2:Nat) (0:Nat) (6:Nat),SV.osl (3:Nat) (0:Nat) (6:Nat),SV.osl (4:Nat) (0:Nat) (6:Nat),SV.osl (5:Nat) (0:Nat) (12:Nat),SV.val (Go.Value.int
 i64 (0:Int)),SV.val (Go.Value.int i64 (0:Int))]]∧∃ (I:Int × Unit→List Int × Unit→Prop),∃ (μ:Int × Unit→List Int × Unit→Nat),I ((0:Int),())
 (List.replicate (Zi (newR (1:Int)).fst).fst.toNat (0:Int),())∧∀ (x:Int × Unit) (y:List Int × Unit),I x y→∀ (a:Bool),a=decide (x.fst<(Zi (newR (1 :
 Int)).fst).fst)→Br a (∃ (h:True),∃ (h:(0:Int)≤x.fst∧x.fst<(↑(Zi (newR (1:Int)).fst).fst.toNat:Int)),∀ (a:Bool),a=(x.fst==(1:Int))→Br a (∃ (h :
 (0:Int)≤x.fst∧x.fst<(↑(Zi (newR (1:Int)).fst).fst.toNat:Int)),∃ (h:(0:Int)≤x.fst∧x.fst<(↑(Zi (newR (1:Int)).fst).fst.toNat:Int)),HIs
 [HObj.pend,HObj.box Md.rw ty39 [SV.val (Go.Value.slice none (0:Nat) (0:Nat)),SV.val (Go.Value.slice none (0:Nat) (0:Nat)),SV.val (Go.Value.slice
 none (0:Nat) (0:Nat)),SV.val (Go.Value.slice none (0:Nat) (0:Nat)),SV.val (Go.Value.int i64 (0:Int)),SV.val (Go.Value.int i64 (0 :
 Int))],HObj.row Md.rw ty59 (K.flt f64) (List.replicate (Zi (newR (1:Int)).fst).fst.toNat (0:Nat)),HObj.row Md.rw ty2 (K.int i64) ((y.fst.set ((0 :
 Nat)+x.fst.toNat) (Z2z (newR (1:Int)).fst x.fst).fst).set ((0:Nat)+x.fst.toNat) (i64.wrap ((2:Int)*(y.fst.set ((0:Nat)+x.fst.toNat) (Z2z (newR (1 :
 Int)).fst x.fst).fst).getD ((0:Nat)+x.fst.toNat) (0:Int)))),HObj.row Md.rw ty2 (K.int i64) (List.replicate (Zi (newR (1:Int)).fst).fst.toNat (0:Int)),
 HObj.row Md.rw ty59 (K.flt f64) (List.replicate (i64.wrap ((2:Int)*(Zi (newR (1:Int)).fst).fst)).toNat (0:Nat)),HObj.box Md.rw ty39 [SV.osl (2 :
 Nat) (0:Nat) (6:Nat),SV.osl (3:Nat) (0:Nat) (6:Nat),SV.osl (4:Nat) (0:Nat) (6:Nat),SV.osl (5:Nat) (0:Nat) (12:Nat),SV.val (Go.Value.int i64 (0 :
 Int)),SV.val (Go.Value.int i64 (0:Int))]] [HObj.pend,HObj.box Md.rw ty39 [SV.val (Go.Value.slice none (0:Nat) (0:Nat)),SV.val (Go.Value.slice none
 (0:Nat) (0:Nat)),SV.val (Go.Value.slice none (0:Nat) (0:Nat)),SV.val (Go.Value.slice none (0:Nat) (0:Nat)),SV.val (Go.Value.int i64 (0 :
 Int)),SV.val (Go.Value.int i64 (0:Int))],HObj.row Md.rw ty59 (K.flt f64) (List.replicate (Zi (newR (1:Int)).fst).fst.toNat (0:Nat)),HObj.row
 Md.rw ty2 (K.int i64) ((y.fst.set ((0:Nat)+x.fst.toNat) (Z2z (newR (1:Int)).fst x.fst).fst).set ((0:Nat)+x.fst.toNat) (i64.wrap ((2:Int) *
 (y.fst.set ((0:Nat)+x.fst.toNat) (Z2z (newR (1:Int)).fst x.fst).fst).getD ((0:Nat)+x.fst.toNat) (0:Int)))),HObj.row Md.rw ty2 (K.int i64) (List.replicate
 (Zi (newR (1:Int)).fst).fst.toNat (0:Int)),HObj.row Md.rw ty59 (K.flt f64) (List.replicate (i64.wrap ((2:Int)*(Zi (newR (1 :
 Int)).fst).fst)).toNat (0:Nat)),HObj.box Md.rw ty39 [SV.osl (2:Nat) (0:Nat) (6:Nat),SV.osl (3:Nat) (0:Nat) (6:Nat),SV.osl (4:Nat) (0:Nat) (6:Nat),SV.osl (5
 : Nat) (0:Nat) (12:Nat),SV.val (Go.Value.int i64 (0:Int)),SV.val (Go.Value.int i64 (0:Int))]]∧I (i64.wrap (x.fst+(1:Int)),()) ((y.fst.set
 ((0:Nat)+x.fst.toNat) (Z2z (newR (1:Int)).fst x.fst).fst).set ((0:Nat)+x.fst.toNat) (i64.wrap ((2:Int)*(y.fst.set ((0:Nat)+x.fst.toNat) (Z2z (newR
 (1:Int)).fst x.fst).fst).getD ((0:Nat)+x.fst.toNat) (0:Int))),())∧μ (i64.wrap (x.fst+(1:Int)),()) ((y.fst.set ((0:Nat)+x.fst.toNat) (Z2z (newR (1 :
 Int)).fst x.fst).fst).set ((0:Nat)+x.fst.toNat) (i64.wrap ((2:Int)*(y.fst.set ((0:Nat)+x.fst.toNat) (Z2z (newR (1:Int)).fst x.fst).fst).getD ((0:Nat) +
 x.fst.toNat) (0:Int))),())<μ x y) (HIs [HObj.pend,HObj.box Md.rw ty39 [SV.val (Go.Value.slice none (0:Nat) (0:Nat)),SV.val (Go.Value.slice none (0:Nat)
 (0:Nat)),SV.val (Go.Value.slice none (0:Nat) (0:Nat)),SV.val (Go.Value.slice none (0:Nat) (0:Nat)),SV.val (Go.Value.int i64 (0:Int)),SV.val
 (Go.Value.int i64 (0:Int))],HObj.row Md.rw ty59 (K.flt f64) (List.replicate (Zi (newR (1:Int)).fst).fst.toNat (0:Nat)),HObj.row Md.rw ty2 (K.int
 i64) (y.fst.set ((0:Nat)+x.fst.toNat) (Z2z (newR (1:Int)).fst x.fst).fst),HObj.row Md.rw ty2 (K.int i64) (List.replicate (Zi (newR (1 :
 Int)).fst).fst.toNat (0:Int)),HObj.row Md.rw ty59 (K.flt f64) (List.replicate (i64.wrap ((2:Int)*(Zi (newR (1:Int)).fst).fst)).toNat (0:Nat)),
 HObj.box Md.rw ty39 [SV.osl (2:Nat) (0:Nat) (6:Nat),SV.osl (3:Nat) (0:Nat) (6:Nat),SV.osl (4:Nat) (0:Nat) (6:Nat),SV.osl (5:Nat) (0:Nat) (12:Nat),
 SV.val (Go.Value.int i64 (0:Int)),SV.val (Go.Value.int i64 (0:Int))]] [HObj.pend,HObj.box Md.rw ty39 [SV.val (Go.Value.slice none (0:Nat) (0 :
 Nat)),SV.val (Go.Value.slice none (0:Nat) (0:Nat)),SV.val (Go.Value.slice none (0:Nat) (0:Nat)),SV.val (Go.Value.slice none (0:Nat) (0:Nat)),
 SV.val (Go.Value.int i64 (0:Int)),SV.val (Go.Value.int i64 (0:Int))],HObj.row Md.rw ty59 (K.flt f64) (List.replicate (Zi (newR (1 :
 Int)).fst).fst.toNat (0:Nat)),HObj.row Md.rw ty2 (K.int i64) (y.fst.set ((0:Nat)+x.fst.toNat) (Z2z (newR (1:Int)).fst x.fst).fst),HObj.row Md.rw ty2 (K.int
 i64) (List.replicate (Zi (newR (1:Int)).fst).fst.toNat (0:Int)),HObj.row Md.rw ty59 (K.flt f64) (List.replicate (i64.wrap ((2:Int) *
 (Zi (newR (1:Int)).fst).fst)).toNat (0:Nat)),HObj.box Md.rw ty39 [SV.osl (2:Nat) (0:Nat) (6:Nat),SV.osl (3:Nat) (0:Nat) (6:Nat),SV.osl (4:Nat) (0:Nat)
 (6:Nat),SV.osl (5:Nat) (0:Nat) (12:Nat),SV.val (Go.Value.int i64 (0:Int)),SV.val (Go.Value.int i64 (0:Int))]]∧I (i64.wrap (x.fst+(1 :
 Int)),()) (y.fst.set ((0:Nat)+x.fst.toNat) (Z2z (newR (1:Int)).fst x.fst).fst,())∧μ (i64.wrap (x.fst+(1:Int)),()) (y.fst.set ((0:Nat)+x.fst.toNat)
 (Z2z (newR (1:Int)).fst x.fst).fst,())<μ x y)) (∀ (a:Bool),a=((↑(Zi (newR (1:Int)).fst).fst.toNat:Int) != (6:Int))→Br a (post (false,())) (HIs
 [HObj.box Md.rw ty39 [SV.osl (2:Nat) (0:Nat) (6:Nat),SV.osl (3:Nat) (0:Nat) (6:Nat),SV.osl (4:Nat) (0:Nat) (6:Nat),SV.osl (5:Nat) (0:Nat) (12:Nat),
 SV.val (Go.Value.int i64 (0:Int)),SV.val (Go.Value.int i64 (0:Int))],HObj.box Md.rw ty39 [SV.osl (2:Nat) (0:Nat) (6:Nat),SV.osl (3:Nat) (0:Nat) (6
 : Nat),SV.osl (4:Nat) (0:Nat) (6:Nat),SV.osl (5:Nat) (0:Nat) (12:Nat),SV.val (Go.Value.int i64 (0:Int)),SV.val (Go.Value.int i64 (0:Int))],
 HObj.row Md.rw ty59 (K.flt f64) (List.replicate (Zi (newR (1:Int)).fst).fst.toNat (0:Nat)),HObj.row Md.rw ty2 (K.int i64) y.fst,HObj.row Md.rw ty2
 (K.int i64) (List.replicate (Zi (newR (1:Int)).fst).fst.toNat (0:Int)),HObj.row Md.rw ty59 (K.flt f64) (List.replicate (i64.wrap ((2:Int)
 * (Zi (newR (1:Int)).fst).fst)).toNat (0:Nat)),HObj.box Md.rw ty39 [SV.osl (2:Nat) (0:Nat) (6:Nat),SV.osl (3:Nat) (0:Nat) (6:Nat),SV.osl (4:Nat) (0 :
 Nat) (6:Nat),SV.osl (5:Nat) (0:Nat) (12:Nat),SV.val (Go.Value.int i64 (0:Int)),SV.val (Go.Value.int i64 (0:Int))]] [HObj.box Md.rw ty39 [SV.osl (2 :
 Nat) (0:Nat) (6:Nat),SV.osl (3:Nat) (0:Nat) (6:Nat),SV.osl (4:Nat) (0:Nat) (6:Nat),SV.osl (5:Nat) (0:Nat) (12:Nat),SV.val (Go.Value.int i64 (0 :
 Int)),SV.val (Go.Value.int i64 (0:Int))],HObj.box Md.rw ty39 [SV.osl (2:Nat) (0:Nat) (6:Nat),SV.osl (3:Nat) (0:Nat) (6:Nat),SV.osl (4:Nat) (0:Nat) (6
 : Nat),SV.osl (5:Nat) (0:Nat) (12:Nat),SV.val (Go.Value.int i64 (0:Int)),SV.val (Go.Value.int i64 (0:Int))],HObj.row Md.rw ty59 (K.flt
 f64) (List.replicate (Zi (newR (1:Int)).fst).fst.toNat (0:Nat)),HObj.row Md.rw ty2 (K.int i64) y.fst,HObj.row Md.rw ty2 (K.int i64)
 (List.replicate (Zi (newR (1:Int)).fst).fst.toNat (0:Int)),HObj.row Md.rw ty59 (K.flt f64) (List.replicate (i64.wrap ((2:Int)*(Zi (newR (1
 : Int)).fst).fst)).toNat (0:Nat)),HObj.box Md.rw ty39 [SV.osl (2:Nat) (0:Nat) (6:Nat),SV.osl (3:Nat) (0:Nat) (6:Nat),SV.osl (4:Nat) (0:Nat) (6:Nat),SV.osl
 (5:Nat) (0:Nat) (12:Nat),SV.val (Go.Value.int i64 (0:Int)),SV.val (Go.Value.int i64 (0:Int))]]∧∃ (I:Int × Unit→List Nat × List Int × Unit →
 Prop),∃ (μ:Int × Unit→List Nat × List Int × Unit→Nat),I ((0:Int),()) (List.replicate (Zi (newR (1:Int)).fst).fst.toNat (0:Nat),y.fst,())∧∀ (x:Int × Unit)
 (y:List Nat × List Int × Unit),I x y→∀ (a:Bool),a=decide (x.fst<(6:Int))→Br a (∃ (h:(0:Int)≤x.fst∧x.fst<(↑(Zi (newR (1:Int)).fst).fst.toNat :
 Int)),∃ (h:(0:Int)≤x.fst∧x.fst<(↑(Zi (newR (1:Int)).fst).fst.toNat:Int)),HIs [HObj.box Md.rw ty39 [SV.osl (2:Nat) (0:Nat) (6:Nat),SV.osl (3:Nat) (0 :
 Nat) (6:Nat),SV.osl (4:Nat) (0:Nat) (6:Nat),SV.osl (5:Nat) (0:Nat) (12:Nat),SV.val (Go.Value.int i64 (0:Int)),SV.val (Go.Value.int i64 (0 :
 Int))],HObj.box Md.rw ty39 [SV.osl (2:Nat) (0:Nat) (6:Nat),SV.osl (3:Nat) (0:Nat) (6:Nat),SV.osl (4:Nat) (0:Nat) (6:Nat),SV.osl (5:Nat) (0:Nat) (12 :
 Nat),SV.val (Go.Value.int i64 (0:Int)),SV.val (Go.Value.int i64 (0:Int))],HObj.row Md.rw ty59 (K.flt f64) (y.fst.set ((0:Nat)+x.fst.toNat)
 (f64.nearest (i64.wrap ((5:Int) - x.fst)))),HObj.row Md.rw ty2 (K.int i64) (y.snd.fst.set ((0:Nat)+x.fst.toNat) (0:Int)),HObj.row Md.rw ty2
 (K.int i64) (List.replicate (Zi (newR (1:Int)).fst).fst.toNat (0:Int)),HObj.row Md.rw ty59 (K.flt f64) (List.replicate (i64.wrap ((2:Int)
 * (Zi (newR (1:Int)).fst).fst)).toNat (0:Nat)),HObj.box Md.rw ty39 [SV.osl (2:Nat) (0:Nat) (6:Nat),SV.osl (3:Nat) (0:Nat) (6:Nat),SV.osl (4:Nat) (0 :
 Nat) (6:Nat),SV.osl (5:Nat) (0:Nat) (12:Nat),SV.val (Go.Value.int i64 (0:Int)),SV.val (Go.Value.int i64 (0:Int))]] [HObj.box Md.rw ty39 [SV.osl (2 :
 Nat) (0:Nat) (6:Nat),SV.osl (3:Nat) (0:Nat) (6:Nat),SV.osl (4:Nat) (0:Nat) (6:Nat),SV.osl (5:Nat) (0:Nat) (12:Nat),SV.val (Go.Value.int i64 (0 :
 Int)),SV.val (Go.Value.int i64 (0:Int))],HObj.box Md.rw ty39 [SV.osl (2:Nat) (0:Nat) (6:Nat),SV.osl (3:Nat) (0:Nat) (6:Nat),SV.osl (4:Nat) (0:Nat) (6
 : Nat),SV.osl (5:Nat) (0:Nat) (12:Nat),SV.val (Go.Value.int i64 (0:Int)),SV.val (Go.Value.int i64 (0:Int))],HObj.row Md.rw ty59 (K.flt
 f64) (y.fst.set ((0:Nat)+x.fst.toNat) (f64.nearest (i64.wrap ((5:Int) - x.fst)))),HObj.row Md.rw ty2 (K.int i64) (y.snd.fst.set
 ((0:Nat)+x.fst.toNat) (0:Int)),HObj.row Md.rw ty2 (K.int i64) (List.replicate (Zi (newR (1:Int)).fst).fst.toNat (0:Int)),HObj.row Md.rw ty59 (K.flt
 f64) (List.replicate (i64.wrap ((2:Int)*(Zi (newR (1:Int)).fst).fst)).toNat (0:Nat)),HObj.box Md.rw ty39 [SV.osl (2:Nat) (0:Nat) (6:Nat),
 SV.osl (3:Nat) (0:Nat) (6:Nat),SV.osl (4:Nat) (0:Nat) (6:Nat),SV.osl (5:Nat) (0:Nat) (12:Nat),SV.val (Go.Value.int i64 (0:Int)),SV.val
 (Go.Value.int i64 (0:Int))]]∧I (i64.wrap (x.fst+(1:Int)),()) (y.fst.set ((0:Nat)+x.fst.toNat) (f64.nearest (i64.wrap ((5:Int) -
 x.fst))),y.snd.fst.set ((0:Nat)+x.fst.toNat) (0:Int),())∧μ (i64.wrap (x.fst+(1:Int)),()) (y.fst.set ((0:Nat)+x.fst.toNat) (f64.nearest
 (i64.wrap ((5:Int) - x.fst))),y.snd.fst.set ((0:Nat)+x.fst.toNat) (0:Int),())<μ x y) (∃ (h:(0:Int)≤(0:Int)∧(0:Int)<(↑(Zi (newR (1 :
 Int)).fst).fst.toNat:Int)),∃ (h:(0:Int)≤(0:Int)∧(0:Int)<(↑(Zi (newR (1:Int)).fst).fst.toNat:Int)),∃ (h:WRun (newR (1:Int)).fst (List.take (Zi
 (newR (1:Int)).fst).fst.toNat (List.drop (0:Nat) y.fst),List.take (Zi (newR (1:Int)).fst).fst.toNat (List.drop (0:Nat) (y.snd.fst.set ((0:Nat)+Int.toNat (0 :
 Int)) (100:Int))),[(10:Int),(0:Int),(0:Int),(0:Int),(0:Int),(0:Int)],[(0:Nat),(0:Nat),(0:Nat),(0:Nat),(0:Nat),(0:Nat),(0:Nat),(0:Nat),
 (0:Nat),(0:Nat),(0:Nat),(0:Nat)],(0:Int),(0:Int))),∀ (a:List Int × List Int × Int × Unit),a=Z4h (newR (1:Int)).fst (List.take (Zi (newR (1 :
 Int)).fst).fst.toNat (List.drop (0:Nat) y.fst),List.take (Zi (newR (1:Int)).fst).fst.toNat (List.drop (0:Nat) (y.snd.fst.set ((0:Nat)+Int.toNat (0:Int)) (100 :
 Int))),[(10:Int),(0:Int),(0:Int),(0:Int),(0:Int),(0:Int)],[(0:Nat),(0:Nat),(0:Nat),(0:Nat),(0:Nat),(0:Nat),(0:Nat),(0:Nat),(0:Nat),(0
 : Nat),(0:Nat),(0:Nat)],(0:Int),(0:Int))→∀ (a_1:Bool),a_1=(a.snd.snd.fst != (0:Int))→Br a_1 (post (false,())) (∀ (a_2:Bool),a_2=((↑a.fst.length :
 Int) != (6:Int))→Br a_2 (post (false,())) (∀ (a_3:Bool),a_3=((↑a.snd.fst.length:Int) != (6:Int))→Br a_3 (post (false,())) (∃ (h:(0:Int)≤(0:Int)
 ∧ (0:Int)<(↑a.fst.length:Int)),∀ (a_4:Bool),a_4=(a.fst.getD ((0:Nat)+Int.toNat (0:Int)) (0:Int) != (75:Int))→Br a_4 (post (false,())) (∃ (h:(0 :
 Int)≤(5:Int)∧(5:Int)<(↑a.fst.length:Int)),∀ (a_5:Bool),a_5=(a.fst.getD ((0:Nat)+Int.toNat (5:Int)) (0:Int) != (25:Int))→Br a_5 (post (false,
 ())) (∃ (h:(0:Int)≤(0:Int)∧(0:Int)<(↑a.snd.fst.length:Int)),∀ (a_6:Bool),a_6=(a.snd.fst.getD ((0:Nat)+Int.toNat (0:Int)) (0:Int) != (8:Int))→Br
 a_6 (post (false,())) (∃ (h:(0:Int)≤(5:Int)∧(5:Int)<(↑a.snd.fst.length:Int)),∀ (a_7:Bool),a_7=(a.snd.fst.getD ((0:Nat)+Int.toNat (5:Int)) (0 :
 Int) != (2:Int))→Br a_7 (post (false,())) (∃ (h:Zhu (newR (1:Int)).fst (List.take (Zi (newR (1:Int)).fst).fst.toNat (List.drop (0:Nat) y.fst)) (0 :
 Int)),∀ (a:Int × Unit),a=Z47 (newR (1:Int)).fst (List.take (Zi (newR (1:Int)).fst).fst.toNat (List.drop (0:Nat) y.fst)) (0:Int)→∀ (a_8:Bool),a_8 =
 (a.fst==(5:Int))→Br a_8 (∃ (h:Zhu (newR (1:Int)).fst (List.take (Zi (newR (1:Int)).fst).fst.toNat (List.drop (0:Nat) y.fst)) (5:Int)),∀ (a:Int × Unit),
 a=Z47 (newR (1:Int)).fst (List.take (Zi (newR (1:Int)).fst).fst.toNat (List.drop (0:Nat) y.fst)) (5:Int)→∀ (a_9:Bool),a_9=(a.fst==(-1:Int))→Br a_9
 (∃ (h:WOrd [(4607182418800017408:Nat),(4613937818241073152:Nat),(4611686018427387904:Nat),(4613937818241073152:Nat)]),∀ (a:List Int × Unit),a=Zal
 [(4607182418800017408:Nat),(4613937818241073152:Nat),(4611686018427387904:Nat),(4613937818241073152:Nat)]→∃ (h:True),∀ (a_10:Bool × Unit),a_10=Zks
 (List.take a.fst.length (List.drop (0:Nat) a.fst)) [(1:Int),(3:Int),(2:Int),(0:Int)]→∀ (a:Bool),a=a_10.fst→post (a,())) (post (false,()))) (post
 (false,()))))))))))))))))
theorem Z1al (ty0 ty1 ty2:Nat)  : Z85 ty0 ty1 ty2  (fun r=>r=yesR):=by
 delta Z85
 dsimp only
 rw [new1]
 dsimp only
 have hC:(Zi (some (netG 1))).fst=6:=Zhi
 have hE:(Zc9 (some (netG 1))).fst=12:=Z16i
 rw [hC,hE]
 refine ⟨⟨by decide,by decide⟩,?_⟩
 rintro _ rfl
 refine Br.intro (fun e=>absurd e (by first | decide | simp)) fun _=>?_
 refine ⟨trivial,?_⟩
 rintro _ rfl
 refine Br.intro (fun e=>absurd e (by first | decide | simp)) fun _=>?_
 rintro _ rfl
 refine Br.intro (fun e=>absurd e (by first | decide | simp)) fun _=>?_
 refine ⟨trivial,?_⟩
 rintro _ rfl
 refine Br.intro (fun e=>absurd e (by first | decide | simp)) fun _=>?_
 refine ⟨by decide,by decide,by decide,by decide,?_⟩
 refine ⟨rfl,fun x y=>∃ k:Nat,x.1=k∧k≤6∧y.1=(List.range k).map (Zrc (some (netG 1)))++List.replicate (6 - k) 0,fun x _=>6 - x.1.toNat,⟨0,rfl,by omega,rfl⟩,?_⟩
 rintro ⟨_,⟨⟩⟩ ⟨_,⟨⟩⟩ ⟨k,rfl,hk,rfl⟩
 dsimp only
 rintro _ rfl
 have lk:((List.range k).map (Zrc (some (netG 1)))).length=k:=by rw [List.length_map,List.length_range]
 refine Br.intro (fun e3=>?_) fun e3=>?_
 ·have e3:k<6:=by have:=of_decide_eq_true e3; omega
  refine ⟨trivial,⟨by omega,by show (k:Int)<6; omega⟩,?_⟩
  rw [Int.toNat_natCast,Z21 e3 (by omega),Z1s2 lk e3]
  have ha:(Z2z (some (netG 1)) (k:Int)).1=Zr1 (some (netG 1)) (k:Int):=rfl
  rw [ha]
  rintro _ rfl
  refine Br.intro (fun e4=>?_) fun e4=>?_
  ·have e4:k=1:=by have:=beq_iff_eq.1 e4; omega
   refine ⟨⟨by omega,by show (k:Int)<6; omega⟩,⟨by omega,by show (k:Int)<6; omega⟩,rfl,⟨k+1,rfl,by omega,?_⟩,by omega⟩
   have f1:Zrc (some (netG 1)) k=iw (2*Zr1 (some (netG 1)) (k:Int)):=by unfold Zrc; rw [if_pos e4]
   rw [List.range_succ,List.map_append,List.map_singleton,f1]
   exact Z1q9 lk _ _
  ·have e4:¬ k=1:=fun q=>by rw [q] at e4; simp at e4
   refine ⟨rfl,⟨k+1,rfl,by omega,?_⟩,by omega⟩
   have f1:Zrc (some (netG 1)) k=Zr1 (some (netG 1)) (k:Int):=by unfold Zrc; rw [if_neg e4]
   rw [List.range_succ,List.map_append,List.map_singleton,f1]
 have e3:k=6:=by have:=of_decide_eq_false e3; omega
 subst e3
 clear lk hk
 rw [Nat.sub_self,List.replicate_zero,List.append_nil,Z1ur]
 rintro _ rfl
 refine Br.intro (fun e=>absurd e (by first | decide | simp)) fun _=>?_
 refine ⟨rfl,fun x y=>∃ k:Nat,x.1=k∧k≤6∧y.1=Z1gq k∧y.2.1=Zy9 k,fun x _=>6 - x.1.toNat,⟨0,rfl,by omega,rfl,rfl⟩,?_⟩
 rintro ⟨_,⟨⟩⟩ ⟨_,_,⟨⟩⟩ ⟨k,rfl,hk,rfl,rfl⟩
 dsimp only
 rintro _ rfl
 refine Br.intro (fun e3=>?_) fun e3=>?_
 ·have e3:k<6:=by have:=of_decide_eq_true e3; omega
  refine ⟨⟨by omega,by show (k:Int)<6; omega⟩,⟨by omega,by show (k:Int)<6; omega⟩,?_⟩
  rw [Int.toNat_natCast,Nat.zero_add,Z21 e3 (by omega),wi (x:=5 - (k:Int)) ⟨by omega,by omega⟩]
  exact ⟨rfl,⟨k+1,rfl,by omega,rfl,rfl⟩,by omega⟩
 have e3:k=6:=by have:=of_decide_eq_false e3; omega
 subst e3
 have t1:List.take (Int.toNat 6) (List.drop 0 (Z1gq 6))=Z4u:=by rw [Z1up]; rfl
 have t2:List.take (Int.toNat 6) (List.drop 0 ((Zy9 6).set (0+Int.toNat 0) 100))=[100,0,0,0,0,0]:=by
  show List.take 6 ((Zy9 6).set 0 100)=_
  rw [Z1uq]; rfl
 rw [t1,t2]
 have e:Z4h (some (netG 1)) (Z4u,[100,0,0,0,0,0],[10,0,0,0,0,0],[0,0,0,0,0,0,0,0,0,0,0,0],0,0)=([75,0,0,0,0,25],[8,0,0,0,0,2],0,()):=Z1s4
 have np:NetP (some (netG 1)):=.inr ⟨1,rfl,rfl⟩
 refine ⟨by decide,by decide,⟨np,Z1ak,by unfold AllI I64; decide,by unfold AllI I64; decide⟩,?_⟩
 rintro _ rfl
 rw [e]
 rintro _ rfl
 refine Br.intro (fun e=>absurd e (by first | decide | simp)) fun _=>?_
 rintro _ rfl
 refine Br.intro (fun e=>absurd e (by first | decide | simp)) fun _=>?_
 rintro _ rfl
 refine Br.intro (fun e=>absurd e (by first | decide | simp)) fun _=>?_
 refine ⟨by decide,?_⟩
 rintro _ rfl
 refine Br.intro (fun e=>absurd e (by first | decide | simp)) fun _=>?_
 refine ⟨by decide,?_⟩
 rintro _ rfl
 refine Br.intro (fun e=>absurd e (by first | decide | simp)) fun _=>?_
 refine ⟨by decide,?_⟩
 rintro _ rfl
 refine Br.intro (fun e=>absurd e (by first | decide | simp)) fun _=>?_
 refine ⟨by decide,?_⟩
 rintro _ rfl
 refine Br.intro (fun e=>absurd e (by first | decide | simp)) fun _=>?_
 refine ⟨⟨np,Z1ak⟩,?_⟩
 rw [Z1nk]
 rintro _ rfl
 rintro _ rfl
 refine Br.intro (fun _=>?_) fun e=>absurd e (by decide)
 refine ⟨⟨np,Z1ak⟩,?_⟩
 rw [Z1nl]
 rintro _ rfl
 rintro _ rfl
 refine Br.intro (fun _=>?_) fun e=>absurd e (by decide)
 refine ⟨⟨by unfold AllW W64; decide,by decide⟩,?_⟩
 have e4:Zal [4607182418800017408,4613937818241073152,4611686018427387904,4613937818241073152]=([1,3,2,0],()):=by unfold Zal; rw [Z1qa]
 rw [e4]
 rintro _ rfl
 refine ⟨trivial,?_⟩
 rintro _ rfl
 rintro _ rfl
 rfl
end Go.Lift

namespace Go.Lift
def Zn7:=fun (ty122 ty123 ty2 ty126 fn86 fn87:Nat) (n:Int) (post:Option (Int × List (Int × Int × Int × Int) × List ((Int × Int) × Int) × List (List Int) × List Int ×
 List Nat × List Nat) × Int × Unit→Prop)=>∃ (h:I64 n),Br ((Z19 n).fst==(0:Int)) (post (none,(10:Int),())) (∃ (h:(0:Int)≤(0:Int)∧(0:Int)<(↑(2
 : Nat):Int)),HIs [HObj.mp Md.rw ((K.int i64).pair (K.int i64)) (K.int i64) [],HObj.box Md.rw ty122 [SV.val (Go.Value.int i64 n),SV.junk,
 SV.mref (0:Nat),SV.val (Go.Value.slice none (0:Nat) (0:Nat)),SV.junk,SV.val (Go.Value.slice none (0:Nat) (0:Nat)),SV.val (Go.Value.slice none (0
 : Nat) (0:Nat))],HObj.box Md.rw ty123 [SV.clo fn86 [LV.ref (1:Nat) (0:Nat)] [],SV.clo fn87 [LV.ref (1:Nat) (0:Nat)] []]] [HObj.mp Md.rw ((K.int i64).pair
 (K.int i64)) (K.int i64) [],HObj.box Md.rw ty122 [SV.val (Go.Value.int i64 n),SV.junk,SV.mref (0:Nat),SV.val (Go.Value.slice none (0:Nat) (0
 : Nat)),SV.junk,SV.val (Go.Value.slice none (0:Nat) (0:Nat)),SV.val (Go.Value.slice none (0:Nat) (0:Nat))],HObj.box Md.rw ty123 [SV.clo fn86 [LV.ref (1 :
 Nat) (0:Nat)] [],SV.clo fn87 [LV.ref (1:Nat) (0:Nat)] []]]∧∃ (I:Int × List (Int × Int × Int × Int) × List Int × Unit→List ((Int × Int) × Int) × Unit→Prop),∃ (μ :
 Int × List (Int × Int × Int × Int) × List Int × Unit→List ((Int × Int) × Int) × Unit→Nat),I ((0:Int),[],[],()) ([],())∧∀ (x:Int × List (Int × Int × Int × Int) ×
 List Int × Unit) (y:List ((Int × Int) × Int) × Unit),I x y→Br (decide (x.fst<(Z19 n).fst)) (((0:Nat)=(0:Nat)∧x.snd.fst.length=x.snd.fst.length)∧HIs [HObj.mp
 Md.rw ((K.int i64).pair (K.int i64)) (K.int i64) y.fst,HObj.box Md.rw ty122 [SV.val (Go.Value.int i64 n),SV.junk,SV.mref (0:Nat),SV.val
 (Go.Value.slice none (0:Nat) (0:Nat)),SV.osl (4:Nat) (0:Nat) x.snd.snd.fst.length,SV.val (Go.Value.slice none (0:Nat) (0:Nat)),SV.val (Go.Value.slice
 none (0:Nat) (0:Nat))],HObj.box Md.rw ty123 [SV.clo fn86 [LV.ref (1:Nat) (0:Nat)] [],SV.clo fn87 [LV.ref (1:Nat) (0:Nat)] []],HObj.dead,HObj.row Md.rw ty2
 (K.int i64) x.snd.snd.fst] [HObj.mp Md.rw ((K.int i64).pair (K.int i64)) (K.int i64) y.fst,HObj.box Md.rw ty122 [SV.val (Go.Value.int i64
 n),SV.junk,SV.mref (0:Nat),SV.val (Go.Value.slice none (0:Nat) (0:Nat)),SV.osl (4:Nat) (0:Nat) x.snd.snd.fst.length,SV.val (Go.Value.slice none (0 :
 Nat) (0:Nat)),SV.val (Go.Value.slice none (0:Nat) (0:Nat))],HObj.box Md.rw ty123 [SV.clo fn86 [LV.ref (1:Nat) (0:Nat)] [],SV.clo fn87 [LV.ref (1:Nat) (0 :
 Nat)] []],HObj.dead,HObj.row Md.rw ty2 (K.int i64) x.snd.snd.fst]∧∃ (I_1:Int × List (Int × Int × Int × Int) × Unit→List ((Int × Int) × Int) × Unit→Prop),∃ (μ_1
 : Int × List (Int × Int × Int × Int) × Unit→List ((Int × Int) × Int) × Unit→Nat),I_1 ((0:Int),x.snd.fst,()) (y.fst,())∧∀ (x_2:Int × List (Int × Int × Int × Int) ×
 Unit) (y_1:List ((Int × Int) × Int) × Unit),I_1 x_2 y_1→Br (decide (x_2.fst<(4:Int))) (∃ (h:III n x.fst x_2.fst),∀ (a:Int × Int × Unit),a=Z1x n x.fst x_2.fst
 → Br (decide (x.fst > a.fst)) (((0:Nat)=(0:Nat)∧x_2.snd.fst.length=x_2.snd.fst.length)∧HIs [HObj.mp Md.rw ((K.int i64).pair (K.int i64)) (K.int
 i64) y_1.fst,HObj.box Md.rw ty122 [SV.val (Go.Value.int i64 n),SV.junk,SV.mref (0:Nat),SV.val (Go.Value.slice none (0:Nat) (0:Nat)),SV.osl (4 :
 Nat) (0:Nat) x.snd.snd.fst.length,SV.val (Go.Value.slice none (0:Nat) (0:Nat)),SV.val (Go.Value.slice none (0:Nat) (0:Nat))],HObj.box Md.rw ty123
 [SV.clo fn86 [LV.ref (1:Nat) (0:Nat)] [],SV.clo fn87 [LV.ref (1:Nat) (0:Nat)] []],HObj.dead,HObj.row Md.rw ty2 (K.int i64) x.snd.snd.fst] [HObj.mp Md.rw ((K.int
 i64).pair (K.int i64)) (K.int i64) y_1.fst,HObj.box Md.rw ty122 [SV.val (Go.Value.int i64 n),SV.junk,SV.mref (0:Nat),SV.val (Go.Value.slice
 none (0:Nat) (0:Nat)),SV.osl (4:Nat) (0:Nat) x.snd.snd.fst.length,SV.val (Go.Value.slice none (0:Nat) (0:Nat)),SV.val (Go.Value.slice none (0 :
 Nat) (0:Nat))],HObj.box Md.rw ty123 [SV.clo fn86 [LV.ref (1:Nat) (0:Nat)] [],SV.clo fn87 [LV.ref (1:Nat) (0:Nat)] []],HObj.dead,HObj.row Md.rw ty2 (K.int
 i64) x.snd.snd.fst]∧I_1 (i64.wrap (x_2.fst+(1:Int)),x_2.snd.fst,()) (y_1.fst,())∧μ_1 (i64.wrap (x_2.fst+(1:Int)),x_2.snd.fst,()) (y_1.fst,
 ())<μ_1 x_2 y_1) (∃ (h:x_2.snd.fst.length=x_2.snd.fst.length∧(x_2.snd.fst.length+(1:Nat))*(32:Nat)≤(140737488355328:Nat)),((0:Nat)=(0:Nat) ∧
 x_2.snd.fst.length+(1:Nat)=(x_2.snd.fst++[(x.fst,x_2.fst,a.fst,a.snd.fst)]).length)∧HIs [HObj.mp Md.rw ((K.int i64).pair (K.int i64)) (K.int
 i64) (mput (a.fst,a.snd.fst) (↑x_2.snd.fst.length:Int) (mput (x.fst,x_2.fst) (↑x_2.snd.fst.length:Int) y_1.fst)),HObj.box Md.rw ty122 [SV.val (Go.Value.int
 i64 n),SV.junk,SV.mref (0:Nat),SV.val (Go.Value.slice none (0:Nat) (0:Nat)),SV.osl (4:Nat) (0:Nat) x.snd.snd.fst.length,SV.val (Go.Value.slice
 none (0:Nat) (0:Nat)),SV.val (Go.Value.slice none (0:Nat) (0:Nat))],HObj.box Md.rw ty123 [SV.clo fn86 [LV.ref (1:Nat) (0:Nat)] [],SV.clo fn87 [LV.ref
 (1:Nat) (0:Nat)] []],HObj.dead,HObj.row Md.rw ty2 (K.int i64) x.snd.snd.fst] [HObj.mp Md.rw ((K.int i64).pair (K.int i64)) (K.int i64) (mput
 (a.fst,a.snd.fst) (↑x_2.snd.fst.length:Int) (mput (x.fst,x_2.fst) (↑x_2.snd.fst.length:Int) y_1.fst)),HObj.box Md.rw ty122 [SV.val (Go.Value.int i64 n),SV.junk,
 SV.mref (0:Nat),SV.val (Go.Value.slice none (0:Nat) (0:Nat)),SV.osl (4:Nat) (0:Nat) x.snd.snd.fst.length,SV.val (Go.Value.slice none (0:Nat) (0 :
 Nat)),SV.val (Go.Value.slice none (0:Nat) (0:Nat))],HObj.box Md.rw ty123 [SV.clo fn86 [LV.ref (1:Nat) (0:Nat)] [],SV.clo fn87 [LV.ref (1:Nat) (0:Nat)] []],
 HObj.dead,HObj.row Md.rw ty2 (K.int i64) x.snd.snd.fst]∧I_1 (i64.wrap (x_2.fst+(1:Int)),x_2.snd.fst++[(x.fst,x_2.fst,a.fst,a.snd.fst)],()) (mput
 (a.fst,a.snd.fst) (↑x_2.snd.fst.length:Int) (mput (x.fst,x_2.fst) (↑x_2.snd.fst.length:Int) y_1.fst),())∧μ_1 (i64.wrap (x_2.fst+(1:Int)),x_2.snd.fst ++
 [(x.fst,x_2.fst,a.fst,a.snd.fst)],()) (mput (a.fst,a.snd.fst) (↑x_2.snd.fst.length:Int) (mput (x.fst,x_2.fst) (↑x_2.snd.fst.length:Int) y_1.fst),())<μ_1 x_2 y_1))
 (((0:Nat)=(0:Nat)∧x_2.snd.fst.length=x_2.snd.fst.length)∧((0:Nat)=(0:Nat)∧x.snd.snd.fst.length=x.snd.snd.fst.length)∧HIs [HObj.mp Md.rw ((K.int
 i64).pair (K.int i64)) (K.int i64) y_1.fst,HObj.box Md.rw ty122 [SV.val (Go.Value.int i64 n),SV.junk,SV.mref (0:Nat),SV.val (Go.Value.slice
 none (0:Nat) (0:Nat)),SV.junk,SV.val (Go.Value.slice none (0:Nat) (0:Nat)),SV.val (Go.Value.slice none (0:Nat) (0:Nat))],HObj.box Md.rw ty123
 [SV.clo fn86 [LV.ref (1:Nat) (0:Nat)] [],SV.clo fn87 [LV.ref (1:Nat) (0:Nat)] []]] [HObj.mp Md.rw ((K.int i64).pair (K.int i64)) (K.int i64)
 y_1.fst,HObj.box Md.rw ty122 [SV.val (Go.Value.int i64 n),SV.junk,SV.mref (0:Nat),SV.val (Go.Value.slice none (0:Nat) (0:Nat)),SV.junk,SV.val
 (Go.Value.slice none (0:Nat) (0:Nat)),SV.val (Go.Value.slice none (0:Nat) (0:Nat))],HObj.box Md.rw ty123 [SV.clo fn86 [LV.ref (1:Nat) (0:Nat)] [],
 SV.clo fn87 [LV.ref (1:Nat) (0:Nat)] []]]∧I (i64.wrap (x.fst+(1:Int)),x_2.snd.fst,x.snd.snd.fst,()) (y_1.fst,())∧μ (i64.wrap (x.fst+(1:Int)),
 x_2.snd.fst,x.snd.snd.fst,()) (y_1.fst,())<μ x y)) (∃ (h:(0:Int)≤i64.wrap ((0:Int)+(1:Int))∧i64.wrap ((0:Int)+(1:Int))<(↑(2:Nat) :
 Int)),((0:Nat)=(0:Nat)∧x.snd.fst.length=x.snd.fst.length)∧((0:Nat)=(0:Nat)∧x.snd.snd.fst.length=x.snd.snd.fst.length)∧HIs [HObj.mp Md.rw ((K.int
 i64).pair (K.int i64)) (K.int i64) y.fst,HObj.box Md.rw ty122 [SV.val (Go.Value.int i64 n),SV.junk,SV.mref (0:Nat),SV.val (Go.Value.slice
 none (0:Nat) (0:Nat)),SV.junk,SV.val (Go.Value.slice none (0:Nat) (0:Nat)),SV.val (Go.Value.slice none (0:Nat) (0:Nat))],HObj.box Md.rw ty123
 [SV.clo fn86 [LV.ref (1:Nat) (0:Nat)] [],SV.clo fn87 [LV.ref (1:Nat) (0:Nat)] []],HObj.dead,HObj.dead] [HObj.mp Md.rw ((K.int i64).pair (K.int i64))
 (K.int i64) y.fst,HObj.box Md.rw ty122 [SV.val (Go.Value.int i64 n),SV.junk,SV.mref (0:Nat),SV.val (Go.Value.slice none (0:Nat) (0:Nat)),SV.junk,
 SV.val (Go.Value.slice none (0:Nat) (0:Nat)),SV.val (Go.Value.slice none (0:Nat) (0:Nat))],HObj.box Md.rw ty123 [SV.clo fn86 [LV.ref (1:Nat) (0:Nat)]
 [],SV.clo fn87 [LV.ref (1:Nat) (0:Nat)] []],HObj.dead,HObj.dead]∧∃ (I:Int × List (Int × Int × Int × Int) × List Int × Unit→List ((Int × Int) × Int) × Unit→Prop),∃
 (μ:Int × List (Int × Int × Int × Int) × List Int × Unit→List ((Int × Int) × Int) × Unit→Nat),I ((0:Int),x.snd.fst,x.snd.snd.fst,()) (y.fst,())∧∀ (x:Int × List
 (Int × Int × Int × Int) × List Int × Unit) (y:List ((Int × Int) × Int) × Unit),I x y→Br (decide (x.fst<(Z19 n).fst)) (∃ (h:II n x.fst),∃ (h:x.snd.snd.fst.length =
 x.snd.snd.fst.length∧(x.snd.snd.fst.length+(1:Nat))*(8:Nat)≤(140737488355328:Nat)),((0:Nat)=(0:Nat)∧x.snd.fst.length=x.snd.fst.length)∧((0:Nat)=(0 :
 Nat)∧x.snd.snd.fst.length+(1:Nat)=(x.snd.snd.fst++[(Zko n x.fst).fst]).length)∧HIs [HObj.mp Md.rw ((K.int i64).pair (K.int i64)) (K.int i64)
 y.fst,HObj.box Md.rw ty122 [SV.val (Go.Value.int i64 n),SV.junk,SV.mref (0:Nat),SV.val (Go.Value.slice none (0:Nat) (0:Nat)),SV.junk,SV.val
 (Go.Value.slice none (0:Nat) (0:Nat)),SV.val (Go.Value.slice none (0:Nat) (0:Nat))],HObj.box Md.rw ty123 [SV.clo fn86 [LV.ref (1:Nat) (0:Nat)] [],
 SV.clo fn87 [LV.ref (1:Nat) (0:Nat)] []],HObj.dead,HObj.dead] [HObj.mp Md.rw ((K.int i64).pair (K.int i64)) (K.int i64) y.fst,HObj.box Md.rw ty122
 [SV.val (Go.Value.int i64 n),SV.junk,SV.mref (0:Nat),SV.val (Go.Value.slice none (0:Nat) (0:Nat)),SV.junk,SV.val (Go.Value.slice none (0:Nat) (0
 : Nat)),SV.val (Go.Value.slice none (0:Nat) (0:Nat))],HObj.box Md.rw ty123 [SV.clo fn86 [LV.ref (1:Nat) (0:Nat)] [],SV.clo fn87 [LV.ref (1:Nat) (0:Nat)] []],
 HObj.dead,HObj.dead]∧I (i64.wrap (x.fst+(1:Int)),x.snd.fst,x.snd.snd.fst++[(Zko n x.fst).fst],()) (y.fst,())∧μ (i64.wrap (x.fst+(1:Int)),
 x.snd.fst,x.snd.snd.fst++[(Zko n x.fst).fst],()) (y.fst,())<μ x y) (HIs [HObj.mp Md.rw ((K.int i64).pair (K.int i64)) (K.int i64) y.fst,HObj.box
 Md.rw ty122 [SV.val (Go.Value.int i64 n),SV.osl (5:Nat) (0:Nat) x.snd.fst.length,SV.mref (0:Nat),SV.junk,SV.osl (6:Nat) (0:Nat) x.snd.snd.fst.length,
 SV.junk,SV.junk],HObj.box Md.rw ty123 [SV.clo fn86 [LV.ref (1:Nat) (0:Nat)] [],SV.clo fn87 [LV.ref (1:Nat) (0:Nat)] []],HObj.dead,HObj.dead,HObj.row Md.rw ty126
 ((K.int i64).pair ((K.int i64).pair ((K.int i64).pair (K.int i64)))) x.snd.fst,HObj.row Md.rw ty2 (K.int i64) x.snd.snd.fst] [HObj.mp
 Md.rw ((K.int i64).pair (K.int i64)) (K.int i64) y.fst,HObj.box Md.rw ty122 [SV.val (Go.Value.int i64 n),SV.osl (5:Nat) (0:Nat)
 x.snd.fst.length,SV.mref (0:Nat),SV.junk,SV.osl (6:Nat) (0:Nat) x.snd.snd.fst.length,SV.junk,SV.junk],HObj.box Md.rw ty123 [SV.clo fn86 [LV.ref (1:Nat) (0:Nat)]
 [],SV.clo fn87 [LV.ref (1:Nat) (0:Nat)] []],HObj.dead,HObj.dead,HObj.row Md.rw ty126 ((K.int i64).pair ((K.int i64).pair ((K.int i64).pair (K.int
 i64)))) x.snd.fst,HObj.row Md.rw ty2 (K.int i64) x.snd.snd.fst]∧∃ (I:Int × List (List Int) × List Nat × List Nat × Unit→Unit→Prop),∃ (μ:Int × List
 (List Int) × List Nat × List Nat × Unit→Unit→Nat),I ((0:Int),[],[],[],()) ()∧∀ (x_3:Int × List (List Int) × List Nat × List Nat × Unit) (y_1:Unit),I x_3 y_1→Br
 (decide (x_3.fst<(↑x.snd.fst.length:Int))) (∃ (h:(0:Int)≤x_3.fst∧x_3.fst<(↑x.snd.fst.length:Int)),∃ (h:(4:Int)≠(0:Int)),∃ (h:III n (x.snd.fst.getD ((0
 : Nat)+x_3.fst.toNat) Z28.dflt).fst ((i64.wrap ((x.snd.fst.getD ((0:Nat)+x_3.fst.toNat) Z28.dflt).snd.fst+(2:Int))).tmod (4:Int))),∀ (a:Int × Int ×
 Unit),a=Z1x n (x.snd.fst.getD ((0:Nat)+x_3.fst.toNat) Z28.dflt).fst ((i64.wrap ((x.snd.fst.getD ((0:Nat)+x_3.fst.toNat) Z28.dflt).snd.fst+(2 :
 Int))).tmod (4:Int))→∃ (h:(4:Int)≠(0:Int)),∃ (h:III n (x.snd.fst.getD ((0:Nat)+x_3.fst.toNat) Z28.dflt).snd.snd.fst ((i64.wrap ((x.snd.fst.getD ((0 :
 Nat)+x_3.fst.toNat) Z28.dflt).snd.snd.snd+(2:Int))).tmod (4:Int))),∀ (a_1:Int × Int × Unit),a_1=Z1x n (x.snd.fst.getD ((0:Nat)+x_3.fst.toNat)
 Z28.dflt).snd.snd.fst ((i64.wrap ((x.snd.fst.getD ((0:Nat)+x_3.fst.toNat) Z28.dflt).snd.snd.snd+(2:Int))).tmod (4:Int))→∃ (h:x_3.snd.fst.length =
 x_3.snd.fst.length∧(x_3.snd.fst.length+(1:Nat))*(16:Nat)≤(140737488355328:Nat)),∃ (h:III n (x.snd.fst.getD ((0:Nat)+x_3.fst.toNat) Z28.dflt).fst
 (x.snd.fst.getD ((0:Nat)+x_3.fst.toNat) Z28.dflt).snd.fst),∀ (a_2:Nat × Unit),a_2=Zih n (x.snd.fst.getD ((0:Nat)+x_3.fst.toNat) Z28.dflt).fst
 (x.snd.fst.getD ((0:Nat)+x_3.fst.toNat) Z28.dflt).snd.fst→∃ (h:x_3.snd.snd.fst.length=x_3.snd.snd.fst.length∧(x_3.snd.snd.fst.length+(1:Nat))*(8:Nat) ≤
 (140737488355328:Nat)),∃ (h:III n (x.snd.fst.getD ((0:Nat)+x_3.fst.toNat) Z28.dflt).fst (x.snd.fst.getD ((0:Nat)+x_3.fst.toNat) Z28.dflt).snd.fst),∀ (a_3:Nat ×
 Unit),a_3=Z1my n (x.snd.fst.getD ((0:Nat)+x_3.fst.toNat) Z28.dflt).fst (x.snd.fst.getD ((0:Nat)+x_3.fst.toNat) Z28.dflt).snd.fst→∃ (h :
 x_3.snd.snd.snd.fst.length=x_3.snd.snd.snd.fst.length∧(x_3.snd.snd.snd.fst.length+(1:Nat))*(8:Nat)≤(140737488355328:Nat)),((0:Nat)=(0:Nat) ∧
 x_3.snd.fst.length+(1:Nat)=(x_3.snd.fst++[[a.fst,a_1.fst]]).length)∧((0:Nat)=(0:Nat)∧x_3.snd.snd.fst.length+(1:Nat)=(x_3.snd.snd.fst++[a_2.fst]).length)
 ∧ ((0:Nat)=(0:Nat)∧x_3.snd.snd.snd.fst.length+(1:Nat)=(x_3.snd.snd.snd.fst++[a_3.fst]).length)∧HIs [HObj.mp Md.rw ((K.int i64).pair (K.int i64))
 (K.int i64) y.fst,HObj.box Md.rw ty122 [SV.val (Go.Value.int i64 n),SV.osl (5:Nat) (0:Nat) x.snd.fst.length,SV.mref (0:Nat),SV.junk,SV.osl (6:Nat) (0
 : Nat) x.snd.snd.fst.length,SV.junk,SV.junk],HObj.box Md.rw ty123 [SV.clo fn86 [LV.ref (1:Nat) (0:Nat)] [],SV.clo fn87 [LV.ref (1:Nat) (0:Nat)] []],HObj.dead,
 HObj.dead,HObj.row Md.rw ty126 ((K.int i64).pair ((K.int i64).pair ((K.int i64).pair (K.int i64)))) x.snd.fst,HObj.row Md.rw ty2 (K.int
 i64) x.snd.snd.fst] [HObj.mp Md.rw ((K.int i64).pair (K.int i64)) (K.int i64) y.fst,HObj.box Md.rw ty122 [SV.val (Go.Value.int i64 n),
 SV.osl (5:Nat) (0:Nat) x.snd.fst.length,SV.mref (0:Nat),SV.junk,SV.osl (6:Nat) (0:Nat) x.snd.snd.fst.length,SV.junk,SV.junk],HObj.box Md.rw ty123 [SV.clo fn86
 [LV.ref (1:Nat) (0:Nat)] [],SV.clo fn87 [LV.ref (1:Nat) (0:Nat)] []],HObj.dead,HObj.dead,HObj.row Md.rw ty126 ((K.int i64).pair ((K.int i64).pair
 ((K.int i64).pair (K.int i64)))) x.snd.fst,HObj.row Md.rw ty2 (K.int i64) x.snd.snd.fst]∧I (i64.wrap (x_3.fst+(1:Int)),x_3.snd.fst ++
 [[a.fst,a_1.fst]],x_3.snd.snd.fst++[a_2.fst],x_3.snd.snd.snd.fst++[a_3.fst],()) ()∧μ (i64.wrap (x_3.fst+(1:Int)),x_3.snd.fst++[[a.fst,a_1.fst]],
 x_3.snd.snd.fst++[a_2.fst],x_3.snd.snd.snd.fst++[a_3.fst],()) ()<μ x_3 y_1) (post (some (n,List.take x.snd.fst.length (List.drop (0:Nat) x.snd.fst),y.fst,
 List.take x_3.snd.fst.length (List.drop (0:Nat) x_3.snd.fst),List.take x.snd.snd.fst.length (List.drop (0:Nat) x.snd.snd.fst),List.take x_3.snd.snd.fst.length (List.drop (0
 : Nat) x_3.snd.snd.fst),List.take x_3.snd.snd.snd.fst.length (List.drop (0:Nat) x_3.snd.snd.snd.fst)),(0:Int),())))))
theorem Z1kb (ty0 ty1 ty2 ty3 ty4 ty5:Nat) (n:Int) (h:I64 n):Zn7 ty0 ty1 ty2 ty3 ty4 ty5 n (fun r=>r=newR n):=by
 have cr:=Z4f n
 obtain ⟨N,hN⟩:∃ N,(Zb n).toNat=N:=⟨_,rfl⟩
 have hc:Zb n=(N:Int):=by omega
 have hc':(Z19 n).fst=(N:Int):=hc
 have hN1:N≤6144:=by omega
 have nk:=fun k=>Z1a9 n k
 have i6:∀ {z:Int},0≤z→z≤6144→I64 z:=fun {z} a b=>⟨by omega,by omega⟩
 refine ⟨h,?_⟩
 rw [hc']
 refine Br.intro (fun e=>?_) fun e=>?_
 ·have e:(N:Int)=0:=beq_iff_eq.1 e
  show _=newR n
  unfold newR; rw [if_pos (by omega)]
 have e:¬ (N:Int)=0:=fun q=>by rw [q] at e; cases e
 have hnew:newR n=(some (netG n),0,()):=by unfold newR; rw [if_neg (by omega)]
 refine ⟨⟨by decide,by decide⟩,rfl,fun x y=>∃ k:Nat,x.1=k∧k≤N∧x.2.1=(netN n k).1∧x.2.2.1=[]∧y.1=(netN n k).2,fun x _=>N - x.1.toNat,⟨0,rfl,by omega,rfl,rfl,rfl⟩,?_⟩
 rintro ⟨_,_,_,⟨⟩⟩ ⟨_,⟨⟩⟩ ⟨k,rfl,hk,rfl,rfl,rfl⟩
 dsimp only
 refine Br.intro (fun e1=>?_) fun e1=>?_
 ·have e1:k<N:=by have:=of_decide_eq_true e1; omega
  refine ⟨⟨rfl,rfl⟩,rfl,fun x y=>∃ j:Nat,x.1=j∧j≤4∧x.2.1=(addN n k (netN n k) j).1∧y.1=(addN n k (netN n k) j).2,fun x _=>4 - x.1.toNat,⟨0,rfl,by omega,rfl,rfl⟩,?_⟩
  rintro ⟨_,_,⟨⟩⟩ ⟨_,⟨⟩⟩ ⟨j,rfl,hj,rfl,rfl⟩
  dsimp only
  have hlen:=(Z1a8 (n:=n) (c:=k) (by omega) (by omega) (nk k (by omega)).1 j hj).2
  have hlk:=(nk k (by omega)).2
  refine Br.intro (fun e2=>?_) fun e2=>?_
  ·have e2:j<4:=by have e2:(j:Int)<4:=of_decide_eq_true e2; omega
   refine ⟨⟨h,i6 (by omega) (by omega),i6 (by omega) (by omega)⟩,?_⟩
   rintro ⟨b,q,⟨⟩⟩ hb
   have hb:(b,q,())=Z1x n k j:=hb
   have eb:b=(Z7 n k j).1:=congrArg Prod.fst hb
   have eq:q=(Z7 n k j).2:=congrArg (fun z=>z.2.1) hb
   rw [Z21 e2 (by omega)]
   refine Br.intro (fun g=>?_) fun g=>?_
   ·have g:(k:Int) > b:=of_decide_eq_true g
    have hst:addN n k (netN n k) (j+1)=addN n k (netN n k) j:=by
     show addE n k j (addN n k (netN n k) j)=_
     unfold addE; rw [if_pos (by omega)]
    exact ⟨⟨rfl,rfl⟩,rfl,⟨j+1,rfl,by omega,by rw [hst],by rw [hst]⟩,by omega⟩
   ·have g:¬ (k:Int) > b:=of_decide_eq_false g
    have hst:addN n k (netN n k) (j+1)=((addN n k (netN n k) j).1++[((k:Int),(j:Int),b,q)],mput (b,q) (addN n k (netN n k) j).1.length (mput ((k:Int),(j:Int)) (addN n k (netN n k) j).1.length (addN n k (netN n k) j).2)):=by
     show addE n k j (addN n k (netN n k) j)=_
     unfold addE; rw [if_neg (by omega),eb,eq]
    exact ⟨⟨rfl,by omega⟩,⟨rfl,by rw [List.length_append]; rfl⟩,rfl,⟨j+1,rfl,by omega,by rw [hst],by rw [hst]⟩,by omega⟩
  ·have e2:j=4:=by have e2:¬ (j:Int)<4:=of_decide_eq_false e2; omega
   subst e2
   rw [Z21 e1 (by omega)]
   exact ⟨⟨rfl,rfl⟩,⟨rfl,rfl⟩,rfl,⟨k+1,rfl,by omega,rfl,rfl,rfl⟩,by omega⟩
 have e1:k=N:=by have:=of_decide_eq_false e1; omega
 subst e1
 obtain ⟨eok,elen⟩:=nk k hN1
 have hE:netE n=netN n k:=by unfold netE; rw [hN]
 generalize netN n k=E at *
 refine ⟨⟨by decide,by decide⟩,⟨rfl,rfl⟩,⟨rfl,rfl⟩,rfl,fun x y=>∃ m:Nat,x.1=m∧m≤k∧x.2.1=E.1∧x.2.2.1=((List.range m).map fun q:Nat=>Zx n (q:Int))∧y.1=E.2,fun x _=>k - x.1.toNat,⟨0,rfl,by omega,rfl,rfl,rfl⟩,?_⟩
 rintro ⟨_,_,_,⟨⟩⟩ ⟨_,⟨⟩⟩ ⟨m,rfl,hm,rfl,rfl,rfl⟩
 dsimp only
 have hml:((List.range m).map fun q:Nat=>Zx n (q:Int)).length=m:=by rw [List.length_map,List.length_range]
 refine Br.intro (fun e1=>?_) fun e1=>?_
 ·have e1:m<k:=by have:=of_decide_eq_true e1; omega
  rw [Z21 e1 (by omega)]
  exact ⟨⟨h,i6 (by omega) (by omega)⟩,⟨rfl,by rw [hml]; omega⟩,⟨rfl,rfl⟩,⟨rfl,by rw [List.length_append]; rfl⟩,rfl,⟨m+1,rfl,by omega,rfl,(Z1a5 (fun q:Nat=>Zx n (q:Int)) m).symm,rfl⟩,by omega⟩
 have e1:m=k:=by have:=of_decide_eq_false e1; omega
 subst e1
 refine ⟨rfl,fun x _=>∃ q:Nat,x.1=q∧q≤E.1.length∧x.2.1=(E.1.take q).map (Z1lh n)∧x.2.2.1=(E.1.take q).map (fun e=>Zhq n e.1 e.2.1)∧x.2.2.2.1=(E.1.take q).map (fun e=>gapG n e.1 e.2.1),fun x _=>E.1.length - x.1.toNat,⟨0,rfl,by omega,rfl,rfl,rfl⟩,?_⟩
 rintro ⟨_,_,_,_,⟨⟩⟩ _ ⟨q,rfl,hq,rfl,rfl,rfl⟩
 dsimp only
 have hl:∀ {α:Type} (f:Ed→α),((E.1.take q).map f).length=q:=fun {α} f=>by rw [List.length_map,List.length_take]; omega
 refine Br.intro (fun e1=>?_) fun e1=>?_
 ·have e1:q<E.1.length:=by have:=of_decide_eq_true e1; omega
  rw [Int.toNat_natCast,Nat.zero_add,Z21 e1 (by omega)]
  obtain ⟨d,hd⟩:∃ d,E.1.getD q Z28.dflt=d:=⟨_,rfl⟩
  have dm:d ∈ E.1:=by rw [← hd]; exact Z39 e1 _
  have ts:E.1.take (q+1)=E.1.take q++[d]:=by rw [Zeo e1 Z28.dflt,hd]
  rw [hd]
  obtain ⟨d1,d2,d3,d4,d5,d6,d7,d8⟩:=eok d dm
  have w1:i64.wrap (d.2.1+2)=d.2.1+2:=wi ⟨by omega,by omega⟩
  have w2:i64.wrap (d.2.2.2+2)=d.2.2.2+2:=wi ⟨by omega,by omega⟩
  rw [w1,w2]
  have t1:I64 (Int.tmod (d.2.1+2) 4):=by rw [Int.tmod_eq_emod_of_nonneg (by omega)]; exact i6 (by omega) (by omega)
  have t2:I64 (Int.tmod (d.2.2.2+2) 4):=by rw [Int.tmod_eq_emod_of_nonneg (by omega)]; exact i6 (by omega) (by omega)
  refine ⟨⟨by omega,by omega⟩,by decide,⟨h,i6 d1 (by omega),t1⟩,?_⟩
  rintro ⟨a1,a2,⟨⟩⟩ ha
  have ea:a1=(Z7 n d.1 (Int.tmod (d.2.1+2) 4)).1:=congrArg Prod.fst ha
  refine ⟨by decide,⟨h,i6 d5 (by omega),t2⟩,?_⟩
  rintro ⟨b1,b2,⟨⟩⟩ hb
  have eb:b1=(Z7 n d.2.2.1 (Int.tmod (d.2.2.2+2) 4)).1:=congrArg Prod.fst hb
  refine ⟨⟨rfl,by rw [hl]; omega⟩,⟨h,i6 d1 (by omega),i6 d3 (by omega)⟩,?_⟩
  rintro ⟨l1,⟨⟩⟩ hl1
  have el:l1=Zhq n d.1 d.2.1:=congrArg Prod.fst hl1
  refine ⟨⟨rfl,by rw [hl]; omega⟩,⟨h,i6 d1 (by omega),i6 d3 (by omega)⟩,?_⟩
  rintro ⟨g1,⟨⟩⟩ hg1
  have eg:g1=gapG n d.1 d.2.1:=congrArg Prod.fst hg1
  refine ⟨⟨rfl,by rw [hl]; omega⟩,⟨rfl,by rw [List.length_append]; rfl⟩,⟨rfl,by rw [List.length_append]; rfl⟩,⟨rfl,by rw [List.length_append]; rfl⟩,rfl,⟨q+1,rfl,by omega,?_,?_,?_⟩,by omega⟩
  ·rw [ts,List.map_append]; dsimp only; rw [ea,eb]; rfl
  ·rw [ts,List.map_append]; dsimp only; rw [el]; rfl
  ·rw [ts,List.map_append]; dsimp only; rw [eg]; rfl
 ·have e1:q=E.1.length:=by have:=of_decide_eq_false e1; omega
  subst e1
  show _=newR n
  rw [hnew]
  unfold netG Zaf
  rw [hE,hN,List.take_length]
  simp only [List.drop_zero,List.take_length]
end Go.Lift

namespace Go.Lift
def Zil:=fun (a:Int) (post:Bool × Unit→Prop)=>∀ (a_1:Bool),a_1=decide (a≥(1:Int))→Br a_1 (∀ (a_2:Bool),a_2=decide (a≤(32:Int))→post (a_2,
 ())) (post (false,()))
theorem Z1ip (a:Int):Zil  a (fun r=>r=Z15u a):=by
 rintro _ rfl
 refine Br.intro (fun e=>?_) fun e=>?_
 ·rintro _ rfl
  refine congrArg r1 ?_
  show _=Z1i a
  unfold Z1i
  rw [show decide ((1:Int)≤a)=true from e,Bool.true_and]
 ·refine congrArg r1 ?_
  show _=Z1i a
  unfold Z1i
  rw [show decide ((1:Int)≤a)=false from e,Bool.false_and]
def Zfc:=fun (a:Int) (post:Int × Unit→Prop)=>∃ (h:True),∀ (a_1:Bool),a_1=(Z15u a).fst→Br (!a_1) (post ((0:Int),())) (post (i64.wrap
 (i64.wrap ((6:Int)*a)*a),()))
theorem Z1eq (a:Int) (h:I64 a):Zfc  a (fun r=>r=Z19 a):=by
 refine ⟨trivial,?_⟩
 rintro _ rfl
 refine Br.intro (fun e=>?_) fun e=>?_
 ·have e:(!Z1i a)=true:=e
  exact congrArg r1 (Z77 (by simpa using e)).symm
 ·have e:(!Z1i a)=false:=e
  exact congrArg r1 (Z15w (by simpa using e))
def Zfd:=fun (n c:Int) (post:Int × Int × Int × Bool × Unit→Prop)=>∀ (a:Bool),a=decide (c<(0:Int))→Br a (post ((0:Int),(0:Int),(0:Int),
 false,())) (∃ (h:I64 n),∀ (a:Bool),a=decide (c≥(Z19 n).fst)→Br a (post ((0:Int),(0:Int),(0:Int),false,())) (∃ (h:i64.wrap (n*n) ≠
 (0:Int)),∃ (h:n≠(0:Int)),∃ (h:n≠(0:Int)),∃ (h:n≠(0:Int)),post (i64.wrap (c.tdiv (i64.wrap (n*n))),c.tmod n,(i64.wrap (c.tdiv
 n)).tmod n,true,())))
theorem Z1er (n:Int) (c:Int) (h:II n c):Zfd  n c (fun r=>r=Z0 n c):=by
 have bad:Zl n c=false→((0:Int),(0:Int),(0:Int),false,())=Z0 n c:=by
  intro e; unfold Z0; rw [if_neg (by rw [e]; decide)]
 rintro _ rfl
 refine Br.intro (fun e=>?_) fun e=>?_
 ·have e:=of_decide_eq_true e
  exact bad (by unfold Zl; rw [decide_eq_false (by omega),Bool.false_and])
 ·have e:=of_decide_eq_false e
  refine ⟨h.1,?_⟩
  rintro _ rfl
  refine Br.intro (fun f=>?_) fun f=>?_
  ·have f:Zb n≤c:=of_decide_eq_true f
   exact bad (by unfold Zl; rw [decide_eq_false (p:=c<Zb n) (by omega),Bool.and_false])
  ·have f:¬ c≥Zb n:=of_decide_eq_false f
   have ok:Zl n c=true:=by unfold Zl; rw [decide_eq_true (by omega),decide_eq_true (by omega)]; rfl
   obtain ⟨h1,h2,h3,h4,h5,h6⟩:=Z3s ok
   obtain ⟨r1,r2,r3,r4,r5,r6⟩:=Zen ok
   have w1:i64.wrap (n*n)=n*n:=wi ⟨by omega,by omega⟩
   have d1:c.tdiv (n*n)=c / (n*n):=Int.tdiv_eq_ediv_of_nonneg h3
   have d2:c.tdiv n=c / n:=Int.tdiv_eq_ediv_of_nonneg h3
   have d3:0≤c / n∧c / n≤c:=⟨Int.ediv_nonneg h3 (by omega),Int.ediv_le_self _ h3⟩
   have w2:i64.wrap (c / n)=c / n:=wi ⟨by omega,by have:=h.2; unfold I64 at this; omega⟩
   have w3:i64.wrap (c / (n*n))=c / (n*n):=wi ⟨by omega,by omega⟩
   refine ⟨by rw [w1]; omega,by omega,by omega,by omega,?_⟩
   rw [w1,d1,w3,d2,w2,Int.tmod_eq_emod_of_nonneg h3,Int.tmod_eq_emod_of_nonneg d3.1]
   unfold Z0; rw [if_pos ok]
end Go.Lift

namespace Go.Lift
open Go.Proofs
def Zfe:Con:=.det [.int .i64] [.snap .bool] (fun _=>True) (fun x=>Z15u x.1)
def Zsc:Cx:=⟨Zd Zf,Ze [],RbG⟩
theorem Z11i:CxOk Tryz.prog Zsc:=⟨Z3 Z6,fun f c h=>by cases h⟩
theorem Z1am:FnAt Tryz.prog 97 Tryz.f97.ntmps Tryz.f97.results.toList (Tryz.f97.body.getD .skip):=⟨Tryz.f97,Tryz.func97,rfl,rfl,by simp,by decide⟩
theorem Z1an (a:Int) (post:Bool × Unit→Prop):Z9 Zsc nHn Tryz.f97.ntmps Tryz.f97.results.toList (Tryz.f97.body.getD .skip) [.int .i64] [.snap .bool] (a,()) post=Zil  a post:=by kernel_rfl
theorem Zsd:Zfe.holds Tryz.prog RbG 97 :=
 detP Z11i Z8 nHn Z1am (F:=fun x post=>Zil  x.1 post) (fun x post=>Z1an x.1 post) fun x _ _=>Z1ip  x.1
def Z86:Con:=.det [.int .i64] [.snap (.int .i64)] (fun x=>I64 x.1) (fun x=>Z19 x.1)
def Zo8:Cx:=⟨Zd Zf,Ze [(97,Zfe)],RbG⟩
theorem Zye:CxOk Tryz.prog Zo8:=⟨Z3 Z6,Z5 ⟨Zsd,trivial⟩⟩
theorem Z16j:FnAt Tryz.prog 58 Tryz.f58.ntmps Tryz.f58.results.toList (Tryz.f58.body.getD .skip):=⟨Tryz.f58,Tryz.func58,rfl,rfl,by simp,by decide⟩
theorem Z16k (a:Int) (post:Int × Unit→Prop):Z9 Zo8 nHn Tryz.f58.ntmps Tryz.f58.results.toList (Tryz.f58.body.getD .skip) [.int .i64] [.snap (.int .i64)] (a,()) post=Zfc  a post:=by kernel_rfl
theorem Zcd:Z86.holds Tryz.prog RbG 58 :=
 detP Zye Z8 nHn Z16j (F:=fun x post=>Zfc  x.1 post) (fun x post=>Z16k x.1 post) fun x h _=>Z1eq  x.1 h
def Z87:Con:=.det [.int .i64,.int .i64] [.snap (.int .i64),.snap (.int .i64),.snap (.int .i64),.snap .bool] (fun x=>II x.1 x.2.1) (fun x=>Z0 x.1 x.2.1)
def Zo9:Cx:=⟨Zd Zf,Ze [(58,Z86)],RbG⟩
theorem Zyf:CxOk Tryz.prog Zo9:=⟨Z3 Z6,Z5 ⟨Zcd,trivial⟩⟩
theorem Z16l:FnAt Tryz.prog 79 Tryz.f79.ntmps Tryz.f79.results.toList (Tryz.f79.body.getD .skip):=⟨Tryz.f79,Tryz.func79,rfl,rfl,by simp,by decide⟩
theorem Z16m (n:Int) (c:Int) (post:Int × Int × Int × Bool × Unit→Prop):Z9 Zo9 nHn Tryz.f79.ntmps Tryz.f79.results.toList (Tryz.f79.body.getD .skip) [.int .i64,.int .i64] [.snap (.int .i64),.snap (.int .i64),.snap (.int .i64),.snap .bool] (n,c,()) post=Zfd  n c post:=by kernel_rfl
theorem Zce:Z87.holds Tryz.prog RbG 79 :=
 detP Zyf Z8 nHn Z16l (F:=fun x post=>Zfd  x.1 x.2.1 post) (fun x post=>Z16m x.1 x.2.1 post) fun x h _=>Z1er  x.1 x.2.1 h
end Go.Lift

namespace Go.Lift
def Zcf:=fun (ty105 ty111 ty109:Nat) (n c o:Int) (post:Int × Int × Unit→Prop)=>∃ (h:II n c),Br (!(Z0 n c).snd.snd.snd.fst) (post ((-1:Int),(0 :
 Int),())) (∀ (a:Bool),a=decide (o<(0:Int))→Br a (post ((-1:Int),(0:Int),())) (∀ (a:Bool),a=decide (o≥(4:Int))→Br a (post ((-1:Int),(0:Int),()))
 (∃ (h:(List.replicate (4:Nat) (K.arr (2:Nat) (K.int i64)).dflt).length=(4:Nat)∧(4:Nat)=(4:Nat)),∃ (h:(0:Int)≤o∧o<(↑(4:Nat):Int)∧(4 :
 Nat)≤(4:Nat)),∃ (h:(0:Int)≤(0:Int)∧(0:Int)<(↑(2:Nat):Int)),∃ (h:(0:Int)≤o∧o<(↑(4:Nat):Int)∧(4:Nat)≤(4:Nat)),∃ (h:(0:Int)≤(1 :
 Int)∧(1:Int)<(↑(2:Nat):Int)),∃ (h:IIII n (Z0 n c).fst (i64.wrap ((Z0 n c).snd.fst+List.getD ([[(1:Int),(0:Int)],[(0:Int),(1:Int)],[(-1
 : Int),(0:Int)],[(0:Int),(-1:Int)]].getD o.toNat (K.arr (2:Nat) (K.int i64)).dflt) (0:Nat) (0:Int))) (i64.wrap ((Z0 n c).snd.snd.fst +
 List.getD ([[(1:Int),(0:Int)],[(0:Int),(1:Int)],[(-1:Int),(0:Int)],[(0:Int),(-1:Int)]].getD o.toNat (K.arr (2:Nat) (K.int i64)).dflt) ((nat_lit 0
 + (1:Nat)) / (K.int i64).sz) (0:Int)))),∀ (a:Int × Unit),a=Zae n (Z0 n c).fst (i64.wrap ((Z0 n c).snd.fst+List.getD ([[(1:Int),(0 :
 Int)],[(0:Int),(1:Int)],[(-1:Int),(0:Int)],[(0:Int),(-1:Int)]].getD o.toNat (K.arr (2:Nat) (K.int i64)).dflt) (0:Nat) (0:Int))) (i64.wrap
 ((Z0 n c).snd.snd.fst+List.getD ([[(1:Int),(0:Int)],[(0:Int),(1:Int)],[(-1:Int),(0:Int)],[(0:Int),(-1:Int)]].getD o.toNat (K.arr (2:Nat) (K.int
 i64)).dflt) ((nat_lit 0+(1:Nat)) / (K.int i64).sz) (0:Int)))→∀ (a_1:Bool),a_1=decide (a.fst≥(0:Int))→Br a_1 (∃ (h:(4:Int)≠(0:Int)),post
 (a.fst,(i64.wrap (o+(2:Int))).tmod (4:Int),())) (∃ (h:(0:Int)≤(Z0 n c).fst∧(Z0 n c).fst<(↑(6:Nat):Int)),∃ (h:WOut (Zq.getD (Z0
 n c).fst.toNat (K.arr (3:Nat) (K.arr (3:Nat) (K.int i64))).dflt) o),∀ (a:List Int × Unit),a=outR (Zq.getD (Z0 n c).fst.toNat (K.arr (3:Nat) (K.arr (3
 : Nat) (K.int i64))).dflt) o→∃ (h:True),∀ (a_2:Int × Unit),a_2=Z1a6 a.fst→∃ (h:(0:Int)≤a_2.fst∧a_2.fst<(↑(6:Nat):Int)),∃ (h:(List.replicate
 (3:Nat) (K.arr (3:Nat) (K.int i64)).dflt).length=(3:Nat)∧List.length (Zq.getD a_2.fst.toNat (K.arr (3:Nat) (K.arr (3:Nat) (K.int i64))).dflt) =
 (3:Nat)),∃ (h:Z1d n (Z0 n c).fst (Z0 n c).snd.fst (Z0 n c).snd.snd.fst),∀ (a:List Int × Unit),a=Z11e n (Z0 n c).fst (Z0 n c).snd.fst
 (Z0 n c).snd.snd.fst→∃ (h:(0:Int)≤(Z0 n c).fst∧(Z0 n c).fst<(↑(6:Nat):Int)),∃ (h:WOut (Zq.getD (Z0 n c).fst.toNat (K.arr (3:Nat)
 (K.arr (3:Nat) (K.int i64))).dflt) o),∀ (a_3:List Int × Unit),a_3=outR (Zq.getD (Z0 n c).fst.toNat (K.arr (3:Nat) (K.arr (3:Nat) (K.int
 i64))).dflt) o→∃ (h:Z15z a.fst a_3.fst),∀ (a_4:List Int × Unit),a_4=Zy4 a.fst a_3.fst→∃ (h:(List.replicate (3:Nat) (0:Int)).length=(3:Nat) ∧
 a_4.fst.length=(3:Nat)),∃ (h:a_4.fst.length=(3:Nat)),∃ (h:(0:Int)≤(1:Int)∧(1:Int)<(↑(3:Nat):Int)∧(3:Nat)≤List.length (Zq.getD
 a_2.fst.toNat (K.arr (3:Nat) (K.arr (3:Nat) (K.int i64))).dflt)),∃ (h:WDot a_4.fst (List.getD (Zq.getD a_2.fst.toNat (K.arr (3:Nat) (K.arr (3:Nat) (K.int
 i64))).dflt) (Int.toNat (1:Int)) (K.arr (3:Nat) (K.int i64)).dflt)),∀ (a:Int × Unit),a=dotR a_4.fst (List.getD (Zq.getD a_2.fst.toNat (K.arr (3 :
 Nat) (K.arr (3:Nat) (K.int i64))).dflt) (Int.toNat (1:Int)) (K.arr (3:Nat) (K.int i64)).dflt)→∃ (h:Z161 n a.fst),∀ (a_5:Int × Unit),a_5=Z160 n
 a.fst→∃ (h:a_4.fst.length=(3:Nat)),∃ (h:(0:Int)≤(2:Int)∧(2:Int)<(↑(3:Nat):Int)∧(3:Nat)≤List.length (Zq.getD a_2.fst.toNat (K.arr (3:Nat)
 (K.arr (3:Nat) (K.int i64))).dflt)),∃ (h:WDot a_4.fst (List.getD (Zq.getD a_2.fst.toNat (K.arr (3:Nat) (K.arr (3:Nat) (K.int i64))).dflt) (Int.toNat
 (2:Int)) (K.arr (3:Nat) (K.int i64)).dflt)),∀ (a:Int × Unit),a=dotR a_4.fst (List.getD (Zq.getD a_2.fst.toNat (K.arr (3:Nat) (K.arr (3:Nat) (K.int
 i64))).dflt) (Int.toNat (2:Int)) (K.arr (3:Nat) (K.int i64)).dflt)→∃ (h:Z161 n a.fst),∀ (a_6:Int × Unit),a_6=Z160 n a.fst→∃ (h:IIII n a_2.fst
 a_5.fst a_6.fst),∀ (a:Int × Unit),a=Zae n a_2.fst a_5.fst a_6.fst→HIs [HObj.row Md.rw ty105 (K.arr (2:Nat) (K.int i64)) [[(1:Int),(0:Int)],[(0:Int),(1
 : Int)],[(-1:Int),(0:Int)],[(0:Int),(-1:Int)]],HObj.row Md.rw ty111 (K.arr (3:Nat) (K.int i64)) (Zq.getD a_2.fst.toNat (K.arr (3:Nat) (K.arr (3 :
 Nat) (K.int i64))).dflt),HObj.row Md.rw ty109 (K.int i64) a_4.fst] [HObj.row Md.rw ty105 (K.arr (2:Nat) (K.int i64)) [[(1:Int),(0:Int)],[(0 :
 Int),(1:Int)],[(-1:Int),(0:Int)],[(0:Int),(-1:Int)]],HObj.row Md.rw ty111 (K.arr (3:Nat) (K.int i64)) (Zq.getD a_2.fst.toNat (K.arr (3:Nat) (K.arr
 (3:Nat) (K.int i64))).dflt),HObj.row Md.rw ty109 (K.int i64) a_4.fst]∧∃ (I:Int × Unit→Unit→Prop),∃ (μ:Int × Unit→Unit→Nat),I ((0:Int),()) ()
 ∧ ∀ (x:Int × Unit) (y:Unit),I x y→∀ (a_7:Bool),a_7=decide (x.fst<(4:Int))→Br a_7 (∃ (h:List.length (Zq.getD a_2.fst.toNat (K.arr (3:Nat) (K.arr (3 :
 Nat) (K.int i64))).dflt)=(3:Nat)),∃ (h:WOut (Zq.getD a_2.fst.toNat (K.arr (3:Nat) (K.arr (3:Nat) (K.int i64))).dflt) x.fst),∀ (a_8:List Int ×
 Unit),a_8=outR (Zq.getD a_2.fst.toNat (K.arr (3:Nat) (K.arr (3:Nat) (K.int i64))).dflt) x.fst→∃ (h:(0:Int)≤(Z0 n c).fst∧(Z0 n c).fst<(↑(6
 : Nat):Int)),∃ (h:(0:Int)≤(0:Int)∧(0:Int)<(↑(3:Nat):Int)),∀ (a_9:Bool),a_9=eqL a_8.fst (List.getD (Zq.getD (Z0 n c).fst.toNat (K.arr (3:Nat)
 (K.arr (3:Nat) (K.int i64))).dflt) (Int.toNat (0:Int)) (K.arr (3:Nat) (K.int i64)).dflt)→Br a_9 (post (a.fst,x.fst,())) (HIs [HObj.row Md.rw ty105 (K.arr
 (2:Nat) (K.int i64)) [[(1:Int),(0:Int)],[(0:Int),(1:Int)],[(-1:Int),(0:Int)],[(0:Int),(-1:Int)]],HObj.row Md.rw ty111 (K.arr (3:Nat) (K.int
 i64)) (Zq.getD a_2.fst.toNat (K.arr (3:Nat) (K.arr (3:Nat) (K.int i64))).dflt),HObj.row Md.rw ty109 (K.int i64) a_4.fst] [HObj.row Md.rw ty105
 (K.arr (2:Nat) (K.int i64)) [[(1:Int),(0:Int)],[(0:Int),(1:Int)],[(-1:Int),(0:Int)],[(0:Int),(-1:Int)]],HObj.row Md.rw ty111 (K.arr (3:Nat)
 (K.int i64)) (Zq.getD a_2.fst.toNat (K.arr (3:Nat) (K.arr (3:Nat) (K.int i64))).dflt),HObj.row Md.rw ty109 (K.int i64) a_4.fst]∧I
 (i64.wrap (x.fst+(1:Int)),()) ()∧μ (i64.wrap (x.fst+(1:Int)),()) ()<μ x y)) (post ((-1:Int),(0:Int),()))))))
theorem Z1ao (ty0 ty1 ty2:Nat) (n:Int) (c:Int) (o:Int) (h:III n c o):Zcf ty0 ty1 ty2 n c o (fun r=>r=Z1x n c o):=by
 refine ⟨⟨h.1,h.2.1⟩,?_⟩
 have no:Zr n c o=false→((-1:Int),(0:Int),())=Z1x n c o:=by
  intro q
  have:Z7 n c o=(-1,0):=by unfold Z7; rw [if_neg (by rw [q]; decide)]
  unfold Z1x; rw [this]
 by_cases ok:Zl n c=true
 ·rw [Zr3 ok]
  have hm:=Z3u ok
  have hh:=hm
  obtain ⟨n1,n2,f0,f5,i0,i1,j0,j1⟩:=hh
  dsimp only
  refine Br.intro (fun e=>absurd e (by decide)) fun _=>?_
  rintro _ rfl
  refine Br.intro (fun e=>no ?_) fun e=>?_
  ·have e:=of_decide_eq_true e
   unfold Zr; rw [decide_eq_false (p:=0≤o) (by omega)]; simp
  have o0:=of_decide_eq_false e
  rintro _ rfl
  refine Br.intro (fun e=>no ?_) fun e=>?_
  ·have e:=of_decide_eq_true e
   unfold Zr; rw [decide_eq_false (p:=o<4) (by omega)]; simp
  have o4:=of_decide_eq_false e
  have o0:0≤o:=by omega
  have o4:o<4:=by omega
  have okb:Zr n c o=true:=by unfold Zr; rw [ok,decide_eq_true o0,decide_eq_true o4]; rfl
  have d:=dxy (o:=o)
  obtain ⟨F,hF⟩:∃ F,c / (n*n)=F:=⟨_,rfl⟩
  obtain ⟨i,hi0⟩:∃ i,c % n=i:=⟨_,rfl⟩
  obtain ⟨j,hj0⟩:∃ j,c / n % n=j:=⟨_,rfl⟩
  have hb:Z7 n c o=if 0≤Zu n F (i+dxI o) (j+dyI o) then (Zu n F (i+dxI o) (j+dyI o),Int.tmod (o+2) 4) else Z162 n F i j o:=by
   unfold Z7; rw [if_pos okb,hF,hi0,hj0]
  rw [hF,hi0,hj0]
  rw [hF] at hm f0 f5
  rw [hi0] at hm i0 i1
  rw [hj0] at hm j0 j1
  have w1:i64.wrap (i+dxI o)=i+dxI o:=wi ⟨by omega,by omega⟩
  have w2:i64.wrap (j+dyI o)=j+dyI o:=wi ⟨by omega,by omega⟩
  have i6:∀ {z:Int},-1≤z→z≤6144→I64 z:=fun {z} a b=>⟨by omega,by omega⟩
  have fb:=Z4l f0 f5
  have wo:∀ q,WOut (Zz F) q:=fun q=>⟨(fb 1).mono (by decide),(fb 2).mono (by decide)⟩
  refine ⟨⟨rfl,rfl⟩,⟨o0,o4,Nat.le_refl _⟩,⟨by decide,by decide⟩,⟨o0,o4,Nat.le_refl _⟩,⟨by decide,by decide⟩,⟨h.1,i6 (by omega) (by omega),Z1i6 _,Z1i6 _⟩,?_⟩
  intro a ha
  have ha:a=Zae n F (i64.wrap (i+dxI o)) (i64.wrap (j+dyI o)):=ha.trans (by rw [← Z1ul o0 o4,← Z1um o0 o4]; rfl)
  rw [w1,w2] at ha
  obtain ⟨a,⟨⟩⟩:=a
  have ha:a=Zu n F (i+dxI o) (j+dyI o):=congrArg Prod.fst ha
  rw [← ha] at hb
  rintro _ rfl
  refine Br.intro (fun e=>?_) fun e=>?_
  ·have e:a≥0:=of_decide_eq_true e
   rw [if_pos e] at hb
   refine ⟨by decide,?_⟩
   have:i64.wrap (o+2)=o+2:=wi ⟨by omega,by omega⟩
   rw [this]
   unfold Z1x; rw [hb]
  have e:¬ 0≤a:=of_decide_eq_false e
  rw [if_neg e] at hb
  refine ⟨⟨f0,by show F<6; omega⟩,wo o,?_⟩
  rintro ⟨v1,⟨⟩⟩ hv1
  have e1:v1=outF (Zz F) o:=congrArg Prod.fst hv1
  refine ⟨trivial,?_⟩
  rintro ⟨t,⟨⟩⟩ ht
  have et:t=Z3w (outF (Zz F) o):=by rw [← e1]; exact congrArg Prod.fst ht
  obtain ⟨t0,t5⟩:=Z1ti f0 f5 o0 o4
  rw [← et] at t0 t5
  have fl:=Z1dz t0 t5
  have tb:=Z4l t0 t5
  refine ⟨⟨t0,by show t<6; omega⟩,⟨rfl,fl⟩,hm,?_⟩
  rintro ⟨p,⟨⟩⟩ hp
  have ep:p=Z80 n F i j:=congrArg Prod.fst hp
  have pb:Bd 96 p:=by rw [ep]; exact Z1pq hm
  refine ⟨⟨f0,by show F<6; omega⟩,wo o,?_⟩
  rintro ⟨v2,⟨⟩⟩ hv2
  have e2:v2=outF (Zz F) o:=congrArg Prod.fst hv2
  have vb:Bd 1 v2:=by rw [e2]; exact Z1uk f0 f5 o
  refine ⟨⟨pb.mono (by decide),vb.mono (by decide)⟩,?_⟩
  rintro ⟨q,⟨⟩⟩ hq
  have eq:q=Zdw p v2:=congrArg Prod.fst hq
  have ql:q.length=3:=by rw [eq]; rfl
  have qb:Bd 97 q:=by rw [eq]; exact Zy5 pb vb
  refine ⟨⟨rfl,ql⟩,ql,⟨by decide,by decide,Nat.le_of_eq fl.symm⟩,⟨qb.mono (by decide),(tb 1).mono (by decide)⟩,?_⟩
  rintro ⟨d1,⟨⟩⟩ hd1
  have ed1:d1=dotW q (Z1r (Zz t) 1):=congrArg Prod.fst hd1
  have db1:=Z1pp qb (tb 1)
  rw [← ed1] at db1
  refine ⟨⟨n1,n2,by omega,by omega⟩,?_⟩
  rintro ⟨x1,⟨⟩⟩ hx1
  have ex1:x1=Z3m n d1:=congrArg Prod.fst hx1
  have xb1:=Z1e0 (a:=d1) n1
  rw [← ex1] at xb1
  refine ⟨ql,⟨by decide,by decide,Nat.le_of_eq fl.symm⟩,⟨qb.mono (by decide),(tb 2).mono (by decide)⟩,?_⟩
  rintro ⟨d2,⟨⟩⟩ hd2
  have ed2:d2=dotW q (Z1r (Zz t) 2):=congrArg Prod.fst hd2
  have db2:=Z1pp qb (tb 2)
  rw [← ed2] at db2
  refine ⟨⟨n1,n2,by omega,by omega⟩,?_⟩
  rintro ⟨x2,⟨⟩⟩ hx2
  have ex2:x2=Z3m n d2:=congrArg Prod.fst hx2
  have xb2:=Z1e0 (a:=d2) n1
  rw [← ex2] at xb2
  refine ⟨⟨h.1,i6 (by omega) (by omega),i6 (by omega) (by omega),i6 (by omega) (by omega)⟩,?_⟩
  rintro ⟨cc,⟨⟩⟩ hcc
  have ecc:cc=Zu n t x1 x2:=congrArg Prod.fst hcc
  have hov:Z7 n c o=Zdx (Zz t) (Z1r (Zz F) 0) cc 4 0:=by
   rw [hb,ecc,ex1,ex2,ed1,ed2,eq,ep,e2,et]; rfl
  refine ⟨rfl,fun x _=>∃ k:Nat,x.1=k∧k≤4∧Z7 n c o=Zdx (Zz t) (Z1r (Zz F) 0) cc (4 - k) k,fun x _=>4 - x.1.toNat,⟨0,rfl,by omega,hov⟩,?_⟩
  rintro ⟨_,⟨⟩⟩ _ ⟨k,rfl,hk,hi⟩
  dsimp only
  rintro _ rfl
  refine Br.intro (fun g=>?_) fun g=>?_
  ·have g:k<4:=by have g:(k:Int)<4:=of_decide_eq_true g; omega
   refine ⟨fl,⟨(tb 1).mono (by decide),(tb 2).mono (by decide)⟩,?_⟩
   rintro ⟨v3,⟨⟩⟩ hv3
   have e3:v3=outF (Zz t) k:=congrArg Prod.fst hv3
   refine ⟨⟨f0,by show F<6; omega⟩,⟨by decide,by decide⟩,?_⟩
   intro z hz
   have hz:z=decide (outF (Zz t) k=Z1r (Zz F) 0):=by rw [← e3]; exact hz
   obtain ⟨r,hr⟩:∃ r,4 - k=r+1:=⟨3 - k,by omega⟩
   rw [hr] at hi
   unfold Zdx at hi
   rw [hz,Z21 g (by omega)]
   refine Br.intro (fun y=>?_) fun y=>?_
   ·rw [if_pos (of_decide_eq_true y)] at hi
    unfold Z1x; rw [hi]
   ·rw [if_neg (of_decide_eq_false y)] at hi
    exact ⟨rfl,⟨k+1,rfl,by omega,by rw [show 4 - (k+1)=r by omega]; exact hi⟩,by omega⟩
  ·have g:k=4:=by have g:¬ (k:Int)<4:=of_decide_eq_false g; omega
   subst g
   have hi:Z7 n c o=(-1,0):=hi
   unfold Z1x; rw [hi]
 ·rw [Z1i4 ok]
  refine Br.intro (fun _=>no ?_) fun e=>absurd e (by decide)
  unfold Zr; rw [show Zl n c=false by simpa using ok]; rfl
end Go.Lift

namespace Go.Lift
def Z8d:=fun (a:List Int) (k:Int) (post:List Int × Unit→Prop)=>∃ (h:(0:Int)≤(0:Int)∧(0:Int)<(↑(3:Nat):Int)∧(3:Nat)≤a.length),∃ (h
 : (0:Int)≤(1:Int)∧(1:Int)<(↑(3:Nat):Int)∧(3:Nat)≤a.length),∃ (h:(0:Int)≤(2:Int)∧(2:Int)<(↑(3:Nat):Int)∧(3:Nat)≤a.length),∃ (h :
 (List.replicate (3:Nat) (0:Int)).length=(3:Nat)∧(3:Nat)=(3:Nat)),∃ (h:(3:Nat)=(3:Nat)),post ([i64.wrap (k*a.getD (Int.toNat (0:Int)) (0 :
 Int)),i64.wrap (k*a.getD (Int.toNat (1:Int)) (0:Int)),i64.wrap (k*a.getD (Int.toNat (2:Int)) (0:Int))],())
theorem Zyg (a:List Int) (k:Int) (h:Z64 a k) (w:KS.wf [kWay,.int .i64] (a,k,())):Z8d  a k (fun r=>r=Zep a k):=by
 have hl:a.length=3:=w.1.1
 obtain ⟨hb,k1,k2⟩:=h
 have W:∀ i:Nat,i64.wrap (k*a.getD i 0)=k*a.getD i 0:=fun i=>by
  have:=Z2q k1 k2 (hb i).1 (hb i).2
  exact wi ⟨by omega,by omega⟩
 refine ⟨⟨by decide,by decide,by omega⟩,⟨by decide,by decide,by omega⟩,⟨by decide,by decide,by omega⟩,⟨rfl,rfl⟩,rfl,?_⟩
 show ([i64.wrap (k*a.getD 0 0),i64.wrap (k*a.getD 1 0),i64.wrap (k*a.getD 2 0)],())=Zep a k
 rw [W,W,W]; rfl
def Z95:=fun (a b:List Int) (post:List Int × Unit→Prop)=>∃ (h:(0:Int)≤(0:Int)∧(0:Int)<(↑(3:Nat):Int)∧(3:Nat)≤a.length),∃ (h:(0 :
 Int)≤(0:Int)∧(0:Int)<(↑(3:Nat):Int)∧(3:Nat)≤b.length),∃ (h:(0:Int)≤(1:Int)∧(1:Int)<(↑(3:Nat):Int)∧(3:Nat)≤a.length),∃ (h:(0:Int)
 ≤ (1:Int)∧(1:Int)<(↑(3:Nat):Int)∧(3:Nat)≤b.length),∃ (h:(0:Int)≤(2:Int)∧(2:Int)<(↑(3:Nat):Int)∧(3:Nat)≤a.length),∃ (h:(0:Int)≤(2
 : Int)∧(2:Int)<(↑(3:Nat):Int)∧(3:Nat)≤b.length),∃ (h:(List.replicate (3:Nat) (0:Int)).length=(3:Nat)∧(3:Nat)=(3:Nat)),∃ (h:(3:Nat)=(3 :
 Nat)),post ([i64.wrap (a.getD (Int.toNat (0:Int)) (0:Int)+b.getD (Int.toNat (0:Int)) (0:Int)),i64.wrap (a.getD (Int.toNat (1:Int)) (0:Int)+b.getD
 (Int.toNat (1:Int)) (0:Int)),i64.wrap (a.getD (Int.toNat (2:Int)) (0:Int)+b.getD (Int.toNat (2:Int)) (0:Int))],())
theorem Z11j (a:List Int) (b:List Int) (h:Z15z a b) (w:KS.wf [kWay,kWay] (a,b,())):Z95  a b (fun r=>r=Zy4 a b):=by
 have hl:a.length=3:=w.1.1
 have hm:b.length=3:=w.2.1.1
 obtain ⟨ha,hb⟩:=h
 have W:∀ i:Nat,i64.wrap (a.getD i 0+b.getD i 0)=a.getD i 0+b.getD i 0:=fun i=>by
  have:=ha i; have:=hb i
  exact wi ⟨by omega,by omega⟩
 refine ⟨⟨by decide,by decide,by omega⟩,⟨by decide,by decide,by omega⟩,⟨by decide,by decide,by omega⟩,⟨by decide,by decide,by omega⟩,⟨by decide,by decide,by omega⟩,⟨by decide,by decide,by omega⟩,⟨rfl,rfl⟩,rfl,?_⟩
 show ([i64.wrap (a.getD 0 0+b.getD 0 0),i64.wrap (a.getD 1 0+b.getD 1 0),i64.wrap (a.getD 2 0+b.getD 2 0)],())=Zy4 a b
 rw [W,W,W]; rfl
def Zaq:=fun (a b:List Int) (post:Int × Unit→Prop)=>∃ (h:(0:Int)≤(0:Int)∧(0:Int)<(↑(3:Nat):Int)∧(3:Nat)≤a.length),∃ (h:(0:Int) ≤
 (0:Int)∧(0:Int)<(↑(3:Nat):Int)∧(3:Nat)≤b.length),∃ (h:(0:Int)≤(1:Int)∧(1:Int)<(↑(3:Nat):Int)∧(3:Nat)≤a.length),∃ (h:(0:Int)≤(1 :
 Int)∧(1:Int)<(↑(3:Nat):Int)∧(3:Nat)≤b.length),∃ (h:(0:Int)≤(2:Int)∧(2:Int)<(↑(3:Nat):Int)∧(3:Nat)≤a.length),∃ (h:(0:Int)≤(2:Int)
 ∧ (2:Int)<(↑(3:Nat):Int)∧(3:Nat)≤b.length),post (i64.wrap (i64.wrap (i64.wrap (a.getD (Int.toNat (0:Int)) (0:Int)*b.getD (Int.toNat (0
 : Int)) (0:Int))+i64.wrap (a.getD (Int.toNat (1:Int)) (0:Int)*b.getD (Int.toNat (1:Int)) (0:Int)))+i64.wrap (a.getD (Int.toNat (2:Int)) (0:Int)
 * b.getD (Int.toNat (2:Int)) (0:Int))),())
theorem Z16n (a:List Int) (b:List Int) (h:WDot a b) (w:KS.wf [kWay,kWay] (a,b,())):Zaq  a b (fun r=>r=dotR a b):=by
 have hl:a.length=3:=w.1.1
 have hm:b.length=3:=w.2.1.1
 obtain ⟨ha,hb⟩:=h
 have M:∀ i:Nat,-(1048576*1048576)≤a.getD i 0*b.getD i 0∧a.getD i 0*b.getD i 0≤1048576*1048576:=fun i=>Z2q (ha i).1 (ha i).2 (hb i).1 (hb i).2
 have m0:=M 0
 have m1:=M 1
 have m2:=M 2
 refine ⟨⟨by decide,by decide,by omega⟩,⟨by decide,by decide,by omega⟩,⟨by decide,by decide,by omega⟩,⟨by decide,by decide,by omega⟩,⟨by decide,by decide,by omega⟩,⟨by decide,by decide,by omega⟩,?_⟩
 show (i64.wrap (i64.wrap (i64.wrap (a.getD 0 0*b.getD 0 0)+i64.wrap (a.getD 1 0*b.getD 1 0))+i64.wrap (a.getD 2 0*b.getD 2 0)),())=dotR a b
 rw [wi (x:=a.getD 0 0*b.getD 0 0) ⟨by omega,by omega⟩,wi (x:=a.getD 1 0*b.getD 1 0) ⟨by omega,by omega⟩,wi (x:=a.getD 2 0*b.getD 2 0) ⟨by omega,by omega⟩,wi (x:=a.getD 0 0*b.getD 0 0+a.getD 1 0*b.getD 1 0) ⟨by omega,by omega⟩,wi ⟨by omega,by omega⟩]
 rfl
def Z8e:=fun (f:List (List Int)) (s:Int) (post:List Int × Unit→Prop)=>∀ (a:Bool),a=(s==(0:Int))→Br a (∃ (h:(0:Int)≤(1:Int)∧(1:Int) <
 (↑(3:Nat):Int)∧(3:Nat)≤f.length),∃ (h:(List.replicate (3:Nat) (0:Int)).length=(3:Nat)∧List.length (f.getD (Int.toNat (1:Int)) (K.arr (3:Nat) (K.int
 i64)).dflt)=(3:Nat)),∃ (h:List.length (f.getD (Int.toNat (1:Int)) (K.arr (3:Nat) (K.int i64)).dflt)=(3:Nat)),post (f.getD (Int.toNat (1:Int))
 (K.arr (3:Nat) (K.int i64)).dflt,())) (∀ (a:Bool),a=(s==(1:Int))→Br a (∃ (h:(0:Int)≤(2:Int)∧(2:Int)<(↑(3:Nat):Int)∧(3:Nat)≤f.length),
 ∃ (h:(List.replicate (3:Nat) (0:Int)).length=(3:Nat)∧List.length (f.getD (Int.toNat (2:Int)) (K.arr (3:Nat) (K.int i64)).dflt)=(3:Nat)),∃ (h :
 List.length (f.getD (Int.toNat (2:Int)) (K.arr (3:Nat) (K.int i64)).dflt)=(3:Nat)),post (f.getD (Int.toNat (2:Int)) (K.arr (3:Nat) (K.int i64)).dflt,
 ())) (∀ (a:Bool),a=(s==(2:Int))→Br a (∃ (h:(0:Int)≤(1:Int)∧(1:Int)<(↑(3:Nat):Int)∧(3:Nat)≤f.length),∃ (h:Z64 (f.getD (Int.toNat (1:Int))
 (K.arr (3:Nat) (K.int i64)).dflt) (-1:Int)),∀ (a:List Int × Unit),a=Zep (f.getD (Int.toNat (1:Int)) (K.arr (3:Nat) (K.int i64)).dflt) (-1:Int) →
 ∃ (h:(List.replicate (3:Nat) (0:Int)).length=(3:Nat)∧a.fst.length=(3:Nat)),∃ (h:a.fst.length=(3:Nat)),post (a.fst,())) (∃ (h:(0:Int)≤(2:Int)∧(2
 : Int)<(↑(3:Nat):Int)∧(3:Nat)≤f.length),∃ (h:Z64 (f.getD (Int.toNat (2:Int)) (K.arr (3:Nat) (K.int i64)).dflt) (-1:Int)),∀ (a:List Int × Unit),
 a=Zep (f.getD (Int.toNat (2:Int)) (K.arr (3:Nat) (K.int i64)).dflt) (-1:Int)→∃ (h:(List.replicate (3:Nat) (0:Int)).length=(3:Nat)∧a.fst.length =
 (3:Nat)),∃ (h:a.fst.length=(3:Nat)),post (a.fst,()))))
theorem Zyh (f:List (List Int)) (s:Int) (h:WOut f s) (w:KS.wf [Z1i0,.int .i64] (f,s,())):Z8e  f s (fun r=>r=outR f s):=by
 have hl:f.length=3:=w.1.1
 have hm:∀ i,(Z1r f i).length=3:=fun i=>by
  unfold Z1r
  rcases Nat.lt_or_ge i f.length with g | g
  ·exact (w.1.2 _ (Z39 g [0,0,0])).1
  ·rw [List.getD_eq_getElem?_getD,List.getElem?_eq_none g]; rfl
 obtain ⟨h1,h2⟩:=h
 have t1:Z64 (Z1r f 1) (-1):=⟨h1,by decide,by decide⟩
 have t2:Z64 (Z1r f 2) (-1):=⟨h2,by decide,by decide⟩
 rintro _ rfl
 refine Br.intro (fun e=>?_) fun e=>?_
 ·have e:s=0:=beq_iff_eq.1 e
  exact ⟨⟨by decide,by decide,by omega⟩,⟨rfl,hm 1⟩,hm 1,congrArg r1 (by unfold outF; rw [if_pos e]; rfl)⟩
 have e:¬ s=0:=fun q=>by rw [q] at e; cases e
 rintro _ rfl
 refine Br.intro (fun g=>?_) fun g=>?_
 ·have g:s=1:=beq_iff_eq.1 g
  exact ⟨⟨by decide,by decide,by omega⟩,⟨rfl,hm 2⟩,hm 2,congrArg r1 (by unfold outF; rw [if_neg e,if_pos g]; rfl)⟩
 have g:¬ s=1:=fun q=>by rw [q] at g; cases g
 rintro _ rfl
 refine Br.intro (fun j=>?_) fun j=>?_
 ·have j:s=2:=beq_iff_eq.1 j
  refine ⟨⟨by decide,by decide,by omega⟩,t1,?_⟩
  rintro _ rfl
  exact ⟨⟨rfl,rfl⟩,rfl,congrArg r1 (by unfold outF; rw [if_neg e,if_neg g,if_pos j]; rfl)⟩
 have j:¬ s=2:=fun q=>by rw [q] at j; cases j
 refine ⟨⟨by decide,by decide,by omega⟩,t2,?_⟩
 rintro _ rfl
 exact ⟨⟨rfl,rfl⟩,rfl,congrArg r1 (by unfold outF; rw [if_neg e,if_neg g,if_neg j]; rfl)⟩
def Zcg:=fun (ty154:Nat) (c:List Int) (post:Int × Unit→Prop)=>HIs [HObj.row Md.rw ty154 (K.int i64) c] [HObj.row Md.rw ty154 (K.int i64) c] ∧
 ∃ (I:Int × Unit→Unit→Prop),∃ (μ:Int × Unit→Unit→Nat),I ((0:Int),()) ()∧∀ (x:Int × Unit) (y:Unit),I x y→∀ (a:Bool),a=decide (x.fst<(6:Int))→Br
 a (∃ (h:(0:Int)≤x.fst∧x.fst<(↑(6:Nat):Int)),∃ (h:(0:Int)≤(0:Int)∧(0:Int)<(↑(3:Nat):Int)),∃ (h:c.length=(3:Nat)),∀ (a:Bool),a=eqL
 (List.getD (Zq.getD x.fst.toNat (K.arr (3:Nat) (K.arr (3:Nat) (K.int i64))).dflt) (Int.toNat (0:Int)) (K.arr (3:Nat) (K.int i64)).dflt) c→Br a (post
 (x.fst,())) (HIs [HObj.row Md.rw ty154 (K.int i64) c] [HObj.row Md.rw ty154 (K.int i64) c]∧I (i64.wrap (x.fst+(1:Int)),()) ()∧μ (i64.wrap
 (x.fst+(1:Int)),()) ()<μ x y)) (post ((-1:Int),()))
theorem Z1ap (ty0:Nat) (c:List Int) (w:KS.wf [kWay] (c,())):Zcg ty0 c (fun r=>r=Z1a6 c):=by
 have hl:c.length=3:=w.1.1
 refine ⟨rfl,fun x _=>∃ k:Nat,x.1=k∧k≤6∧Z3w c=Zv6 (fun fr=>decide (Z1r fr 0=c)) k (Zq.drop k),fun x _=>6 - x.1.toNat,⟨0,rfl,by omega,rfl⟩,?_⟩
 rintro ⟨_,⟨⟩⟩ _ ⟨k,rfl,hk,hi⟩
 dsimp only
 rintro _ rfl
 refine Br.intro (fun e=>?_) fun e=>?_
 ·have e:k<6:=by have e:(k:Int)<6:=of_decide_eq_true e; omega
  refine ⟨⟨by omega,by show (k:Int)<6; omega⟩,⟨by decide,by decide⟩,hl,?_⟩
  rw [Z1pf (l:=Zq) (i:=k) e [[0,0,0],[0,0,0],[0,0,0]],Z1k7] at hi
  rw [Int.toNat_natCast,Z21 e (by omega)]
  intro z hz
  have hz:z=decide (Z1r (Zq.getD k [[0,0,0],[0,0,0],[0,0,0]]) 0=c):=hz
  rw [hz]
  refine Br.intro (fun g=>?_) fun g=>?_
  ·rw [if_pos g] at hi
   exact congrArg r1 hi.symm
  ·rw [if_neg (by rw [g]; decide)] at hi
   exact ⟨rfl,⟨k+1,rfl,by omega,hi⟩,by omega⟩
 ·have e:k=6:=by have e:¬ (k:Int)<6:=of_decide_eq_false e; omega
  subst e
  exact congrArg r1 (by rw [hi]; rfl)
def Zim:=fun (n f i j:Int) (post:Int × Unit→Prop)=>∃ (h:True),∀ (a:Bool),a=(Z15u n).fst→Br (!a) (post ((-1:Int),())) (∀ (a:Bool),a=decide (f <
 (0:Int))→Br a (post ((-1:Int),())) (∀ (a:Bool),a=decide (f≥(6:Int))→Br a (post ((-1:Int),())) (∀ (a:Bool),a=decide (i<(0:Int))→Br a (post ((-1 :
 Int),())) (∀ (a:Bool),a=decide (i≥n)→Br a (post ((-1:Int),())) (∀ (a:Bool),a=decide (j<(0:Int))→Br a (post ((-1:Int),())) (∀ (a:Bool),a=decide (j ≥
 n)→Br a (post ((-1:Int),())) (post (i64.wrap (i64.wrap (i64.wrap (i64.wrap (f*n)+j)*n)+i),()))))))))
theorem Z1iq (n:Int) (f:Int) (i:Int) (j:Int) (h:IIII n f i j):Zim  n f i j (fun r=>r=Zae n f i j):=by
 obtain ⟨hn,hf,hi,hj⟩:=h
 have no:Z26 n f i j=false→((-1:Int),())=Zae n f i j:=fun q=>congrArg r1 (by unfold Zu; rw [if_neg (by rw [q]; decide)])
 have ok:∀ p,(Z1i n&&decide (0≤f)&&decide (f<6)&&decide (0≤i)&&decide (i<n)&&decide (0≤j)&&decide (j<n))=p→Z26 n f i j=p:=fun p q=>q
 refine ⟨trivial,?_⟩
 intro g hg
 have hg:g=Z1i n:=hg
 rw [hg]
 refine Br.intro (fun e=>no (ok _ ?_)) fun e=>?_
 ·have e:Z1i n=false:=by simpa using e
  rw [e]; rfl
 have e:Z1i n=true:=by simpa using e
 rintro _ rfl
 refine Br.intro (fun q=>no (ok _ ?_)) fun q=>?_
 ·rw [decide_eq_false (p:=0≤f) (by have:=of_decide_eq_true q; omega)]; simp
 have q1:=of_decide_eq_false q
 rintro _ rfl
 refine Br.intro (fun q=>no (ok _ ?_)) fun q=>?_
 ·rw [decide_eq_false (p:=f<6) (by have:=of_decide_eq_true q; omega)]; simp
 have q2:=of_decide_eq_false q
 rintro _ rfl
 refine Br.intro (fun q=>no (ok _ ?_)) fun q=>?_
 ·rw [decide_eq_false (p:=0≤i) (by have:=of_decide_eq_true q; omega)]; simp
 have q3:=of_decide_eq_false q
 rintro _ rfl
 refine Br.intro (fun q=>no (ok _ ?_)) fun q=>?_
 ·rw [decide_eq_false (p:=i<n) (by have:=of_decide_eq_true q; omega)]; simp
 have q4:=of_decide_eq_false q
 rintro _ rfl
 refine Br.intro (fun q=>no (ok _ ?_)) fun q=>?_
 ·rw [decide_eq_false (p:=0≤j) (by have:=of_decide_eq_true q; omega)]; simp
 have q5:=of_decide_eq_false q
 rintro _ rfl
 refine Br.intro (fun q=>no (ok _ ?_)) fun q=>?_
 ·rw [decide_eq_false (p:=j<n) (by have:=of_decide_eq_true q; omega)]; simp
 have q6:=of_decide_eq_false q
 have hok:Z26 n f i j=true:=by
  unfold Z26
  rw [e,decide_eq_true (p:=0≤f) (by omega),decide_eq_true (p:=f<6) (by omega),decide_eq_true (p:=0≤i) (by omega),decide_eq_true (p:=i<n) (by omega),decide_eq_true (p:=0≤j) (by omega),decide_eq_true (p:=j<n) (by omega)]; rfl
 obtain ⟨r0,r1',n1,n2⟩:=Zca hok
 have hv:Zu n f i j=(f*n+j)*n+i:=by unfold Zu; rw [if_pos hok]
 rw [hv] at r0 r1'
 have sq:=Zkp n1 n2
 have b1:0≤f*n:=Int.mul_nonneg (by omega) (by omega)
 have b2:f*n≤5*n:=Int.mul_le_mul_of_nonneg_right (by omega) (by omega)
 have b3:0≤(f*n+j)*n:=Int.mul_nonneg (by omega) (by omega)
 rw [wi (x:=f*n) ⟨by omega,by omega⟩,wi (x:=f*n+j) ⟨by omega,by omega⟩,wi (x:=(f*n+j)*n) ⟨by omega,by omega⟩,wi (x:=(f*n+j)*n+i) ⟨by omega,by omega⟩]
 exact congrArg r1 hv.symm
def Z88:=fun (n f i j:Int) (post:List Int × Unit→Prop)=>∃ (h:(0:Int)≤f∧f<(↑(6:Nat):Int)),∃ (h:(List.replicate (3:Nat) (K.arr (3:Nat) (K.int
 i64)).dflt).length=(3:Nat)∧List.length (Zq.getD f.toNat (K.arr (3:Nat) (K.arr (3:Nat) (K.int i64))).dflt)=(3:Nat)),∃ (h:(0:Int)≤(0:Int)
 ∧ (0:Int)<(↑(3:Nat):Int)∧(3:Nat)≤List.length (Zq.getD f.toNat (K.arr (3:Nat) (K.arr (3:Nat) (K.int i64))).dflt)),∃ (h:Z64 (List.getD
 (Zq.getD f.toNat (K.arr (3:Nat) (K.arr (3:Nat) (K.int i64))).dflt) (Int.toNat (0:Int)) (K.arr (3:Nat) (K.int i64)).dflt) n),∀ (a:List Int × Unit),
 a=Zep (List.getD (Zq.getD f.toNat (K.arr (3:Nat) (K.arr (3:Nat) (K.int i64))).dflt) (Int.toNat (0:Int)) (K.arr (3:Nat) (K.int i64)).dflt) n→∃
 (h:(0:Int)≤(1:Int)∧(1:Int)<(↑(3:Nat):Int)∧(3:Nat)≤List.length (Zq.getD f.toNat (K.arr (3:Nat) (K.arr (3:Nat) (K.int i64))).dflt)),∃ (h :
 Z64 (List.getD (Zq.getD f.toNat (K.arr (3:Nat) (K.arr (3:Nat) (K.int i64))).dflt) (Int.toNat (1:Int)) (K.arr (3:Nat) (K.int i64)).dflt)
 (i64.wrap (i64.wrap (i64.wrap ((2:Int)*i)+(1:Int)) - n))),∀ (a_1:List Int × Unit),a_1=Zep (List.getD (Zq.getD f.toNat (K.arr (3 :
 Nat) (K.arr (3:Nat) (K.int i64))).dflt) (Int.toNat (1:Int)) (K.arr (3:Nat) (K.int i64)).dflt) (i64.wrap (i64.wrap (i64.wrap ((2 :
 Int)*i)+(1:Int)) - n))→∃ (h:Z15z a.fst a_1.fst),∀ (a_2:List Int × Unit),a_2=Zy4 a.fst a_1.fst→∃ (h:(0:Int)≤(2:Int)∧(2:Int)<(↑(3:Nat):Int) ∧
 (3:Nat)≤List.length (Zq.getD f.toNat (K.arr (3:Nat) (K.arr (3:Nat) (K.int i64))).dflt)),∃ (h:Z64 (List.getD (Zq.getD f.toNat (K.arr (3:Nat)
 (K.arr (3:Nat) (K.int i64))).dflt) (Int.toNat (2:Int)) (K.arr (3:Nat) (K.int i64)).dflt) (i64.wrap (i64.wrap (i64.wrap ((2:Int) *
 j)+(1:Int)) - n))),∀ (a:List Int × Unit),a=Zep (List.getD (Zq.getD f.toNat (K.arr (3:Nat) (K.arr (3:Nat) (K.int i64))).dflt) (Int.toNat (2:Int))
 (K.arr (3:Nat) (K.int i64)).dflt) (i64.wrap (i64.wrap (i64.wrap ((2:Int)*j)+(1:Int)) - n))→∃ (h:Z15z a_2.fst a.fst),∀ (a_3:List
 Int × Unit),a_3=Zy4 a_2.fst a.fst→∃ (h:(List.replicate (3:Nat) (0:Int)).length=(3:Nat)∧a_3.fst.length=(3:Nat)),∃ (h:a_3.fst.length=(3:Nat)),post
 (a_3.fst,())
theorem Z1aq (n:Int) (f:Int) (i:Int) (j:Int) (h:Z1d n f i j):Z88  n f i j (fun r=>r=Z11e n f i j):=by
 have hh:=h
 obtain ⟨n1,n2,f0,f5,i0,i1,j0,j1⟩:=h
 have fl:(Zq.getD f.toNat (K.arr (3:Nat) (K.arr (3:Nat) (K.int i64))).dflt).length=3:=Z1dz f0 f5
 have b:=Z4l f0 f5
 have t0:Z64 (Z1r (Zz f) 0) n:=⟨(b 0).mono (by decide),by omega,by omega⟩
 have w1:i64.wrap (i64.wrap (i64.wrap (2*i)+1) - n)=2*i+1 - n:=by
  rw [wi (x:=2*i) ⟨by omega,by omega⟩,wi (x:=2*i+1) ⟨by omega,by omega⟩,wi ⟨by omega,by omega⟩]
 have w2:i64.wrap (i64.wrap (i64.wrap (2*j)+1) - n)=2*j+1 - n:=by
  rw [wi (x:=2*j) ⟨by omega,by omega⟩,wi (x:=2*j+1) ⟨by omega,by omega⟩,wi ⟨by omega,by omega⟩]
 unfold Z88
 rw [w1,w2]
 have t1:Z64 (Z1r (Zz f) 1) (2*i+1 - n):=⟨(b 1).mono (by decide),by omega,by omega⟩
 have t2:Z64 (Z1r (Zz f) 2) (2*j+1 - n):=⟨(b 2).mono (by decide),by omega,by omega⟩
 have c0:=Z78 (q:=32) (b 0) (k:=n) (by omega) (by omega)
 have c1:=Z78 (q:=32) (b 1) (k:=2*i+1 - n) (by omega) (by omega)
 have c2:=Z78 (q:=32) (b 2) (k:=2*j+1 - n) (by omega) (by omega)
 have p1:=Zy5 c0 c1
 refine ⟨⟨f0,by show f<6; omega⟩,⟨rfl,fl⟩,⟨by decide,by decide,by omega⟩,t0,?_⟩
 rintro _ rfl
 refine ⟨⟨by decide,by decide,by omega⟩,t1,?_⟩
 rintro _ rfl
 refine ⟨⟨c0.mono (by decide),c1.mono (by decide)⟩,?_⟩
 rintro _ rfl
 refine ⟨⟨by decide,by decide,by omega⟩,t2,?_⟩
 rintro _ rfl
 refine ⟨⟨p1.mono (by decide),c2.mono (by decide)⟩,?_⟩
 rintro _ rfl
 exact ⟨⟨rfl,rfl⟩,rfl,rfl⟩
def Zff:=fun (n a:Int) (post:Int × Unit→Prop)=>∃ (h:(2:Int)≠(0:Int)),post (imin (imax (i64.wrap ((i64.wrap (i64.wrap (a+n) -
 (1:Int))).tdiv (2:Int))) (0:Int)) (i64.wrap (n - (1:Int))),())
theorem Z1es (n:Int) (a:Int) (h:Z161 n a):Zff  n a (fun r=>r=Z160 n a):=by
 obtain ⟨n1,n2,a1,a2⟩:=h
 have w1:i64.wrap (i64.wrap (a+n) - 1)=a+n - 1:=by
  rw [wi (x:=a+n) ⟨by omega,by omega⟩,wi ⟨by omega,by omega⟩]
 have w2:i64.wrap (n - 1)=n - 1:=wi ⟨by omega,by omega⟩
 have w3:i64.wrap (Int.tdiv (a+n - 1) 2)=Int.tdiv (a+n - 1) 2:=by
  have:(Int.tdiv (a+n - 1) 2).natAbs≤(a+n - 1).natAbs:=by rw [Int.natAbs_tdiv]; exact Nat.div_le_self _ _
  exact wi ⟨by omega,by omega⟩
 exact ⟨by decide,by rw [w1,w2,w3]; rfl⟩
end Go.Lift

namespace Go.Lift
open Go.Proofs
def Z7g:Con:=Con.nam [kWay,.int .i64] [.snap kWay] (fun x=>Z64 x.1 x.2.1) (fun x=>Zep x.1 x.2.1)
def Zeu:Cx:=⟨Zd Zf,Ze [],RbG⟩
theorem Zoa:CxOk Tryz.prog Zeu:=⟨Z3 Z6,fun f c h=>by cases h⟩
theorem Zt8:FnAt Tryz.prog 116 Tryz.f116.ntmps Tryz.f116.results.toList (Tryz.f116.body.getD .skip):=⟨Tryz.f116,Tryz.func116,rfl,rfl,by simp,by decide⟩
theorem Zt9 (a:List Int) (k:Int) (post:(List Int) × Unit→Prop):Z9 Zeu nHn Tryz.f116.ntmps Tryz.f116.results.toList (Tryz.f116.body.getD .skip) [kWay,.int .i64] [.snap kWay] (a,k,()) post=Z8d  a k post:=by kernel_rfl
theorem Zev:Z7g.holds Tryz.prog RbG 116 :=
 Zo (detP Zoa Z8 nHn Zt8 (F:=fun x post=>Z8d  x.1 x.2.1 post) (fun x post=>Zt9 x.1 x.2.1 post) fun x h w=>Zyg  x.1 x.2.1 h w)
def Z8f:Con:=Con.nam [kWay,kWay] [.snap kWay] (fun x=>Z15z x.1 x.2.1) (fun x=>Zy4 x.1 x.2.1)
def Zgg:Cx:=⟨Zd Zf,Ze [],RbG⟩
theorem Zrd:CxOk Tryz.prog Zgg:=⟨Z3 Z6,fun f c h=>by cases h⟩
theorem Zvj:FnAt Tryz.prog 84 Tryz.f84.ntmps Tryz.f84.results.toList (Tryz.f84.body.getD .skip):=⟨Tryz.f84,Tryz.func84,rfl,rfl,by simp,by decide⟩
theorem Zvk (a:List Int) (b:List Int) (post:(List Int) × Unit→Prop):Z9 Zgg nHn Tryz.f84.ntmps Tryz.f84.results.toList (Tryz.f84.body.getD .skip) [kWay,kWay] [.snap kWay] (a,b,()) post=Z95  a b post:=by kernel_rfl
theorem Zgh:Z8f.holds Tryz.prog RbG 84 :=
 Zo (detP Zrd Z8 nHn Zvj (F:=fun x post=>Z95  x.1 x.2.1 post) (fun x post=>Zvk x.1 x.2.1 post) fun x h w=>Z11j  x.1 x.2.1 h w)
def Zin:Con:=Con.nam [kWay,kWay] [.snap (.int .i64)] (fun x=>WDot x.1 x.2.1) (fun x=>dotR x.1 x.2.1)
def Zio:Cx:=⟨Zd Zf,Ze [],RbG⟩
theorem Zta:CxOk Tryz.prog Zio:=⟨Z3 Z6,fun f c h=>by cases h⟩
theorem Zyi:FnAt Tryz.prog 86 Tryz.f86.ntmps Tryz.f86.results.toList (Tryz.f86.body.getD .skip):=⟨Tryz.f86,Tryz.func86,rfl,rfl,by simp,by decide⟩
theorem Zyj (a:List Int) (b:List Int) (post:Int × Unit→Prop):Z9 Zio nHn Tryz.f86.ntmps Tryz.f86.results.toList (Tryz.f86.body.getD .skip) [kWay,kWay] [.snap (.int .i64)] (a,b,()) post=Zaq  a b post:=by kernel_rfl
theorem Z11k:Zin.holds Tryz.prog RbG 86 :=
 Zo (detP Zta Z8 nHn Zyi (F:=fun x post=>Zaq  x.1 x.2.1 post) (fun x post=>Zyj x.1 x.2.1 post) fun x h w=>Z16n  x.1 x.2.1 h w)
def Zew:Con:=Con.nam [Z1i0,.int .i64] [.snap kWay] (fun x=>WOut x.1 x.2.1) (fun x=>outR x.1 x.2.1)
def Zex:Cx:=⟨Zd Zf,Ze [(116,Z7g)],RbG⟩
theorem Zob:CxOk Tryz.prog Zex:=⟨Z3 Z6,Z5 ⟨Zev,trivial⟩⟩
theorem Ztb:FnAt Tryz.prog 82 Tryz.f82.ntmps Tryz.f82.results.toList (Tryz.f82.body.getD .skip):=⟨Tryz.f82,Tryz.func82,rfl,rfl,by simp,by decide⟩
theorem Ztc (f:List (List Int)) (s:Int) (post:(List Int) × Unit→Prop):Z9 Zex nHn Tryz.f82.ntmps Tryz.f82.results.toList (Tryz.f82.body.getD .skip) [Z1i0,.int .i64] [.snap kWay] (f,s,()) post=Z8e  f s post:=by kernel_rfl
theorem Zvl:Zew.holds Tryz.prog RbG 82 :=
 Zo (detP Zob Z8 nHn Ztb (F:=fun x post=>Z8e  x.1 x.2.1 post) (fun x post=>Ztc x.1 x.2.1 post) fun x h w=>Zyh  x.1 x.2.1 h w)
def Zkz:Con:=Con.nam [kWay] [.snap (.int .i64)] (fun _=>True) (fun x=>Z1a6 x.1)
def Zip:Hn:={ loops:=Z22 [(2,{ ls:=[(.slot 4,.data (.int .i64))],os:=[] })],joins:=fun _=>none,named:=true }
def Zl0:Cx:=⟨Zd Zf,Ze [],RbG⟩
theorem Zvm:CxOk Tryz.prog Zl0:=⟨Z3 Z6,fun f c h=>by cases h⟩
theorem Z11l:FnAt Tryz.prog 81 Tryz.f81.ntmps Tryz.f81.results.toList (Tryz.f81.body.getD .skip):=⟨Tryz.f81,Tryz.func81,rfl,rfl,by simp,by decide⟩
theorem Z11m (c:List Int) (post:Int × Unit→Prop):Z9 Zl0 Zip Tryz.f81.ntmps Tryz.f81.results.toList (Tryz.f81.body.getD .skip) [kWay] [.snap (.int .i64)] (c,()) post=Zcg 109 c post:=by kernel_rfl
theorem Z16o:Zkz.holds Tryz.prog RbG 81 :=
 Zo (detP Zvm Z8 Zip Z11l (F:=fun x post=>Zcg 109 x.1 post) (fun x post=>Z11m x.1 post) fun x _ w=>Z1ap 109 x.1 w)
def Zse:Con:=Con.nam [.int .i64,.int .i64,.int .i64,.int .i64] [.snap (.int .i64)] (fun x=>IIII x.1 x.2.1 x.2.2.1 x.2.2.2.1) (fun x=>Zae x.1 x.2.1 x.2.2.1 x.2.2.2.1)
def Zoc:Hn:=nHn
def Zsf:Cx:=⟨Zd Zf,Ze [(97,Zfe)],RbG⟩
theorem Z11n:CxOk Tryz.prog Zsf:=⟨Z3 Z6,Z5 ⟨Zsd,trivial⟩⟩
theorem Z1ar:FnAt Tryz.prog 80 Tryz.f80.ntmps Tryz.f80.results.toList (Tryz.f80.body.getD .skip):=⟨Tryz.f80,Tryz.func80,rfl,rfl,by simp,by decide⟩
theorem Z1as (n:Int) (f:Int) (i:Int) (j:Int) (post:Int × Unit→Prop):Z9 Zsf Zoc Tryz.f80.ntmps Tryz.f80.results.toList (Tryz.f80.body.getD .skip) [.int .i64,.int .i64,.int .i64,.int .i64] [.snap (.int .i64)] (n,f,i,j,()) post=Zim  n f i j post:=by kernel_rfl
theorem Z1et:Zse.holds Tryz.prog RbG 80 :=
 Zo (detP Z11n Z8 Zoc Z1ar (F:=fun x post=>Zim  x.1 x.2.1 x.2.2.1 x.2.2.2.1 post) (fun x post=>Z1as x.1 x.2.1 x.2.2.1 x.2.2.2.1 post) fun x h _=>Z1iq  x.1 x.2.1 x.2.2.1 x.2.2.2.1 h)
def Zl1:Con:=Con.nam [.int .i64,.int .i64,.int .i64,.int .i64] [.snap kWay] (fun x=>Z1d x.1 x.2.1 x.2.2.1 x.2.2.2.1) (fun x=>Z11e x.1 x.2.1 x.2.2.1 x.2.2.2.1)
def Zl2:Cx:=⟨Zd Zf,Ze [(116,Z7g),(84,Z8f)],RbG⟩
theorem Zvn:CxOk Tryz.prog Zl2:=⟨Z3 Z6,Z5 ⟨Zev,Zgh,trivial⟩⟩
theorem Z11o:FnAt Tryz.prog 83 Tryz.f83.ntmps Tryz.f83.results.toList (Tryz.f83.body.getD .skip):=⟨Tryz.f83,Tryz.func83,rfl,rfl,by simp,by decide⟩
theorem Z11p (n:Int) (f:Int) (i:Int) (j:Int) (post:(List Int) × Unit→Prop):Z9 Zl2 nHn Tryz.f83.ntmps Tryz.f83.results.toList (Tryz.f83.body.getD .skip) [.int .i64,.int .i64,.int .i64,.int .i64] [.snap kWay] (n,f,i,j,()) post=Z88  n f i j post:=by kernel_rfl
theorem Z16p:Zl1.holds Tryz.prog RbG 83 :=
 Zo (detP Zvn Z8 nHn Z11o (F:=fun x post=>Z88  x.1 x.2.1 x.2.2.1 x.2.2.2.1 post) (fun x post=>Z11p x.1 x.2.1 x.2.2.1 x.2.2.2.1 post) fun x h _=>Z1aq  x.1 x.2.1 x.2.2.1 x.2.2.2.1 h)
def Zod:Con:=Con.nam [.int .i64,.int .i64] [.snap (.int .i64)] (fun x=>Z161 x.1 x.2.1) (fun x=>Z160 x.1 x.2.1)
def Zoe:Cx:=⟨Zd Zf,Ze [],RbG⟩
theorem Zyk:CxOk Tryz.prog Zoe:=⟨Z3 Z6,fun f c h=>by cases h⟩
theorem Z16q:FnAt Tryz.prog 85 Tryz.f85.ntmps Tryz.f85.results.toList (Tryz.f85.body.getD .skip):=⟨Tryz.f85,Tryz.func85,rfl,rfl,by simp,by decide⟩
theorem Z16r (n:Int) (a:Int) (post:Int × Unit→Prop):Z9 Zoe nHn Tryz.f85.ntmps Tryz.f85.results.toList (Tryz.f85.body.getD .skip) [.int .i64,.int .i64] [.snap (.int .i64)] (n,a,()) post=Zff  n a post:=by kernel_rfl
theorem Z1at:Zod.holds Tryz.prog RbG 85 :=
 Zo (detP Zyk Z8 nHn Z16q (F:=fun x post=>Zff  x.1 x.2.1 post) (fun x post=>Z16r x.1 x.2.1 post) fun x h _=>Z1es  x.1 x.2.1 h)
end Go.Lift

namespace Go.Lift
open Go.Proofs
def Zar:Con:=Con.nam [.int .i64,.int .i64,.int .i64] [.snap (.int .i64),.snap (.int .i64)] (fun x=>III x.1 x.2.1 x.2.2.1) (fun x=>Z1x x.1 x.2.1 x.2.2.1)
def Ziq:Hn:={ loops:=Z22 [(13,{ ls:=[(.slot 98,.data (.int .i64))],os:=[] })],joins:=fun _=>none,named:=true }
def Zl3:Cx:=⟨Zd Zf,Ze [(79,Z87),(80,Zse),(82,Zew),(81,Zkz),(83,Zl1),(84,Z8f),(86,Zin),(85,Zod)],RbG⟩
theorem Zvo:CxOk Tryz.prog Zl3:=⟨Z3 Z6,Z5 ⟨Zce,Z1et,Zvl,Z16o,Z16p,Zgh,Z11k,Z1at,trivial⟩⟩
theorem Z11q:FnAt Tryz.prog 35 Tryz.f35.ntmps Tryz.f35.results.toList (Tryz.f35.body.getD .skip):=⟨Tryz.f35,Tryz.func35,rfl,rfl,by simp,by decide⟩
theorem Z11r (n:Int) (c:Int) (o:Int) (post:Int × Int × Unit→Prop):Z9 Zl3 Ziq Tryz.f35.ntmps Tryz.f35.results.toList (Tryz.f35.body.getD .skip) [.int .i64,.int .i64,.int .i64] [.snap (.int .i64),.snap (.int .i64)] (n,c,o,()) post=Zcf 105 111 109 n c o post:=by kernel_rfl
theorem Zl4:Zar.holds Tryz.prog RbG 35 :=
 Zo (detP Zvo Z8 Ziq Z11q (F:=fun x post=>Zcf 105 111 109 x.1 x.2.1 x.2.2.1 post) (fun x post=>Z11r x.1 x.2.1 x.2.2.1 post) fun x h _=>Z1ao 105 111 109 x.1 x.2.1 x.2.2.1 h)
end Go.Lift

namespace Go.Lift
def Zch:=fun (n c:Int) (post:(Nat × Nat × Nat) × Bool × Unit→Prop)=>∃ (h:II n c),Br (!(Z0 n c).snd.snd.snd.fst) (post (((0:Nat),(0:Nat),(0 :
 Nat)),false,())) (∃ (h:Z76 (i64.wrap (i64.wrap (i64.wrap ((2:Int)*(Z0 n c).snd.fst)+(1:Int)) - n)) n),∃ (h:Z76
 (i64.wrap (i64.wrap (i64.wrap ((2:Int)*(Z0 n c).snd.snd.fst)+(1:Int)) - n)) n),∃ (h:Zie (Z0 n c).fst (Z1s (i64.wrap
 (i64.wrap (i64.wrap ((2:Int)*(Z0 n c).snd.fst)+(1:Int)) - n)) n).fst (Z1s (i64.wrap (i64.wrap (i64.wrap ((2:Int) *
 (Z0 n c).snd.snd.fst)+(1:Int)) - n)) n).fst),post (((Z4y (Z0 n c).fst (Z1s (i64.wrap (i64.wrap (i64.wrap ((2:Int)*(Z0 n
 c).snd.fst)+(1:Int)) - n)) n).fst (Z1s (i64.wrap (i64.wrap (i64.wrap ((2:Int)*(Z0 n c).snd.snd.fst)+(1:Int)) - n)) n).fst).fst.fst,
 (Z4y (Z0 n c).fst (Z1s (i64.wrap (i64.wrap (i64.wrap ((2:Int)*(Z0 n c).snd.fst)+(1:Int)) - n)) n).fst (Z1s (i64.wrap
 (i64.wrap (i64.wrap ((2:Int)*(Z0 n c).snd.snd.fst)+(1:Int)) - n)) n).fst).fst.snd.fst,(Z4y (Z0 n c).fst (Z1s (i64.wrap
 (i64.wrap (i64.wrap ((2:Int)*(Z0 n c).snd.fst)+(1:Int)) - n)) n).fst (Z1s (i64.wrap (i64.wrap (i64.wrap ((2:Int) *
 (Z0 n c).snd.snd.fst)+(1:Int)) - n)) n).fst).fst.snd.snd),true,()))
theorem Z1au (n:Int) (c:Int) (h:II n c):Zch  n c (fun r=>r=Z81 n c):=by
 refine ⟨h,?_⟩
 by_cases ok:Zl n c=true
 ·rw [Zr3 ok]
  obtain ⟨n1,n2,f0,f5,i0,i1,j0,j1⟩:=Z3u ok
  dsimp only
  refine Br.intro (fun e=>absurd e (by decide)) fun _=>?_
  have w1:i64.wrap (i64.wrap (i64.wrap (2*(c % n))+1) - n)=2*(c % n)+1 - n:=by
   rw [wi (x:=2*(c % n)) ⟨by omega,by omega⟩,wi (x:=2*(c % n)+1) ⟨by omega,by omega⟩,wi ⟨by omega,by omega⟩]
  have w2:i64.wrap (i64.wrap (i64.wrap (2*(c / n % n))+1) - n)=2*(c / n % n)+1 - n:=by
   rw [wi (x:=2*(c / n % n)) ⟨by omega,by omega⟩,wi (x:=2*(c / n % n)+1) ⟨by omega,by omega⟩,wi ⟨by omega,by omega⟩]
  rw [w1,w2]
  refine ⟨⟨⟨by omega,by omega⟩,n1,h.1⟩,⟨⟨by omega,by omega⟩,n1,h.1⟩,⟨f0,f5,Z7u _ _,Z7u _ _⟩,?_⟩
  unfold Z81; rw [if_pos ok]; rfl
 ·rw [Z1i4 ok]
  refine Br.intro (fun _=>?_) fun e=>absurd e (by decide)
  unfold Z81; rw [if_neg ok]
def Zci:=fun (n c o:Int) (post:Nat × Unit→Prop)=>∃ (h:II n c),∃ (h:(List.replicate (4:Nat) ((K.flt f64).pair ((K.flt f64).pair
 (K.flt f64))).dflt).length=(4:Nat)∧(Zt n c).fst.length=(4:Nat)),Br (!(Zt n c).snd.fst) (post ((0:Nat),())) (∀ (a:Bool),a=decide (o<(0
 : Int))→Br a (post ((0:Nat),())) (∀ (a:Bool),a=decide (o > (3:Int))→Br a (post ((0:Nat),())) (∃ (h:(0:Int)≤o∧o<(↑(4:Nat):Int)),∃ (h :
 (List.replicate (2:Nat) (0:Int)).length=(2:Nat)∧List.length ([[(1:Int),(2:Int)],[(3:Int),(2:Int)],[(0:Int),(3:Int)],[(0:Int),(1:Int)]].getD
 o.toNat (K.arr (2:Nat) (K.int i64)).dflt)=(2:Nat)),∃ (h:(0:Int)≤(0:Int)∧(0:Int)<(↑(2:Nat):Int)∧(2:Nat)≤List.length ([[(1:Int),(2:Int)],
 [(3:Int),(2:Int)],[(0:Int),(3:Int)],[(0:Int),(1:Int)]].getD o.toNat (K.arr (2:Nat) (K.int i64)).dflt)),∃ (h:(0:Int)≤List.getD ([[(1:Int),(2 :
 Int)],[(3:Int),(2:Int)],[(0:Int),(3:Int)],[(0:Int),(1:Int)]].getD o.toNat (K.arr (2:Nat) (K.int i64)).dflt) (Int.toNat (0:Int)) (0:Int)∧List.getD
 ([[(1:Int),(2:Int)],[(3:Int),(2:Int)],[(0:Int),(3:Int)],[(0:Int),(1:Int)]].getD o.toNat (K.arr (2:Nat) (K.int i64)).dflt) (Int.toNat (0:Int)) (0
 : Int)<(↑(4:Nat):Int)∧(4:Nat)≤(Zt n c).fst.length),∃ (h:(0:Int)≤(1:Int)∧(1:Int)<(↑(2:Nat):Int)∧(2:Nat)≤List.length ([[(1:Int),(2 :
 Int)],[(3:Int),(2:Int)],[(0:Int),(3:Int)],[(0:Int),(1:Int)]].getD o.toNat (K.arr (2:Nat) (K.int i64)).dflt)),∃ (h:(0:Int)≤List.getD ([[(1 :
 Int),(2:Int)],[(3:Int),(2:Int)],[(0:Int),(3:Int)],[(0:Int),(1:Int)]].getD o.toNat (K.arr (2:Nat) (K.int i64)).dflt) (Int.toNat (1:Int)) (0:Int)
 ∧ List.getD ([[(1:Int),(2:Int)],[(3:Int),(2:Int)],[(0:Int),(3:Int)],[(0:Int),(1:Int)]].getD o.toNat (K.arr (2:Nat) (K.int i64)).dflt) (Int.toNat
 (1:Int)) (0:Int)<(↑(4:Nat):Int)∧(4:Nat)≤(Zt n c).fst.length),∃ (h:WV2 ((Zt n c).fst.getD (Int.toNat (List.getD ([[(1:Int),(2:Int)],[(3:Int),
 (2:Int)],[(0:Int),(3:Int)],[(0:Int),(1:Int)]].getD o.toNat (K.arr (2:Nat) (K.int i64)).dflt) (Int.toNat (0:Int)) (0:Int))) ((K.flt
 f64).pair ((K.flt f64).pair (K.flt f64))).dflt) ((Zt n c).fst.getD (Int.toNat (List.getD ([[(1:Int),(2:Int)],[(3:Int),(2 :
 Int)],[(0:Int),(3:Int)],[(0:Int),(1:Int)]].getD o.toNat (K.arr (2:Nat) (K.int i64)).dflt) (Int.toNat (1:Int)) (0:Int))) ((K.flt f64).pair
 ((K.flt f64).pair (K.flt f64))).dflt)),post ((gapR ((Zt n c).fst.getD (Int.toNat (List.getD ([[(1:Int),(2:Int)],[(3:Int),(2:Int)],[(0
 : Int),(3:Int)],[(0:Int),(1:Int)]].getD o.toNat (K.arr (2:Nat) (K.int i64)).dflt) (Int.toNat (0:Int)) (0:Int))) ((K.flt f64).pair ((K.flt
 f64).pair (K.flt f64))).dflt) ((Zt n c).fst.getD (Int.toNat (List.getD ([[(1:Int),(2:Int)],[(3:Int),(2:Int)],[(0:Int),(3:Int)],
 [(0:Int),(1:Int)]].getD o.toNat (K.arr (2:Nat) (K.int i64)).dflt) (Int.toNat (1:Int)) (0:Int))) ((K.flt f64).pair ((K.flt f64).pair
 (K.flt f64))).dflt)).fst,()))))
theorem Z1av (n:Int) (c:Int) (o:Int) (h:III n c o):Zci  n c o (fun r=>r=Zih n c o):=by
 have cl:=Z10p n c
 refine ⟨⟨h.1,h.2.1⟩,⟨rfl,cl⟩,?_⟩
 have no:Zr n c o=false→((0:Nat),())=Zih n c o:=fun q=>congrArg r1 (by unfold Zhq; rw [if_neg (by rw [q]; decide)])
 rw [Zr0]
 refine Br.intro (fun e=>no ?_) fun e=>?_
 ·unfold Zr; rw [show Zl n c=false by simpa using e]; rfl
 have ok:Zl n c=true:=by simpa using e
 rintro _ rfl
 refine Br.intro (fun e=>no ?_) fun e=>?_
 ·have e:=of_decide_eq_true e
  unfold Zr; rw [decide_eq_false (p:=0≤o) (by omega)]; simp
 have o0:=of_decide_eq_false e
 rintro _ rfl
 refine Br.intro (fun e=>no ?_) fun e=>?_
 ·have e:=of_decide_eq_true e
  unfold Zr; rw [decide_eq_false (p:=o<4) (by omega)]; simp
 have o4:=of_decide_eq_false e
 have o0:0≤o:=by omega
 have o4:o<4:=by omega
 have okb:Zr n c o=true:=by unfold Zr; rw [ok,decide_eq_true o0,decide_eq_true o4]; rfl
 have hc:∀ i:Int,0≤i→i≤3→(Zt n c).1.getD i.toNat ((K.flt f64).pair ((K.flt f64).pair (K.flt f64))).dflt=Zhe n c i:=fun i a b=>Z1pr ok a b _
 have c0:=hc 0 (by decide) (by decide)
 have c1:=hc 1 (by decide) (by decide)
 have c2:=hc 2 (by decide) (by decide)
 have c3:=hc 3 (by decide) (by decide)
 have fin:∀ A B:Nat × Nat × Nat,A=Zhe n c (endA o)→B=Zhe n c (endB o)→(gapQ A B,())=Zih n c o:=by
  intro A B hA hB
  rw [hA,hB]; exact congrArg r1 (by unfold Zhq; rw [if_pos okb])
 have wA:∀ i,WV (Zhe n c i):=Z1tj n c
 generalize hQ:(Zt n c).fst=Q at *
 rcases Z1a o0 o4 with rfl | rfl | rfl | rfl
 ·exact ⟨⟨by decide,by decide⟩,⟨rfl,rfl⟩,⟨by decide,by decide,by decide⟩,⟨by decide,by decide,Nat.le_of_eq cl.symm⟩,⟨by decide,by decide,by decide⟩,⟨by decide,by decide,Nat.le_of_eq cl.symm⟩,⟨c1 ▸ wA 1,c2 ▸ wA 2⟩,fin _ _ c1 c2⟩
 ·exact ⟨⟨by decide,by decide⟩,⟨rfl,rfl⟩,⟨by decide,by decide,by decide⟩,⟨by decide,by decide,Nat.le_of_eq cl.symm⟩,⟨by decide,by decide,by decide⟩,⟨by decide,by decide,Nat.le_of_eq cl.symm⟩,⟨c3 ▸ wA 3,c2 ▸ wA 2⟩,fin _ _ c3 c2⟩
 ·exact ⟨⟨by decide,by decide⟩,⟨rfl,rfl⟩,⟨by decide,by decide,by decide⟩,⟨by decide,by decide,Nat.le_of_eq cl.symm⟩,⟨by decide,by decide,by decide⟩,⟨by decide,by decide,Nat.le_of_eq cl.symm⟩,⟨c0 ▸ wA 0,c3 ▸ wA 3⟩,fin _ _ c0 c3⟩
 ·exact ⟨⟨by decide,by decide⟩,⟨rfl,rfl⟩,⟨by decide,by decide,by decide⟩,⟨by decide,by decide,Nat.le_of_eq cl.symm⟩,⟨by decide,by decide,by decide⟩,⟨by decide,by decide,Nat.le_of_eq cl.symm⟩,⟨c0 ▸ wA 0,c1 ▸ wA 1⟩,fin _ _ c0 c1⟩
def Zn8:=fun (n c o:Int) (post:Nat × Unit→Prop)=>∃ (h:III n c o),∀ (a:Int × Int × Unit),a=Z1x n c o→∃ (h:II n c),∀ (a_1:(Nat × Nat × Nat) × Bool
 × Unit),a_1=Z81 n c→∃ (h:II n a.fst),∀ (a_2:(Nat × Nat × Nat) × Bool × Unit),a_2=Z81 n a.fst→Br (!a_1.snd.fst) (post ((0:Nat),())) (Br (!a_2.snd.fst)
 (post ((0:Nat),())) (∃ (h:WV2 (a_1.fst.fst,a_1.fst.snd.fst,a_1.fst.snd.snd) (a_2.fst.fst,a_2.fst.snd.fst,a_2.fst.snd.snd)),post ((gapR (a_1.fst.fst,a_1.fst.snd.fst,
 a_1.fst.snd.snd) (a_2.fst.fst,a_2.fst.snd.fst,a_2.fst.snd.snd)).fst,())))
theorem Z1kc (n:Int) (c:Int) (o:Int) (h:III n c o):Zn8  n c o (fun r=>r=Z1my n c o):=by
 have br:=Z164 n c o
 refine ⟨h,?_⟩
 rintro ⟨b,q,⟨⟩⟩ hb
 have eb:b=(Z7 n c o).1:=congrArg Prod.fst hb
 rw [← eb] at br
 refine ⟨⟨h.1,h.2.1⟩,?_⟩
 rintro ⟨⟨A1,A2,A3⟩,p,⟨⟩⟩ hA
 refine ⟨⟨h.1,by omega,by omega⟩,?_⟩
 rintro ⟨⟨B1,B2,B3⟩,r,⟨⟩⟩ hB
 have hA:((A1,A2,A3),p,())=Z81 n c:=hA
 have hB:((B1,B2,B3),r,())=Z81 n b:=hB
 have key:∀ z,Z81 n z=if Zl n z then (Zo2 n z,true,()) else ((0,0,0),false,()):=fun z=>rfl
 have bt:∀ {z:Bool},z=true→¬ (!z)=true:=fun {z} e=>by rw [e]; decide
 have bf:∀ {z:Bool},z=false→¬ (!z)=false:=fun {z} e=>by rw [e]; decide
 by_cases o1:Zl n c=true
 ·rw [key,if_pos o1] at hA
  obtain ⟨eA,e1⟩:=Prod.mk.inj hA
  have ep:p=true:=congrArg Prod.fst e1
  refine Br.intro (fun e=>absurd e (bt ep)) fun _=>?_
  by_cases o2:Zl n b=true
  ·rw [key,if_pos o2] at hB
   obtain ⟨eB,e2⟩:=Prod.mk.inj hB
   have er:r=true:=congrArg Prod.fst e2
   refine Br.intro (fun e=>absurd e (bt er)) fun _=>?_
   have hw:WV2 (A1,A2,A3) (B1,B2,B3):=⟨by rw [eA]; exact Z1e1 _ _,by rw [eB]; exact Z1e1 _ _⟩
   have hg:gapQ (A1,A2,A3) (B1,B2,B3)=gapG n c o:=by
    rw [eA,eB]; unfold gapG; rw [← eb,o1,o2,if_pos (by decide)]
   exact ⟨hw,congrArg r1 hg⟩
  ·rw [key,if_neg o2] at hB
   obtain ⟨eB,e2⟩:=Prod.mk.inj hB
   have er:r=false:=congrArg Prod.fst e2
   refine Br.intro (fun _=>congrArg r1 ?_) fun e=>absurd e (bf er)
   unfold gapG; rw [← eb,o1,show Zl n b=false by simpa using o2]; rfl
 ·rw [key,if_neg o1] at hA
  obtain ⟨eA,e1⟩:=Prod.mk.inj hA
  have ep:p=false:=congrArg Prod.fst e1
  refine Br.intro (fun _=>congrArg r1 ?_) fun e=>absurd e (bf ep)
  unfold gapG; rw [show Zl n c=false by simpa using o1]; rfl
end Go.Lift
