/- A part of the proof of StepRestsCard: an own lifter of code into plain terms, and plain laws. -/
import Derived.Calls
import Derived.Laws.Cells
import Derived.Laws.Entries
import Derived.Laws.FloatBits
import Derived.Laws.FloatArith
import Derived.Laws.MakeOwn
import Derived.Great.FillDense
import Derived.Laws.AppendOwn
import Derived.Laws.AppendOwnNone
import Derived.Laws.Rows
import Derived.Laws.BytesString
import Derived.Laws.Strings
import Derived.Lib.AppendStr
set_option linter.unusedVariables false
set_option linter.unusedSimpArgs false
set_option linter.unusedSectionVars false
open Go.IntKind (i64 u64 u32 u8)
open Go.FloatKind (f64 f32)
namespace Go.Lift
section
inductive K where
 | int (k:IntKind)
 | bool
 | flt (k:FloatKind)
 | unit
 | pair (a b:K)
 | arr (n:Nat) (e:K)
 | slice (e:K)
 | ptr (e:K)
 | map (a b:K)
 | ent (a b:K)
 deriving DecidableEq
def K.T:K->Type
 | .int _=>Int
 | .bool=>Bool
 | .flt _=>Nat
 | .unit=>Unit
 | .pair a b=>a.T × b.T
 | .arr _ e=>List e.T
 | .slice e=>List e.T
 | .ptr e=>Option e.T
 | .map a b=>List (a.T × b.T)
 | .ent a b=>a.T × b.T
def K.dflt:(k:K)->k.T
 | .int _=>(0:Int)
 | .bool=>false
 | .flt _=>(0:Nat)
 | .unit=>()
 | .pair a b=>(a.dflt,b.dflt)
 | .arr n e=>List.replicate n e.dflt
 | .slice _=>[]
 | .ptr _=>none
 | .map _ _=>[]
 | .ent a b=>(a.dflt,b.dflt)
def K.sz:K->Nat
 | .unit=>0
 | .pair a b=>a.sz+b.sz
 | .arr n e=>n*e.sz
 | _=>1
def K.agg:K->Bool
 | .unit | .pair _ _ | .arr _ _=>true
 | _=>false
def K.flat:K->Bool
 | .slice _ | .ptr _ | .map _ _ | .ent _ _=>false
 | .pair a b=>a.flat&&b.flat
 | .arr _ e=>e.flat
 | _=>true
def Rows {α:Type}(R:α->List Value->Prop):List α->List Value->Prop
 | [],cs=>cs=[]
 | x :: xs,cs=>∃ c1 c2,cs=c1++c2/\R x c1/\Rows R xs c2
def At(w:World)(b off:Nat)(vs:List Value):Prop:=∀(j:Nat)(v:Value),vs[j]?=some v->w.cell? ⟨b,off+j,none⟩=some v
def maxN:Nat:=281474976710656
def KV {α:Type}(g:Bool)(R:α->List Value->Prop)(x:α)(v:Value):Prop:=if g then ∃ vs,v=.agg vs/\R x vs.toList else R x [v]
def Ents {α β:Type}(p:α->Value->Prop)(q:β->Value->Prop):List (α × β)->List MapEntry->Prop
 | [],es=>es=[]
 | x :: xs,es=>∃ e r,es=e :: r/\p x.1 e.key/\q x.2 e.val/\Ents p q xs r
def K.rep(w:World)(ok:Nat->Prop):(k:K)->k.T->List Value->Prop
 | .int ik,n,cs=>cs=[.int ik n]
 | .bool,b,cs=>cs=[.bool b]
 | .flt fk,b,cs=>cs=[.float fk b]
 | .unit,_,cs=>cs=[]
 | .pair a b,x,cs=>∃ c1 c2,cs=c1++c2/\a.rep w ok x.1 c1/\b.rep w ok x.2 c2
 | .arr n e,xs,cs=>List.length xs=n/\Rows (e.rep w ok) xs cs
 | .slice e,xs,cs=>∃ A cap,cs=[.slice A (List.length xs) cap]/\List.length xs<=cap/\List.length xs<=maxN/\
   (xs=[]∨∃ b off vs,A=some ⟨b,off,none⟩/\ok b/\Rows (e.rep w ok) xs vs/\At w b off vs)
 | .ptr e,x,cs=>(x=none/\cs=[.pointer none])∨
   ∃ y b off vs,x=some y/\cs=[.pointer (some ⟨b,off,none⟩)]/\ok b/\e.rep w ok y vs/\At w b off vs
 | .map a b,xs,cs=>(xs=[]/\cs=[.map none])∨
   ∃ m es ck,cs=[.map (some m)]/\ok m/\w.heap[m]?=some (.map es ck)/\Ents (KV a.agg (a.rep w ok)) (KV b.agg (b.rep w ok)) xs es.toList
 | .ent _ _,_,_=>False
theorem KV.mono {α:Type}{g:Bool}{R R':α->List Value->Prop}(h:∀ x c,R x c->R' x c){x:α}{v:Value}(r:KV g R x v):KV g R' x v:=by
 unfold KV at *;split
 ·rename_i q; rw[if_pos q]at r; obtain⟨vs,e,r⟩:=r; exact⟨vs,e,h _ _ r⟩
 ·rename_i q; rw[if_neg q]at r; exact h _ _ r
theorem Ents.mono {α β:Type}{p p':α->Value->Prop}{q q':β->Value->Prop}(hp:∀ x v,p x v->p' x v)(hq:∀ x v,q x v->q' x v):∀ {xs:List (α × β)}{es:List MapEntry},Ents p q xs es->Ents p' q' xs es
 | [],_,h=>h
 | _ :: _,_,⟨e,r,h1,h2,h3,h4⟩=>⟨e,r,h1,hp _ _ h2,hq _ _ h3,Ents.mono hp hq h4⟩
theorem Z8h {α:Type}(a b:List α)(n:Nat):(a++b).drop (a.length+n)=b.drop n:=by
 rw[List.drop_append,List.drop_eq_nil_of_le (by omega)]; simp
theorem Zhr {α:Type}(a b:List α)(n:Nat):(a++b).take (a.length+n)=a++b.take n:=by
 rw[List.take_append,List.take_of_length_le (by omega)]; simp
section
variable {α:Type} {R R':α->List Value->Prop}
theorem Rows.mono(h:∀ x c,R x c->R' x c):∀ {xs:List α}{cs:List Value},Rows R xs cs->Rows R' xs cs
 | [],_,hr=>hr
 | _ :: _,_,⟨c1,c2,e,h1,h2⟩=>⟨c1,c2,e,h _ _ h1,Rows.mono h h2⟩
theorem Rows.len {s:Nat}(hs:∀ x c,R x c->c.length=s):∀ {xs:List α}{cs:List Value},Rows R xs cs->cs.length=xs.length*s
 | [],_,hr=>by simp[show _=_ from hr]
 | x :: xs,_,⟨c1,c2,e,h1,h2⟩=>by
  subst e; rw[List.length_append,hs _ _ h1,Rows.len hs h2,List.length_cons,Nat.add_mul,Nat.one_mul,Nat.add_comm]
theorem Rows.get {s:Nat}(hs:∀ x c,R x c->c.length=s):∀ {xs:List α}{cs:List Value}(_:Rows R xs cs)(i:Nat)(x:α),xs[i]?=some x->
  R x ((cs.drop (i*s)).take s)
 | [],_,_,i,x,hx=>by simp at hx
 | y :: xs,_,⟨c1,c2,e,h1,h2⟩,0,x,hx=>by
  simp only[List.getElem?_cons_zero,Option.some.injEq]at hx;subst hx; subst e;simp only[Nat.zero_mul,List.drop_zero];have:=hs _ _ h1;rw[List.take_left' this]; exact h1
 | y :: xs,_,⟨c1,c2,e,h1,h2⟩,i+1,x,hx=>by
  simp only[List.getElem?_cons_succ]at hx;subst e;have hl:=hs _ _ h1;have:=Rows.get hs h2 i x hx;have e2:(i+1)*s=c1.length+i*s:=by rw[hl,Nat.add_mul,Nat.one_mul,Nat.add_comm]
  rw[e2,Z8h];exact this
theorem Rows.append:∀ {xs ys:List α}{cs ds:List Value},Rows R xs cs->Rows R ys ds->Rows R (xs++ys) (cs++ds)
 | [],_,_,_,h,h'=>by rw[show _=_ from h]; exact h'
 | _ :: _,_,_,ds,⟨c1,c2,e,h1,h2⟩,h'=>⟨c1,c2++ds,by rw[e,List.append_assoc],h1,Rows.append h2 h'⟩
theorem Rows.replicate {x:α}{c:List Value}(h:R x c):∀ n,Rows R (List.replicate n x) (List.replicate n c).flatten
 | 0=>rfl
 | n+1=>⟨c,(List.replicate n c).flatten,by simp[List.replicate_succ],h,Rows.replicate h n⟩
theorem Rows.set {s:Nat}(hs:∀ x c,R x c->c.length=s){y:α}{d:List Value}(hy:R y d):∀ {xs:List α}{cs:List Value}(_:Rows R xs cs)(i:Nat),i<xs.length->
  Rows R (xs.set i y) (cs.take (i*s)++d++cs.drop (i*s+s))
 | [],_,_,i,hi=>by simp at hi
 | x :: xs,_,⟨c1,c2,e,h1,h2⟩,0,_=>by
  subst e;have hl:=hs _ _ h1;refine⟨d,c2,?_,hy,h2⟩;simp[<- hl]
 | x :: xs,_,⟨c1,c2,e,h1,h2⟩,i+1,hi=>by
  subst e;have hl:=hs _ _ h1;have:=Rows.set hs hy h2 i (by simpa using hi);refine⟨c1,_,?_,h1,this⟩;have e2:(i+1)*s=c1.length+i*s:=by rw[hl,Nat.add_mul,Nat.one_mul,Nat.add_comm]
  rw[e2,Zhr,Nat.add_assoc,Z8h];simp
theorem Rows.drop {s:Nat}(hs:∀ x c,R x c->c.length=s):∀(n:Nat){xs:List α}{cs:List Value},Rows R xs cs->Rows R (xs.drop n) (cs.drop (n*s))
 | 0,_,_,h=>by simpa using h
 | n+1,[],cs,h=>by
  have:cs=[]:=h;subst this; simp; rfl
 | n+1,x :: xs,_,⟨c1,c2,e,h1,h2⟩=>by
  subst e;have hl:=hs _ _ h1;have e2:(n+1)*s=c1.length+n*s:=by rw[hl,Nat.add_mul,Nat.one_mul,Nat.add_comm]
  rw[e2,Z8h];simpa using Rows.drop hs n h2
theorem Rows.take {s:Nat}(hs:∀ x c,R x c->c.length=s):∀(n:Nat){xs:List α}{cs:List Value},Rows R xs cs->Rows R (xs.take n) (cs.take (n*s))
 | 0,_,_,_=>by simp; rfl
 | n+1,[],cs,h=>by
  have:cs=[]:=h;subst this; simp; rfl
 | n+1,x :: xs,_,⟨c1,c2,e,h1,h2⟩=>by
  subst e;have hl:=hs _ _ h1;have e2:(n+1)*s=c1.length+n*s:=by rw[hl,Nat.add_mul,Nat.one_mul,Nat.add_comm]
  rw[e2,Zhr];exact⟨c1,c2.take (n*s),rfl,h1,Rows.take hs n h2⟩
end
theorem K.rep_len {w:World}{ok:Nat->Prop}:∀(k:K)(x:k.T)(cs:List Value),k.rep w ok x cs->cs.length=k.sz
 | .int _,_,_,h=>by rw[show _=_ from h]; rfl
 | .bool,_,_,h=>by rw[show _=_ from h]; rfl
 | .flt _,_,_,h=>by rw[show _=_ from h]; rfl
 | .unit,_,_,h=>by rw[show _=_ from h]; rfl
 | .pair a b,_,_,⟨_,_,e,h1,h2⟩=>by rw[e,List.length_append,K.rep_len a _ _ h1,K.rep_len b _ _ h2]; rfl
 | .arr n e,xs,cs,⟨hl,hr⟩=>by
  rw[Rows.len (λx c h=>K.rep_len e x c h) hr];exact congrArg (·*e.sz) hl
 | .slice _,_,_,⟨_,_,e,_⟩=>by rw[e]; rfl
 | .ptr _,_,_,h=>by
  rcases h with⟨_,e⟩ | ⟨_,_,_,_,_,e,_⟩ <;> (rw[e]; rfl)
 | .map _ _,_,_,h=>by
  rcases h with⟨_,e⟩ | ⟨_,_,_,e,_⟩ <;> (rw[e]; rfl)
 | .ent _ _,_,_,h=>h.elim
theorem At.of_same {w w':World}{b off:Nat}{vs:List Value}(h:At w b off vs)(hb:w'.heap[b]?=w.heap[b]?):At w' b off vs:=
 λj v hv=>by rw[<- h j v hv]; simp only[World.cell?,hb]
theorem K.rep_mono {w w':World}{ok ok':Nat->Prop}(h:∀ b,ok b->ok' b/\w'.heap[b]?=w.heap[b]?):
  ∀(k:K)(x:k.T)(cs:List Value),k.rep w ok x cs->k.rep w' ok' x cs
 | .int _,_,_,r=>r
 | .bool,_,_,r=>r
 | .flt _,_,_,r=>r
 | .unit,_,_,r=>r
 | .pair a b,_,_,⟨c1,c2,e,h1,h2⟩=>⟨c1,c2,e,K.rep_mono h a _ _ h1,K.rep_mono h b _ _ h2⟩
 | .arr _ e,_,_,⟨hl,hr⟩=>⟨hl,Rows.mono (λx c=>K.rep_mono h e x c) hr⟩
 | .slice e,_,_,⟨A,cap,e1,h1,h2,h3⟩=>⟨A,cap,e1,h1,h2,by
   rcases h3 with h3 | ⟨b,off,vs,ha,hb,hr,hat⟩
   ·exact .inl h3
   ·exact .inr ⟨b,off,vs,ha,(h b hb).1,Rows.mono (λx c=>K.rep_mono h e x c) hr,hat.of_same (h b hb).2⟩⟩
 | .ptr e,_,_,r=>by
   rcases r with r | ⟨y,b,off,vs,e1,e2,hb,hr,hat⟩
   ·exact .inl r
   ·exact .inr ⟨y,b,off,vs,e1,e2,(h b hb).1,K.rep_mono h e _ _ hr,hat.of_same (h b hb).2⟩
 | .map a b,_,_,r=>by
   rcases r with r | ⟨m,es,ck,e1,hm,e2,hr⟩
   ·exact .inl r
   ·exact .inr ⟨m,es,ck,e1,(h m hm).1,(h m hm).2.trans e2,Ents.mono (λ_ _=>KV.mono λx c=>K.rep_mono h a x c) (λ_ _=>KV.mono λx c=>K.rep_mono h b x c) hr⟩
 | .ent _ _,_,_,r=>r.elim
theorem K.rep_flat {w w':World}{ok ok':Nat->Prop}:∀(k:K)(x:k.T)(cs:List Value),k.flat=true->k.rep w ok x cs->k.rep w' ok' x cs
 | .int _,_,_,_,r=>r
 | .bool,_,_,_,r=>r
 | .flt _,_,_,_,r=>r
 | .unit,_,_,_,r=>r
 | .pair a b,_,_,h,⟨c1,c2,e,h1,h2⟩=>by
  have h':(a.flat&&b.flat)=true:=h;rw[Bool.and_eq_true]at h';exact⟨c1,c2,e,K.rep_flat a _ _ h'.1 h1,K.rep_flat b _ _ h'.2 h2⟩
 | .arr _ e,_,_,h,⟨hl,hr⟩=>⟨hl,Rows.mono (λx c=>K.rep_flat e x c h) hr⟩
 | .slice e,_,_,h,_=>by cases h
 | .ptr e,_,_,h,_=>by cases h
 | .map _ _,_,_,h,_=>by cases h
 | .ent _ _,_,_,h,_=>by cases h
def K.sub:(k:K)->(off:Nat)->(k':K)->k.T->Option k'.T
 | k,0,k',x=>if h:k=k' then some (h ▸ x)else
  match k,x with
  | .pair a b,x=>if 0<a.sz then a.sub 0 k' x.1 else b.sub 0 k' x.2
  | .arr n e,xs=>if 0<n/\0<e.sz then e.sub 0 k' (List.getD (α:=e.T) xs 0 e.dflt)else none
  | _,_=>none
 | .pair a b,off+1,k',x=>if off+1<a.sz then a.sub (off+1) k' x.1 else b.sub (off+1 - a.sz) k' x.2
 | .arr n e,off+1,k',xs=>if 0<e.sz/\(off+1) / e.sz<n then e.sub ((off+1) % e.sz) k' (List.getD (α:=e.T) xs ((off+1) / e.sz) e.dflt)else none
 | _,_+1,_,_=>none
end
section
inductive Md where
 | rw | lk | fz
 deriving DecidableEq
inductive LV where
 | val (v:Value)
 | ref (id off:Nat)
 | data (k:K) (x:k.T)
inductive SV where
 | val (v:Value)
 | data (k:K) (x:k.T)
 | osl (id off len:Nat)
 | ref (id off:Nat)
 | eref (id i off:Nat)
 | void
 | clo (f:FuncId) (first caps:List LV)
 | bstr (bs:List Int)
 | mref (id:Nat)
 | bsl (id len:Nat)
 | full (e:K) (xs:List e.T)
 | osx (id len:Nat)
 | junk
inductive XV where
 | one (s:SV)
 | agg (cs:List SV)
 | dat (k:K) (x:k.T)
inductive EV where
 | x (v:XV)
 | tup (vs:List XV)
def EV.weak:EV->EV
 | .x (.one (.osx id len))=>.x (.one (.osl id 0 len))
 | v=>v
def osv:K->Nat->Nat->SV
 | .int .u8,id,n=>.osx id n
 | _,id,n=>.osl id 0 n
theorem Z1nt(k:K)(id n:Nat):osv k id n=.osl id 0 n∨osv k id n=.osx id n:=by
 unfold osv; split <;> first | exact .inr rfl | exact .inl rfl
inductive HObj where
 | pend
 | dead
 | box (m:Md) (t:TypeId) (cs:List SV)
 | row (m:Md) (t:TypeId) (e:K) (xs:List e.T)
 | mp (m:Md) (a b:K) (xs:List (a.T × b.T))
def HObj.md?:HObj->Option Md
 | .pend | .dead=>none
 | .box m _ _=>some m
 | .row m _ _ _=>some m
 | .mp m _ _ _=>some m
def HObj.live(o:HObj):Prop:=o.md?.isSome=true
inductive All2 {α β:Type} (R:α->β->Prop):List α->List β->Prop where
 | nil:All2 R [] []
 | cons {a b as bs}:R a b->All2 R as bs->All2 R (a :: as) (b :: bs)
theorem All2.len {α β:Type}{R:α->β->Prop}{as:List α}{bs:List β}(h:All2 R as bs):as.length=bs.length:=by
 induction h with
 | nil=>rfl
 | cons _ _ ih=>simp[ih]
theorem All2.mono {α β:Type}{R R':α->β->Prop}(hr:∀ a b,R a b->R' a b){as:List α}{bs:List β}(h:All2 R as bs):All2 R' as bs:=by
 induction h with
 | nil=>exact .nil
 | cons h1 _ ih=>exact .cons (hr _ _ h1) ih
theorem All2.get {α β:Type}{R:α->β->Prop}{as:List α}{bs:List β}(h:All2 R as bs):∀(i:Nat)(a:α),as[i]?=some a->∃ b,bs[i]?=some b/\R a b:=by
 induction h with
 | nil=>intro i a h; simp at h
 | cons h1 _ ih=>
  intro i a h
  cases i with
  | zero=>simp at h; subst h; exact⟨_,rfl,h1⟩
  | succ i=>simpa using ih i a (by simpa using h)
theorem All2.append {α β:Type}{R:α->β->Prop}{as cs:List α}{bs ds:List β}(h:All2 R as bs)(h':All2 R cs ds):All2 R (as++cs) (bs++ds):=by
 induction h with
 | nil=>exact h'
 | cons h1 _ ih=>exact .cons h1 ih
theorem All2.set {α β:Type}{R:α->β->Prop}{as:List α}{bs:List β}(h:All2 R as bs)(i:Nat){a:α}{b:β}(hab:R a b):All2 R (as.set i a) (bs.set i b):=by
 induction h generalizing i with
 | nil=>exact .nil
 | cons h1 h2 ih=>
  cases i with
  | zero=>exact .cons hab h2
  | succ i=>exact .cons h1 (ih i)
theorem All2.take {α β:Type}{R:α->β->Prop}{as:List α}{bs:List β}(h:All2 R as bs)(n:Nat):All2 R (as.take n) (bs.take n):=by
 induction h generalizing n with
 | nil=>simpa using All2.nil
 | cons h1 h2 ih=>cases n with
  | zero=>simpa using All2.nil
  | succ n=>simpa using All2.cons h1 (ih n)
theorem All2.drop {α β:Type}{R:α->β->Prop}{as:List α}{bs:List β}(h:All2 R as bs)(n:Nat):All2 R (as.drop n) (bs.drop n):=by
 induction h generalizing n with
 | nil=>simpa using All2.nil
 | cons h1 h2 ih=>cases n with
  | zero=>simpa using All2.cons h1 h2
  | succ n=>simpa using ih n
structure RC where
 w:World
 heap:List HObj
 blk:Nat->Option Nat
 base:Nat
 inb:Nat->Prop
def RC.own(c:RC)(b:Nat):Prop:=∃ id o m,c.heap[id]?=some o/\o.md?=some m/\m≠.fz/\c.blk id=some b
def RC.wr(c:RC)(b:Nat):Prop:=∃ id o,c.heap[id]?=some o/\o.md?=some .rw/\c.blk id=some b
def RC.lv(c:RC)(b:Nat):Prop:=∃ id o,c.heap[id]?=some o/\o.live/\c.blk id=some b
def RC.ok(c:RC)(b:Nat):Prop:=b<c.w.heap.size/\¬ c.own b/\(c.base<=b∨c.inb b)
theorem RC.wr.own {c:RC}{b:Nat}(h:c.wr b):c.own b:=by
 obtain⟨id,o,h1,h2,h3⟩:=h;exact⟨id,o,_,h1,h2,by decide,h3⟩
def LV.rel(c:RC):LV->Value->Prop
 | .val v,u=>u=v
 | .ref id off,u=>match c.heap[id]? with
  | some .dead=>True
  | some (.box ..) | some (.row ..)=>∃ b,c.blk id=some b/\u=.pointer (some ⟨b,off,none⟩)
  | _=>False
 | .data k x,u=>k.rep c.w c.ok x [u]
def SV.rel(c:RC):SV->Value->Prop
 | .val v,u=>u=v
 | .data k x,u=>k.rep c.w c.ok x [u]
 | .osl id off len,u=>match c.heap[id]? with
  | some .dead=>True
  | some (.row _ t e xs)=>∃ A cap,u=.slice A len cap/\len<=cap/\(off+len<=xs.length/\xs.length<=off+cap)/\
    (cap=0∨∃ b vs,c.blk id=some b/\A=some ⟨b,off*e.sz,none⟩/\c.w.heap[b]?=some (.cells vs t (0,0))/\(off+cap)*e.sz<=vs.size)
  | _=>False
 | .ref id off,u=>match c.heap[id]? with
  | some .dead=>True
  | some (.box ..) | some (.row ..)=>∃ b,c.blk id=some b/\u=.pointer (some ⟨b,off,none⟩)
  | _=>False
 | .eref id i off,u=>match c.heap[id]? with
  | some .dead=>True
  | some (.row _ _ e xs)=>i<xs.length/\∃ b,c.blk id=some b/\u=.pointer (some ⟨b,i*e.sz+off,none⟩)
  | _=>False
 | .void,u=>∃ A,u=.slice A 0 0
 | .clo f first caps,u=>∃ vs ws,u=.func (.func f) vs ws/\All2 (LV.rel c) first vs.toList/\All2 (LV.rel c) caps ws.toList
 | .bstr bs,u=>∃ s:ByteArray,u=.string s/\s.data.toList.map (λb=>(b.toNat:Int))=bs
 | .mref id,u=>match c.heap[id]? with
  | some .dead=>True
  | some (.mp ..)=>∃ b,c.blk id=some b/\u=.map (some b)
  | _=>False
 | .bsl id len,u=>match c.heap[id]? with
  | some .dead=>True
  | some (.box _ _ cs)=>len<=cs.length/\∃ b,c.blk id=some b/\u=.slice (some ⟨b,0,none⟩) len len
  | _=>False
 | .osx id len,u=>(match c.heap[id]? with
  | some .dead=>True
  | some (.row _ t e xs)=>∃ A cap,u=.slice A len cap/\len<=cap/\(0+len<=xs.length/\xs.length<=0+cap)/\
    (cap=0∨∃ b vs,c.blk id=some b/\A=some ⟨b,0*e.sz,none⟩/\c.w.heap[b]?=some (.cells vs t (0,0))/\(0+cap)*e.sz<=vs.size)
  | _=>False)/\∃ A,u=.slice A len len
 | .full e xs,u=>(K.slice e).rep c.w c.ok xs [u]/\∃ A,u=.slice A xs.length xs.length
 | .junk,_=>True
def XV.rel(c:RC):XV->Value->Prop
 | .one s,u=>s.rel c u
 | .agg cs,u=>∃ vs,u=.agg vs/\All2 (SV.rel c) cs vs.toList
 | .dat k x,u=>∃ vs,u=.agg vs/\k.rep c.w c.ok x vs.toList
def EV.rel(c:RC):EV->Value->Prop
 | .x v,u=>v.rel c u
 | .tup vs,u=>∃ us,u=.tuple us/\All2 (XV.rel c) vs us.toList
theorem EV.weak_rel {c:RC}{v:EV}{u:Value}(r:v.rel c u):v.weak.rel c u:=by
 unfold EV.weak;split
 ·exact r.1
 ·exact r
def HObj.rel(c:RC)(id:Nat):HObj->Prop
 | .pend | .dead=>True
 | .box _ t cs=>∃ b vs,c.blk id=some b/\c.w.heap[b]?=some (.cells vs t (0,0))/\All2 (SV.rel c) cs vs.toList
 | .row _ t e xs=>xs.length<=maxN/\((c.blk id=none/\xs=[])∨
   ∃ b vs front rest,c.blk id=some b/\c.w.heap[b]?=some (.cells vs t (0,0))/\vs.toList=front++rest/\Rows (e.rep c.w c.ok) xs front)
 | .mp _ a b xs=>∃ k es ck,c.blk id=some k/\c.w.heap[k]?=some (.map es ck)/\Ents (KV a.agg (a.rep c.w c.ok)) (KV b.agg (b.rep c.w c.ok)) xs es.toList
structure RC.Inv (c:RC):Prop where
 objs:∀(id:Nat)(o:HObj),c.heap[id]?=some o->o.rel c id
 inj:∀(i j:Nat)(oi oj:HObj)(b:Nat),c.heap[i]?=some oi->oi.live->c.heap[j]?=some oj->oj.live->c.blk i=some b->c.blk j=some b->i=j
 base:∀(id:Nat)(o:HObj)(b:Nat),c.heap[id]?=some o->o.live->c.blk id=some b->c.base<=b
 basele:c.base<=c.w.heap.size
def Md.le(m m':Md):Prop:=m=m'∨(m=.rw/\m'=.fz)
def HObj.ev:HObj->HObj->Prop
 | .pend,_=>True
 | .dead,o'=>o'=.dead
 | .box m t cs,o'=>o'=.dead∨∃ m' cs',o'=.box m' t cs'/\cs'.length=cs.length/\m.le m'
 | .row m t e xs,o'=>o'=.dead∨∃ m' xs',o'=.row m' t e xs'/\xs'.length=xs.length/\m.le m'
 | .mp m a b xs,o'=>o'=.dead∨∃ m' xs',o'=.mp m' a b xs'/\m.le m'
structure Ext (c c':RC):Prop where
 base:c'.base=c.base
 inb:c'.inb=c.inb:=by rfl
 size:c.w.heap.size<=c'.w.heap.size
 os:c'.w.os=c.w.os
 tape:c'.w.tape=c.w.tape
 output:c'.w.output=c.w.output
 keep:∀(b:Nat),b<c.w.heap.size->¬ c.wr b->c'.w.heap[b]?=c.w.heap[b]?
 cells:∀(b:Nat)(vs:Array Value)(t:TypeId)(z:Nat × Nat),c.w.heap[b]?=some (.cells vs t z)->∃(vs':Array Value)(z':Nat × Nat),c'.w.heap[b]?=some (.cells vs' t z')/\vs'.size=vs.size/\(z'=z∨¬ c'.lv b)
 blk:∀(id:Nat)(o:HObj),c.heap[id]?=some o->o≠.pend->c'.blk id=c.blk id
 ev:∀(id:Nat)(o:HObj),c.heap[id]?=some o->∃ o',c'.heap[id]?=some o'/\o.ev o'
 fresh:∀(id:Nat)(o':HObj)(b:Nat),c'.heap[id]?=some o'->o'.live->(∀ o,c.heap[id]?=some o->¬ o.live)->c'.blk id=some b->b<c.w.heap.size->c.wr b
theorem HObj.ev_refl(o:HObj):o.ev o:=by
 cases o with
 | pend=>trivial
 | dead=>rfl
 | box m t cs=>exact .inr ⟨m,cs,rfl,rfl,.inl rfl⟩
 | row m t e xs=>exact .inr ⟨m,xs,rfl,rfl,.inl rfl⟩
 | mp m a b xs=>exact .inr ⟨m,xs,rfl,.inl rfl⟩
theorem Md.le_trans {a b c:Md}(h:a.le b)(h':b.le c):a.le c:=by
 rcases h with rfl | ⟨rfl,rfl⟩
 ·exact h'
 ·rcases h' with rfl | ⟨h,_⟩
  ·exact .inr ⟨rfl,rfl⟩
  ·cases h
theorem HObj.ev_trans {a b c:HObj}(h:a.ev b)(h':b.ev c):a.ev c:=by
 cases a with
 | pend=>trivial
 | dead=>rw[show b=.dead from h]at h'; exact h'
 | box m t cs=>
  rcases h with rfl | ⟨m',cs',rfl,hl,hm⟩
  ·exact .inl h'
  ·rcases h' with rfl | ⟨m'',cs'',rfl,hl',hm'⟩
   ·exact .inl rfl
   ·exact .inr ⟨m'',cs'',rfl,hl'.trans hl,Md.le_trans hm hm'⟩
 | row m t e xs=>
  rcases h with rfl | ⟨m',cs',rfl,hl,hm⟩
  ·exact .inl h'
  ·rcases h' with rfl | ⟨m'',cs'',rfl,hl',hm'⟩
   ·exact .inl rfl
   ·exact .inr ⟨m'',cs'',rfl,hl'.trans hl,Md.le_trans hm hm'⟩
 | mp m t e xs=>
  rcases h with rfl | ⟨m',cs',rfl,hm⟩
  ·exact .inl h'
  ·rcases h' with rfl | ⟨m'',cs'',rfl,hm'⟩
   ·exact .inl rfl
   ·exact .inr ⟨m'',cs'',rfl,Md.le_trans hm hm'⟩
theorem HObj.ev_md {o o':HObj}(h:o.ev o'){m':Md}(hm:o'.md?=some m'):¬ o.live∨∃ m,o.md?=some m/\m.le m':=by
 cases o with
 | pend=>left; simp[HObj.live,HObj.md?]
 | dead=>left; simp[HObj.live,HObj.md?]
 | box m t cs=>
  rcases h with rfl | ⟨m1,cs',rfl,_,hle⟩
  ·simp[HObj.md?]at hm
  ·simp only[HObj.md?,Option.some.injEq]at hm; subst hm; exact .inr ⟨m,rfl,hle⟩
 | row m t e xs=>
  rcases h with rfl | ⟨m1,cs',rfl,_,hle⟩
  ·simp[HObj.md?]at hm
  ·simp only[HObj.md?,Option.some.injEq]at hm; subst hm; exact .inr ⟨m,rfl,hle⟩
 | mp m a b xs=>
  rcases h with rfl | ⟨m1,cs',rfl,hle⟩
  ·simp[HObj.md?]at hm
  ·simp only[HObj.md?,Option.some.injEq]at hm; subst hm; exact .inr ⟨m,rfl,hle⟩
theorem HObj.live_ne {o:HObj}(h:o.live):o≠.pend:=by rintro rfl; simp[HObj.live,HObj.md?]at h
theorem HObj.ev_ne {o o':HObj}(h:o.ev o')(hn:o≠.pend):o'≠.pend:=by
 cases o with
 | pend=>exact absurd rfl hn
 | dead=>rw[show o'=.dead from h]; simp
 | box m t cs=>rcases h with rfl | ⟨_,_,rfl,_⟩ <;> simp
 | row m t e xs=>rcases h with rfl | ⟨_,_,rfl,_⟩ <;> simp
 | mp m a b xs=>rcases h with rfl | ⟨_,_,rfl,_⟩ <;> simp
theorem HObj.live_of_md {o:HObj}{m:Md}(h:o.md?=some m):o.live:=by simp[HObj.live,h]
theorem HObj.md_of_live {o:HObj}(h:o.live):∃ m,o.md?=some m:=Option.isSome_iff_exists.1 h
theorem Md.le_rw {m:Md}(h:m.le .rw):m=.rw:=by
 rcases h with h | ⟨_,h⟩
 ·exact h
 ·cases h
theorem Md.le_own {m m':Md}(h:m.le m')(h':m'≠.fz):m=m':=by
 rcases h with h | ⟨_,h⟩
 ·exact h
 ·exact absurd h h'
theorem Ext.refl(c:RC):Ext c c where
 base:=rfl
 size:=Nat.le_refl _
 os:=rfl
 tape:=rfl
 output:=rfl
 keep _ _ _:=rfl
 cells _ vs _ z h:=⟨vs,z,h,rfl,.inl rfl⟩
 blk _ _ _ _:=rfl
 ev _ o h:=⟨o,h,o.ev_refl⟩
 fresh id o' _ h hl hn _ _:=absurd hl (hn o' h)
theorem Ext.wr_back {c c':RC}(h:Ext c c'){b:Nat}(hw:c'.wr b)(hb:b<c.w.heap.size):c.wr b:=by
 obtain⟨id,o',ho',hm',hb'⟩:=hw;by_cases hl:∃ o,c.heap[id]?=some o/\o.live
 ·obtain⟨o,ho,hlo⟩:=hl;obtain⟨o1,ho1,hev⟩:=h.ev id o ho;rw[ho']at ho1; cases ho1;rcases HObj.ev_md hev hm' with hn | ⟨m,hm,hle⟩
  ·exact absurd hlo hn
  ·rw[Md.le_rw hle]at hm;exact⟨id,o,ho,hm,(h.blk id o ho (HObj.live_ne hlo)).symm.trans hb'⟩
 ·exact h.fresh id o' b ho' (HObj.live_of_md hm') (λo ho hlo=>hl ⟨o,ho,hlo⟩) hb' hb
theorem Ext.own_back {c c':RC}(h:Ext c c'){b:Nat}(hw:c'.own b)(hb:b<c.w.heap.size):c.own b:=by
 obtain⟨id,o',m',ho',hm',hne,hb'⟩:=hw;by_cases hl:∃ o,c.heap[id]?=some o/\o.live
 ·obtain⟨o,ho,hlo⟩:=hl;obtain⟨o1,ho1,hev⟩:=h.ev id o ho;rw[ho']at ho1; cases ho1;rcases HObj.ev_md hev hm' with hn | ⟨m,hm,hle⟩
  ·exact absurd hlo hn
  ·rw[Md.le_own hle hne]at hm;exact⟨id,o,m',ho,hm,hne,(h.blk id o ho (HObj.live_ne hlo)).symm.trans hb'⟩
 ·exact(h.fresh id o' b ho' (HObj.live_of_md hm') (λo ho hlo=>hl ⟨o,ho,hlo⟩) hb' hb).own
theorem Ext.ok {c c':RC}(h:Ext c c')(b:Nat)(hb:c.ok b):c'.ok b/\c'.w.heap[b]?=c.w.heap[b]?:=
 ⟨⟨Nat.lt_of_lt_of_le hb.1 h.size,λho=>hb.2.1 (h.own_back ho hb.1),by rw[h.base,h.inb]; exact hb.2.2⟩,h.keep b hb.1 λhw=>hb.2.1 hw.own⟩
theorem Ext.trans {a b c:RC}(h:Ext a b)(k:Ext b c):Ext a c where
 base:=k.base.trans h.base
 inb:=k.inb.trans h.inb
 size:=Nat.le_trans h.size k.size
 os:=k.os.trans h.os
 tape:=k.tape.trans h.tape
 output:=k.output.trans h.output
 keep i hi hw:=(k.keep i (Nat.lt_of_lt_of_le hi h.size) λhw'=>hw (h.wr_back hw' hi)).trans (h.keep i hi hw)
 cells i vs t z hv:=by
  obtain⟨vs1,z1,h1,e1,f1⟩:=h.cells i vs t z hv;obtain⟨vs2,z2,h2,e2,f2⟩:=k.cells i vs1 t z1 h1;refine⟨vs2,z2,h2,e2.trans e1,?_⟩;rcases f2 with rfl | f2
  ·rcases f1 with rfl | f1
   ·exact .inl rfl
   ·refine .inr λhl=>f1 ?_;obtain⟨id,o',ho',hl',hb'⟩:=hl;by_cases hm:∃ o,b.heap[id]?=some o/\o.live
    ·obtain⟨o,ho,hlo⟩:=hm;exact⟨id,o,ho,hlo,(k.blk id o ho (HObj.live_ne hlo)).symm.trans hb'⟩
    ·obtain⟨id2,o2,g1,g2,g3⟩:=k.fresh id o' i ho' hl' (λo ho hlo=>hm ⟨o,ho,hlo⟩) hb' (Array.getElem?_eq_some_iff.1 h1).1;exact⟨id2,o2,g1,HObj.live_of_md g2,g3⟩
  ·exact .inr f2
 blk id o ho hl:=by
  obtain⟨o1,ho1,hev⟩:=h.ev id o ho;exact(k.blk id o1 ho1 (HObj.ev_ne hev hl)).trans (h.blk id o ho hl)
 ev id o ho:=by
  obtain⟨o1,ho1,e1⟩:=h.ev id o ho;obtain⟨o2,ho2,e2⟩:=k.ev id o1 ho1;exact⟨o2,ho2,HObj.ev_trans e1 e2⟩
 fresh id o' i ho' hl hn hb hi:=by
  by_cases hm:∃ o,b.heap[id]?=some o/\o.live
  ·obtain⟨o,ho,hlo⟩:=hm;exact h.fresh id o i ho hlo hn ((k.blk id o ho (HObj.live_ne hlo)).symm.trans hb) hi
  ·exact h.wr_back (k.fresh id o' i ho' hl (λo ho hlo=>hm ⟨o,ho,hlo⟩) hb (Nat.lt_of_lt_of_le hi h.size)) hi
section
variable {c c':RC}
theorem Ext.obj(h:Ext c c'){id:Nat}{o:HObj}(ho:c.heap[id]?=some o)(hn:o≠.pend):
  ∃ o',c'.heap[id]?=some o'/\o.ev o'/\c'.blk id=c.blk id:=by
 obtain⟨o',h1,h2⟩:=h.ev id o ho;exact⟨o',h1,h2,h.blk id o ho hn⟩
theorem LV.rel_mono(h:Ext c c'):∀ {s:LV}{u:Value},s.rel c u->s.rel c' u
 | .val _,_,r=>r
 | .data k x,u,r=>K.rep_mono h.ok k x [u] r
 | .ref id off,u,r=>by
  simp only[LV.rel]at r ⊢
  cases ho:c.heap[id]? with
  | none=>rw[ho]at r; exact r.elim
  | some o=>
   rw[ho]at r
   cases o with
   | pend=>exact r.elim
   | dead=>
    obtain⟨o',h1,h2,_⟩:=h.obj ho (by simp);rw[h1,show o'=.dead from h2]; trivial
   | box m t cs=>
    obtain⟨b,hb,e⟩:=r;obtain⟨o',h1,h2,h3⟩:=h.obj ho (by simp);rw[h1];rcases h2 with rfl | ⟨_,_,rfl,_⟩
    ·trivial
    ·exact⟨b,h3.trans hb,e⟩
   | row m t e' xs=>
    obtain⟨b,hb,e⟩:=r;obtain⟨o',h1,h2,h3⟩:=h.obj ho (by simp);rw[h1];rcases h2 with rfl | ⟨_,_,rfl,_⟩
    ·trivial
    ·exact⟨b,h3.trans hb,e⟩
   | mp m a b xs=>exact r.elim
theorem Z1ep(h:Ext c c'){id off len:Nat}{u:Value}(r:SV.rel c (.osl id off len) u):SV.rel c' (.osl id off len) u:=by
 simp only[SV.rel]at r ⊢
 cases ho:c.heap[id]? with
 | none=>rw[ho]at r; exact r.elim
 | some o=>
  rw[ho]at r
  cases o with
  | pend=>exact r.elim
  | dead=>
   obtain⟨o',h1,h2,_⟩:=h.obj ho (by simp);rw[h1,show o'=.dead from h2]; trivial
  | box m t cs=>exact r.elim
  | row m t e' xs=>
   obtain⟨A,cap,e,hc,hl,hr⟩:=r;obtain⟨o',h1,h2,h3⟩:=h.obj ho (by simp);rw[h1];rcases h2 with rfl | ⟨_,xs',rfl,hx,_⟩
   ·trivial
   ·refine⟨A,cap,e,hc,by rw[hx]; exact hl,?_⟩;rcases hr with hr | ⟨b,vs,hb,ha,hv,hsz⟩
    ·exact .inl hr
    ·obtain⟨vs',z',hv',hs,hz⟩:=h.cells b vs t _ hv;rcases hz with rfl | hz
     ·exact .inr ⟨b,vs',h3.trans hb,ha,hv',by rw[hs]; exact hsz⟩
     ·exact absurd ⟨id,_,h1,by trivial,h3.trans hb⟩ hz
  | mp m a b xs=>exact r.elim
theorem SV.rel_mono(h:Ext c c'):∀ {s:SV}{u:Value},s.rel c u->s.rel c' u
 | .val _,_,r=>r
 | .data k x,u,r=>K.rep_mono h.ok k x [u] r
 | .void,_,r=>r
 | .full e xs,u,r=>⟨K.rep_mono h.ok (.slice e) xs [u] r.1,r.2⟩
 | .junk,_,_=>trivial
 | .bstr _,_,r=>r
 | .clo f a b,u,⟨vs,ws,e,h1,h2⟩=>⟨vs,ws,e,h1.mono λ_ _=>LV.rel_mono h,h2.mono λ_ _=>LV.rel_mono h⟩
 | .ref id off,u,r=>LV.rel_mono (s:=.ref id off) h r
 | .eref id i off,u,r=>by
  simp only[SV.rel]at r ⊢
  cases ho:c.heap[id]? with
  | none=>rw[ho]at r; exact r.elim
  | some o=>
   rw[ho]at r
   cases o with
   | pend=>exact r.elim
   | dead=>
    obtain⟨o',h1,h2,_⟩:=h.obj ho (by simp);rw[h1,show o'=.dead from h2]; trivial
   | box m t cs=>exact r.elim
   | row m t e' xs=>
    obtain⟨hi,b,hb,e⟩:=r;obtain⟨o',h1,h2,h3⟩:=h.obj ho (by simp);rw[h1];rcases h2 with rfl | ⟨_,_,rfl,hx,_⟩
    ·trivial
    ·exact⟨by rw[hx]; exact hi,b,h3.trans hb,e⟩
   | mp m a b xs=>exact r.elim
 | .mref id,u,r=>by
  simp only[SV.rel]at r ⊢
  cases ho:c.heap[id]? with
  | none=>rw[ho]at r; exact r.elim
  | some o=>
   rw[ho]at r
   cases o with
   | pend=>exact r.elim
   | dead=>
    obtain⟨o',h1,h2,_⟩:=h.obj ho (by simp);rw[h1,show o'=.dead from h2]; trivial
   | box m t cs=>exact r.elim
   | row m t e' xs=>exact r.elim
   | mp m a b xs=>
    obtain⟨b,hb,e⟩:=r;obtain⟨o',h1,h2,h3⟩:=h.obj ho (by simp);rw[h1];rcases h2 with rfl | ⟨_,_,rfl,_⟩
    ·trivial
    ·exact⟨b,h3.trans hb,e⟩
 | .bsl id len,u,r=>by
  simp only[SV.rel]at r ⊢
  cases ho:c.heap[id]? with
  | none=>rw[ho]at r; exact r.elim
  | some o=>
   rw[ho]at r
   cases o with
   | pend=>exact r.elim
   | dead=>
    obtain⟨o',h1,h2,_⟩:=h.obj ho (by simp);rw[h1,show o'=.dead from h2]; trivial
   | row m t e' xs=>exact r.elim
   | mp m a b xs=>exact r.elim
   | box m t cs=>
    obtain⟨hl,b,hb,e⟩:=r;obtain⟨o',h1,h2,h3⟩:=h.obj ho (by simp);rw[h1];rcases h2 with rfl | ⟨_,_,rfl,hx,_⟩
    ·trivial
    ·exact⟨by rw[hx]; exact hl,b,h3.trans hb,e⟩
 | .osl id off len,u,r=>Z1ep h r
 | .osx id len,u,r=>⟨Z1ep h (off:=0) r.1,r.2⟩
theorem XV.rel_mono(h:Ext c c'):∀ {s:XV}{u:Value},s.rel c u->s.rel c' u
 | .one _,_,r=>SV.rel_mono h r
 | .agg _,_,⟨vs,e,r⟩=>⟨vs,e,r.mono λ_ _=>SV.rel_mono h⟩
 | .dat k x,_,⟨vs,e,r⟩=>⟨vs,e,K.rep_mono h.ok k x _ r⟩
theorem EV.rel_mono(h:Ext c c'):∀ {s:EV}{u:Value},s.rel c u->s.rel c' u
 | .x _,_,r=>XV.rel_mono h r
 | .tup _,_,⟨us,e,r⟩=>⟨us,e,r.mono λ_ _=>XV.rel_mono h⟩
theorem HObj.rel_mono(h:Ext c c'){id:Nat}{o:HObj}(ho:c.heap[id]?=some o)(hb:∀ b,c.blk id=some b->o.live->c'.w.heap[b]?=c.w.heap[b]?)(r:o.rel c id):o.rel c' id:=by
 cases o with
 | pend=>trivial
 | dead=>trivial
 | box m t cs=>
  obtain⟨b,vs,h1,h2,h3⟩:=r;exact⟨b,vs,(h.blk id _ ho (by simp)).trans h1,(hb b h1 rfl).trans h2,h3.mono λ_ _=>SV.rel_mono h⟩
 | row m t e xs=>
  refine⟨r.1,?_⟩;rcases r.2 with⟨h1,h2⟩ | ⟨b,vs,fr,re,h1,h2,h3,h4⟩
  ·exact .inl ⟨(h.blk id _ ho (by simp)).trans h1,h2⟩
  ·exact .inr ⟨b,vs,fr,re,(h.blk id _ ho (by simp)).trans h1,(hb b h1 rfl).trans h2,h3,h4.mono λx cs=>K.rep_mono h.ok e x cs⟩
 | mp m ka kb xs=>
  obtain⟨b,es,ck,h1,h2,h3⟩:=r;exact⟨b,es,ck,(h.blk id _ ho (by simp)).trans h1,(hb b h1 rfl).trans h2,Ents.mono (λ_ _=>KV.mono λx c=>K.rep_mono h.ok ka x c) (λ_ _=>KV.mono λx c=>K.rep_mono h.ok kb x c) h3⟩
end
def upd(f:Nat->Option Nat)(i:Nat)(v:Option Nat):Nat->Option Nat:=λj=>if j=i then v else f j
structure Grows (w w':World):Prop where
 size:w.heap.size<=w'.heap.size
 os:w'.os=w.os
 tape:w'.tape=w.tape
 output:w'.output=w.output
 keep:∀(b:Nat),b<w.heap.size->w'.heap[b]?=w.heap[b]?
theorem Grows.refl(w:World):Grows w w:=⟨Nat.le_refl _,rfl,rfl,rfl,λ_ _=>rfl⟩
theorem Grows.trans {a b c:World}(h:Grows a b)(k:Grows b c):Grows a c:=
 ⟨Nat.le_trans h.size k.size,k.os.trans h.os,k.tape.trans h.tape,k.output.trans h.output,λi hi=>(k.keep i (Nat.lt_of_lt_of_le hi h.size)).trans (h.keep i hi)⟩
theorem Grows.alloc(w:World)(o:Obj):Grows w (w.alloc o):=
 ⟨by simp,rfl,rfl,rfl,λb hb=>by simp only[World.alloc,Array.getElem?_push]; rw[if_neg (by omega)]⟩
theorem Grows.drew(w:World):Grows w w.drew:=⟨Nat.le_refl _,rfl,rfl,rfl,λ_ _=>rfl⟩
theorem Z1x {α:Type}{l:Array α}{i:Nat}{a:α}(h:l[i]?=some a):i<l.size:=by
 rcases Nat.lt_or_ge i l.size with h' | h'
 ·exact h'
 ·rw[Array.getElem?_eq_none h']at h; cases h
theorem Ext.grows {c:RC}{w':World}(hg:Grows c.w w'):Ext c {c with w:=w' } where
 base:=rfl
 size:=hg.size
 os:=hg.os
 tape:=hg.tape
 output:=hg.output
 keep b hb _:=hg.keep b hb
 cells b vs t z h:=⟨vs,z,(hg.keep b (Z1x h)).trans h,rfl,.inl rfl⟩
 blk _ _ _ _:=rfl
 ev _ o h:=⟨o,h,o.ev_refl⟩
 fresh _ o' _ h hl hn _ _:=absurd hl (hn o' h)
theorem HObj.blk_lt {c:RC}{id:Nat}{o:HObj}(r:o.rel c id)(hl:o.live){b:Nat}(hb:c.blk id=some b):b<c.w.heap.size:=by
 cases o with
 | pend=>simp[HObj.live,HObj.md?]at hl
 | dead=>simp[HObj.live,HObj.md?]at hl
 | box m t cs=>
  obtain⟨b',vs,h1,h2,_⟩:=r;rw[hb]at h1; cases h1; exact Z1x h2
 | row m t e xs=>
  rcases r.2 with⟨h1,_⟩ | ⟨b',vs,fr,re,h1,h2,_⟩
  ·rw[hb]at h1; cases h1
  ·rw[hb]at h1; cases h1; exact Z1x h2
 | mp m ka kb xs=>
  obtain⟨b',es,ck,h1,h2,_⟩:=r;rw[hb]at h1; cases h1; exact Z1x h2
theorem RC.Inv.grows {c:RC}(hi:c.Inv){w':World}(hg:Grows c.w w'):RC.Inv {c with w:=w' } where
 objs id o ho:=HObj.rel_mono (Ext.grows hg) ho (λb hb hl=>hg.keep b (HObj.blk_lt (hi.objs id o ho) hl hb)) (hi.objs id o ho)
 inj:=hi.inj
 base:=hi.base
 basele:=Nat.le_trans hi.basele hg.size
def RC.put(c:RC)(w':World)(id:Nat)(o:HObj)(b:Option Nat):RC:={c with w:=w',heap:=c.heap.set id o,blk:=upd c.blk id b}
section
variable {c:RC} {w':World} {id:Nat} {o:HObj} {ob:Option Nat}
theorem Z1n {α:Type}{l:List α}{i j:Nat}{a x:α}(h:(l.set i a)[j]?=some x):(i=j/\x=a/\i<l.length)∨(i≠j/\l[j]?=some x):=by
 rw[List.getElem?_set]at h;by_cases hij:i=j
 ·subst hij;rw[if_pos rfl]at h;by_cases hl:i<l.length
  ·rw[if_pos hl]at h; exact .inl ⟨rfl,(Option.some.inj h).symm,hl⟩
  ·rw[if_neg hl]at h; cases h
 ·rw[if_neg hij]at h; exact .inr ⟨hij,h⟩
theorem Z2t {α:Type}{l:List α}{i j:Nat}{a:α}(h:i≠j):(l.set i a)[j]?=l[j]?:=by rw[List.getElem?_set,if_neg h]
theorem Z3p {α:Type}{l:List α}{i:Nat}{a x:α}(h:l[i]?=some x):(l.set i a)[i]?=some a:=by
 rw[List.getElem?_set,if_pos rfl]
 have:i<l.length:=by
  rcases Nat.lt_or_ge i l.length with h' | h'
  ·exact h'
  ·rw[List.getElem?_eq_none h']at h; cases h
 rw[if_pos this]
theorem Ext.put(hg:Grows c.w w')(hp:c.heap[id]?=some .pend)(hb:∀ b,ob=some b->c.w.heap.size<=b):Ext c (c.put w' id o ob) where
 base:=rfl
 size:=hg.size
 os:=hg.os
 tape:=hg.tape
 output:=hg.output
 keep b hb _:=hg.keep b hb
 cells b vs t z h:=⟨vs,z,(hg.keep b (Z1x h)).trans h,rfl,.inl rfl⟩
 blk i oi hi hne:=by
  show upd c.blk id ob i=_;unfold upd;split
  ·rename_i h; subst h; rw[hp]at hi; cases hi; exact absurd rfl hne
  ·rfl
 ev i oi hi:=by
  by_cases h:id=i
  ·subst h; rw[hp]at hi; cases hi; exact⟨o,Z3p hp,trivial⟩
  ·exact⟨oi,(Z2t h).trans hi,oi.ev_refl⟩
 fresh i o' b ho' hl hn hbi hlt:=by
  rcases Z1n ho' with⟨rfl,rfl,_⟩ | ⟨h,h'⟩
  ·have:upd c.blk id ob id=ob:=by simp[upd]
   exact absurd hlt (Nat.not_lt.2 (hb b (this.symm.trans hbi)))
  ·exact absurd hl (hn o' h')
theorem RC.Inv.put(hi:c.Inv)(hg:Grows c.w w')(hp:c.heap[id]?=some .pend)(hb:∀ b,ob=some b->c.w.heap.size<=b)
  (hr:o.rel (c.put w' id o ob) id):(c.put w' id o ob).Inv where
 objs i oi ho:=by
  rcases Z1n ho with⟨rfl,rfl,_⟩ | ⟨h,h'⟩
  ·exact hr
  ·exact HObj.rel_mono (Ext.put hg hp hb) h' (λb hb hl=>hg.keep b (HObj.blk_lt (hi.objs i oi h') hl hb)) (hi.objs i oi h')
 inj i j oi oj b hoi hli hoj hlj hbi hbj:=by
  have e:∀ k,k≠id->(c.put w' id o ob).blk k=c.blk k:=λk hk=>by show upd c.blk id ob k=_; simp[upd,hk]
  have e':(c.put w' id o ob).blk id=ob:=by show upd c.blk id ob id=_; simp[upd]
  rcases Z1n hoi with⟨rfl,rfl,_⟩ | ⟨h,h'⟩ <;> rcases Z1n hoj with⟨rfl,rfl,_⟩ | ⟨k,k'⟩
  ·rfl
  ·rw[e']at hbi;rw[e _ (Ne.symm k)]at hbj;exact absurd (HObj.blk_lt (hi.objs _ _ k') hlj hbj) (Nat.not_lt.2 (hb b hbi))
  ·rw[e']at hbj;rw[e _ (Ne.symm h)]at hbi;exact absurd (HObj.blk_lt (hi.objs _ _ h') hli hbi) (Nat.not_lt.2 (hb b hbj))
  ·rw[e _ (Ne.symm h)]at hbi;rw[e _ (Ne.symm k)]at hbj;exact hi.inj i j oi oj b h' hli k' hlj hbi hbj
 base i oi b hoi hl hbi:=by
  rcases Z1n hoi with⟨rfl,rfl,_⟩ | ⟨h,h'⟩
  ·have:upd c.blk id ob id=ob:=by simp[upd]
   exact Nat.le_trans hi.basele (hb b (this.symm.trans hbi))
  ·have:upd c.blk id ob i=c.blk i:=by simp[upd,Ne.symm h]
   exact hi.base i oi b h' hl (this.symm.trans hbi)
 basele:=Nat.le_trans hi.basele hg.size
end
end
theorem Ext.build {c c':RC}(hb:c'.base=c.base)(hin:c'.inb=c.inb)(hg:Grows c.w c'.w)(hh:∀(id:Nat) (o:HObj),c.heap[id]?=some o->o≠.pend->c'.heap[id]?=some o)
  (hlen:∀(id:Nat)(o:HObj),c.heap[id]?=some o->∃ o',c'.heap[id]?=some o')
  (hblk:∀(id:Nat)(o:HObj),c.heap[id]?=some o->o≠.pend->c'.blk id=c.blk id)
  (hnew:∀(id:Nat)(o':HObj)(b:Nat),c'.heap[id]?=some o'->o'.live->(∀ o,c.heap[id]?=some o->¬ o.live)->c'.blk id=some b->c.w.heap.size<=b):Ext c c' where
 base:=hb
 inb:=hin
 size:=hg.size
 os:=hg.os
 tape:=hg.tape
 output:=hg.output
 keep b hb _:=hg.keep b hb
 cells b vs t z h:=⟨vs,z,(hg.keep b (Z1x h)).trans h,rfl,.inl rfl⟩
 blk:=hblk
 ev id o ho:=by
  by_cases hp:o=.pend
  ·subst hp; obtain⟨o',h⟩:=hlen id _ ho; exact⟨o',h,trivial⟩
  ·exact⟨o,hh id o ho hp,o.ev_refl⟩
 fresh id o' b ho' hl hn hbi hlt:=absurd hlt (Nat.not_lt.2 (hnew id o' b ho' hl hn hbi))
theorem RC.Inv.build {c c':RC}(hi:c.Inv)(he:Ext c c')(hg:Grows c.w c'.w)(hh:∀(id:Nat) (o:HObj),c.heap[id]?=some o->o≠.pend->c'.heap[id]?=some o)
  (hnew:∀(id:Nat)(o':HObj)(b:Nat),c'.heap[id]?=some o'->o'.live->(∀ o,c.heap[id]?=some o->¬ o.live)->c'.blk id=some b->c.w.heap.size<=b)
  (hobj:∀(id:Nat)(o':HObj),c'.heap[id]?=some o'->(∀ o,c.heap[id]?=some o->¬ o.live)->o'.rel c' id)
  (hinj:∀(i j:Nat)(oi oj:HObj)(b:Nat),c'.heap[i]?=some oi->oi.live->(∀ o,c.heap[i]?=some o->¬ o.live)->c'.heap[j]?=some oj->oj.live->(∀ o,c.heap[j]?=some o->¬ o.live)->
   c'.blk i=some b->c'.blk j=some b->i=j):c'.Inv where
 objs id o' ho':=by
  by_cases hl:∃ o,c.heap[id]?=some o/\o.live
  ·obtain⟨o,ho,hlo⟩:=hl;have:=hh id o ho (HObj.live_ne hlo);rw[ho']at this; cases this;exact HObj.rel_mono he ho (λb hb hl=>hg.keep b (HObj.blk_lt (hi.objs id _ ho) hl hb)) (hi.objs id _ ho)
  ·exact hobj id o' ho' λo ho hlo=>hl ⟨o,ho,hlo⟩
 inj i j oi oj b hoi hli hoj hlj hbi hbj:=by
  by_cases h1:∃ o,c.heap[i]?=some o/\o.live <;> by_cases h2:∃ o,c.heap[j]?=some o/\o.live
  ·obtain⟨o1,ho1,hl1⟩:=h1;obtain⟨o2,ho2,hl2⟩:=h2;exact hi.inj i j o1 o2 b ho1 hl1 ho2 hl2 ((he.blk i o1 ho1 (HObj.live_ne hl1)).symm.trans hbi) ((he.blk j o2 ho2 (HObj.live_ne hl2)).symm.trans hbj)
  ·obtain⟨o1,ho1,hl1⟩:=h1;have:=HObj.blk_lt (hi.objs i o1 ho1) hl1 ((he.blk i o1 ho1 (HObj.live_ne hl1)).symm.trans hbi);exact absurd this (Nat.not_lt.2 (hnew j oj b hoj hlj (λo ho hlo=>h2 ⟨o,ho,hlo⟩) hbj))
  ·obtain⟨o2,ho2,hl2⟩:=h2;have:=HObj.blk_lt (hi.objs j o2 ho2) hl2 ((he.blk j o2 ho2 (HObj.live_ne hl2)).symm.trans hbj);exact absurd this (Nat.not_lt.2 (hnew i oi b hoi hli (λo ho hlo=>h1 ⟨o,ho,hlo⟩) hbi))
  ·exact hinj i j oi oj b hoi hli (λo ho hlo=>h1 ⟨o,ho,hlo⟩) hoj hlj (λo ho hlo=>h2 ⟨o,ho,hlo⟩) hbi hbj
 base i oi b hoi hl hbi:=by
  rw[he.base];by_cases h1:∃ o,c.heap[i]?=some o/\o.live
  ·obtain⟨o1,ho1,hl1⟩:=h1;exact hi.base i o1 b ho1 hl1 ((he.blk i o1 ho1 (HObj.live_ne hl1)).symm.trans hbi)
  ·exact Nat.le_trans hi.basele (hnew i oi b hoi hl (λo ho hlo=>h1 ⟨o,ho,hlo⟩) hbi)
 basele:=by rw[he.base]; exact Nat.le_trans hi.basele hg.size
inductive Res:Type 1 where
 | fail
 | ret (ev:EV) (us:List (Nat × HObj))
 | ask (p:Prop) (f:p->Res)
 | all (α:Type) (p:α->Prop) (ne:∃ a,p a) (f:α->Res)
 | br (b:Bool) (x y:Res)
def Br(b:Bool)(x y:Prop):Prop:=match b with
 | true=>x
 | false=>y
theorem Br.intro {b:Bool}{x y:Prop}(h1:b=true->x)(h2:b=false->y):Br b x y:=by
 cases b
 ·exact h2 rfl
 ·exact h1 rfl
theorem Br.t {b:Bool}{x y:Prop}(h:Br b x y)(hb:b=true):x:=by subst hb; exact h
theorem Br.f {b:Bool}{x y:Prop}(h:Br b x y)(hb:b=false):y:=by subst hb; exact h
theorem Br.true {b:Bool}{x y:Prop}(h:Br b x y)(hb:b=true):x:=h.t hb
theorem Br.false {b:Bool}{x y:Prop}(h:Br b x y)(hb:b=false):y:=h.f hb
def Res.wp:Res->(EV->List (Nat × HObj)->Prop)->Prop
 | .fail,_=>False
 | .ret e us,k=>k e us
 | .ask p f,k=>∃ h:p,(f h).wp k
 | .all _ p _ f,k=>∀ a,p a->(f a).wp k
 | .br b x y,k=>Br b (x.wp k) (y.wp k)
inductive TK where
 | int (k:IntKind) | bool | flt (k:FloatKind)
 | slice (e:TypeId) | arr (n:Nat) (e:TypeId)
 | struct (fs:List (Nat × TypeId)) | ptr (e:TypeId)
 | plain | other | str
 | map (k e:TypeId)
structure TD where
 k:TK
 sz:Nat
 bytes:Nat
 zero:List Value
 kind:Option K
def TK.fits(P:Program)(t:TypeId):TK->Prop
 | .int k=>P.underlying t=some (.int k)
 | .bool=>P.underlying t=some .bool
 | .flt k=>P.underlying t=some (.float k)
 | .slice e=>P.underlying t=some (.slice e)
 | .arr n e=>P.underlying t=some (.array n e)
 | .struct fs=>∃ fields,P.underlying t=some (.struct fields)/\fields.toList.map (λf=>(f.offset,f.type))=fs
 | .ptr e=>P.underlying t=some (.pointer e)
 | .plain=>∃ d,P.underlying t=some d/\(match d with | .struct _ | .array _ _=>false | _=>true)=true
 | .other=>True
 | .str=>P.underlying t=some .string
 | .map k e=>P.underlying t=some (.map k e)/\P.stoodInHeld k=false/\(∀ fields,P.underlying k=some (.struct fields)->∀ f ∈ fields.toList,f.name ≠ "_")/\
   ∀ ik,P.underlying e=some (.int ik)->∃ inf,P.info? e=some inf/\inf.zero=some (.int ik 0)
def TK.agg:TK->Option Bool
 | .arr .. | .struct _=>some true
 | .other=>none
 | _=>some false
structure TD.Fits (P:Program) (t:TypeId) (d:TD):Prop where
 k:d.k.fits P t
 info:∃ i z,P.info? t=some i/\i.size=d.sz/\i.bytes=d.bytes/\i.zero=some z/\z.cells.toList=d.zero/\z.cells.size=d.sz
 kind:∀ k,d.kind=some k->k.sz=d.sz/\d.k.agg=some k.agg/\∀ w ok,k.rep w ok k.dflt d.zero
inductive RF where
 | own (t:TypeId) (e:K)
 | int (k:IntKind)
 | bool
 | flt (k:FloatKind)
 | pair (a b:RF)
def RF.T:RF->Type
 | .own _ e=>List e.T
 | .int _=>Int
 | .bool=>Bool
 | .flt _=>Nat
 | .pair a b=>a.T × b.T
inductive RK where
 | own (t:TypeId) (e:K)
 | snap (k:K)
 | str (f:RF)
def RK.T:RK->Type
 | .own _ e=>List e.T
 | .snap k=>k.T
 | .str f=>f.T
def KS:List K->Type
 | []=>Unit
 | k :: ks=>k.T × KS ks
def RS:List RK->Type
 | []=>Unit
 | k :: ks=>k.T × RS ks
inductive Con where
 | det (args:List K) (res:List RK) (pre:KS args->Prop) (f:KS args->RS res)
 | rel (args:List K) (res:List RK) (pre:KS args->Prop) (post:KS args->RS res->Prop) (ne:∀ a,pre a->∃ r,post a r)
def Zbb:Value->Bool
 | .slice none 0 0=>true
 | _=>false
def Z10w:Value->Bool
 | .pointer none=>true
 | _=>false
theorem Z5z {v:Value}(h:Zbb v=true):v=.slice none 0 0:=by
 unfold Zbb at h; split at h
 ·rfl
 ·cases h
def Z1eq:Value->Bool
 | .map none=>true
 | _=>false
theorem Z194 {v:Value}(h:Z1eq v=true):v=.map none:=by
 unfold Z1eq at h; split at h
 ·rfl
 ·cases h
theorem Zt3 {v:Value}(h:Z10w v=true):v=.pointer none:=by
 unfold Z10w at h; split at h
 ·rfl
 ·cases h
def refS(h:List HObj)(id off:Nat):(e:K)->Option e.T
 | .slice e=>match h[id]? with
  | some (.box _ _ [.data k x])=>if off=0 then(if q:k=.slice e then some (q ▸ x)else none)else none
  | _=>none
 | _=>none
theorem Z1rl(id off:Nat)(e:K):refS [] id off e=none:=by cases e <;> simp[refS]
theorem Z1l9 {h h':List HObj}{id off:Nat}(H:h[id]?=h'[id]?)(e:K):refS h id off e=refS h' id off e:=by cases e <;> simp only[refS,H]
def SV.take(h:List HObj):(k:K)->SV->Option k.T
 | .int ik,.val (.int j n)=>if j=ik then some n else none
 | .bool,.val (.bool b)=>some b
 | .flt fk,.val (.float j b)=>if j=fk then some b else none
 | .slice _,.val v=>if Zbb v then some []else none
 | .slice _,.void=>some []
 | .slice e,.data k x=>if q:k=.slice e then some (q ▸ x)else none
 | .slice e,.full k x=>if q:K.slice k=.slice e then some (q ▸ (x:(K.slice k).T))else none
 | .slice e,.osl id off len=>match h[id]? with
  | some (.row _ _ e' xs)=>if q:e'=e then some (q ▸ (xs.drop off).take len)else none
  | _=>none
 | .ptr _,.val v=>if Z10w v then some none else none
 | .ptr e,.data k x=>if q:k=.ptr e then some (q ▸ x)else none
 | .ptr e,.ref id off=>match refS h id off e with
  | some y=>some (some y)
  | none=>none
 | .map _ _,.val v=>if Z1eq v then some []else none
 | .map a b,.data k x=>if q:k=.map a b then some (q ▸ x)else none
 | .map a b,.mref id=>match h[id]? with
  | some (.mp _ a' b' xs)=>if q:K.map a' b'=K.map a b then some (q ▸ (xs:(K.map a' b').T))else none
  | _=>none
 | _,_=>none
def Ze7 {α:Type}(f:List SV->Option (α × List SV)):Nat->List SV->Option (List α × List SV)
 | 0,cs=>some ([],cs)
 | n+1,cs=>match f cs with
  | some (x,r)=>match Ze7 f n r with
   | some (xs,r')=>some (x :: xs,r')
   | none=>none
  | none=>none
def Z7d(h:List HObj)(k:K):List SV->Option (k.T × List SV)
 | s :: r=>match s.take h k with
  | some x=>some (x,r)
  | none=>none
 | []=>none
def K.takeL(h:List HObj):(k:K)->List SV->Option (k.T × List SV)
 | .unit,cs=>some ((),cs)
 | .pair a b,cs=>match a.takeL h cs with
  | some (x,r)=>match b.takeL h r with
   | some (y,r')=>some ((x,y),r')
   | none=>none
  | none=>none
 | .arr n e,cs=>Ze7 (e.takeL h) n cs
 | .int ik,cs=>Z7d h (.int ik) cs
 | .bool,cs=>Z7d h .bool cs
 | .flt fk,cs=>Z7d h (.flt fk) cs
 | .slice e,cs=>Z7d h (.slice e) cs
 | .ptr e,cs=>Z7d h (.ptr e) cs
 | .map a b,cs=>Z7d h (.map a b) cs
 | .ent a b,cs=>none
def XV.take(h:List HObj)(k:K):XV->Option k.T
 | .one s=>if k.agg then none else s.take h k
 | .agg cs=>if k.agg then(match k.takeL h cs with | some (x,[])=>some x | _=>none)else none
 | .dat k' x=>if q:k'=k then(if k.agg then some (q ▸ x)else none)else none
def Z60(h:List HObj):(ks:List K)->List XV->Option (KS ks)
 | [],[]=>some ()
 | k :: ks,v :: vs=>match v.take h k with
  | some x=>match Z60 h ks vs with
   | some y=>some (x,y)
   | none=>none
  | none=>none
 | _,_=>none
def RC.all(c:RC)(b:Nat):Prop:=b<c.w.heap.size
theorem RC.ok_all {c:RC}(b:Nat)(h:c.ok b):c.all b/\c.w.heap[b]?=c.w.heap[b]?:=⟨h.1,rfl⟩
structure Tak (c:RC) (h:List HObj) (p:Nat->Prop):Prop where
 data:∀ b,c.ok b->p b
 row:∀(id:Nat)(m:Md)(t:TypeId)(e:K)(xs:List e.T),h[id]?=some (.row m t e xs)->c.heap[id]?=some (.row m t e xs)/\∀ b,c.blk id=some b->b<c.w.heap.size->p b
 box:∀(id:Nat)(m:Md)(t:TypeId)(cs:List SV),h[id]?=some (.box m t cs)->c.heap[id]?=some (.box m t cs)/\∀ b,c.blk id=some b->b<c.w.heap.size->p b
 mp:∀(id:Nat)(m:Md)(a b:K)(xs:List (a.T × b.T)),h[id]?=some (.mp m a b xs)->c.heap[id]?=some (.mp m a b xs)/\∀ b,c.blk id=some b->b<c.w.heap.size->p b
theorem Tak.all(c:RC):Tak c c.heap c.all:=⟨λb hb=>hb.1,λ_ _ _ _ _ h=>⟨h,λb _ hb=>hb⟩,λ_ _ _ _ h=>⟨h,λb _ hb=>hb⟩,λ_ _ _ _ _ h=>⟨h,λb _ hb=>hb⟩⟩
theorem Tak.none(c:RC):Tak c [] c.ok:=⟨λb hb=>hb,λ_ _ _ _ _ h=>by simp at h,λ_ _ _ _ h=>by simp at h,λ_ _ _ _ _ h=>by simp at h⟩
def hz:List HObj->List HObj
 | []=>[]
 | .box .fz t cs :: h=>.box .fz t cs :: hz h
 | .row .fz t e xs :: h=>.row .fz t e xs :: hz h
 | .mp .fz a b xs :: h=>.mp .fz a b xs :: hz h
 | _ :: h=>.dead :: hz h
theorem Z1nu:∀ {h:List HObj}{id:Nat}{o:HObj},(hz h)[id]?=some o->o≠.dead->h[id]?=some o/\o.md?=some .fz
 | [],id,o,ho,_=>by simp[hz]at ho
 | x :: h,0,o,ho,hn=>by
  unfold hz at ho;split at ho
  ·rename_i e; cases e
  ·rename_i e; cases e; simp only[List.getElem?_cons_zero,Option.some.injEq]at ho; subst ho; exact⟨rfl,rfl⟩
  ·rename_i e; cases e; simp only[List.getElem?_cons_zero,Option.some.injEq]at ho; subst ho; exact⟨rfl,rfl⟩
  ·rename_i e; cases e; simp only[List.getElem?_cons_zero,Option.some.injEq]at ho; subst ho; exact⟨rfl,rfl⟩
  ·rename_i e; cases e; simp only[List.getElem?_cons_zero,Option.some.injEq]at ho; subst ho; exact absurd rfl hn
 | x :: h,id+1,o,ho,hn=>by
  have:(hz h)[id]?=some o:=by
   unfold hz at ho;split at ho <;> rename_i e <;> cases e <;> simpa using ho
  simpa using Z1nu this hn
theorem Tak.frozen {c:RC}(hi:c.Inv):Tak c (hz c.heap) c.ok:=by
 have key:∀(id:Nat)(o:HObj),(hz c.heap)[id]?=some o->o≠.dead->c.heap[id]?=some o/\∀ b,c.blk id=some b->b<c.w.heap.size->c.ok b:=by
  intro id o ho hn;obtain⟨h1,h2⟩:=Z1nu ho hn;refine⟨h1,λb hb hlt=>⟨hlt,?_,.inl (hi.base id o b h1 (HObj.live_of_md h2) hb)⟩⟩;rintro⟨j,oj,m,h3,h4,h5,h6⟩;have:=hi.inj id j o oj b h1 (HObj.live_of_md h2) h3 (HObj.live_of_md h4) hb h6;subst this;rw[h1]at h3; cases h3;rw[h2]at h4; cases h4;exact h5 rfl
 exact⟨λb hb=>hb,λid m t e xs h=>key id _ h (by simp),λid m t cs h=>key id _ h (by simp),λid m a b xs h=>key id _ h (by simp)⟩
theorem SV.take_repT {c:RC}(hi:c.Inv){h:List HObj}{p:Nat->Prop}(T:Tak c h p):∀ {k:K}{s:SV}{x:k.T}{u:Value},s.take h k=some x->s.rel c u->k.rep c.w p x [u]:=by
 intro k s x u ht hr
 cases k with
 | int ik=>
  cases s with
  | val v=>
   cases v with
   | int j n=>
    simp only[SV.take]at ht;split at ht
    ·rename_i e; cases ht; subst e; rw[show u=_ from hr]; rfl
    ·cases ht
   | _=>simp[SV.take]at ht
  | _=>simp[SV.take]at ht
 | bool=>
  cases s with
  | val v=>
   cases v with
   | bool b=>obtain rfl:=Option.some.inj ht; rw[show u=_ from hr]; rfl
   | _=>simp[SV.take]at ht
  | _=>simp[SV.take]at ht
 | flt fk=>
  cases s with
  | val v=>
   cases v with
   | float j n=>
    simp only[SV.take]at ht;split at ht
    ·rename_i e; cases ht; subst e; rw[show u=_ from hr]; rfl
    ·cases ht
   | _=>simp[SV.take]at ht
  | _=>simp[SV.take]at ht
 | unit=>cases s <;> simp[SV.take]at ht
 | pair a b=>cases s <;> simp[SV.take]at ht
 | arr n e=>cases s <;> simp[SV.take]at ht
 | slice e=>
  cases s with
  | val v=>
   have hu:u=v:=hr;subst hu;simp only[SV.take]at ht;split at ht
   ·rename_i hn;obtain rfl:=Option.some.inj ht;rw[Z5z hn];exact⟨none,0,rfl,Nat.le_refl _,by simp[maxN],.inl rfl⟩
   ·cases ht
  | void=>
   obtain rfl:=Option.some.inj ht;obtain⟨A,rfl⟩:=hr;exact⟨A,0,rfl,Nat.le_refl _,by simp[maxN],.inl rfl⟩
  | data k' y=>
   simp only[SV.take]at ht;split at ht
   ·rename_i q; subst q; obtain rfl:=Option.some.inj ht;exact K.rep_mono (λb hb=>⟨T.data b hb,rfl⟩) _ _ _ hr
   ·cases ht
  | full k' y=>
   simp only[SV.take]at ht;split at ht
   ·rename_i q; cases q; obtain rfl:=Option.some.inj ht;exact K.rep_mono (λb hb=>⟨T.data b hb,rfl⟩) _ _ _ hr.1
   ·cases ht
  | osl id off len=>
   simp only[SV.take]at ht;simp only[SV.rel]at hr
   cases ho':h[id]? with
   | none=>rw[ho']at ht; simp at ht
   | some o=>
    rw[ho']at ht
    cases o with
    | pend=>simp at ht
    | dead=>simp at ht
    | box _ _ _=>simp at ht
    | mp _ _ _ _=>simp at ht
    | row m t e' xs=>
     obtain⟨ho,hP⟩:=T.row id m t e' xs ho';rw[ho]at hr;simp only at ht hr;split at ht
     ·rename_i q; subst q; obtain rfl:=Option.some.inj ht;obtain⟨A,cap,rfl,hc,hl,hr⟩:=hr;obtain⟨hmax,ho2⟩:=hi.objs id _ ho;have hlen:((xs.drop off).take len).length=len:=by rw[List.length_take,List.length_drop]; omega
      refine⟨A,cap,by rw[hlen],by rw[hlen]; exact hc,by rw[hlen]; omega,?_⟩;rcases hr with hr | ⟨b,vs,hb,ha,hv,hsz⟩
      ·left; apply List.eq_nil_of_length_eq_zero; rw[hlen]; omega
      ·right;rcases ho2 with⟨hn,_⟩ | ⟨b',vs',fr,re,hb',hv',hvs,hrows⟩
       ·rw[hb]at hn; cases hn
       ·rw[hb]at hb'; cases hb';rw[hv]at hv'; cases hv';refine⟨b,off*e'.sz,(fr.drop (off*e'.sz)).take (len*e'.sz),ha,hP b hb (Z1x hv),?_,?_⟩
        ·exact Rows.mono (λy cs=>K.rep_mono (λb hb=>⟨T.data b hb,rfl⟩) e' y cs) (Rows.take (λy cs=>K.rep_len e' y cs) len (Rows.drop (λy cs=>K.rep_len e' y cs) off hrows))
        ·intro j v hj
         have h1:(fr.drop (off*e'.sz))[j]?=some v:=by
          rw[List.getElem?_take]at hj;split at hj
          ·exact hj
          ·cases hj
         rw[List.getElem?_drop]at h1;simp only[World.cell?,hv]
         have h2:vs.toList[off*e'.sz+j]?=some v:=by
          rw[hvs,List.getElem?_append_left]
          ·exact h1
          ·rcases Nat.lt_or_ge (off*e'.sz+j) fr.length with h' | h'
           ·exact h'
           ·rw[List.getElem?_eq_none h']at h1; cases h1
         simpa using h2
     ·cases ht
  | _=>simp[SV.take]at ht
 | ptr e=>
  cases s with
  | val v=>
   have hu:u=v:=hr;subst hu;simp only[SV.take]at ht;split at ht
   ·rename_i hn;obtain rfl:=Option.some.inj ht;rw[Zt3 hn];exact .inl ⟨rfl,rfl⟩
   ·cases ht
  | data k' y=>
   simp only[SV.take]at ht;split at ht
   ·rename_i q; subst q; obtain rfl:=Option.some.inj ht;exact K.rep_mono (λb hb=>⟨T.data b hb,rfl⟩) _ _ _ hr
   ·cases ht
  | ref id off=>
   simp only[SV.take]at ht;split at ht
   ·rename_i y hy;obtain rfl:=Option.some.inj ht
    cases e with
    | slice e=>
     simp only[refS]at hy;simp only[SV.rel]at hr;split at hy
     ·rename_i m t k y ho';split at hy
      ·rename_i h0;subst h0;split at hy
       ·rename_i q;subst q;obtain rfl:=Option.some.inj hy;obtain⟨ho,hP⟩:=T.box id m t _ ho';rw[ho]at hr;obtain⟨b,hb,rfl⟩:=hr;obtain⟨b',vs,hb',hv,ha⟩:=hi.objs id _ ho;rw[hb]at hb'; cases hb';refine .inr ⟨_,b,0,vs.toList,rfl,rfl,hP b hb (Z1x hv),?_,λj v hj=>?_⟩
        ·generalize vs.toList=l at ha
         cases ha with
         | cons h1 h2=>
          cases h2
          exact K.rep_mono (λb hb=>⟨T.data b hb,rfl⟩) _ _ _ h1
        ·simp only[World.cell?,hv];simpa using hj
       ·cases hy
      ·cases hy
     ·cases hy
    | _=>simp[refS]at hy
   ·cases ht
  | _=>simp[SV.take]at ht
 | ent a b=>cases s <;> simp[SV.take]at ht
 | map a b=>
  cases s with
  | val v=>
   have hu:u=v:=hr;subst hu;simp only[SV.take]at ht;split at ht
   ·rename_i hn;obtain rfl:=Option.some.inj ht;rw[Z194 hn];exact .inl ⟨rfl,rfl⟩
   ·cases ht
  | data k' y=>
   simp only[SV.take]at ht;split at ht
   ·rename_i q; subst q; obtain rfl:=Option.some.inj ht;exact K.rep_mono (λb hb=>⟨T.data b hb,rfl⟩) _ _ _ hr
   ·cases ht
  | mref id=>
   simp only[SV.take]at ht;simp only[SV.rel]at hr
   cases ho':h[id]? with
   | none=>rw[ho']at ht; simp at ht
   | some o=>
    rw[ho']at ht
    cases o with
    | pend=>simp at ht
    | dead=>simp at ht
    | box _ _ _=>simp at ht
    | row _ _ _ _=>simp at ht
    | mp m a' b' xs=>
     obtain⟨ho,hP⟩:=T.mp id m a' b' xs ho';rw[ho]at hr;simp only at ht hr;split at ht
     ·rename_i q
      cases q
      obtain rfl:=Option.some.inj ht;obtain⟨k,hk,rfl⟩:=hr;obtain⟨k',es,ck,hk',hw,he⟩:=hi.objs id _ ho;rw[hk]at hk'; cases hk';exact .inr ⟨k,es,ck,rfl,hP k hk (Z1x hw),hw,Ents.mono (λ_ _=>KV.mono λx cs=>K.rep_mono (λb hb=>⟨T.data b hb,rfl⟩) _ x cs) (λ_ _=>KV.mono λx cs=>K.rep_mono (λb hb=>⟨T.data b hb,rfl⟩) _ x cs) he⟩
     ·cases ht
  | _=>simp[SV.take]at ht
def KRep(w:World)(ok:Nat->Prop)(k:K)(x:k.T)(v:Value):Prop:=
 if k.agg then ∃ vs,v=.agg vs/\k.rep w ok x vs.toList else k.rep w ok x [v]
def Z5t(w:World)(ok:Nat->Prop):(ks:List K)->KS ks->List Value->Prop
 | [],_,vs=>vs=[]
 | k :: ks,x,vs=>∃ v r,vs=v :: r/\KRep w ok k x.1 v/\Z5t w ok ks x.2 r
theorem K.one_of {k:K}(h:k.agg=false):k.sz=1:=by cases k <;> first | rfl | cases h
theorem Zt4 {α:Type}{f:List SV->Option (α × List SV)}{c:RC}{R:α->List Value->Prop}
  (hf:∀ cs vs x r,f cs=some (x,r)->All2 (SV.rel c) cs vs->∃ v1 v2,vs=v1++v2/\R x v1/\All2 (SV.rel c) r v2):
  ∀(n:Nat)(cs:List SV)(vs:List Value)(xs:List α)(r:List SV),Ze7 f n cs=some (xs,r)->All2 (SV.rel c) cs vs->
   xs.length=n/\∃ v1 v2,vs=v1++v2/\Rows R xs v1/\All2 (SV.rel c) r v2
 | 0,cs,vs,xs,r,h,ha=>by
  simp only[Ze7,Option.some.injEq,Prod.mk.injEq]at h;obtain⟨rfl,rfl⟩:=h;exact⟨rfl,[],vs,rfl,rfl,ha⟩
 | n+1,cs,vs,xs,r,h,ha=>by
  simp only[Ze7]at h;split at h
  ·rename_i x r1 h1;split at h
   ·rename_i xs1 r2 h2;simp only[Option.some.injEq,Prod.mk.injEq]at h;obtain⟨rfl,rfl⟩:=h;obtain⟨v1,v2,rfl,hr,ha2⟩:=hf _ _ _ _ h1 ha;obtain⟨hl,v3,v4,rfl,hr2,ha3⟩:=Zt4 hf n _ _ _ _ h2 ha2;exact⟨by simp[hl],v1++v3,v4,by simp,⟨v1,v3,rfl,hr,hr2⟩,ha3⟩
   ·cases h
  ·cases h
theorem K.takeL_repT {c:RC}(hi:c.Inv){hh:List HObj}{p:Nat->Prop}(T:Tak c hh p):∀(k:K)(cs:List SV)(vs:List Value)(x:k.T)(r:List SV),k.takeL hh cs=some (x,r)->All2 (SV.rel c) cs vs->
  ∃ v1 v2,vs=v1++v2/\k.rep c.w p x v1/\All2 (SV.rel c) r v2:=by
 intro k
 induction k with
 | unit=>
  intro cs vs x r h ha;simp only[K.takeL,Option.some.injEq,Prod.mk.injEq]at h;obtain⟨_,rfl⟩:=h;exact⟨[],vs,rfl,rfl,ha⟩
 | pair a b iha ihb=>
  intro cs vs x r h ha;simp only[K.takeL]at h;split at h
  ·rename_i x1 r1 h1;split at h
   ·rename_i x2 r2 h2;obtain⟨rfl,rfl⟩:=Prod.mk.inj (Option.some.inj h);obtain⟨v1,v2,rfl,hr,ha2⟩:=iha _ _ _ _ h1 ha;obtain⟨v3,v4,rfl,hr2,ha3⟩:=ihb _ _ _ _ h2 ha2;exact⟨v1++v3,v4,by simp,⟨v1,v3,rfl,hr,hr2⟩,ha3⟩
   ·cases h
  ·cases h
 | arr n e ih=>
  intro cs vs x r h ha;simp only[K.takeL]at h;obtain⟨hl,v1,v2,e1,hr,ha2⟩:=Zt4 (λcs vs x r=>ih cs vs x r) n cs vs x r h ha;exact⟨v1,v2,e1,⟨hl,hr⟩,ha2⟩
 | int ik=>exact one c hi T (.int ik) rfl
 | bool=>exact one c hi T .bool rfl
 | flt fk=>exact one c hi T (.flt fk) rfl
 | slice e _=>exact one c hi T (.slice e) rfl
 | ptr e _=>exact one c hi T (.ptr e) rfl
 | map a b _ _=>exact one c hi T (.map a b) rfl
 | ent a b _ _=>intro cs vs x r h; cases h
where
 one (c:RC) (hi:c.Inv) {hh:List HObj} {p:Nat->Prop} (T:Tak c hh p) (k:K) (hk:k.agg=false):∀(cs:List SV)(vs:List Value)(x:k.T)(r:List SV),k.takeL hh cs=some (x,r)->All2 (SV.rel c) cs vs->
   ∃ v1 v2,vs=v1++v2/\k.rep c.w p x v1/\All2 (SV.rel c) r v2:=by
  intro cs vs x r h ha
  have h':Z7d hh k cs=some (x,r):=by
   cases k <;> first | (cases hk; done) | exact h | (cases h; done)
  have:∃ s,cs=s :: r/\s.take hh k=some x:=by
   cases cs with
   | nil=>cases h'
   | cons s r'=>
    simp only[Z7d]at h';split at h'
    ·rename_i x1 h1;obtain⟨rfl,rfl⟩:=Prod.mk.inj (Option.some.inj h');exact⟨s,rfl,h1⟩
    ·cases h'
  obtain⟨s,rfl,hs⟩:=this
  cases ha with
  | cons h1 h2=>exact⟨[_],_,rfl,SV.take_repT hi T hs h1,h2⟩
theorem XV.take_repT {c:RC}(hi:c.Inv){hh:List HObj}{p:Nat->Prop}(T:Tak c hh p){k:K}{v:XV}{x:k.T}{u:Value}(h:v.take hh k=some x)(hr:v.rel c u):KRep c.w p k x u:=by
 unfold KRep
 cases v with
 | one s=>
  simp only[XV.take]at h;split at h
  ·cases h
  ·rename_i hk; rw[if_neg hk]; exact SV.take_repT hi T h hr
 | agg cs=>
  simp only[XV.take]at h;split at h
  ·rename_i hk;rw[if_pos hk];split at h
   ·rename_i y h1;obtain rfl:=Option.some.inj h;obtain⟨vs,rfl,ha⟩:=hr;obtain⟨v1,v2,e,hr,h2⟩:=K.takeL_repT hi T k cs vs.toList _ _ h1 ha
    cases h2
    exact⟨vs,rfl,by rw[e]; simpa using hr⟩
   ·cases h
  ·cases h
 | dat k' y=>
  simp only[XV.take]at h;split at h
  ·rename_i q; subst q;split at h
   ·rename_i hk;obtain rfl:=Option.some.inj h;rw[if_pos hk];obtain⟨vs,rfl,hr⟩:=hr;exact⟨vs,rfl,K.rep_mono (λb hb=>⟨T.data b hb,rfl⟩) _ _ _ hr⟩
   ·cases h
  ·cases h
theorem Zon {c:RC}(hi:c.Inv){hh:List HObj}{p:Nat->Prop}(T:Tak c hh p):∀(ks:List K)(vs:List XV)(x:KS ks)(us:List Value),Z60 hh ks vs=some x->All2 (XV.rel c) vs us->Z5t c.w p ks x us:=by
 intro ks
 induction ks with
 | nil=>
  intro vs x us h ha
  cases vs with
  | nil=>cases ha; rfl
  | cons v vs=>cases h
 | cons k ks ih=>
  intro vs x us h ha
  cases vs with
  | nil=>cases h
  | cons v vs=>
   simp only[Z60]at h;split at h
   ·rename_i y hy;split at h
    ·rename_i z hz;obtain rfl:=Option.some.inj h
     cases ha with
     | cons h1 h2=>exact⟨_,_,rfl,XV.take_repT hi T hy h1,ih vs z _ hz h2⟩
    ·cases h
   ·cases h
theorem Z195 {c:RC}(hi:c.Inv)(ks:List K)(vs:List XV)(x:KS ks)(us:List Value)(h:Z60 c.heap ks vs=some x)(ha:All2 (XV.rel c) vs us):Z5t c.w c.all ks x us:=Zon hi (Tak.all c) ks vs x us h ha
def XV.ofData:(k:K)->k.T->XV
 | .int ik,n=>.one (.val (.int ik n))
 | .bool,b=>.one (.val (.bool b))
 | .flt fk,b=>.one (.val (.float fk b))
 | .slice e,x=>.one (.data (.slice e) x)
 | .ptr e,x=>.one (.data (.ptr e) x)
 | .map a b,x=>.one (.data (.map a b) x)
 | k,x=>.dat k x
theorem XV.ofData_rel {c:RC}{k:K}{x:k.T}{v:Value}(h:KRep c.w c.ok k x v):(XV.ofData k x).rel c v:=by
 unfold KRep at h
 cases k <;> simp only[K.agg,if_true,Bool.false_eq_true,if_false]at h
 case int ik=>exact(List.cons.inj h).1
 case bool=>exact(List.cons.inj h).1
 case flt fk=>exact(List.cons.inj h).1
 all_goals first | exact h | exact h.elim
def RF.n:RF->Nat
 | .own _ _=>1
 | .pair a b=>a.n+b.n
 | _=>0
def RK.n:RK->Nat
 | .own _ _=>1
 | .snap _=>0
 | .str f=>f.n
def Z4k(t:Nat):(f:RF)->f.T->List SV × List (Nat × HObj)
 | .own ty e,xs=>([.osl t 0 (List.length xs)],[(t,.row .rw ty e xs)])
 | .int k,n=>([.val (.int k n)],[])
 | .bool,b=>([.val (.bool b)],[])
 | .flt k,b=>([.val (.float k b)],[])
 | .pair a b,x=>((Z4k t a x.1).1++(Z4k (t+a.n) b x.2).1,(Z4k t a x.1).2++(Z4k (t+a.n) b x.2).2)
def Ze8(t:Nat):(r:RK)->r.T->XV × List (Nat × HObj)
 | .own ty e,xs=>(.one (.osl t 0 (List.length xs)),[(t,.row .rw ty e xs)])
 | .snap k,x=>(XV.ofData k x,[])
 | .str f,x=>(.agg (Z4k t f x).1,(Z4k t f x).2)
def Z2b:(t:Nat)->(rs:List RK)->RS rs->List XV × List (Nat × HObj)
 | _,[],_=>([],[])
 | t,r :: rs,x=>((Ze8 t r x.1).1 :: (Z2b (t+r.n) rs x.2).1,(Ze8 t r x.1).2++(Z2b (t+r.n) rs x.2).2)
def EV.of:List XV->EV
 | [v]=>.x v
 | vs=>.tup vs
def applyU(h:List HObj)(us:List (Nat × HObj)):List HObj:=us.foldl (λh u=>h.set u.1 u.2) h
theorem Z1la(us:List (Nat × HObj)):∀ h:List HObj,(applyU h us).length=h.length:=by
 induction us with
 | nil=>intro h; rfl
 | cons u us ih=>intro h; show(applyU (h.set u.1 u.2) us).length=_; rw[ih]; simp
theorem Z78(us:List (Nat × HObj)):∀(h:List HObj)(i:Nat),(∀ u ∈ us,u.1≠i)->(applyU h us)[i]?=h[i]?:=by
 induction us with
 | nil=>intro h i _; rfl
 | cons u us ih=>
  intro h i hn;show(applyU (h.set u.1 u.2) us)[i]?=_;rw[ih _ i (λv hv=>hn v (List.mem_cons_of_mem _ hv)),Z2t (hn u List.mem_cons_self)]
def Z1nv(w w':World)(fr:Nat->Prop)(ty:TypeId)(e:K)(xs:List e.T)(v:Value)(obs:List (Option Nat)):Prop:=
 List.length xs<=maxN/\∃ A cap,v=.slice A (List.length xs) cap/\List.length xs<=cap/\
   ((cap=0/\xs=[]/\obs=[none])∨
     ∃ b vs f re,obs=[some b]/\A=some ⟨b,0,none⟩/\w.heap.size<=b/\w'.heap[b]?=some (.cells vs ty (0,0))/\vs.toList=f++re/\Rows (e.rep w' fr) xs f/\cap*e.sz<=vs.size)
def ResF(w w':World)(fr:Nat->Prop):(f:RF)->f.T->List Value->List (Option Nat)->Prop
 | .own ty e,xs,vs,obs=>∃ v,vs=[v]/\Z1nv w w' fr ty e xs v obs
 | .int k,n,vs,obs=>vs=[.int k n]/\obs=[]
 | .bool,b,vs,obs=>vs=[.bool b]/\obs=[]
 | .flt k,b,vs,obs=>vs=[.float k b]/\obs=[]
 | .pair a b,x,vs,obs=>∃ v1 v2 o1 o2,vs=v1++v2/\obs=o1++o2/\ResF w w' fr a x.1 v1 o1/\ResF w w' fr b x.2 v2 o2
def Res1(w w':World)(fr:Nat->Prop):(r:RK)->r.T->Value->List (Option Nat)->Prop
 | .own ty e,xs,v,obs=>List.length xs<=maxN/\∃ A cap,v=.slice A (List.length xs) cap/\List.length xs<=cap/\
   ((cap=0/\xs=[]/\obs=[none])∨
     ∃ b vs f re,obs=[some b]/\A=some ⟨b,0,none⟩/\w.heap.size<=b/\w'.heap[b]?=some (.cells vs ty (0,0))/\vs.toList=f++re/\Rows (e.rep w' fr) xs f/\cap*e.sz<=vs.size)
 | .snap k,x,v,obs=>obs=[]/\KRep w' fr k x v
 | .str f,x,v,obs=>∃ vs,v=.agg vs/\ResF w w' fr f x vs.toList obs
def ResN(w w':World)(fr:Nat->Prop):(rs:List RK)->RS rs->List Value->List (Option Nat)->Prop
 | [],_,vs,obs=>vs=[]/\obs=[]
 | r :: rs,x,vs,obs=>∃ v vr o1 o2,vs=v :: vr/\obs=o1++o2/\Res1 w w' fr r x.1 v o1/\ResN w w' fr rs x.2 vr o2
def Z1tl(w w':World)(obs:List (Option Nat))(b:Nat):Prop:=w.heap.size<=b/\b<w'.heap.size/\some b ∉ obs
def Once(obs:List (Option Nat)):Prop:=∀(i j b:Nat),obs[i]?=some (some b)->obs[j]?=some (some b)->i=j
def Z2o(w w':World)(ok:Nat->Prop)(rs:List RK)(r:RS rs)(v:Value):Prop:=
 ∃ vs obs,v=(match vs with | [u]=>u | _=>.tuple vs.toArray)/\Once obs/\ResN w w' (λb=>Z1tl w w' obs b∨ok b) rs r vs obs
def RKn(rs:List RK):Nat:=(rs.map RK.n).sum
def Z10x(f:Nat->Option Nat)(t:Nat)(obs:List (Option Nat)):Nat->Option Nat:=λj=>
 if t<=j then(match obs[j - t]? with | some o=>o | none=>f j)else f j
theorem Z10y {w w':World}{fr:Nat->Prop}:∀(f:RF)(t:Nat)(x:f.T)(vs:List Value)(obs:List (Option Nat)),ResF w w' fr f x vs obs->
   obs.length=f.n/\(Z4k t f x).2.length=f.n/\∀(i:Nat)(u:Nat × HObj),(Z4k t f x).2[i]?=some u->u.1=t+i/\∃ ty e xs,u.2=.row .rw ty e xs/\List.length xs<=maxN/\
   ((obs[i]?=some none/\xs=[])∨∃ b vs f re,obs[i]?=some (some b)/\w.heap.size<=b/\w'.heap[b]?=some (.cells vs ty (0,0))/\vs.toList=f++re/\Rows (e.rep w' fr) xs f):=by
 intro f
 induction f with
 | own ty e=>
  intro t x vs obs h;obtain⟨v,rfl,hm,A,cap,hv,hc,hr⟩:=h;refine⟨?_,rfl,λi u hu=>?_⟩
  ·rcases hr with⟨_,_,rfl⟩ | ⟨b,vs,f,re,rfl,_⟩ <;> rfl
  ·cases i with
   | zero=>
    simp only[Z4k,List.getElem?_cons_zero,Option.some.injEq]at hu;subst hu;refine⟨rfl,ty,e,x,rfl,hm,?_⟩;rcases hr with⟨_,hx,rfl⟩ | ⟨b,vs,f,re,rfl,_,h1,h2,h3,h4,_⟩
    ·exact .inl ⟨rfl,hx⟩
    ·exact .inr ⟨b,vs,f,re,rfl,h1,h2,h3,h4⟩
   | succ i=>simp[Z4k]at hu
 | int k=>intro t x vs obs h; obtain⟨rfl,rfl⟩:=h; exact⟨rfl,rfl,λi u hu=>by simp[Z4k]at hu⟩
 | bool=>intro t x vs obs h; obtain⟨rfl,rfl⟩:=h; exact⟨rfl,rfl,λi u hu=>by simp[Z4k]at hu⟩
 | flt k=>intro t x vs obs h; obtain⟨rfl,rfl⟩:=h; exact⟨rfl,rfl,λi u hu=>by simp[Z4k]at hu⟩
 | pair a b iha ihb=>
  intro t x vs obs h;obtain⟨v1,v2,o1,o2,rfl,rfl,h1,h2⟩:=h;obtain⟨a1,a2,a3⟩:=iha t x.1 v1 o1 h1;obtain⟨b1,b2,b3⟩:=ihb (t+a.n) x.2 v2 o2 h2;refine⟨by rw[List.length_append,a1,b1]; rfl,by simp only[Z4k]; rw[List.length_append,a2,b2]; rfl,λi u hu=>?_⟩;simp only[Z4k]at hu;rw[List.getElem?_append]at hu;split at hu
  ·rename_i hi;obtain⟨c1,ty,e',xs,c2,c3,c4⟩:=a3 i u hu;refine⟨c1,ty,e',xs,c2,c3,?_⟩;rw[List.getElem?_append_left (by omega)];exact c4
  ·rename_i hi;obtain⟨c1,ty,e',xs,c2,c3,c4⟩:=b3 _ u hu;refine⟨by omega,ty,e',xs,c2,c3,?_⟩;rw[List.getElem?_append_right (by omega),a1,<- a2];exact c4
theorem Zoo {w w':World}{fr:Nat->Prop}:∀(t:Nat)(rs:List RK)(x:RS rs)(vs:List Value)(obs:List (Option Nat)),ResN w w' fr rs x vs obs->
  obs.length=RKn rs/\(Z2b t rs x).2.length=RKn rs/\∀(i:Nat)(u:Nat × HObj),(Z2b t rs x).2[i]?=some u->u.1=t+i/\∃ ty e xs,u.2=.row .rw ty e xs/\List.length xs<=maxN/\
   ((obs[i]?=some none/\xs=[])∨∃ b vs f re,obs[i]?=some (some b)/\w.heap.size<=b/\w'.heap[b]?=some (.cells vs ty (0,0))/\vs.toList=f++re/\Rows (e.rep w' fr) xs f)
 | t,[],_,_,_,⟨_,h⟩=>by subst h; exact⟨rfl,rfl,λi u hu=>by simp[Z2b]at hu⟩
 | t,r :: rs,x,_,_,⟨v,vr,o1,o2,_,rfl,h1,h2⟩=>by
  obtain⟨a1,a2,a3⟩:=one t r x.1 v o1 h1;obtain⟨b1,b2,b3⟩:=Zoo (t+r.n) rs x.2 vr o2 h2;have e:RKn (r :: rs)=r.n+RKn rs:=by simp[RKn]
  refine⟨by rw[List.length_append,a1,b1,e],by simp only[Z2b]; rw[List.length_append,a2,b2,e],λi u hu=>?_⟩;simp only[Z2b]at hu;rw[List.getElem?_append]at hu;split at hu
  ·rename_i hi;obtain⟨c1,ty,e',xs,c2,c3,c4⟩:=a3 i u hu;refine⟨c1,ty,e',xs,c2,c3,?_⟩;rw[List.getElem?_append_left (by omega)];exact c4
  ·rename_i hi;obtain⟨c1,ty,e',xs,c2,c3,c4⟩:=b3 _ u hu;refine⟨by omega,ty,e',xs,c2,c3,?_⟩;rw[List.getElem?_append_right (by omega),a1,<- a2];exact c4
where
 one {w w':World} {fr:Nat->Prop} (t:Nat) (r:RK) (x:r.T) (v:Value) (obs:List (Option Nat)) (h:Res1 w w' fr r x v obs):
   obs.length=r.n/\(Ze8 t r x).2.length=r.n/\∀(i:Nat)(u:Nat × HObj),(Ze8 t r x).2[i]?=some u->u.1=t+i/\∃ ty e xs,u.2=.row .rw ty e xs/\List.length xs<=maxN/\
   ((obs[i]?=some none/\xs=[])∨∃ b vs f re,obs[i]?=some (some b)/\w.heap.size<=b/\w'.heap[b]?=some (.cells vs ty (0,0))/\vs.toList=f++re/\Rows (e.rep w' fr) xs f):=by
  cases r with
  | own ty e=>
   obtain⟨hm,A,cap,hv,hc,hr⟩:=h;refine⟨?_,rfl,λi u hu=>?_⟩
   ·rcases hr with⟨_,_,rfl⟩ | ⟨b,vs,f,re,rfl,_⟩ <;> rfl
   ·cases i with
    | zero=>
     simp only[Ze8,List.getElem?_cons_zero,Option.some.injEq]at hu;subst hu;refine⟨rfl,ty,e,x,rfl,hm,?_⟩;rcases hr with⟨_,hx,rfl⟩ | ⟨b,vs,f,re,rfl,_,h1,h2,h3,h4,_⟩
     ·exact .inl ⟨rfl,hx⟩
     ·exact .inr ⟨b,vs,f,re,rfl,h1,h2,h3,h4⟩
    | succ i=>simp[Ze8]at hu
  | snap k=>
   obtain⟨rfl,_⟩:=h;exact⟨rfl,rfl,λi u hu=>by simp[Ze8]at hu⟩
  | str f=>
   obtain⟨vs,_,h⟩:=h;exact Z10y f t x vs.toList obs h
theorem Z1lb {us:List (Nat × HObj)}{t:Nat}(hc:∀(i:Nat) (u:Nat × HObj),us[i]?=some u->u.1=t+i)(h:List HObj)(hl:t+us.length<=h.length)(j:Nat):
  (applyU h us)[j]?=if t<=j then(match us[j - t]? with | some u=>some u.2 | none=>h[j]?)else h[j]?:=by
 induction us generalizing h t with
 | nil=>simp[applyU]
 | cons u us ih=>
  have h0:=hc 0 u rfl
  have hc':∀(i:Nat)(v:Nat × HObj),us[i]?=some v->v.1=(t+1)+i:=λi v hv=>by
   have:=hc (i+1) v (by simpa using hv); omega
  simp only[List.length_cons]at hl;show(applyU (h.set u.1 u.2) us)[j]?=_;rw[ih hc' (h.set u.1 u.2) (by simp; omega)];by_cases h1:t+1<=j
  ·rw[if_pos h1,if_pos (by omega)];have e:j - t=(j - (t+1))+1:=by omega
   rw[e,List.getElem?_cons_succ]
   cases us[j - (t+1)]? with
   | some v=>rfl
   | none=>simp only; rw[Z2t (by omega)]
  ·rw[if_neg h1];by_cases h2:t<=j
   ·have:j=t:=by omega
    subst this;rw[if_pos (Nat.le_refl _),Nat.sub_self,List.getElem?_cons_zero,show u.1=j by omega,List.getElem?_set,if_pos rfl,if_pos (by omega)]
   ·rw[if_neg h2,Z2t (by omega)]
theorem KRep.mono {w w':World}{ok ok':Nat->Prop}(h:∀ b,ok b->ok' b/\w'.heap[b]?=w.heap[b]?){k:K}{x:k.T}{v:Value}(r:KRep w ok k x v):KRep w' ok' k x v:=by
 unfold KRep at r ⊢;split
 ·rename_i hk; rw[if_pos hk]at r; obtain⟨vs,e,r⟩:=r; exact⟨vs,e,K.rep_mono h k x _ r⟩
 ·rename_i hk; rw[if_neg hk]at r; exact K.rep_mono h k x _ r
theorem Zwc {α:Type _}{l:List α}{i:Nat}{a:α}(h:l[i]?=some a):i<l.length:=by
 rcases Nat.lt_or_ge i l.length with q | q
 ·exact q
 ·rw[List.getElem?_eq_none q]at h; cases h
theorem Z1nw {c':RC}{w:World}{fr:Nat->Prop}:∀(f:RF)(t:Nat)(x:f.T)(vs:List Value)(obs:List (Option Nat)),ResF w c'.w fr f x vs obs->
  (∀(i:Nat)(u:Nat × HObj),(Z4k t f x).2[i]?=some u->c'.heap[u.1]?=some u.2)->(∀(i:Nat)(o:Option Nat),obs[i]?=some o->c'.blk (t+i)=o)->All2 (SV.rel c') (Z4k t f x).1 vs:=by
 intro f
 induction f with
 | own ty e=>
  intro t x vs obs h hu hb;obtain⟨v,rfl,hm,A,cap,hv,hc,hr⟩:=h;have h0:c'.heap[t]?=some (.row .rw ty e x):=hu 0 (t,.row .rw ty e x) rfl;refine .cons ?_ .nil;show SV.rel c' (.osl t 0 (List.length x)) v;simp only[SV.rel,h0];refine⟨A,cap,hv,hc,by omega,?_⟩;rcases hr with⟨hc0,_,_⟩ | ⟨b,ws,f,re,rfl,hA,_,hw,hws,_,hsz⟩
  ·exact .inl hc0
  ·exact .inr ⟨b,ws,hb 0 _ rfl,by simpa using hA,hw,by simpa using hsz⟩
 | int k=>intro t x vs obs h _ _; obtain⟨rfl,_⟩:=h; exact .cons rfl .nil
 | bool=>intro t x vs obs h _ _; obtain⟨rfl,_⟩:=h; exact .cons rfl .nil
 | flt k=>intro t x vs obs h _ _; obtain⟨rfl,_⟩:=h; exact .cons rfl .nil
 | pair a b iha ihb=>
  intro t x vs obs h hu hb;obtain⟨v1,v2,o1,o2,rfl,rfl,h1,h2⟩:=h;obtain⟨a1,a2,_⟩:=Z10y a t x.1 v1 o1 h1;refine All2.append (iha t x.1 v1 o1 h1 (λi u hi=>hu i u (by simp only[Z4k]; rw[List.getElem?_append_left (Zwc hi)]; exact hi)) λi o hi=>hb i o (by rw[List.getElem?_append_left (Zwc hi)]; exact hi)) ?_
  exact ihb (t+a.n) x.2 v2 o2 h2 (λi u hi=>hu ((Z4k t a x.1).2.length+i) u (by simp only[Z4k]; rw[List.getElem?_append_right (by omega)]; simpa using hi))
   (λi o hi=>by have:=hb (o1.length+i) o (by rw[List.getElem?_append_right (by omega)]; simpa using hi); rw[<- this]; congr 1; omega)
theorem Z1nx {c':RC}{w:World}{fr:Nat->Prop}(hf:∀ b,fr b->c'.ok b):∀(rs:List RK)(t:Nat)(x:RS rs)(vs:List Value)(obs:List (Option Nat)),ResN w c'.w fr rs x vs obs->
  (∀(i:Nat)(u:Nat × HObj),(Z2b t rs x).2[i]?=some u->c'.heap[u.1]?=some u.2)->(∀(i:Nat)(o:Option Nat),obs[i]?=some o->c'.blk (t+i)=o)->All2 (XV.rel c') (Z2b t rs x).1 vs:=by
 intro rs
 induction rs with
 | nil=>intro t x vs obs h _ _; obtain⟨rfl,_⟩:=h; exact .nil
 | cons r rs ih=>
  intro t x vs obs h hu hb;obtain⟨v,vr,o1,o2,rfl,rfl,h1,h2⟩:=h;obtain⟨a1,a2,_⟩:=Zoo.one t r x.1 v o1 h1
  refine .cons ?_ (ih (t+r.n) x.2 vr o2 h2 (λi u hi=>hu ((Ze8 t r x.1).2.length+i) u (by simp only[Z2b]; rw[List.getElem?_append_right (by omega)]; simpa using hi))
   (λi o hi=>by have:=hb (o1.length+i) o (by rw[List.getElem?_append_right (by omega)]; simpa using hi); rw[<- this]; congr 1; omega))
  cases r with
  | own ty e=>
   obtain⟨hm,A,cap,hv,hc,hr⟩:=h1;have h0:c'.heap[t]?=some (.row .rw ty e x.1):=hu 0 (t,.row .rw ty e x.1) rfl;show SV.rel c' (.osl t 0 (List.length x.1)) v;simp only[SV.rel,h0];refine⟨A,cap,hv,hc,by omega,?_⟩;rcases hr with⟨hc0,_,_⟩ | ⟨b,ws,f,re,rfl,hA,_,hw,hws,_,hsz⟩
   ·exact .inl hc0
   ·exact .inr ⟨b,ws,hb 0 _ rfl,by simpa using hA,hw,by simpa using hsz⟩
  | snap k=>
   obtain⟨_,h1⟩:=h1;exact XV.ofData_rel (h1.mono λb hb=>⟨hf b hb,rfl⟩)
  | str f=>
   obtain⟨ws,hv,h1⟩:=h1;exact⟨ws,hv,Z1nw f t x.1 ws.toList o1 h1 (λi u hi=>hu i u (by simp only[Z2b]; rw[List.getElem?_append_left (by simp only[Ze8]; exact Zwc hi)]; exact hi)) λi o hi=>hb i o (by rw[List.getElem?_append_left (Zwc hi)]; exact hi)⟩
theorem Z1wr {c:RC}(hi:c.Inv){w':World}(hg:Grows c.w w'){ok:Nat->Prop}(hok:∀ b,ok b->c.ok b){rs:List RK}{r:RS rs}{v:Value}(hr:Z2o c.w w' ok rs r v){t:Nat}(hp:∀ i,i<RKn rs->c.heap[t+i]?=some .pend):
  ∃ c',c'.w=w'/\c'.heap=applyU c.heap (Z2b t rs r).2/\Ext c c'/\c'.Inv/\(EV.of (Z2b t rs r).1).rel c' v:=by
 obtain⟨vs,obs,hv,honce,hn⟩:=hr;obtain⟨l1,l2,hobjs⟩:=Zoo t rs r vs obs hn;have hids:∀(i:Nat)(u:Nat × HObj),(Z2b t rs r).2[i]?=some u->u.1=t+i:=λi u hu=>(hobjs i u hu).1
 have hlen:t+(Z2b t rs r).2.length<=c.heap.length∨RKn rs=0:=by
  rcases Nat.eq_zero_or_pos (RKn rs)with h | h
  ·exact .inr h
  ·have:=hp (RKn rs - 1) (by omega)
   have:t+(RKn rs - 1)<c.heap.length:=by
    rcases Nat.lt_or_ge (t+(RKn rs - 1)) c.heap.length with h' | h'
    ·exact h'
    ·rw[List.getElem?_eq_none h']at this; cases this
   exact .inl (by rw[l2]; omega)
 have hget:∀ j,(applyU c.heap (Z2b t rs r).2)[j]?=if t<=j then(match(Z2b t rs r).2[j - t]? with | some u=>some u.2 | none=>c.heap[j]?)else c.heap[j]?:=by
  intro j;rcases hlen with h | h
  ·exact Z1lb hids c.heap h j
  ·have:(Z2b t rs r).2=[]:=List.eq_nil_of_length_eq_zero (by rw[l2]; exact h);rw[this]; simp[applyU]
 let c':RC:={w:=w',heap:=applyU c.heap (Z2b t rs r).2,blk:=Z10x c.blk t obs,base:=c.base,inb:=c.inb}
 have hcase:∀(id:Nat)(o':HObj),c'.heap[id]?=some o'->(∃ i u,id=t+i/\i<RKn rs/\(Z2b t rs r).2[i]?=some u/\o'=u.2)∨(c.heap[id]?=some o'/\(∀ i,i<RKn rs->id≠t+i)):=by
  intro id o' ho;have:=(hget id).symm.trans ho;by_cases h:t<=id
  ·rw[if_pos h]at this
   cases hq:(Z2b t rs r).2[id - t]? with
   | some u=>
    rw[hq]at this
    have hlt:id - t<RKn rs:=by
     rcases Nat.lt_or_ge (id - t) (RKn rs)with h' | h'
     ·exact h'
     ·rw[List.getElem?_eq_none (by omega)]at hq; cases hq
    exact .inl ⟨id - t,u,by omega,hlt,hq,(Option.some.inj this).symm⟩
   | none=>
    rw[hq]at this;refine .inr ⟨this,λi hi he=>?_⟩;have:id - t=i:=by omega
    rw[this,List.getElem?_eq_none_iff]at hq;omega
  ·rw[if_neg h]at this;exact .inr ⟨this,λi hi he=>by omega⟩
 have hnewget:∀(i:Nat)(u:Nat × HObj),(Z2b t rs r).2[i]?=some u->c'.heap[t+i]?=some u.2:=by
  intro i u hu;show(applyU c.heap (Z2b t rs r).2)[t+i]?=_;rw[hget,if_pos (by omega),show t+i - t=i by omega,hu]
 have hblknew:∀(i:Nat)(o:Option Nat),obs[i]?=some o->c'.blk (t+i)=o:=by
  intro i o ho;show Z10x c.blk t obs (t+i)=o;unfold Z10x;rw[if_pos (by omega),show t+i - t=i by omega,ho]
 have hblkold:∀ id,(∀ i,i<RKn rs->id≠t+i)->c'.blk id=c.blk id:=by
  intro id h;show Z10x c.blk t obs id=_;unfold Z10x;split
  ·rename_i hle
   cases hq:obs[id - t]? with
   | none=>rfl
   | some o=>
    have:id - t<obs.length:=by
     rcases Nat.lt_or_ge (id - t) obs.length with h' | h'
     ·exact h'
     ·rw[List.getElem?_eq_none h']at hq; cases hq
    exact absurd (show id=t+(id - t) by omega) (h (id - t) (by omega))
  ·rfl
 have hold:∀(id:Nat)(o:HObj),c.heap[id]?=some o->o≠.pend->∀ i,i<RKn rs->id≠t+i:=by
  intro id o ho hne i hi' he;rw[he,hp i hi']at ho; cases ho; exact hne rfl
 have hh:∀(id:Nat)(o:HObj),c.heap[id]?=some o->o≠.pend->c'.heap[id]?=some o:=by
  intro id o ho hne;show(applyU c.heap (Z2b t rs r).2)[id]?=_;rw[Z78 _ _ _ (λu hu=>?_)]
  ·exact ho
  ·obtain⟨i,hi'⟩:=List.mem_iff_getElem?.1 hu
   have hlt:i<RKn rs:=by
    rcases Nat.lt_or_ge i (RKn rs)with h' | h'
    ·exact h'
    ·rw[List.getElem?_eq_none (by omega)]at hi'; cases hi'
   rw[hids i u hi'];exact λe=>hold id o ho hne i hlt e.symm
 have hnew:∀(id:Nat)(o':HObj)(b:Nat),c'.heap[id]?=some o'->o'.live->(∀ o,c.heap[id]?=some o->¬ o.live)->c'.blk id=some b->c.w.heap.size<=b:=by
  intro id o' b ho' hl hno hb;rcases hcase id o' ho' with⟨i,u,rfl,hi',hu,rfl⟩ | ⟨h,_⟩
  ·obtain⟨_,ty,e,xs,_,_,h⟩:=hobjs i u hu;rcases h with⟨h1,_⟩ | ⟨b',vs',f,re,h1,h2,_⟩
   ·rw[hblknew i _ h1]at hb; cases hb
   ·rw[hblknew i _ h1]at hb; cases hb; exact h2
  ·exact absurd hl (hno o' h)
 have he:Ext c c':=by
  refine Ext.build rfl rfl hg hh (λid o ho=>?_) (λid o ho hne=>hblkold id (hold id o ho hne)) hnew
  have:id<c'.heap.length:=by
   show id<(applyU c.heap (Z2b t rs r).2).length;rw[Z1la];rcases Nat.lt_or_ge id c.heap.length with h' | h'
   ·exact h'
   ·rw[List.getElem?_eq_none h']at ho; cases ho
  exact⟨_,List.getElem?_eq_getElem this⟩
 have hfr:∀ b,(Z1tl c.w w' obs b∨ok b)->c'.ok b:=by
  intro b hb;rcases hb with hb | hb
  rotate_left
  ·exact(he.ok b (hok b hb)).1
  refine⟨hb.2.1,λho=>?_,.inl (Nat.le_trans hi.basele hb.1)⟩;obtain⟨id,o',m,ho',hm,hne,hbl⟩:=ho;rcases hcase id o' ho' with⟨i,u,rfl,hi',hu,rfl⟩ | ⟨h,hno⟩
  ·obtain⟨_,ty,e,xs,_,_,h⟩:=hobjs i u hu;rcases h with⟨h1,_⟩ | ⟨b',vs',f,re,h1,h2,_⟩
   ·rw[hblknew i _ h1]at hbl; cases hbl
   ·rw[hblknew i _ h1]at hbl; cases hbl;exact hb.2.2 (List.mem_iff_getElem?.2 ⟨i,h1⟩)
  ·rw[hblkold id hno]at hbl;exact absurd (HObj.blk_lt (hi.objs id o' h) (HObj.live_of_md hm) hbl) (Nat.not_lt.2 hb.1)
 refine⟨c',rfl,rfl,he,?_,?_⟩
 ·refine RC.Inv.build hi he hg hh hnew (λid o' ho' hno=>?_) (λi j oi oj b hoi hli hni hoj hlj hnj hbi hbj=>?_)
  ·rcases hcase id o' ho' with⟨i,u,rfl,hi',hu,rfl⟩ | ⟨h,_⟩
   ·obtain⟨_,ty,e,xs,hu2,hmx,h⟩:=hobjs i u hu;rw[hu2];refine⟨hmx,?_⟩;rcases h with⟨h1,h2⟩ | ⟨b',vs',f,re,h1,h2,h3,h4,h5⟩
    ·exact .inl ⟨hblknew i _ h1,h2⟩
    ·exact .inr ⟨b',vs',f,re,hblknew i _ h1,h3,h4,h5.mono λx cs=>K.rep_mono (λb hb=>⟨hfr b hb,rfl⟩) e x cs⟩
   ·have:=hno o' h
    cases o' with
    | pend=>trivial
    | dead=>trivial
    | box=>exact absurd rfl this
    | row=>exact absurd rfl this
    | mp=>exact absurd rfl this
  ·rcases hcase i oi hoi with⟨i',u,rfl,hi',hu,rfl⟩ | ⟨h,_⟩
   ·rcases hcase j oj hoj with⟨j',u',rfl,hj',hu',rfl⟩ | ⟨h,_⟩
    ·obtain⟨_,ty,e,xs,_,_,h⟩:=hobjs i' u hu;obtain⟨_,ty',e',xs',_,_,h'⟩:=hobjs j' u' hu';rcases h with⟨h1,_⟩ | ⟨b1,_,_,_,h1,_⟩
     ·rw[hblknew i' _ h1]at hbi; cases hbi
     ·rcases h' with⟨k1,_⟩ | ⟨b2,_,_,_,k1,_⟩
      ·rw[hblknew j' _ k1]at hbj; cases hbj
      ·rw[hblknew i' _ h1]at hbi; cases hbi;rw[hblknew j' _ k1]at hbj; cases hbj;rw[honce i' j' b h1 k1]
    ·exact absurd hlj (hnj oj h)
   ·exact absurd hli (hni oi h)
 ·have hall:=Z1nx (c':=c') (w:=c.w) hfr rs t r vs obs hn (λi u hu=>by rw[hids i u hu]; exact hnewget i u hu) hblknew;rw[hv];generalize(Z2b t rs r).1=gl at hall ⊢
  clear_value c'
  cases hall with
  | nil=>exact⟨#[],rfl,.nil⟩
  | cons h1 h2=>
   cases h2 with
   | nil=>exact h1
   | cons h3 h4=>exact⟨_,rfl,.cons h1 (.cons h3 h4)⟩
def SV.fz(h:List HObj):SV->List (Nat × HObj)
 | .osl id _ _=>match h[id]? with
  | some (.row .rw t e xs)=>[(id,.row .fz t e xs)]
  | _=>[]
 | _=>[]
def fzs(h:List HObj):List SV->List (Nat × HObj)
 | []=>[]
 | s :: r=>s.fz h++fzs h r
def XV.fz(h:List HObj):XV->List (Nat × HObj)
 | .one s=>s.fz h
 | .agg cs=>fzs h cs
 | .dat _ _=>[]
def fzx(h:List HObj):List XV->List (Nat × HObj)
 | []=>[]
 | v :: r=>v.fz h++fzx h r
def FzU(h:List HObj)(us:List (Nat × HObj)):Prop:=∀ u ∈ us,∃ t e xs,h[u.1]?=some (.row .rw t e xs)/\u.2=.row .fz t e xs
theorem FzU.nil {h:List HObj}:FzU h []:=λu hu=>by cases hu
theorem FzU.append {h:List HObj}{us vs:List (Nat × HObj)}(a:FzU h us)(b:FzU h vs):FzU h (us++vs):=λu hu=>by
 rcases List.mem_append.1 hu with g | g
 ·exact a u g
 ·exact b u g
theorem SV.fz_ok {h:List HObj}:∀ s:SV,FzU h (s.fz h):=by
 intro s
 cases s with
 | osl id off len=>
  simp only[SV.fz];split
  ·rename_i t e xs ho;intro u hu;simp only[List.mem_singleton]at hu;subst hu;exact⟨t,e,xs,ho,rfl⟩
  ·exact FzU.nil
 | _=>exact FzU.nil
theorem Z1ny {h:List HObj}:∀ l:List SV,FzU h (fzs h l)
 | []=>FzU.nil
 | s :: r=>(SV.fz_ok s).append (Z1ny r)
theorem XV.fz_ok {h:List HObj}:∀ v:XV,FzU h (v.fz h)
 | .one s=>SV.fz_ok s
 | .agg cs=>Z1ny cs
 | .dat _ _=>FzU.nil
theorem Z10z {h:List HObj}:∀ l:List XV,FzU h (fzx h l)
 | []=>FzU.nil
 | s :: r=>(XV.fz_ok s).append (Z10z r)
inductive HObj.Fz:HObj->HObj->Prop where
 | refl (o:HObj):HObj.Fz o o
 | row (t:TypeId) (e:K) (xs:List e.T):HObj.Fz (.row .rw t e xs) (.row .fz t e xs)
 | box (t:TypeId) (cs:List SV):HObj.Fz (.box .rw t cs) (.box .fz t cs)
 | mp (a b:K) (xs:List (a.T × b.T)):HObj.Fz (.mp .rw a b xs) (.mp .fz a b xs)
def Frz(h h':List HObj):Prop:=h'.length=h.length/\∀(id:Nat)(o:HObj),h[id]?=some o->∃ o',h'[id]?=some o'/\HObj.Fz o o'
theorem Frz.refl(h:List HObj):Frz h h:=⟨rfl,λ_ o ho=>⟨o,ho,.refl o⟩⟩
theorem FzU.frz {h0:List HObj}:∀ {us:List (Nat × HObj)}{h:List HObj},FzU h0 us->Frz h0 h->Frz h0 (applyU h us)
 | [],h,_,f=>f
 | u :: us,h,hu,f=>by
  refine FzU.frz (us:=us) (h:=h.set u.1 u.2) (λv hv=>hu v (List.mem_cons_of_mem _ hv)) ?_;obtain⟨t,e,xs,h1,h2⟩:=hu u List.mem_cons_self;refine⟨by simp[f.1],λid o ho=>?_⟩;obtain⟨o',h3,h4⟩:=f.2 id o ho;by_cases e1:u.1=id
  ·subst e1;rw[h1]at ho; cases ho;exact⟨u.2,Z3p h3,by rw[h2]; exact .row t e xs⟩
  ·exact⟨o',(Z2t e1).trans h3,h4⟩
theorem HObj.Fz.md {o o':HObj}(h:HObj.Fz o o'):o.ev o'/\(o'.live->o.live)/\(o.live->o'.live):=by
 cases h with
 | refl o=>exact⟨o.ev_refl,id,id⟩
 | row t e xs=>exact⟨.inr ⟨.fz,xs,rfl,rfl,.inr ⟨rfl,rfl⟩⟩,λ_=>rfl,λ_=>rfl⟩
 | box t cs=>exact⟨.inr ⟨.fz,cs,rfl,rfl,.inr ⟨rfl,rfl⟩⟩,λ_=>rfl,λ_=>rfl⟩
 | mp a b xs=>exact⟨.inr ⟨.fz,xs,rfl,.inr ⟨rfl,rfl⟩⟩,λ_=>rfl,λ_=>rfl⟩
theorem Frz.ext {c:RC}(hi:c.Inv){h':List HObj}(f:Frz c.heap h'):Ext c {c with heap:=h' }/\RC.Inv {c with heap:=h' }:=by
 have back:∀(id:Nat)(o':HObj),h'[id]?=some o'->∃ o,c.heap[id]?=some o/\HObj.Fz o o':=by
  intro id o' ho
  have hlt:id<c.heap.length:=by
   rw[<- f.1];rcases Nat.lt_or_ge id h'.length with g | g
   ·exact g
   ·rw[List.getElem?_eq_none g]at ho; cases ho
  obtain⟨o2,g1,g2⟩:=f.2 id _ (List.getElem?_eq_getElem hlt);rw[ho]at g1; cases g1;exact⟨_,List.getElem?_eq_getElem hlt,g2⟩
 have E:Ext c {c with heap:=h' }:={
  base:=rfl,size:=Nat.le_refl _,os:=rfl,tape:=rfl,output:=rfl
  keep:=λ_ _ _=>rfl
  cells:=λb vs t z h=>⟨vs,z,h,rfl,.inl rfl⟩
  blk:=λ_ _ _ _=>rfl
  ev:=λi o h=>let⟨o',g1,g2⟩:=f.2 i o h; ⟨o',g1,g2.md.1⟩
  fresh:=λi o' b h hl hn hb hlt=>by
   obtain⟨o,g1,g2⟩:=back i o' h;exact absurd (g2.md.2.1 hl) (hn o g1)}
 refine⟨E,?_⟩;constructor
 ·intro i o' h;obtain⟨o,g1,g2⟩:=back i o' h;have r:=hi.objs i o g1
  cases g2 with
  | refl=>exact HObj.rel_mono E g1 (λ_ _ _=>rfl) r
  | row t e xs=>have q:=HObj.rel_mono (c':={c with heap:=h' }) (o:=.row .rw t e xs) E g1 (λ_ _ _=>rfl) r; exact q
  | box t cs=>have q:=HObj.rel_mono (c':={c with heap:=h' }) (o:=.box .rw t cs) E g1 (λ_ _ _=>rfl) r; exact q
  | mp a b xs=>have q:=HObj.rel_mono (c':={c with heap:=h' }) (o:=.mp .rw a b xs) E g1 (λ_ _ _=>rfl) r; exact q
 ·intro i j oi oj b h1 l1 h2 l2 b1 b2;obtain⟨o1,g1,k1⟩:=back i oi h1;obtain⟨o2,g2,k2⟩:=back j oj h2;exact hi.inj i j o1 o2 b g1 (k1.md.2.1 l1) g2 (k2.md.2.1 l2) b1 b2
 ·intro i o b h1 l1 b1;obtain⟨o1,g1,k1⟩:=back i o h1;exact hi.base i o1 b g1 (k1.md.2.1 l1) b1
 ·exact hi.basele
theorem KRep.toflat {w w':World}{ok ok':Nat->Prop}{k:K}{x:k.T}{v:Value}(hf:k.flat=true)(r:KRep w ok k x v):KRep w' ok' k x v:=by
 unfold KRep at *;split
 ·rename_i h; rw[if_pos h]at r; obtain⟨vs,e,r⟩:=r; exact⟨vs,e,K.rep_flat _ _ _ hf r⟩
 ·rename_i h; rw[if_neg h]at r; exact K.rep_flat _ _ _ hf r
def RF.flat:RF->Bool
 | .own _ e=>e.flat
 | .pair a b=>a.flat&&b.flat
 | _=>true
def RK.flat:RK->Bool
 | .own _ e=>e.flat
 | .snap k=>k.flat
 | .str f=>f.flat
theorem ResF.toflat {w w':World}{fr fr':Nat->Prop}:∀ {f:RF}{x:f.T}{vs:List Value}{obs:List (Option Nat)},f.flat=true->ResF w w' fr f x vs obs->ResF w w' fr' f x vs obs
 | .own t e,_,_,_,hf,h=>by
  obtain⟨v,hv,a1,A,cap,a2,a3,a4⟩:=h;refine⟨v,hv,a1,A,cap,a2,a3,?_⟩;rcases a4 with a4 | ⟨b,ws,f,re,g1,g2,g3,g4,g5,g6,g7⟩
  ·exact .inl a4
  ·exact .inr ⟨b,ws,f,re,g1,g2,g3,g4,g5,g6.mono λy cs=>K.rep_flat e y cs hf,g7⟩
 | .int _,_,_,_,_,h=>h
 | .bool,_,_,_,_,h=>h
 | .flt _,_,_,_,_,h=>h
 | .pair a b,x,_,_,hf,⟨v1,v2,o1,o2,e1,e2,h1,h2⟩=>by
  simp only[RF.flat,Bool.and_eq_true]at hf;exact⟨v1,v2,o1,o2,e1,e2,ResF.toflat hf.1 h1,ResF.toflat hf.2 h2⟩
theorem ResN.toflat {w w':World}{fr fr':Nat->Prop}:∀ {rs:List RK}{r:RS rs}{vs:List Value}{obs:List (Option Nat)},rs.all RK.flat=true->ResN w w' fr rs r vs obs->ResN w w' fr' rs r vs obs
 | [],_,_,_,_,h=>h
 | r :: rs,x,_,_,hf,⟨v,vr,o1,o2,e1,e2,h1,h2⟩=>by
  simp only[List.all_cons,Bool.and_eq_true]at hf;refine⟨v,vr,o1,o2,e1,e2,?_,ResN.toflat hf.2 h2⟩
  cases r with
  | own t e=>
   obtain⟨a1,A,cap,a2,a3,a4⟩:=h1;refine⟨a1,A,cap,a2,a3,?_⟩;rcases a4 with a4 | ⟨b,ws,f,re,g1,g2,g3,g4,g5,g6,g7⟩
   ·exact .inl a4
   ·exact .inr ⟨b,ws,f,re,g1,g2,g3,g4,g5,g6.mono λy cs=>K.rep_flat e y cs hf.1,g7⟩
  | snap k=>exact⟨h1.1,h1.2.toflat hf.1⟩
  | str f=>obtain⟨ws,hv,h1⟩:=h1; exact⟨ws,hv,h1.toflat hf.1⟩
theorem Z2o.toflat {w w':World}{ok ok':Nat->Prop}{rs:List RK}{r:RS rs}{v:Value}(hf:rs.all RK.flat=true)(h:Z2o w w' ok rs r v):Z2o w w' ok' rs r v:=by
 obtain⟨vs,obs,h1,h2,h3⟩:=h;exact⟨vs,obs,h1,h2,h3.toflat hf⟩
section
def Z85:=Nat->Option ((k:K) × k.T)
structure Cx where
 tab:TypeId->Option TD
 con:FuncId->Option Con
 glob:Z85
def GOk(G:Z85)(c:RC):Prop:=∀(g:Nat)(k:K)(x:k.T),G g=some ⟨k,x⟩->(K.ptr k).rep c.w c.ok (some x) [.pointer (some ⟨g,0,none⟩)]
theorem GOk.mono {G:Z85}{c c':RC}(h:GOk G c)(e:Ext c c'):GOk G c':=λg k x hg=>K.rep_mono e.ok (K.ptr k) _ _ (h g k x hg)
def Zm(c:RC)(env:List EV)(tmps:Array Value):Prop:=env.length=tmps.size/\∀(t:Nat)(ev:EV),env[t]?=some ev->∃ v,tmps[t]?=some v/\ev.rel c v
theorem Zm.mono {c c':RC}{env:List EV}{tmps:Array Value}(h:Zm c env tmps)(e:Ext c c'):Zm c' env tmps:=
 ⟨h.1,λt ev ht=>let⟨v,h1,h2⟩:=h.2 t ev ht; ⟨v,h1,EV.rel_mono e h2⟩⟩
def EV.junk:EV:=.x (.one .junk)
def EV.val(v:Value):EV:=.x (.one (.val v))
def EV.ofVal:Value->EV
 | .agg vs=>.x (.agg (vs.toList.map .val))
 | .tuple vs=>if vs.size=0 then .tup []else .junk
 | v=>.val v
theorem EV.ofVal_rel(c:RC)(v:Value):(EV.ofVal v).rel c v:=by
 cases v with
 | agg vs=>
  refine⟨vs,rfl,?_⟩;generalize vs.toList=l
  induction l with
  | nil=>exact .nil
  | cons x l ih=>exact .cons rfl ih
 | tuple vs=>
  show(if vs.size=0 then EV.tup []else EV.junk).rel c _;split
  ·rename_i h;have:vs=#[]:=Array.eq_empty_of_size_eq_zero h;subst this; exact⟨#[],rfl,.nil⟩
  ·trivial
 | _=>rfl
def Cx.eval(cx:Cx)(env:List EV):Operand->EV
 | .tmp t=>env.getD t .junk
 | .const v=>EV.ofVal v
 | .global g=>match cx.glob g with
  | some ⟨k,x⟩=>.x (.one (.data (.ptr k) (some x)))
  | none=>.junk
 | .func f=>.x (.one (.clo f [] []))
theorem Zop {cx:Cx}{c:RC}{env:List EV}{a:Act}(hg:GOk cx.glob c)(he:Zm c env a.tmps)(x:Operand):(cx.eval env x).rel c (a.eval x):=by
 cases x with
 | tmp t=>
  show(env.getD t .junk).rel c (a.tmps.getD t undef)
  cases h:env[t]? with
  | none=>rw[List.getD,h]; trivial
  | some ev=>
   obtain⟨v,h1,h2⟩:=he.2 t ev h;rw[List.getD,h];simp only[Option.getD_some]
   have:a.tmps.getD t undef=v:=by
    rw[Array.getD_eq_getD_getElem?,h1]; rfl
   rw[this]; exact h2
 | const v=>exact EV.ofVal_rel c v
 | global g=>
  show(match cx.glob g with | some ⟨k,x⟩=>EV.x (.one (.data (.ptr k) (some x))) | none=>.junk).rel c _;split
  ·rename_i k x h; exact hg g k x h
  ·trivial
 | func f=>exact⟨#[],#[],rfl,.nil,.nil⟩
def Zz(P:Program)(o:Oper)(a:Act)(w:World)(R:Value->World->Prop):Prop:=
 ∀(next:Act->World->Prop)(Q:Exit->Act->World->Prop),(∀ v w',R v w'->next (a.put o.dst v) w')->o.wp P a w next Q
def Done(c:RC)(k:EV->List (Nat × HObj)->Prop)(v:Value)(w':World):Prop:=
 ∃ ev us c',k ev us/\c'.w=w'/\c'.heap=applyU c.heap us/\Ext c c'/\c'.Inv/\ev.rel c' v
theorem Done.pure {c:RC}{k:EV->List (Nat × HObj)->Prop}{v:Value}(hi:c.Inv){ev:EV}(hk:k ev [])(hr:ev.rel c v):Done c k v c.w:=
 ⟨ev,[],c,hk,rfl,rfl,Ext.refl c,hi,hr⟩
theorem Done.drew {c:RC}{k:EV->List (Nat × HObj)->Prop}{v:Value}(hi:c.Inv){ev:EV}(hk:k ev [])(hr:ev.rel c v):Done c k v c.w.drew:=
 ⟨ev,[],{c with w:=c.w.drew},hk,rfl,rfl,Ext.grows (Grows.drew _),hi.grows (Grows.drew _),EV.rel_mono (Ext.grows (Grows.drew _)) hr⟩
theorem Done.frozen {c:RC}{k:EV->List (Nat × HObj)->Prop}{v:Value}{w':World}{us:List (Nat × HObj)}(hi:c.Inv)(hu:FzU c.heap us)
  (h:Done {c with heap:=applyU c.heap us} (λev u2=>k ev (us++u2)) v w'):Done c k v w':=by
 obtain⟨E,_⟩:=Frz.ext hi (hu.frz (Frz.refl _));obtain⟨ev,u2,c',h1,h2,h3,h4,h5,h6⟩:=h;exact⟨ev,us++u2,c',h1,h2,by rw[h3]; simp[applyU,List.foldl_append],E.trans h4,h5,h6⟩
section
variable {P:Program} {o:Oper} {a:Act} {w w':World} {R:Value->World->Prop}
theorem Zz.val {v:Value}(h:(execOp a.eval o).run P w=.ok (.value v) w')(r:R v w'):Zz P o a w R:=by
 intro next Q hn;unfold Oper.wp;rw[h];exact hn v w' r
theorem Zz.skip(h:(execOp a.eval o).run P w=.ok .skip w')(r:R undef w'):Zz P o a w R:=by
 intro next Q hn;unfold Oper.wp;rw[h];exact hn undef w' r
theorem Zz.sem {v:Value}{s:Sem Value}(he:execOp a.eval o=(do return .value (<- s)))(h:s.run P w=.ok v w')(r:R v w'):Zz P o a w R:=by
 refine Zz.val (v:=v) (w':=w') ?_ r;rw[he];simp[h]
theorem Zz.semU {s:Sem Unit}(he:execOp a.eval o=(do s; return .skip))(h:s.run P w=.ok () w')(r:R undef w'):Zz P o a w R:=by
 refine Zz.skip (w':=w') ?_ r;rw[he];simp[h]
end
def vI(k:IntKind)(n:Int):Res:=.ret (.val (.int k n)) []
def vB(b:Bool):Res:=.ret (.val (.bool b)) []
def Zt5(op:BinOp)(k:IntKind)(x:Int)(k':IntKind)(y:Int):Res:=
 match op with
 | .shl=>.ask (0<=y) λ_=>vI k (k.wrap (x*2 ^ (min y.toNat k.bits)))
 | .shr=>.ask (0<=y) λ_=>vI k (x.fdiv (2 ^ (min y.toNat k.bits)))
 | op=>if k=k' then
   match op with
   | .add=>vI k (k.wrap (x+y))
   | .sub=>vI k (k.wrap (x - y))
   | .mul=>vI k (k.wrap (x*y))
   | .quo=>.ask (y≠0) λ_=>vI k (k.wrap (x.tdiv y))
   | .rem=>.ask (y≠0) λ_=>vI k (x.tmod y)
   | .and=>vI k (Go.bits .and k x y)
   | .or=>vI k (Go.bits .or k x y)
   | .xor=>vI k (Go.bits .xor k x y)
   | .andNot=>vI k (Go.bits .andNot k x y)
   | .eql=>vB (x==y)
   | .neq=>vB (x != y)
   | .lss=>vB (decide (x<y))
   | .leq=>vB (decide (x<=y))
   | .gtr=>vB (decide (x > y))
   | .geq=>vB (decide (x>=y))
   | _=>.fail
  else .fail
def Zjk(k:FloatKind)(b:Nat):Prop:=(k.format.read b).isNaN=true/\b<2 ^ k.format.width
def FRes(k:FloatKind)(r:Option Nat)(b:Nat):Prop:=
 match r with
 | some x=>b=x
 | none=>Zjk k b
def aNaN:FloatKind->Nat
 | .f32=>0x7fc00000
 | .f64=>0x7ff8000000000001
theorem Z1jx(k:FloatKind):Zjk k (aNaN k):=by cases k <;> exact⟨by decide,by decide⟩
theorem FRes.ne(k:FloatKind)(r:Option Nat):∃ b,FRes k r b:=by
 cases r with
 | some x=>exact⟨x,rfl⟩
 | none=>exact⟨aNaN k,Z1jx k⟩
def vF(k:FloatKind)(r:Option Nat):Res:=.all Nat (FRes k r) (FRes.ne k r) λb=>.ret (.val (.float k b)) []
def fcmp(op:BinOp)(c:Option Ordering):Bool:=
 match op with
 | .eql=>c==some .eq
 | .neq=>c != some .eq
 | .lss=>c==some .lt
 | .leq=>c==some .lt||c==some .eq
 | .gtr=>c==some .gt
 | _=>c==some .gt||c==some .eq
def Zt6(op:BinOp)(k:FloatKind)(x:Nat)(k':FloatKind)(y:Nat):Res:=
 if k=k' then
  match op with
  | .add=>vF k (k.format.add x y)
  | .sub=>vF k (k.format.sub x y)
  | .mul=>vF k (k.format.mul x y)
  | .quo=>vF k (k.format.div x y)
  | .eql=>vB (fcmp .eql (k.format.order x y))
  | .neq=>vB (fcmp .neq (k.format.order x y))
  | .lss=>vB (fcmp .lss (k.format.order x y))
  | .leq=>vB (fcmp .leq (k.format.order x y))
  | .gtr=>vB (fcmp .gtr (k.format.order x y))
  | .geq=>vB (fcmp .geq (k.format.order x y))
  | _=>.fail
 else .fail
theorem Zxw(x y t:Nat):Zjk .f64 ((Question.nanBits .f64 x y).cut t):=by
 have h:(Question.nanBits .f64 x y).cut t=(t % 2)*2 ^ 63+0x7ff0000000000000+1+(t / 2) % (2 ^ 52 - 1):=rfl;rw[h];constructor
 ·unfold Ieee.Format.read;have hs:f64.format.signWeight=2 ^ 63:=by decide
  have hb:f64.format.binade=2 ^ 52:=by decide
  have hi:f64.format.infRung=0x7ff0000000000000:=by decide
  rw[hs,hb,hi];have hm:(t % 2*2 ^ 63+0x7ff0000000000000+1+t / 2 % (2 ^ 52 - 1)) % 2 ^ 63=0x7ff0000000000000+1+t / 2 % (2 ^ 52 - 1):=by omega
  rw[hm,if_neg (by omega),if_neg (by omega),if_neg (by omega)];rfl
 ·have hw:f64.format.width=64:=by decide
  rw[hw]; omega
theorem Zxx(x y t:Nat):Zjk .f32 ((Question.nanBits .f32 x y).cut t):=by
 have h:(Question.nanBits .f32 x y).cut t=(t % 2)*2 ^ 31+0x7f800000+1+(t / 2) % (2 ^ 23 - 1):=rfl;rw[h];constructor
 ·unfold Ieee.Format.read;have hs:f32.format.signWeight=2 ^ 31:=by decide
  have hb:f32.format.binade=2 ^ 23:=by decide
  have hi:f32.format.infRung=0x7f800000:=by decide
  rw[hs,hb,hi];have hm:(t % 2*2 ^ 31+0x7f800000+1+t / 2 % (2 ^ 23 - 1)) % 2 ^ 31=0x7f800000+1+t / 2 % (2 ^ 23 - 1):=by omega
  rw[hm,if_neg (by omega),if_neg (by omega),if_neg (by omega)];rfl
 ·have hw:f32.format.width=32:=by decide
  rw[hw]; omega
theorem Z1jy(k:FloatKind)(x y t:Nat):Zjk k ((Question.nanBits k x y).cut t):=by
 cases k
 ·exact Zxx x y t
 ·exact Zxw x y t
section
variable {P:Program} {c:RC} {k:EV->List (Nat × HObj)->Prop}
def Runs(P:Program)(c:RC)(s:Sem Value)(k:EV->List (Nat × HObj)->Prop):Prop:=∃ v w',s.run P c.w=.ok v w'/\Done c k v w'
theorem Runs.pure(hi:c.Inv){v:Value}{s:Sem Value}(h:s.run P c.w=.ok v c.w){ev:EV}(hk:k ev [])(hr:ev.rel c v):Runs P c s k:=
 ⟨v,c.w,h,Done.pure hi hk hr⟩
theorem Z3z(hi:c.Inv){kd:IntKind}{n:Int}{s:Sem Value}(h:s.run P c.w=.ok (.int kd n) c.w)(hk:(vI kd n).wp k):Runs P c s k:=Runs.pure hi h hk rfl
theorem Z7n(hi:c.Inv){b:Bool}{s:Sem Value}(h:s.run P c.w=.ok (.bool b) c.w)(hk:(vB b).wp k):Runs P c s k:=Runs.pure hi h hk rfl
theorem Z1lc(hi:c.Inv)(op:BinOp)(t:TypeId)(kd kd':IntKind)(x y:Int)(h:(Zt5 op kd x kd' y).wp k):
  Runs P c (binOp op t (.int kd x) (.int kd' y)) k:=by
 unfold Zt5 at h
 cases op
 case shl=>
  obtain⟨hy,h⟩:=h;refine Z3z hi ?_ h;simp[binOp,Op.shift,Int.not_lt.2 hy]
 case shr=>
  obtain⟨hy,h⟩:=h;refine Z3z hi ?_ h;simp[binOp,Op.shift,Int.not_lt.2 hy]
 case quo=>
  simp only at h;split at h
  ·rename_i e; subst e;obtain⟨hy,h⟩:=h;refine Z3z hi ?_ h;simp[binOp,Op.intDiv,hy]
  ·exact h.elim
 case rem=>
  simp only at h;split at h
  ·rename_i e; subst e;obtain⟨hy,h⟩:=h;refine Z3z hi ?_ h;simp[binOp,Op.intDiv,hy]
  ·exact h.elim
 all_goals
  simp only at h;split at h
  ·rename_i e; subst e
   first
    | (refine Z3z hi ?_ h; simp[binOp,Op.intArith]; done)
    | (refine Z3z hi ?_ h; simp[binOp]; rfl)
    | (refine Z7n hi ?_ h; simp[binOp,Op.intCmp]; done)
  ·exact h.elim
theorem Z110(hi:c.Inv){kd:FloatKind}{x y:Nat}{r:Option Nat}{s:Sem Value}
  (h:s=match r with | some r=>pure (.float kd r) | none=>do pure (.float kd (<- choose (.nanBits kd x y)))) (hk:(vF kd r).wp k):Runs P c s k:=by
 subst h
 cases r with
 | some r=>exact Runs.pure hi rfl (hk r rfl) rfl
 | none=>
  refine⟨.float kd ((Question.nanBits kd x y).cut (c.w.tape c.w.drawn (.nanBits kd x y))),c.w.drew,?_,Done.drew hi (hk _ (Z1jy kd x y _)) rfl⟩;have hf:(Question.nanBits kd x y).forced=false:=rfl;simp[hf]
theorem Z1ld(hi:c.Inv)(op:BinOp)(t:TypeId)(kd kd':FloatKind)(x y:Nat)(h:(Zt6 op kd x kd' y).wp k):
  Runs P c (binOp op t (.float kd x) (.float kd' y)) k:=by
 unfold Zt6 at h;split at h
 ·rename_i e; subst e
  cases op
  case add=>exact Z110 (x:=x) (y:=y) hi (by simp[binOp,Op.floatArith]; rfl) h
  case sub=>exact Z110 (x:=x) (y:=y) hi (by simp[binOp,Op.floatArith]; rfl) h
  case mul=>exact Z110 (x:=x) (y:=y) hi (by simp[binOp,Op.floatArith]; rfl) h
  case quo=>exact Z110 (x:=x) (y:=y) hi (by simp[binOp,Op.floatArith]; rfl) h
  all_goals first
   | exact h.elim
   | (refine Z7n hi ?_ h; simp[binOp,Op.floatCmp,fcmp]; done)
 ·exact h.elim
end
end
structure Wrote (w w':World) (b:Nat) (t:TypeId) (vs:Array Value):Prop where
 size:w'.heap.size=w.heap.size
 os:w'.os=w.os
 tape:w'.tape=w.tape
 output:w'.output=w.output
 there:w'.heap[b]?=some (.cells vs t (0,0))
 others:∀(i:Nat),i≠b->w'.heap[i]?=w.heap[i]?
theorem Wrote.refl {w:World}{b:Nat}{t:TypeId}{vs:Array Value}(h:w.heap[b]?=some (.cells vs t (0,0))):Wrote w w b t vs:=⟨rfl,rfl,rfl,rfl,h,λ_ _=>rfl⟩
theorem Addr.add_none(b off n:Nat):(⟨b,off,none⟩:Addr).add n=⟨b,off+n,none⟩:=by
 unfold Addr.add; split
 ·rename_i h; subst h; rfl
 ·rfl
theorem Z1bd {w:World}{b off:Nat}{t:TypeId}{vs:Array Value}(h:w.heap[b]?=some (.cells vs t (0,0)))(v:Value):Wrote w (w.setCell ⟨b,off,none⟩ v) b t (vs.setIfInBounds off v) where
 size:=by simp
 os:=rfl
 tape:=rfl
 output:=rfl
 there:=by simp[World.setCell,Array.getElem?_modify,h]
 others i hi:=by simp only[World.setCell,Array.getElem?_modify]; rw[if_neg (Ne.symm hi)]
def Z6l(l:List Value)(off:Nat)(us:List Value):List Value:=l.take off++us++l.drop (off+us.length)
theorem Zjl {l us:List Value}{off:Nat}(h:off+us.length<=l.length):(Z6l l off us).length=l.length:=by
 simp[Z6l]; omega
theorem Z1le {l us:List Value}{off:Nat}{u:Value}(h:off+(u :: us).length<=l.length):Z6l (l.set off u) (off+1) us=Z6l l off (u :: us):=by
 simp only[List.length_cons]at h;have e:l.set off u=l.take off++u :: l.drop (off+1):=by rw[List.set_eq_take_append_cons_drop,if_pos (by omega)]
 have hl:(l.take off).length=off:=by simp; omega
 unfold Z6l;rw[e]
 have e1:(l.take off++u :: l.drop (off+1)).take (off+1)=l.take off++[u]:=by
  have:=Zhr (l.take off) (u :: l.drop (off+1)) 1;rw[hl]at this; rw[this]; rfl
 have e2:(l.take off++u :: l.drop (off+1)).drop (off+1+us.length)=l.drop (off+(u :: us).length):=by
  have:=Z8h (l.take off) (u :: l.drop (off+1)) (1+us.length);rw[hl,<- Nat.add_assoc]at this;rw[this,Nat.add_comm 1,List.drop_succ_cons,List.drop_drop];congr 1;simp; omega
 rw[e1,e2];simp
theorem Zd4 {P:Program}:∀(us:List Value)(w:World)(b off i:Nat)(t:TypeId)(vs:Array Value),w.heap[b]?=some (.cells vs t (0,0))->(∀ u ∈ us,u.oneCell'=true)->
  off+i+us.length<=vs.size->∃ w',(storeCells ⟨b,off,none⟩ us i).run P w=.ok () w'/\Wrote w w' b t (Z6l vs.toList (off+i) us).toArray
 | [],w,b,off,i,t,vs,h,_,hl=>⟨w,rfl,by
   have:(Z6l vs.toList (off+i) []).toArray=vs:=by simp[Z6l]
   rw[this]; exact Wrote.refl h⟩
 | u :: us,w,b,off,i,t,vs,h,hu,hl=>by
  simp only[List.length_cons]at hl;have hw:=Z1bd (off:=off+i) h u;obtain⟨w',hr,hw'⟩:=Zd4 us (w.setCell ⟨b,off+i,none⟩ u) b off (i+1) t (vs.setIfInBounds (off+i) u) hw.there (λv hv=>hu v (List.mem_cons_of_mem _ hv)) (by simp; omega);refine⟨w',?_,?_⟩
  ·simp only[storeCells,Sem.run_bind];rw[run_store P w _ u .plain (hu u List.mem_cons_self)]
   have hc:w.cell? ((⟨b,off,none⟩:Addr).add i)=some (vs[off+i]'(by omega)):=by
    rw[Addr.add_none];simp only[World.cell?,h,Option.isSome_none];simp
   have hf:w.frozen? ((⟨b,off,none⟩:Addr).add i)=false:=by
    rw[Addr.add_none];simp[World.frozen?,h]
   rw[hc];simp only[hf,Result.andThen,Bool.false_eq_true,if_false];rw[Addr.add_none];exact hr
  ·have e:Z6l (vs.setIfInBounds (off+i) u).toList (off+(i+1)) us=Z6l vs.toList (off+i) (u :: us):=by
    rw[Array.toList_setIfInBounds,<- Nat.add_assoc];exact Z1le (by simp; omega)
   rw[e]at hw';exact⟨hw'.size.trans hw.size,hw'.os.trans hw.os,hw'.tape.trans hw.tape,hw'.output.trans hw.output,hw'.there,λj hj=>(hw'.others j hj).trans (hw.others j hj)⟩
theorem Ext.store {c:RC}{w':World}{id b:Nat}{o o':HObj}{t:TypeId}{vs vs':Array Value}(ho:c.heap[id]?=some o)(hm:o.md?=some .rw)(hb:c.blk id=some b)
  (hv:c.w.heap[b]?=some (.cells vs t (0,0))) (hw:Wrote c.w w' b t vs') (hs:vs'.size=vs.size) (hev:o.ev o') (hm':o'.md?=some .rw):
  Ext c {c with w:=w',heap:=c.heap.set id o' } where
 base:=rfl
 size:=Nat.le_of_eq hw.size.symm
 os:=hw.os
 tape:=hw.tape
 output:=hw.output
 keep i hi hn:=hw.others i λe=>hn (e ▸ ⟨id,o,ho,hm,hb⟩)
 cells i us t' z h:=by
  by_cases e:i=b
  ·subst e;rw[hv]at h; cases h;exact⟨vs',(0,0),hw.there,hs,.inl rfl⟩
  ·exact⟨us,z,(hw.others i e).trans h,rfl,.inl rfl⟩
 blk _ _ _ _:=rfl
 ev i oi hi:=by
  by_cases e:id=i
  ·subst e; rw[ho]at hi; cases hi; exact⟨o',Z3p ho,hev⟩
  ·exact⟨oi,(Z2t e).trans hi,oi.ev_refl⟩
 fresh i oi bi hoi hl hn hbi hlt:=by
  rcases Z1n hoi with⟨rfl,rfl,_⟩ | ⟨h,h'⟩
  ·exact absurd (HObj.live_of_md hm) (hn o ho)
  ·exact absurd hl (hn oi h')
theorem RC.Inv.store {c:RC}{w':World}{id b:Nat}{o o':HObj}{t:TypeId}{vs vs':Array Value}(hi:c.Inv)(ho:c.heap[id]?=some o)(hm:o.md?=some .rw)(hb:c.blk id=some b)
  (hv:c.w.heap[b]?=some (.cells vs t (0,0))) (hw:Wrote c.w w' b t vs') (hs:vs'.size=vs.size) (hev:o.ev o') (hm':o'.md?=some .rw)
  (hr:o'.rel {c with w:=w',heap:=c.heap.set id o' } id):RC.Inv {c with w:=w',heap:=c.heap.set id o' } where
 objs i oi hoi:=by
  rcases Z1n hoi with⟨rfl,rfl,_⟩ | ⟨h,h'⟩
  ·exact hr
  ·refine HObj.rel_mono (Ext.store ho hm hb hv hw hs hev hm') h' (λbi hbi hl=>hw.others bi λe=>?_) (hi.objs i oi h');subst e;exact h (hi.inj id i o oi bi ho (HObj.live_of_md hm) h' hl hb hbi)
 inj i j oi oj bi hoi hli hoj hlj hbi hbj:=by
  have lift:∀(k:Nat)(ok:HObj),(c.heap.set id o')[k]?=some ok->ok.live->∃ o2,c.heap[k]?=some o2/\o2.live:=by
   intro k ok hk hl;rcases Z1n hk with⟨rfl,rfl,_⟩ | ⟨_,h'⟩
   ·exact⟨o,ho,HObj.live_of_md hm⟩
   ·exact⟨ok,h',hl⟩
  obtain⟨o1,h1,l1⟩:=lift i oi hoi hli;obtain⟨o2,h2,l2⟩:=lift j oj hoj hlj;exact hi.inj i j o1 o2 bi h1 l1 h2 l2 hbi hbj
 base i oi bi hoi hl hbi:=by
  rcases Z1n hoi with⟨rfl,rfl,_⟩ | ⟨_,h'⟩
  ·exact hi.base id o bi ho (HObj.live_of_md hm) hbi
  ·exact hi.base i oi bi h' hl hbi
 basele:=by show c.base<=w'.heap.size; rw[hw.size]; exact hi.basele
def arrC {α:Type}(f:α->List SV)(d:α)(xs:List α):(i n:Nat)->List SV
 | _,0=>[]
 | i,n+1=>f (xs.getD i d)++arrC f d xs (i+1) n
def K.cells:(k:K)->k.T->List SV
 | .int ik,n=>[.val (.int ik n)]
 | .bool,b=>[.val (.bool b)]
 | .flt fk,b=>[.val (.float fk b)]
 | .unit,_=>[]
 | .pair a b,x=>a.cells x.1++b.cells x.2
 | .arr n e,xs=>arrC e.cells e.dflt xs 0 n
 | .slice e,x=>[.data (.slice e) x]
 | .ptr e,x=>[.data (.ptr e) x]
 | .map a b,x=>[.data (.map a b) x]
 | .ent _ _,_=>[]
theorem Z1er {α:Type}{c:RC}{f:α->List SV}{d:α}{R:α->List Value->Prop}(hf:∀ x vs,R x vs->All2 (SV.rel c) (f x) vs):
  ∀(n i:Nat)(xs:List α)(vs:List Value),(xs.drop i).length=n->Rows R (xs.drop i) vs->All2 (SV.rel c) (arrC f d xs i n) vs
 | 0,i,xs,vs,hl,h=>by
  have:xs.drop i=[]:=List.eq_nil_of_length_eq_zero hl;rw[this]at h;have:vs=[]:=h;subst this; exact .nil
 | n+1,i,xs,vs,hl,h=>by
  have hi:i<xs.length:=by
   rcases Nat.lt_or_ge i xs.length with h' | h'
   ·exact h'
   ·rw[List.drop_eq_nil_of_le h']at hl; simp at hl
  rw[List.drop_eq_getElem_cons hi]at h hl;obtain⟨c1,c2,rfl,h1,h2⟩:=h;have e:xs.getD i d=xs[i]:=by rw[List.getD,List.getElem?_eq_getElem hi]; rfl
  simp only[arrC,e];exact(hf _ _ h1).append (Z1er hf n (i+1) xs c2 (by simp only[List.length_cons]at hl; omega) h2)
theorem K.cells_rel {c:RC}:∀(k:K)(x:k.T)(vs:List Value),k.rep c.w c.ok x vs->All2 (SV.rel c) (k.cells x) vs
 | .int ik,n,vs,h=>by rw[show vs=_ from h]; exact .cons rfl .nil
 | .bool,b,vs,h=>by rw[show vs=_ from h]; exact .cons rfl .nil
 | .flt fk,b,vs,h=>by rw[show vs=_ from h]; exact .cons rfl .nil
 | .unit,_,vs,h=>by rw[show vs=_ from h]; exact .nil
 | .pair a b,x,vs,⟨c1,c2,e,h1,h2⟩=>by rw[e]; exact(K.cells_rel a _ _ h1).append (K.cells_rel b _ _ h2)
 | .arr n e,xs,vs,⟨hl,hr⟩=>Z1er (λx vs h=>K.cells_rel e x vs h) n 0 xs vs hl hr
 | .slice e,x,vs,h=>by
  have h':=h;obtain⟨A,cap,rfl,_⟩:=h;exact .cons h' .nil
 | .ptr e,x,vs,h=>by
  have h':=h;rcases h with⟨_,rfl⟩ | ⟨_,_,_,_,_,rfl,_⟩
  ·exact .cons h' .nil
  ·exact .cons h' .nil
 | .map a b,x,vs,h=>by
  have h':=h;rcases h with⟨_,rfl⟩ | ⟨_,_,_,rfl,_⟩
  ·exact .cons h' .nil
  ·exact .cons h' .nil
 | .ent _ _,_,_,h=>h.elim
def SV.isOne(h:List HObj):SV->Bool
 | .val v=>v.oneCell'
 | .data k _=>!k.agg
 | .osl id _ _=>match h[id]? with | some (.row ..)=>true | _=>false
 | .ref id _=>match h[id]? with | some (.row ..) | some (.box ..)=>true | _=>false
 | .eref id _ _=>match h[id]? with | some (.row ..)=>true | _=>false
 | .void=>true
 | .clo ..=>true
 | .bstr _=>true
 | .mref id=>match h[id]? with | some (.mp ..)=>true | _=>false
 | .bsl id _=>match h[id]? with | some (.box ..)=>true | _=>false
 | .full ..=>true
 | .osx ..=>true
 | .junk=>false
theorem K.one_cell {w:World}{ok:Nat->Prop}:∀ {k:K}{x:k.T}{u:Value},k.agg=false->k.rep w ok x [u]->u.oneCell'=true:=by
 intro k x u hk h
 cases k with
 | unit=>cases hk
 | pair=>cases hk
 | arr=>cases hk
 | slice e=>
  obtain⟨A,cap,e,_⟩:=h;rw[(List.cons.inj e).1]; rfl
 | ptr e=>
  rcases h with⟨_,e⟩ | ⟨_,_,_,_,_,e,_⟩ <;> (rw[(List.cons.inj e).1]; rfl)
 | map a b=>
  rcases h with⟨_,e⟩ | ⟨_,_,_,e,_⟩ <;> (rw[(List.cons.inj e).1]; rfl)
 | ent a b=>exact h.elim
 | int ik=>rw[(List.cons.inj (show _=[_]from h)).1]; rfl
 | bool=>rw[(List.cons.inj (show _=[_]from h)).1]; rfl
 | flt fk=>rw[(List.cons.inj (show _=[_]from h)).1]; rfl
theorem SV.isOne_rel {c:RC}{s:SV}{u:Value}(h:s.isOne c.heap=true)(r:s.rel c u):u.oneCell'=true:=by
 cases s with
 | val v=>rw[show u=v from r]; exact h
 | data k x=>
  have hk:k.agg=false:=by cases hq:k.agg with
   | false=>rfl
   | true=>rw[show SV.isOne c.heap (.data k x)=!k.agg from rfl,hq]at h; cases h
  exact K.one_cell hk r
 | osl id off len=>
  simp only[SV.isOne]at h;simp only[SV.rel]at r;split at h
  ·rename_i m t e xs ho;rw[ho]at r;obtain⟨A,cap,rfl,_⟩:=r;rfl
  ·cases h
 | ref id off=>
  simp only[SV.isOne]at h;simp only[SV.rel]at r;split at h
  ·rename_i m t e xs ho;rw[ho]at r;obtain⟨b,_,rfl⟩:=r;rfl
  ·rename_i m t cs ho;rw[ho]at r;obtain⟨b,_,rfl⟩:=r;rfl
  ·cases h
 | eref id i off=>
  simp only[SV.isOne]at h;simp only[SV.rel]at r;split at h
  ·rename_i m t e xs ho;rw[ho]at r;obtain⟨_,b,_,rfl⟩:=r;rfl
  ·cases h
 | void=>obtain⟨A,rfl⟩:=r; rfl
 | clo f a b=>obtain⟨_,_,rfl,_⟩:=r; rfl
 | bstr bs=>obtain⟨_,rfl,_⟩:=r; rfl
 | mref id=>
  simp only[SV.isOne]at h;simp only[SV.rel]at r;split at h
  ·rename_i m a b xs ho;rw[ho]at r;obtain⟨b,_,rfl⟩:=r;rfl
  ·cases h
 | bsl id len=>
  simp only[SV.isOne]at h;simp only[SV.rel]at r;split at h
  ·rename_i m t cs ho;rw[ho]at r;obtain⟨_,b,_,rfl⟩:=r;rfl
  ·cases h
 | full e xs=>obtain⟨_,A,rfl⟩:=r; rfl
 | osx id len=>obtain⟨_,A,rfl⟩:=r; rfl
 | junk=>cases h
def XV.cells(h:List HObj):XV->Option (List SV)
 | .one s=>if s.isOne h then some [s]else none
 | .agg cs=>if cs.all (SV.isOne h)then some cs else none
 | .dat k x=>if k.agg then(if(k.cells x).all (SV.isOne h)then some (k.cells x)else none)else none
theorem Zbc {u:Value}(h:u.oneCell'=true):u.cells=#[u]:=by cases u <;> first | rfl | cases h
theorem Z1jz {c:RC}:∀ {cs:List SV}{vs:List Value},cs.all (SV.isOne c.heap)=true->All2 (SV.rel c) cs vs->∀ u ∈ vs,u.oneCell'=true:=by
 intro cs vs h ha
 induction ha with
 | nil=>intro u hu; cases hu
 | cons h1 h2 ih=>
  simp only[List.all_cons,Bool.and_eq_true]at h;intro u hu
  cases hu with
  | head=>exact SV.isOne_rel h.1 h1
  | tail _ hu=>exact ih h.2 u hu
theorem XV.cells_rel {c:RC}{x:XV}{cs:List SV}{u:Value}(h:x.cells c.heap=some cs)(r:x.rel c u):All2 (SV.rel c) cs u.cells.toList/\∀ v ∈ u.cells.toList,v.oneCell'=true:=by
 cases x with
 | one s=>
  simp only[XV.cells]at h;split at h
  ·rename_i hs
   cases h
   have:=SV.isOne_rel hs r;rw[Zbc this];exact⟨.cons r .nil,λv hv=>by simp at hv; subst hv; exact this⟩
  ·cases h
 | agg cs'=>
  simp only[XV.cells]at h;split at h
  ·rename_i hs
   cases h
   obtain⟨vs,rfl,ha⟩:=r;exact⟨ha,Z1jz hs ha⟩
  ·cases h
 | dat k y=>
  simp only[XV.cells]at h;split at h
  ·split at h
   ·rename_i hs
    cases h
    obtain⟨vs,rfl,ha⟩:=r;have:=K.cells_rel k y _ ha;exact⟨this,Z1jz hs this⟩
   ·cases h
  ·cases h
theorem Zzj {α:Type}{a b:List α}{o s:Nat}(h:o+s<=a.length):((a++b).drop o).take s=(a.drop o).take s:=by
 rw[List.drop_append_of_le_length (by omega),List.take_append_of_le_length (by simp; omega)]
theorem Z1lf {α:Type}{a b:List α}{o:Nat}(h:a.length<=o):(a++b).drop o=b.drop (o - a.length):=by
 have:o=a.length+(o - a.length):=by omega
 rw[this,Z8h]; congr 1; omega
theorem Z1rm {α:Type}{xs:List α}{i:Nat}{d:α}(h:i<xs.length):xs[i]?=some (xs.getD i d):=by
 rw[List.getElem?_eq_getElem h,List.getD,List.getElem?_eq_getElem h]; rfl
theorem K.sub_self {k:K}{x:k.T}{y:k.T}(h:k.sub 0 k x=some y):y=x:=by
 unfold K.sub at h;simp only[dite_true]at h;exact(Option.some.inj h).symm
theorem K.sub_rep {w:World}{ok:Nat->Prop}{k':K}:∀(k:K)(off:Nat)(x:k.T)(y:k'.T)(vs:List Value),k.sub off k' x=some y->k.rep w ok x vs->
  off+k'.sz<=k.sz/\k'.rep w ok y ((vs.drop off).take k'.sz):=by
 have self:∀(k:K)(x:k.T)(y:k'.T)(vs:List Value)(h:k=k'),h ▸ x=y->k.rep w ok x vs->0+k'.sz<=k.sz/\k'.rep w ok y ((vs.drop 0).take k'.sz):=by
  intro k x y vs h e r;subst h; subst e;refine⟨by omega,?_⟩;have:=K.rep_len k x vs r;rw[List.drop_zero,List.take_of_length_le (by omega)]; exact r
 intro k
 induction k with
 | pair a b iha ihb=>
  intro off x y vs h r;obtain⟨c1,c2,rfl,h1,h2⟩:=r;have l1:=K.rep_len a _ _ h1;have l2:=K.rep_len b _ _ h2
  have main:∀ off,(if off<a.sz then a.sub off k' x.1 else b.sub (off - a.sz) k' x.2)=some y->off+k'.sz<=(K.pair a b).sz/\k'.rep w ok y (((c1++c2).drop off).take k'.sz):=by
   intro off h;have e:(K.pair a b).sz=a.sz+b.sz:=rfl;split at h
   ·obtain⟨g1,g2⟩:=iha off x.1 y c1 h h1;exact⟨by omega,by rw[Zzj (by omega)]; exact g2⟩
   ·obtain⟨g1,g2⟩:=ihb _ x.2 y c2 h h2;exact⟨by omega,by rw[Z1lf (by omega),l1]; exact g2⟩
  cases off with
  | zero=>
   unfold K.sub at h;split at h
   ·rename_i e; exact self _ x y _ e (Option.some.inj h) ⟨c1,c2,rfl,h1,h2⟩
   ·refine main 0 ?_;split
    ·rename_i hq; simpa [hq]using h
    ·rename_i hq; simpa [hq]using h
  | succ off=>unfold K.sub at h; exact main _ h
 | arr n e ih=>
  intro off x y vs h r;obtain⟨hl,hr⟩:=r;have hR:∀(y:e.T) cs,e.rep w ok y cs->cs.length=e.sz:=λy cs=>K.rep_len e y cs
  have main:∀ off,0<e.sz/\off / e.sz<n->e.sub (off % e.sz) k' (List.getD (α:=e.T) x (off / e.sz) e.dflt)=some y->off+k'.sz<=(K.arr n e).sz/\k'.rep w ok y ((vs.drop off).take k'.sz):=by
   intro off hq h;have hlt:off / e.sz<List.length (α:=e.T) x:=by omega
   have hx:getElem? (coll:=List e.T) x (off / e.sz)=some (List.getD (α:=e.T) x (off / e.sz) e.dflt):=by
    exact Z1rm hlt
   have hcell:=Rows.get hR hr _ _ hx;obtain⟨g1,g2⟩:=ih _ _ y _ h hcell;have hdm:off / e.sz*e.sz+off % e.sz=off:=Nat.div_add_mod' off e.sz
   have e1:(((vs.drop (off / e.sz*e.sz)).take e.sz).drop (off % e.sz)).take k'.sz=(vs.drop off).take k'.sz:=by
    rw[List.drop_take,List.drop_drop,List.take_take,hdm];congr 1;omega
   rw[e1]at g2;refine⟨?_,g2⟩;have:(off / e.sz+1)*e.sz<=n*e.sz:=Nat.mul_le_mul_right _ hq.2;rw[Nat.add_mul,Nat.one_mul]at this;show off+k'.sz<=n*e.sz;omega
  cases off with
  | zero=>
   unfold K.sub at h;split at h
   ·rename_i e1; exact self _ x y vs e1 (Option.some.inj h) ⟨hl,hr⟩
   ·have h':(if 0<n/\0<e.sz then e.sub 0 k' (List.getD (α:=e.T) x 0 e.dflt)else none)=some y:=h;split at h'
    ·rename_i q;refine main 0 ⟨q.2,by rw[Nat.zero_div]; exact q.1⟩ ?_;rw[Nat.zero_mod,Nat.zero_div];exact h'
    ·cases h'
  | succ off=>
   unfold K.sub at h;split at h
   ·rename_i q; exact main _ q h
   ·cases h
 | _=>
  intro off x y vs h r
  cases off with
  | zero=>
   unfold K.sub at h;split at h
   ·rename_i e; exact self _ x y vs e (Option.some.inj h) r
   ·cases h
  | succ off=>unfold K.sub at h; cases h
def EV.dat(k:K)(x:k.T):EV:=.x (.one (.data k x))
def Z111(c a b:EV):Res:=match c with
 | .x (.one (.val (.bool t)))=>.br t (.ret a []) (.ret b [])
 | _=>.fail
def Zem(v:EV)(i:Nat):Res:=match v with
 | .tup vs=>match vs[i]? with | some x=>.ret (.x x) [] | none=>.fail
 | _=>.fail
def Zjm(cx:Cx)(h:List HObj)(t:TypeId)(v:EV):Res:=match cx.tab t with
 | some ⟨.slice _,_,_,_,_⟩=>match v with
  | .x (.one (.data (.slice e) xs))=>vI .i64 (List.length (α:=e.T) xs)
  | .x (.one (.osl id _ len))=>match h[id]? with | some (.row ..)=>vI .i64 len | _=>.fail
  | .x (.one (.bsl id len))=>match h[id]? with | some (.box ..)=>vI .i64 len | _=>.fail
  | .x (.one .void)=>vI .i64 0
  | .x (.one (.val u))=>if Zbb u then vI .i64 0 else .fail
  | _=>.fail
 | some ⟨.arr n _,_,_,_,_⟩=>vI .i64 n
 | _=>.fail
def Z57(cx:Cx)(h:List HObj)(t:TypeId)(x i:EV):Res:=match i,cx.tab t with
 | .x (.one (.val (.int _ n))),some ⟨.slice e,_,_,_,_⟩=>match cx.tab e,x with
  | some ed,.x (.one (.data (.slice ek) xs))=>if ed.sz=ek.sz then
    .ask (0<=n/\n<(List.length (α:=ek.T) xs:Int)) λ_=>.ret (.dat (.ptr ek) (some (List.getD (α:=ek.T) xs n.toNat ek.dflt))) []else .fail
  | some ed,.x (.one (.osl id off len))=>match h[id]? with
   | some (.row _ _ ek xs)=>if ed.sz=ek.sz then .ask (0<=n/\n<(len:Int)) λ_=>.ret (.x (.one (.eref id (off+n.toNat) 0))) []else .fail
   | _=>.fail
  | some ed,.x (.one (.bsl id len))=>match h[id]? with
   | some (.box ..)=>if ed.sz=1 then .ask (0<=n/\n<(len:Int)) λ_=>.ret (.x (.one (.ref id n.toNat))) []else .fail
   | _=>.fail
  | _,_=>.fail
 | .x (.one (.val (.int _ n))),some ⟨.arr m e,_,_,_,_⟩=>match cx.tab e,x with
  | some ed,.x (.one (.ref id 0))=>match h[id]? with
   | some (.row _ _ ek xs)=>if ed.sz=ek.sz then .ask (0<=n/\n<(m:Int)/\m<=List.length xs) λ_=>.ret (.x (.one (.eref id n.toNat 0))) []else .fail
   | _=>.fail
  | some ed,.x (.one (.eref id k off))=>match h[id]? with
   | some (.row ..)=>.ask (0<=n/\n<(m:Int)) λ_=>.ret (.x (.one (.eref id k (off+n.toNat*ed.sz)))) []
   | _=>.fail
  | some ed,.x (.one (.data (.ptr (.arr m' ek)) (some xs)))=>if ed.sz=ek.sz/\m=m' then
    .ask (0<=n/\n<(m:Int)) λ_=>.ret (.dat (.ptr ek) (some (List.getD (α:=ek.T) xs n.toNat ek.dflt))) []else .fail
  | _,_=>.fail
 | _,_=>.fail
def Z58(cx:Cx)(h:List HObj)(t:TypeId)(x:EV)(f:Nat):Res:=match cx.tab t with
 | some ⟨.struct fs,_,_,_,_⟩=>match fs[f]? with
  | some (off,ft)=>match cx.tab ft with
   | some fd=>if fd.sz=0 then .fail else match x with
    | .x (.one (.ref id o))=>match h[id]? with
     | some (.box ..)=>.ret (.x (.one (.ref id (o+off)))) []
     | _=>.fail
    | .x (.one (.eref id i o))=>match h[id]? with
     | some (.row ..)=>.ret (.x (.one (.eref id i (o+off)))) []
     | _=>.fail
    | .x (.one (.data (.ptr k) (some y)))=>match fd.kind with
     | some fk=>match k.sub off fk y with
      | some z=>.ret (.dat (.ptr fk) (some z)) []
      | none=>.fail
     | none=>.fail
    | _=>.fail
   | none=>.fail
  | none=>.fail
 | _=>.fail
def Z9s(cx:Cx)(h:List HObj)(t:TypeId)(x:EV):Res:=match cx.tab t with
 | some td=>match x with
  | .x (.one (.data (.ptr k) (some y)))=>if td.sz=k.sz/\td.k.agg=some k.agg then .ret (.x (XV.ofData k y)) []else .fail
  | .x (.one (.eref id i off))=>match h[id]? with
   | some (.row _ _ e xs)=>match td.kind with
    | some k=>match e.sub off k (List.getD (α:=e.T) xs i e.dflt)with
     | some z=>.ret (.x (XV.ofData k z)) []
     | none=>.fail
    | none=>.fail
   | _=>.fail
  | .x (.one (.ref id off))=>match h[id]? with
   | some (.box _ _ cs)=>match td.k.agg with
    | some false=>match cs[off]? with | some s=>.ret (.x (.one s)) [] | none=>.fail
    | some true=>if off+td.sz<=cs.length then .ret (.x (.agg ((cs.drop off).take td.sz))) []else .fail
    | none=>.fail
   | some (.row _ _ e xs)=>match td.k with
    | .arr n _=>if off=0/\td.sz=n*e.sz then .ask (List.length xs=n) λ_=>.ret (.x (.dat (.arr n e) xs)) []else .fail
    | _=>.fail
   | _=>.fail
  | _=>.fail
 | none=>.fail
def Z1dx:List (Nat × HObj)->Nat->Bool
 | [],_=>false
 | u :: us,id=>if Nat.beq u.1 id then true else Z1dx us id
theorem Z1rn {us:List (Nat × HObj)}{id:Nat}(h:Z1dx us id=false):∀ u ∈ us,u.1≠id:=by
 induction us with
 | nil=>intro u hu; cases hu
 | cons v us ih=>
  simp only[Z1dx]at h;split at h
  ·cases h
  ·rename_i hv;intro u hu
   cases hu with
   | head=>simpa using hv
   | tail _ hu=>exact ih h u hu
def fze(h:List HObj):List EV->List (Nat × HObj)
 | []=>[]
 | .x v :: r=>v.fz h++fze h r
 | _ :: r=>fze h r
theorem Z112 {h:List HObj}:∀ l:List EV,FzU h (fze h l)
 | []=>FzU.nil
 | .x v :: r=>(XV.fz_ok v).append (Z112 r)
 | .tup _ :: r=>Z112 r
def Z6q(cx:Cx)(h:List HObj)(t:TypeId)(x v:EV):Res:=match cx.tab t,v with
 | some td,.x xv=>match x with
  | .x (.one (.eref id i 0))=>match h[id]? with
   | some (.row .rw ty e xs)=>if td.sz=e.sz then(match e.flat with
    | true=>(match xv.take h e with | some y=>.ret (.tup []) [(id,.row .rw ty e (List.set xs i y))] | none=>.fail)
    | false=>if Z1dx (xv.fz h) id then .fail else(match xv.take (hz (applyU h (xv.fz h))) e with | some y=>.ret (.tup []) (xv.fz h++[(id,.row .rw ty e (List.set xs i y))]) | none=>.fail))else .fail
   | _=>.fail
  | .x (.one (.ref id off))=>match h[id]? with
   | some (.box .rw ty cs)=>match xv.cells h with
    | some us=>if us.length=td.sz/\off+td.sz<=cs.length then .ret (.tup []) [(id,.box .rw ty (cs.take off++us++cs.drop (off+us.length)))]else .fail
    | none=>.fail
   | some (.row .rw ty e xs)=>match td.k with
    | .arr n _=>if off=0/\td.sz=n*e.sz/\e.flat=true then
      (match xv.take h (.arr n e)with | some ys=>.ask (List.length xs=n/\List.length (α:=e.T) ys=n) λ_=>.ret (.tup []) [(id,.row .rw ty e ys)] | none=>.fail)else .fail
    | _=>.fail
   | _=>.fail
  | _=>.fail
 | _,_=>.fail
def Zly(cx:Cx)(t:TypeId)(tgt:Nat):Res:=match cx.tab t with
 | some td=>match td.kind with
  | some (.arr n e)=>if n<=65536 then .ret (.x (.one (.ref tgt 0))) [(tgt,.row .rw t e (List.replicate n e.dflt))]else .fail
  | _=>.ret (.x (.one (.ref tgt 0))) [(tgt,.box .rw t (td.zero.map .val))]
 | none=>.fail
def Zjn(cx:Cx)(h:List HObj)(t:TypeId)(v:EV)(tgt:Nat):Res:=match cx.tab t,v with
 | some td,.x xv=>match td.kind with
  | some (.arr n e)=>if e.flat=true/\n<=65536 then
    (match xv.take h (.arr n e)with | some ys=>.ret (.x (.one (.ref tgt 0))) [(tgt,.row .rw t e ys)] | none=>.fail)else .fail
  | _=>match xv.cells h with
   | some us=>.ret (.x (.one (.ref tgt 0))) [(tgt,.box .rw t us)]
   | none=>.fail
 | _,_=>.fail
def Z9t(cx:Cx)(t:TypeId)(l c:EV)(tgt:Nat):Res:=match cx.tab t,l,c with
 | some ⟨.slice e,_,_,_,_⟩,.x (.one (.val (.int .i64 n))),.x (.one (.val (.int .i64 m)))=>match cx.tab e with
  | some ed=>match ed.kind with
   | some ek=>if 1<=ed.bytes/\1<=ed.sz then .ask (0<=n/\n<=m/\m*ed.bytes<=281474976710656) λ_=>
     .ret (.x (.one (.osl tgt 0 n.toNat))) [(tgt,.row .rw e ek (List.replicate n.toNat ek.dflt))]else .fail
   | none=>.fail
  | none=>.fail
 | _,_,_=>.fail
def Z7u(h:List HObj)(k:K):List EV->Option (List k.T)
 | []=>some []
 | .x v :: r=>match v.take h k with
  | some x=>match Z7u h k r with
   | some xs=>some (x :: xs)
   | none=>none
  | none=>none
 | _=>none
def Zen(h:List HObj):List EV->Option (List SV)
 | []=>some []
 | .x (.one s) :: r=>if s.isOne h then(match Zen h r with
  | some cs=>some (s :: cs)
  | none=>none)else none
 | _=>none
def Z3i(cx:Cx)(h:List HObj)(t:TypeId)(n:Nat)(is:List Nat)(vs:List EV)(tgt:Nat):Res:=match cx.tab t with
 | some ⟨.slice e,_,_,_,_⟩=>match cx.tab e with
  | some ed=>match ed.kind with
   | some ek=>if is=List.range n/\vs.length=n/\1<=ed.sz/\n*ed.sz<=16777216 then(match ek.flat with
     | true=>(match Z7u h ek vs with | some xs=>.ret (.x (.one (osv ek tgt n))) [(tgt,.row .rw e ek xs)] | none=>.fail)
     | false=>(match Z7u (hz (applyU h (fze h vs))) ek vs with | some xs=>.ret (.x (.one (.osl tgt 0 n))) (fze h vs++[(tgt,.row .rw e ek xs)]) | none=>.fail))else .fail
   | none=>if is=List.range n/\vs.length=n/\ed.sz=1/\n<=65536 then(match Zen h vs with
    | some cs=>.ret (.x (.one (.bsl tgt n))) [(tgt,.box .rw e cs)]
    | none=>.fail)else .fail
  | none=>.fail
 | _=>.fail
def Z113:EV->Bool
 | .x (.one .void)=>true
 | .x (.one (.val v))=>Zbb v
 | _=>false
def Z6h(cx:Cx)(h:List HObj)(t:TypeId)(x y:EV)(tgt:Nat):Res:=match cx.tab t,y with
 | some ⟨.slice e,_,_,_,_⟩,.x yv=>match cx.tab e with
  | some ed=>if 1<=ed.sz/\1<=ed.bytes then
    (if Z113 x then
     (match ed.kind with
     | some ek=>if ed.sz=ek.sz then
       (match yv.take h (.slice ek)with
       | some ys=>.ask (List.length (α:=ek.T) ys*ed.bytes<=140737488355328) λ_=>.ret (.x (.one (.osl tgt 0 (List.length (α:=ek.T) ys)))) [(tgt,.row .rw e ek ys)]
       | none=>.fail)else .fail
     | none=>.fail)
    else match x with
    | .x (.one (.osl id 0 len))=>match h[id]? with
     | some (.row .rw ty ek xs)=>if ty=e/\ed.sz=ek.sz/\id≠tgt then
       (match yv.take h (.slice ek)with
       | some ys=>.ask (len=List.length xs/\(List.length xs+List.length (α:=ek.T) ys)*ed.bytes<=140737488355328) λ_=>
         .ret (.x (.one (.osl tgt 0 (List.length xs+List.length (α:=ek.T) ys)))) [(id,.dead),(tgt,.row .rw e ek (@HAppend.hAppend (List ek.T) (List ek.T) (List ek.T) _ xs ys))]
       | none=>.fail)else .fail
     | _=>.fail
    | .x (.one (.full ek xs))=>if ed.sz=ek.sz then
      (match yv.take h (.slice ek)with
      | some ys=>.ask (0<List.length xs/\0<List.length (α:=ek.T) ys/\(List.length xs+List.length (α:=ek.T) ys)*ed.bytes<=140737488355328) λ_=>
        .ret (.x (.one (.osl tgt 0 (List.length xs+List.length (α:=ek.T) ys)))) [(tgt,.row .rw e ek (@HAppend.hAppend (List ek.T) (List ek.T) (List ek.T) _ xs ys))]
      | none=>.fail)else .fail
    | _=>.fail)else .fail
  | none=>.fail
 | _,_=>.fail
def bnd(d:Int):Option EV->Option Int
 | none=>some d
 | some (.x (.one (.val (.int _ n))))=>some n
 | _=>none
def Zai(cx:Cx)(h:List HObj)(t:TypeId)(x:EV)(lo hi mx:Option EV):Res:=match cx.tab t with
 | some ⟨.slice e,_,_,_,_⟩=>match cx.tab e with
  | some ed=>match x with
   | .x (.one (.data (.slice ek) xs))=>if ed.sz=ek.sz then(match bnd 0 lo,bnd (List.length (α:=ek.T) xs) hi,mx with
    | some l,some r,none=>.ask (0<=l/\l<=r/\r<=(List.length (α:=ek.T) xs:Int)) λ_=>.ret (.dat (.slice ek) (List.take (α:=ek.T) (r - l).toNat (List.drop (α:=ek.T) l.toNat xs))) []
    | some l,some r,some m=>(match bnd 0 (some m)with
     | some q=>.ask (l=0/\r=0/\q=0) λ_=>.ret (.x (.one .void)) []
     | none=>.fail)
    | _,_,_=>.fail)else .fail
   | .x (.one (.osl id off len))=>(match h[id]? with
    | some (.row _ _ ek xs)=>if ed.sz=ek.sz then(match bnd 0 lo,bnd len hi,mx with
     | some l,some r,none=>.ask (0<=l/\l<=r/\(r<=(len:Int)∨off+r.toNat<=List.length xs)) λ_=>.ret (.x (.one (.osl id (off+l.toNat) (r - l).toNat))) []
     | some l,some r,some m=>(match bnd 0 (some m)with
      | some q=>.ask (0<=l/\l<=r/\r<=(len:Int)/\q=r/\List.length xs<=off+r.toNat) λ_=>.ret (.x (.one (.osl id (off+l.toNat) (r - l).toNat))) []
      | none=>.fail)
     | _,_,_=>.fail)else .fail
    | _=>.fail)
   | _=>.fail
  | none=>.fail
 | some ⟨.arr n e,_,_,_,_⟩=>match cx.tab e with
  | some ed=>match x with
   | .x (.one (.ref id 0))=>(match h[id]? with
    | some (.row _ _ ek xs)=>if ed.sz=ek.sz then(match bnd 0 lo,bnd n hi,mx with
     | some l,some r,none=>.ask (0<=l/\l<=r/\r<=(n:Int)/\n=List.length xs) λ_=>.ret (.x (.one (.osl id l.toNat (r - l).toNat))) []
     | _,_,_=>.fail)else .fail
    | _=>.fail)
   | _=>.fail
  | none=>.fail
 | _=>.fail
section
theorem At.sub {w:World}{b off:Nat}{vs:List Value}(h:At w b off vs)(o s:Nat):At w b (off+o) ((vs.drop o).take s):=by
 intro j v hv;rw[List.getElem?_take]at hv;split at hv
 ·rw[List.getElem?_drop]at hv;rw[Nat.add_assoc];exact h (o+j) v hv
 ·cases hv
theorem At.row {w:World}{b:Nat}{t:TypeId}{z:Nat × Nat}{vs:Array Value}{f:List Value}{o:Nat}(hv:w.heap[b]?=some (.cells vs t z))(h:∀(j:Nat) (v:Value),f[j]?=some v->vs.toList[o+j]?=some v):At w b o f:=by
 intro j v hj;simp only[World.cell?,hv,Option.isSome_none];simpa using h j v hj
theorem Z16d {α:Type}{xs:List α}{i:Nat}{d:α}(h:i<xs.length):xs[i]?=some (xs.getD i d):=by
 rw[List.getElem?_eq_getElem h,List.getD,List.getElem?_eq_getElem h]; rfl
theorem Z1nz {α:Type}{xs:List α}{i:Nat}(h:i<xs.length):xs≠[]:=by rintro rfl; simp at h
theorem Rows.every {α:Type}{R:α->List Value->Prop}{p:Value->Prop}(hR:∀ y cs,R y cs->∀ v ∈ cs,p v):∀ {xs:List α}{cs:List Value},Rows R xs cs->∀ v ∈ cs,p v
 | [],cs,h,v,hv=>by rw[show cs=[]from h]at hv; cases hv
 | _ :: _,_,⟨c1,c2,e,h1,h2⟩,v,hv=>by
  subst e;rcases List.mem_append.1 hv with h' | h'
  ·exact hR _ _ h1 v h'
  ·exact Rows.every hR h2 v h'
theorem Z1ro {w:World}{ok:Nat->Prop}{e:K}{xs:List e.T}{A:Option Addr}{cap:Nat}{len:Nat}(h:(K.slice e).rep w ok xs [.slice A len cap]){i:Nat}(hi:i<xs.length):
  len=xs.length/\∃ b off,A=some ⟨b,off,none⟩/\(K.ptr e).rep w ok (some (xs.getD i e.dflt)) [.pointer (some ⟨b,off+i*e.sz,none⟩)]:=by
 obtain⟨A',cap',e1,h1,h2,h3⟩:=h
 cases e1
 refine⟨rfl,?_⟩;rcases h3 with h3 | ⟨b,off,vs,rfl,hb,hr,hat⟩
 ·exact absurd h3 (Z1nz hi)
 ·exact⟨b,off,rfl,.inr ⟨_,b,off+i*e.sz,(vs.drop (i*e.sz)).take e.sz,rfl,rfl,hb,Rows.get (λy cs=>K.rep_len e y cs) hr i _ (Z16d hi),hat.sub _ _⟩⟩
section
variable {P:Program} {cx:Cx} (hT:∀ t d,cx.tab t=some d->d.Fits P t) {c:RC} (hi:c.Inv) {k:EV->List (Nat × HObj)->Prop}
include hT hi
theorem Z31 {t:TypeId}{d:TD}(h:cx.tab t=some d)(w:World):(sizeOf t).run P w=.ok d.sz w:=by
 obtain⟨i,z,h1,h2,_⟩:=(hT t d h).info;simp[sizeOf,typeInfo,h1,h2]
theorem Zeo {t:TypeId}{d:TD}(h:cx.tab t=some d){b:Bool}(hb:d.k.agg=some b)(w:World):(isAgg t).run P w=.ok b w:=by
 have:=(hT t d h).k
 cases hk:d.k <;> rw[hk]at this hb <;> simp only[TK.agg,Option.some.injEq]at hb <;> simp only[TK.fits]at this
 case arr n e=>subst hb; simp[isAgg,run_underlying this]
 case struct fs=>obtain⟨fields,this,_⟩:=this; subst hb; simp[isAgg,run_underlying this]
 case plain=>
  obtain⟨d',h1,h2⟩:=this;subst hb;simp only[isAgg,Sem.run_bind,run_underlying h1,Result.andThen_ok]
  cases d' <;> first | rfl | cases h2
 case other=>cases hb
 case map=>subst hb; simp[isAgg,run_underlying this.1]
 all_goals (subst hb; simp[isAgg,run_underlying this])
theorem Zhi {s:EV}{id off len:Nat}{m:Md}{ty:TypeId}{e:K}{xs:List e.T}{u:Value}(ho:c.heap[id]?=some (.row m ty e xs))(r:EV.rel c (.x (.one (.osl id off len))) u):
  ∃ A cap,u=.slice A len cap/\len<=cap/\(off+len<=xs.length/\xs.length<=off+cap)/\
    (cap=0∨∃ b vs,c.blk id=some b/\A=some ⟨b,off*e.sz,none⟩/\c.w.heap[b]?=some (.cells vs ty (0,0))/\(off+cap)*e.sz<=vs.size):=by
 have r':SV.rel c (.osl id off len) u:=r;simp only[SV.rel,ho]at r';exact r'
theorem Z5d {id off:Nat}{o:HObj}{u:Value}(ho:c.heap[id]?=some o)(hl:o.live)(r:EV.rel c (.x (.one (.ref id off))) u):∃ b,c.blk id=some b/\u=.pointer (some ⟨b,off,none⟩):=by
 have r':SV.rel c (.ref id off) u:=r;simp only[SV.rel,ho]at r'
 cases o with
 | pend=>exact r'.elim
 | dead=>simp[HObj.live,HObj.md?]at hl
 | box=>exact r'
 | row=>exact r'
 | mp=>exact r'.elim
theorem Zhs {id i off:Nat}{m:Md}{ty:TypeId}{e:K}{xs:List e.T}{u:Value}(ho:c.heap[id]?=some (.row m ty e xs))(r:EV.rel c (.x (.one (.eref id i off))) u):
  i<xs.length/\∃ b,c.blk id=some b/\u=.pointer (some ⟨b,i*e.sz+off,none⟩):=by
 have r':SV.rel c (.eref id i off) u:=r;simp only[SV.rel,ho]at r';exact r'
theorem Zaj {id:Nat}{m:Md}{ty:TypeId}{e:K}{xs:List e.T}{b:Nat}(ho:c.heap[id]?=some (.row m ty e xs))(hb:c.blk id=some b):
  xs.length<=maxN/\∃ vs f re,c.w.heap[b]?=some (.cells vs ty (0,0))/\vs.toList=f++re/\Rows (e.rep c.w c.ok) xs f:=by
 obtain⟨h1,h2⟩:=hi.objs id _ ho;refine⟨h1,?_⟩;rcases h2 with⟨h2,_⟩ | ⟨b',vs,f,re,h3,h4,h5,h6⟩
 ·rw[hb]at h2; cases h2
 ·rw[hb]at h3; cases h3; exact⟨vs,f,re,h4,h5,h6⟩
theorem Z1k0 {id:Nat}{m:Md}{ty:TypeId}{cs:List SV}{b:Nat}(ho:c.heap[id]?=some (.box m ty cs))(hb:c.blk id=some b):
  ∃ vs,c.w.heap[b]?=some (.cells vs ty (0,0))/\All2 (SV.rel c) cs vs.toList:=by
 obtain⟨b',vs,h3,h4,h5⟩:=hi.objs id _ ho;rw[hb]at h3; cases h3; exact⟨vs,h4,h5⟩
theorem Z1k1 {id len:Nat}{m:Md}{ty:TypeId}{cs:List SV}{u:Value}(ho:c.heap[id]?=some (.box m ty cs))(r:EV.rel c (.x (.one (.bsl id len))) u):
  len<=cs.length/\∃ b,c.blk id=some b/\u=.slice (some ⟨b,0,none⟩) len len:=by
 have r':SV.rel c (.bsl id len) u:=r;simp only[SV.rel,ho]at r';exact r'
theorem Z1o0 {t ty:TypeId}{v:EV}{u:Value}(h:(Zjm cx c.heap t v).wp k)(r:v.rel c u):Runs P c (Builtin.len_ #[t] ty #[u]) k:=by
 unfold Zjm at h;split at h
 ·rename_i e sz by_ z kd ht;have hf:P.underlying t=some (.slice e):=(hT t _ ht).k;have run:∀ A n cp,(Builtin.len_ #[t] ty #[.slice A n cp]).run P c.w=.ok (goInt n) c.w:=λA n cp=>by simp[Builtin.len_,run_underlying hf]
  split at h
  ·rename_i ek xs;obtain⟨A,cap,e1,_⟩:=r;obtain rfl:=(List.cons.inj e1).1;exact Z3z hi (run _ _ _) h
  ·rename_i id off len;split at h
   ·rename_i m ty' e' xs ho;obtain⟨A,cap,rfl,_⟩:=Zhi (s:=.junk) hT hi ho r;exact Z3z hi (run _ _ _) h
   ·exact h.elim
  ·rename_i id len;split at h
   ·rename_i m ty' cs ho;obtain⟨_,b,_,rfl⟩:=Z1k1 hT hi ho r;exact Z3z hi (run _ _ _) h
   ·exact h.elim
  ·obtain⟨A,rfl⟩:=(r:SV.rel c .void u);exact Z3z hi (run _ _ _) h
  ·rename_i u';have hu:u=u':=r;subst hu;split at h
   ·rename_i hn;rw[Z5z hn];exact Z3z hi (run _ _ _) h
   ·exact h.elim
  ·exact h.elim
 ·rename_i n e sz by_ z kd ht;have hf:P.underlying t=some (.array n e):=(hT t _ ht).k;refine Z3z hi ?_ h
  cases u <;> simp[Builtin.len_,run_underlying hf,goInt]
 ·exact h.elim
theorem Z1be {v:EV}{i:Nat}{u:Value}(h:(Zem v i).wp k)(r:v.rel c u):Runs P c (Instr.extract u i) k:=by
 unfold Zem at h;split at h
 ·rename_i vs;split at h
  ·rename_i x hx;obtain⟨us,rfl,ha⟩:=r;obtain⟨v,hv,hr⟩:=ha.get i x hx;refine Runs.pure hi ?_ h (show EV.rel c (.x x) v from hr);have:us[i]?=some v:=by simpa using hv
   simp[Instr.extract,this]
  ·exact h.elim
 ·exact h.elim
theorem Z114 {t:TypeId}{x i:EV}{u ui:Value}(h:(Z57 cx c.heap t x i).wp k)(r:x.rel c u)(ri:i.rel c ui):Runs P c (Instr.indexAt t u ui) k:=by
 unfold Z57 at h;split at h
 ·rename_i ik n e sz by_ z kd ht;have hu:ui=.int ik n:=ri;subst hu;have hf:P.underlying t=some (.slice e):=(hT t _ ht).k;split at h
  ·rename_i ed ek xs he;split at h
   ·rename_i hsz;obtain⟨⟨h0,h1⟩,h⟩:=h;have hlt:n.toNat<List.length (α:=ek.T) xs:=by omega
    have r2:K.rep c.w c.ok (.slice ek) xs [u]:=r;have r3:=r2;obtain⟨A,cap,e1,_⟩:=r2;obtain rfl:=(List.cons.inj e1).1;obtain⟨_,b,off,rfl,hp⟩:=Z1ro r3 hlt;refine Runs.pure hi ?_ h (show K.rep c.w c.ok (.ptr ek) _ [_]from hp);have hs:=Z31 hT hi he c.w;simp[Instr.indexAt,run_underlying hf,asIntOf,h0,h1,hs,hsz,Addr.add_none]
   ·exact h.elim
  ·rename_i ed id off len he;split at h
   ·rename_i m ty ek xs ho;split at h
    ·rename_i hsz;obtain⟨⟨h0,h1⟩,h⟩:=h;obtain⟨A,cap,rfl,hc,hl,hr⟩:=Zhi (s:=.junk) hT hi ho r;rcases hr with hr | ⟨b,vs,hb,rfl,hv,hvs⟩
     ·omega
     ·have hs:=Z31 hT hi he c.w;refine Runs.pure (v:=.pointer (some ⟨b,(off+n.toNat)*ek.sz+0,none⟩)) hi ?_ h ?_
      ·simp[Instr.indexAt,run_underlying hf,asIntOf,h0,h1,hs,hsz,Addr.add_none,Nat.add_mul]
      ·show SV.rel c (.eref id (off+n.toNat) 0) _;simp only[SV.rel,ho];exact⟨by omega,b,hb,rfl⟩
    ·exact h.elim
   ·exact h.elim
  ·rename_i ed id len he;split at h
   ·rename_i m ty cs ho;split at h
    ·rename_i hsz;obtain⟨⟨h0,h1⟩,h⟩:=h;obtain⟨hl,b,hb,rfl⟩:=Z1k1 hT hi ho r;have hs:=Z31 hT hi he c.w;refine Runs.pure (v:=.pointer (some ⟨b,n.toNat,none⟩)) hi ?_ h ?_
     ·simp[Instr.indexAt,run_underlying hf,asIntOf,h0,h1,hs,hsz,Addr.add_none]
     ·show SV.rel c (.ref id n.toNat) _;simp only[SV.rel,ho];exact⟨b,hb,rfl⟩
    ·exact h.elim
   ·exact h.elim
  ·exact h.elim
 ·rename_i ik n m e sz by_ z kd ht;have hu:ui=.int ik n:=ri;subst hu;have hf:P.underlying t=some (.array m e):=(hT t _ ht).k;split at h
  ·rename_i ed id he;split at h
   ·rename_i md ty ek xs ho;split at h
    ·rename_i hsz;obtain⟨⟨h0,h1,h2⟩,h⟩:=h;obtain⟨b,hb,rfl⟩:=Z5d hT hi ho rfl r;have hs:=Z31 hT hi he c.w;refine Runs.pure (v:=.pointer (some ⟨b,n.toNat*ek.sz+0,none⟩)) hi ?_ h ?_
     ·simp[Instr.indexAt,Instr.sureAddr,run_underlying hf,asIntOf,h0,h1,hs,hsz,Addr.add_none]
     ·show SV.rel c (.eref id n.toNat 0) _;simp only[SV.rel,ho];exact⟨by omega,b,hb,rfl⟩
    ·exact h.elim
   ·exact h.elim
  ·rename_i ed id q off he;split at h
   ·rename_i md ty ek xs ho;obtain⟨⟨h0,h1⟩,h⟩:=h;obtain⟨hl,b,hb,rfl⟩:=Zhs hT hi ho r;have hs:=Z31 hT hi he c.w;refine Runs.pure (v:=.pointer (some ⟨b,q*ek.sz+(off+n.toNat*ed.sz),none⟩)) hi ?_ h ?_
    ·simp[Instr.indexAt,Instr.sureAddr,run_underlying hf,asIntOf,h0,h1,hs,Addr.add_none,Nat.add_assoc]
    ·show SV.rel c (.eref id q (off+n.toNat*ed.sz)) _;simp only[SV.rel,ho];exact⟨hl,b,hb,rfl⟩
   ·exact h.elim
  ·rename_i ed m' ek xs he;split at h
   ·rename_i hsz;obtain⟨hsz,rfl⟩:=hsz;obtain⟨⟨h0,h1⟩,h⟩:=h;rcases(r:K.rep c.w c.ok (.ptr (.arr m ek)) (some xs) [u])with⟨h2,_⟩ | ⟨y,b,off,vs,h2,h3,hb,hy,hat⟩
    ·cases h2
    ·cases h2
     obtain⟨hl,hrows⟩:=hy;obtain rfl:=(List.cons.inj h3).1;have hs:=Z31 hT hi he c.w;have hlt:n.toNat<List.length (α:=ek.T) xs:=by omega
     refine Runs.pure (v:=.pointer (some ⟨b,off+n.toNat*ek.sz,none⟩)) hi ?_ h ?_
     ·simp[Instr.indexAt,Instr.sureAddr,run_underlying hf,asIntOf,h0,h1,hs,hsz,Addr.add_none]
     ·exact .inr ⟨_,b,_,_,rfl,rfl,hb,Rows.get (λy cs=>K.rep_len ek y cs) hrows n.toNat _ (Z16d hlt),hat.sub _ _⟩
   ·exact h.elim
  ·exact h.elim
 ·exact h.elim
theorem Z115 {t:TypeId}{x:EV}{f:Nat}{u:Value}(h:(Z58 cx c.heap t x f).wp k)(r:x.rel c u):Runs P c (Instr.fieldAt t u f) k:=by
 unfold Z58 at h;split at h
 ·rename_i fs sz by_ z kd ht;obtain⟨fields,hf,hfs⟩:=(hT t _ ht).k;split at h
  ·rename_i off ft hfld
   have:∃ fld,fields[f]?=some fld/\fld.offset=off/\fld.type=ft:=by
    rw[<- hfs]at hfld;simp only[List.getElem?_map,Array.getElem?_toList,Option.map_eq_some_iff,Prod.mk.injEq]at hfld;obtain⟨fld,h1,h2,h3⟩:=hfld;exact⟨fld,h1,h2,h3⟩
   obtain⟨fld,hfl,rfl,rfl⟩:=this;split at h
   ·rename_i fd hfd;split at h
    ·exact h.elim
    ·rename_i hz;have hs:=Z31 hT hi hfd c.w
     have run:∀ b o,(Instr.fieldAt t (.pointer (some ⟨b,o,none⟩)) f).run P c.w=.ok (.pointer (some ⟨b,o+fld.offset,none⟩)) c.w:=by
      intro b o;simp[Instr.fieldAt,run_underlying hf,hfl,Instr.sureAddr,fieldPlace,hs,hz,Addr.add_none]
     split at h
     ·rename_i id o;split at h
      ·rename_i m ty cs ho;obtain⟨b,hb,rfl⟩:=Z5d hT hi ho rfl r;refine Runs.pure hi (run b o) h ?_;show SV.rel c (.ref id (o+fld.offset)) _;simp only[SV.rel,ho];exact⟨b,hb,rfl⟩
      ·exact h.elim
     ·rename_i id i o;split at h
      ·rename_i m ty e xs ho;obtain⟨hlt,b,hb,rfl⟩:=Zhs hT hi ho r;refine Runs.pure (v:=.pointer (some ⟨b,i*e.sz+(o+fld.offset),none⟩)) hi (by rw[run,Nat.add_assoc]) h ?_;show SV.rel c (.eref id i (o+fld.offset)) _;simp only[SV.rel,ho];exact⟨hlt,b,hb,rfl⟩
      ·exact h.elim
     ·rename_i kd' y;split at h
      ·rename_i fk hfk;split at h
       ·rename_i zz hsub;rcases(r:K.rep c.w c.ok (.ptr kd') (some y) [u])with⟨h2,_⟩ | ⟨y',b,o,vs,h2,h3,hb,hy,hat⟩
        ·cases h2
        ·cases h2
         obtain rfl:=(List.cons.inj h3).1;obtain⟨_,hrep⟩:=K.sub_rep kd' fld.offset y zz vs hsub hy;refine Runs.pure hi (run b o) h ?_;exact .inr ⟨zz,b,o+fld.offset,_,rfl,rfl,hb,hrep,hat.sub _ _⟩
       ·exact h.elim
      ·exact h.elim
     ·exact h.elim
   ·exact h.elim
  ·exact h.elim
 ·exact h.elim
theorem Zd5 {t:TypeId}{d:TD}(ht:cx.tab t=some d){b off:Nat}{vs:List Value}(hat:At c.w b off vs)(hl:vs.length=d.sz):
  (d.k.agg=some true->(loadVar t ⟨b,off,none⟩).run P c.w=.ok (.agg vs.toArray) c.w)/\(d.k.agg=some false->∀ v,vs=[v]->(loadVar t ⟨b,off,none⟩).run P c.w=.ok v c.w):=by
 constructor
 ·intro ha;have h1:=Zeo hT hi ht ha c.w;have h2:=Z31 hT hi ht c.w;have h3:=run_loadCells_list (P:=P) c.w ⟨b,off,none⟩ vs (λj v hv=>by rw[Addr.add_none]; exact hat j v hv);rw[hl]at h3;simp only[loadVar,Sem.run_bind,h1,Result.andThen_ok,if_true,h2,h3,Sem.run_pure]
 ·intro ha v hv;subst hv;have h1:=Zeo hT hi ht ha c.w;have h3:c.w.cell? ⟨b,off,none⟩=some v:=hat 0 v rfl;simp only[loadVar,Sem.run_bind,h1,Result.andThen_ok,Bool.false_eq_true,if_false,run_load,h3]
def Za3(P:Program)(c:RC)(s:Sem Value)(k:EV->List (Nat × HObj)->Prop):Prop:=∃ v ev,s.run P c.w=.ok v c.w/\k ev []/\ev.rel c v
omit hT hi in
theorem Za3.pure {v:Value}{s:Sem Value}(h:s.run P c.w=.ok v c.w){ev:EV}(hk:k ev [])(hr:ev.rel c v):Za3 P c s k:=⟨v,ev,h,hk,hr⟩
omit hT in
theorem Za3.runs {s:Sem Value}(h:Za3 P c s k):Runs P c s k:=by
 obtain⟨v,ev,h1,h2,h3⟩:=h;exact Runs.pure hi h1 h2 h3
theorem Z196 {t:TypeId}{d:TD}(ht:cx.tab t=some d){b off:Nat}{kd:K}{y:kd.T}{vs:List Value}(hat:At c.w b off vs)(hy:kd.rep c.w c.ok y vs)(hs:d.sz=kd.sz)(ha:d.k.agg=some kd.agg)
  (h:(Res.ret (.x (XV.ofData kd y)) []).wp k)   : Za3 P c (Instr.loadAt t (.pointer (some ⟨b,off,none⟩))) k:=by
 have hl:=K.rep_len kd y vs hy;obtain⟨r1,r2⟩:=Zd5 hT hi ht hat (by rw[hl,hs])
 cases hag:kd.agg with
 | true=>
  rw[hag]at ha;refine Za3.pure (by simpa [Instr.loadAt,Instr.sureAddr]using r1 ha) h ?_;exact XV.ofData_rel (by unfold KRep; rw[if_pos hag]; exact⟨_,rfl,by simpa using hy⟩)
 | false=>
  rw[hag]at ha;have h1:=K.one_of hag;rw[h1]at hl
  obtain⟨v,rfl⟩:∃ v,vs=[v]:=by
   cases vs with
   | nil=>simp at hl
   | cons v vs=>cases vs with
    | nil=>exact⟨v,rfl⟩
    | cons _ _=>simp at hl
  refine Za3.pure (by simpa [Instr.loadAt,Instr.sureAddr]using r2 ha v rfl) h ?_;exact XV.ofData_rel (by unfold KRep; rw[hag]; exact hy)
theorem Z1rp {id:Nat}{m:Md}{ty:TypeId}{e:K}{xs:List e.T}{b i:Nat}(ho:c.heap[id]?=some (.row m ty e xs))(hb:c.blk id=some b)(hlt:i<xs.length):
  ∃ vs,e.rep c.w c.ok (xs.getD i e.dflt) vs/\At c.w b (i*e.sz) vs:=by
 obtain⟨_,vs,f,re,h1,h2,h3⟩:=Zaj hT hi ho hb;refine⟨_,Rows.get (λy cs=>K.rep_len e y cs) h3 i _ (Z16d hlt),?_⟩
 have hat:At c.w b 0 f:=At.row h1 (λj v hj=>by
  rw[h2,Nat.zero_add,List.getElem?_append_left]
  ·exact hj
  ·rcases Nat.lt_or_ge j f.length with h' | h'
   ·exact h'
   ·rw[List.getElem?_eq_none h']at hj; cases hj)
 simpa using hat.sub (i*e.sz) e.sz
theorem Zxy {t:TypeId}{x:EV}{u:Value}(h:(Z9s cx c.heap t x).wp k)(r:x.rel c u)   : Za3 P c (Instr.loadAt t u) k:=by
 unfold Z9s at h;split at h
 ·rename_i td ht;split at h
  ·rename_i kd y;split at h
   ·rename_i hq;rcases(r:K.rep c.w c.ok (.ptr kd) (some y) [u])with⟨h2,_⟩ | ⟨y',b,o,vs,h2,h3,hb,hy,hat⟩
    ·cases h2
    ·cases h2
     obtain rfl:=(List.cons.inj h3).1;exact Z196 hT hi ht hat hy hq.1 hq.2 h
   ·exact h.elim
  ·rename_i id i off;split at h
   ·rename_i m ty e xs ho;split at h
    ·rename_i kd hk;split at h
     ·rename_i zz hsub;obtain⟨hlt,b,hb,rfl⟩:=Zhs hT hi ho r;obtain⟨vs,hy,hat⟩:=Z1rp hT hi ho hb hlt;obtain⟨_,hz⟩:=K.sub_rep e off _ zz vs hsub hy;obtain⟨k1,k2,_⟩:=(hT t td ht).kind kd hk;exact Z196 hT hi ht (hat.sub off kd.sz) hz k1.symm k2 h
     ·exact h.elim
    ·exact h.elim
   ·exact h.elim
  ·rename_i id off;split at h
   ·rename_i m ty cs ho;obtain⟨b,hb,rfl⟩:=Z5d hT hi ho rfl r;obtain⟨vs,hv,ha⟩:=Z1k0 hT hi ho hb;split at h
    ·rename_i hag;split at h
     ·rename_i s hs;obtain⟨v,hv1,hr⟩:=ha.get off s hs
      have hc:c.w.cell? ⟨b,off,none⟩=some v:=by
       simp only[World.cell?,hv,Option.isSome_none];simpa using hv1
      have h1:=Zeo hT hi ht hag c.w;refine Za3.pure (v:=v) ?_ h (show SV.rel c s v from hr);simp only[Instr.loadAt,Instr.sureAddr,Sem.run_bind,Sem.run_pure,Result.andThen_ok,loadVar,h1,Bool.false_eq_true,if_false,run_load,hc]
     ·exact h.elim
    ·rename_i hag;split at h
     ·rename_i hle;have hlen:=ha.len
      have hat:At c.w b off ((vs.toList.drop off).take td.sz):=by
       have:At c.w b 0 vs.toList:=At.row hv (λj v hj=>by simpa using hj);simpa using this.sub off td.sz
      obtain⟨r1,_⟩:=Zd5 hT hi ht hat (by rw[List.length_take,List.length_drop]; omega);refine Za3.pure (by simpa [Instr.loadAt,Instr.sureAddr]using r1 hag) h ?_;exact⟨_,rfl,by simpa using(ha.drop off).take td.sz⟩
     ·exact h.elim
    ·exact h.elim
   ·rename_i m ty e xs ho;obtain⟨b,hb,rfl⟩:=Z5d hT hi ho rfl r;obtain⟨_,vs,f,re,h1,h2,h3⟩:=Zaj hT hi ho hb;split at h
    ·rename_i n e' hk;split at h
     ·rename_i hq;obtain⟨rfl,hsz⟩:=hq;obtain⟨hn,h⟩:=h;have hfl:=Rows.len (λy cs=>K.rep_len e y cs) h3
      have hat:At c.w b 0 f:=At.row h1 (λj v hj=>by
       rw[h2,Nat.zero_add,List.getElem?_append_left]
       ·exact hj
       ·rcases Nat.lt_or_ge j f.length with h' | h'
        ·exact h'
        ·rw[List.getElem?_eq_none h']at hj; cases hj)
      obtain⟨r1,_⟩:=Zd5 hT hi ht hat (by rw[hfl,hn,hsz]);refine Za3.pure (by simpa [Instr.loadAt,Instr.sureAddr]using r1 (by rw[hk]; rfl)) h ?_;exact⟨_,rfl,hn,by simpa using h3⟩
     ·exact h.elim
    ·exact h.elim
   ·exact h.elim
  ·exact h.elim
 ·exact h.elim
theorem Z1lg {t:TypeId}{x:EV}{u:Value}(h:(Z9s cx c.heap t x).wp k)(r:x.rel c u):Runs P c (Instr.loadAt t u) k:=Za3.runs hi (Zxy hT hi h r)
def Zjo(P:Program)(c:RC)(s:Sem Unit)(k:EV->List (Nat × HObj)->Prop):Prop:=∃ w',s.run P c.w=.ok () w'/\Done c k undef w'
theorem Zoq {w:World}{ok:Nat->Prop}:∀(kd:K)(x:kd.T)(cs:List Value),kd.rep w ok x cs->∀ v ∈ cs,v.oneCell'=true:=by
 intro kd
 induction kd with
 | unit=>intro x cs h v hv; rw[show cs=[]from h]at hv; cases hv
 | pair a b iha ihb=>
  intro x cs h v hv;obtain⟨c1,c2,rfl,h1,h2⟩:=h;rcases List.mem_append.1 hv with h' | h'
  ·exact iha _ _ h1 v h'
  ·exact ihb _ _ h2 v h'
 | arr n e ih=>
  intro x cs h v hv;exact Rows.every (p:=λv=>v.oneCell'=true) (λy cs hy v hv=>ih y cs hy v hv) h.2 v hv
 | int ik=>intro x cs h v hv; rw[show cs=_ from h]at hv; simp at hv; subst hv; rfl
 | bool=>intro x cs h v hv; rw[show cs=_ from h]at hv; simp at hv; subst hv; rfl
 | flt fk=>intro x cs h v hv; rw[show cs=_ from h]at hv; simp at hv; subst hv; rfl
 | slice e _=>intro x cs h v hv; obtain⟨A,cap,rfl,_⟩:=h; simp at hv; subst hv; rfl
 | ptr e _=>intro x cs h v hv; rcases h with⟨_,rfl⟩ | ⟨_,_,_,_,_,rfl,_⟩ <;> (simp at hv; subst hv; rfl)
 | map a b _ _=>intro x cs h v hv; rcases h with⟨_,rfl⟩ | ⟨_,_,_,rfl,_⟩ <;> (simp at hv; subst hv; rfl)
 | ent a b _ _=>intro x cs h; exact h.elim
theorem Zlp {hh:List HObj}{p:Nat->Prop}(T:Tak c hh p){xv:XV}{kd:K}{y:kd.T}{u:Value}(h:xv.take hh kd=some y)(r:xv.rel c u):kd.rep c.w p y u.cells.toList/\(∀ v ∈ u.cells.toList,v.oneCell'=true)/\u.cells.size=kd.sz:=by
 have hk:=XV.take_repT hi T h r;unfold KRep at hk;split at hk
 ·obtain⟨vs,rfl,hr⟩:=hk;exact⟨hr,Zoq hT hi kd y _ hr,by simpa [Value.cells]using K.rep_len kd y _ hr⟩
 ·rename_i hq;have h1:=K.one_cell (by simpa using hq) hk;rw[Zbc h1];exact⟨hk,Zoq hT hi kd y _ hk,(K.one_of (by simpa using hq)).symm⟩
theorem Zor {xv:XV}{kd:K}{y:kd.T}{u:Value}(h:xv.take c.heap kd=some y)(r:xv.rel c u):kd.rep c.w c.all y u.cells.toList/\(∀ v ∈ u.cells.toList,v.oneCell'=true)/\u.cells.size=kd.sz:=Zlp hT hi (Tak.all c) h r
theorem Zht {t:TypeId}{d:TD}(ht:cx.tab t=some d){b off:Nat}{ty:TypeId}{vs:Array Value}{u:Value}(hv:c.w.heap[b]?=some (.cells vs ty (0,0)))(hu:∀ v ∈ u.cells.toList,v.oneCell'=true)
  (hs:u.cells.size=d.sz) (hl:off+d.sz<=vs.size):∃ w',(Instr.storeAt t (.pointer (some ⟨b,off,none⟩)) u).run P c.w=.ok () w'/\Wrote c.w w' b ty (Z6l vs.toList off u.cells.toList).toArray:=by
 obtain⟨w',h1,h2⟩:=Zd4 (P:=P) u.cells.toList c.w b off 0 ty vs hv hu (by simp only[Array.length_toList]; omega);refine⟨w',?_,by simpa using h2⟩;have h3:=Z31 hT hi ht c.w;simp only[Instr.storeAt,Instr.sureAddr,Sem.run_bind,Sem.run_pure,Result.andThen_ok,storeVar,h3];rw[if_neg (by simp[hs])];simpa using h1
theorem Zos {w':World}{id b:Nat}{o o':HObj}{t:TypeId}{vs vs':Array Value}(ho:c.heap[id]?=some o)(hm:o.md?=some .rw)(hb:c.blk id=some b)
  (hv:c.w.heap[b]?=some (.cells vs t (0,0))) (hw:Wrote c.w w' b t vs') (hs:vs'.size=vs.size) (hev:o.ev o') (hm':o'.md?=some .rw)
  (hr:Ext c {c with w:=w',heap:=c.heap.set id o' }->o'.rel {c with w:=w',heap:=c.heap.set id o' } id) (hk:k (.tup []) [(id,o')]):Done c k undef w':=by
 have he:=Ext.store ho hm hb hv hw hs hev hm';exact⟨.tup [],[(id,o')],_,hk,rfl,rfl,he,RC.Inv.store hi ho hm hb hv hw hs hev hm' (hr he),⟨#[],rfl,.nil⟩⟩
theorem Rows.split {α:Type}{R:α->List Value->Prop}{s:Nat}(hR:∀ x cs,R x cs->cs.length=s){xs:List α}{f re:List Value}(h:Rows R xs f){i:Nat}(hlt:i<xs.length):i*s+s<=f.length:=by
 rw[Rows.len hR h];have:(i+1)*s<=xs.length*s:=Nat.mul_le_mul_right _ hlt;rw[Nat.add_mul,Nat.one_mul]at this;exact this
theorem Z116 {td:TD}{t:TypeId}(ht:cx.tab t=some td){id i:Nat}{ty:TypeId}{e:K}{xs:List e.T}(ho:c.heap[id]?=some (.row .rw ty e xs))(hsz:td.sz=e.sz){u uv:Value}(r:(EV.x (.one (.eref id i 0))).rel c u)
  {y:e.T} (hrep:e.rep c.w c.ok y uv.cells.toList) (hones:∀ v ∈ uv.cells.toList,v.oneCell'=true) (hcs:uv.cells.size=e.sz) (h:k (.tup []) [(id,.row .rw ty e (List.set xs i y))]):Zjo P c (Instr.storeAt t u uv) k:=by
 obtain⟨hlt,b,hb,rfl⟩:=Zhs hT hi ho r;obtain⟨hmx,vs,f,re,h1,h2,h3⟩:=Zaj hT hi ho hb;have hR:∀(y:e.T) cs,K.rep c.w c.ok e y cs->cs.length=e.sz:=λy cs=>K.rep_len e y cs;have hin:=Rows.split hT hi (re:=re) hR h3 hlt;have hvl:vs.toList.length=f.length+re.length:=by rw[h2,List.length_append]
 obtain⟨w',hrun,hw⟩:=Zht hT hi ht (off:=i*e.sz) h1 hones (by omega) (by simp only[Array.length_toList]at hvl; omega);refine⟨w',by simpa using hrun,Zos hT hi ho rfl hb h1 hw ?_ (.inr ⟨.rw,_,rfl,by simp,.inl rfl⟩) rfl (λhe=>?_) h⟩
 ·simp only[List.size_toArray];rw[Zjl (by simp only[Array.length_toList]at hvl ⊢; omega)];simp
 ·refine⟨by simpa using hmx,.inr ⟨b,_,_,re,hb,hw.there,?_,Rows.set (λy cs=>K.rep_len e y cs) (K.rep_mono he.ok e y _ hrep) (Rows.mono (λy cs hh=>K.rep_mono he.ok e y cs hh) h3) i hlt⟩⟩;have hl:uv.cells.toList.length=e.sz:=by simpa using hcs
  simp only[Z6l,h2,hl];rw[List.take_append_of_le_length (by omega),List.drop_append_of_le_length (by omega)];simp
end
theorem Zjo.frozen {P:Program}{c:RC}(hi:c.Inv){k:EV->List (Nat × HObj)->Prop}{us:List (Nat × HObj)}(hu:FzU c.heap us){s:Sem Unit}(h:Zjo P {c with heap:=applyU c.heap us} s (λev u2=>k ev (us++u2))):Zjo P c s k:=by
 obtain⟨w',h1,h2⟩:=h;exact⟨w',h1,Done.frozen hi hu h2⟩
theorem Runs.frozen {P:Program}{c:RC}(hi:c.Inv){k:EV->List (Nat × HObj)->Prop}{us:List (Nat × HObj)}(hu:FzU c.heap us){s:Sem Value}(h:Runs P {c with heap:=applyU c.heap us} s (λev u2=>k ev (us++u2))):Runs P c s k:=by
 obtain⟨v,w',h1,h2⟩:=h;exact⟨v,w',h1,Done.frozen hi hu h2⟩
section
variable {P:Program} {cx:Cx} (hT:∀ t d,cx.tab t=some d->d.Fits P t) {c:RC} (hi:c.Inv) {k:EV->List (Nat × HObj)->Prop}
include hT hi
theorem Z1ia {t:TypeId}{x v:EV}{u uv:Value}(h:(Z6q cx c.heap t x v).wp k)(r:x.rel c u)(rv:v.rel c uv):Zjo P c (Instr.storeAt t u uv) k:=by
 unfold Z6q at h;split at h
 ·rename_i td xv ht;have rv':xv.rel c uv:=rv;split at h
  ·rename_i id i;split at h
   ·rename_i ty e xs ho;split at h
    ·rename_i hsz;split at h
     ·rename_i hfl;split at h
      ·rename_i y hy;obtain⟨hrep,hones,hcs⟩:=Zor hT hi hy rv';exact Z116 hT hi ht ho hsz r (K.rep_flat e y _ hfl hrep) hones hcs h
      ·exact h.elim
     ·split at h
      ·exact h.elim
      ·rename_i hno;split at h
       ·rename_i y hy;have hu:=XV.fz_ok (h:=c.heap) xv;obtain⟨E,I⟩:=Frz.ext hi (hu.frz (Frz.refl _));obtain⟨hrep,hones,hcs⟩:=Zlp hT I (Tak.frozen I) hy (XV.rel_mono E rv');refine Zjo.frozen hi hu ?_;refine Z116 hT I ht (id:=id) (i:=i) ?_ hsz (EV.rel_mono E r) hrep hones hcs h;exact(Z78 _ _ _ (Z1rn (by simpa using hno))).trans ho
       ·exact h.elim
    ·exact h.elim
   ·exact h.elim
  ·rename_i id off;split at h
   ·rename_i ty cs ho;split at h
    ·rename_i us hus;split at h
     ·rename_i hq;obtain⟨hsz,hle⟩:=hq;obtain⟨b,hb,rfl⟩:=Z5d hT hi ho rfl r;obtain⟨vs,h1,ha⟩:=Z1k0 hT hi ho hb;obtain⟨hall,hones⟩:=XV.cells_rel hus rv';have hlen:=ha.len;have hl2:=hall.len;simp only[Array.length_toList]at hlen hl2;obtain⟨w',hrun,hw⟩:=Zht hT hi ht (off:=off) h1 hones (by omega) (by omega);refine⟨w',hrun,Zos hT hi ho rfl hb h1 hw ?_ (.inr ⟨.rw,_,rfl,by simp; omega,.inl rfl⟩) rfl (λhe=>?_) h⟩
      ·simp only[List.size_toArray];rw[Zjl (by simp only[Array.length_toList]; omega)];simp
      ·refine⟨b,_,hb,hw.there,?_⟩;have e1:uv.cells.toList.length=us.length:=by simp only[Array.length_toList]; omega
       simp only[Z6l,e1];exact((ha.take off).append hall |>.append (ha.drop _)).mono λ_ _=>SV.rel_mono he
     ·exact h.elim
    ·exact h.elim
   ·rename_i ty e xs ho;split at h
    ·rename_i n e' hk;split at h
     ·rename_i hq;obtain⟨rfl,hsz,hfl⟩:=hq;split at h
      ·rename_i ys hys;obtain⟨⟨hx,hyl⟩,h⟩:=h;obtain⟨b,hb,rfl⟩:=Z5d hT hi ho rfl r;obtain⟨hmx,vs,f,re,h1,h2,h3⟩:=Zaj hT hi ho hb;obtain⟨hrep,hones,hcs⟩:=Zor hT hi hys rv';have hfl':=Rows.len (λy cs=>K.rep_len e y cs) h3;have hvl:vs.toList.length=f.length+re.length:=by rw[h2,List.length_append]
       simp only[Array.length_toList]at hvl;have hcs':uv.cells.size=n*e.sz:=hcs;have hfn:f.length=n*e.sz:=by rw[hfl',hx]
       obtain⟨w',hrun,hw⟩:=Zht hT hi ht (off:=0) h1 hones (by rw[hcs',hsz]) (by omega);refine⟨w',hrun,Zos hT hi ho rfl hb h1 hw ?_ (.inr ⟨.rw,_,rfl,by rw[hx]; exact hyl,.inl rfl⟩) rfl (λhe=>?_) h⟩
       ·simp only[List.size_toArray];rw[Zjl (by simp only[Array.length_toList]; omega)];simp
       ·refine⟨by rw[hyl,<- hx]; exact hmx,.inr ⟨b,_,uv.cells.toList,re,hb,hw.there,?_,Rows.mono (λy cs hh=>K.rep_flat e y cs hfl hh) hrep.2⟩⟩;have e1:uv.cells.toList.length=f.length:=by simp only[Array.length_toList]; omega
        simp only[Z6l,h2,e1];simp
      ·exact h.elim
     ·exact h.elim
    ·exact h.elim
   ·exact h.elim
  ·exact h.elim
 ·exact h.elim
end
end
section
theorem Zxz {l:List Value}{s:Nat}(hl:l.length=s)(hs:0<s):∀(m i:Nat),i<m*s->(List.replicate m l).flatten[i]?=l[i % s]?
 | 0,i,h=>by omega
 | m+1,i,h=>by
  rw[List.replicate_succ,List.flatten_cons];by_cases hi:i<s
  ·rw[List.getElem?_append_left (by omega),Nat.mod_eq_of_lt hi]
  ·rw[List.getElem?_append_right (by omega),hl,Zxz hl hs m (i - s) (by rw[Nat.add_mul,Nat.one_mul]at h; omega)];congr 1;rw[Nat.mod_eq_sub_mod (by omega:i>=s)]
theorem Z1ib {l:List Value}(m:Nat):(List.replicate m l).flatten.length=m*l.length:=by
 induction m with
 | zero=>simp
 | succ m ih=>rw[List.replicate_succ,List.flatten_cons,List.length_append,ih,Nat.add_mul]; omega
theorem Z1o1(z:Array Value)(m s:Nat)(hz:z.size=s)(hs:0<s):(madeCells z (m*s)).toList=(List.replicate m z.toList).flatten:=by
 apply List.ext_getElem?;intro i;by_cases hi:i<m*s
 ·rw[Zxz (s:=s) (by simpa using hz) hs m i hi];have hlt:i % s<z.size:=by rw[hz]; exact Nat.mod_lt _ hs
  simp only[madeCells,Array.toList_map,Array.toList_range,List.getElem?_map];rw[List.getElem?_range hi];simp only[Option.map_some,hz];rw[getElem!_pos z (i % s) hlt,Array.getElem?_toList,Array.getElem?_eq_getElem hlt]
 ·rw[List.getElem?_eq_none,List.getElem?_eq_none]
  ·rw[Z1ib]; simp only[Array.length_toList,hz]; omega
  ·simp[madeCells]; omega
theorem All2.vals(c:RC):∀ l:List Value,All2 (SV.rel c) (l.map .val) l
 | []=>.nil
 | _ :: l=>.cons rfl (All2.vals c l)
section
variable {P:Program} {cx:Cx} (hT:∀ t d,cx.tab t=some d->d.Fits P t) {c:RC} (hi:c.Inv) {k:EV->List (Nat × HObj)->Prop} {tgt:Nat} (hp:c.heap[tgt]?=some .pend)
include hT hi hp
theorem Z7e {w0:World}(hg:Grows c.w w0){t:TypeId}{vs:Array Value}{o:HObj}{ev:EV}{v:Value}
  (hr:Ext c (c.put (w0.alloc (.cells vs t)) tgt o (some w0.heap.size))->o.rel (c.put (w0.alloc (.cells vs t)) tgt o (some w0.heap.size)) tgt)
  (hev:ev.rel (c.put (w0.alloc (.cells vs t)) tgt o (some w0.heap.size)) v) (hk:k ev [(tgt,o)]):Done c k v (w0.alloc (.cells vs t)):=by
 have hg':Grows c.w (w0.alloc (.cells vs t)):=hg.trans (Grows.alloc _ _);have hb:∀ b,some w0.heap.size=some b->c.w.heap.size<=b:=λb e=>by cases e; exact hg.size
 have he:=Ext.put (o:=o) hg' hp hb;exact⟨ev,[(tgt,o)],_,hk,rfl,rfl,he,RC.Inv.put hi hg' hp hb (hr he),hev⟩
theorem Z7f {w':World}{o:HObj}{b:Option Nat}:(c.put w' tgt o b).heap[tgt]?=some o:=Z3p hp
theorem Z3g {w':World}{o:HObj}{b:Option Nat}:(c.put w' tgt o b).blk tgt=b:=by show upd c.blk tgt b tgt=b; simp[upd]
theorem Z1ic {t:TypeId}(h:(Zly cx t tgt).wp k):Runs P c (Instr.alloc t true (.tuple #[])) k:=by
 unfold Zly at h;split at h
 ·rename_i td ht;obtain⟨i,z,h1,h2,h3,h4,h5,h6⟩:=(hT t td ht).info
  have run:(Instr.alloc t true (.tuple #[])).run P c.w=.ok (.pointer (some ⟨c.w.heap.size,0,none⟩)) (c.w.alloc (.cells z.cells t)):=by
   simp[Instr.alloc,zeroValue,typeInfo,h1,h4,newVar,newRow]
  split at h
  ·rename_i n e hk;obtain⟨k1,k2,k3⟩:=(hT t td ht).kind _ hk;split at h
   case isFalse=>exact h.elim
   rename_i hn;refine⟨_,_,run,Z7e hT hi hp (Grows.refl _) (λhe=>?_) ?_ h⟩
   ·obtain⟨hl,hrows⟩:=k3 (c.w.alloc (.cells z.cells t)) (c.put (c.w.alloc (.cells z.cells t)) tgt (.row .rw t e (List.replicate n e.dflt)) (some c.w.heap.size)).ok;refine⟨?_,.inr ⟨_,_,z.cells.toList,[],Z3g hT hi hp,heap_alloc_new _ _,by simp,by rw[h5]; exact hrows⟩⟩;simp[maxN]; omega
   ·show SV.rel _ (.ref tgt 0) _;simp only[SV.rel,Z7f hT hi hp];exact⟨_,Z3g hT hi hp,rfl⟩
  ·refine⟨_,_,run,Z7e hT hi hp (Grows.refl _) (λhe=>?_) ?_ h⟩
   ·refine⟨_,_,Z3g hT hi hp,heap_alloc_new _ _,?_⟩;rw[h5];exact All2.vals _ _
   ·show SV.rel _ (.ref tgt 0) _;simp only[SV.rel,Z7f hT hi hp];exact⟨_,Z3g hT hi hp,rfl⟩
 ·exact h.elim
theorem Z1o2 {t:TypeId}{v:EV}{u:Value}(h:(Zjn cx c.heap t v tgt).wp k)(r:v.rel c u):Runs P c (Instr.box t u) k:=by
 unfold Zjn at h;split at h
 ·rename_i td xv ht;have r':xv.rel c u:=r
  have run:(Instr.box t u).run P c.w=.ok (.pointer (some ⟨c.w.heap.size,0,none⟩)) (c.w.alloc (.cells u.cells t)):=by
   simp[Instr.box,newVar,newRow]
  split at h
  ·rename_i n e hk;split at h
   ·rename_i hq;split at h
    ·rename_i ys hys;obtain⟨hrep,_,_⟩:=Zor hT hi hys r';obtain⟨hl,hrows⟩:=hrep;refine⟨_,_,run,Z7e hT hi hp (Grows.refl _) (λhe=>?_) ?_ h⟩
     ·refine⟨by rw[hl]; simp[maxN]; omega,.inr ⟨_,_,u.cells.toList,[],Z3g hT hi hp,heap_alloc_new _ _,by simp,Rows.mono (λy cs hh=>K.rep_flat e y cs hq.1 hh) hrows⟩⟩
     ·show SV.rel _ (.ref tgt 0) _;simp only[SV.rel,Z7f hT hi hp];exact⟨_,Z3g hT hi hp,rfl⟩
    ·exact h.elim
   ·exact h.elim
  ·split at h
   ·rename_i us hus;obtain⟨hall,_⟩:=XV.cells_rel hus r';refine⟨_,_,run,Z7e hT hi hp (Grows.refl _) (λhe=>?_) ?_ h⟩
    ·exact⟨_,_,Z3g hT hi hp,heap_alloc_new _ _,hall.mono λ_ _=>SV.rel_mono he⟩
    ·show SV.rel _ (.ref tgt 0) _;simp only[SV.rel,Z7f hT hi hp];exact⟨_,Z3g hT hi hp,rfl⟩
   ·exact h.elim
 ·exact h.elim
theorem Z117 {t:TypeId}{l cp:EV}{ul uc:Value}(h:(Z9t cx t l cp tgt).wp k)(rl:l.rel c ul)(rc:cp.rel c uc):Runs P c (Instr.makeSlice t ul uc) k:=by
 unfold Z9t at h;split at h
 ·rename_i e sz by_ z0 kd n m ht;have hl:ul=.int .i64 n:=rl;have hc:uc=.int .i64 m:=rc;subst hl hc;have hf:P.underlying t=some (.slice e):=(hT t _ ht).k;split at h
  ·rename_i ed he;obtain⟨i,z,h1,h2,h3,h4,h5,h6⟩:=(hT e ed he).info;split at h
   ·rename_i ek hk;obtain⟨k1,k2,k3⟩:=(hT e ed he).kind ek hk;split at h
    ·rename_i hq;obtain⟨⟨h0,hnm,hb⟩,h⟩:=h
     have hm:m<=281474976710656:=by
      have:m*1<=m*(ed.bytes:Int):=Int.mul_le_mul_of_nonneg_left (by omega) (by omega);omega
     have run:=run_make (P:=P) c.w t e i z hf h1 h4 .i64 .i64 n m h0 hnm (by rw[h3,Int.mul_comm]; exact hb) (by omega);have hz:z.cells.size=i.size:=by rw[h6,h2]
     have hs:0<i.size:=by omega
     refine⟨_,_,run,Z7e hT hi hp (Grows.refl _) (λhe=>?_) ?_ h⟩
     ·refine⟨?_,.inr ⟨_,_,(List.replicate n.toNat z.cells.toList).flatten,(List.replicate (m.toNat - n.toNat) z.cells.toList).flatten,Z3g hT hi hp,heap_alloc_new _ _,?_,?_⟩⟩
      ·simp[maxN]; omega
      ·rw[Z1o1 _ _ _ hz hs,<- List.flatten_append,List.replicate_append_replicate];congr 2; omega
      ·exact Rows.replicate (by rw[h5]; exact k3 _ _) _
     ·show SV.rel _ (.osl tgt 0 n.toNat) _;simp only[SV.rel,Z7f hT hi hp];refine⟨_,m.toNat,rfl,by omega,⟨by simp,by simp; omega⟩,.inr ⟨_,_,Z3g hT hi hp,by simp,heap_alloc_new _ _,?_⟩⟩;rw[size_madeCells];simp only[Nat.zero_add];rw[k1,h2]; exact Nat.le_refl _
    ·exact h.elim
   ·exact h.elim
  ·exact h.elim
 ·exact h.elim
theorem Zhu {hh:List HObj}{p:Nat->Prop}(T:Tak c hh p){kd:K}:∀ {vs:List EV}{us:List Value}{xs:List kd.T},Z7u hh kd vs=some xs->All2 (EV.rel c) vs us->
  xs.length=us.length/\(∀ v ∈ us,v.cells.size=kd.sz)/\Rows (kd.rep c.w p) xs (us.flatMap λv=>v.cells.toList)
 | [],_,xs,h,ha=>by
  cases ha
  obtain rfl:=Option.some.inj h;exact⟨rfl,λv hv=>(by cases hv),rfl⟩
 | v :: vs,_,xs,h,ha=>by
  cases ha with
  | cons h1 h2=>
   cases v with
   | tup=>cases h
   | x xv=>
    simp only[Z7u]at h;split at h
    ·rename_i y hy;split at h
     ·rename_i ys hys;obtain rfl:=Option.some.inj h;obtain⟨a1,a2,a3⟩:=Zlp hT hi T hy h1;obtain⟨b1,b2,b3⟩:=Zhu T hys h2;refine⟨by simp[b1],λv hv=>?_,⟨_,_,by rw[List.flatMap_cons],a1,b3⟩⟩
      cases hv with
      | head=>exact a3
      | tail _ hv=>exact b2 v hv
     ·cases h
    ·cases h
theorem Z1es {t e:TypeId}{n:Nat}{parts:Array (Nat × Value)}{vs:List EV}(r:All2 (EV.rel c) vs (parts.toList.map (·.2)))(hf:P.underlying t=some (.slice e)){ed:TD}(he:cx.tab e=some ed)
  (q1:parts.toList.map (·.1)=List.range n) (q2:vs.length=n) (q3:1<=ed.sz) (q4:n*ed.sz<=16777216) (a2:∀ v ∈ parts.toList.map (·.2),v.cells.size=ed.sz):
  (Instr.buildSlice t n parts).run P c.w=.ok (.slice (some ⟨c.w.heap.size,0,none⟩) n n) (c.w.alloc (.cells ((parts.toList.map (·.2)).flatMap λv=>v.cells.toList).toArray e)):=by
 obtain⟨i,z,h1,h2,h3,h4,h5,h6⟩:=(hT e ed he).info;have hvl:=r.len;have hsz:ed.sz=i.size:=by omega
 have hpl:parts.toList=((parts.toList.map (·.2)).zipIdx 0).map λx=>(x.2,x.1):=by
  apply List.ext_getElem?;intro j;simp only[List.getElem?_map,List.getElem?_zipIdx,Option.map_map];have hj:=congrArg (λl=>l[j]?) q1;simp only[List.getElem?_map]at hj
  cases hpj:parts.toList[j]? with
  | none=>rfl
  | some x=>
   rw[hpj]at hj
   have hjn:j<n:=by
    have:j<parts.toList.length:=by
     rcases Nat.lt_or_ge j parts.toList.length with h' | h'
     ·exact h'
     ·rw[List.getElem?_eq_none h']at hpj; cases hpj
    rw[List.length_map]at hvl;omega
   rw[List.getElem?_range hjn]at hj;simp only[Option.map_some,Option.some.injEq]at hj ⊢;rw[Prod.ext_iff];simp[hj]
 have hcs:z.cells.size=i.size:=by rw[h6,h2]
 have hpos:0<i.size:=by omega
 have hlen:(parts.toList.map (·.2)).length=n:=by rw[<- hvl,q2]
 have hfill:∀ cells:Array Value,cells.size=n*i.size->Instr.fill (λj=>some (j*i.size,i.size)) cells parts.toList=some ((parts.toList.map (·.2)).flatMap λv=>v.cells.toList).toArray:=by
  intro cells hc
  conv=>lhs; rw[hpl]
  exact Go.Great.fill_whole hpos _ cells (λv hv=>by rw[a2 v hv,hsz]) (by rw[hlen,hc])
 have hbig:¬ (16777216<n*i.size):=by rw[<- h2]at q4; omega
 by_cases hz:n*i.size=0
 ·have:=hfill #[] (by simp[hz]);simp[Instr.buildSlice,run_underlying hf,sizeOf,typeInfo,h1,hbig,hz,Array.range_zero',this,newRow]
 ·have:=hfill ((Array.range (n*i.size)).map (z.cells[· % z.cells.size]!)) (by simp);simp[Instr.buildSlice,run_underlying hf,sizeOf,typeInfo,zeroValue,h1,h4,hbig,hz,this,newRow]
theorem Z118 {t e:TypeId}{n:Nat}{parts:Array (Nat × Value)}{vs:List EV}(r:All2 (EV.rel c) vs (parts.toList.map (·.2)))(hf:P.underlying t=some (.slice e)){ed:TD}(he:cx.tab e=some ed){ek:K}(hk:ed.kind=some ek)
  (q1:parts.toList.map (·.1)=List.range n) (q2:vs.length=n) (q3:1<=ed.sz) (q4:n*ed.sz<=16777216) {xs:List ek.T} (a1:xs.length=(parts.toList.map (·.2)).length) (a2:∀ v ∈ parts.toList.map (·.2),v.cells.size=ek.sz)
  (a3:Rows (ek.rep c.w c.ok) xs ((parts.toList.map (·.2)).flatMap λv=>v.cells.toList)) {sv:SV} (hsv:sv=.osl tgt 0 n∨sv=.osx tgt n) (h:k (.x (.one sv)) [(tgt,.row .rw e ek xs)]):Runs P c (Instr.buildSlice t n parts) k:=by
 obtain⟨k1,k2,k3⟩:=(hT e ed he).kind ek hk;have hvl:=r.len;have hlen:(parts.toList.map (·.2)).length=n:=by rw[<- hvl,q2]
 have run:=Z1es hT hi hp r hf he q1 q2 q3 q4 (λv hv=>(a2 v hv).trans k1);refine⟨_,_,run,Z7e hT hi hp (Grows.refl _) (λhe=>?_) ?_ h⟩
 ·refine⟨?_,.inr ⟨_,_,_,[],Z3g hT hi hp,heap_alloc_new _ _,by simp,Rows.mono (λy cs hh=>K.rep_mono he.ok ek y cs hh) a3⟩⟩;have:n*1<=n*ed.sz:=Nat.mul_le_mul_left _ q3;rw[a1,hlen]; simp[maxN]; omega
 ·suffices hh:SV.rel _ (.osl tgt 0 n) _ by
   rcases hsv with rfl | rfl
   ·exact hh
   ·exact⟨hh,_,rfl⟩
  simp only[SV.rel,Z7f hT hi hp];refine⟨_,n,rfl,Nat.le_refl _,by rw[a1,hlen]; omega,.inr ⟨_,_,Z3g hT hi hp,by simp,heap_alloc_new _ _,?_⟩⟩;have:=Rows.len (λy cs=>K.rep_len ek y cs) a3;simp only[List.size_toArray];rw[this,a1,hlen,Nat.zero_add]; exact Nat.le_refl _
theorem Z119:∀ {vs:List EV}{us:List Value}{cs:List SV},Zen c.heap vs=some cs->All2 (EV.rel c) vs us->All2 (SV.rel c) cs us/\∀ u ∈ us,u.oneCell'=true
 | [],_,cs,h,ha=>by
  cases ha
  obtain rfl:=Option.some.inj h;exact⟨.nil,λu hu=>by cases hu⟩
 | v :: vs,_,cs,h,ha=>by
  cases ha with
  | cons h1 h2=>
   cases v with
   | tup=>cases h
   | x xv=>
    cases xv with
    | agg=>cases h
    | dat=>cases h
    | one s=>
     simp only[Zen]at h;split at h
     ·rename_i ho;split at h
      ·rename_i cs' hc;obtain rfl:=Option.some.inj h;obtain⟨a1,a2⟩:=Z119 hc h2;refine⟨.cons h1 a1,λu hu=>?_⟩
       cases hu with
       | head=>exact SV.isOne_rel ho h1
       | tail _ hu=>exact a2 u hu
      ·cases h
     ·cases h
theorem Z1o3 {t e:TypeId}{n:Nat}{parts:Array (Nat × Value)}{vs:List EV}(r:All2 (EV.rel c) vs (parts.toList.map (·.2)))(hf:P.underlying t=some (.slice e)){ed:TD}(he:cx.tab e=some ed)
  (q1:parts.toList.map (·.1)=List.range n) (q2:vs.length=n) (q3:ed.sz=1) (q4:n<=65536) {cs:List SV} (ho:Zen c.heap vs=some cs) (h:k (.x (.one (.bsl tgt n))) [(tgt,.box .rw e cs)]):Runs P c (Instr.buildSlice t n parts) k:=by
 obtain⟨a1,a2⟩:=Z119 hT hi hp ho r
 have hc:∀ l:List Value,(∀ u ∈ l,u.oneCell'=true)->(l.flatMap λv=>v.cells.toList)=l:=by
  intro l
  induction l with
  | nil=>intro _; rfl
  | cons u l ih=>
   intro hl;rw[List.flatMap_cons,ih λv hv=>hl v (List.mem_cons_of_mem _ hv),Zbc (hl u List.mem_cons_self)]; rfl
 have run:=Z1es hT hi hp r hf he q1 q2 (by omega) (by rw[q3]; omega) (λv hv=>by rw[Zbc (a2 v hv),q3]; rfl);rw[hc _ a2]at run;refine⟨_,_,run,Z7e hT hi hp (Grows.refl _) (λhe=>?_) ?_ h⟩
 ·exact⟨_,_,Z3g hT hi hp,heap_alloc_new _ _,a1.mono λ_ _=>SV.rel_mono he⟩
 ·show SV.rel _ (.bsl tgt n) _;simp only[SV.rel,Z7f hT hi hp];exact⟨by rw[a1.len,<- r.len,q2]; exact Nat.le_refl _,_,Z3g hT hi hp,rfl⟩
theorem Zzk {t:TypeId}{n:Nat}{parts:Array (Nat × Value)}{vs:List EV}(h:(Z3i cx c.heap t n (parts.toList.map (·.1)) vs tgt).wp k)(r:All2 (EV.rel c) vs (parts.toList.map (·.2))):
  Runs P c (Instr.buildSlice t n parts) k:=by
 unfold Z3i at h;split at h
 ·rename_i e sz by_ z0 kd ht;have hf:P.underlying t=some (.slice e):=(hT t _ ht).k;split at h
  ·rename_i ed he;split at h
   ·rename_i ek hk;split at h
    ·rename_i hq;obtain⟨q1,q2,q3,q4⟩:=hq;split at h
     ·rename_i hfl;split at h
      ·rename_i xs hxs;obtain⟨a1,a2,a3⟩:=Zhu hT hi hp (Tak.all c) hxs r;exact Z118 hT hi hp r hf he hk q1 q2 q3 q4 a1 a2 (Rows.mono (λy cs hh=>K.rep_flat ek y cs hfl hh) a3) (Z1nt _ _ _) h
      ·exact h.elim
     ·split at h
      ·rename_i xs hxs;have hu:=Z112 (h:=c.heap) vs;obtain⟨E,I⟩:=Frz.ext hi (hu.frz (Frz.refl _))
       have hp':(applyU c.heap (fze c.heap vs))[tgt]?=some .pend:=by
        rw[Z78 _ _ _ λu hu' e=>?_]
        ·exact hp
        ·obtain⟨t',e',xs',g,_⟩:=hu u hu';rw[e,hp]at g; cases g
       have r':=r.mono λ_ _ q=>EV.rel_mono E q;obtain⟨a1,a2,a3⟩:=Zhu hT I hp' (Tak.frozen I) hxs r';exact Runs.frozen hi hu (Z118 hT I hp' r' hf he hk q1 q2 q3 q4 a1 a2 a3 (.inl rfl) h)
      ·exact h.elim
    ·exact h.elim
   ·split at h
    ·rename_i hq;obtain⟨q1,q2,q3,q4⟩:=hq;split at h
     ·rename_i cs hcs;exact Z1o3 hT hi hp r hf he q1 q2 q3 q4 hcs h
     ·exact h.elim
    ·exact h.elim
  ·exact h.elim
 ·exact h.elim
end
structure Src (P:Program) (w:World) (t tu ty e:TypeId) (i:TypeInfo) (z:Value) (uy:Value) (n:Nat) (news:List Value):Prop where
 zero:n=0->∀(A:Option Addr)(m cap:Nat),m<=cap->(Builtin.append_ #[t,tu] ty #[.slice A m cap,uy]).run P w=.ok (.slice A m cap) w
 nil:0<n->(n:Int)<=9223372036854775807->n*i.bytes<=281474976710656->(Builtin.append_ #[t,tu] ty #[.slice none 0 0,uy]).run P w=
  .ok (.slice (some ⟨w.heap.size,0,none⟩) n (grownCap w n 0 e)) (w.drew.alloc (.cells (news.toArray++Builtin.zeroCells z.cells (grownCap w n 0 e - n)) e))
 grow:0<n->∀(b:Addr)(sLen sCap:Nat)(olds:List Value),olds.length=sLen*i.size->(∀ j v,olds[j]?=some v->w.cell? (b.add j)=some v)->sCap<sLen+n->((sLen+n:Nat):Int)<=9223372036854775807->
  Builtin.nextslicecap (sLen+n) sCap*i.bytes<=281474976710656->(Builtin.append_ #[t,tu] ty #[.slice (some b) sLen sCap,uy]).run P w=
   .ok (.slice (some ⟨w.heap.size,0,none⟩) (sLen+n) (grownCap w (sLen+n) sCap e)) (w.drew.alloc (.cells (olds.toArray++news.toArray++Builtin.zeroCells z.cells (grownCap w (sLen+n) sCap e - (sLen+n))) e))
 room:0<n->∀(g sLen sCap:Nat)(cur:Array Value),w.heap[g]?=some (.cells cur e (0,0))->sLen+n<=sCap->sLen*i.size+news.length<=cur.size->(Builtin.append_ #[t,tu] ty #[.slice (some ⟨g,0,none⟩) sLen sCap,uy]).run P w=
   .ok (.slice (some ⟨g,0,none⟩) (sLen+n) sCap) (w.setRow g (cur.toList.take (sLen*i.size)++news++cur.toList.drop (sLen*i.size+news.length)).toArray)
structure Moved (w w':World) (b:Nat):Prop where
 size:w.heap.size<=w'.heap.size
 os:w'.os=w.os
 tape:w'.tape=w.tape
 output:w'.output=w.output
 others:∀(i:Nat),i<w.heap.size->i≠b->w'.heap[i]?=w.heap[i]?
 same:∀(vs:Array Value)(t:TypeId)(z:Nat × Nat),w.heap[b]?=some (.cells vs t z)->∃ vs':Array Value,w'.heap[b]?=some (.cells vs' t z)/\vs'.size=vs.size
section
variable {c:RC} {w':World} {id tgt b:Nat} {o o':HObj} {ob:Option Nat}
def RC.move(c:RC)(w':World)(id tgt:Nat)(o':HObj)(ob:Option Nat):RC:={c with w:=w',heap:=(c.heap.set id .dead).set tgt o',blk:=upd c.blk tgt ob}
theorem Zhv(hne:id≠tgt){i:Nat}{x:HObj}(h:(c.move w' id tgt o' ob).heap[i]?=some x):(i=tgt/\x=o')∨(i=id/\x=.dead)∨(i≠tgt/\i≠id/\c.heap[i]?=some x):=by
 rcases Z1n h with⟨rfl,rfl,_⟩ | ⟨h1,h2⟩
 ·exact .inl ⟨rfl,rfl⟩
 ·rcases Z1n h2 with⟨rfl,rfl,_⟩ | ⟨h3,h4⟩
  ·exact .inr (.inl ⟨rfl,rfl⟩)
  ·exact .inr (.inr ⟨Ne.symm h1,Ne.symm h3,h4⟩)
theorem Ext.move(hne:id≠tgt)(ho:c.heap[id]?=some o)(hm:o.md?=some .rw)(hb:c.blk id=some b)(hp:c.heap[tgt]?=some .pend)(hw:Moved c.w w' b)
  (hob:∀ b',ob=some b'->b'=b∨c.w.heap.size<=b'):Ext c (c.move w' id tgt o' ob) where
 base:=rfl
 size:=hw.size
 os:=hw.os
 tape:=hw.tape
 output:=hw.output
 keep i hi hn:=hw.others i hi λe=>hn (e ▸ ⟨id,o,ho,hm,hb⟩)
 cells i vs t z h:=by
  by_cases e:i=b
  ·subst e;obtain⟨vs',g1,g2⟩:=hw.same vs t z h;exact⟨vs',z,g1,g2,.inl rfl⟩
  ·exact⟨vs,z,(hw.others i (Z1x h) e).trans h,rfl,.inl rfl⟩
 blk i oi hoi hne':=by
  show upd c.blk tgt ob i=_;unfold upd;split
  ·rename_i e; subst e; rw[hp]at hoi; cases hoi; exact absurd rfl hne'
  ·rfl
 ev i oi hoi:=by
  by_cases e1:tgt=i
  ·subst e1; rw[hp]at hoi; cases hoi;exact⟨o',Z3p ((Z2t hne).trans hp),trivial⟩
  ·by_cases e2:id=i
   ·subst e2;refine⟨.dead,(Z2t e1).trans (Z3p ho),?_⟩;rw[ho]at hoi; cases hoi
    cases o with
    | pend=>trivial
    | dead=>rfl
    | box=>exact .inl rfl
    | row=>exact .inl rfl
    | mp=>exact .inl rfl
   ·exact⟨oi,(Z2t e1).trans ((Z2t e2).trans hoi),oi.ev_refl⟩
 fresh i oi bi hoi hl hn hbi hlt:=by
  rcases Zhv hne hoi with⟨rfl,rfl⟩ | ⟨rfl,rfl⟩ | ⟨h1,h2,h3⟩
  ·have:upd c.blk i ob i=ob:=by simp[upd]
   rcases hob bi (this.symm.trans hbi)with rfl | h
   ·exact⟨id,o,ho,hm,hb⟩
   ·exact absurd hlt (Nat.not_lt.2 h)
  ·simp[HObj.live,HObj.md?]at hl
  ·exact absurd hl (hn oi h3)
theorem RC.Inv.move(hi:c.Inv)(hne:id≠tgt)(ho:c.heap[id]?=some o)(hm:o.md?=some .rw)(hb:c.blk id=some b)(hp:c.heap[tgt]?=some .pend)(hw:Moved c.w w' b)
  (hob:∀ b',ob=some b'->b'=b∨c.w.heap.size<=b') (hr:o'.rel (c.move w' id tgt o' ob) tgt):(c.move w' id tgt o' ob).Inv where
 objs i oi hoi:=by
  rcases Zhv hne hoi with⟨rfl,rfl⟩ | ⟨rfl,rfl⟩ | ⟨h1,h2,h3⟩
  ·exact hr
  ·trivial
  ·refine HObj.rel_mono (Ext.move hne ho hm hb hp hw hob) h3 (λbi hbi hl=>hw.others bi (HObj.blk_lt (hi.objs i oi h3) hl hbi) λe=>?_) (hi.objs i oi h3);subst e;exact h2 (hi.inj i id oi o bi h3 hl ho (HObj.live_of_md hm) hbi hb)
 inj i j oi oj bi hoi hli hoj hlj hbi hbj:=by
  have et:upd c.blk tgt ob tgt=ob:=by simp[upd]
  have eo:∀ i,i≠tgt->upd c.blk tgt ob i=c.blk i:=λi h=>by simp[upd,h]
  have hlt:b<c.w.heap.size:=HObj.blk_lt (hi.objs id o ho) (HObj.live_of_md hm) hb
  have key:∀(j:Nat)(oj:HObj),j≠tgt->j≠id->c.heap[j]?=some oj->oj.live->ob=some bi->c.blk j=some bi->False:=by
   intro j oj h1 h2 h3 hl e1 e2;rcases hob bi e1 with rfl | h
   ·exact h2 (hi.inj j id oj o bi h3 hl ho (HObj.live_of_md hm) e2 hb)
   ·exact absurd (HObj.blk_lt (hi.objs j oj h3) hl e2) (Nat.not_lt.2 h)
  rcases Zhv hne hoi with⟨rfl,rfl⟩ | ⟨rfl,rfl⟩ | ⟨h1,h2,h3⟩ <;> rcases Zhv hne hoj with⟨rfl,rfl⟩ | ⟨rfl,rfl⟩ | ⟨k1,k2,k3⟩
  ·rfl
  ·simp[HObj.live,HObj.md?]at hlj
  ·exact(key j oj k1 k2 k3 hlj (et.symm.trans hbi) ((eo j k1).symm.trans hbj)).elim
  ·simp[HObj.live,HObj.md?]at hli
  ·rfl
  ·simp[HObj.live,HObj.md?]at hli
  ·exact(key i oi h1 h2 h3 hli (et.symm.trans hbj) ((eo i h1).symm.trans hbi)).elim
  ·simp[HObj.live,HObj.md?]at hlj
  ·exact hi.inj i j oi oj bi h3 hli k3 hlj ((eo i h1).symm.trans hbi) ((eo j k1).symm.trans hbj)
 base i oi bi hoi hl hbi:=by
  have et:upd c.blk tgt ob tgt=ob:=by simp[upd]
  rcases Zhv hne hoi with⟨rfl,rfl⟩ | ⟨rfl,rfl⟩ | ⟨h1,h2,h3⟩
  ·rcases hob bi (et.symm.trans hbi)with rfl | h
   ·exact hi.base id o bi ho (HObj.live_of_md hm) hb
   ·exact Nat.le_trans hi.basele h
  ·simp[HObj.live,HObj.md?]at hl
  ·have:upd c.blk tgt ob i=c.blk i:=by simp[upd,h1]
   exact hi.base i oi bi h3 hl (this.symm.trans hbi)
 basele:=Nat.le_trans hi.basele hw.size
end
def RC.kill(c:RC)(id:Nat):RC:={c with heap:=c.heap.set id .dead}
theorem Ext.kill {c:RC}{id:Nat}{o:HObj}(ho:c.heap[id]?=some o):Ext c (c.kill id) where
 base:=rfl
 size:=Nat.le_refl _
 os:=rfl
 tape:=rfl
 output:=rfl
 keep _ _ _:=rfl
 cells _ vs _ z h:=⟨vs,z,h,rfl,.inl rfl⟩
 blk _ _ _ _:=rfl
 ev i oi hoi:=by
  by_cases e2:id=i
  ·subst e2;refine⟨.dead,Z3p ho,?_⟩;rw[ho]at hoi; cases hoi
   cases o with
   | pend=>trivial
   | dead=>rfl
   | box=>exact .inl rfl
   | row=>exact .inl rfl
   | mp=>exact .inl rfl
  ·exact⟨oi,(Z2t e2).trans hoi,oi.ev_refl⟩
 fresh i oi bi hoi hl hn hbi hlt:=by
  rcases Z1n hoi with⟨rfl,rfl,_⟩ | ⟨_,h⟩
  ·simp[HObj.live,HObj.md?]at hl
  ·exact absurd hl (hn oi h)
theorem RC.Inv.kill {c:RC}(hi:c.Inv){id:Nat}{o:HObj}(ho:c.heap[id]?=some o):(c.kill id).Inv where
 objs i oi hoi:=by
  rcases Z1n hoi with⟨rfl,rfl,_⟩ | ⟨_,h⟩
  ·trivial
  ·exact HObj.rel_mono (Ext.kill ho) h (λ_ _ _=>rfl) (hi.objs i oi h)
 inj i j oi oj bi hoi hli hoj hlj hbi hbj:=by
  rcases Z1n hoi with⟨rfl,rfl,_⟩ | ⟨_,h⟩
  ·simp[HObj.live,HObj.md?]at hli
  ·rcases Z1n hoj with⟨rfl,rfl,_⟩ | ⟨_,h'⟩
   ·simp[HObj.live,HObj.md?]at hlj
   ·exact hi.inj i j oi oj bi h hli h' hlj hbi hbj
 base i oi bi hoi hl hbi:=by
  rcases Z1n hoi with⟨rfl,rfl,_⟩ | ⟨_,h⟩
  ·simp[HObj.live,HObj.md?]at hl
  ·exact hi.base i oi bi h hl hbi
 basele:=hi.basele
section
variable {P:Program} {cx:Cx} (hT:∀ t d,cx.tab t=some d->d.Fits P t) {c:RC} (hi:c.Inv) {k:EV->List (Nat × HObj)->Prop} {tgt:Nat} (hp:c.heap[tgt]?=some .pend)
include hT
theorem Z11a(w:World){t ty e:TypeId}(hf:P.underlying t=some (.slice e)){ed:TD}(he:cx.tab e=some ed)(A B:Option Addr)(n cap cap2:Nat)(hn:n<=cap):
  (Builtin.append_ #[t,t] ty #[.slice A n cap,.slice B 0 cap2]).run P w=.ok (.slice A n cap) w:=by
 have hs:=Z31 hT (c:=⟨w,[],λ_=>none,0,λ_=>True⟩) ⟨by simp,by simp,by simp,Nat.zero_le _⟩ he w
 have hfc:∀ B,(Builtin.firstCells ed.sz 0 (.slice B 0 cap2)).run P w=.ok #[] w:=by
  intro B; cases B <;> simp[Builtin.firstCells,loadCells,loadCellsFrom]
 cases A with
 | none=>simp[Builtin.append_,run_underlying hf,hs,Builtin.lenOf,hn,hfc]
 | some a=>simp[Builtin.append_,run_underlying hf,hs,Builtin.lenOf,hn,hfc,storeCells]
include hi
theorem Zep {yv:XV}{ek:K}{ys:List ek.T}{u:Value}(h:yv.take c.heap (.slice ek)=some ys)(r:yv.rel c u):
  ∃ A cap news,u=.slice A ys.length cap/\ys.length<=maxN/\Rows (ek.rep c.w c.ok) ys news/\(ys=[]∨∃ b off,A=some ⟨b,off,none⟩/\At c.w b off news):=by
 cases yv with
 | agg cs=>simp[XV.take,K.agg]at h
 | dat k x=>
  simp only[XV.take]at h;split at h
  ·rename_i q; subst q; simp[K.agg]at h
  ·cases h
 | one s=>
  simp only[XV.take,K.agg,Bool.false_eq_true,if_false]at h
  cases s with
  | val v=>
   have hu:u=v:=r;subst hu;simp only[SV.take]at h;split at h
   ·rename_i hn;obtain rfl:=Option.some.inj h;exact⟨none,0,[],Z5z hn,by simp[maxN],rfl,.inl rfl⟩
   ·cases h
  | void=>
   simp only[SV.take]at h;obtain rfl:=Option.some.inj h;obtain⟨A,rfl⟩:=r;exact⟨A,0,[],rfl,by simp[maxN],rfl,.inl rfl⟩
  | data k' y=>
   simp only[SV.take]at h;split at h
   ·rename_i q; subst q; obtain rfl:=Option.some.inj h;obtain⟨A,cap,e1,h1,h2,h3⟩:=r;rcases h3 with rfl | ⟨b,off,vs,rfl,_,hr,hat⟩
    ·exact⟨A,cap,[],(List.cons.inj e1).1,h2,rfl,.inl rfl⟩
    ·exact⟨_,cap,vs,(List.cons.inj e1).1,h2,hr,.inr ⟨b,off,rfl,hat⟩⟩
   ·cases h
  | full k' y=>
   simp only[SV.take]at h;split at h
   ·rename_i q; cases q; obtain rfl:=Option.some.inj h;obtain⟨⟨A,cap,e1,h1,h2,h3⟩,_⟩:=r;rcases h3 with rfl | ⟨b,off,vs,rfl,_,hr,hat⟩
    ·exact⟨A,cap,[],(List.cons.inj e1).1,h2,rfl,.inl rfl⟩
    ·exact⟨_,cap,vs,(List.cons.inj e1).1,h2,hr,.inr ⟨b,off,rfl,hat⟩⟩
   ·cases h
  | osl id off len=>
   simp only[SV.take]at h;have hr:SV.rel c (.osl id off len) u:=r;simp only[SV.rel]at hr
   cases ho:c.heap[id]? with
   | none=>rw[ho]at h; simp at h
   | some o=>
    rw[ho]at h hr
    cases o with
    | pend=>simp at h
    | dead=>simp at h
    | box _ _ _=>simp at h
    | mp _ _ _ _=>simp at h
    | row m t e' xs=>
     simp only at h hr;split at h
     ·rename_i q; subst q; obtain rfl:=Option.some.inj h;obtain⟨A,cap,rfl,hc,hl,hr⟩:=hr;obtain⟨hmax,ho2⟩:=hi.objs id _ ho;have hlen:((xs.drop off).take len).length=len:=by rw[List.length_take,List.length_drop]; omega
      rcases ho2 with⟨hbn,hx0⟩ | ⟨b',vs',fr,re,hb',hv',hvs,hrows⟩
      ·subst hx0;simp only[List.length_nil]at hl;have:len=0:=by omega
       subst this;exact⟨A,cap,[],rfl,by simp[maxN],by simp[Rows],.inl (by simp)⟩
      ·rcases hr with hr | ⟨b,vs,hb,ha,hv,hsz⟩
       ·have:len=0:=by omega
        subst this;exact⟨A,cap,[],rfl,by simp[maxN],by simp[Rows],.inl (by simp)⟩
       ·rw[hb]at hb'; cases hb';rw[hv]at hv'; cases hv';refine⟨A,cap,(fr.drop (off*e'.sz)).take (len*e'.sz),by rw[hlen],by rw[hlen]; omega,?_,.inr ⟨_,off*e'.sz,ha,?_⟩⟩
        ·exact Rows.take (λy cs=>K.rep_len e' y cs) len (Rows.drop (λy cs=>K.rep_len e' y cs) off hrows)
        ·intro j v hj
         have h1:(fr.drop (off*e'.sz))[j]?=some v:=by
          rw[List.getElem?_take]at hj;split at hj
          ·exact hj
          ·cases hj
         rw[List.getElem?_drop]at h1;simp only[World.cell?,hv]
         have h2:vs'.toList[off*e'.sz+j]?=some v:=by
          rw[hvs,List.getElem?_append_left]
          ·exact h1
          ·rcases Nat.lt_or_ge (off*e'.sz+j) fr.length with h' | h'
           ·exact h'
           ·rw[List.getElem?_eq_none h']at h1; cases h1
         simpa using h2
     ·cases h
  | _=>simp[SV.take]at h
theorem Z11b {x:EV}{u:Value}(h:Z113 x=true)(r:x.rel c u):∃ A,u=.slice A 0 0:=by
 unfold Z113 at h;split at h
 ·exact r
 ·rename_i v;have:u=v:=r;subst this;exact⟨none,Z5z h⟩
 ·cases h
include hp
theorem Zlz {t tu ty e:TypeId}{uy:Value}{ed:TD}(hsz1:1<=ed.sz)(hby1:1<=ed.bytes){i:TypeInfo}{z:Value}(h2:i.size=ed.sz)(h3:i.bytes=ed.bytes)(h6:z.cells.size=ed.sz){ek:K}(hsz:ed.sz=ek.sz)
  {ys:List ek.T} {news:List Value} (S:Src P c.w t tu ty e i z uy ys.length news) (hmx:ys.length<=maxN) (hrows:Rows (ek.rep c.w c.ok) ys news) {A:Option Addr} (hb:ys.length*ed.bytes<=140737488355328)
  (h:k (.x (.one (.osl tgt 0 ys.length))) [(tgt,.row .rw e ek ys)]):Runs P c (Builtin.append_ #[t,tu] ty #[.slice A 0 0,uy]) k:=by
 by_cases hz:ys=[]
 ·have run:=S.zero (by rw[hz]; rfl) A 0 0 (Nat.le_refl _);have hpt:=Ext.put (w':=c.w) (o:=.row .rw e ek ys) (ob:=none) (Grows.refl c.w) hp (λb e=>by cases e);refine⟨_,_,run,_,_,c.put c.w tgt (.row .rw e ek ys) none,h,rfl,rfl,hpt,RC.Inv.put hi (Grows.refl c.w) hp (λb e=>by cases e) ⟨by rw[hz]; simp[maxN],.inl ⟨by show upd c.blk tgt none tgt=none; simp[upd],hz⟩⟩,?_⟩;show SV.rel _ (.osl tgt 0 _) _;have:(c.put c.w tgt (.row .rw e ek ys) none).heap[tgt]?=some (.row .rw e ek ys):=Z3p hp;simp only[SV.rel,this];exact⟨A,0,by rw[hz]; rfl,by rw[hz]; exact Nat.le_refl _,by rw[hz]; simp,.inl rfl⟩
 ·have hpos:0<ys.length:=List.length_pos_iff.2 hz;have hnl:news.length=ys.length*i.size:=by rw[Rows.len (λy cs=>K.rep_len ek y cs) hrows,h2,hsz]
  have hb':ys.length*i.bytes<=140737488355328:=by rw[h3]; exact hb
  have hle:ys.length<=ys.length*ed.bytes:=Nat.le_mul_of_pos_right _ (by omega)
  have fin:∀ cp,(Builtin.append_ #[t,tu] ty #[.slice A 0 0,uy]).run P c.w=
    .ok (.slice (some ⟨c.w.heap.size,0,none⟩) ys.length cp) (c.w.drew.alloc (.cells (news.toArray++Builtin.zeroCells z.cells (cp - ys.length)) e))->ys.length<=cp->
    Runs P c (Builtin.append_ #[t,tu] ty #[.slice A 0 0,uy]) k:=by
   intro cp run hcp;refine⟨_,_,run,Z7e hT hi hp (w0:=c.w.drew) (Grows.drew _) (λhext=>?_) ?_ h⟩
   ·exact⟨hmx,.inr ⟨_,_,news,(Builtin.zeroCells z.cells (cp - ys.length)).toList,Z3g hT hi hp,heap_alloc_new c.w.drew _,by simp,Rows.mono (λy cs hh=>K.rep_mono hext.ok ek y cs hh) hrows⟩⟩
   ·show SV.rel _ (.osl tgt 0 _) _;simp only[SV.rel,Z7f hT hi hp];refine⟨_,cp,rfl,hcp,⟨by simp,by simpa using hcp⟩,.inr ⟨_,_,Z3g hT hi hp,by simp,heap_alloc_new c.w.drew _,?_⟩⟩;simp only[Array.size_append,List.size_toArray,size_zeroCells,hnl,h6,Nat.zero_add,<- hsz,<- h2,<- Nat.add_mul];have:ys.length+(cp - ys.length)=cp:=by omega
    rw[this]; exact Nat.le_refl _
  cases A with
  | none=>exact fin _ (S.nil hpos (by omega) (by omega)) (grownCap_ge _ _ _ _)
  | some a=>
   have run:=S.grow hpos a 0 0 [] (by simp) (by simp) (by omega) (by omega) (growslice_fits (by omega) (by simpa using hb'));simp only[Nat.zero_add,Array.empty_append]at run;exact fin _ run (grownCap_ge _ _ _ _)
theorem Z11c {t tu ty rty:TypeId}{uy:Value}{ed:TD}(hsz1:1<=ed.sz)(hby1:1<=ed.bytes){i:TypeInfo}{z:Value}(h2:i.size=ed.sz)(h3:i.bytes=ed.bytes)(h6:z.cells.size=ed.sz){ek:K}(hsz:ed.sz=ek.sz)
  {ys:List ek.T} {news:List Value} (S:Src P c.w t tu ty rty i z uy ys.length news) (hmx:ys.length<=maxN) (hrows:Rows (ek.rep c.w c.ok) ys news) {u:Value} {id:Nat} {xs:List ek.T} (rx:EV.rel c (.x (.one (.osl id 0 xs.length))) u) (ho:c.heap[id]?=some (.row .rw rty ek xs)) (hne:id≠tgt) (hb:(xs.length+ys.length)*ed.bytes<=140737488355328)
  (h:k (.x (.one (.osl tgt 0 (xs.length+ys.length)))) [(id,.dead),(tgt,.row .rw rty ek (xs++ys))]):Runs P c (Builtin.append_ #[t,tu] ty #[u,uy]) k:=by
 obtain⟨A,cp,rfl,hc,hl,hcase⟩:=Zhi (s:=.junk) hT hi ho rx;have hnl:news.length=ys.length*i.size:=by rw[Rows.len (λy cs=>K.rep_len ek y cs) hrows,h2,hsz]
 have hb':(xs.length+ys.length)*i.bytes<=140737488355328:=by rw[h3]; exact hb
 have hle:xs.length+ys.length<=(xs.length+ys.length)*rty.succ*0+(xs.length+ys.length)*ed.bytes:=by
  have:=Nat.le_mul_of_pos_right (xs.length+ys.length) (show 0<ed.bytes by omega);omega
 have hsum:xs.length+ys.length<=140737488355328:=by
  have:=Nat.le_mul_of_pos_right (xs.length+ys.length) (show 0<ed.bytes by omega);omega
 have fin:∀(b0:Nat)(w':World)(ob:Option Nat)(v':Value),c.blk id=some b0->(Builtin.append_ #[t,tu] ty #[.slice A xs.length cp,uy]).run P c.w=.ok v' w'->Moved c.w w' b0->
   (∀ b',ob=some b'->b'=b0∨c.w.heap.size<=b')->
   (∃ b1 vs front rest,ob=some b1/\w'.heap[b1]?=some (.cells vs rty (0,0))/\vs.toList=front++rest/\Rows (ek.rep c.w c.ok) (xs++ys) front/\
    ∃ cp',v'=.slice (some ⟨b1,0,none⟩) (xs.length+ys.length) cp'/\xs.length+ys.length<=cp'/\cp'*ek.sz<=vs.size)->
   Runs P c (Builtin.append_ #[t,tu] ty #[.slice A xs.length cp,uy]) k:=by
  intro b0 w' ob v' hb0 run hw hob hx;obtain⟨b1,vs,front,rest,rfl,hv,hvs,hrow,cp',rfl,hcp,hcs⟩:=hx;refine⟨_,_,run,_,_,c.move w' id tgt _ (some b1),h,rfl,rfl,Ext.move hne ho rfl hb0 hp hw hob,RC.Inv.move hi hne ho rfl hb0 hp hw hob ?_,?_⟩
  ·refine⟨?_,.inr ⟨b1,vs,front,rest,?_,hv,hvs,Rows.mono (λy cs hh=>K.rep_mono (Ext.move (o':=.row .rw rty ek (xs++ys)) hne ho rfl hb0 hp hw hob).ok ek y cs hh) hrow⟩⟩
   ·rw[List.length_append]; simp only[maxN]; omega
   ·show upd c.blk tgt (some b1) tgt=_; simp[upd]
  ·show SV.rel _ (.osl tgt 0 (xs.length+ys.length)) _;have hg:(c.move w' id tgt (.row .rw rty ek (xs++ys)) (some b1)).heap[tgt]?=some (.row .rw rty ek (xs++ys)):=Z3p ((Z2t hne).trans hp);simp only[SV.rel,hg];refine⟨_,cp',rfl,hcp,by rw[List.length_append]; omega,.inr ⟨b1,vs,?_,by simp,hv,by simpa using hcs⟩⟩;show upd c.blk tgt (some b1) tgt=_; simp[upd]
 have own:∀ b0,c.blk id=some b0->∃ vs f re,c.w.heap[b0]?=some (.cells vs rty (0,0))/\vs.toList=f++re/\Rows (ek.rep c.w c.ok) xs f/\f.length=xs.length*i.size/\
   (∀ j v,f[j]?=some v->c.w.cell? ((⟨b0,0,none⟩:Addr).add j)=some v):=by
  intro b0 hb0;obtain⟨_,vs,f,re,g1,g2,g3⟩:=Zaj hT hi ho hb0;refine⟨vs,f,re,g1,g2,g3,by rw[Rows.len (λy cs=>K.rep_len ek y cs) g3,h2,hsz],λj v hj=>?_⟩;rw[Addr.add_none];simp only[World.cell?,g1,Option.isSome_none,Nat.zero_add]
  have:vs.toList[j]?=some v:=by
   rw[g2,List.getElem?_append_left]
   ·exact hj
   ·rcases Nat.lt_or_ge j f.length with h' | h'
    ·exact h'
    ·rw[List.getElem?_eq_none h']at hj; cases hj
  simpa using this
 have moved_new:∀ b0 o,b0<c.w.heap.size->Moved c.w (c.w.drew.alloc o) b0:=by
  intro b0 o hlt;have hg:=(Grows.drew c.w).trans (Grows.alloc c.w.drew o);exact⟨hg.size,rfl,rfl,rfl,λi hi _=>hg.keep i hi,λvs t z hv=>⟨vs,(hg.keep b0 hlt).trans hv,rfl⟩⟩
 have moved_refl:∀ b0,Moved c.w c.w b0:=λb0=>⟨Nat.le_refl _,rfl,rfl,rfl,λ_ _ _=>rfl,λvs t z hv=>⟨vs,hv,rfl⟩⟩;rcases(hi.objs id _ ho).2 with⟨hbn,hx0⟩ | ⟨b0,_,_,_,hb0,_⟩
 ·
  subst hx0
  have hcp:cp=0:=by
   rcases hcase with h | ⟨b,vs,hb,_⟩
   ·exact h
   ·rw[hbn]at hb; cases hb
  subst hcp;have hpk:(c.kill id).heap[tgt]?=some .pend:=(Z2t hne).trans hp;have hik:=hi.kill ho
  have fin2:∀(w':World)(ob:Option Nat)(v':Value),(Builtin.append_ #[t,tu] ty #[.slice A 0 0,uy]).run P c.w=.ok v' w'->Grows c.w w'->(∀ b,ob=some b->c.w.heap.size<=b)->
    ((ob=none/\ys=[]/\∃ A',v'=.slice A' 0 0)∨∃ b1 vs front rest,ob=some b1/\w'.heap[b1]?=some (.cells vs rty (0,0))/\vs.toList=front++rest/\Rows (ek.rep c.w c.ok) ys front/\
      ∃ cp',v'=.slice (some ⟨b1,0,none⟩) ys.length cp'/\ys.length<=cp'/\cp'*ek.sz<=vs.size)->
    Runs P c (Builtin.append_ #[t,tu] ty #[.slice A 0 0,uy]) k:=by
   intro w' ob v' run hg hob hx;have he2:=Ext.put (c:=c.kill id) (o:=.row .rw rty ek ([]++ys)) (ob:=ob) hg hpk hob;have hget:((c.kill id).put w' tgt (.row .rw rty ek ([]++ys)) ob).heap[tgt]?=some (.row .rw rty ek ([]++ys)):=Z3p hpk;have hbk:((c.kill id).put w' tgt (.row .rw rty ek ([]++ys)) ob).blk tgt=ob:=by show upd c.blk tgt ob tgt=_; simp[upd]
   refine⟨_,_,run,_,_,(c.kill id).put w' tgt _ ob,h,rfl,rfl,(Ext.kill ho).trans he2,RC.Inv.put hik hg hpk hob ⟨by simp[maxN]at hmx ⊢; omega,?_⟩,?_⟩
   ·rcases hx with⟨rfl,rfl,_⟩ | ⟨b1,vs,front,rest,rfl,hv,hvs,hrow,_⟩
    ·exact .inl ⟨hbk,rfl⟩
    ·exact .inr ⟨b1,vs,front,rest,hbk,hv,hvs,Rows.mono (λy cs hh=>K.rep_mono ((Ext.kill ho).trans he2).ok ek y cs hh) hrow⟩
   ·show SV.rel _ (.osl tgt 0 _) _;simp only[SV.rel,hget];rcases hx with⟨rfl,rfl,A',rfl⟩ | ⟨b1,vs,front,rest,rfl,hv,hvs,hrow,cp',rfl,h5,h6⟩
    ·exact⟨A',0,rfl,Nat.le_refl _,by simp,.inl rfl⟩
    ·exact⟨some ⟨b1,0,none⟩,cp',by simp,by simpa using h5,⟨by simp,by simpa using h5⟩,.inr ⟨b1,vs,hbk,by simp,hv,by simpa using h6⟩⟩
  by_cases hz:ys=[]
  ·exact fin2 _ none _ (S.zero (by rw[hz]; rfl) A 0 0 (Nat.le_refl _) |> λq=>by subst hz; exact q) (Grows.refl _) (λb e=>by cases e) (.inl ⟨rfl,hz,A,by subst hz; rfl⟩)
  ·have hpos:0<ys.length:=List.length_pos_iff.2 hz;have hy':ys.length*i.bytes<=140737488355328:=by simpa using hb'
   have hyl:ys.length<=140737488355328:=by simpa using hsum
   have go:∀ cp',(Builtin.append_ #[t,tu] ty #[.slice A 0 0,uy]).run P c.w=
     .ok (.slice (some ⟨c.w.heap.size,0,none⟩) ys.length cp') (c.w.drew.alloc (.cells (news.toArray++Builtin.zeroCells z.cells (cp' - ys.length)) rty))->ys.length<=cp'->
     Runs P c (Builtin.append_ #[t,tu] ty #[.slice A 0 0,uy]) k:=by
    intro cp' run hcp;refine fin2 _ (some c.w.heap.size) _ run ((Grows.drew c.w).trans (Grows.alloc c.w.drew _)) (λb e=>by cases e; exact Nat.le_refl _) (.inr ⟨_,_,news,(Builtin.zeroCells z.cells (cp' - ys.length)).toList,rfl,heap_alloc_new c.w.drew _,by simp,hrows,cp',rfl,hcp,?_⟩);simp only[Array.size_append,List.size_toArray,size_zeroCells,hnl,h6,<- hsz,<- h2,<- Nat.add_mul];have:ys.length+(cp' - ys.length)=cp':=by omega
    rw[this]; exact Nat.le_refl _
   cases A with
   | none=>exact go _ (S.nil hpos (by omega) (by omega)) (grownCap_ge _ _ _ _)
   | some a=>
    have run:=S.grow hpos a 0 0 [] (by simp) (by simp) (by omega) (by omega) (growslice_fits (by omega) (by simpa using hy'));simp only[Nat.zero_add,Array.empty_append]at run;exact go _ run (grownCap_ge _ _ _ _)
 ·obtain⟨vs,f,re,g1,g2,g3,g4,g5⟩:=own b0 hb0;have hlt:b0<c.w.heap.size:=Z1x g1;have hxrows:Rows (ek.rep c.w c.ok) xs f:=g3;have hyrows:Rows (ek.rep c.w c.ok) ys news:=hrows
  have grow:∀ cp',(Builtin.append_ #[t,tu] ty #[.slice A xs.length cp,uy]).run P c.w=
    .ok (.slice (some ⟨c.w.heap.size,0,none⟩) (xs.length+ys.length) cp') (c.w.drew.alloc (.cells (f.toArray++news.toArray++Builtin.zeroCells z.cells (cp' - (xs.length+ys.length))) rty))->xs.length+ys.length<=cp'->
    Runs P c (Builtin.append_ #[t,tu] ty #[.slice A xs.length cp,uy]) k:=by
   intro cp' run hcp;refine fin b0 _ (some c.w.heap.size) _ hb0 run (moved_new b0 _ hlt) (λb e=>by cases e; exact .inr (Nat.le_refl _)) ⟨_,_,f++news,(Builtin.zeroCells z.cells (cp' - (xs.length+ys.length))).toList,rfl,heap_alloc_new c.w.drew _,by simp,hxrows.append hyrows,cp',rfl,hcp,?_⟩;simp only[Array.size_append,List.size_toArray,size_zeroCells,hnl,g4,h6,<- hsz,<- h2,<- Nat.add_mul];have:xs.length+ys.length+(cp' - (xs.length+ys.length))=cp':=by omega
   rw[this]; exact Nat.le_refl _
  by_cases hz:ys=[]
  ·
   subst hz;have run:=S.zero rfl A xs.length cp hc;rcases hcase with h0 | ⟨b,vs',hb1,rfl,hv',hsz'⟩
   ·
    subst h0;have hx0:xs=[]:=List.eq_nil_of_length_eq_zero (by omega);subst hx0;have hpk:(c.kill id).heap[tgt]?=some .pend:=(Z2t hne).trans hp;have he2:=Ext.put (c:=c.kill id) (w':=c.w) (o:=.row .rw rty ek ([]++[])) (ob:=none) (Grows.refl _) hpk (λb e=>by cases e);have hget:((c.kill id).put c.w tgt (.row .rw rty ek ([]++[])) none).heap[tgt]?=some (.row .rw rty ek ([]++[])):=Z3p hpk;refine⟨_,_,run,_,_,(c.kill id).put c.w tgt _ none,h,rfl,rfl,(Ext.kill ho).trans he2,RC.Inv.put (hi.kill ho) (Grows.refl _) hpk (λb e=>by cases e) ⟨by simp[maxN],.inl ⟨by show upd c.blk tgt none tgt=_; simp[upd],rfl⟩⟩,?_⟩;show SV.rel _ (.osl tgt 0 _) _;simp only[SV.rel,hget];exact⟨A,0,rfl,Nat.le_refl _,by simp,.inl rfl⟩
   ·rw[hb0]at hb1; cases hb1;rw[g1]at hv'; cases hv';refine fin b0 _ (some b0) _ hb0 run (moved_refl b0) (λb e=>by cases e; exact .inl rfl) ⟨b0,vs,f,re,rfl,g1,g2,by simpa using hxrows,cp,by simp,by simpa using hc,by simpa using hsz'⟩
  ·have hpos:0<ys.length:=List.length_pos_iff.2 hz;rcases hcase with h0 | ⟨b1,vs',hb1,rfl,hv',hsz'⟩
   ·
    subst h0;have hx0:xs=[]:=List.eq_nil_of_length_eq_zero (by omega);subst hx0;have hf0:f=[]:=List.eq_nil_of_length_eq_zero (by simpa using g4);subst hf0
    cases A with
    | none=>
     have run:=S.nil hpos (by omega) (by simpa using Nat.le_trans hb' (by omega));exact grow _ (by simpa using run) (by simpa using grownCap_ge _ _ _ _)
    | some a=>
     have run:=S.grow hpos a 0 0 [] (by simp) (by simp) (by omega) (by omega) (growslice_fits (by omega) (by simpa using hb'));exact grow _ (by simpa using run) (by simpa using grownCap_ge _ _ _ _)
   ·rw[hb0]at hb1; cases hb1;rw[g1]at hv'; cases hv';simp only[Nat.zero_mul]at *;by_cases hroom:xs.length+ys.length<=cp
    ·
     have hfit:xs.length*i.size+news.length<=vs.size:=by
      rw[hnl,<- Nat.add_mul];have:=Nat.mul_le_mul_right i.size hroom;rw[<- h2]at hsz; rw[hsz]at this ⊢;simp only[Nat.zero_add]at hsz';omega
     have run:=S.room hpos b0 xs.length cp vs g1 hroom hfit;have hvl:vs.toList.length=f.length+re.length:=by rw[g2,List.length_append]
     simp only[Array.length_toList]at hvl
     refine fin b0 _ (some b0) _ hb0 run ⟨by simp,rfl,rfl,rfl,λj hj hne'=>setRow_other c.w b0 j _ hne',λus t' zz hus=>?_⟩ (λb e=>by cases e; exact .inl rfl)
      ⟨b0,_,f++news,vs.toList.drop (xs.length*i.size+news.length),rfl,setRow_heap c.w b0 vs _ rty _ g1,?_,hxrows.append hyrows,cp,rfl,hroom,?_⟩
     ·rw[g1]at hus; cases hus;refine⟨_,setRow_heap c.w b0 vs _ rty _ g1,?_⟩;simp; omega
     ·have:vs.toList.take (xs.length*i.size)=f:=by rw[g2,<- g4,List.take_left]
      rw[this]
     ·simp only[List.size_toArray,List.length_append,List.length_take,List.length_drop,Array.length_toList];simp only[Nat.zero_add]at hsz';omega
    ·
     exact grow _ (S.grow hpos ⟨b0,0,none⟩ xs.length cp f g4 g5 (by omega) (by omega) (growslice_fits (by omega) hb')) (grownCap_ge _ _ _ _)
theorem Z1id {t tu ty e:TypeId}{uy:Value}{ed:TD}(hsz1:1<=ed.sz)(hby1:1<=ed.bytes){i:TypeInfo}{z:Value}(h2:i.size=ed.sz)(h3:i.bytes=ed.bytes)(h6:z.cells.size=ed.sz){ek:K}(hsz:ed.sz=ek.sz)
  {ys:List ek.T} {news:List Value} (S:Src P c.w t tu ty e i z uy ys.length news) (hmx:ys.length<=maxN) (hrows:Rows (ek.rep c.w c.ok) ys news) {u:Value} {xs:List ek.T} (rx:EV.rel c (.x (.one (.full ek xs))) u) (hx0:0<xs.length) (hy0:0<ys.length) (hb:(xs.length+ys.length)*ed.bytes<=140737488355328)
  (h:k (.x (.one (.osl tgt 0 (xs.length+ys.length)))) [(tgt,.row .rw e ek (xs++ys))]):Runs P c (Builtin.append_ #[t,tu] ty #[u,uy]) k:=by
 obtain⟨⟨A,cap,e1,_,hxm,h5⟩,A',rfl⟩:=rx
 obtain⟨rfl,rfl⟩:A'=A/\xs.length=cap:=by
  have:=(List.cons.inj e1).1;exact⟨(Value.slice.inj this).1,(Value.slice.inj this).2.2⟩
 rcases h5 with rfl | ⟨b,off,olds,rfl,_,hxr,hat⟩
 ·simp at hx0
 have hnl:news.length=ys.length*i.size:=by rw[Rows.len (λy cs=>K.rep_len ek y cs) hrows,h2,hsz]
 have hol:olds.length=xs.length*i.size:=by rw[Rows.len (λy cs=>K.rep_len ek y cs) hxr,h2,hsz]
 have hb':(xs.length+ys.length)*i.bytes<=140737488355328:=by rw[h3]; exact hb
 have hle:xs.length+ys.length<=(xs.length+ys.length)*ed.bytes:=Nat.le_mul_of_pos_right _ (by omega);have run:=S.grow hy0 ⟨b,off,none⟩ xs.length xs.length olds hol (λj v hj=>by rw[Addr.add_none]; exact hat j v hj) (by omega) (by omega) (growslice_fits (by omega) hb');have hcp:=grownCap_ge c.w (xs.length+ys.length) xs.length e;refine⟨_,_,run,Z7e hT hi hp (w0:=c.w.drew) (Grows.drew _) (λhext=>?_) ?_ h⟩
 ·exact⟨by rw[List.length_append]; simp only[maxN]; omega,.inr ⟨_,_,olds++news,(Builtin.zeroCells z.cells (grownCap c.w (xs.length+ys.length) xs.length e - (xs.length+ys.length))).toList,Z3g hT hi hp,heap_alloc_new c.w.drew _,by simp,Rows.mono (λy cs hh=>K.rep_mono hext.ok ek y cs hh) (hxr.append hrows)⟩⟩
 ·show SV.rel _ (.osl tgt 0 _) _;simp only[SV.rel,Z7f hT hi hp];refine⟨_,_,rfl,hcp,⟨by simp,by simpa using hcp⟩,.inr ⟨_,_,Z3g hT hi hp,by simp,heap_alloc_new c.w.drew _,?_⟩⟩;simp only[Array.size_append,List.size_toArray,size_zeroCells,hnl,hol,h6,Nat.zero_add,<- hsz,<- h2,<- Nat.add_mul];have:xs.length+ys.length+(grownCap c.w (xs.length+ys.length) xs.length e - (xs.length+ys.length))=grownCap c.w (xs.length+ys.length) xs.length e:=by omega
  rw[this]; exact Nat.le_refl _
theorem Zt7 {t ty e:TypeId}(hf:P.underlying t=some (.slice e)){ed:TD}(he:cx.tab e=some ed){i:TypeInfo}{z:Value}(h1:P.info? e=some i)(h4:i.zero=some z){ek:K}(hsz:ek.sz=i.size){ys:List ek.T}{B:Option Addr}{cap:Nat}{news:List Value}
  (hrows:Rows (ek.rep c.w c.ok) ys news) (hat:ys=[]∨∃ b off,B=some ⟨b,off,none⟩/\At c.w b off news):Src P c.w t t ty e i z (.slice B ys.length cap) ys.length news:=by
 have hnl:news.length=ys.length*i.size:=by rw[Rows.len (λy cs=>K.rep_len ek y cs) hrows,hsz]
 have at':0<ys.length->∃ b off,B=some ⟨b,off,none⟩/\∀ j v,news[j]?=some v->c.w.cell? ((⟨b,off,none⟩:Addr).add j)=some v:=by
  intro h0;rcases hat with rfl | ⟨b,off,rfl,hat⟩
  ·simp at h0
  ·exact⟨b,off,rfl,λj v hv=>by rw[Addr.add_none]; exact hat j v hv⟩
 refine⟨λh0 A m cp hm=>?_,λh0 a1 a2=>?_,λh0 b sLen sCap olds a1 a2 a3 a4 a5=>?_,λh0 g sLen sCap cur a1 a2 a3=>?_⟩
 ·rw[h0]; exact Z11a hT c.w (ty:=ty) hf he A B m cp cap hm
 ·obtain⟨b,off,rfl,hnews⟩:=at' h0;exact run_append_nil (P:=P) c.w t ty e i z hf h1 h4 ⟨b,off,none⟩ ys.length cap news hnl hnews h0 a1 a2
 ·obtain⟨b',off,rfl,hnews⟩:=at' h0;exact run_append_grow (P:=P) c.w t ty e i z hf h1 h4 b sLen sCap olds a1 a2 ⟨b',off,none⟩ ys.length cap news hnl hnews a3 a4 a5
 ·obtain⟨b,off,rfl,hnews⟩:=at' h0;exact run_append_room (P:=P) c.w t ty e i hf h1 g sLen sCap cur a1 ⟨b,off,none⟩ ys.length cap news hnl hnews (λu hu=>Rows.every (p:=λv=>v.oneCell'=true) (λy cs hy v hv=>Zoq hT hi ek y cs hy v hv) hrows u hu) a2 a3
theorem Z1et {t ty:TypeId}{x y:EV}{u uy:Value}(h:(Z6h cx c.heap t x y tgt).wp k)(rx:x.rel c u)(ry:y.rel c uy):Runs P c (Builtin.append_ #[t,t] ty #[u,uy]) k:=by
 unfold Z6h at h;split at h
 case h_2=>exact h.elim
 rename_i e sz by_ z0 kd yv ht;have hf:P.underlying t=some (.slice e):=(hT t _ ht).k;have ry':yv.rel c uy:=ry;split at h
 case h_2=>exact h.elim
 rename_i ed he;obtain⟨i,z,h1,h2,h3,h4,h5,h6⟩:=(hT e ed he).info;split at h
 case isFalse=>exact h.elim
 rename_i hq0;obtain⟨hsz1,hby1⟩:=hq0;split at h
 ·
  rename_i hv;obtain⟨A,rfl⟩:=Z11b hT hi hv rx;split at h
  case h_2=>exact h.elim
  rename_i ek hk;split at h
  case isFalse=>exact h.elim
  rename_i hsz;split at h
  case h_2=>exact h.elim
  rename_i ys hys;obtain⟨hb,h⟩:=h;obtain⟨B,cap,news,rfl,hmx,hrows,hat⟩:=Zep hT hi hys ry';exact Zlz hT hi hp hsz1 hby1 h2 h3 h6 hsz (Zt7 hT hi hp hf he h1 h4 (by omega) hrows hat) hmx hrows hb h
 split at h
 ·
  rename_i id len hnv;split at h
  case h_2=>exact h.elim
  rename_i rty ek xs ho;split at h
  case isFalse=>exact h.elim
  rename_i hq;obtain⟨rfl,hsz,hne⟩:=hq;split at h
  case h_2=>exact h.elim
  rename_i ys0 hys;obtain⟨ys,rfl⟩:∃ ys:List ek.T,ys=ys0:=⟨ys0,rfl⟩;obtain⟨⟨rfl,hb⟩,h⟩:=h;obtain⟨B,cap,news,rfl,hmx,hrows,hat⟩:=Zep hT hi hys ry';exact Z11c hT hi hp hsz1 hby1 h2 h3 h6 hsz (Zt7 hT hi hp hf he h1 h4 (by omega) hrows hat) hmx hrows rx ho hne hb h
 ·
  rename_i ek xs hnv;split at h
  case isFalse=>exact h.elim
  rename_i hsz;split at h
  case h_2=>exact h.elim
  rename_i ys0 hys;obtain⟨ys,rfl⟩:∃ ys:List ek.T,ys=ys0:=⟨ys0,rfl⟩;obtain⟨⟨hx0,hy0,hb⟩,h⟩:=h;obtain⟨B,cap,news,rfl,hmx,hrows,hat⟩:=Zep hT hi hys ry';exact Z1id hT hi hp hsz1 hby1 h2 h3 h6 hsz (Zt7 hT hi hp hf he h1 h4 (by omega) hrows hat) hmx hrows rx hx0 hy0 hb h
 ·exact h.elim
end
end
section
def Z1q(s:ByteArray):List Int:=s.data.toList.map λb=>(b.toNat:Int)
theorem Zhw(s:ByteArray):(Z1q s).length=s.size:=by
 unfold Z1q; rw[List.length_map,Array.length_toList]; rfl
def bytesOf:EV->Option (List Int)
 | .x (.one (.val (.string s)))=>some (Z1q s)
 | .x (.one (.bstr bs))=>some bs
 | _=>none
theorem Z9u {c:RC}{v:EV}{bs:List Int}{u:Value}(h:bytesOf v=some bs)(r:v.rel c u):∃ s:ByteArray,u=.string s/\Z1q s=bs:=by
 unfold bytesOf at h;split at h
 ·rename_i s; cases h; exact⟨s,r,rfl⟩
 ·rename_i bs'; cases h; exact r
 ·cases h
def Zt8(n:Int):Int:=((n.toNat % 256:Nat):Int)
def Zwd(h:List HObj)(v:EV):Res:=match v with
 | .x xv=>match xv.take h (.slice (.int .u8))with
  | some xs=>.ret (.x (.one (.bstr (List.map Zt8 xs)))) []
  | none=>.fail
 | _=>.fail
def EV.lv:EV->Option LV
 | .x (.one (.val v))=>some (.val v)
 | .x (.one (.ref id off))=>some (.ref id off)
 | .x (.one (.data k y))=>some (.data k y)
 | _=>none
def lvs:List EV->Option (List LV)
 | []=>some []
 | e :: r=>match e.lv with
  | some l=>match lvs r with
   | some ls=>some (l :: ls)
   | none=>none
  | none=>none
def Zbd(f:Fn)(first caps:List EV):Res:=match f with
 | .func f=>match lvs first,lvs caps with
  | some a,some b=>.ret (.x (.one (.clo f a b))) []
  | _,_=>.fail
 | _=>.fail
def Z59(cx:Cx)(h:List HObj)(t:TypeId)(x y:EV)(tgt:Nat):Res:=match cx.tab t,bytesOf y with
 | some ⟨.slice e,_,_,_,_⟩,some bs=>match cx.tab e with
  | some ed=>if ed.sz=1/\ed.bytes=1 then
    (if Z113 x then .ask (bs.length<=140737488355328) λ_=>.ret (.x (.one (.osl tgt 0 bs.length))) [(tgt,.row .rw e (.int .u8) bs)]
    else match x with
    | .x (.one (.osl id 0 len))=>match h[id]? with
     | some (.row .rw ty ek xs)=>if ty=e/\id≠tgt then(if q:ek=.int .u8 then
       .ask (len=List.length xs/\List.length xs+bs.length<=140737488355328) λ_=>.ret (.x (.one (.osl tgt 0 (List.length xs+bs.length)))) [(id,.dead),(tgt,.row .rw e (.int .u8) (@HAppend.hAppend (List Int) (List Int) (List Int) _ (q ▸ xs:List (K.int .u8).T) bs))]
       else .fail)else .fail
     | _=>.fail
    | _=>.fail)else .fail
  | none=>.fail
 | _,_=>.fail
def Zak(h:List HObj)(ek:K)(y:EV):Option (List ek.T):=match bytesOf y with
 | some bs=>if q:ek=.int .u8 then some (q.symm ▸ (bs:List (K.int .u8).T))else none
 | none=>match y with
  | .x yv=>yv.take h (.slice ek)
  | _=>none
def Zeq(cx:Cx)(h:List HObj)(t:TypeId)(x y:EV):Res:=match cx.tab t,x with
 | some ⟨.slice e,_,_,_,_⟩,.x (.one (.osl id off len))=>match cx.tab e,h[id]? with
  | some ed,some (.row .rw ty ek xs)=>if ed.sz=ek.sz then(match Zak h ek y with
    | some ys=>.ask (List.length (α:=ek.T) ys<=len) λ_=>.ret (.val (.int .i64 (List.length (α:=ek.T) ys))) [(id,.row .rw ty ek (List.take (α:=ek.T) off xs++ys++List.drop (α:=ek.T) (off+List.length (α:=ek.T) ys) xs))]
    | none=>.fail)else .fail
  | _,_=>.fail
 | _,_=>.fail
theorem Z1o4(ns:List Int):∀ s:ByteArray,Z1q (ns.foldl (λr n=>r.push (UInt8.ofNat n.toNat)) s)=Z1q s++ns.map Zt8:=by
 induction ns with
 | nil=>intro s; simp
 | cons n ns ih=>
  intro s;rw[List.foldl_cons,ih]
  have:Z1q (s.push (UInt8.ofNat n.toNat))=Z1q s++[Zt8 n]:=by
   unfold Z1q ByteArray.push Zt8;simp[UInt8.toNat_ofNat']
  rw[this,List.map_cons];simp
section
variable {P:Program} {cx:Cx} (hT:∀ t d,cx.tab t=some d->d.Fits P t) {c:RC} (hi:c.Inv) {k:EV->List (Nat × HObj)->Prop}
include hT hi
theorem Z197:∀ {xs:List Int}{cs:List Value}{w:World}{ok:Nat->Prop},Rows ((K.int .u8).rep w ok) xs cs->cs=xs.map (Value.int .u8)
 | [],cs,w,ok,h=>h
 | x :: xs,cs,w,ok,⟨c1,c2,e,h1,h2⟩=>by
  have e1:c1=[.int .u8 x]:=h1;rw[e,e1,Z197 h2]; rfl
omit hT hi in
theorem Z1u0 {sT d e:TypeId}(hs:P.underlying sT=some (.slice e))(he:P.underlying e=some (.int .u8))(hd:P.underlying d=some .string){xs:List Int}{A:Option Addr}(cap:Nat){news:List Value}(hn:news=xs.map (Value.int .u8))
  (hat:xs=[]∨∃ b off,A=some ⟨b,off,none⟩/\At c.w b off news):∃ s:ByteArray,(Go.convert sT d (.slice A xs.length cap)).run P c.w=.ok (.string s) c.w/\Z1q s=xs.map Zt8:=by
 have e0:=run_convert_bytes_string (P:=P) c.w sT d e A xs.length cap hs he hd
 cases A with
 | none=>
  have hx:xs=[]:=by
   rcases hat with h | ⟨b,off,h,_⟩
   ·exact h
   ·cases h
  subst hx;refine⟨.empty,by rw[e0]; simp[Conv.bytesToString],rfl⟩
 | some a=>
  have hl:(loadCells a xs.length).run P c.w=.ok (xs.map (Value.int .u8)).toArray c.w:=by
   have hlen:news.length=xs.length:=by rw[hn]; simp
   have:=run_loadCells_list (P:=P) c.w a news (λj v hv=>by
    rcases hat with h | ⟨b,off,h,hat⟩
    ·rw[h]at hn; rw[hn]at hv; simp at hv
    ·cases h; rw[Addr.add_none]; exact hat j v hv)
   rw[hlen]at this;rw[this,hn]
  refine⟨_,by rw[e0]; exact run_bytesToString (P:=P) c.w a _ cap xs hl,?_⟩;rw[Z1o4];rfl
theorem Z1o5 {sT d e:TypeId}(hs:P.underlying sT=some (.slice e))(he:P.underlying e=some (.int .u8))(hd:P.underlying d=some .string){v:EV}{u:Value}(h:(Zwd c.heap v).wp k)(r:v.rel c u):Runs P c (Go.convert sT d u) k:=by
 unfold Zwd at h;split at h
 ·rename_i xv;split at h
  ·rename_i xs hxs;have r':xv.rel c u:=r;obtain⟨A,cap,news,rfl,hmx,hrows,hat⟩:=Zep hT hi hxs r';obtain⟨st,h1,h2⟩:=Z1u0 (P:=P) (c:=c) hs he hd cap (Z197 hT hi hrows) hat;exact Runs.pure hi h1 h ⟨st,rfl,h2⟩
  ·exact h.elim
 ·exact h.elim
theorem Z16e {f:Fn}{fe ce:List EV}{fs cs:Array Value}(h:(Zbd f fe ce).wp k)(rf:All2 (EV.rel c) fe fs.toList)(rc:All2 (EV.rel c) ce cs.toList):Runs P c (Instr.makeFunc f fs cs) k:=by
 have one:∀ {e:EV}{l:LV}{v:Value},e.lv=some l->e.rel c v->l.rel c v:=by
  intro e l v he r;unfold EV.lv at he;split at he
  ·cases he; exact r
  ·rename_i id off; cases he;have r':SV.rel c (.ref id off) v:=r;simp only[SV.rel]at r';simp only[LV.rel];exact r'
  ·cases he; exact r
  ·cases he
 have all:∀ {es:List EV}{ls:List LV}{vs:List Value},lvs es=some ls->All2 (EV.rel c) es vs->All2 (LV.rel c) ls vs:=by
  intro es
  induction es with
  | nil=>intro ls vs he ha; cases he; cases ha; exact .nil
  | cons e es ih=>
   intro ls vs he ha;simp only[lvs]at he;split at he
   ·rename_i l hl;split at he
    ·rename_i ls' hls
     cases he
     cases ha with
     | cons h1 h2=>exact .cons (one hl h1) (ih hls h2)
    ·cases he
   ·cases he
 unfold Zbd at h;split at h
 ·split at h
  ·rename_i a b ha hb;exact Runs.pure hi (v:=.func (.func _) fs cs) rfl h ⟨fs,cs,rfl,all ha rf,all hb rc⟩
  ·exact h.elim
 ·exact h.elim
theorem Z1rq {w:World}{t tu ty e:TypeId}(hf:P.underlying t=some (.slice e))(hu:P.underlying tu=some .string){i:TypeInfo}{z:Value}(h1:P.info? e=some i)(h2:i.size=1)(h4:i.zero=some z)(s:ByteArray):
  Src P w t tu ty e i z (.string s) s.size (Lib.strCells s):=by
 have e1:(s.data.map (λb=>Value.int .u8 b.toNat))=(Lib.strCells s).toArray:=by
  unfold Lib.strCells; apply Array.ext'; simp
 refine⟨λh0 A m cp hm=>?_,λh0 a1 a2=>?_,λh0 b sLen sCap olds a1 a2 a3 a4 a5=>?_,λh0 g sLen sCap cur a1 a2 a3=>?_⟩
 ·have hf2:=Lib.run_firstCells_string (P:=P) w i.size s;rw[h0]at hf2;have hnil:Lib.strCells s=[]:=List.eq_nil_of_length_eq_zero (by rw[Lib.strCells_length,h0]);rw[hnil]at hf2
  cases A with
  | none=>simp[Builtin.append_,run_underlying hf,run_underlying hu,sizeOf,typeInfo,h1,Builtin.lenOf,h0,hm,hf2]
  | some a=>simp[Builtin.append_,run_underlying hf,run_underlying hu,sizeOf,typeInfo,h1,Builtin.lenOf,h0,hm,hf2,storeCells]
 ·rw[<- e1];exact run_append_nil_string (P:=P) w t tu ty e i z hf hu h1 h4 s h0 a1 a2
 ·exact Lib.run_append_grow_string (P:=P) w t tu ty e i z hf hu h1 h4 b sLen sCap olds a1 a2 s a3 a4 a5
 ·have:=Lib.run_append_room_string (P:=P) w t tu ty e i hf hu h1 h2 g sLen sCap cur a1 s a2 (by rw[h2,Lib.strCells_length]at a3; omega);rw[h2,Lib.strCells_length,Nat.mul_one];exact this
omit hT hi in
theorem Z198(s:ByteArray)(w:World)(ok:Nat->Prop):Rows ((K.int .u8).rep w ok) (Z1q s) (Lib.strCells s):=by
 unfold Z1q Lib.strCells;generalize s.data.toList=l
 induction l with
 | nil=>rfl
 | cons b l ih=>exact⟨[.int .u8 b.toNat],_,rfl,rfl,ih⟩
theorem Z1bf {tgt:Nat}(hp:c.heap[tgt]?=some .pend){t tu ty:TypeId}(htu:P.underlying tu=some .string){x y:EV}{u uy:Value}(h:(Z59 cx c.heap t x y tgt).wp k)(rx:x.rel c u)(ry:y.rel c uy):Runs P c (Builtin.append_ #[t,tu] ty #[u,uy]) k:=by
 unfold Z59 at h;split at h
 case h_2=>exact h.elim
 rename_i e sz by_ z0 kd bs ht hbs;have hf:P.underlying t=some (.slice e):=(hT t _ ht).k;obtain⟨s,rfl,rfl⟩:=Z9u hbs ry;split at h
 case h_2=>exact h.elim
 rename_i ed he;obtain⟨i,z,h1,h2,h3,h4,h5,h6⟩:=(hT e ed he).info;split at h
 case isFalse=>exact h.elim
 rename_i hq0;obtain⟨hsz1,hby1⟩:=hq0;have hS:=Z1rq hT hi (w:=c.w) (ty:=ty) hf htu h1 (by omega) h4 s;rw[<- Zhw]at hS;have hrows:=Z198 s c.w c.ok;split at h
 ·rename_i hv;obtain⟨A,rfl⟩:=Z11b hT hi hv rx;obtain⟨hb,h⟩:=h;have b1:(Z1q s).length<=maxN:=by simp only[maxN]; omega
  have b2:(Z1q s).length*ed.bytes<=140737488355328:=by rw[hby1]; omega
  exact Zlz hT hi hp (ek:=.int .u8) (ys:=Z1q s) (by omega) (by omega) h2 h3 h6 hsz1 hS b1 hrows b2 h
 ·split at h
  case h_2=>exact h.elim
  rename_i id len hnv;split at h
  case h_2=>exact h.elim
  rename_i rty ek xs ho;split at h
  case isFalse=>exact h.elim
  rename_i hq;obtain⟨rfl,hne⟩:=hq;split at h
  case isFalse=>exact h.elim
  rename_i q;subst q;obtain⟨⟨rfl,hb⟩,h⟩:=h;obtain⟨xs,rfl⟩:∃ l:List Int,l=xs:=⟨xs,rfl⟩;have hb:xs.length+(Z1q s).length<=140737488355328:=hb;have b1:(Z1q s).length<=maxN:=by simp only[maxN]; omega
  have b2:(xs.length+(Z1q s).length)*ed.bytes<=140737488355328:=by rw[hby1]; omega
  exact Z11c hT hi hp (ek:=.int .u8) (ys:=Z1q s) (by omega) (by omega) h2 h3 h6 hsz1 hS b1 hrows rx ho hne b2 h
theorem Z1bg {ek:K}{y:EV}{ys:List ek.T}{uy:Value}(h:Zak c.heap ek y=some ys)(r:y.rel c uy):
  ∃ news,Rows (ek.rep c.w c.ok) ys news/\ys.length<=maxN+maxN*0+ys.length/\(∀ w',(Builtin.lenOf uy).run P w'=.ok ys.length w')/\∀ m,m=ys.length->(Builtin.firstCells ek.sz m uy).run P c.w=.ok news.toArray c.w:=by
 unfold Zak at h
 cases hbs:bytesOf y with
 | some bs=>
  rw[hbs]at h;simp only at h;split at h
  ·rename_i q;subst q;obtain rfl:=Option.some.inj h;obtain⟨s,rfl,rfl⟩:=Z9u hbs r;refine⟨Lib.strCells s,Z198 s _ _,by omega,λw'=>?_,λm hm=>?_⟩
   ·show _=Result.ok (Z1q s).length w';rw[Zhw]; rfl
   ·have hm:m=(Z1q s).length:=hm;rw[Zhw]at hm;rw[hm];exact Lib.run_firstCells_string (P:=P) c.w _ s
  ·cases h
 | none=>
  rw[hbs]at h
  cases y with
  | tup _=>cases h
  | x yv=>
   have h:yv.take c.heap (.slice ek)=some ys:=h;obtain⟨A,cap,news,rfl,hmx,hrows,hat⟩:=Zep hT hi h (r:yv.rel c uy);refine⟨news,hrows,by omega,λw'=>rfl,λm hm=>?_⟩;have hnl:news.length=ys.length*ek.sz:=Rows.len (λy cs=>K.rep_len ek y cs) hrows;subst hm;rcases hat with rfl | ⟨b,off,rfl,hat⟩
   ·have hn0:news=[]:=List.eq_nil_of_length_eq_zero (by rw[hnl]; simp);subst hn0
    cases A with
    | none=>rfl
    | some a=>simp[Builtin.firstCells,loadCells,loadCellsFrom]
   ·have:=run_firstCells_some (P:=P) c.w ek.sz ys.length ⟨b,off,none⟩ ys.length cap news hnl (λj v hv=>by rw[Addr.add_none]; exact hat j v hv);exact this
theorem Z1lh {t tu ty:TypeId}{x y:EV}{u uy:Value}(h:(Zeq cx c.heap t x y).wp k)(rx:x.rel c u)(ry:y.rel c uy):Runs P c (Builtin.copy_ #[t,tu] ty #[u,uy]) k:=by
 unfold Zeq at h;split at h
 case h_2=>exact h.elim
 rename_i e sz by_ z0 kd id off len ht;have hf:P.underlying t=some (.slice e):=(hT t _ ht).k;split at h
 case h_2=>exact h.elim
 rename_i ed ty' ek xs he ho;split at h
 case isFalse=>exact h.elim
 rename_i hsz;split at h
 case h_2=>exact h.elim
 rename_i ys0 hys;obtain⟨ys,rfl⟩:∃ ys:List ek.T,ys=ys0:=⟨ys0,rfl⟩;obtain⟨hle,h⟩:=h;obtain⟨news,hrows,_,hlen,hcells⟩:=Z1bg hT hi (P:=P) hys ry;have hnl:news.length=ys.length*ek.sz:=Rows.len (λy cs=>K.rep_len ek y cs) hrows;obtain⟨A,cap,rfl,hc,hl,hcase⟩:=Zhi (s:=.junk) hT hi ho rx;have hs:=Z31 hT hi he c.w;have hmin:Nat.min ys.length len=ys.length:=Nat.min_eq_left hle
 have run:∀ w',(match A with | some a=>storeCells a news 0 | none=>pure ()).run P c.w=.ok () w'->(Builtin.copy_ #[t,tu] ty #[.slice A len cap,uy]).run P c.w=.ok (goInt ys.length) w':=by
  intro w' hw;have hc1:=hcells ys.length rfl
  cases A with
  | none=>
   simp only[Sem.run_pure]at hw;obtain rfl:=(Result.ok.inj hw).2;simp[Builtin.copy_,run_underlying hf,hlen,hmin,hs,hsz,hc1]
  | some a=>
   simp[Builtin.copy_,run_underlying hf,hlen,hmin,hs,hsz,hc1,hw]
 by_cases hz:ys=[]
 ·subst hz;have hn0:news=[]:=List.eq_nil_of_length_eq_zero (by rw[hnl]; simp);subst hn0;have hrun:=run c.w (by cases A <;> simp[storeCells]);have e:List.take off xs++[]++List.drop (off+([]:List ek.T).length) xs=xs:=by simp
  have hset:c.heap.set id (.row .rw ty' ek (List.take off xs++[]++List.drop (off+([]:List ek.T).length) xs))=c.heap:=by
   rw[e];apply List.ext_getElem?;intro j;by_cases hj:id=j
   ·subst hj; rw[Z3p ho,ho]
   ·rw[Z2t hj]
  exact⟨_,_,hrun,_,_,c,h,rfl,by show c.heap=_; simp only[applyU,List.foldl_cons,List.foldl_nil]; exact hset.symm,Ext.refl c,hi,rfl⟩
 ·have hpos:0<ys.length:=List.length_pos_iff.2 hz;rcases hcase with h0 | ⟨b,vs,hb,rfl,hv,hvs⟩
  ·omega
  obtain⟨hmx,vs',f,re,h1,h2,h3⟩:=Zaj hT hi ho hb;rw[hv]at h1; cases h1;have hR:∀(y:ek.T) cs,K.rep c.w c.ok ek y cs->cs.length=ek.sz:=λy cs=>K.rep_len ek y cs;have hfl:=Rows.len hR h3;have hvl:vs.toList.length=f.length+re.length:=by rw[h2,List.length_append]
  simp only[Array.length_toList]at hvl
  have hin:off*ek.sz+ys.length*ek.sz<=f.length:=by
   rw[hfl,<- Nat.add_mul];exact Nat.mul_le_mul_right _ (by omega)
  have hones:∀ v ∈ news,v.oneCell'=true:=λv hv=>Rows.every (p:=λv=>v.oneCell'=true) (λy cs hy v hv=>Zoq hT hi ek y cs hy v hv) hrows v hv;obtain⟨w',hst,hw⟩:=Zd4 (P:=P) news c.w b (off*ek.sz) 0 ty' vs hv hones (by simp only[Nat.add_zero]; omega);simp only[Nat.add_zero]at hw;have hrun:=run w' hst
  have hszs:(Z6l vs.toList (off*ek.sz) news).toArray.size=vs.size:=by
   simp only[List.size_toArray];rw[Zjl (by simp only[Array.length_toList]; omega)]; simp
  have hlen2:(List.take off xs++ys++List.drop (off+ys.length) xs).length=xs.length:=by simp; omega
  have he2:=Ext.store (o':=.row .rw ty' ek (List.take off xs++ys++List.drop (off+ys.length) xs)) ho rfl hb hv hw hszs (.inr ⟨.rw,_,rfl,hlen2,.inl rfl⟩) rfl;refine⟨_,_,hrun,_,_,_,h,rfl,rfl,he2,RC.Inv.store hi ho rfl hb hv hw hszs (.inr ⟨.rw,_,rfl,hlen2,.inl rfl⟩) rfl ?_,rfl⟩;refine⟨by rw[hlen2]; exact hmx,.inr ⟨b,_,f.take (off*ek.sz)++news++f.drop (off*ek.sz+news.length),re,hb,hw.there,?_,?_⟩⟩
  ·simp only[Z6l,h2];rw[List.take_append_of_le_length (by omega),List.drop_append_of_le_length (by omega)];simp
  ·have t1:=Rows.take hR off h3;have t2:=Rows.drop hR (off+ys.length) h3;rw[Nat.add_mul,<- hnl]at t2;exact Rows.mono (λy cs hh=>K.rep_mono he2.ok ek y cs hh) ((t1.append hrows).append t2)
end
end
section
theorem Z199 {P:Program}(w:World)(kd:IntKind)(i:Int)(y:Nat)(code:BoundsCode)(h:0<=i/\i<=y):(Instr.sliceBound (.int kd i) y code).run P w=.ok i.toNat w:=by
 simp[Instr.sliceBound,asIntOf,h.1,h.2]
theorem Zm0 {c:RC}{d:Int}{e:Option EV}{u:Option Value}{n:Int}(h:bnd d e=some n)(hs:e.isSome=u.isSome)(r:∀ a v,e=some a->u=some v->a.rel c v):
  (e=none/\u=none/\n=d)∨∃ kd,u=some (.int kd n):=by
 unfold bnd at h;split at h
 ·cases h
  cases u with
  | none=>exact .inl ⟨rfl,rfl,rfl⟩
  | some v=>cases hs
 ·rename_i kd m
  cases h
  cases u with
  | none=>cases hs
  | some v=>exact .inr ⟨kd,congrArg some (r _ v rfl rfl)⟩
 ·cases h
section
variable {P:Program} {cx:Cx} (hT:∀ t d,cx.tab t=some d->d.Fits P t) {c:RC} (hi:c.Inv) {k:EV->List (Nat × HObj)->Prop}
include hT hi
theorem Zot(isS:Bool){len cap:Nat}{lo hi':Option EV}{ul uh:Option Value}{l r:Int}(h1:bnd 0 lo=some l)(h2:bnd len hi'=some r)(s1:lo.isSome=ul.isSome)(s2:hi'.isSome=uh.isSome)
  (r1:∀ a v,lo=some a->ul=some v->a.rel c v) (r2:∀ a v,hi'=some a->uh=some v->a.rel c v) (h0:0<=l) (hlr:l<=r) (hr:r<=(cap:Int)):
  (Instr.sliceBounds isS len cap ul uh none).run P c.w=.ok (l.toNat,r.toNat,cap) c.w:=by
 have hb:=λkd (i:Int) (y:Nat) code (h:0<=i/\i<=y)=>Z199 (P:=P) c.w kd i y code h;rcases Zm0 h1 s1 r1 with⟨rfl,rfl,rfl⟩ | ⟨k1,rfl⟩ <;> rcases Zm0 h2 s2 r2 with⟨rfl,rfl,rfl⟩ | ⟨k2,rfl⟩
 ·simp[Instr.sliceBounds]
 ·simp[Instr.sliceBounds,hb k2 r cap _ ⟨by omega,by omega⟩]
 ·simp[Instr.sliceBounds,hb k1 l len _ ⟨h0,by omega⟩]
 ·simp[Instr.sliceBounds,hb k2 r cap _ ⟨by omega,by omega⟩,hb k1 l r.toNat _ ⟨h0,by omega⟩]
theorem Zy0(isS:Bool){len cap:Nat}{lo hi':Option EV}{m:EV}{ul uh:Option Value}{um:Value}{l r q:Int}(h1:bnd 0 lo=some l)(h2:bnd len hi'=some r)(h3:bnd 0 (some m)=some q)(s1:lo.isSome=ul.isSome)(s2:uh.isSome=true)(s2':hi'.isSome=uh.isSome)
  (r1:∀ a v,lo=some a->ul=some v->a.rel c v) (r2:∀ a v,hi'=some a->uh=some v->a.rel c v) (r3:m.rel c um) (h0:0<=l) (hlr:l<=r) (hr:r<=q) (hq:q<=(cap:Int)):
  (Instr.sliceBounds isS len cap ul uh (some um)).run P c.w=.ok (l.toNat,r.toNat,q.toNat) c.w:=by
 have hb:=λkd (i:Int) (y:Nat) code (h:0<=i/\i<=y)=>Z199 (P:=P) c.w kd i y code h;rcases Zm0 (u:=some um) h3 rfl (λa v e1 e2=>by cases e1; cases e2; exact r3)with⟨h,_,_⟩ | ⟨k3,h3⟩
 ·cases h
 ·cases h3
  rcases Zm0 h1 s1 r1 with⟨rfl,rfl,rfl⟩ | ⟨k1,rfl⟩ <;> rcases Zm0 h2 s2' r2 with⟨rfl,rfl,rfl⟩ | ⟨k2,rfl⟩
  ·cases s2
  ·simp[Instr.sliceBounds,hb k3 q cap _ ⟨by omega,by omega⟩,hb k2 r q.toNat _ ⟨by omega,by omega⟩]
  ·cases s2
  ·simp[Instr.sliceBounds,hb k3 q cap _ ⟨by omega,by omega⟩,hb k2 r q.toNat _ ⟨by omega,by omega⟩,hb k1 l r.toNat _ ⟨h0,by omega⟩]
theorem Z1ie {t:TypeId}{x:EV}{u:Value}{lo hi' mx:Option EV}{ul uh um:Option Value}(h:(Zai cx c.heap t x lo hi' mx).wp k)(rx:x.rel c u)(s1:lo.isSome=ul.isSome)(s2:hi'.isSome=uh.isSome)(s3:mx.isSome=um.isSome)
  (r1:∀ a v,lo=some a->ul=some v->a.rel c v) (r2:∀ a v,hi'=some a->uh=some v->a.rel c v) (r3:∀ a v,mx=some a->um=some v->a.rel c v) (hmx:um.isSome=true->uh.isSome=true):
  Runs P c (Instr.sliceAt t u ul uh um) k:=by
 unfold Zai at h;split at h
 ·rename_i e sz by_ z kd ht;have hf:P.underlying t=some (.slice e):=(hT t _ ht).k;split at h
  case h_2=>exact h.elim
  rename_i ed he;have hs:=Z31 hT hi he c.w;split at h
  ·rename_i ek xs0;obtain⟨xs,rfl⟩:∃ xs:List ek.T,xs=xs0:=⟨xs0,rfl⟩;split at h
   case isFalse=>exact h.elim
   rename_i hsz;have r2':K.rep c.w c.ok (.slice ek) xs [u]:=rx;obtain⟨A,cap,e1,hc,hm,hcase⟩:=r2';obtain rfl:=(List.cons.inj e1).1;split at h
   ·rename_i l r hl hr;obtain⟨⟨h0,h1,h2⟩,h⟩:=h
    cases um with
    | some _=>cases s3
    | none=>
     have hb:=Zot (P:=P) hT hi true hl hr s1 s2 r1 r2 h0 h1 (by omega:r<=(cap:Int));have hlen:(List.take (r - l).toNat (List.drop l.toNat xs)).length=r.toNat - l.toNat:=by rw[List.length_take,List.length_drop]; omega
     refine Runs.pure (v:=.slice (if cap=l.toNat then A else A.map (·.add (l.toNat*ek.sz))) (r.toNat - l.toNat) (cap - l.toNat)) hi ?_ h ?_
     ·simp[Instr.sliceAt,run_underlying hf,Instr.slice,hb,hs,hsz]
     ·show K.rep c.w c.ok (.slice ek) _ [_];refine⟨_,cap - l.toNat,by rw[hlen],by rw[hlen]; omega,by rw[hlen]; omega,?_⟩;by_cases hz:r.toNat - l.toNat=0
      ·left; exact List.eq_nil_of_length_eq_zero (by rw[hlen,hz])
      ·right;rcases hcase with rfl | ⟨b,off,vs,rfl,hok,hrows,hat⟩
       ·simp at h2; omega
       ·refine⟨b,off+l.toNat*ek.sz,(vs.drop (l.toNat*ek.sz)).take ((r - l).toNat*ek.sz),?_,hok,Rows.take (λy cs=>K.rep_len ek y cs) _ (Rows.drop (λy cs=>K.rep_len ek y cs) _ hrows),hat.sub _ _⟩;rw[if_neg (by omega)];simp[Addr.add_none]
   ·rename_i l r m hl hr;split at h
    case h_2=>exact h.elim
    rename_i q hq;obtain⟨⟨rfl,rfl,rfl⟩,h⟩:=h
    cases um with
    | none=>cases s3
    | some um=>
     have hb:=Zy0 (P:=P) hT hi true hl hr hq s1 (hmx rfl) s2 r1 r2 (r3 _ _ rfl rfl) (Int.le_refl _) (Int.le_refl _) (Int.le_refl _) (by omega:(0:Int)<=(cap:Int));refine Runs.pure (v:=.slice A 0 0) hi ?_ h ⟨A,rfl⟩;simp[Instr.sliceAt,run_underlying hf,Instr.slice,hb,hs,hsz]
   ·exact h.elim
  ·rename_i id off len;split at h
   case h_2=>exact h.elim
   rename_i m ty ek xs ho;split at h
   case isFalse=>exact h.elim
   rename_i hsz;obtain⟨A,cap,rfl,hc,hlx,hcase⟩:=Zhi (s:=.junk) hT hi ho rx;split at h
   ·rename_i l r hl hr;obtain⟨⟨h0,h1,h2⟩,h⟩:=h
    cases um with
    | some _=>cases s3
    | none=>
     have hb:=Zot (P:=P) hT hi true hl hr s1 s2 r1 r2 h0 h1 (by omega:r<=(cap:Int));refine Runs.pure (v:=.slice (if cap=l.toNat then A else A.map (·.add (l.toNat*ek.sz))) (r.toNat - l.toNat) (cap - l.toNat)) hi ?_ h ?_
     ·simp[Instr.sliceAt,run_underlying hf,Instr.slice,hb,hs,hsz]
     ·show SV.rel c (.osl id (off+l.toNat) (r - l).toNat) _;simp only[SV.rel,ho];refine⟨_,cap - l.toNat,by congr 1; omega,by omega,by omega,?_⟩;by_cases hz:cap=l.toNat
      ·left; omega
      ·rcases hcase with h0 | ⟨b,vs,hb1,rfl,hv,hvs⟩
       ·omega
       ·refine .inr ⟨b,vs,hb1,?_,hv,?_⟩
        ·rw[if_neg hz];simp[Addr.add_none,Nat.add_mul]
        ·have:off+l.toNat+(cap - l.toNat)=off+cap:=by omega
         rw[this]; exact hvs
   ·rename_i l r mm hl hr;split at h
    case h_2=>exact h.elim
    rename_i q hq;obtain⟨⟨h0,h1,h2,rfl,h5⟩,h⟩:=h
    cases um with
    | none=>cases s3
    | some um=>
     have hb:=Zy0 (P:=P) hT hi true hl hr hq s1 (hmx rfl) s2 r1 r2 (r3 _ _ rfl rfl) h0 h1 (Int.le_refl _) (by omega:q<=(cap:Int));refine Runs.pure (v:=.slice (if q.toNat=l.toNat then A else A.map (·.add (l.toNat*ek.sz))) (q.toNat - l.toNat) (q.toNat - l.toNat)) hi ?_ h ?_
     ·simp[Instr.sliceAt,run_underlying hf,Instr.slice,hb,hs,hsz]
     ·show SV.rel c (.osl id (off+l.toNat) (q - l).toNat) _;simp only[SV.rel,ho];refine⟨_,q.toNat - l.toNat,by congr 1; omega,by omega,by omega,?_⟩;by_cases hz:q.toNat=l.toNat
      ·left; omega
      ·rcases hcase with h0 | ⟨b,vs,hb1,rfl,hv,hvs⟩
       ·omega
       ·refine .inr ⟨b,vs,hb1,?_,hv,?_⟩
        ·rw[if_neg hz];simp[Addr.add_none,Nat.add_mul]
        ·have:(off+l.toNat+(q.toNat - l.toNat))*ek.sz<=(off+cap)*ek.sz:=Nat.mul_le_mul_right _ (by omega);omega
   ·exact h.elim
  ·exact h.elim
 ·rename_i n e sz by_ z kd ht;have hf:P.underlying t=some (.array n e):=(hT t _ ht).k;split at h
  case h_2=>exact h.elim
  rename_i ed he;have hs:=Z31 hT hi he c.w;split at h
  case h_2=>exact h.elim
  rename_i id;split at h
  case h_2=>exact h.elim
  rename_i m ty ek xs ho;split at h
  case isFalse=>exact h.elim
  rename_i hsz;split at h
  case h_2=>exact h.elim
  rename_i l r hl hr;obtain⟨⟨h0,h1,h2,hn⟩,h⟩:=h;obtain⟨b,hb1,rfl⟩:=Z5d hT hi ho rfl rx;obtain⟨hmx',vs,f,re,g1,g2,g3⟩:=Zaj hT hi ho hb1
  cases um with
  | some _=>cases s3
  | none=>
   have hb:=Zot (P:=P) hT hi false hl hr s1 s2 r1 r2 h0 h1 h2;refine Runs.pure (v:=.slice (some (if n=l.toNat then⟨b,0,none⟩else(⟨b,0,none⟩:Addr).add (l.toNat*ek.sz))) (r.toNat - l.toNat) (n - l.toNat)) hi ?_ h ?_
   ·simp[Instr.sliceAt,run_underlying hf,Instr.sureAddr,hb,hs,hsz]
   ·show SV.rel c (.osl id l.toNat (r - l).toNat) _;simp only[SV.rel,ho];refine⟨_,n - l.toNat,by congr 1; omega,by omega,by omega,?_⟩;by_cases hz:n=l.toNat
    ·left; omega
    ·refine .inr ⟨b,vs,hb1,?_,g1,?_⟩
     ·rw[if_neg hz];simp[Addr.add_none]
     ·have:l.toNat+(n - l.toNat)=xs.length:=by omega
      rw[this];have h3:=Rows.len (λy cs=>K.rep_len ek y cs) g3;have h4:vs.toList.length=f.length+re.length:=by rw[g2,List.length_append]
      simp only[Array.length_toList]at h4;omega
 ·exact h.elim
end
end
end Go.Lift
