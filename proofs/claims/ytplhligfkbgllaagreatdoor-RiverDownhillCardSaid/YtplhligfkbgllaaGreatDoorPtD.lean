/- A part of the proof of RiverDownhillCard: an own lifter of code into plain terms, and plain laws. -/
import Derived.Test.YtplhligfkbgllaaGreatDoorProg
import Derived.LaidMore
import Derived.MakeChecks
import Derived.Test.YtplhligfkbgllaaGreatDoorRows
import Derived.ProofKit
import Derived.SevenTiedAt
import Derived.Test.YtplhligfkbgllaaGreatDoorPtC
set_option linter.unusedVariables false
set_option linter.unusedSimpArgs false
set_option linter.unusedSectionVars false
open Go.IntKind (i64 u64 u32 u8)
open Go.FloatKind (f64 f32)
namespace Go.Lift
open Go.Proofs
def Zn:List (Nat × TD):=[
 (72,⟨.arr 4 2,4,32,[.int .i64 0,.int .i64 0,.int .i64 0,.int .i64 0],some (.arr 4 (.int .i64))⟩),
 (138,⟨.struct [(0,3),(1,3),(2,3)],3,24,[.int .i64 0,.int .i64 0,.int .i64 0],some (.pair (.int .i64) (.pair (.int .i64) (.int .i64)))⟩),
 (95,⟨.struct [(0,3),(1,84),(2,49)],3,56,[.int .i64 0,.slice none 0 0,.slice none 0 0],some (.pair (.int .i64) (.pair (.slice (.pair (.int .i64) (.pair (.int .i64) (.pair (.int .i64) (.int .i64))))) (.slice (.int .i64))))⟩),
 (25,⟨.ptr 95,1,8,[.pointer none],some (.ptr (.pair (.int .i64) (.pair (.slice (.pair (.int .i64) (.pair (.int .i64) (.pair (.int .i64) (.int .i64))))) (.slice (.int .i64)))))⟩),
 (2,⟨.int .i64,1,8,[.int .i64 0],some (.int .i64)⟩),
 (3,⟨.int .i64,1,8,[.int .i64 0],some (.int .i64)⟩),
 (4,⟨.bool,1,1,[.bool false],some (.bool)⟩),
 (5,⟨.int .u8,1,1,[.int .u8 0],some (.int .u8)⟩),
 (9,⟨.str,1,16,[.string ⟨#[]⟩],none⟩),
 (201,⟨.int .u32,1,4,[.int .u32 0],some (.int .u32)⟩),
 (28,⟨.int .i64,1,8,[.int .i64 0],some (.int .i64)⟩),
 (70,⟨.int .u64,1,8,[.int .u64 0],some (.int .u64)⟩),
 (37,⟨.slice 59,1,24,[.slice none 0 0],some (.slice (.flt .f64))⟩),
 (22,⟨.slice 2,1,24,[.slice none 0 0],some (.slice (.int .i64))⟩),
 (60,⟨.slice 4,1,24,[.slice none 0 0],some (.slice (.bool))⟩),
 (39,⟨.struct [(0,37),(1,22),(2,22),(3,37),(4,2),(5,3)],6,112,[.slice none 0 0,.slice none 0 0,.slice none 0 0,.slice none 0 0,.int .i64 0,.int .i64 0],some (.pair (.slice (.flt .f64)) (.pair (.slice (.int .i64)) (.pair (.slice (.int .i64)) (.pair (.slice (.flt .f64)) (.pair (.int .i64) (.int .i64))))))⟩),
 (59,⟨.flt .f64,1,8,[.float .f64 0],some (.flt .f64)⟩),
 (73,⟨.arr 4 3,4,32,[.int .i64 0,.int .i64 0,.int .i64 0,.int .i64 0],some (.arr 4 (.int .i64))⟩),
 (118,⟨.int .u64,1,8,[.int .u64 0],some (.int .u64)⟩),
 (130,⟨.struct [(0,59),(1,59),(2,59)],3,24,[.float .f64 0,.float .f64 0,.float .f64 0],some (.pair (.flt .f64) (.pair (.flt .f64) (.flt .f64)))⟩),
 (131,⟨.arr 4 130,12,96,[.float .f64 0,.float .f64 0,.float .f64 0,.float .f64 0,.float .f64 0,.float .f64 0,.float .f64 0,.float .f64 0,.float .f64 0,.float .f64 0,.float .f64 0,.float .f64 0],some (.arr 4 (.pair (.flt .f64) (.pair (.flt .f64) (.flt .f64))))⟩),
 (92,⟨.arr 2 3,2,16,[.int .i64 0,.int .i64 0],some (.arr 2 (.int .i64))⟩),
 (105,⟨.arr 4 92,8,64,[.int .i64 0,.int .i64 0,.int .i64 0,.int .i64 0,.int .i64 0,.int .i64 0,.int .i64 0,.int .i64 0],some (.arr 4 (.arr 2 (.int .i64)))⟩),
 (169,⟨.arr 3 59,3,24,[.float .f64 0,.float .f64 0,.float .f64 0],some (.arr 3 (.flt .f64))⟩),
 (108,⟨.arr 3 3,3,24,[.int .i64 0,.int .i64 0,.int .i64 0],some (.arr 3 (.int .i64))⟩),
 (170,⟨.arr 3 108,9,72,[.int .i64 0,.int .i64 0,.int .i64 0,.int .i64 0,.int .i64 0,.int .i64 0,.int .i64 0,.int .i64 0,.int .i64 0],some (.arr 3 (.arr 3 (.int .i64)))⟩),
 (171,⟨.arr 6 170,54,432,[.int .i64 0,.int .i64 0,.int .i64 0,.int .i64 0,.int .i64 0,.int .i64 0,.int .i64 0,.int .i64 0,.int .i64 0,.int .i64 0,.int .i64 0,.int .i64 0,.int .i64 0,.int .i64 0,.int .i64 0,.int .i64 0,.int .i64 0,.int .i64 0,.int .i64 0,.int .i64 0,.int .i64 0,.int .i64 0,.int .i64 0,.int .i64 0,.int .i64 0,.int .i64 0,.int .i64 0,.int .i64 0,.int .i64 0,.int .i64 0,.int .i64 0,.int .i64 0,.int .i64 0,.int .i64 0,.int .i64 0,.int .i64 0,.int .i64 0,.int .i64 0,.int .i64 0,.int .i64 0,.int .i64 0,.int .i64 0,.int .i64 0,.int .i64 0,.int .i64 0,.int .i64 0,.int .i64 0,.int .i64 0,.int .i64 0,.int .i64 0,.int .i64 0,.int .i64 0,.int .i64 0,.int .i64 0],some (.arr 6 (.arr 3 (.arr 3 (.int .i64))))⟩),
 (49,⟨.slice 3,1,24,[.slice none 0 0],some (.slice (.int .i64))⟩),
 (109,⟨.arr 3 3,3,24,[.int .i64 0,.int .i64 0,.int .i64 0],some (.arr 3 (.int .i64))⟩),
 (111,⟨.arr 3 109,9,72,[.int .i64 0,.int .i64 0,.int .i64 0,.int .i64 0,.int .i64 0,.int .i64 0,.int .i64 0,.int .i64 0,.int .i64 0],some (.arr 3 (.arr 3 (.int .i64)))⟩),
 (112,⟨.arr 6 111,54,432,[.int .i64 0,.int .i64 0,.int .i64 0,.int .i64 0,.int .i64 0,.int .i64 0,.int .i64 0,.int .i64 0,.int .i64 0,.int .i64 0,.int .i64 0,.int .i64 0,.int .i64 0,.int .i64 0,.int .i64 0,.int .i64 0,.int .i64 0,.int .i64 0,.int .i64 0,.int .i64 0,.int .i64 0,.int .i64 0,.int .i64 0,.int .i64 0,.int .i64 0,.int .i64 0,.int .i64 0,.int .i64 0,.int .i64 0,.int .i64 0,.int .i64 0,.int .i64 0,.int .i64 0,.int .i64 0,.int .i64 0,.int .i64 0,.int .i64 0,.int .i64 0,.int .i64 0,.int .i64 0,.int .i64 0,.int .i64 0,.int .i64 0,.int .i64 0,.int .i64 0,.int .i64 0,.int .i64 0,.int .i64 0,.int .i64 0,.int .i64 0,.int .i64 0,.int .i64 0,.int .i64 0,.int .i64 0],some (.arr 6 (.arr 3 (.arr 3 (.int .i64))))⟩),
 (87,⟨.struct [(0,3),(1,84),(2,83),(3,85),(4,22),(5,37),(6,37)],7,136,[.int .i64 0,.slice none 0 0,.map none,.slice none 0 0,.slice none 0 0,.slice none 0 0,.slice none 0 0],some (.pair (.int .i64) (.pair (.slice (.pair (.int .i64) (.pair (.int .i64) (.pair (.int .i64) (.int .i64))))) (.pair (.map (.pair (.int .i64) (.int .i64)) (.int .i64)) (.pair (.slice (.arr 2 (.int .i64))) (.pair (.slice (.int .i64)) (.pair (.slice (.flt .f64)) (.slice (.flt .f64))))))))⟩),
 (24,⟨.ptr 87,1,8,[.pointer none],some (.ptr (.pair (.int .i64) (.pair (.slice (.pair (.int .i64) (.pair (.int .i64) (.pair (.int .i64) (.int .i64))))) (.pair (.map (.pair (.int .i64) (.int .i64)) (.int .i64)) (.pair (.slice (.arr 2 (.int .i64))) (.pair (.slice (.int .i64)) (.pair (.slice (.flt .f64)) (.slice (.flt .f64)))))))))⟩),
 (91,⟨.struct [(0,3),(1,3),(2,3),(3,3)],4,32,[.int .i64 0,.int .i64 0,.int .i64 0,.int .i64 0],some (.pair (.int .i64) (.pair (.int .i64) (.pair (.int .i64) (.int .i64))))⟩),
 (84,⟨.slice 91,1,24,[.slice none 0 0],some (.slice (.pair (.int .i64) (.pair (.int .i64) (.pair (.int .i64) (.int .i64)))))⟩),
 (85,⟨.slice 92,1,24,[.slice none 0 0],some (.slice (.arr 2 (.int .i64)))⟩),
 (83,⟨.map 124 3,1,8,[.map none],some (.map (.pair (.int .i64) (.int .i64)) (.int .i64))⟩),
 (124,⟨.struct [(0,3),(1,3)],2,16,[.int .i64 0,.int .i64 0],some (.pair (.int .i64) (.int .i64))⟩),
 (88,⟨.plain,1,8,[.nilFunc],none⟩),
 (89,⟨.slice 88,1,24,[.slice none 0 0],none⟩)]
theorem Z7:tabB Tryz.prog Zn=true:=by kernel_rfl
theorem Z8:Tryz.prog.follows .mixedOrders=true:=by kernel_rfl
def RbG:Z5n:=fun g=>match g with | 0=>some ⟨.arr 6 (.arr 3 (.arr 3 (.int .i64))),Zj⟩ | 4=>some ⟨.arr 6 (.arr 3 (.arr 3 (.int .i64))),Zj⟩ | _=>none
noncomputable def Zfp (f:Nat):Option InFn:=match f with
 | 167=>some ⟨Tryz.f167.ntmps,Tryz.f167.results.toList,Tryz.f167.body.getD .skip,{ loops:=fun _=>none,joins:=fun _=>none,inl:=inlL [167,180,188],unroll:=fun k=>some 4 }⟩
 | 180=>some ⟨Tryz.f180.ntmps,Tryz.f180.results.toList,Tryz.f180.body.getD .skip,{ loops:=fun _=>none,joins:=fun _=>none,inl:=inlL [167,180,188],unroll:=fun k=>some 4 }⟩
 | 188=>some ⟨Tryz.f188.ntmps,Tryz.f188.results.toList,Tryz.f188.body.getD .skip,{ loops:=fun _=>none,joins:=fun _=>none,inl:=inlL [167,180,188],unroll:=fun k=>some 4 }⟩
 | _=>none
theorem Zv5:Zzg Tryz.prog Zfp:=by
 intro f fn h
 unfold Zfp at h
 split at h
 ·cases h; exact ⟨Tryz.f167,Tryz.func167,rfl,rfl,by simp,by decide⟩
 ·cases h; exact ⟨Tryz.f180,Tryz.func180,rfl,rfl,by simp,by decide⟩
 ·cases h; exact ⟨Tryz.f188,Tryz.func188,rfl,rfl,by simp,by decide⟩
 ·cases h
noncomputable def Zd2 (f:Nat):Option InFn:=match f with
 | 54=>some ⟨Tryz.f54.ntmps,Tryz.f54.results.toList,Tryz.f54.body.getD .skip,{ loops:=Z2i [(6,{ ls:=[(.slot 5,.data (.int .i64))],os:=[(3,2,.int .i64)] })],joins:=fun _=>none,named:=true }⟩
 | _=>none
theorem Zsl:Zzg Tryz.prog Zd2:=by
 intro f fn h
 unfold Zd2 at h
 split at h
 ·cases h; exact ⟨Tryz.f54,Tryz.func54,rfl,rfl,by simp,by decide⟩
 ·cases h
noncomputable def Zih (f:Nat):Option InFn:=match f with
 | 59=>some ⟨Tryz.f59.ntmps,Tryz.f59.results.toList,Tryz.f59.body.getD .skip,{ loops:=Z2i [(1,{ ls:=[(.slot 7,.data (.int .i64)),(.cell 1 1,.row 91 Z1x)],os:=[(0,83,.ent (.pair (.int .i64) (.int .i64)) (.int .i64))] })],joins:=fun _=>none }⟩
 | 60=>some ⟨Tryz.f60.ntmps,Tryz.f60.results.toList,Tryz.f60.body.getD .skip,nHn⟩
 | _=>none
theorem Zy8:Zzg Tryz.prog Zih:=by
 intro f fn h
 unfold Zih at h
 split at h
 ·cases h; exact ⟨Tryz.f59,Tryz.func59,rfl,rfl,by simp,by decide⟩
 ·cases h; exact ⟨Tryz.f60,Tryz.func60,rfl,rfl,by simp,by decide⟩
 ·cases h
end Go.Lift

namespace Go.Lift
theorem rngF {b:Nat} (h:K.rng (.flt .f64) b):W64 b:=by
 have h:(Lit.float .f64 b).wf=true:=h
 have:=of_decide_eq_true (show decide (b<2 ^ 64)=true from h)
 exact this
theorem rngL {l:List Nat} (h:K.rng (.slice (.flt .f64)) l):WL l:=fun x hx=>rngF (h x hx)
end Go.Lift

namespace Go.Lift
open Go.ChangeShapes Go.WideShapes Go.RowKit
mutual
def K.ofD:(k:K)→DataW Unit→Option k.T
 | .int ik,.lit (.int jk n)=>if jk=ik then some n else none
 | .arr n e,.agg ds=>match ofDs e ds with
  | some xs=>if xs.length=n then some xs else none
  | none=>none
 | _,_=>none
def ofDs:(e:K)→List (DataW Unit)→Option (List e.T)
 | _,[]=>some []
 | e,d :: ds=>match K.ofD e d with
  | some x=>match ofDs e ds with
   | some xs=>some (x :: xs)
   | none=>none
  | none=>none
end
theorem Z143 {α:Type} {R:α→List Value→Prop} {s:Nat}:∀ {ys:List α} {cs:List Value},cs.length=ys.length*s→(∀ (i:Nat) (y:α),ys[i]?=some y→R y ((cs.drop (i*s)).take s))→Rows R ys cs
 | [],cs,h,_=>List.eq_nil_of_length_eq_zero (by simpa using h)
 | y :: ys,cs,h,hr=>by
  rw [List.length_cons,Nat.add_mul,Nat.one_mul] at h
  refine ⟨cs.take s,cs.drop s,(List.take_append_drop s cs).symm,by simpa using hr 0 y rfl,Z143 (s:=s) (by rw [List.length_drop]; omega) fun i z hz=>?_⟩
  have:=hr (i+1) z (by simpa using hz)
  rwa [Nat.add_mul,Nat.one_mul,Nat.add_comm,← List.drop_drop] at this
theorem Z11e:∀ {e:K} {ds:List (DataW Unit)} {xs:List e.T},ofDs e ds=some xs→xs.length=ds.length∧∀ (i:Nat) (x:e.T),xs[i]?=some x→∃ d,ds[i]?=some d∧K.ofD e d=some x
 | e,[],xs,h=>by simp only [ofDs,Option.some.injEq] at h; subst h; exact ⟨rfl,fun i x hx=>by simp at hx⟩
 | e,d :: ds,xs,h=>by
  simp only [ofDs] at h
  split at h
  ·rename_i x hx
   split at h
   ·rename_i ys hys
    cases h
    obtain ⟨h1,h2⟩:=Z11e hys
    refine ⟨by simp [h1],fun i z hz=>?_⟩
    cases i with
    | zero=>simp at hz; subst hz; exact ⟨d,rfl,hx⟩
    | succ i=>simpa using h2 i z (by simpa using hz)
   ·cases h
  ·cases h
theorem Z1a8 {P:Program} {w:World} {ok:Nat→Prop}:∀ {k:K} {t:TypeId},KT P t k→∀ {fuel:Nat} {cs:List Value} {x:DataW Unit × List MemPlace} {y:k.T},DataW.trod (fun _=>()) P w 0 (fun _=>true) false fuel t cs=some x→K.ofD k x.1=some y→k.rep w ok y cs:=by
 intro k
 induction k with
 | int ik =>
  intro t hk fuel cs x y h hy
  cases hk with
  | int ht =>
   obtain ⟨n,h1,h2,_⟩:=DataW.trod_int ht h
   rw [h2] at hy
   simp only [K.ofD,if_true] at hy
   obtain rfl:=Option.some.inj hy
   exact h1
 | arr n e ih =>
  intro t hk fuel cs x y h hy
  cases hk with
  | arr ht hc hs he =>
   obtain ⟨xs,m,rfl,rfl,h1,h2,h3⟩:=DataW.trod_array ht h
   simp only [K.ofD] at hy
   split at hy
   ·rename_i ys hys
    split at hy
    ·rename_i hl
     cases hy
     obtain ⟨g1,g2⟩:=Z11e hys
     refine ⟨hl,Z143 (s:=e.sz) (by rw [h1,hs,hl]) fun i z hz=>?_⟩
     obtain ⟨d,hd,hz2⟩:=g2 i z hz
     have hi:i<n:=by rw [← hl]; exact (List.getElem?_eq_some_iff.1 hz).1
     have h4:=h3 i hi
     rw [hc] at h4
     rw [List.getElem?_map] at hd
     cases hx:xs[i]? with
     | none=>rw [hx] at hd; cases hd
     | some q =>
      rw [hx] at hd h4
      cases hd
      exact ih he h4 hz2
    ·cases hy
   ·cases hy
 | _=>intro t hk fuel cs x y h hy; simp [K.ofD] at hy
theorem Z11f {P:Program} {w:World} {n:String} {d:DataW Unit}:∀ {l:List (String × DataW Unit)} {ps:List MemPlace},DataW.LaidVars P w l ps→(n,d) ∈ l →
  ∃ g t cs fuel p,P.globalNamed n=some g∧(P.globals[g]?).map (·.type)=some t∧w.var? P n=some cs∧DataW.trod (fun _=>()) P w 0 (fun _=>true) false fuel t cs.toList=some (d,p)
 | [],ps,_,h=>by cases h
 | (m,e) :: l,ps,⟨g,t,cs,fuel,p,q,h1,h2,h3,h4,h5,_⟩,h=>by
  rcases List.mem_cons.1 h with h | h
  ·cases h; exact ⟨g,t,cs,fuel,p,h1,h2,h3,h4⟩
  ·exact Z11f h5 h
theorem Z11g {P:Program} {w:World} {l:List (String × DataW Unit)} (h:laidMet P l w) {n:String} {d:DataW Unit} (hm:(n,d) ∈ l) {g:Nat} {t:TypeId} (hg:P.globalNamed n=some g) (ht:(P.globals[g]?).map (·.type)=some t) {k:K} (hk:KT P t k) {x:k.T} (hx:K.ofD k d=some x) :
  (K.ptr k).rep w (fun b=>b<w.heap.size) (some x) [.pointer (some ⟨g,0,none⟩)]:=by
 obtain ⟨ps,h1,_,_⟩:=h
 obtain ⟨g',t',cs,fuel,p,h2,h3,h4,h5⟩:=Z11f h1 hm
 rw [hg] at h2; cases h2
 rw [ht] at h3; cases h3
 have hlt:g<w.heap.size:=by
  simp only [World.var?,hg,Option.bind_some] at h4
  split at h4
  ·rename_i hh; exact Z12 hh
  ·cases h4
 refine .inr ⟨x,g,0,cs.toList,rfl,rfl,hlt,Z1a8 hk h5 hx,fun j v hj=>?_⟩
 rw [Nat.zero_add,World.var?_cell hg h4 j]
 simpa using hj
section
variable {H:Type} {enc:TypeId × Value→H}
theorem Z1a9 {C:Checked} {os:Os} {f:FuncId} {fn:Func} {s:ChangeSpec} {ks:List K} {pre:KS ks→Prop} {tb:TypeId} {G:Z5n} {X:World→Array Value→Prop} (hX:∀ (w w':World) (args:Array Value),w.heap=w'.heap→X w args→X w' args) (hG:∀ (w:World) (args:Array Value),X w args→GW G w (fun b=>b<w.heap.size))
  (own:ownKnob C.prog.godebug=none) (started:os.Started) (noInit:C.prog.inits.idxOf? f=none)
  (hfn:C.prog.funcs[f]?=some fn) (hbody:fn.body.isSome=true) (hname:(fn.name == "runtime.NumGoroutine")=false)
  (witness:∃ (w:World) (tape:Tape) (i:Input),w.os=os∧(w.forCall tape i).Shaped C.prog∧i.vars=[]∧Input.okWide C.prog (w.forCall tape i) .any w.heap.size f i ∧
   ((s.pre enc C.prog fn [] false (w.forCall tape i).memory i.args∧X (w.forCall tape i).memory i.args)∧sizedMet enc C.prog fn (OpenSpec.ofChange s) false (w.forCall tape i).memory i.args)∧({}:Assume).holds C.prog (lone (Frame.enter C.prog f i.args .normal) [] (w.forCall tape i)))
  (hl:laidOutB C.prog=true) (hks:All2 (KT C.prog) fn.params.toList ks) (hread:∀ t ∈ fn.params.toList,C.prog.readableRec t=true∧t<C.prog.types.size)
  (hres:fn.resultTypes=#[tb]) (htb:C.prog.underlying tb=some .bool) (hs:Z13q s ks.length)
  (hcon:(Con.det ks [.snap .bool] pre (fun _=>(true,()))).holds C.prog G f) (hpre:∀ x,KS.rng ks x→KS.wf ks x→pre x) :
  ReturnsInHanded {} C os f .any (fun w args=>(s.pre enc C.prog fn [] false w args∧X w args)∧sizedMet enc C.prog fn (OpenSpec.ofChange s) false w args) (s.post enc C.prog fn false true false false):=by
 refine returnsInHanded_of_calls own started noInit witness ?_
 intro w tape i _ _ _ hok hp hholds
 obtain ⟨_,_,_,fn',hfn',_,_,_,_,hval⟩:=hok
 have e:fn'=fn:=Option.some.inj (hfn'.symm.trans hfn)
 subst e
 obtain ⟨⟨⟨ds,gs,before,hw,hc⟩,hx⟩,hz⟩:=hp
 have hx:=hX _ (w.forCall tape i) _ (by rfl) hx
 have hW:=DataW.Whole.of_heap (w':=w.forCall tape i) (by rfl) hw
 have hwt:=hz.weights hw
 generalize w.forCall tape i=W at *
 have hlt:∀ p ∈ before,p.block<W.heap.size:=fun p hp=>hW.lt p hp
 obtain ⟨p,q,hA,hV,rfl,hfz,hnd⟩:=id hW
 rw [hs.1] at hV
 obtain ⟨rfl,rfl⟩:=trodVars_none hV
 have hvt:(OpenSpec.ofChange s).bare.plain.varTypes C.prog=[]:=by
  show (s.plain.varTypes C.prog)=[]
  unfold DataSpec.varTypes
  show s.vars.filterMap _=[]
  rw [hs.1]; rfl
 simp only [List.append_nil] at hwt hW hlt
 rw [hvt,List.append_nil,List.all_eq_true] at hwt
 obtain ⟨x,h1,h2,h3⟩:=Z19i hks hA (fun j t v ht hv=>hval j t v (by simpa using ht) (by simpa using hv)) (fun m hm=>by simpa using hwt m hm)
 have hspec:=hcon W (fun b=>b<W.heap.size) (fun _ h=>h) x i.args.toList h1 (hG W _ hx) (hpre x h2 h1.wf)
 obtain ⟨code,hcode⟩:=Option.isSome_iff_exists.1 hbody
 have hcalls:Calls C.prog f i.args W fun e w'=>∃ v,e=.returned v∧Grows W w'∧Z1q W w' (fun b=>b<W.heap.size) [.snap .bool] (true,()) v:=by
  rcases hspec with ⟨v,w',g1,_⟩ | ⟨_,g2⟩
  ·have:=Z7i hfn hcode hname i.args.toList.toArray W
   rw [this] at g1; cases g1
  ·simpa using g2
 refine hcalls.mono fun e W' ⟨v,he,hg,hr⟩=>?_
 subst he
 refine ChangeSpec.post_blind ?_
 have hv:v=.bool true:=by
  obtain ⟨vs,obs,hv,_,v0,vr,o1,o2,rfl,_,⟨_,h5⟩,rfl,_⟩:=hr
  rw [hv]
  exact (List.cons.inj h5).1
 subst hv
 have hds:=hs.2 H ds h3
 have hb:Below W.heap.size W W':=⟨hg.os,hg.tape,hg.output,hg.size,hg.keep⟩
 refine ⟨ds,[],p,[],p,[],hW,?_,?_,?_,World.keptBut_mono (fun p hp=>⟨hp,.inr (.inl hp)⟩) (hb.frame (· ∈ p)),fun h=>by cases h⟩
 ·rw [List.append_nil,hds,hres]
  exact trodAll_mk1 (RowKit.shut_bool htb true)
 ·rw [List.append_nil,hds]
  exact Z17j hl hg hread hA hlt (fun x hx=>by simpa using hlt x hx)
 ·rw [List.append_nil,hds,hs.1]
  rfl
end
end Go.Lift

namespace Go.Lift
theorem rngI {n:Int} (h:K.rng (.int .i64) n):I64 n:=by
 have h':(decide (i64.min≤n)&&decide (n≤i64.max))=true:=h
 simp [IntKind.min,IntKind.max,IntKind.bits,IntKind.signed] at h'
 unfold I64; omega
end Go.Lift

namespace Go.Proofs.YtplhligfkbgllaaGreatDoor
open Go.Lift
theorem own:ownKnob Tryz.checked.prog.godebug=none:=by kernel_rfl
theorem Z1bp:laidOutB Tryz.checked.prog=true:=by kernel_rfl
theorem gFr:Tryz.prog.globalNamed "tarn/geom.frames" = some 4:=by kernel_rfl
theorem tFr:(Tryz.prog.globals[4]?).map (·.type)=some 171:=by kernel_rfl
theorem gFc:Tryz.prog.globalNamed "tarn/cube.frames" = some 0:=by kernel_rfl
theorem tFc:(Tryz.prog.globals[0]?).map (·.type)=some 112:=by kernel_rfl
def Zsm:List (String × DataW Unit):=[("tarn/cube.frames",Rows.laid_tarn_cube_frames),("tarn/geom.frames",Rows.laid_tarn_geom_frames)]
theorem Z1aa (os:Os) (args:Array Value):laidMetH Tryz.prog Zsm ((World.doorLaid Tryz.prog 400 os).forCall (fun _ _=>0) ⟨#[],args,[]⟩).memory :=
 laidMetH_of_parts3 (fuel:=8) (laidMet_of_run' 8 (by kernel_rfl) (by kernel_rfl)) (by kernel_rfl) (by kernel_rfl)
theorem Z15u (w:World) (h:laidMetH Tryz.prog Zsm w):GW RbG w (fun b=>b<w.heap.size):=by
 rw [MakeChecks.laidMetH_plain _ _ _ (by kernel_rfl)] at h
 intro g k x hg
 unfold RbG at hg
 split at hg
 ·cases hg
  exact Z11g h (n := "tarn/cube.frames") List.mem_cons_self gFc tFc (Z74 9 112 _ (by kernel_rfl)) (by kernel_rfl)
 ·cases hg
  exact Z11g h (n := "tarn/geom.frames") (List.mem_cons_of_mem _ List.mem_cons_self) gFr tFr (Z74 9 171 _ (by kernel_rfl)) (by kernel_rfl)
 ·cases hg
end Go.Proofs.YtplhligfkbgllaaGreatDoor

namespace Go.Lift
theorem Z1ab {xs:List Int} {i j:Nat} (h:i≠j):swp xs i j=swp xs j i:=by
 unfold swp; rw [List.set_comm _ _ h]
theorem Z18g {x:Int} (h0:0≤x) (h1:x<9223372036854775808):i64.wrap ((u64.wrap (i64.wrap x)).fdiv (2 ^ Min.min (Int.toNat 1) u64.bits))=x / 2:=by
 rw [Zt (x:=x) (by omega) (by omega)]
 have:u64.wrap x=x:=by rw [IntKind.wrap_u64]; exact Int.emod_eq_of_lt h0 (by omega)
 rw [this,show (2:Int) ^ Min.min (Int.toNat 1) u64.bits=2 from rfl,Int.fdiv_eq_ediv_of_nonneg _ (by decide),Zt (by omega) (by omega)]
theorem Z5c (bed:List Nat) (x y:Int):cmpB bed x y<0↔keyB bed x<keyB bed y:=by
 unfold cmpB keyB Zp ordF cmpI
 split
 ·constructor <;> intro _ <;> omega
 ·split <;> constructor <;> intro _ <;> omega
theorem Z2f.perm {bed:List Nat} {xs ys:List Int} (h:Z2f bed xs) (hp:ys.Perm xs):Z2f bed ys:=⟨h.1,fun x hx=>h.2.1 x (hp.mem_iff.1 hx),by rw [hp.length_eq]; exact h.2.2⟩
theorem Zn9 {xs:List Int} {p:Nat} (h:p<xs.length):at0 xs p ∈ xs:=Z4a h 0
theorem Z2f.cmp {bed:List Nat} {xs:List Int} (h:Z2f bed xs) {p q:Nat} (hp:p<xs.length) (hq:q<xs.length):WCmp (at0 xs p) (at0 xs q) (some bed):=⟨bed,rfl,h.2.1 _ (Zn9 hp),h.2.1 _ (Zn9 hq),h.1⟩
theorem Za6 {kf:Int→Int} {xs:List Int} {a b i j:Nat} (h:Sgm kf xs a b) (h1:a≤i) (h2:i≤j) (h3:j<b):kf (at0 xs i)≤kf (at0 xs j):=by
 by_cases e:i=j
 ·subst e; exact Int.le_refl _
 ·exact h i j h1 (by omega) h3
section
variable {kf:Int→Int}
def InsI (kf:Int→Int) (ys:List Int) (a i j:Nat):Prop:=(∀ p q,a≤p→p<q→q≤i→p≠j→q≠j→kf (at0 ys p)≤kf (at0 ys q))∧∀ q,j<q→q≤i→kf (at0 ys j)≤kf (at0 ys q)
theorem InsI.start {ys:List Int} {a i:Nat} (h:Sgm kf ys a i):InsI kf ys a i i:=⟨fun p q h1 h2 h3 h4 h5=>h p q h1 h2 (by omega),fun q h1 h2=>by omega⟩
theorem InsI.done {ys:List Int} {a i j:Nat} (h:InsI kf ys a i j) (hj:j≤i) (he:j=a∨(a<j∧kf (at0 ys (j - 1))≤kf (at0 ys j))):Sgm kf ys a (i+1):=by
 intro p q h1 h2 h3
 by_cases e1:p=j
 ·subst e1; exact h.2 q h2 (by omega)
 by_cases e2:q=j
 ·subst e2
  rcases he with he | ⟨g1,g2⟩
  ·omega
  by_cases e3:p=q - 1
  ·subst e3; exact g2
  ·exact Int.le_trans (h.1 p (q - 1) h1 (by omega) (by omega) (by omega) (by omega)) g2
 exact h.1 p q h1 h2 (by omega) e1 e2
theorem InsI.step {ys:List Int} {a i j:Nat} (h:InsI kf ys a i (j+1)) (hj:j+1≤i) (ha:a≤j) (hi:i<ys.length) (hlt:kf (at0 ys (j+1))<kf (at0 ys j)):InsI kf (swp ys (j+1) j) a i j:=by
 refine ⟨fun p q h1 h2 h3 h4 h5=>?_,fun q h1 h2=>?_⟩
 ·rw [Z5a (by omega) (by omega),Z5a (by omega) (by omega),if_neg h4,if_neg h5]
  by_cases e1:p=j+1
  ·subst e1
   rw [if_pos rfl,if_neg (by omega)]
   exact h.1 j q ha (by omega) h3 (by omega) (by omega)
  rw [if_neg e1]
  by_cases e2:q=j+1
  ·subst e2
   rw [if_pos rfl]
   exact h.1 p j h1 (by omega) (by omega) e1 (by omega)
  rw [if_neg e2]
  exact h.1 p q h1 h2 h3 e1 e2
 ·rw [Z5a (by omega) (by omega),Z5a (by omega) (by omega),if_pos rfl,if_neg (by omega)]
  by_cases e2:q=j+1
  ·subst e2; rw [if_pos rfl]; omega
  rw [if_neg e2]
  exact h.2 q (by omega) h2
def ShU (xs ys:List Int) (a k:Nat):Prop:=∀ p,at0 ys p=if a≤p∧p<k then at0 xs (p+1) else if p=k then at0 xs a else at0 xs p
theorem ShU.start (xs:List Int) (a:Nat):ShU xs xs a a:=fun p=>by
 rw [if_neg (by omega)]; split
 ·rename_i e; rw [e]
 ·rfl
theorem ShU.step {xs ys:List Int} {a k:Nat} (h:ShU xs ys a k) (hl:ys.length=xs.length) (ha:a≤k) (hk:k+1<xs.length):ShU xs (swp ys (k+1) k) a (k+1):=fun p=>by
 rw [Z5a (by omega) (by omega),h (k+1),h k,h p,if_neg (show ¬ (a≤k+1∧k+1<k) by omega),if_neg (show ¬ k+1=k by omega),if_neg (show ¬ (a≤k∧k<k) by omega),if_pos (show k=k from rfl)]
 by_cases e1:p=k
 ·subst e1; rw [if_pos rfl,if_pos (by omega)]
 rw [if_neg e1]
 by_cases e2:p=k+1
 ·subst e2; rw [if_pos rfl,if_neg (by omega),if_pos rfl]
 rw [if_neg e2,if_neg e2]
 by_cases e3:a≤p∧p<k
 ·rw [if_pos e3,if_pos (by omega)]
 ·rw [if_neg e3,if_neg (by omega),if_neg (by omega)]
theorem ShU.done {xs ys:List Int} {a i b:Nat} (h:ShU xs ys a (i - 1)) (h1:a+1≤i) (h2:i≤b) (hs:Sgm kf xs (a+1) b) (hlt:∀ p,a+1≤p→p<i→kf (at0 xs p)<kf (at0 xs a)) (hge:∀ p,i≤p→p<b→kf (at0 xs a)≤kf (at0 xs p)):Sgm kf ys a b:=by
 intro p q g1 g2 g3
 rw [h p,h q]
 by_cases e1:a≤p∧p<i - 1
 ·rw [if_pos e1]
  by_cases e2:a≤q∧q<i - 1
  ·rw [if_pos e2]; exact hs _ _ (by omega) (by omega) (by omega)
  rw [if_neg e2]
  by_cases e3:q=i - 1
  ·rw [if_pos e3]; have:=hlt (p+1) (by omega) (by omega); omega
  rw [if_neg e3]
  have:=hlt (p+1) (by omega) (by omega)
  have:=hge q (by omega) g3
  omega
 rw [if_neg e1,if_neg (show ¬ (a≤q∧q<i - 1) by omega)]
 rw [if_neg (show ¬ q=i - 1 by omega)]
 by_cases e3:p=i - 1
 ·rw [if_pos e3]; exact hge q (by omega) g3
 rw [if_neg e3]
 exact hs _ _ (by omega) g2 g3
def ShD (xs ys:List Int) (m k:Nat):Prop:=∀ p,at0 ys p=if k<p∧p≤m then at0 xs (p - 1) else if p=k then at0 xs m else at0 xs p
theorem ShD.start (xs:List Int) (m:Nat):ShD xs xs m m:=fun p=>by
 rw [if_neg (by omega)]; split
 ·rename_i e; rw [e]
 ·rfl
theorem ShD.step {xs ys:List Int} {m k:Nat} (h:ShD xs ys m (k+1)) (hl:ys.length=xs.length) (ha:k+1≤m) (hk:m<xs.length):ShD xs (swp ys (k+1) k) m k:=fun p=>by
 rw [Z5a (by omega) (by omega),h (k+1),h k,h p,if_neg (show ¬ (k+1<k+1∧k+1≤m) by omega),if_pos (show k+1=k+1 from rfl),if_neg (show ¬ (k+1<k∧k≤m) by omega),if_neg (show ¬ k=k+1 by omega)]
 by_cases e1:p=k
 ·subst e1; rw [if_pos rfl,if_neg (by omega),if_pos rfl]
 rw [if_neg e1,if_neg e1]
 by_cases e2:p=k+1
 ·subst e2; rw [if_pos rfl,if_pos (by omega)]; congr 1
 rw [if_neg e2]
 by_cases e3:k+1<p∧p≤m
 ·rw [if_pos e3,if_pos (by omega)]
 ·rw [if_neg e3,if_neg (by omega),if_neg (by omega)]
theorem ShD.done {xs ys:List Int} {a m i:Nat} (h:ShD xs ys m i) (h1:a≤i) (h2:i≤m) (hs:Sgm kf xs a m) (hle:∀ p,a≤p→p<i→kf (at0 xs p)≤kf (at0 xs m)) (hgt:∀ p,i≤p→p<m→kf (at0 xs m)<kf (at0 xs p)):Sgm kf ys a (m+1):=by
 intro p q g1 g2 g3
 rw [h p,h q]
 by_cases e1:i<p∧p≤m
 ·rw [if_pos e1,if_pos (by omega)]
  exact hs _ _ (by omega) (by omega) (by omega)
 rw [if_neg e1]
 by_cases e2:i<q∧q≤m
 ·rw [if_pos e2]
  by_cases e3:p=i
  ·rw [if_pos e3]; have:=hgt (q - 1) (by omega) (by omega); omega
  rw [if_neg e3]
  by_cases e4:p=q - 1
  ·omega
  exact hs _ _ g1 (by omega) (by omega)
 rw [if_neg e2,if_neg (show ¬ p=i by omega)]
 by_cases e3:q=i
 ·rw [if_pos e3]; exact hle p g1 (by omega)
 ·rw [if_neg e3]; exact hs _ _ g1 g2 (by omega)
def Crs (kf:Int→Int) (ys:List Int) (a m b:Nat):Prop:=∀ i j,a≤i→i<m→m≤j→j<b→kf (at0 ys i)≤kf (at0 ys j)
theorem Crs.left {ys zs:List Int} {a m b:Nat} (h:Crs kf ys a m b) (r:Rr kf a m ys zs):Crs kf zs a m b:=fun i j h1 h2 h3 h4=>by
 rw [r.out j (by omega)]
 exact r.ins (fun v=>kf v≤kf (at0 ys j)) (fun i h1 h2=>h i j h1 h2 h3 h4) i h1 h2
theorem Crs.right {ys zs:List Int} {a m b:Nat} (h:Crs kf ys a m b) (r:Rr kf m b ys zs):Crs kf zs a m b:=fun i j h1 h2 h3 h4=>by
 rw [r.out i (by omega)]
 exact r.ins (fun v=>kf (at0 ys i)≤kf v) (fun j h3 h4=>h i j h1 h2 h3 h4) j h3 h4
theorem Crs.join {ys:List Int} {a m b:Nat} (h:Crs kf ys a m b) (h1:Sgm kf ys a m) (h2:Sgm kf ys m b):Sgm kf ys a b:=fun i j g1 g2 g3=>by
 by_cases e1:j<m
 ·exact h1 i j g1 g2 e1
 by_cases e2:m≤i
 ·exact h2 i j e2 g2 g3
 exact h i j g1 (by omega) (by omega) g3
structure Cutd (kf:Int→Int) (xs:List Int) (a m b s e:Nat):Prop where
 le:a≤s∧s≤m∧m≤e∧e≤b
 low:∀ i j,a≤i→i<s→e≤j→j<b→kf (at0 xs i)≤kf (at0 xs j)
 high:∀ i j,s≤i→i<m→m≤j→j<e→kf (at0 xs j)<kf (at0 xs i)
theorem cutd {xs:List Int} {a m b s0 r0 s mid:Nat} (hm:mid=(a+b) / 2) (h1:a<m) (h2:m<b) (h0:(m > mid∧s0+b=mid+m∧r0=mid)∨(m≤mid∧s0=a∧r0=m)) (hs1:Sgm kf xs a m) (hs2:Sgm kf xs m b) (g1:s0≤s) (g2:s≤r0)
  (lo:∀ q,s0≤q→q<s→kf (at0 xs q)≤kf (at0 xs (mid+m - 1 - q))) (hi:∀ q,s≤q→q<r0→kf (at0 xs (mid+m - 1 - q))<kf (at0 xs q)):Cutd kf xs a m b s (mid+m - s) where
 le:=by omega
 low i j i1 i2 j1 j2:=by
  by_cases e:s=s0
  ·omega
  ·have hl:=lo (s - 1) (by omega) (by omega)
   have a1:kf (at0 xs i)≤kf (at0 xs (s - 1)):=by
    by_cases q:i=s - 1
    ·subst q; omega
    ·exact hs1 _ _ i1 (by omega) (by omega)
   have e2:mid+m - 1 - (s - 1)=mid+m - s:=by omega
   rw [e2] at hl
   have a2:kf (at0 xs (mid+m - s))≤kf (at0 xs j):=by
    by_cases q:j=mid+m - s
    ·subst q; omega
    ·exact hs2 _ _ (by omega) (by omega) j2
   omega
 high i j i1 i2 j1 j2:=by
  by_cases e:s=r0
  ·omega
  ·have hl:=hi s (by omega) (by omega)
   have a1:kf (at0 xs s)≤kf (at0 xs i):=by
    by_cases q:i=s
    ·subst q; omega
    ·exact hs1 _ _ (by omega) (by omega) i2
   have a2:kf (at0 xs j)≤kf (at0 xs (mid+m - 1 - s)):=by
    by_cases q:j=mid+m - 1 - s
    ·subst q; omega
    ·exact hs2 _ _ j1 (by omega) (by omega)
   omega
structure Trnd (kf:Int→Int) (xs ys:List Int) (a m b s e mid:Nat):Prop where
 rr:Rr kf a b xs ys
 g1:Sgm kf ys a s
 g2:Sgm kf ys s mid
 g3:Sgm kf ys mid e
 g4:Sgm kf ys e b
 cr:Crs kf ys a mid b
theorem trnd {xs ys:List Int} {a m b s mid:Nat} (c:Cutd kf xs a m b s (mid+m - s)) (hm:mid=(a+b) / 2) (h1:a<m) (h2:m<b) (h3:b≤xs.length) (hs1:Sgm kf xs a m) (hs2:Sgm kf xs m b) (hp:ys.Perm xs) (he:ys=Z22 xs (rotI s m (mid+m - s))):Trnd kf xs ys a m b s (mid+m - s) mid:=by
 obtain ⟨⟨l1,l2,l3,l4⟩,clo,chi⟩:=c
 have rr:=Z1cf (kf:=kf) l2 l3 (by omega) hp he chi
 have key:∀ p,p<b→at0 ys p=at0 xs (rotI s m (mid+m - s) p):=fun p hp=>by rw [he,Z2d (by omega)]
 have k1:∀ p,p<s→rotI s m (mid+m - s) p=p:=fun p hp=>by unfold rotI; rw [if_neg (by omega),if_neg (by omega)]
 have k2:∀ p,s≤p→p<mid→rotI s m (mid+m - s) p=m+(p - s):=fun p h1 h2=>by unfold rotI; rw [if_pos (by omega)]
 have k3:∀ p,mid≤p→p<mid+m - s→rotI s m (mid+m - s) p=s+(p - mid):=fun p h1 h2=>by unfold rotI; rw [if_neg (by omega),if_pos (by omega)]; omega
 have k4:∀ p,mid+m - s≤p→rotI s m (mid+m - s) p=p:=fun p h1=>by unfold rotI; rw [if_neg (by omega),if_neg (by omega)]
 have ms:s≤mid:=by omega
 refine ⟨rr.wide l1 l4,fun i j i1 i2 i3=>?_,fun i j i1 i2 i3=>?_,fun i j i1 i2 i3=>?_,fun i j i1 i2 i3=>?_,fun i j i1 i2 i3 i4=>?_⟩
 ·rw [key i (by omega),key j (by omega),k1 i (by omega),k1 j (by omega)]
  exact hs1 i j i1 i2 (by omega)
 ·rw [key i (by omega),key j (by omega),k2 i (by omega) (by omega),k2 j (by omega) (by omega)]
  exact hs2 _ _ (by omega) (by omega) (by omega)
 ·rw [key i (by omega),key j (by omega),k3 i (by omega) (by omega),k3 j (by omega) (by omega)]
  exact hs1 _ _ (by omega) (by omega) (by omega)
 ·rw [key i (by omega),key j (by omega),k4 i (by omega),k4 j (by omega)]
  exact hs2 _ _ (by omega) (by omega) (by omega)
 ·rw [key i (by omega),key j (by omega)]
  by_cases e1:i<s
  ·rw [k1 i e1]
   by_cases e2:j<mid+m - s
   ·rw [k3 j i3 e2]; exact hs1 _ _ i1 (by omega) (by omega)
   ·rw [k4 j (by omega)]; exact clo i j i1 e1 (by omega) i4
  ·rw [k2 i (by omega) i2]
   by_cases e2:j<mid+m - s
   ·rw [k3 j i3 e2]
    have:=chi (s+(j - mid)) (m+(i - s)) (by omega) (by omega) (by omega) (by omega)
    omega
   ·rw [k4 j (by omega)]; exact hs2 _ _ (by omega) (by omega) (by omega)
theorem Z18h {xs:List Int} {s m e:Nat} (h1:s≤m) (h2:m≤e) (h:s=m∨m=e):Z22 xs (rotI s m e)=xs:=Z11c fun p _=>by
 unfold rotI; (repeat' split) <;> omega
end
end Go.Lift

namespace Go.Lift
theorem Zgd {bed:List Nat} {x y:Int}:leB bed x y=true↔keyB bed x<keyB bed y∨(keyB bed x=keyB bed y∧x≤y):=by unfold leB; rw [decide_eq_true_eq]
theorem Z18i (bed:List Nat):∀ a b c:Int,leB bed a b=true→leB bed b c=true→leB bed a c=true:=fun a b c h1 h2=>by
 rw [Zgd] at *; omega
theorem Z18j (bed:List Nat):∀ a b:Int,(leB bed a b||leB bed b a)=true:=fun a b=>by
 rw [Bool.or_eq_true,Zgd,Zgd]; omega
theorem Z1ac {bed:List Nat} {a b:Int} (h1:leB bed a b=true) (h2:leB bed b a=true):a=b:=by
 rw [Zgd] at *; omega
theorem Zna (a b:Int):(seg a b).length=b.toNat - a.toNat:=by unfold seg; rw [List.length_map,List.length_range']
theorem Z144 {a b x:Int} (h:x ∈ seg a b):(a.toNat:Int)≤x∧x<b.toNat:=by
 unfold seg at h
 obtain ⟨n,hn,rfl⟩:=List.mem_map.1 h
 rw [List.mem_range'_1] at hn
 omega
theorem Z9d (bed:List Nat) (a b:Int):(Z8k bed a b).Perm (seg a b):=List.mergeSort_perm _ _
theorem Zy9 (bed:List Nat) (a b:Int):List.Pairwise (fun x y=>leB bed x y=true) (Z8k bed a b):=List.pairwise_mergeSort (Z18i bed) (Z18j bed) _
theorem Zsn {bed:List Nat} {a b x:Int} (h:x ∈ Z8k bed a b):(a.toNat:Int)≤x∧x<b.toNat:=Z144 ((Z9d bed a b).mem_iff.1 h)
theorem Z15v (bed:List Nat) (a b:Int):(Z8k bed a b).length=b.toNat - a.toNat:=(Z9d bed a b).length_eq.trans (Zna a b)
theorem Zal {bed:List Nat} {a b:Int} {l:List Int} (hp:l.Perm (seg a b)) (hs:List.Pairwise (fun x y=>leB bed x y=true) l):l=Z8k bed a b :=
 List.Perm.eq_of_pairwise (fun x y _ _ h1 h2=>Z1ac h1 h2) hs (Zy9 bed a b) (hp.trans (Z9d bed a b).symm)
theorem Z1bq {l:List Int} {i:Nat} (h:i<l.length):l.drop i=at0 l i :: l.drop (i+1):=by
 rw [Zce h]; exact List.drop_eq_getElem_cons h
theorem Z1cg {n:Nat} {l:List Int} (hl:l.length=n) (h:∀ j,j<n→at0 l j=j):l=seg 0 n:=by
 refine Zn7 (by rw [Zna,hl]; simp) fun i hi=>?_
 rw [h i (by omega)]
 unfold at0 seg
 rw [List.getD_eq_getElem?_getD,List.getElem?_map,List.getElem?_range' (by simp; omega)]
 simp
theorem Z15w {bed:List Nat} {xs ys:List Int} {n:Nat} (hx:xs=seg 0 n) (h1:Rr (keyB bed) 0 xs.length xs ys) (h2:Sgm (keyB bed) ys 0 xs.length):ys=Z8k bed 0 n:=by
 subst hx
 have st:Stb (keyB bed) (seg 0 n):=fun i j hij hj _=>by
  have e:∀ k,k<n→at0 (seg 0 n) k=k:=fun k hk=>by
   unfold at0 seg
   rw [List.getD_eq_getElem?_getD,List.getElem?_map,List.getElem?_range' (by omega)]
   simp
  rw [Zna] at hj
  rw [e i (by omega),e j (by omega)]
  omega
 refine Zal h1.perm (List.pairwise_iff_getElem.2 fun i j hi hj hij=>?_)
 rw [← Zce hi,← Zce hj,Zgd]
 have a:=h2 i j (by omega) hij (by rw [← h1.len]; exact hj)
 have b:=h1.st st i j hij hj
 omega
end Go.Lift

namespace Go.Lift
section
variable {n:Int} {ar:Ar} (A:ArOk n ar)
include A
variable {f:List Int} {gv:Nat→List Int} {all:List Int} (hL:Z11a n ar f gv (4*Zc n) all)
 (hg:∀ c:Nat,(c:Int)<Zc n→∀ o:Nat,o<4→0≤(gv c).getD o 0∧(0<(gv c).getD o 0→0<outN ar f c o))
include hL hg
end
end Go.Lift

namespace Go.Lift
section
variable {n:Int} {ar:Ar} (A:ArOk n ar) {f:List Int} {gv:Nat→List Int} {all:List Int} (hL:Z11a n ar f gv (4*Zc n) all)
 (hg:∀ c:Nat,(c:Int)<Zc n→∀ o:Nat,o<4→0≤(gv c).getD o 0∧(0<(gv c).getD o 0→0<outN ar f c o))
include A hL hg
end
section
variable {n:Int} {ar:Ar} (A:ArOk n ar) {f:List Int} {gv:Nat→List Int} {all:List Int} (hL:Z11a n ar f gv (4*Zc n) all)
 (hg:∀ c:Nat,(c:Int)<Zc n→∀ o:Nat,o<4→0≤(gv c).getD o 0∧(0<(gv c).getD o 0→0<outN ar f c o))
include A hL hg
end
end Go.Lift

namespace Go.Lift
section
variable {N:Int} {w F:List Int} (lw:(w.length:Int)=Zc N) (lF:(F.length:Int)=(netE N).1.length) (hw:∀ x ∈ w,0≤x) (hF:∀ x ∈ F,Zsj x=true)
include lw lF hw hF
section
variable {h:List Int} (lh:(h.length:Int)=Zc N) (hh:∀ x ∈ h,0≤x∧x≤9223372036854775807) (hok:∀ c:Nat,(c:Int)<Zc N→okTo (w.getD c 0) (Z1ap (Z8i (some (netG N))) F c) (Z1ap (Z8i (some (netG N))) F c).length)
include lh hh hok
end
end
end Go.Lift

namespace Go.Lift
theorem Zso (s x:Int) (l:List Int):Z1y s (x :: l)=if x<0∨x > 4503599627370496 - s then false else Z1y (s+x) l:=rfl
theorem Z1br (bed:List Nat) (x y:Int):ordF (Z1c (bed.getD x.toNat 0)) (Z1c (bed.getD y.toNat 0))=cmpI (Zp bed x) (Zp bed y):=rfl
theorem Zv6 {x y:Int}:cmpI x y<0↔x<y:=by
 unfold cmpI; split
 ·exact ⟨fun _=>by assumption,fun _=>by decide⟩
 ·split
  ·exact ⟨fun h=>by omega,fun h=>by omega⟩
  ·exact ⟨fun h=>by omega,fun h=>by omega⟩
theorem Z145 {x y:Int}:cmpI x y > 0↔x > y:=by
 unfold cmpI; split
 ·exact ⟨fun h=>by omega,fun h=>by omega⟩
 ·split
  ·exact ⟨fun _=>by assumption,fun _=>by decide⟩
  ·exact ⟨fun h=>by omega,fun h=>by omega⟩
theorem Z146 {x y:Int}:cmpI x y=0↔x=y:=by
 unfold cmpI; split
 ·exact ⟨fun h=>by omega,fun h=>by omega⟩
 ·split
  ·exact ⟨fun h=>by omega,fun h=>by omega⟩
  ·exact ⟨fun h=>by omega,fun h=>by omega⟩
theorem Z18k (bed:List Nat) (x y:Int):Zzt (bed.getD x.toNat 0) (bed.getD y.toNat 0)=true↔Zp bed x<Zp bed y:=by
 unfold Zzt; rw [decide_eq_true_eq,Z1br,Zv6]
theorem Zii {bed:List Nat} {best to:Int} (h:0≤best) (h2:Zp bed best<Zp bed to∨(Zp bed to=Zp bed best∧best≤to)):Zig bed best to=best:=by
 unfold Zig; rw [if_neg (by omega)]
theorem Zc3 {bed:List Nat} {best to:Int} (h2:best<0∨Zp bed to<Zp bed best∨(Zp bed to=Zp bed best∧to≤best)):Zig bed best to=to:=by
 unfold Zig
 by_cases q:best<0∨Zp bed to<Zp bed best∨(Zp bed to=Zp bed best∧to<best)
 ·rw [if_pos q]
 ·rw [if_neg q]; omega
theorem Za7 {cells n:Int} {bed:List Nat} {c:Int} (h:(bed.length:Int)≠cells∨c<0∨(bed.length:Int)≤c):Z1t true cells n bed c=-1:=by
 unfold Z1t; rw [if_pos (.inr h)]
theorem Zij {cells n:Int} {bed:List Nat} {c:Int} (h1:(bed.length:Int)=cells) (h2:0≤c) (h3:c<(bed.length:Int)):Z1t true cells n bed c=Z5v n bed c:=by
 unfold Z1t; rw [if_neg (by simp; omega)]
theorem Z5d {n c:Int} {k:Nat} (hp:Zh n c=true) (hk:k<4):0≤(Z3 n c k).1∧(Z3 n c k).1<Zc n:=by
 obtain ⟨b1,_⟩:=Z4n (Z19.2 ⟨hp,(by omega:(0:Int)≤k),(by omega:(k:Int)<4)⟩)
 exact Z2e b1
theorem Z9e {n c:Int} {bed:List Nat} (hp:Zh n c=true):∀ k:Nat,k≤4→-1≤Z13 n bed c k∧Z13 n bed c k<Zc n∧(0<k→∃ j,j<k∧Z13 n bed c k=(Z3 n c j).1) ∧
  ∀ j,j<k→Zp bed (Z13 n bed c k)<Zp bed (Z3 n c j).1∨(Zp bed (Z13 n bed c k)=Zp bed (Z3 n c j).1∧Z13 n bed c k≤(Z3 n c j).1)
 | 0,_=>⟨by show (-1:Int)≤-1; decide,by have:=Z2e hp; show (-1:Int)<_; omega,fun h=>by omega,fun j h=>by omega⟩
 | k+1,hk=>by
  obtain ⟨i1,i2,i3,i4⟩:=Z9e (bed:=bed) hp k (by omega)
  obtain ⟨t1,t2⟩:=Z5d hp (k:=k) (by omega)
  have e:Z13 n bed c (k+1)=Zig bed (Z13 n bed c k) (Z3 n c k).1:=rfl
  by_cases q:Z13 n bed c k<0∨Zp bed (Z3 n c k).1<Zp bed (Z13 n bed c k)∨(Zp bed (Z3 n c k).1=Zp bed (Z13 n bed c k)∧(Z3 n c k).1≤Z13 n bed c k)
  ·rw [e,Zc3 q]
   refine ⟨by omega,t2,fun _=>⟨k,by omega,rfl⟩,fun j hj=>?_⟩
   by_cases ej:j=k
   ·subst ej; exact .inr ⟨rfl,Int.le_refl _⟩
   ·have:=i4 j (by omega)
    rcases q with q | q | q
    ·obtain ⟨j0,g1,g2⟩:=i3 (by omega)
     have:=(Z5d hp (k:=j0) (by omega)).1
     omega
    ·omega
    ·omega
  ·rw [e,Zii (by omega) (by omega)]
   refine ⟨i1,i2,fun _=>?_,fun j hj=>?_⟩
   ·rcases Nat.eq_zero_or_pos k with z | z
    ·subst z
     exact absurd (.inl (show (-1:Int)<0 by decide)) q
    ·obtain ⟨j0,g1,g2⟩:=i3 z
     exact ⟨j0,by omega,g2⟩
   ·by_cases ej:j=k
    ·subst ej; omega
    ·exact i4 j (by omega)
theorem Z15x {n c:Int} {bed:List Nat} (hp:Zh n c=true):0≤Z13 n bed c 4∧Z13 n bed c 4<Zc n:=by
 obtain ⟨i1,i2,i3,i4⟩:=Z9e (bed:=bed) hp 4 (by omega)
 obtain ⟨j0,g1,g2⟩:=i3 (by omega)
 have:=(Z5d hp (k:=j0) (by omega)).1
 exact ⟨by omega,i2⟩
theorem Zlj {n c:Int} {bed:List Nat} (hp:Zh n c=true):Z5v n bed c=-1∨(0≤Z5v n bed c∧Z5v n bed c<Zc n∧Zp bed (Z5v n bed c)<Zp bed c∧Z5v n bed c=Z13 n bed c 4):=by
 unfold Z5v
 split
 ·have:=Z15x (bed:=bed) hp
  exact .inr ⟨this.1,this.2,by assumption,rfl⟩
 ·exact .inl rfl
theorem Z1bs {n c:Int} {o:Nat} (ok:Zr n c o=true):∃ q:Nat,q<(netE n).1.length∧(Z8i (some (netG n)) c o).1=q∧(Z6m (some (netG n)) q).1+(Z6m (some (netG n)) q).2.2.1=c+(Z3 n c o).1:=by
 obtain ⟨q,hq,h1,h2,h3⟩:=Z15p ok
 refine ⟨q,hq,by rw [h1],?_⟩
 have e:Z6m (some (netG n)) q=(netE n).1.getD q dEd:=by
  unfold Z6m
  show (if (0:Int)≤q∧(q:Int)<((netE n).1.length:Nat) then (netE n).1.getD (q:Int).toNat dEd else dEd)=_
  rw [if_pos ⟨by omega,by omega⟩,Int.toNat_natCast]
 rw [e,List.getD_eq_getElem?_getD]
 rcases h3 with ⟨_,h3⟩ | ⟨_,h3⟩ <;> rw [h3]
 ·rfl
 ·show (Z3 n c o).1+c=_
  omega
end Go.Lift

namespace Go.Lift
theorem Zv7:∀ (l:List Int) (i:Nat) (v:Int),i<l.length→(l.set i v).sum=l.sum - at0 l i+v
 | [],i,v,h=>by simp at h
 | x :: l,0,v,h=>by
  rw [List.set_cons_zero,List.sum_cons,List.sum_cons]
  show v+l.sum=x+l.sum - x+v
  omega
 | x :: l,i+1,v,h=>by
  rw [List.set_cons_succ,List.sum_cons,List.sum_cons,Zv7 l i v (by simpa using h)]
  show x+(l.sum - at0 l i+v)=x+l.sum - at0 l i+v
  omega
theorem Z147:∀ {l:List Int},(∀ x ∈ l,0≤x)→0≤l.sum∧∀ x ∈ l,x≤l.sum
 | [],_=>⟨by simp,fun x h=>by cases h⟩
 | y :: l,h=>by
  obtain ⟨a,b⟩:=Z147 fun x hx=>h x (List.mem_cons_of_mem _ hx)
  have hy:=h y List.mem_cons_self
  rw [List.sum_cons]
  refine ⟨by omega,fun x hx=>?_⟩
  rcases List.mem_cons.1 hx with rfl | hx
  ·omega
  ·have:=b x hx; omega
theorem Zik:∀ {l:List Int} {s:Int},Z1y s l=true→s≤4503599627370496→(∀ x ∈ l,0≤x)∧s+l.sum≤4503599627370496
 | [],s,_,hs=>⟨fun x h=>(by cases h),by simpa using hs⟩
 | y :: l,s,h,hs=>by
  rw [Zso] at h
  by_cases q:y<0∨y > 4503599627370496 - s
  ·rw [if_pos q] at h; cases h
  ·rw [if_neg q] at h
   obtain ⟨a,b⟩:=Zik h (by omega)
   rw [List.sum_cons]
   refine ⟨fun x hx=>?_,by omega⟩
   rcases List.mem_cons.1 hx with rfl | hx
   ·omega
   ·exact a x hx
structure Pool (n:Nat) (T:Int) (l:List Int):Prop where
 len:l.length=n
 nn:∀ x ∈ l,0≤x
 sum:l.sum=T
theorem Pool.at {n:Nat} {T:Int} {l:List Int} (h:Pool n T l) {i:Nat} (hi:i<n):0≤at0 l i∧at0 l i≤T:=by
 have:=h.len
 have m:=Zn9 (xs:=l) (p:=i) (by omega)
 exact ⟨h.nn _ m,by rw [← h.sum]; exact (Z147 h.nn).2 _ m⟩
theorem Pool.mv {n:Nat} {T:Int} {l:List Int} (h:Pool n T l) {i j d:Int} (i0:0≤i) (i1:i<n) (j0:0≤j) (j1:j<n) (d0:0≤d) (d1:d≤l.getD i.toNat 0) :
  Pool n T (mvL l i j d)∧0≤l.getD i.toNat 0 - d∧l.getD i.toNat 0 - d≤T∧0≤(l.set i.toNat (l.getD i.toNat 0 - d)).getD j.toNat 0+d∧(l.set i.toNat (l.getD i.toNat 0 - d)).getD j.toNat 0+d≤T:=by
 have hl:=h.len
 have hi:=h.at (i:=i.toNat) (by omega)
 have hi:0≤l.getD i.toNat 0∧l.getD i.toNat 0≤T:=hi
 have nn1:∀ x ∈ l.set i.toNat (l.getD i.toNat 0 - d),0≤x:=fun x hx=>by
  rcases List.mem_or_eq_of_mem_set hx with hx | rfl
  ·exact h.nn x hx
  ·omega
 have l1:(l.set i.toNat (l.getD i.toNat 0 - d)).length=n:=by rw [List.length_set]; exact hl
 have v0:=nn1 _ (Z4a (l:=l.set i.toNat (l.getD i.toNat 0 - d)) (i:=j.toNat) (by omega) 0)
 have P:Pool n T (mvL l i j d):=by
  refine ⟨by unfold mvL; rw [List.length_set]; exact l1,fun x hx=>?_,?_⟩
  ·unfold mvL at hx
   rcases List.mem_or_eq_of_mem_set hx with hx | rfl
   ·exact nn1 x hx
   ·omega
  ·unfold mvL
   rw [Zv7 _ _ _ (by omega),Zv7 _ _ _ (by omega),h.sum]
   show T - at0 l i.toNat+(at0 l i.toNat - d) - _+(_+d)=T
   unfold at0
   omega
 have hj:=P.at (i:=j.toNat) (by omega)
 have e:at0 (mvL l i j d) j.toNat=(l.set i.toNat (l.getD i.toNat 0 - d)).getD j.toNat 0+d:=by
  unfold mvL; rw [Z8j (by omega),if_pos rfl]
 rw [e] at hj
 exact ⟨P,by omega,by omega,hj.1,hj.2⟩
theorem Zv8 {a b c:Int} (ha:0≤a) (hb:0≤b) (hbc:b≤c) (hc:1≤c):0≤part a b c∧part a b c≤a:=by
 refine ⟨(Z15f a b c).1,?_⟩
 have k:a*b / c≤a:=by
  refine Int.ediv_le_of_le_mul (by omega) ?_
  exact Int.mul_le_mul_of_nonneg_left hbc ha
 unfold part
 rw [if_neg (by omega),if_neg (by omega),if_neg (by omega)]
 split <;> omega
theorem Zil {n:Nat} {W T:Int} {area down:Int→Int} {st:List Int × List Int} {c:Int} (h1:Pool n W st.1) (h2:Pool n T st.2) (c0:0≤c) (c1:c<n) (hd:down c<0∨(0≤down c∧down c<n)) :
  Pool n W (Z2v area down st c).1∧Pool n T (Z2v area down st c).2:=by
 unfold Z2v
 split
 ·exact ⟨h1,h2⟩
 ·rename_i q
  have a1:=h2.at (i:=c.toNat) (by omega)
  have a1:0≤st.2.getD c.toNat 0∧_:=a1
  have p:=Zv8 (a:=st.2.getD c.toNat 0) (b:=st.1.getD c.toNat 0 / 4) (c:=st.1.getD c.toNat 0) a1.1 (by omega) (by omega) (by omega)
  exact ⟨(h1.mv c0 c1 (by omega) (by omega) (by omega) (by omega)).1,(h2.mv c0 c1 (by omega) (by omega) p.1 p.2).1⟩
theorem Z148 {n:Nat} {W T:Int} {area down:Int→Int} (hd:∀ c:Int,0≤c→c<(n:Int)→down c<0∨(0≤down c∧down c<(n:Int))):∀ (order:List Int) {st:List Int × List Int},(∀ c ∈ order,0≤c∧c<(n:Int))→Pool n W st.1→Pool n T st.2 →
  Pool n W (runA area down order st).1∧Pool n T (runA area down order st).2
 | [],st,_,h1,h2=>⟨h1,h2⟩
 | c :: l,st,hc,h1,h2=>by
  have h0:=hc c List.mem_cons_self
  obtain ⟨a,b⟩:=Zil (area:=area) h1 h2 h0.1 h0.2 (hd c h0.1 h0.2)
  exact Z148 hd l (fun x hx=>hc x (List.mem_cons_of_mem _ hx)) a b
theorem Z18l {area down:Int→Int} {order:List Int} {st:List Int × List Int} {k:Nat} (hk:k<order.length):runA area down (order.take (k+1)) st=Z2v area down (runA area down (order.take k) st) (at0 order k):=by
 unfold runA
 have e:order.take (k+1)=order.take k++[at0 order k]:=by rw [Zce hk,List.take_append_getElem hk]
 rw [e,List.foldl_append]; rfl
theorem Z1ad {n m:Int} {area down:Int→Int} {s:SeaT} (h:((Zc2 n m s&&Z1y 0 s.2.1)&&Z1y 0 s.2.2.1)=false):runF true n m area down s=([],[],1,()):=by
 unfold runF; rw [if_neg (by decide),h]; rfl
theorem Zxq {n m:Int} {area down:Int→Int} {s:SeaT} (h1:Zc2 n m s=true) (h2:Z1y 0 s.2.1=true) (h3:Z1y 0 s.2.2.1=true):runF true n m area down s=((runA area down (ordL s.1) (s.2.1,s.2.2.1)).1,(runA area down (ordL s.1) (s.2.1,s.2.2.1)).2,0,()):=by
 unfold runF; rw [if_neg (by decide),h1,h2,h3]; rfl
theorem Zlk {n m:Int} {s:SeaT}:Zc2 n m s=true↔(s.1.length:Int)=n∧(s.2.1.length:Int)=n∧(s.2.2.1.length:Int)=n∧(s.2.2.2.1.length:Int)=m:=by
 unfold Zc2
 simp only [Bool.and_eq_true,decide_eq_true_eq,and_assoc]
theorem Z18m {n:Int} {bed:List Nat} (hb:(bed.length:Int)=Zc n) (c:Int) (c0:0≤c) (c1:c<(bed.length:Int)):Z1t true (Zc n) n bed c<0∨(0≤Z1t true (Zc n) n bed c∧Z1t true (Zc n) n bed c<(bed.length:Int)):=by
 rw [Zij hb c0 c1]
 have hp:Zh n c=true:=by
  obtain ⟨k,rfl⟩:∃ k:Nat,c=k:=⟨c.toNat,by omega⟩
  exact Zep (by omega)
 rcases Zlj (bed:=bed) hp with q | ⟨q1,q2,_⟩
 ·exact .inl (by omega)
 ·exact .inr ⟨q1,by omega⟩
theorem Z18n {n c:Int} (c0:0≤c) (c1:c<Zc n):Zia (some (netG n)) c=Z14 n c:=by
 have hl:(Z7l n).length=(Zc n).toNat:=by unfold Z7l; rw [List.length_map,List.length_range]
 show (if 0≤c∧c<((Z7l n).length:Nat) then (Z7l n).getD c.toNat 0 else 0)=_
 rw [if_pos ⟨c0,by omega⟩]
 unfold Z7l
 rw [List.getD_eq_getElem?_getD,List.getElem?_map,List.getElem?_range (by omega)]
 show Z14 n ((c.toNat:Nat):Int)=_
 rw [show ((c.toNat:Nat):Int)=c by omega]
end Go.Lift

namespace Go.Lift
theorem Z18o {l:List Int} {i j d:Int} {k:Nat} (hi:i.toNat<l.length) (hj:j.toNat<l.length) (hij:i.toNat≠j.toNat):at0 (mvL l i j d) k=if k=j.toNat then at0 l k+d else if k=i.toNat then at0 l k - d else at0 l k:=by
 have e1:(l.set i.toNat (l.getD i.toNat 0 - d)).getD j.toNat 0=at0 l j.toNat:=by
  show at0 (l.set i.toNat (l.getD i.toNat 0 - d)) j.toNat=_
  rw [Z8j hi,if_neg (fun q=>hij q.symm)]
 unfold mvL
 rw [e1,Z8j (by rw [List.length_set]; exact hj)]
 by_cases q:k=j.toNat
 ·rw [if_pos q,if_pos q,q]
 ·rw [if_neg q,if_neg q,Z8j hi]
  by_cases q2:k=i.toNat
  ·rw [if_pos q2,if_pos q2,q2]; try rfl
  ·rw [if_neg q2,if_neg q2]
def Z79 (n:Nat) (down:Int→Int):Prop:=∀ c:Int,0≤c→c<(n:Int)→down c<0∨(0≤down c∧down c<(n:Int)∧down c≠c)
theorem Z79.weak {n:Nat} {down:Int→Int} (h:Z79 n down):∀ c:Int,0≤c→c<(n:Int)→down c<0∨(0≤down c∧down c<(n:Int)):=fun c a b=>(h c a b).imp id fun q=>⟨q.1,q.2.1⟩
theorem Zsp {n:Nat} {W T:Int} {area down:Int→Int} {st:List Int × List Int} {c:Int} (h1:Pool n W st.1) (h2:Pool n T st.2) (c0:0≤c) (c1:c<n) (hd:Z79 n down) (k:Nat) :
  (k≠c.toNat∨down c<0→at0 st.1 k≤at0 (Z2v area down st c).1 k∧at0 st.2 k≤at0 (Z2v area down st c).2 k)∧(k=c.toNat→at0 st.1 k - at0 st.1 k / 4≤at0 (Z2v area down st c).1 k):=by
 have hn:=h1.len
 have hn2:=h2.len
 unfold Z2v
 split
 ·refine ⟨fun _=>⟨Int.le_refl _,Int.le_refl _⟩,fun q=>?_⟩
  have:=(h1.at (i:=k) (by omega)).1
  omega
 ·rename_i q
  obtain ⟨d0,d1,d2⟩:=(hd c c0 c1).resolve_left fun z=>q (.inl z)
  have a1:=h2.at (i:=c.toNat) (by omega)
  have a1:0≤st.2.getD c.toNat 0∧_:=a1
  have p:=Zv8 (a:=st.2.getD c.toNat 0) (b:=st.1.getD c.toNat 0 / 4) (c:=st.1.getD c.toNat 0) a1.1 (by omega) (by omega) (by omega)
  have g0:0<st.1.getD c.toNat 0:=by omega
  have ne:c.toNat≠(down c).toNat:=by omega
  have e:st.1.getD c.toNat 0=at0 st.1 c.toNat:=rfl
  dsimp only
  rw [Z18o (by omega) (by omega) ne,Z18o (by omega) (by omega) ne]
  refine ⟨fun z=>?_,fun z=>?_⟩
  ·have z:k≠c.toNat:=z.resolve_right (by omega)
   rw [if_neg z,if_neg z]
   constructor <;> split <;> omega
  ·subst z
   rw [if_neg ne,if_pos rfl,e]
   omega
theorem Zll {n:Nat} {W T:Int} {area down:Int→Int} (hd:Z79 n down) (k:Nat):∀ (order:List Int) {st:List Int × List Int},(∀ c ∈ order,0≤c∧c<(n:Int))→(∀ c ∈ order,k≠c.toNat∨down c<0)→Pool n W st.1→Pool n T st.2 →
  at0 st.1 k≤at0 (runA area down order st).1 k∧at0 st.2 k≤at0 (runA area down order st).2 k
 | [],st,_,_,_,_=>⟨Int.le_refl _,Int.le_refl _⟩
 | c :: l,st,hc,hk,h1,h2=>by
  have h0:=hc c List.mem_cons_self
  obtain ⟨a,b⟩:=Zil (area:=area) h1 h2 h0.1 h0.2 (hd.weak c h0.1 h0.2)
  obtain ⟨i1,i2⟩:=Zll hd k l (fun x hx=>hc x (List.mem_cons_of_mem _ hx)) (fun x hx=>hk x (List.mem_cons_of_mem _ hx)) a b
  obtain ⟨j1,j2⟩:=(Zsp (area:=area) h1 h2 h0.1 h0.2 hd k).1 (hk c List.mem_cons_self)
  exact ⟨Int.le_trans j1 i1,Int.le_trans j2 i2⟩
theorem Zxr {n:Nat} {W T:Int} {area down:Int→Int} (hd:Z79 n down) (k:Nat) (hkn:k<n):∀ (order:List Int) {st:List Int × List Int},(∀ c ∈ order,0≤c∧c<(n:Int))→order.Nodup→Pool n W st.1→Pool n T st.2 →
  at0 st.1 k - at0 st.1 k / 4≤at0 (runA area down order st).1 k
 | [],st,_,_,h1,h2=>by
  have:=(h1.at hkn).1
  show at0 st.1 k - at0 st.1 k / 4≤at0 st.1 k
  omega
 | c :: l,st,hc,hk,h1,h2=>by
  have h0:=hc c List.mem_cons_self
  obtain ⟨a,b⟩:=Zil (area:=area) h1 h2 h0.1 h0.2 (hd.weak c h0.1 h0.2)
  obtain ⟨j1,j2⟩:=Zsp (area:=area) h1 h2 h0.1 h0.2 hd k
  have hcl:=fun x hx=>hc x (List.mem_cons_of_mem _ hx)
  obtain ⟨n1,n2⟩:=List.nodup_cons.1 hk
  by_cases q:k=c.toNat
  ·have:=(Zll (area:=area) hd k l hcl (fun x hx=>.inl fun z=>n1 (by have:=(hcl x hx).1; rw [show c=x by omega]; exact hx)) a b).1
   exact Int.le_trans (j2 q) this
  ·have i1:=Zxr (area:=area) hd k hkn l hcl n2 a b
   have:=(j1 (.inl q)).1
   refine Int.le_trans ?_ i1
   omega
theorem Z18p (a b:Int):(seg a b).Nodup:=by
 unfold seg
 refine List.pairwise_map.2 ((List.nodup_range' (s:=a.toNat) (n:=b.toNat - a.toNat)).imp fun h q=>h ?_)
 exact Int.ofNat_inj.1 q
theorem Z18q (bed:List Nat):(ordL bed).Nodup:=(Z9d bed 0 bed.length).nodup_iff.2 (Z18p _ _)
theorem Zv9 {bed:List Nat} {x:Int} (h:x ∈ ordL bed):0≤x∧x<(bed.length:Int):=by
 have:=Zsn h
 omega
theorem Z18r {n:Int} {bed:List Nat} (hb:(bed.length:Int)=Zc n):Z79 bed.length (Z1t true (Zc n) n bed):=fun c c0 c1=>by
 rw [Zij hb c0 c1]
 have hp:Zh n c=true:=by
  obtain ⟨k,rfl⟩:∃ k:Nat,c=k:=⟨c.toNat,by omega⟩
  exact Zep (by omega)
 rcases Zlj (bed:=bed) hp with q | ⟨q1,q2,q3,_⟩
 ·exact .inl (by omega)
 ·exact .inr ⟨q1,by omega,fun e=>by rw [e] at q3; omega⟩
def Znb (bed:List Nat) (c:Int):Nat:=((seg 0 bed.length).filter fun x=>decide (Zp bed x<Zp bed c)).length
theorem Zxs {p q:Int→Bool}:∀ {l:List Int} {x:Int},x ∈ l→(∀ y ∈ l,p y=true→q y=true)→p x=false→q x=true→(l.filter p).length<(l.filter q).length
 | [],x,h,_,_,_=>by cases h
 | y :: l,x,h,hs,h1,h2=>by
  have le:(l.filter p).length≤(l.filter q).length:=by
   have hs':∀ y ∈ l,p y=true→q y=true:=fun y hy=>hs y (List.mem_cons_of_mem _ hy)
   clear hs h1 h2 h
   induction l with
   | nil=>simp
   | cons z l ih =>
    have i:=ih fun y hy=>hs' y (List.mem_cons_of_mem _ hy)
    have:=hs' z List.mem_cons_self
    rw [List.filter_cons,List.filter_cons]
    by_cases e:p z=true
    ·rw [if_pos e,if_pos (this e)]; simpa using i
    ·rw [if_neg e]; split
     ·simp only [List.length_cons]; omega
     ·exact i
  rw [List.filter_cons,List.filter_cons]
  rcases List.mem_cons.1 h with rfl | h
  ·rw [if_neg (by rw [h1]; decide),if_pos h2]; simp only [List.length_cons]; omega
  ·have:=Zxs h (fun y hy=>hs y (List.mem_cons_of_mem _ hy)) h1 h2
   have hy:=hs y List.mem_cons_self
   by_cases e:p y=true
   ·rw [if_pos e,if_pos (hy e)]; simpa using this
   ·rw [if_neg e]; split
    ·simp only [List.length_cons]; omega
    ·exact this
theorem Z1bt {n:Nat} {c:Int} (c0:0≤c) (c1:c<(n:Int)):c ∈ seg 0 n:=by
 unfold seg
 exact List.mem_map.2 ⟨c.toNat,List.mem_range'_1.2 ⟨by simp,by omega⟩,by omega⟩
theorem Z15y {bed:List Nat} {c d:Int} (d0:0≤d) (d1:d<(bed.length:Int)) (h:Zp bed d<Zp bed c):Znb bed d<Znb bed c :=
 Zxs (Z1bt d0 d1) (fun y _ e=>by rw [decide_eq_true_eq] at *; omega) (decide_eq_false (by omega)) (decide_eq_true h)
theorem Z1ae (bed:List Nat) (c:Int):Znb bed c≤bed.length:=by
 have:=List.length_filter_le (fun x=>decide (Zp bed x<Zp bed c)) (seg 0 bed.length)
 rw [Zna] at this
 unfold Znb
 omega
end Go.Lift

namespace Go.Lift
open Go
theorem BLs.app {a b:List Int} (ha:BLs a) (hb:BLs b):BLs (a++b):=fun x h=>(List.mem_append.1 h).elim (ha x) (hb x)
theorem BLs.take {a:List Int} (ha:BLs a) (n:Nat):BLs (a.take n):=fun x h=>ha x (List.mem_of_mem_take h)
theorem BLs.drop {a:List Int} (ha:BLs a) (n:Nat):BLs (a.drop n):=fun x h=>ha x (List.mem_of_mem_drop h)
end Go.Lift

namespace Go.Lift
open Go
theorem Z1af {α:Type} {l:List α} {k n:Nat} (hl:l.length=k) (hk:k<n) (z v:α):(l++List.replicate (n - k) z).set (0+k) v=l++[v]++List.replicate (n - (k+1)) z:=by
 obtain ⟨m,hm⟩:∃ m,n - k=m+1:=⟨n - k - 1,by omega⟩
 rw [hm,show n - (k+1)=m by omega,List.replicate_succ,Nat.zero_add,Z13y hl,List.append_assoc]
 rfl
end Go.Lift

namespace Go.Lift
open Go
end Go.Lift

namespace Go.Lift
open Go
end Go.Lift

namespace Go.Lift
open Go
def Zim (g:Option Gr) (c:Nat):Int:=if c=1 then iw (2*Zia g c) else Zia g c
theorem Z18s {l:List Int} {k:Nat} (hl:l.length=k) (a:Int) (r:List Int):(l++[a]++r).set (0+k) (i64.wrap (2*(l++[a]++r).getD (0+k) 0))=l++[iw (2*a)]++r:=by
 rw [Nat.zero_add,List.append_assoc,List.append_assoc]
 show (l++a :: r).set k (i64.wrap (2*(l++a :: r).getD k 0))=l++iw (2*a) :: r
 rw [Z13y hl]
 have:(l++a :: r).getD k 0=a:=by
  rw [List.getD_eq_getElem?_getD,List.getElem?_append_right (by omega),hl,Nat.sub_self]; rfl
 rw [this]; rfl
theorem new1:newR 1=(some (netG 1),0,()):=by unfold newR; rw [if_neg (by decide)]
end Go.Lift

namespace Go.Lift
def Z3l:List Nat:=[4617315517961601024,4616189618054758400,4613937818241073152,4611686018427387904,4607182418800017408,0]
theorem Z1ag:ordL Z3l=[0,1,2,3,4,5]:=(Zal (by decide +kernel) (by decide +kernel)).symm
theorem Z18t:ordL [4607182418800017408,4613937818241073152,4611686018427387904,4613937818241073152]=[1,3,2,0]:=(Zal (by decide +kernel) (by decide +kernel)).symm
def Z15z:SeaT:=(Z3l,[100,0,0,0,0,0],[10,0,0,0,0,0],[0,0,0,0,0,0,0,0,0,0,0,0],0,0)
theorem Z18u:runA (Z14 1) (Z1t true 6 1 Z3l) [0,1,2,3,4,5] ([100,0,0,0,0,0],[10,0,0,0,0,0])=([75,0,0,0,0,25],[8,0,0,0,0,2]):=by decide +kernel
theorem Zc4:Z58 (some (netG 1))=6:=by rw [Z3c]; decide
theorem Zsq:Zsg (some (netG 1))=12:=by decide +kernel
theorem Z1ah:Z6n (some (netG 1)) Z15z=([75,0,0,0,0,25],[8,0,0,0,0,2],0,()):=by
 show runF true (Z58 (some (netG 1))) (Zsg (some (netG 1))) (Z14 1) (Z1t true (Z58 (some (netG 1))) 1 Z15z.1) Z15z=_
 rw [Zc4,Zsq,Zxq (by decide) (by decide) (by decide)]
 show ((runA (Z14 1) (Z1t true 6 1 Z3l) (ordL Z3l) ([100,0,0,0,0,0],[10,0,0,0,0,0])).1,(runA (Z14 1) (Z1t true 6 1 Z3l) (ordL Z3l) ([100,0,0,0,0,0],[10,0,0,0,0,0])).2,0,())=_
 rw [Z1ag,Z18u]
theorem Z160:Z26 (some (netG 1)) Z3l 0=(5,()):=by
 show r1 (Z1t true (Z58 (some (netG 1))) 1 Z3l 0)=_
 rw [Zc4]; decide +kernel
theorem Z161:Z26 (some (netG 1)) Z3l 5=(-1,()):=by
 show r1 (Z1t true (Z58 (some (netG 1))) 1 Z3l 5)=_
 rw [Zc4]; decide +kernel
def Znc:Nat→List Int
 | 0=>[1431655765,2863311530,1431655765,1431655765,1431655765,1431655765]
 | k+1=>(Znc k).set k 0
def Zzw:Nat→List Nat
 | 0=>[0,0,0,0,0,0]
 | k+1=>(Zzw k).set k (f64.nearest (5 - (k:Int)))
theorem Z1ch:Zzw 6=Z3l:=by decide +kernel
theorem Z1ci:(Znc 6).set 0 100=[100,0,0,0,0,0]:=by decide
theorem Zva:AllW Z3l:=by unfold AllW W64 Z3l; decide
theorem Z1cj:(List.range 6).map (Zim (some (netG 1)))=Znc 0:=by decide +kernel
theorem Z18v (n:Int):(Zc n=0∧newR n=(none,10,())∧Zzq n=(none,10,()))∨(Zc n≠0∧Z1j n=true∧newR n=(some (netG n),0,())∧Zzq n=(some (Z15o n),0,())):=by
 by_cases q:Zc n=0
 ·exact .inl ⟨q,by unfold newR; rw [if_pos q],by unfold Zzq; rw [if_pos q]⟩
 ·refine .inr ⟨q,?_,by unfold newR; rw [if_neg q],by unfold Zzq; rw [if_neg q]⟩
  unfold Zc at q
  by_cases g:Z1j n=true
  ·exact g
  ·exact absurd (if_neg g) q
structure Ran (n:Int) (s:SeaT) (w t:List Int):Prop where
 bed:(s.1.length:Int)=Zc n
 wat:s.2.1.length=s.1.length
 tra:s.2.2.1.length=s.1.length
 p1:Pool s.1.length s.2.1.sum s.2.1
 p2:Pool s.1.length s.2.2.1.sum s.2.2.1
 b1:s.2.1.sum≤4503599627370496
 b2:s.2.2.1.sum≤4503599627370496
 run:runA (Z14 n) (Z1t true (Zc n) n s.1) (ordL s.1) (s.2.1,s.2.2.1)=(w,t)
 q1:Pool s.1.length s.2.1.sum w
 q2:Pool s.1.length s.2.2.1.sum t
theorem Ran.keep {n:Int} {s:SeaT} {w t:List Int} (h:Ran n s w t) {k:Nat} (hk:k<s.1.length) :
  at0 s.2.1 k - at0 s.2.1 k / 4≤at0 w k∧(Z1t true (Zc n) n s.1 k<0→at0 s.2.1 k≤at0 w k∧at0 s.2.2.1 k≤at0 t k):=by
 have he:=Z18r (n:=n) (bed:=s.1) h.bed
 constructor
 ·have:=Zxr (area:=Z14 n) he k hk (ordL s.1) (st:=(s.2.1,s.2.2.1)) (fun c hc=>Zv9 hc) (Z18q _) h.p1 h.p2
  rw [h.run] at this; exact this
 ·intro hd
  have:=Zll (area:=Z14 n) he k (ordL s.1) (st:=(s.2.1,s.2.2.1)) (fun c hc=>Zv9 hc) (fun c hc=>by
   by_cases q:k=c.toNat
   ·right
    have:=(Zv9 hc).1
    rw [show c=(k:Int) by omega]; exact hd
   ·exact .inl q) h.p1 h.p2
  rw [h.run] at this; exact this
theorem Z162 (bed:List Nat) {x y:Int}:Zzt (bed.getD x.toNat 0) (bed.getD y.toNat 0)=decide (Zp bed x<Zp bed y):=by
 rw [Bool.eq_iff_iff,decide_eq_true_eq]; exact Z18k bed x y
end Go.Lift

namespace Go.Lift
def Z3f:=fun (n:Int) (bed:List Nat) (c:Int) (post:Bool × Unit→Prop)=>∃ (h:True),∀ (a:Bool × Unit),a=yesR→∀ (a_1:Bool),a_1=a.fst→Br
 (!a_1) (post (false,())) (∃ (h:I64 n),∀ (a:Bool),a=((newR n).snd.fst != (0:Int))→Br a (∀ (a:Bool),a=((newR n).snd.fst != (0:Int))→Br a (post (true,
 ())) (∃ (h:Z4o (newR n).fst bed c),∀ (a:Int × Unit),a=Z26 (newR n).fst bed c→∀ (a_2:Bool),a_2=(a.fst==(-1:Int))→post (a_2,()))) (∃ (h:True),∀ (a :
 Bool),a=((↑bed.length:Int) != (Za (newR n).fst).fst)→Br a (∀ (a:Bool),a=((newR n).snd.fst != (0:Int))→Br a (post (true,())) (∃ (h:Z4o (newR n).fst
 bed c),∀ (a:Int × Unit),a=Z26 (newR n).fst bed c→∀ (a_2:Bool),a_2=(a.fst==(-1:Int))→post (a_2,()))) (HIs [] []∧∃ (I:Int × Int × Unit→Unit→Prop),∃
 (μ:Int × Int × Unit→Unit→Nat),I (c,(0:Int),()) ()∧∀ (x:Int × Int × Unit) (y:Unit),I x y→∀ (a:Bool),a=decide (x.snd.fst≤(↑bed.length:Int))→Br a (∃ (h
 : Z4o (newR n).fst bed x.fst),∀ (a:Int × Unit),a=Z26 (newR n).fst bed x.fst→∀ (a_2:Bool),a_2=decide (a.fst<(0:Int))→Br a_2 (∀ (a_3:Bool),a_3=decide
 (x.fst<(0:Int))→Br a_3 (∀ (a_4:Bool),a_4=(a.fst==(-1:Int))→post (a_4,())) (∀ (a_4:Bool),a_4=decide (x.fst≥(↑bed.length:Int))→Br a_4 (∀ (a_5:Bool),
 a_5=(a.fst==(-1:Int))→post (a_5,())) (HIs [] []∧∃ (I:Int × Unit→Unit→Prop),∃ (μ:Int × Unit→Unit→Nat),I ((0:Int),()) ()∧∀ (x_7:Int × Unit) (y :
 Unit),I x_7 y→∀ (a_5:Bool),a_5=decide (x_7.fst<(4:Int))→Br a_5 (∃ (h:III n x.fst x_7.fst),∀ (a:Int × Int × Unit),a=Z2c n x.fst x_7.fst→∀ (a_6:Bool),
 a_6=decide (a.fst<(0:Int))→Br a_6 (post (false,())) (∀ (a_7:Bool),a_7=decide (a.fst≥(↑bed.length:Int))→Br a_7 (post (false,())) (∃ (h:(0:Int) ≤
 a.fst∧a.fst<(↑bed.length:Int)),∃ (h:(0:Int)≤x.fst∧x.fst<(↑bed.length:Int)),∃ (h:W2 (bed.getD a.fst.toNat (0:Nat)) (bed.getD x.fst.toNat (0:Nat))),∀ (a_8
 : Bool × Unit),a_8=Za5 (bed.getD a.fst.toNat (0:Nat)) (bed.getD x.fst.toNat (0:Nat))→∀ (a:Bool),a=a_8.fst→Br a (post (false,())) (HIs [] []∧I
 (i64.wrap (x_7.fst+(1:Int)),()) ()∧μ (i64.wrap (x_7.fst+(1:Int)),()) ()<μ x_7 y)))) (∀ (a_6:Bool),a_6=(a.fst==(-1:Int))→post (a_6,())))))
 (∀ (a_3:Bool),a_3=decide (x.fst<(0:Int))→Br a_3 (post (false,())) (∀ (a_4:Bool),a_4=decide (x.fst≥(↑bed.length:Int))→Br a_4 (post (false,())) (∀
 (a_5:Bool),a_5=decide (a.fst≥(↑bed.length:Int))→Br a_5 (post (false,())) (∃ (h:(0:Int)≤a.fst∧a.fst<(↑bed.length:Int)),∃ (h:(0:Int)≤x.fst ∧
 x.fst<(↑bed.length:Int)),∃ (h:W2 (bed.getD a.fst.toNat (0:Nat)) (bed.getD x.fst.toNat (0:Nat))),∀ (a_6:Bool × Unit),a_6=Za5 (bed.getD a.fst.toNat (0:Nat))
 (bed.getD x.fst.toNat (0:Nat))→∀ (a_7:Bool),a_7=a_6.fst→Br (!a_7) (post (false,())) (HIs [] []∧∃ (I_1:Bool × Int × Unit→Unit→Prop),∃ (μ_1:Bool × Int ×
 Unit→Unit→Nat),I_1 (false,(0:Int),()) ()∧∀ (x_10:Bool × Int × Unit) (y_1:Unit),I_1 x_10 y_1→∀ (a_8:Bool),a_8=decide (x_10.snd.fst<(4:Int))→Br a_8
 (∃ (h:III n x.fst x_10.snd.fst),∀ (a_9:Int × Int × Unit),a_9=Z2c n x.fst x_10.snd.fst→∀ (a_10:Bool),a_10=decide (a_9.fst<(0:Int))→Br a_10 (post
 (false,())) (∀ (a_11:Bool),a_11=decide (a_9.fst≥(↑bed.length:Int))→Br a_11 (post (false,())) (∃ (h:(0:Int)≤a_9.fst∧a_9.fst<(↑bed.length:Int)),∃
 (h:(0:Int)≤a.fst∧a.fst<(↑bed.length:Int)),∃ (h:W2 (bed.getD a_9.fst.toNat (0:Nat)) (bed.getD a.fst.toNat (0:Nat))),∀ (a_12:Bool × Unit),a_12=Za5
 (bed.getD a_9.fst.toNat (0:Nat)) (bed.getD a.fst.toNat (0:Nat))→∀ (a_13:Bool),a_13=a_12.fst→Br a_13 (post (false,())) (∃ (h:(0:Int)≤a.fst∧a.fst <
 (↑bed.length:Int)),∃ (h:(0:Int)≤a_9.fst∧a_9.fst<(↑bed.length:Int)),∃ (h:W2 (bed.getD a.fst.toNat (0:Nat)) (bed.getD a_9.fst.toNat (0:Nat))),∀ (a_14:Bool ×
 Unit),a_14=Za5 (bed.getD a.fst.toNat (0:Nat)) (bed.getD a_9.fst.toNat (0:Nat))→∀ (a_15:Bool),a_15=a_14.fst→Br (!a_15) (∀ (a_16:Bool),a_16=decide (a_9.fst <
 a.fst)→Br a_16 (post (false,())) (Br x_10.fst (HIs [] []∧I_1 (true,i64.wrap (x_10.snd.fst+(1:Int)),()) ()∧μ_1 (true,i64.wrap
 (x_10.snd.fst+(1:Int)),()) ()<μ_1 x_10 y_1) (∀ (a_17:Bool),a_17=(a_9.fst==a.fst)→HIs [] []∧I_1 (a_17,i64.wrap (x_10.snd.fst+(1:Int)),()) ()∧μ_1
 (a_17,i64.wrap (x_10.snd.fst+(1:Int)),()) ()<μ_1 x_10 y_1))) (Br x_10.fst (HIs [] []∧I_1 (true,i64.wrap (x_10.snd.fst+(1:Int)),()) ()∧μ_1
 (true,i64.wrap (x_10.snd.fst+(1:Int)),()) ()<μ_1 x_10 y_1) (∀ (a_16:Bool),a_16=(a_9.fst==a.fst)→HIs [] []∧I_1 (a_16,i64.wrap (x_10.snd.fst
 + (1:Int)),()) ()∧μ_1 (a_16,i64.wrap (x_10.snd.fst+(1:Int)),()) ()<μ_1 x_10 y_1)))))) (Br (!x_10.fst) (post (false,())) (HIs [] []∧I (a.fst,
 i64.wrap (x.snd.fst+(1:Int)),()) ()∧μ (a.fst,i64.wrap (x.snd.fst+(1:Int)),()) ()<μ x y)))))))) (post (false,())))))
theorem Zfq (n:Int) (bed:List Nat) (c:Int) (h:Z1aq n bed c) (w:KS.wf [.int .i64,.slice (.flt .f64),.int .i64] (n,bed,c,())):Z3f  n bed c (fun r=>r=yesD n bed c):=by
 obtain ⟨hn,hb,hc⟩:=h
 refine ⟨trivial,?_⟩
 rintro _ rfl
 rintro _ rfl
 refine Br.intro (fun e=>absurd e (by first | decide | simp)) fun _=>?_
 refine ⟨hn,?_⟩
 rcases Z18v n with ⟨_,e1,_⟩ | ⟨_,gn,e1,_⟩
 ·rw [e1]
  rintro _ rfl
  refine Br.intro (fun _=>?_) fun e=>absurd e (by decide)
  rintro _ rfl
  exact Br.intro (fun _=>rfl) fun e=>absurd e (by decide)
 rw [e1]
 rintro _ rfl
 refine Br.intro (fun e=>absurd e (by first | decide | simp)) fun _=>?_
 have hC:(Za (some (netG n))).fst=Zc n:=Z3c n
 have hD:∀ c,(Z26 (some (netG n)) bed c).fst=Z1t true (Zc n) n bed c:=fun c=>by
  show Z1t true (Z58 (some (netG n))) n bed c=_
  rw [Z3c]
 have w1:∀ c,Z4o (some (netG n)) bed c:=fun c=>⟨.inr ⟨n,gn,rfl⟩,hb⟩
 refine ⟨trivial,?_⟩
 rw [hC]
 rintro _ rfl
 refine Br.intro (fun e=>?_) fun e=>?_
 ·rintro _ rfl
  refine Br.intro (fun e=>absurd e (by simp)) fun _=>?_
  refine ⟨w1 c,?_⟩
  rintro _ rfl
  rw [hD,Za7 (.inl (by simpa using e))]
  rintro _ rfl
  rfl
 have hbl:(bed.length:Int)=Zc n:=by simpa using e
 have cr:=Z77 n
 have hW:∀ {x:Int},0≤x→x<(bed.length:Int)→W64 (bed.getD x.toNat 0):=fun h0 h1=>hb _ (Z4a (by omega) 0)
 have hL:∀ x y:Int,Za5 (bed.getD x.toNat 0) (bed.getD y.toNat 0)=r1 (decide (Zp bed x<Zp bed y)):=fun x y=>by unfold Za5; rw [Z162]
 refine ⟨rfl,fun x _=>0≤x.2.1∧x.2.1+Znb bed x.1≤bed.length∧I64 x.1,fun x _=>((bed.length:Int)+1 - x.2.1).toNat,⟨Int.le_refl _,by have:=Z1ae bed c; show (0:Int)+(Znb bed c:Int)≤_; omega,hc⟩,?_⟩
 rintro ⟨cc,nn,⟨⟩⟩ ⟨⟩ ⟨h0,h1,h2⟩
 dsimp only at h0 h1 h2 ⊢
 rintro _ rfl
 refine Br.intro (fun e=>?_) fun e=>absurd (of_decide_eq_false e) (by omega)
 refine ⟨w1 cc,?_⟩
 rintro _ rfl
 simp only [hD]
 obtain ⟨d,hd⟩:∃ d,Z1t true (Zc n) n bed cc=d:=⟨_,rfl⟩
 simp only [hd]
 rintro _ rfl
 by_cases q:cc<0∨(bed.length:Int)≤cc
 ·rw [Za7 (.inr q)] at hd
  subst hd
  refine Br.intro (fun _=>?_) fun e=>absurd e (by decide)
  rintro _ rfl
  refine Br.intro (fun _=>by rintro _ rfl; rfl) fun e1=>?_
  rintro _ rfl
  refine Br.intro (fun _=>by rintro _ rfl; rfl) fun e2=>?_
  have:=of_decide_eq_false e1
  have:=of_decide_eq_false e2
  exact absurd q (by omega)
 have c0:0≤cc:=by omega
 have c1:cc<(bed.length:Int):=by omega
 have hp:Zh n cc=true:=by
  have:=Zep (n:=n) (k:=cc.toNat) (by omega)
  rwa [show ((cc.toNat:Nat):Int)=cc by omega] at this
 rw [Zij hbl c0 c1] at hd
 obtain ⟨_,_,B3,B4⟩:=Z9e (bed:=bed) hp 4 (by omega)
 have bo:∀ o:Nat,o<4→0≤(Z3 n cc o).1∧(Z3 n cc o).1<(bed.length:Int):=fun o ho=>by
  have:=Z5d hp (k:=o) ho
  omega
 have hBe:∀ o,(Z2c n cc o).fst=(Z3 n cc o).1:=fun o=>rfl
 refine Br.intro (fun e=>?_) fun e=>?_
 ·have e:=of_decide_eq_true e
  obtain ⟨dn,hnl⟩:d=-1∧¬ Zp bed (Z13 n bed cc 4)<Zp bed cc:=by
   unfold Z5v at hd
   split at hd
   ·have:=(Z15x (bed:=bed) hp).1
    omega
   ·exact ⟨hd.symm,by assumption⟩
  subst dn
  rintro _ rfl
  refine Br.intro (fun e=>absurd (of_decide_eq_true e) (by omega)) fun _=>?_
  rintro _ rfl
  refine Br.intro (fun e=>absurd (of_decide_eq_true e) (by omega)) fun _=>?_
  refine ⟨rfl,fun x _=>∃ k:Nat,x.1=k∧k≤4,fun x _=>4 - x.1.toNat,⟨0,rfl,by omega⟩,?_⟩
  rintro ⟨_,⟨⟩⟩ ⟨⟩ ⟨k,rfl,hk⟩
  dsimp only
  rintro _ rfl
  refine Br.intro (fun e=>?_) fun e=>by rintro _ rfl; rfl
  have hk2:k<4:=by have:=of_decide_eq_true e; omega
  have b:=bo k hk2
  refine ⟨⟨hn,h2,by omega,by omega⟩,?_⟩
  rintro _ rfl
  simp only [hBe]
  rintro _ rfl
  refine Br.intro (fun e=>absurd (of_decide_eq_true e) (by omega)) fun _=>?_
  rintro _ rfl
  refine Br.intro (fun e=>absurd (of_decide_eq_true e) (by omega)) fun _=>?_
  refine ⟨b,⟨c0,c1⟩,⟨hW b.1 b.2,hW c0 c1⟩,?_⟩
  rw [hL]
  rintro _ rfl
  rintro _ rfl
  refine Br.intro (fun e=>?_) fun _=>by rw [Z2b hk2 (by omega)]; exact ⟨rfl,⟨k+1,rfl,by omega⟩,by omega⟩
  have e:=of_decide_eq_true e
  have:=B4 k hk2
  exact absurd hnl (by omega)
 have e:=of_decide_eq_false e
 obtain ⟨d0,d1,d2,d3⟩:0≤d∧d<(bed.length:Int)∧Zp bed d<Zp bed cc∧d=Z13 n bed cc 4:=by
  rcases Zlj (bed:=bed) hp with q | ⟨q1,q2,q3,q4⟩
  ·omega
  ·rw [hd] at q1 q2 q3 q4
   exact ⟨q1,by omega,q3,q4⟩
 rw [← d3] at B3 B4
 rintro _ rfl
 refine Br.intro (fun e=>absurd (of_decide_eq_true e) (by omega)) fun _=>?_
 rintro _ rfl
 refine Br.intro (fun e=>absurd (of_decide_eq_true e) (by omega)) fun _=>?_
 rintro _ rfl
 refine Br.intro (fun e=>absurd (of_decide_eq_true e) (by omega)) fun _=>?_
 refine ⟨⟨d0,d1⟩,⟨c0,c1⟩,⟨hW d0 d1,hW c0 c1⟩,?_⟩
 rw [hL]
 rintro _ rfl
 rintro _ rfl
 refine Br.intro (fun e=>?_) fun _=>?_
 ·have e:(!decide (Zp bed d<Zp bed cc))=true:=e
  rw [decide_eq_true d2] at e; cases e
 refine ⟨rfl,fun x _=>∃ k:Nat,x.2.1=k∧k≤4∧((∃ j:Nat,j<k∧(Z3 n cc j).1=d)→x.1=true),fun x _=>4 - x.2.1.toNat,⟨0,rfl,by omega,fun ⟨j,hj,_⟩=>by omega⟩,?_⟩
 rintro ⟨found,_,⟨⟩⟩ ⟨⟩ ⟨k,rfl,hk,hf⟩
 dsimp only at hf ⊢
 rintro _ rfl
 refine Br.intro (fun e=>?_) fun e=>?_
 rotate_left
 ·have hke:k=4:=by have:=of_decide_eq_false e; omega
  subst hke
  obtain ⟨j,j1,j2⟩:=B3 (by omega)
  have:=hf ⟨j,j1,j2.symm⟩
  subst this
  refine Br.intro (fun e=>by cases e) fun _=>?_
  have:=Z15y (bed:=bed) d0 d1 d2
  rw [wi (x:=nn+1) ⟨by omega,by omega⟩]
  exact ⟨rfl,⟨by omega,by omega,by omega,by omega⟩,by omega⟩
 have hk2:k<4:=by have:=of_decide_eq_true e; omega
 have b:=bo k hk2
 have b4:=B4 k hk2
 refine ⟨⟨hn,h2,by omega,by omega⟩,?_⟩
 rintro _ rfl
 simp only [hBe]
 rw [Z2b hk2 (by omega)]
 rintro _ rfl
 refine Br.intro (fun e=>absurd (of_decide_eq_true e) (by omega)) fun _=>?_
 rintro _ rfl
 refine Br.intro (fun e=>absurd (of_decide_eq_true e) (by omega)) fun _=>?_
 refine ⟨b,⟨d0,d1⟩,⟨hW b.1 b.2,hW d0 d1⟩,?_⟩
 rw [hL,hL]
 rintro _ rfl
 rintro _ rfl
 refine Br.intro (fun e=>absurd (of_decide_eq_true e) (by omega)) fun e3=>?_
 have e3:=of_decide_eq_false e3
 refine ⟨⟨d0,d1⟩,b,⟨hW d0 d1,hW b.1 b.2⟩,?_⟩
 rintro _ rfl
 rintro _ rfl
 refine Br.intro (fun e4=>?_) fun e4=>?_
 ·have e4:¬ Zp bed d<Zp bed (Z3 n cc k).1:=by
   have e4:(!decide (Zp bed d<Zp bed (Z3 n cc k).1))=true:=e4
   simpa using e4
  rintro _ rfl
  refine Br.intro (fun e=>absurd (of_decide_eq_true e) (by omega)) fun _=>?_
  refine Br.intro (fun e5=>?_) fun e5=>?_
  ·exact ⟨rfl,⟨k+1,rfl,by omega,fun _=>by first | rfl | trivial⟩,by omega⟩
  ·rintro _ rfl
   refine ⟨rfl,⟨k+1,rfl,by omega,fun ⟨j,hj,q⟩=>?_⟩,by omega⟩
   by_cases ej:j=k
   ·subst ej; exact beq_iff_eq.2 q
   ·have:=hf ⟨j,by omega,q⟩
    rw [e5] at this; cases this
 ·refine Br.intro (fun e5=>?_) fun e5=>?_
  ·exact ⟨rfl,⟨k+1,rfl,by omega,fun _=>by first | rfl | trivial⟩,by omega⟩
  ·rintro _ rfl
   refine ⟨rfl,⟨k+1,rfl,by omega,fun ⟨j,hj,q⟩=>?_⟩,by omega⟩
   by_cases ej:j=k
   ·subst ej; exact beq_iff_eq.2 q
   ·have:=hf ⟨j,by omega,q⟩
    rw [e5] at this; cases this
end Go.Lift

namespace Go.Lift
def Z5w:=fun (ty39 ty59 ty2:Nat) (post:Bool × Unit→Prop)=>∃ (h:I64 (1:Int)),∀ (a:Bool),a=((newR (1:Int)).snd.fst != (0:Int))→Br a (post
 (false,())) (∃ (h:True),∀ (a:Bool),a=decide ((Za (newR (1:Int)).fst).fst<(0:Int))→Br a (∀ (a:Bool),a=((0:Int) != (6:Int))→Br a (post
 (false,())) False) (∀ (a:Bool),a=decide ((Za (newR (1:Int)).fst).fst > (6144:Int))→Br a (∀ (a:Bool),a=((0:Int) != (6:Int))→Br a (post (false,
 ())) False) (∃ (h:True),∀ (a:Bool),a=((Z8g (newR (1:Int)).fst).fst != i64.wrap ((2:Int)*(Za (newR (1:Int)).fst).fst))→Br a (∀ (a:Bool),a =
 ((0:Int) != (6:Int))→Br a (post (false,())) False) (∃ (h:(0:Int)≤(Za (newR (1:Int)).fst).fst∧(Za (newR (1:Int)).fst).fst≤(Za (newR (1 :
 Int)).fst).fst∧(Za (newR (1:Int)).fst).fst*(↑(8:Nat):Int)≤(281474976710656:Int)),∃ (h:(0:Int)≤(Za (newR (1:Int)).fst).fst∧(Za (newR (1 :
 Int)).fst).fst≤(Za (newR (1:Int)).fst).fst∧(Za (newR (1:Int)).fst).fst*(↑(8:Nat):Int)≤(281474976710656:Int)),∃ (h:(0:Int)≤(Za (newR (1 :
 Int)).fst).fst∧(Za (newR (1:Int)).fst).fst≤(Za (newR (1:Int)).fst).fst∧(Za (newR (1:Int)).fst).fst*(↑(8:Nat):Int)≤(281474976710656:Int)),∃ (h
 : (0:Int)≤i64.wrap ((2:Int)*(Za (newR (1:Int)).fst).fst)∧i64.wrap ((2:Int)*(Za (newR (1:Int)).fst).fst)≤i64.wrap ((2:Int) *
 (Za (newR (1:Int)).fst).fst)∧i64.wrap ((2:Int)*(Za (newR (1:Int)).fst).fst)*(↑(8:Nat):Int)≤(281474976710656:Int)),HIs [HObj.pend,HObj.box
 Md.rw ty39 [SV.val (Go.Value.slice none (0:Nat) (0:Nat)),SV.val (Go.Value.slice none (0:Nat) (0:Nat)),SV.val (Go.Value.slice none (0:Nat) (0 :
 Nat)),SV.val (Go.Value.slice none (0:Nat) (0:Nat)),SV.val (Go.Value.int i64 (0:Int)),SV.val (Go.Value.int i64 (0:Int))],HObj.row Md.rw ty59
 (K.flt f64) (List.replicate (Za (newR (1:Int)).fst).fst.toNat (0:Nat)),HObj.row Md.rw ty2 (K.int i64) (List.replicate (Za (newR (1 :
 Int)).fst).fst.toNat (0:Int)),HObj.row Md.rw ty2 (K.int i64) (List.replicate (Za (newR (1:Int)).fst).fst.toNat (0:Int)),HObj.row Md.rw ty59 (K.flt
 f64) (List.replicate (i64.wrap ((2:Int)*(Za (newR (1:Int)).fst).fst)).toNat (0:Nat)),HObj.box Md.rw ty39 [SV.osl (2:Nat) (0:Nat) (6:Nat),
 SV.osl (3:Nat) (0:Nat) (6:Nat),SV.osl (4:Nat) (0:Nat) (6:Nat),SV.osl (5:Nat) (0:Nat) (12:Nat),SV.val (Go.Value.int i64 (0:Int)),SV.val
 (Go.Value.int i64 (0:Int))]] [HObj.pend,HObj.box Md.rw ty39 [SV.val (Go.Value.slice none (0:Nat) (0:Nat)),SV.val (Go.Value.slice none (0:Nat) (0 :
 Nat)),SV.val (Go.Value.slice none (0:Nat) (0:Nat)),SV.val (Go.Value.slice none (0:Nat) (0:Nat)),SV.val (Go.Value.int i64 (0:Int)),SV.val
 (Go.Value.int i64 (0:Int))],HObj.row Md.rw ty59 (K.flt f64) (List.replicate (Za (newR (1:Int)).fst).fst.toNat (0:Nat)),HObj.row Md.rw ty2 (K.int
 i64) (List.replicate (Za (newR (1:Int)).fst).fst.toNat (0:Int)),HObj.row Md.rw ty2 (K.int i64) (List.replicate (Za (newR (1:Int)).fst).fst.toNat
 (0:Int)),HObj.row Md.rw ty59 (K.flt f64) (List.replicate (i64.wrap ((2:Int)*(Za (newR (1:Int)).fst).fst)).toNat (0:Nat)),HObj.box Md.rw ty39
 [SV.osl (2:Nat) (0:Nat) (6:Nat),SV.osl (3:Nat) (0:Nat) (6:Nat),SV.osl (4:Nat) (0:Nat) (6:Nat),SV.osl (5:Nat) (0:Nat) (12:Nat),SV.val (Go.Value.int
 i64 (0:Int)),SV.val (Go.Value.int i64 (0:Int))]]∧∃ (I:Int × Unit→List Int × Unit→Prop),∃ (μ:Int × Unit→List Int × Unit→Nat),I ((0:Int),())
 (List.replicate (Za (newR (1:Int)).fst).fst.toNat (0:Int),())∧∀ (x:Int × Unit) (y:List Int × Unit),I x y→∀ (a:Bool),a=decide (x.fst<(Za (newR (1 :
 Int)).fst).fst)→Br a (∃ (h:True),∃ (h:(0:Int)≤x.fst∧x.fst<(↑(Za (newR (1:Int)).fst).fst.toNat:Int)),∀ (a:Bool),a=(x.fst==(1:Int))→Br a (∃ (h :
 (0:Int)≤x.fst∧x.fst<(↑(Za (newR (1:Int)).fst).fst.toNat:Int)),∃ (h:(0:Int)≤x.fst∧x.fst<(↑(Za (newR (1:Int)).fst).fst.toNat:Int)),HIs
 [HObj.pend,HObj.box Md.rw ty39 [SV.val (Go.Value.slice none (0:Nat) (0:Nat)),SV.val (Go.Value.slice none (0:Nat) (0:Nat)),SV.val (Go.Value.slice
 none (0:Nat) (0:Nat)),SV.val (Go.Value.slice none (0:Nat) (0:Nat)),SV.val (Go.Value.int i64 (0:Int)),SV.val (Go.Value.int i64 (0 :
 Int))],HObj.row Md.rw ty59 (K.flt f64) (List.replicate (Za (newR (1:Int)).fst).fst.toNat (0:Nat)),HObj.row Md.rw ty2 (K.int i64) ((y.fst.set ((0 :
 Nat)+x.fst.toNat) (Z24 (newR (1:Int)).fst x.fst).fst).set ((0:Nat)+x.fst.toNat) (i64.wrap ((2:Int)*(y.fst.set ((0:Nat)+x.fst.toNat) (Z24 (newR (1 :
 Int)).fst x.fst).fst).getD ((0:Nat)+x.fst.toNat) (0:Int)))),HObj.row Md.rw ty2 (K.int i64) (List.replicate (Za (newR (1:Int)).fst).fst.toNat (0:Int)),
 HObj.row Md.rw ty59 (K.flt f64) (List.replicate (i64.wrap ((2:Int)*(Za (newR (1:Int)).fst).fst)).toNat (0:Nat)),HObj.box Md.rw ty39 [SV.osl (2 :
 Nat) (0:Nat) (6:Nat),SV.osl (3:Nat) (0:Nat) (6:Nat),SV.osl (4:Nat) (0:Nat) (6:Nat),SV.osl (5:Nat) (0:Nat) (12:Nat),SV.val (Go.Value.int i64 (0 :
 Int)),SV.val (Go.Value.int i64 (0:Int))]] [HObj.pend,HObj.box Md.rw ty39 [SV.val (Go.Value.slice none (0:Nat) (0:Nat)),SV.val (Go.Value.slice none
 (0:Nat) (0:Nat)),SV.val (Go.Value.slice none (0:Nat) (0:Nat)),SV.val (Go.Value.slice none (0:Nat) (0:Nat)),SV.val (Go.Value.int i64 (0 :
 Int)),SV.val (Go.Value.int i64 (0:Int))],HObj.row Md.rw ty59 (K.flt f64) (List.replicate (Za (newR (1:Int)).fst).fst.toNat (0:Nat)),HObj.row
 Md.rw ty2 (K.int i64) ((y.fst.set ((0:Nat)+x.fst.toNat) (Z24 (newR (1:Int)).fst x.fst).fst).set ((0:Nat)+x.fst.toNat) (i64.wrap ((2:Int) *
 (y.fst.set ((0:Nat)+x.fst.toNat) (Z24 (newR (1:Int)).fst x.fst).fst).getD ((0:Nat)+x.fst.toNat) (0:Int)))),HObj.row Md.rw ty2 (K.int i64) (List.replicate
 (Za (newR (1:Int)).fst).fst.toNat (0:Int)),HObj.row Md.rw ty59 (K.flt f64) (List.replicate (i64.wrap ((2:Int)*(Za (newR (1 :
 Int)).fst).fst)).toNat (0:Nat)),HObj.box Md.rw ty39 [SV.osl (2:Nat) (0:Nat) (6:Nat),SV.osl (3:Nat) (0:Nat) (6:Nat),SV.osl (4:Nat) (0:Nat) (6:Nat),SV.osl (5
 : Nat) (0:Nat) (12:Nat),SV.val (Go.Value.int i64 (0:Int)),SV.val (Go.Value.int i64 (0:Int))]]∧I (i64.wrap (x.fst+(1:Int)),()) ((y.fst.set
 ((0:Nat)+x.fst.toNat) (Z24 (newR (1:Int)).fst x.fst).fst).set ((0:Nat)+x.fst.toNat) (i64.wrap ((2:Int)*(y.fst.set ((0:Nat)+x.fst.toNat) (Z24 (newR
 (1:Int)).fst x.fst).fst).getD ((0:Nat)+x.fst.toNat) (0:Int))),())∧μ (i64.wrap (x.fst+(1:Int)),()) ((y.fst.set ((0:Nat)+x.fst.toNat) (Z24 (newR (1 :
 Int)).fst x.fst).fst).set ((0:Nat)+x.fst.toNat) (i64.wrap ((2:Int)*(y.fst.set ((0:Nat)+x.fst.toNat) (Z24 (newR (1:Int)).fst x.fst).fst).getD ((0:Nat) +
 x.fst.toNat) (0:Int))),())<μ x y) (HIs [HObj.pend,HObj.box Md.rw ty39 [SV.val (Go.Value.slice none (0:Nat) (0:Nat)),SV.val (Go.Value.slice none (0:Nat)
 (0:Nat)),SV.val (Go.Value.slice none (0:Nat) (0:Nat)),SV.val (Go.Value.slice none (0:Nat) (0:Nat)),SV.val (Go.Value.int i64 (0:Int)),SV.val
 (Go.Value.int i64 (0:Int))],HObj.row Md.rw ty59 (K.flt f64) (List.replicate (Za (newR (1:Int)).fst).fst.toNat (0:Nat)),HObj.row Md.rw ty2 (K.int
 i64) (y.fst.set ((0:Nat)+x.fst.toNat) (Z24 (newR (1:Int)).fst x.fst).fst),HObj.row Md.rw ty2 (K.int i64) (List.replicate (Za (newR (1 :
 Int)).fst).fst.toNat (0:Int)),HObj.row Md.rw ty59 (K.flt f64) (List.replicate (i64.wrap ((2:Int)*(Za (newR (1:Int)).fst).fst)).toNat (0:Nat)),
 HObj.box Md.rw ty39 [SV.osl (2:Nat) (0:Nat) (6:Nat),SV.osl (3:Nat) (0:Nat) (6:Nat),SV.osl (4:Nat) (0:Nat) (6:Nat),SV.osl (5:Nat) (0:Nat) (12:Nat),
 SV.val (Go.Value.int i64 (0:Int)),SV.val (Go.Value.int i64 (0:Int))]] [HObj.pend,HObj.box Md.rw ty39 [SV.val (Go.Value.slice none (0:Nat) (0 :
 Nat)),SV.val (Go.Value.slice none (0:Nat) (0:Nat)),SV.val (Go.Value.slice none (0:Nat) (0:Nat)),SV.val (Go.Value.slice none (0:Nat) (0:Nat)),
 SV.val (Go.Value.int i64 (0:Int)),SV.val (Go.Value.int i64 (0:Int))],HObj.row Md.rw ty59 (K.flt f64) (List.replicate (Za (newR (1 :
 Int)).fst).fst.toNat (0:Nat)),HObj.row Md.rw ty2 (K.int i64) (y.fst.set ((0:Nat)+x.fst.toNat) (Z24 (newR (1:Int)).fst x.fst).fst),HObj.row Md.rw ty2 (K.int
 i64) (List.replicate (Za (newR (1:Int)).fst).fst.toNat (0:Int)),HObj.row Md.rw ty59 (K.flt f64) (List.replicate (i64.wrap ((2:Int) *
 (Za (newR (1:Int)).fst).fst)).toNat (0:Nat)),HObj.box Md.rw ty39 [SV.osl (2:Nat) (0:Nat) (6:Nat),SV.osl (3:Nat) (0:Nat) (6:Nat),SV.osl (4:Nat) (0:Nat)
 (6:Nat),SV.osl (5:Nat) (0:Nat) (12:Nat),SV.val (Go.Value.int i64 (0:Int)),SV.val (Go.Value.int i64 (0:Int))]]∧I (i64.wrap (x.fst+(1 :
 Int)),()) (y.fst.set ((0:Nat)+x.fst.toNat) (Z24 (newR (1:Int)).fst x.fst).fst,())∧μ (i64.wrap (x.fst+(1:Int)),()) (y.fst.set ((0:Nat)+x.fst.toNat)
 (Z24 (newR (1:Int)).fst x.fst).fst,())<μ x y)) (∀ (a:Bool),a=((↑(Za (newR (1:Int)).fst).fst.toNat:Int) != (6:Int))→Br a (post (false,())) (HIs
 [HObj.box Md.rw ty39 [SV.osl (2:Nat) (0:Nat) (6:Nat),SV.osl (3:Nat) (0:Nat) (6:Nat),SV.osl (4:Nat) (0:Nat) (6:Nat),SV.osl (5:Nat) (0:Nat) (12:Nat),
 SV.val (Go.Value.int i64 (0:Int)),SV.val (Go.Value.int i64 (0:Int))],HObj.box Md.rw ty39 [SV.osl (2:Nat) (0:Nat) (6:Nat),SV.osl (3:Nat) (0:Nat) (6
 : Nat),SV.osl (4:Nat) (0:Nat) (6:Nat),SV.osl (5:Nat) (0:Nat) (12:Nat),SV.val (Go.Value.int i64 (0:Int)),SV.val (Go.Value.int i64 (0:Int))],
 HObj.row Md.rw ty59 (K.flt f64) (List.replicate (Za (newR (1:Int)).fst).fst.toNat (0:Nat)),HObj.row Md.rw ty2 (K.int i64) y.fst,HObj.row Md.rw ty2
 (K.int i64) (List.replicate (Za (newR (1:Int)).fst).fst.toNat (0:Int)),HObj.row Md.rw ty59 (K.flt f64) (List.replicate (i64.wrap ((2:Int)
 * (Za (newR (1:Int)).fst).fst)).toNat (0:Nat)),HObj.box Md.rw ty39 [SV.osl (2:Nat) (0:Nat) (6:Nat),SV.osl (3:Nat) (0:Nat) (6:Nat),SV.osl (4:Nat) (0 :
 Nat) (6:Nat),SV.osl (5:Nat) (0:Nat) (12:Nat),SV.val (Go.Value.int i64 (0:Int)),SV.val (Go.Value.int i64 (0:Int))]] [HObj.box Md.rw ty39 [SV.osl (2 :
 Nat) (0:Nat) (6:Nat),SV.osl (3:Nat) (0:Nat) (6:Nat),SV.osl (4:Nat) (0:Nat) (6:Nat),SV.osl (5:Nat) (0:Nat) (12:Nat),SV.val (Go.Value.int i64 (0 :
 Int)),SV.val (Go.Value.int i64 (0:Int))],HObj.box Md.rw ty39 [SV.osl (2:Nat) (0:Nat) (6:Nat),SV.osl (3:Nat) (0:Nat) (6:Nat),SV.osl (4:Nat) (0:Nat) (6
 : Nat),SV.osl (5:Nat) (0:Nat) (12:Nat),SV.val (Go.Value.int i64 (0:Int)),SV.val (Go.Value.int i64 (0:Int))],HObj.row Md.rw ty59 (K.flt
 f64) (List.replicate (Za (newR (1:Int)).fst).fst.toNat (0:Nat)),HObj.row Md.rw ty2 (K.int i64) y.fst,HObj.row Md.rw ty2 (K.int i64)
 (List.replicate (Za (newR (1:Int)).fst).fst.toNat (0:Int)),HObj.row Md.rw ty59 (K.flt f64) (List.replicate (i64.wrap ((2:Int)*(Za (newR (1
 : Int)).fst).fst)).toNat (0:Nat)),HObj.box Md.rw ty39 [SV.osl (2:Nat) (0:Nat) (6:Nat),SV.osl (3:Nat) (0:Nat) (6:Nat),SV.osl (4:Nat) (0:Nat) (6:Nat),SV.osl
 (5:Nat) (0:Nat) (12:Nat),SV.val (Go.Value.int i64 (0:Int)),SV.val (Go.Value.int i64 (0:Int))]]∧∃ (I:Int × Unit→List Nat × List Int × Unit →
 Prop),∃ (μ:Int × Unit→List Nat × List Int × Unit→Nat),I ((0:Int),()) (List.replicate (Za (newR (1:Int)).fst).fst.toNat (0:Nat),y.fst,())∧∀ (x:Int × Unit)
 (y:List Nat × List Int × Unit),I x y→∀ (a:Bool),a=decide (x.fst<(6:Int))→Br a (∃ (h:(0:Int)≤x.fst∧x.fst<(↑(Za (newR (1:Int)).fst).fst.toNat :
 Int)),∃ (h:(0:Int)≤x.fst∧x.fst<(↑(Za (newR (1:Int)).fst).fst.toNat:Int)),HIs [HObj.box Md.rw ty39 [SV.osl (2:Nat) (0:Nat) (6:Nat),SV.osl (3:Nat) (0 :
 Nat) (6:Nat),SV.osl (4:Nat) (0:Nat) (6:Nat),SV.osl (5:Nat) (0:Nat) (12:Nat),SV.val (Go.Value.int i64 (0:Int)),SV.val (Go.Value.int i64 (0 :
 Int))],HObj.box Md.rw ty39 [SV.osl (2:Nat) (0:Nat) (6:Nat),SV.osl (3:Nat) (0:Nat) (6:Nat),SV.osl (4:Nat) (0:Nat) (6:Nat),SV.osl (5:Nat) (0:Nat) (12 :
 Nat),SV.val (Go.Value.int i64 (0:Int)),SV.val (Go.Value.int i64 (0:Int))],HObj.row Md.rw ty59 (K.flt f64) (y.fst.set ((0:Nat)+x.fst.toNat)
 (f64.nearest (i64.wrap ((5:Int) - x.fst)))),HObj.row Md.rw ty2 (K.int i64) (y.snd.fst.set ((0:Nat)+x.fst.toNat) (0:Int)),HObj.row Md.rw ty2
 (K.int i64) (List.replicate (Za (newR (1:Int)).fst).fst.toNat (0:Int)),HObj.row Md.rw ty59 (K.flt f64) (List.replicate (i64.wrap ((2:Int)
 * (Za (newR (1:Int)).fst).fst)).toNat (0:Nat)),HObj.box Md.rw ty39 [SV.osl (2:Nat) (0:Nat) (6:Nat),SV.osl (3:Nat) (0:Nat) (6:Nat),SV.osl (4:Nat) (0 :
 Nat) (6:Nat),SV.osl (5:Nat) (0:Nat) (12:Nat),SV.val (Go.Value.int i64 (0:Int)),SV.val (Go.Value.int i64 (0:Int))]] [HObj.box Md.rw ty39 [SV.osl (2 :
 Nat) (0:Nat) (6:Nat),SV.osl (3:Nat) (0:Nat) (6:Nat),SV.osl (4:Nat) (0:Nat) (6:Nat),SV.osl (5:Nat) (0:Nat) (12:Nat),SV.val (Go.Value.int i64 (0 :
 Int)),SV.val (Go.Value.int i64 (0:Int))],HObj.box Md.rw ty39 [SV.osl (2:Nat) (0:Nat) (6:Nat),SV.osl (3:Nat) (0:Nat) (6:Nat),SV.osl (4:Nat) (0:Nat) (6
 : Nat),SV.osl (5:Nat) (0:Nat) (12:Nat),SV.val (Go.Value.int i64 (0:Int)),SV.val (Go.Value.int i64 (0:Int))],HObj.row Md.rw ty59 (K.flt
 f64) (y.fst.set ((0:Nat)+x.fst.toNat) (f64.nearest (i64.wrap ((5:Int) - x.fst)))),HObj.row Md.rw ty2 (K.int i64) (y.snd.fst.set
 ((0:Nat)+x.fst.toNat) (0:Int)),HObj.row Md.rw ty2 (K.int i64) (List.replicate (Za (newR (1:Int)).fst).fst.toNat (0:Int)),HObj.row Md.rw ty59 (K.flt
 f64) (List.replicate (i64.wrap ((2:Int)*(Za (newR (1:Int)).fst).fst)).toNat (0:Nat)),HObj.box Md.rw ty39 [SV.osl (2:Nat) (0:Nat) (6:Nat),
 SV.osl (3:Nat) (0:Nat) (6:Nat),SV.osl (4:Nat) (0:Nat) (6:Nat),SV.osl (5:Nat) (0:Nat) (12:Nat),SV.val (Go.Value.int i64 (0:Int)),SV.val
 (Go.Value.int i64 (0:Int))]]∧I (i64.wrap (x.fst+(1:Int)),()) (y.fst.set ((0:Nat)+x.fst.toNat) (f64.nearest (i64.wrap ((5:Int) -
 x.fst))),y.snd.fst.set ((0:Nat)+x.fst.toNat) (0:Int),())∧μ (i64.wrap (x.fst+(1:Int)),()) (y.fst.set ((0:Nat)+x.fst.toNat) (f64.nearest
 (i64.wrap ((5:Int) - x.fst))),y.snd.fst.set ((0:Nat)+x.fst.toNat) (0:Int),())<μ x y) (∃ (h:(0:Int)≤(0:Int)∧(0:Int)<(↑(Za (newR (1 :
 Int)).fst).fst.toNat:Int)),∃ (h:(0:Int)≤(0:Int)∧(0:Int)<(↑(Za (newR (1:Int)).fst).fst.toNat:Int)),∃ (h:WRun (newR (1:Int)).fst (List.take (Za
 (newR (1:Int)).fst).fst.toNat (List.drop (0:Nat) y.fst),List.take (Za (newR (1:Int)).fst).fst.toNat (List.drop (0:Nat) (y.snd.fst.set ((0:Nat)+Int.toNat (0 :
 Int)) (100:Int))),[(10:Int),(0:Int),(0:Int),(0:Int),(0:Int),(0:Int)],[(0:Nat),(0:Nat),(0:Nat),(0:Nat),(0:Nat),(0:Nat),(0:Nat),(0:Nat),
 (0:Nat),(0:Nat),(0:Nat),(0:Nat)],(0:Int),(0:Int))),∀ (a:List Int × List Int × Int × Unit),a=Z6n (newR (1:Int)).fst (List.take (Za (newR (1 :
 Int)).fst).fst.toNat (List.drop (0:Nat) y.fst),List.take (Za (newR (1:Int)).fst).fst.toNat (List.drop (0:Nat) (y.snd.fst.set ((0:Nat)+Int.toNat (0:Int)) (100 :
 Int))),[(10:Int),(0:Int),(0:Int),(0:Int),(0:Int),(0:Int)],[(0:Nat),(0:Nat),(0:Nat),(0:Nat),(0:Nat),(0:Nat),(0:Nat),(0:Nat),(0:Nat),(0
 : Nat),(0:Nat),(0:Nat)],(0:Int),(0:Int))→∀ (a_1:Bool),a_1=(a.snd.snd.fst != (0:Int))→Br a_1 (post (false,())) (∀ (a_2:Bool),a_2=((↑a.fst.length :
 Int) != (6:Int))→Br a_2 (post (false,())) (∀ (a_3:Bool),a_3=((↑a.snd.fst.length:Int) != (6:Int))→Br a_3 (post (false,())) (∃ (h:(0:Int)≤(0:Int)
 ∧ (0:Int)<(↑a.fst.length:Int)),∀ (a_4:Bool),a_4=(a.fst.getD ((0:Nat)+Int.toNat (0:Int)) (0:Int) != (75:Int))→Br a_4 (post (false,())) (∃ (h:(0 :
 Int)≤(5:Int)∧(5:Int)<(↑a.fst.length:Int)),∀ (a_5:Bool),a_5=(a.fst.getD ((0:Nat)+Int.toNat (5:Int)) (0:Int) != (25:Int))→Br a_5 (post (false,
 ())) (∃ (h:(0:Int)≤(0:Int)∧(0:Int)<(↑a.snd.fst.length:Int)),∀ (a_6:Bool),a_6=(a.snd.fst.getD ((0:Nat)+Int.toNat (0:Int)) (0:Int) != (8:Int))→Br
 a_6 (post (false,())) (∃ (h:(0:Int)≤(5:Int)∧(5:Int)<(↑a.snd.fst.length:Int)),∀ (a_7:Bool),a_7=(a.snd.fst.getD ((0:Nat)+Int.toNat (5:Int)) (0 :
 Int) != (2:Int))→Br a_7 (post (false,())) (∃ (h:Z4o (newR (1:Int)).fst (List.take (Za (newR (1:Int)).fst).fst.toNat (List.drop (0:Nat) y.fst)) (0 :
 Int)),∀ (a:Int × Unit),a=Z26 (newR (1:Int)).fst (List.take (Za (newR (1:Int)).fst).fst.toNat (List.drop (0:Nat) y.fst)) (0:Int)→∀ (a_8:Bool),a_8 =
 (a.fst==(5:Int))→Br a_8 (∃ (h:Z4o (newR (1:Int)).fst (List.take (Za (newR (1:Int)).fst).fst.toNat (List.drop (0:Nat) y.fst)) (5:Int)),∀ (a:Int × Unit),
 a=Z26 (newR (1:Int)).fst (List.take (Za (newR (1:Int)).fst).fst.toNat (List.drop (0:Nat) y.fst)) (5:Int)→∀ (a_9:Bool),a_9=(a.fst==(-1:Int))→Br a_9
 (∃ (h:WOrd [(4607182418800017408:Nat),(4613937818241073152:Nat),(4611686018427387904:Nat),(4613937818241073152:Nat)]),∀ (a:List Int × Unit),a=Zif
 [(4607182418800017408:Nat),(4613937818241073152:Nat),(4611686018427387904:Nat),(4613937818241073152:Nat)]→∃ (h:True),∀ (a_10:Bool × Unit),a_10=Z15q
 (List.take a.fst.length (List.drop (0:Nat) a.fst)) [(1:Int),(3:Int),(2:Int),(0:Int)]→∀ (a:Bool),a=a_10.fst→post (a,())) (post (false,()))) (post
 (false,()))))))))))))))))
theorem Zvb (ty0 ty1 ty2:Nat)  : Z5w ty0 ty1 ty2  (fun r=>r=yesR):=by
 delta Z5w
 dsimp only
 rw [new1]
 dsimp only
 have hC:(Za (some (netG 1))).fst=6:=Zc4
 have hE:(Z8g (some (netG 1))).fst=12:=Zsq
 rw [hC,hE]
 refine ⟨⟨by decide,by decide⟩,?_⟩
 rintro _ rfl
 refine Br.intro (fun e=>absurd e (by first | decide | simp)) fun _=>?_
 refine ⟨trivial,?_⟩
 rintro _ rfl
 refine Br.intro (fun e=>absurd e (by first | decide | simp)) fun _=>?_
 rintro _ rfl
 refine Br.intro (fun e=>absurd e (by first | decide | simp)) fun _=>?_
 refine ⟨trivial,?_⟩
 rintro _ rfl
 refine Br.intro (fun e=>absurd e (by first | decide | simp)) fun _=>?_
 refine ⟨by decide,by decide,by decide,by decide,?_⟩
 refine ⟨rfl,fun x y=>∃ k:Nat,x.1=k∧k≤6∧y.1=(List.range k).map (Zim (some (netG 1)))++List.replicate (6 - k) 0,fun x _=>6 - x.1.toNat,⟨0,rfl,by omega,rfl⟩,?_⟩
 rintro ⟨_,⟨⟩⟩ ⟨_,⟨⟩⟩ ⟨k,rfl,hk,rfl⟩
 dsimp only
 rintro _ rfl
 have lk:((List.range k).map (Zim (some (netG 1)))).length=k:=by rw [List.length_map,List.length_range]
 refine Br.intro (fun e3=>?_) fun e3=>?_
 ·have e3:k<6:=by have:=of_decide_eq_true e3; omega
  refine ⟨trivial,⟨by omega,by show (k:Int)<6; omega⟩,?_⟩
  rw [Int.toNat_natCast,Z2b e3 (by omega),Z1af lk e3]
  have ha:(Z24 (some (netG 1)) (k:Int)).1=Zia (some (netG 1)) (k:Int):=rfl
  rw [ha]
  rintro _ rfl
  refine Br.intro (fun e4=>?_) fun e4=>?_
  ·have e4:k=1:=by have:=beq_iff_eq.1 e4; omega
   refine ⟨⟨by omega,by show (k:Int)<6; omega⟩,⟨by omega,by show (k:Int)<6; omega⟩,rfl,⟨k+1,rfl,by omega,?_⟩,by omega⟩
   have f1:Zim (some (netG 1)) k=iw (2*Zia (some (netG 1)) (k:Int)):=by unfold Zim; rw [if_pos e4]
   rw [List.range_succ,List.map_append,List.map_singleton,f1]
   exact Z18s lk _ _
  ·have e4:¬ k=1:=fun q=>by rw [q] at e4; simp at e4
   refine ⟨rfl,⟨k+1,rfl,by omega,?_⟩,by omega⟩
   have f1:Zim (some (netG 1)) k=Zia (some (netG 1)) (k:Int):=by unfold Zim; rw [if_neg e4]
   rw [List.range_succ,List.map_append,List.map_singleton,f1]
 have e3:k=6:=by have:=of_decide_eq_false e3; omega
 subst e3
 clear lk hk
 rw [Nat.sub_self,List.replicate_zero,List.append_nil,Z1cj]
 rintro _ rfl
 refine Br.intro (fun e=>absurd e (by first | decide | simp)) fun _=>?_
 refine ⟨rfl,fun x y=>∃ k:Nat,x.1=k∧k≤6∧y.1=Zzw k∧y.2.1=Znc k,fun x _=>6 - x.1.toNat,⟨0,rfl,by omega,rfl,rfl⟩,?_⟩
 rintro ⟨_,⟨⟩⟩ ⟨_,_,⟨⟩⟩ ⟨k,rfl,hk,rfl,rfl⟩
 dsimp only
 rintro _ rfl
 refine Br.intro (fun e3=>?_) fun e3=>?_
 ·have e3:k<6:=by have:=of_decide_eq_true e3; omega
  refine ⟨⟨by omega,by show (k:Int)<6; omega⟩,⟨by omega,by show (k:Int)<6; omega⟩,?_⟩
  rw [Int.toNat_natCast,Nat.zero_add,Z2b e3 (by omega),wi (x:=5 - (k:Int)) ⟨by omega,by omega⟩]
  exact ⟨rfl,⟨k+1,rfl,by omega,rfl,rfl⟩,by omega⟩
 have e3:k=6:=by have:=of_decide_eq_false e3; omega
 subst e3
 have t1:List.take (Int.toNat 6) (List.drop 0 (Zzw 6))=Z3l:=by rw [Z1ch]; rfl
 have t2:List.take (Int.toNat 6) (List.drop 0 ((Znc 6).set (0+Int.toNat 0) 100))=[100,0,0,0,0,0]:=by
  show List.take 6 ((Znc 6).set 0 100)=_
  rw [Z1ci]; rfl
 rw [t1,t2]
 have e:Z6n (some (netG 1)) (Z3l,[100,0,0,0,0,0],[10,0,0,0,0,0],[0,0,0,0,0,0,0,0,0,0,0,0],0,0)=([75,0,0,0,0,25],[8,0,0,0,0,2],0,()):=Z1ah
 have np:NetP (some (netG 1)):=.inr ⟨1,rfl,rfl⟩
 refine ⟨by decide,by decide,⟨np,Zva,by unfold AllI I64; decide,by unfold AllI I64; decide⟩,?_⟩
 rintro _ rfl
 rw [e]
 rintro _ rfl
 refine Br.intro (fun e=>absurd e (by first | decide | simp)) fun _=>?_
 rintro _ rfl
 refine Br.intro (fun e=>absurd e (by first | decide | simp)) fun _=>?_
 rintro _ rfl
 refine Br.intro (fun e=>absurd e (by first | decide | simp)) fun _=>?_
 refine ⟨by decide,?_⟩
 rintro _ rfl
 refine Br.intro (fun e=>absurd e (by first | decide | simp)) fun _=>?_
 refine ⟨by decide,?_⟩
 rintro _ rfl
 refine Br.intro (fun e=>absurd e (by first | decide | simp)) fun _=>?_
 refine ⟨by decide,?_⟩
 rintro _ rfl
 refine Br.intro (fun e=>absurd e (by first | decide | simp)) fun _=>?_
 refine ⟨by decide,?_⟩
 rintro _ rfl
 refine Br.intro (fun e=>absurd e (by first | decide | simp)) fun _=>?_
 refine ⟨⟨np,Zva⟩,?_⟩
 rw [Z160]
 rintro _ rfl
 rintro _ rfl
 refine Br.intro (fun _=>?_) fun e=>absurd e (by decide)
 refine ⟨⟨np,Zva⟩,?_⟩
 rw [Z161]
 rintro _ rfl
 rintro _ rfl
 refine Br.intro (fun _=>?_) fun e=>absurd e (by decide)
 refine ⟨⟨by unfold AllW W64; decide,by decide⟩,?_⟩
 have e4:Zif [4607182418800017408,4613937818241073152,4611686018427387904,4613937818241073152]=([1,3,2,0],()):=by unfold Zif; rw [Z18t]
 rw [e4]
 rintro _ rfl
 refine ⟨trivial,?_⟩
 rintro _ rfl
 rintro _ rfl
 rfl
end Go.Lift

namespace Go.Lift
def Zfr:=fun (ty122 ty123 ty2 ty126 fn86 fn87:Nat) (n:Int) (post:Option (Int × List (Int × Int × Int × Int) × List ((Int × Int) × Int) × List (List Int) × List Int ×
 List Nat × List Nat) × Int × Unit→Prop)=>∃ (h:I64 n),Br ((Z9w n).fst==(0:Int)) (post (none,(10:Int),())) (∃ (h:(0:Int)≤(0:Int)∧(0:Int)<(↑(2
 : Nat):Int)),HIs [HObj.mp Md.rw ((K.int i64).pair (K.int i64)) (K.int i64) [],HObj.box Md.rw ty122 [SV.val (Go.Value.int i64 n),SV.junk,
 SV.mref (0:Nat),SV.val (Go.Value.slice none (0:Nat) (0:Nat)),SV.junk,SV.val (Go.Value.slice none (0:Nat) (0:Nat)),SV.val (Go.Value.slice none (0
 : Nat) (0:Nat))],HObj.box Md.rw ty123 [SV.clo fn86 [LV.ref (1:Nat) (0:Nat)] [],SV.clo fn87 [LV.ref (1:Nat) (0:Nat)] []]] [HObj.mp Md.rw ((K.int i64).pair
 (K.int i64)) (K.int i64) [],HObj.box Md.rw ty122 [SV.val (Go.Value.int i64 n),SV.junk,SV.mref (0:Nat),SV.val (Go.Value.slice none (0:Nat) (0
 : Nat)),SV.junk,SV.val (Go.Value.slice none (0:Nat) (0:Nat)),SV.val (Go.Value.slice none (0:Nat) (0:Nat))],HObj.box Md.rw ty123 [SV.clo fn86 [LV.ref (1 :
 Nat) (0:Nat)] [],SV.clo fn87 [LV.ref (1:Nat) (0:Nat)] []]]∧∃ (I:Int × List (Int × Int × Int × Int) × List Int × Unit→List ((Int × Int) × Int) × Unit→Prop),∃ (μ :
 Int × List (Int × Int × Int × Int) × List Int × Unit→List ((Int × Int) × Int) × Unit→Nat),I ((0:Int),[],[],()) ([],())∧∀ (x:Int × List (Int × Int × Int × Int) ×
 List Int × Unit) (y:List ((Int × Int) × Int) × Unit),I x y→Br (decide (x.fst<(Z9w n).fst)) (((0:Nat)=(0:Nat)∧x.snd.fst.length=x.snd.fst.length)∧HIs [HObj.mp
 Md.rw ((K.int i64).pair (K.int i64)) (K.int i64) y.fst,HObj.box Md.rw ty122 [SV.val (Go.Value.int i64 n),SV.junk,SV.mref (0:Nat),SV.val
 (Go.Value.slice none (0:Nat) (0:Nat)),SV.osl (4:Nat) (0:Nat) x.snd.snd.fst.length,SV.val (Go.Value.slice none (0:Nat) (0:Nat)),SV.val (Go.Value.slice
 none (0:Nat) (0:Nat))],HObj.box Md.rw ty123 [SV.clo fn86 [LV.ref (1:Nat) (0:Nat)] [],SV.clo fn87 [LV.ref (1:Nat) (0:Nat)] []],HObj.dead,HObj.row Md.rw ty2
 (K.int i64) x.snd.snd.fst] [HObj.mp Md.rw ((K.int i64).pair (K.int i64)) (K.int i64) y.fst,HObj.box Md.rw ty122 [SV.val (Go.Value.int i64
 n),SV.junk,SV.mref (0:Nat),SV.val (Go.Value.slice none (0:Nat) (0:Nat)),SV.osl (4:Nat) (0:Nat) x.snd.snd.fst.length,SV.val (Go.Value.slice none (0 :
 Nat) (0:Nat)),SV.val (Go.Value.slice none (0:Nat) (0:Nat))],HObj.box Md.rw ty123 [SV.clo fn86 [LV.ref (1:Nat) (0:Nat)] [],SV.clo fn87 [LV.ref (1:Nat) (0 :
 Nat)] []],HObj.dead,HObj.row Md.rw ty2 (K.int i64) x.snd.snd.fst]∧∃ (I_1:Int × List (Int × Int × Int × Int) × Unit→List ((Int × Int) × Int) × Unit→Prop),∃ (μ_1
 : Int × List (Int × Int × Int × Int) × Unit→List ((Int × Int) × Int) × Unit→Nat),I_1 ((0:Int),x.snd.fst,()) (y.fst,())∧∀ (x_2:Int × List (Int × Int × Int × Int) ×
 Unit) (y_1:List ((Int × Int) × Int) × Unit),I_1 x_2 y_1→Br (decide (x_2.fst<(4:Int))) (∃ (h:III n x.fst x_2.fst),∀ (a:Int × Int × Unit),a=Z2c n x.fst x_2.fst
 → Br (decide (x.fst > a.fst)) (((0:Nat)=(0:Nat)∧x_2.snd.fst.length=x_2.snd.fst.length)∧HIs [HObj.mp Md.rw ((K.int i64).pair (K.int i64)) (K.int
 i64) y_1.fst,HObj.box Md.rw ty122 [SV.val (Go.Value.int i64 n),SV.junk,SV.mref (0:Nat),SV.val (Go.Value.slice none (0:Nat) (0:Nat)),SV.osl (4 :
 Nat) (0:Nat) x.snd.snd.fst.length,SV.val (Go.Value.slice none (0:Nat) (0:Nat)),SV.val (Go.Value.slice none (0:Nat) (0:Nat))],HObj.box Md.rw ty123
 [SV.clo fn86 [LV.ref (1:Nat) (0:Nat)] [],SV.clo fn87 [LV.ref (1:Nat) (0:Nat)] []],HObj.dead,HObj.row Md.rw ty2 (K.int i64) x.snd.snd.fst] [HObj.mp Md.rw ((K.int
 i64).pair (K.int i64)) (K.int i64) y_1.fst,HObj.box Md.rw ty122 [SV.val (Go.Value.int i64 n),SV.junk,SV.mref (0:Nat),SV.val (Go.Value.slice
 none (0:Nat) (0:Nat)),SV.osl (4:Nat) (0:Nat) x.snd.snd.fst.length,SV.val (Go.Value.slice none (0:Nat) (0:Nat)),SV.val (Go.Value.slice none (0 :
 Nat) (0:Nat))],HObj.box Md.rw ty123 [SV.clo fn86 [LV.ref (1:Nat) (0:Nat)] [],SV.clo fn87 [LV.ref (1:Nat) (0:Nat)] []],HObj.dead,HObj.row Md.rw ty2 (K.int
 i64) x.snd.snd.fst]∧I_1 (i64.wrap (x_2.fst+(1:Int)),x_2.snd.fst,()) (y_1.fst,())∧μ_1 (i64.wrap (x_2.fst+(1:Int)),x_2.snd.fst,()) (y_1.fst,
 ())<μ_1 x_2 y_1) (∃ (h:x_2.snd.fst.length=x_2.snd.fst.length∧(x_2.snd.fst.length+(1:Nat))*(32:Nat)≤(140737488355328:Nat)),((0:Nat)=(0:Nat) ∧
 x_2.snd.fst.length+(1:Nat)=(x_2.snd.fst++[(x.fst,x_2.fst,a.fst,a.snd.fst)]).length)∧HIs [HObj.mp Md.rw ((K.int i64).pair (K.int i64)) (K.int
 i64) (mput (a.fst,a.snd.fst) (↑x_2.snd.fst.length:Int) (mput (x.fst,x_2.fst) (↑x_2.snd.fst.length:Int) y_1.fst)),HObj.box Md.rw ty122 [SV.val (Go.Value.int
 i64 n),SV.junk,SV.mref (0:Nat),SV.val (Go.Value.slice none (0:Nat) (0:Nat)),SV.osl (4:Nat) (0:Nat) x.snd.snd.fst.length,SV.val (Go.Value.slice
 none (0:Nat) (0:Nat)),SV.val (Go.Value.slice none (0:Nat) (0:Nat))],HObj.box Md.rw ty123 [SV.clo fn86 [LV.ref (1:Nat) (0:Nat)] [],SV.clo fn87 [LV.ref
 (1:Nat) (0:Nat)] []],HObj.dead,HObj.row Md.rw ty2 (K.int i64) x.snd.snd.fst] [HObj.mp Md.rw ((K.int i64).pair (K.int i64)) (K.int i64) (mput
 (a.fst,a.snd.fst) (↑x_2.snd.fst.length:Int) (mput (x.fst,x_2.fst) (↑x_2.snd.fst.length:Int) y_1.fst)),HObj.box Md.rw ty122 [SV.val (Go.Value.int i64 n),SV.junk,
 SV.mref (0:Nat),SV.val (Go.Value.slice none (0:Nat) (0:Nat)),SV.osl (4:Nat) (0:Nat) x.snd.snd.fst.length,SV.val (Go.Value.slice none (0:Nat) (0 :
 Nat)),SV.val (Go.Value.slice none (0:Nat) (0:Nat))],HObj.box Md.rw ty123 [SV.clo fn86 [LV.ref (1:Nat) (0:Nat)] [],SV.clo fn87 [LV.ref (1:Nat) (0:Nat)] []],
 HObj.dead,HObj.row Md.rw ty2 (K.int i64) x.snd.snd.fst]∧I_1 (i64.wrap (x_2.fst+(1:Int)),x_2.snd.fst++[(x.fst,x_2.fst,a.fst,a.snd.fst)],()) (mput
 (a.fst,a.snd.fst) (↑x_2.snd.fst.length:Int) (mput (x.fst,x_2.fst) (↑x_2.snd.fst.length:Int) y_1.fst),())∧μ_1 (i64.wrap (x_2.fst+(1:Int)),x_2.snd.fst ++
 [(x.fst,x_2.fst,a.fst,a.snd.fst)],()) (mput (a.fst,a.snd.fst) (↑x_2.snd.fst.length:Int) (mput (x.fst,x_2.fst) (↑x_2.snd.fst.length:Int) y_1.fst),())<μ_1 x_2 y_1))
 (((0:Nat)=(0:Nat)∧x_2.snd.fst.length=x_2.snd.fst.length)∧((0:Nat)=(0:Nat)∧x.snd.snd.fst.length=x.snd.snd.fst.length)∧HIs [HObj.mp Md.rw ((K.int
 i64).pair (K.int i64)) (K.int i64) y_1.fst,HObj.box Md.rw ty122 [SV.val (Go.Value.int i64 n),SV.junk,SV.mref (0:Nat),SV.val (Go.Value.slice
 none (0:Nat) (0:Nat)),SV.junk,SV.val (Go.Value.slice none (0:Nat) (0:Nat)),SV.val (Go.Value.slice none (0:Nat) (0:Nat))],HObj.box Md.rw ty123
 [SV.clo fn86 [LV.ref (1:Nat) (0:Nat)] [],SV.clo fn87 [LV.ref (1:Nat) (0:Nat)] []]] [HObj.mp Md.rw ((K.int i64).pair (K.int i64)) (K.int i64)
 y_1.fst,HObj.box Md.rw ty122 [SV.val (Go.Value.int i64 n),SV.junk,SV.mref (0:Nat),SV.val (Go.Value.slice none (0:Nat) (0:Nat)),SV.junk,SV.val
 (Go.Value.slice none (0:Nat) (0:Nat)),SV.val (Go.Value.slice none (0:Nat) (0:Nat))],HObj.box Md.rw ty123 [SV.clo fn86 [LV.ref (1:Nat) (0:Nat)] [],
 SV.clo fn87 [LV.ref (1:Nat) (0:Nat)] []]]∧I (i64.wrap (x.fst+(1:Int)),x_2.snd.fst,x.snd.snd.fst,()) (y_1.fst,())∧μ (i64.wrap (x.fst+(1:Int)),
 x_2.snd.fst,x.snd.snd.fst,()) (y_1.fst,())<μ x y)) (∃ (h:(0:Int)≤i64.wrap ((0:Int)+(1:Int))∧i64.wrap ((0:Int)+(1:Int))<(↑(2:Nat) :
 Int)),((0:Nat)=(0:Nat)∧x.snd.fst.length=x.snd.fst.length)∧((0:Nat)=(0:Nat)∧x.snd.snd.fst.length=x.snd.snd.fst.length)∧HIs [HObj.mp Md.rw ((K.int
 i64).pair (K.int i64)) (K.int i64) y.fst,HObj.box Md.rw ty122 [SV.val (Go.Value.int i64 n),SV.junk,SV.mref (0:Nat),SV.val (Go.Value.slice
 none (0:Nat) (0:Nat)),SV.junk,SV.val (Go.Value.slice none (0:Nat) (0:Nat)),SV.val (Go.Value.slice none (0:Nat) (0:Nat))],HObj.box Md.rw ty123
 [SV.clo fn86 [LV.ref (1:Nat) (0:Nat)] [],SV.clo fn87 [LV.ref (1:Nat) (0:Nat)] []],HObj.dead,HObj.dead] [HObj.mp Md.rw ((K.int i64).pair (K.int i64))
 (K.int i64) y.fst,HObj.box Md.rw ty122 [SV.val (Go.Value.int i64 n),SV.junk,SV.mref (0:Nat),SV.val (Go.Value.slice none (0:Nat) (0:Nat)),SV.junk,
 SV.val (Go.Value.slice none (0:Nat) (0:Nat)),SV.val (Go.Value.slice none (0:Nat) (0:Nat))],HObj.box Md.rw ty123 [SV.clo fn86 [LV.ref (1:Nat) (0:Nat)]
 [],SV.clo fn87 [LV.ref (1:Nat) (0:Nat)] []],HObj.dead,HObj.dead]∧∃ (I:Int × List (Int × Int × Int × Int) × List Int × Unit→List ((Int × Int) × Int) × Unit→Prop),∃
 (μ:Int × List (Int × Int × Int × Int) × List Int × Unit→List ((Int × Int) × Int) × Unit→Nat),I ((0:Int),x.snd.fst,x.snd.snd.fst,()) (y.fst,())∧∀ (x:Int × List
 (Int × Int × Int × Int) × List Int × Unit) (y:List ((Int × Int) × Int) × Unit),I x y→Br (decide (x.fst<(Z9w n).fst)) (∃ (h:II n x.fst),∃ (h:x.snd.snd.fst.length =
 x.snd.snd.fst.length∧(x.snd.snd.fst.length+(1:Nat))*(8:Nat)≤(140737488355328:Nat)),((0:Nat)=(0:Nat)∧x.snd.fst.length=x.snd.fst.length)∧((0:Nat)=(0 :
 Nat)∧x.snd.snd.fst.length+(1:Nat)=(x.snd.snd.fst++[(Zs8 n x.fst).fst]).length)∧HIs [HObj.mp Md.rw ((K.int i64).pair (K.int i64)) (K.int i64)
 y.fst,HObj.box Md.rw ty122 [SV.val (Go.Value.int i64 n),SV.junk,SV.mref (0:Nat),SV.val (Go.Value.slice none (0:Nat) (0:Nat)),SV.junk,SV.val
 (Go.Value.slice none (0:Nat) (0:Nat)),SV.val (Go.Value.slice none (0:Nat) (0:Nat))],HObj.box Md.rw ty123 [SV.clo fn86 [LV.ref (1:Nat) (0:Nat)] [],
 SV.clo fn87 [LV.ref (1:Nat) (0:Nat)] []],HObj.dead,HObj.dead] [HObj.mp Md.rw ((K.int i64).pair (K.int i64)) (K.int i64) y.fst,HObj.box Md.rw ty122
 [SV.val (Go.Value.int i64 n),SV.junk,SV.mref (0:Nat),SV.val (Go.Value.slice none (0:Nat) (0:Nat)),SV.junk,SV.val (Go.Value.slice none (0:Nat) (0
 : Nat)),SV.val (Go.Value.slice none (0:Nat) (0:Nat))],HObj.box Md.rw ty123 [SV.clo fn86 [LV.ref (1:Nat) (0:Nat)] [],SV.clo fn87 [LV.ref (1:Nat) (0:Nat)] []],
 HObj.dead,HObj.dead]∧I (i64.wrap (x.fst+(1:Int)),x.snd.fst,x.snd.snd.fst++[(Zs8 n x.fst).fst],()) (y.fst,())∧μ (i64.wrap (x.fst+(1:Int)),
 x.snd.fst,x.snd.snd.fst++[(Zs8 n x.fst).fst],()) (y.fst,())<μ x y) (HIs [HObj.mp Md.rw ((K.int i64).pair (K.int i64)) (K.int i64) y.fst,HObj.box
 Md.rw ty122 [SV.val (Go.Value.int i64 n),SV.osl (5:Nat) (0:Nat) x.snd.fst.length,SV.mref (0:Nat),SV.junk,SV.osl (6:Nat) (0:Nat) x.snd.snd.fst.length,
 SV.junk,SV.junk],HObj.box Md.rw ty123 [SV.clo fn86 [LV.ref (1:Nat) (0:Nat)] [],SV.clo fn87 [LV.ref (1:Nat) (0:Nat)] []],HObj.dead,HObj.dead,HObj.row Md.rw ty126
 ((K.int i64).pair ((K.int i64).pair ((K.int i64).pair (K.int i64)))) x.snd.fst,HObj.row Md.rw ty2 (K.int i64) x.snd.snd.fst] [HObj.mp
 Md.rw ((K.int i64).pair (K.int i64)) (K.int i64) y.fst,HObj.box Md.rw ty122 [SV.val (Go.Value.int i64 n),SV.osl (5:Nat) (0:Nat)
 x.snd.fst.length,SV.mref (0:Nat),SV.junk,SV.osl (6:Nat) (0:Nat) x.snd.snd.fst.length,SV.junk,SV.junk],HObj.box Md.rw ty123 [SV.clo fn86 [LV.ref (1:Nat) (0:Nat)]
 [],SV.clo fn87 [LV.ref (1:Nat) (0:Nat)] []],HObj.dead,HObj.dead,HObj.row Md.rw ty126 ((K.int i64).pair ((K.int i64).pair ((K.int i64).pair (K.int
 i64)))) x.snd.fst,HObj.row Md.rw ty2 (K.int i64) x.snd.snd.fst]∧∃ (I:Int × List (List Int) × List Nat × List Nat × Unit→Unit→Prop),∃ (μ:Int × List
 (List Int) × List Nat × List Nat × Unit→Unit→Nat),I ((0:Int),[],[],[],()) ()∧∀ (x_3:Int × List (List Int) × List Nat × List Nat × Unit) (y_1:Unit),I x_3 y_1→Br
 (decide (x_3.fst<(↑x.snd.fst.length:Int))) (∃ (h:(0:Int)≤x_3.fst∧x_3.fst<(↑x.snd.fst.length:Int)),∃ (h:(4:Int)≠(0:Int)),∃ (h:III n (x.snd.fst.getD ((0
 : Nat)+x_3.fst.toNat) Z1x.dflt).fst ((i64.wrap ((x.snd.fst.getD ((0:Nat)+x_3.fst.toNat) Z1x.dflt).snd.fst+(2:Int))).tmod (4:Int))),∀ (a:Int × Int ×
 Unit),a=Z2c n (x.snd.fst.getD ((0:Nat)+x_3.fst.toNat) Z1x.dflt).fst ((i64.wrap ((x.snd.fst.getD ((0:Nat)+x_3.fst.toNat) Z1x.dflt).snd.fst+(2 :
 Int))).tmod (4:Int))→∃ (h:(4:Int)≠(0:Int)),∃ (h:III n (x.snd.fst.getD ((0:Nat)+x_3.fst.toNat) Z1x.dflt).snd.snd.fst ((i64.wrap ((x.snd.fst.getD ((0 :
 Nat)+x_3.fst.toNat) Z1x.dflt).snd.snd.snd+(2:Int))).tmod (4:Int))),∀ (a_1:Int × Int × Unit),a_1=Z2c n (x.snd.fst.getD ((0:Nat)+x_3.fst.toNat)
 Z1x.dflt).snd.snd.fst ((i64.wrap ((x.snd.fst.getD ((0:Nat)+x_3.fst.toNat) Z1x.dflt).snd.snd.snd+(2:Int))).tmod (4:Int))→∃ (h:x_3.snd.fst.length =
 x_3.snd.fst.length∧(x_3.snd.fst.length+(1:Nat))*(16:Nat)≤(140737488355328:Nat)),∃ (h:III n (x.snd.fst.getD ((0:Nat)+x_3.fst.toNat) Z1x.dflt).fst
 (x.snd.fst.getD ((0:Nat)+x_3.fst.toNat) Z1x.dflt).snd.fst),∀ (a_2:Nat × Unit),a_2=Zd0 n (x.snd.fst.getD ((0:Nat)+x_3.fst.toNat) Z1x.dflt).fst
 (x.snd.fst.getD ((0:Nat)+x_3.fst.toNat) Z1x.dflt).snd.fst→∃ (h:x_3.snd.snd.fst.length=x_3.snd.snd.fst.length∧(x_3.snd.snd.fst.length+(1:Nat))*(8:Nat) ≤
 (140737488355328:Nat)),∃ (h:III n (x.snd.fst.getD ((0:Nat)+x_3.fst.toNat) Z1x.dflt).fst (x.snd.fst.getD ((0:Nat)+x_3.fst.toNat) Z1x.dflt).snd.fst),∀ (a_3:Nat ×
 Unit),a_3=Z15e n (x.snd.fst.getD ((0:Nat)+x_3.fst.toNat) Z1x.dflt).fst (x.snd.fst.getD ((0:Nat)+x_3.fst.toNat) Z1x.dflt).snd.fst→∃ (h :
 x_3.snd.snd.snd.fst.length=x_3.snd.snd.snd.fst.length∧(x_3.snd.snd.snd.fst.length+(1:Nat))*(8:Nat)≤(140737488355328:Nat)),((0:Nat)=(0:Nat) ∧
 x_3.snd.fst.length+(1:Nat)=(x_3.snd.fst++[[a.fst,a_1.fst]]).length)∧((0:Nat)=(0:Nat)∧x_3.snd.snd.fst.length+(1:Nat)=(x_3.snd.snd.fst++[a_2.fst]).length)
 ∧ ((0:Nat)=(0:Nat)∧x_3.snd.snd.snd.fst.length+(1:Nat)=(x_3.snd.snd.snd.fst++[a_3.fst]).length)∧HIs [HObj.mp Md.rw ((K.int i64).pair (K.int i64))
 (K.int i64) y.fst,HObj.box Md.rw ty122 [SV.val (Go.Value.int i64 n),SV.osl (5:Nat) (0:Nat) x.snd.fst.length,SV.mref (0:Nat),SV.junk,SV.osl (6:Nat) (0
 : Nat) x.snd.snd.fst.length,SV.junk,SV.junk],HObj.box Md.rw ty123 [SV.clo fn86 [LV.ref (1:Nat) (0:Nat)] [],SV.clo fn87 [LV.ref (1:Nat) (0:Nat)] []],HObj.dead,
 HObj.dead,HObj.row Md.rw ty126 ((K.int i64).pair ((K.int i64).pair ((K.int i64).pair (K.int i64)))) x.snd.fst,HObj.row Md.rw ty2 (K.int
 i64) x.snd.snd.fst] [HObj.mp Md.rw ((K.int i64).pair (K.int i64)) (K.int i64) y.fst,HObj.box Md.rw ty122 [SV.val (Go.Value.int i64 n),
 SV.osl (5:Nat) (0:Nat) x.snd.fst.length,SV.mref (0:Nat),SV.junk,SV.osl (6:Nat) (0:Nat) x.snd.snd.fst.length,SV.junk,SV.junk],HObj.box Md.rw ty123 [SV.clo fn86
 [LV.ref (1:Nat) (0:Nat)] [],SV.clo fn87 [LV.ref (1:Nat) (0:Nat)] []],HObj.dead,HObj.dead,HObj.row Md.rw ty126 ((K.int i64).pair ((K.int i64).pair
 ((K.int i64).pair (K.int i64)))) x.snd.fst,HObj.row Md.rw ty2 (K.int i64) x.snd.snd.fst]∧I (i64.wrap (x_3.fst+(1:Int)),x_3.snd.fst ++
 [[a.fst,a_1.fst]],x_3.snd.snd.fst++[a_2.fst],x_3.snd.snd.snd.fst++[a_3.fst],()) ()∧μ (i64.wrap (x_3.fst+(1:Int)),x_3.snd.fst++[[a.fst,a_1.fst]],
 x_3.snd.snd.fst++[a_2.fst],x_3.snd.snd.snd.fst++[a_3.fst],()) ()<μ x_3 y_1) (post (some (n,List.take x.snd.fst.length (List.drop (0:Nat) x.snd.fst),y.fst,
 List.take x_3.snd.fst.length (List.drop (0:Nat) x_3.snd.fst),List.take x.snd.snd.fst.length (List.drop (0:Nat) x.snd.snd.fst),List.take x_3.snd.snd.fst.length (List.drop (0
 : Nat) x_3.snd.snd.fst),List.take x_3.snd.snd.snd.fst.length (List.drop (0:Nat) x_3.snd.snd.snd.fst)),(0:Int),())))))
theorem Z12x (ty0 ty1 ty2 ty3 ty4 ty5:Nat) (n:Int) (h:I64 n):Zfr ty0 ty1 ty2 ty3 ty4 ty5 n (fun r=>r=newR n):=by
 have cr:=Z77 n
 obtain ⟨N,hN⟩:∃ N,(Zc n).toNat=N:=⟨_,rfl⟩
 have hc:Zc n=(N:Int):=by omega
 have hc':(Z9w n).fst=(N:Int):=hc
 have hN1:N≤6144:=by omega
 have nk:=fun k=>Zv3 n k
 have i6:∀ {z:Int},0≤z→z≤6144→I64 z:=fun {z} a b=>⟨by omega,by omega⟩
 refine ⟨h,?_⟩
 rw [hc']
 refine Br.intro (fun e=>?_) fun e=>?_
 ·have e:(N:Int)=0:=beq_iff_eq.1 e
  show _=newR n
  unfold newR; rw [if_pos (by omega)]
 have e:¬ (N:Int)=0:=fun q=>by rw [q] at e; cases e
 have hnew:newR n=(some (netG n),0,()):=by unfold newR; rw [if_neg (by omega)]
 refine ⟨⟨by decide,by decide⟩,rfl,fun x y=>∃ k:Nat,x.1=k∧k≤N∧x.2.1=(netN n k).1∧x.2.2.1=[]∧y.1=(netN n k).2,fun x _=>N - x.1.toNat,⟨0,rfl,by omega,rfl,rfl,rfl⟩,?_⟩
 rintro ⟨_,_,_,⟨⟩⟩ ⟨_,⟨⟩⟩ ⟨k,rfl,hk,rfl,rfl,rfl⟩
 dsimp only
 refine Br.intro (fun e1=>?_) fun e1=>?_
 ·have e1:k<N:=by have:=of_decide_eq_true e1; omega
  refine ⟨⟨rfl,rfl⟩,rfl,fun x y=>∃ j:Nat,x.1=j∧j≤4∧x.2.1=(addN n k (netN n k) j).1∧y.1=(addN n k (netN n k) j).2,fun x _=>4 - x.1.toNat,⟨0,rfl,by omega,rfl,rfl⟩,?_⟩
  rintro ⟨_,_,⟨⟩⟩ ⟨_,⟨⟩⟩ ⟨j,rfl,hj,rfl,rfl⟩
  dsimp only
  have hlen:=(Zv2 (n:=n) (c:=k) (by omega) (by omega) (nk k (by omega)).1 j hj).2
  have hlk:=(nk k (by omega)).2
  refine Br.intro (fun e2=>?_) fun e2=>?_
  ·have e2:j<4:=by have e2:(j:Int)<4:=of_decide_eq_true e2; omega
   refine ⟨⟨h,i6 (by omega) (by omega),i6 (by omega) (by omega)⟩,?_⟩
   rintro ⟨b,q,⟨⟩⟩ hb
   have hb:(b,q,())=Z2c n k j:=hb
   have eb:b=(Z3 n k j).1:=congrArg Prod.fst hb
   have eq:q=(Z3 n k j).2:=congrArg (fun z=>z.2.1) hb
   rw [Z2b e2 (by omega)]
   refine Br.intro (fun g=>?_) fun g=>?_
   ·have g:(k:Int) > b:=of_decide_eq_true g
    have hst:addN n k (netN n k) (j+1)=addN n k (netN n k) j:=by
     show addE n k j (addN n k (netN n k) j)=_
     unfold addE; rw [if_pos (by omega)]
    exact ⟨⟨rfl,rfl⟩,rfl,⟨j+1,rfl,by omega,by rw [hst],by rw [hst]⟩,by omega⟩
   ·have g:¬ (k:Int) > b:=of_decide_eq_false g
    have hst:addN n k (netN n k) (j+1)=((addN n k (netN n k) j).1++[((k:Int),(j:Int),b,q)],mput (b,q) (addN n k (netN n k) j).1.length (mput ((k:Int),(j:Int)) (addN n k (netN n k) j).1.length (addN n k (netN n k) j).2)):=by
     show addE n k j (addN n k (netN n k) j)=_
     unfold addE; rw [if_neg (by omega),eb,eq]
    exact ⟨⟨rfl,by omega⟩,⟨rfl,by rw [List.length_append]; rfl⟩,rfl,⟨j+1,rfl,by omega,by rw [hst],by rw [hst]⟩,by omega⟩
  ·have e2:j=4:=by have e2:¬ (j:Int)<4:=of_decide_eq_false e2; omega
   subst e2
   rw [Z2b e1 (by omega)]
   exact ⟨⟨rfl,rfl⟩,⟨rfl,rfl⟩,rfl,⟨k+1,rfl,by omega,rfl,rfl,rfl⟩,by omega⟩
 have e1:k=N:=by have:=of_decide_eq_false e1; omega
 subst e1
 obtain ⟨eok,elen⟩:=nk k hN1
 have hE:netE n=netN n k:=by unfold netE; rw [hN]
 generalize netN n k=E at *
 refine ⟨⟨by decide,by decide⟩,⟨rfl,rfl⟩,⟨rfl,rfl⟩,rfl,fun x y=>∃ m:Nat,x.1=m∧m≤k∧x.2.1=E.1∧x.2.2.1=((List.range m).map fun q:Nat=>Z14 n (q:Int))∧y.1=E.2,fun x _=>k - x.1.toNat,⟨0,rfl,by omega,rfl,rfl,rfl⟩,?_⟩
 rintro ⟨_,_,_,⟨⟩⟩ ⟨_,⟨⟩⟩ ⟨m,rfl,hm,rfl,rfl,rfl⟩
 dsimp only
 have hml:((List.range m).map fun q:Nat=>Z14 n (q:Int)).length=m:=by rw [List.length_map,List.length_range]
 refine Br.intro (fun e1=>?_) fun e1=>?_
 ·have e1:m<k:=by have:=of_decide_eq_true e1; omega
  rw [Z2b e1 (by omega)]
  exact ⟨⟨h,i6 (by omega) (by omega)⟩,⟨rfl,by rw [hml]; omega⟩,⟨rfl,rfl⟩,⟨rfl,by rw [List.length_append]; rfl⟩,rfl,⟨m+1,rfl,by omega,rfl,(Zuz (fun q:Nat=>Z14 n (q:Int)) m).symm,rfl⟩,by omega⟩
 have e1:m=k:=by have:=of_decide_eq_false e1; omega
 subst e1
 refine ⟨rfl,fun x _=>∃ q:Nat,x.1=q∧q≤E.1.length∧x.2.1=(E.1.take q).map (Z13z n)∧x.2.2.1=(E.1.take q).map (fun e=>Zcd n e.1 e.2.1)∧x.2.2.2.1=(E.1.take q).map (fun e=>gapG n e.1 e.2.1),fun x _=>E.1.length - x.1.toNat,⟨0,rfl,by omega,rfl,rfl,rfl⟩,?_⟩
 rintro ⟨_,_,_,_,⟨⟩⟩ _ ⟨q,rfl,hq,rfl,rfl,rfl⟩
 dsimp only
 have hl:∀ {α:Type} (f:Ed→α),((E.1.take q).map f).length=q:=fun {α} f=>by rw [List.length_map,List.length_take]; omega
 refine Br.intro (fun e1=>?_) fun e1=>?_
 ·have e1:q<E.1.length:=by have:=of_decide_eq_true e1; omega
  rw [Int.toNat_natCast,Nat.zero_add,Z2b e1 (by omega)]
  obtain ⟨d,hd⟩:∃ d,E.1.getD q Z1x.dflt=d:=⟨_,rfl⟩
  have dm:d ∈ E.1:=by rw [← hd]; exact Z4a e1 _
  have ts:E.1.take (q+1)=E.1.take q++[d]:=by rw [Zlf e1 Z1x.dflt,hd]
  rw [hd]
  obtain ⟨d1,d2,d3,d4,d5,d6,d7,d8⟩:=eok d dm
  have w1:i64.wrap (d.2.1+2)=d.2.1+2:=wi ⟨by omega,by omega⟩
  have w2:i64.wrap (d.2.2.2+2)=d.2.2.2+2:=wi ⟨by omega,by omega⟩
  rw [w1,w2]
  have t1:I64 (Int.tmod (d.2.1+2) 4):=by rw [Int.tmod_eq_emod_of_nonneg (by omega)]; exact i6 (by omega) (by omega)
  have t2:I64 (Int.tmod (d.2.2.2+2) 4):=by rw [Int.tmod_eq_emod_of_nonneg (by omega)]; exact i6 (by omega) (by omega)
  refine ⟨⟨by omega,by omega⟩,by decide,⟨h,i6 d1 (by omega),t1⟩,?_⟩
  rintro ⟨a1,a2,⟨⟩⟩ ha
  have ea:a1=(Z3 n d.1 (Int.tmod (d.2.1+2) 4)).1:=congrArg Prod.fst ha
  refine ⟨by decide,⟨h,i6 d5 (by omega),t2⟩,?_⟩
  rintro ⟨b1,b2,⟨⟩⟩ hb
  have eb:b1=(Z3 n d.2.2.1 (Int.tmod (d.2.2.2+2) 4)).1:=congrArg Prod.fst hb
  refine ⟨⟨rfl,by rw [hl]; omega⟩,⟨h,i6 d1 (by omega),i6 d3 (by omega)⟩,?_⟩
  rintro ⟨l1,⟨⟩⟩ hl1
  have el:l1=Zcd n d.1 d.2.1:=congrArg Prod.fst hl1
  refine ⟨⟨rfl,by rw [hl]; omega⟩,⟨h,i6 d1 (by omega),i6 d3 (by omega)⟩,?_⟩
  rintro ⟨g1,⟨⟩⟩ hg1
  have eg:g1=gapG n d.1 d.2.1:=congrArg Prod.fst hg1
  refine ⟨⟨rfl,by rw [hl]; omega⟩,⟨rfl,by rw [List.length_append]; rfl⟩,⟨rfl,by rw [List.length_append]; rfl⟩,⟨rfl,by rw [List.length_append]; rfl⟩,rfl,⟨q+1,rfl,by omega,?_,?_,?_⟩,by omega⟩
  ·rw [ts,List.map_append]; dsimp only; rw [ea,eb]; rfl
  ·rw [ts,List.map_append]; dsimp only; rw [el]; rfl
  ·rw [ts,List.map_append]; dsimp only; rw [eg]; rfl
 ·have e1:q=E.1.length:=by have:=of_decide_eq_false e1; omega
  subst e1
  show _=newR n
  rw [hnew]
  unfold netG Z7l
  rw [hE,hN,List.take_length]
  simp only [List.drop_zero,List.take_length]
end Go.Lift

namespace Go.Lift
def Zd3:=fun (a:Int) (post:Bool × Unit→Prop)=>∀ (a_1:Bool),a_1=decide (a≥(1:Int))→Br a_1 (∀ (a_2:Bool),a_2=decide (a≤(32:Int))→post (a_2,
 ())) (post (false,()))
theorem Z11h (a:Int):Zd3  a (fun r=>r=Zs3 a):=by
 rintro _ rfl
 refine Br.intro (fun e=>?_) fun e=>?_
 ·rintro _ rfl
  refine congrArg r1 ?_
  show _=Z1j a
  unfold Z1j
  rw [show decide ((1:Int)≤a)=true from e,Bool.true_and]
 ·refine congrArg r1 ?_
  show _=Z1j a
  unfold Z1j
  rw [show decide ((1:Int)≤a)=false from e,Bool.false_and]
def Zam:=fun (a:Int) (post:Int × Unit→Prop)=>∃ (h:True),∀ (a_1:Bool),a_1=(Zs3 a).fst→Br (!a_1) (post ((0:Int),())) (post (i64.wrap
 (i64.wrap ((6:Int)*a)*a),()))
theorem Zya (a:Int) (h:I64 a):Zam  a (fun r=>r=Z9w a):=by
 refine ⟨trivial,?_⟩
 rintro _ rfl
 refine Br.intro (fun e=>?_) fun e=>?_
 ·have e:(!Z1j a)=true:=e
  exact congrArg r1 (Zeo (by simpa using e)).symm
 ·have e:(!Z1j a)=false:=e
  exact congrArg r1 (Z15d (by simpa using e))
def Zan:=fun (n c:Int) (post:Int × Int × Int × Bool × Unit→Prop)=>∀ (a:Bool),a=decide (c<(0:Int))→Br a (post ((0:Int),(0:Int),(0:Int),
 false,())) (∃ (h:I64 n),∀ (a:Bool),a=decide (c≥(Z9w n).fst)→Br a (post ((0:Int),(0:Int),(0:Int),false,())) (∃ (h:i64.wrap (n*n) ≠
 (0:Int)),∃ (h:n≠(0:Int)),∃ (h:n≠(0:Int)),∃ (h:n≠(0:Int)),post (i64.wrap (c.tdiv (i64.wrap (n*n))),c.tmod n,(i64.wrap (c.tdiv
 n)).tmod n,true,())))
theorem Zyb (n:Int) (c:Int) (h:II n c):Zan  n c (fun r=>r=Z1 n c):=by
 have bad:Zh n c=false→((0:Int),(0:Int),(0:Int),false,())=Z1 n c:=by
  intro e; unfold Z1; rw [if_neg (by rw [e]; decide)]
 rintro _ rfl
 refine Br.intro (fun e=>?_) fun e=>?_
 ·have e:=of_decide_eq_true e
  exact bad (by unfold Zh; rw [decide_eq_false (by omega),Bool.false_and])
 ·have e:=of_decide_eq_false e
  refine ⟨h.1,?_⟩
  rintro _ rfl
  refine Br.intro (fun f=>?_) fun f=>?_
  ·have f:Zc n≤c:=of_decide_eq_true f
   exact bad (by unfold Zh; rw [decide_eq_false (p:=c<Zc n) (by omega),Bool.and_false])
  ·have f:¬ c≥Zc n:=of_decide_eq_false f
   have ok:Zh n c=true:=by unfold Zh; rw [decide_eq_true (by omega),decide_eq_true (by omega)]; rfl
   obtain ⟨h1,h2,h3,h4,h5,h6⟩:=Z99 ok
   obtain ⟨r1,r2,r3,r4,r5,r6⟩:=Zle ok
   have w1:i64.wrap (n*n)=n*n:=wi ⟨by omega,by omega⟩
   have d1:c.tdiv (n*n)=c / (n*n):=Int.tdiv_eq_ediv_of_nonneg h3
   have d2:c.tdiv n=c / n:=Int.tdiv_eq_ediv_of_nonneg h3
   have d3:0≤c / n∧c / n≤c:=⟨Int.ediv_nonneg h3 (by omega),Int.ediv_le_self _ h3⟩
   have w2:i64.wrap (c / n)=c / n:=wi ⟨by omega,by have:=h.2; unfold I64 at this; omega⟩
   have w3:i64.wrap (c / (n*n))=c / (n*n):=wi ⟨by omega,by omega⟩
   refine ⟨by rw [w1]; omega,by omega,by omega,by omega,?_⟩
   rw [w1,d1,w3,d2,w2,Int.tmod_eq_emod_of_nonneg h3,Int.tmod_eq_emod_of_nonneg d3.1]
   unfold Z1; rw [if_pos ok]
end Go.Lift

namespace Go.Lift
open Go.Proofs
def Zao:Con:=.det [.int .i64] [.snap .bool] (fun _=>True) (fun x=>Zs3 x.1)
def Zj6:Cx:=⟨Zk Zn,Zm [],RbG⟩
theorem Zph:CxOk Tryz.prog Zj6:=⟨Z4 Z7,fun f c h=>by cases h⟩
theorem Zvc:FnAt Tryz.prog 97 Tryz.f97.ntmps Tryz.f97.results.toList (Tryz.f97.body.getD .skip):=⟨Tryz.f97,Tryz.func97,rfl,rfl,by simp,by decide⟩
theorem Zvd (a:Int) (post:Bool × Unit→Prop):Ze Zj6 nHn Tryz.f97.ntmps Tryz.f97.results.toList (Tryz.f97.body.getD .skip) [.int .i64] [.snap .bool] (a,()) post=Zd3  a post:=by kernel_rfl
theorem Zj7:Zao.holds Tryz.prog RbG 97 :=
 detP Zph Z8 nHn Zvc (F:=fun x post=>Zd3  x.1 post) (fun x post=>Zvd x.1 post) fun x _ _=>Z11h  x.1
def Z5x:Con:=.det [.int .i64] [.snap (.int .i64)] (fun x=>I64 x.1) (fun x=>Z9w x.1)
def Zge:Cx:=⟨Zk Zn,Zm [(97,Zao)],RbG⟩
theorem Znh:CxOk Tryz.prog Zge:=⟨Z4 Z7,Z9 ⟨Zj7,trivial⟩⟩
theorem Zsr:FnAt Tryz.prog 58 Tryz.f58.ntmps Tryz.f58.results.toList (Tryz.f58.body.getD .skip):=⟨Tryz.f58,Tryz.func58,rfl,rfl,by simp,by decide⟩
theorem Zss (a:Int) (post:Int × Unit→Prop):Ze Zge nHn Tryz.f58.ntmps Tryz.f58.results.toList (Tryz.f58.body.getD .skip) [.int .i64] [.snap (.int .i64)] (a,()) post=Zam  a post:=by kernel_rfl
theorem Z8l:Z5x.holds Tryz.prog RbG 58 :=
 detP Znh Z8 nHn Zsr (F:=fun x post=>Zam  x.1 post) (fun x post=>Zss x.1 post) fun x h _=>Zya  x.1 h
def Z5y:Con:=.det [.int .i64,.int .i64] [.snap (.int .i64),.snap (.int .i64),.snap (.int .i64),.snap .bool] (fun x=>II x.1 x.2.1) (fun x=>Z1 x.1 x.2.1)
def Zgf:Cx:=⟨Zk Zn,Zm [(58,Z5x)],RbG⟩
theorem Zni:CxOk Tryz.prog Zgf:=⟨Z4 Z7,Z9 ⟨Z8l,trivial⟩⟩
theorem Zst:FnAt Tryz.prog 79 Tryz.f79.ntmps Tryz.f79.results.toList (Tryz.f79.body.getD .skip):=⟨Tryz.f79,Tryz.func79,rfl,rfl,by simp,by decide⟩
theorem Zsu (n:Int) (c:Int) (post:Int × Int × Int × Bool × Unit→Prop):Ze Zgf nHn Tryz.f79.ntmps Tryz.f79.results.toList (Tryz.f79.body.getD .skip) [.int .i64,.int .i64] [.snap (.int .i64),.snap (.int .i64),.snap (.int .i64),.snap .bool] (n,c,()) post=Zan  n c post:=by kernel_rfl
theorem Z8m:Z5y.holds Tryz.prog RbG 79 :=
 detP Zni Z8 nHn Zst (F:=fun x post=>Zan  x.1 x.2.1 post) (fun x post=>Zsu x.1 x.2.1 post) fun x h _=>Zyb  x.1 x.2.1 h
end Go.Lift

namespace Go.Lift
def Z8n:=fun (ty105 ty111 ty109:Nat) (n c o:Int) (post:Int × Int × Unit→Prop)=>∃ (h:II n c),Br (!(Z1 n c).snd.snd.snd.fst) (post ((-1:Int),(0 :
 Int),())) (∀ (a:Bool),a=decide (o<(0:Int))→Br a (post ((-1:Int),(0:Int),())) (∀ (a:Bool),a=decide (o≥(4:Int))→Br a (post ((-1:Int),(0:Int),()))
 (∃ (h:(List.replicate (4:Nat) (K.arr (2:Nat) (K.int i64)).dflt).length=(4:Nat)∧(4:Nat)=(4:Nat)),∃ (h:(0:Int)≤o∧o<(↑(4:Nat):Int)∧(4 :
 Nat)≤(4:Nat)),∃ (h:(0:Int)≤(0:Int)∧(0:Int)<(↑(2:Nat):Int)),∃ (h:(0:Int)≤o∧o<(↑(4:Nat):Int)∧(4:Nat)≤(4:Nat)),∃ (h:(0:Int)≤(1 :
 Int)∧(1:Int)<(↑(2:Nat):Int)),∃ (h:IIII n (Z1 n c).fst (i64.wrap ((Z1 n c).snd.fst+List.getD ([[(1:Int),(0:Int)],[(0:Int),(1:Int)],[(-1
 : Int),(0:Int)],[(0:Int),(-1:Int)]].getD o.toNat (K.arr (2:Nat) (K.int i64)).dflt) (0:Nat) (0:Int))) (i64.wrap ((Z1 n c).snd.snd.fst +
 List.getD ([[(1:Int),(0:Int)],[(0:Int),(1:Int)],[(-1:Int),(0:Int)],[(0:Int),(-1:Int)]].getD o.toNat (K.arr (2:Nat) (K.int i64)).dflt) ((nat_lit 0
 + (1:Nat)) / (K.int i64).sz) (0:Int)))),∀ (a:Int × Unit),a=Zn5 n (Z1 n c).fst (i64.wrap ((Z1 n c).snd.fst+List.getD ([[(1:Int),(0 :
 Int)],[(0:Int),(1:Int)],[(-1:Int),(0:Int)],[(0:Int),(-1:Int)]].getD o.toNat (K.arr (2:Nat) (K.int i64)).dflt) (0:Nat) (0:Int))) (i64.wrap
 ((Z1 n c).snd.snd.fst+List.getD ([[(1:Int),(0:Int)],[(0:Int),(1:Int)],[(-1:Int),(0:Int)],[(0:Int),(-1:Int)]].getD o.toNat (K.arr (2:Nat) (K.int
 i64)).dflt) ((nat_lit 0+(1:Nat)) / (K.int i64).sz) (0:Int)))→∀ (a_1:Bool),a_1=decide (a.fst≥(0:Int))→Br a_1 (∃ (h:(4:Int)≠(0:Int)),post
 (a.fst,(i64.wrap (o+(2:Int))).tmod (4:Int),())) (∃ (h:(0:Int)≤(Z1 n c).fst∧(Z1 n c).fst<(↑(6:Nat):Int)),∃ (h:WOut (Zj.getD (Z1
 n c).fst.toNat (K.arr (3:Nat) (K.arr (3:Nat) (K.int i64))).dflt) o),∀ (a:List Int × Unit),a=outR (Zj.getD (Z1 n c).fst.toNat (K.arr (3:Nat) (K.arr (3
 : Nat) (K.int i64))).dflt) o→∃ (h:True),∀ (a_2:Int × Unit),a_2=Zv0 a.fst→∃ (h:(0:Int)≤a_2.fst∧a_2.fst<(↑(6:Nat):Int)),∃ (h:(List.replicate
 (3:Nat) (K.arr (3:Nat) (K.int i64)).dflt).length=(3:Nat)∧List.length (Zj.getD a_2.fst.toNat (K.arr (3:Nat) (K.arr (3:Nat) (K.int i64))).dflt) =
 (3:Nat)),∃ (h:Z1n n (Z1 n c).fst (Z1 n c).snd.fst (Z1 n c).snd.snd.fst),∀ (a:List Int × Unit),a=Zpf n (Z1 n c).fst (Z1 n c).snd.fst
 (Z1 n c).snd.snd.fst→∃ (h:(0:Int)≤(Z1 n c).fst∧(Z1 n c).fst<(↑(6:Nat):Int)),∃ (h:WOut (Zj.getD (Z1 n c).fst.toNat (K.arr (3:Nat)
 (K.arr (3:Nat) (K.int i64))).dflt) o),∀ (a_3:List Int × Unit),a_3=outR (Zj.getD (Z1 n c).fst.toNat (K.arr (3:Nat) (K.arr (3:Nat) (K.int
 i64))).dflt) o→∃ (h:Zsc a.fst a_3.fst),∀ (a_4:List Int × Unit),a_4=Zn4 a.fst a_3.fst→∃ (h:(List.replicate (3:Nat) (0:Int)).length=(3:Nat) ∧
 a_4.fst.length=(3:Nat)),∃ (h:a_4.fst.length=(3:Nat)),∃ (h:(0:Int)≤(1:Int)∧(1:Int)<(↑(3:Nat):Int)∧(3:Nat)≤List.length (Zj.getD
 a_2.fst.toNat (K.arr (3:Nat) (K.arr (3:Nat) (K.int i64))).dflt)),∃ (h:WDot a_4.fst (List.getD (Zj.getD a_2.fst.toNat (K.arr (3:Nat) (K.arr (3:Nat) (K.int
 i64))).dflt) (Int.toNat (1:Int)) (K.arr (3:Nat) (K.int i64)).dflt)),∀ (a:Int × Unit),a=dotR a_4.fst (List.getD (Zj.getD a_2.fst.toNat (K.arr (3 :
 Nat) (K.arr (3:Nat) (K.int i64))).dflt) (Int.toNat (1:Int)) (K.arr (3:Nat) (K.int i64)).dflt)→∃ (h:Zse n a.fst),∀ (a_5:Int × Unit),a_5=Zsd n
 a.fst→∃ (h:a_4.fst.length=(3:Nat)),∃ (h:(0:Int)≤(2:Int)∧(2:Int)<(↑(3:Nat):Int)∧(3:Nat)≤List.length (Zj.getD a_2.fst.toNat (K.arr (3:Nat)
 (K.arr (3:Nat) (K.int i64))).dflt)),∃ (h:WDot a_4.fst (List.getD (Zj.getD a_2.fst.toNat (K.arr (3:Nat) (K.arr (3:Nat) (K.int i64))).dflt) (Int.toNat
 (2:Int)) (K.arr (3:Nat) (K.int i64)).dflt)),∀ (a:Int × Unit),a=dotR a_4.fst (List.getD (Zj.getD a_2.fst.toNat (K.arr (3:Nat) (K.arr (3:Nat) (K.int
 i64))).dflt) (Int.toNat (2:Int)) (K.arr (3:Nat) (K.int i64)).dflt)→∃ (h:Zse n a.fst),∀ (a_6:Int × Unit),a_6=Zsd n a.fst→∃ (h:IIII n a_2.fst
 a_5.fst a_6.fst),∀ (a:Int × Unit),a=Zn5 n a_2.fst a_5.fst a_6.fst→HIs [HObj.row Md.rw ty105 (K.arr (2:Nat) (K.int i64)) [[(1:Int),(0:Int)],[(0:Int),(1
 : Int)],[(-1:Int),(0:Int)],[(0:Int),(-1:Int)]],HObj.row Md.rw ty111 (K.arr (3:Nat) (K.int i64)) (Zj.getD a_2.fst.toNat (K.arr (3:Nat) (K.arr (3 :
 Nat) (K.int i64))).dflt),HObj.row Md.rw ty109 (K.int i64) a_4.fst] [HObj.row Md.rw ty105 (K.arr (2:Nat) (K.int i64)) [[(1:Int),(0:Int)],[(0 :
 Int),(1:Int)],[(-1:Int),(0:Int)],[(0:Int),(-1:Int)]],HObj.row Md.rw ty111 (K.arr (3:Nat) (K.int i64)) (Zj.getD a_2.fst.toNat (K.arr (3:Nat) (K.arr
 (3:Nat) (K.int i64))).dflt),HObj.row Md.rw ty109 (K.int i64) a_4.fst]∧∃ (I:Int × Unit→Unit→Prop),∃ (μ:Int × Unit→Unit→Nat),I ((0:Int),()) ()
 ∧ ∀ (x:Int × Unit) (y:Unit),I x y→∀ (a_7:Bool),a_7=decide (x.fst<(4:Int))→Br a_7 (∃ (h:List.length (Zj.getD a_2.fst.toNat (K.arr (3:Nat) (K.arr (3 :
 Nat) (K.int i64))).dflt)=(3:Nat)),∃ (h:WOut (Zj.getD a_2.fst.toNat (K.arr (3:Nat) (K.arr (3:Nat) (K.int i64))).dflt) x.fst),∀ (a_8:List Int ×
 Unit),a_8=outR (Zj.getD a_2.fst.toNat (K.arr (3:Nat) (K.arr (3:Nat) (K.int i64))).dflt) x.fst→∃ (h:(0:Int)≤(Z1 n c).fst∧(Z1 n c).fst<(↑(6
 : Nat):Int)),∃ (h:(0:Int)≤(0:Int)∧(0:Int)<(↑(3:Nat):Int)),∀ (a_9:Bool),a_9=eqL a_8.fst (List.getD (Zj.getD (Z1 n c).fst.toNat (K.arr (3:Nat)
 (K.arr (3:Nat) (K.int i64))).dflt) (Int.toNat (0:Int)) (K.arr (3:Nat) (K.int i64)).dflt)→Br a_9 (post (a.fst,x.fst,())) (HIs [HObj.row Md.rw ty105 (K.arr
 (2:Nat) (K.int i64)) [[(1:Int),(0:Int)],[(0:Int),(1:Int)],[(-1:Int),(0:Int)],[(0:Int),(-1:Int)]],HObj.row Md.rw ty111 (K.arr (3:Nat) (K.int
 i64)) (Zj.getD a_2.fst.toNat (K.arr (3:Nat) (K.arr (3:Nat) (K.int i64))).dflt),HObj.row Md.rw ty109 (K.int i64) a_4.fst] [HObj.row Md.rw ty105
 (K.arr (2:Nat) (K.int i64)) [[(1:Int),(0:Int)],[(0:Int),(1:Int)],[(-1:Int),(0:Int)],[(0:Int),(-1:Int)]],HObj.row Md.rw ty111 (K.arr (3:Nat)
 (K.int i64)) (Zj.getD a_2.fst.toNat (K.arr (3:Nat) (K.arr (3:Nat) (K.int i64))).dflt),HObj.row Md.rw ty109 (K.int i64) a_4.fst]∧I
 (i64.wrap (x.fst+(1:Int)),()) ()∧μ (i64.wrap (x.fst+(1:Int)),()) ()<μ x y)) (post ((-1:Int),(0:Int),()))))))
theorem Zve (ty0 ty1 ty2:Nat) (n:Int) (c:Int) (o:Int) (h:III n c o):Z8n ty0 ty1 ty2 n c o (fun r=>r=Z2c n c o):=by
 refine ⟨⟨h.1,h.2.1⟩,?_⟩
 have no:Zr n c o=false→((-1:Int),(0:Int),())=Z2c n c o:=by
  intro q
  have:Z3 n c o=(-1,0):=by unfold Z3; rw [if_neg (by rw [q]; decide)]
  unfold Z2c; rw [this]
 by_cases ok:Zh n c=true
 ·rw [Z111 ok]
  have hm:=Za3 ok
  have hh:=hm
  obtain ⟨n1,n2,f0,f5,i0,i1,j0,j1⟩:=hh
  dsimp only
  refine Br.intro (fun e=>absurd e (by decide)) fun _=>?_
  rintro _ rfl
  refine Br.intro (fun e=>no ?_) fun e=>?_
  ·have e:=of_decide_eq_true e
   unfold Zr; rw [decide_eq_false (p:=0≤o) (by omega)]; simp
  have o0:=of_decide_eq_false e
  rintro _ rfl
  refine Br.intro (fun e=>no ?_) fun e=>?_
  ·have e:=of_decide_eq_true e
   unfold Zr; rw [decide_eq_false (p:=o<4) (by omega)]; simp
  have o4:=of_decide_eq_false e
  have o0:0≤o:=by omega
  have o4:o<4:=by omega
  have okb:Zr n c o=true:=by unfold Zr; rw [ok,decide_eq_true o0,decide_eq_true o4]; rfl
  have d:=dxy (o:=o)
  obtain ⟨F,hF⟩:∃ F,c / (n*n)=F:=⟨_,rfl⟩
  obtain ⟨i,hi0⟩:∃ i,c % n=i:=⟨_,rfl⟩
  obtain ⟨j,hj0⟩:∃ j,c / n % n=j:=⟨_,rfl⟩
  have hb:Z3 n c o=if 0≤Z17 n F (i+dxI o) (j+dyI o) then (Z17 n F (i+dxI o) (j+dyI o),Int.tmod (o+2) 4) else Zsf n F i j o:=by
   unfold Z3; rw [if_pos okb,hF,hi0,hj0]
  rw [hF,hi0,hj0]
  rw [hF] at hm f0 f5
  rw [hi0] at hm i0 i1
  rw [hj0] at hm j0 j1
  have w1:i64.wrap (i+dxI o)=i+dxI o:=wi ⟨by omega,by omega⟩
  have w2:i64.wrap (j+dyI o)=j+dyI o:=wi ⟨by omega,by omega⟩
  have i6:∀ {z:Int},-1≤z→z≤6144→I64 z:=fun {z} a b=>⟨by omega,by omega⟩
  have fb:=Z3e f0 f5
  have wo:∀ q,WOut (Zs F) q:=fun q=>⟨(fb 1).mono (by decide),(fb 2).mono (by decide)⟩
  refine ⟨⟨rfl,rfl⟩,⟨o0,o4,Nat.le_refl _⟩,⟨by decide,by decide⟩,⟨o0,o4,Nat.le_refl _⟩,⟨by decide,by decide⟩,⟨h.1,i6 (by omega) (by omega),Z114 _,Z114 _⟩,?_⟩
  intro a ha
  have ha:a=Zn5 n F (i64.wrap (i+dxI o)) (i64.wrap (j+dyI o)):=ha.trans (by rw [← Z1cd o0 o4,← Z1ce o0 o4]; rfl)
  rw [w1,w2] at ha
  obtain ⟨a,⟨⟩⟩:=a
  have ha:a=Z17 n F (i+dxI o) (j+dyI o):=congrArg Prod.fst ha
  rw [← ha] at hb
  rintro _ rfl
  refine Br.intro (fun e=>?_) fun e=>?_
  ·have e:a≥0:=of_decide_eq_true e
   rw [if_pos e] at hb
   refine ⟨by decide,?_⟩
   have:i64.wrap (o+2)=o+2:=wi ⟨by omega,by omega⟩
   rw [this]
   unfold Z2c; rw [hb]
  have e:¬ 0≤a:=of_decide_eq_false e
  rw [if_neg e] at hb
  refine ⟨⟨f0,by show F<6; omega⟩,wo o,?_⟩
  rintro ⟨v1,⟨⟩⟩ hv1
  have e1:v1=outF (Zs F) o:=congrArg Prod.fst hv1
  refine ⟨trivial,?_⟩
  rintro ⟨t,⟨⟩⟩ ht
  have et:t=Z2u (outF (Zs F) o):=by rw [← e1]; exact congrArg Prod.fst ht
  obtain ⟨t0,t5⟩:=Z1bf f0 f5 o0 o4
  rw [← et] at t0 t5
  have fl:=Zxj t0 t5
  have tb:=Z3e t0 t5
  refine ⟨⟨t0,by show t<6; omega⟩,⟨rfl,fl⟩,hm,?_⟩
  rintro ⟨p,⟨⟩⟩ hp
  have ep:p=Z5s n F i j:=congrArg Prod.fst hp
  have pb:Bd 96 p:=by rw [ep]; exact Z188 hm
  refine ⟨⟨f0,by show F<6; omega⟩,wo o,?_⟩
  rintro ⟨v2,⟨⟩⟩ hv2
  have e2:v2=outF (Zs F) o:=congrArg Prod.fst hv2
  have vb:Bd 1 v2:=by rw [e2]; exact Z1cc f0 f5 o
  refine ⟨⟨pb.mono (by decide),vb.mono (by decide)⟩,?_⟩
  rintro ⟨q,⟨⟩⟩ hq
  have eq:q=Z9a p v2:=congrArg Prod.fst hq
  have ql:q.length=3:=by rw [eq]; rfl
  have qb:Bd 97 q:=by rw [eq]; exact Zn6 pb vb
  refine ⟨⟨rfl,ql⟩,ql,⟨by decide,by decide,Nat.le_of_eq fl.symm⟩,⟨qb.mono (by decide),(tb 1).mono (by decide)⟩,?_⟩
  rintro ⟨d1,⟨⟩⟩ hd1
  have ed1:d1=dotW q (Z1b (Zs t) 1):=congrArg Prod.fst hd1
  have db1:=Z187 qb (tb 1)
  rw [← ed1] at db1
  refine ⟨⟨n1,n2,by omega,by omega⟩,?_⟩
  rintro ⟨x1,⟨⟩⟩ hx1
  have ex1:x1=Z2n n d1:=congrArg Prod.fst hx1
  have xb1:=Zxk (a:=d1) n1
  rw [← ex1] at xb1
  refine ⟨ql,⟨by decide,by decide,Nat.le_of_eq fl.symm⟩,⟨qb.mono (by decide),(tb 2).mono (by decide)⟩,?_⟩
  rintro ⟨d2,⟨⟩⟩ hd2
  have ed2:d2=dotW q (Z1b (Zs t) 2):=congrArg Prod.fst hd2
  have db2:=Z187 qb (tb 2)
  rw [← ed2] at db2
  refine ⟨⟨n1,n2,by omega,by omega⟩,?_⟩
  rintro ⟨x2,⟨⟩⟩ hx2
  have ex2:x2=Z2n n d2:=congrArg Prod.fst hx2
  have xb2:=Zxk (a:=d2) n1
  rw [← ex2] at xb2
  refine ⟨⟨h.1,i6 (by omega) (by omega),i6 (by omega) (by omega),i6 (by omega) (by omega)⟩,?_⟩
  rintro ⟨cc,⟨⟩⟩ hcc
  have ecc:cc=Z17 n t x1 x2:=congrArg Prod.fst hcc
  have hov:Z3 n c o=Z9b (Zs t) (Z1b (Zs F) 0) cc 4 0:=by
   rw [hb,ecc,ex1,ex2,ed1,ed2,eq,ep,e2,et]; rfl
  refine ⟨rfl,fun x _=>∃ k:Nat,x.1=k∧k≤4∧Z3 n c o=Z9b (Zs t) (Z1b (Zs F) 0) cc (4 - k) k,fun x _=>4 - x.1.toNat,⟨0,rfl,by omega,hov⟩,?_⟩
  rintro ⟨_,⟨⟩⟩ _ ⟨k,rfl,hk,hi⟩
  dsimp only
  rintro _ rfl
  refine Br.intro (fun g=>?_) fun g=>?_
  ·have g:k<4:=by have g:(k:Int)<4:=of_decide_eq_true g; omega
   refine ⟨fl,⟨(tb 1).mono (by decide),(tb 2).mono (by decide)⟩,?_⟩
   rintro ⟨v3,⟨⟩⟩ hv3
   have e3:v3=outF (Zs t) k:=congrArg Prod.fst hv3
   refine ⟨⟨f0,by show F<6; omega⟩,⟨by decide,by decide⟩,?_⟩
   intro z hz
   have hz:z=decide (outF (Zs t) k=Z1b (Zs F) 0):=by rw [← e3]; exact hz
   obtain ⟨r,hr⟩:∃ r,4 - k=r+1:=⟨3 - k,by omega⟩
   rw [hr] at hi
   unfold Z9b at hi
   rw [hz,Z2b g (by omega)]
   refine Br.intro (fun y=>?_) fun y=>?_
   ·rw [if_pos (of_decide_eq_true y)] at hi
    unfold Z2c; rw [hi]
   ·rw [if_neg (of_decide_eq_false y)] at hi
    exact ⟨rfl,⟨k+1,rfl,by omega,by rw [show 4 - (k+1)=r by omega]; exact hi⟩,by omega⟩
  ·have g:k=4:=by have g:¬ (k:Int)<4:=of_decide_eq_false g; omega
   subst g
   have hi:Z3 n c o=(-1,0):=hi
   unfold Z2c; rw [hi]
 ·rw [Z112 ok]
  refine Br.intro (fun _=>no ?_) fun e=>absurd e (by decide)
  unfold Zr; rw [show Zh n c=false by simpa using ok]; rfl
end Go.Lift

namespace Go.Lift
def Z64:=fun (a:List Int) (k:Int) (post:List Int × Unit→Prop)=>∃ (h:(0:Int)≤(0:Int)∧(0:Int)<(↑(3:Nat):Int)∧(3:Nat)≤a.length),∃ (h
 : (0:Int)≤(1:Int)∧(1:Int)<(↑(3:Nat):Int)∧(3:Nat)≤a.length),∃ (h:(0:Int)≤(2:Int)∧(2:Int)<(↑(3:Nat):Int)∧(3:Nat)≤a.length),∃ (h :
 (List.replicate (3:Nat) (0:Int)).length=(3:Nat)∧(3:Nat)=(3:Nat)),∃ (h:(3:Nat)=(3:Nat)),post ([i64.wrap (k*a.getD (Int.toNat (0:Int)) (0 :
 Int)),i64.wrap (k*a.getD (Int.toNat (1:Int)) (0:Int)),i64.wrap (k*a.getD (Int.toNat (2:Int)) (0:Int))],())
theorem Znj (a:List Int) (k:Int) (h:Z4k a k) (w:KS.wf [kWay,.int .i64] (a,k,())):Z64  a k (fun r=>r=Za0 a k):=by
 have hl:a.length=3:=w.1.1
 obtain ⟨hb,k1,k2⟩:=h
 have W:∀ i:Nat,i64.wrap (k*a.getD i 0)=k*a.getD i 0:=fun i=>by
  have:=Za2 k1 k2 (hb i).1 (hb i).2
  exact wi ⟨by omega,by omega⟩
 refine ⟨⟨by decide,by decide,by omega⟩,⟨by decide,by decide,by omega⟩,⟨by decide,by decide,by omega⟩,⟨rfl,rfl⟩,rfl,?_⟩
 show ([i64.wrap (k*a.getD 0 0),i64.wrap (k*a.getD 1 0),i64.wrap (k*a.getD 2 0)],())=Za0 a k
 rw [W,W,W]; rfl
def Z6s:=fun (a b:List Int) (post:List Int × Unit→Prop)=>∃ (h:(0:Int)≤(0:Int)∧(0:Int)<(↑(3:Nat):Int)∧(3:Nat)≤a.length),∃ (h:(0 :
 Int)≤(0:Int)∧(0:Int)<(↑(3:Nat):Int)∧(3:Nat)≤b.length),∃ (h:(0:Int)≤(1:Int)∧(1:Int)<(↑(3:Nat):Int)∧(3:Nat)≤a.length),∃ (h:(0:Int)
 ≤ (1:Int)∧(1:Int)<(↑(3:Nat):Int)∧(3:Nat)≤b.length),∃ (h:(0:Int)≤(2:Int)∧(2:Int)<(↑(3:Nat):Int)∧(3:Nat)≤a.length),∃ (h:(0:Int)≤(2
 : Int)∧(2:Int)<(↑(3:Nat):Int)∧(3:Nat)≤b.length),∃ (h:(List.replicate (3:Nat) (0:Int)).length=(3:Nat)∧(3:Nat)=(3:Nat)),∃ (h:(3:Nat)=(3 :
 Nat)),post ([i64.wrap (a.getD (Int.toNat (0:Int)) (0:Int)+b.getD (Int.toNat (0:Int)) (0:Int)),i64.wrap (a.getD (Int.toNat (1:Int)) (0:Int)+b.getD
 (Int.toNat (1:Int)) (0:Int)),i64.wrap (a.getD (Int.toNat (2:Int)) (0:Int)+b.getD (Int.toNat (2:Int)) (0:Int))],())
theorem Zpi (a:List Int) (b:List Int) (h:Zsc a b) (w:KS.wf [kWay,kWay] (a,b,())):Z6s  a b (fun r=>r=Zn4 a b):=by
 have hl:a.length=3:=w.1.1
 have hm:b.length=3:=w.2.1.1
 obtain ⟨ha,hb⟩:=h
 have W:∀ i:Nat,i64.wrap (a.getD i 0+b.getD i 0)=a.getD i 0+b.getD i 0:=fun i=>by
  have:=ha i; have:=hb i
  exact wi ⟨by omega,by omega⟩
 refine ⟨⟨by decide,by decide,by omega⟩,⟨by decide,by decide,by omega⟩,⟨by decide,by decide,by omega⟩,⟨by decide,by decide,by omega⟩,⟨by decide,by decide,by omega⟩,⟨by decide,by decide,by omega⟩,⟨rfl,rfl⟩,rfl,?_⟩
 show ([i64.wrap (a.getD 0 0+b.getD 0 0),i64.wrap (a.getD 1 0+b.getD 1 0),i64.wrap (a.getD 2 0+b.getD 2 0)],())=Zn4 a b
 rw [W,W,W]; rfl
def Z7o:=fun (a b:List Int) (post:Int × Unit→Prop)=>∃ (h:(0:Int)≤(0:Int)∧(0:Int)<(↑(3:Nat):Int)∧(3:Nat)≤a.length),∃ (h:(0:Int) ≤
 (0:Int)∧(0:Int)<(↑(3:Nat):Int)∧(3:Nat)≤b.length),∃ (h:(0:Int)≤(1:Int)∧(1:Int)<(↑(3:Nat):Int)∧(3:Nat)≤a.length),∃ (h:(0:Int)≤(1 :
 Int)∧(1:Int)<(↑(3:Nat):Int)∧(3:Nat)≤b.length),∃ (h:(0:Int)≤(2:Int)∧(2:Int)<(↑(3:Nat):Int)∧(3:Nat)≤a.length),∃ (h:(0:Int)≤(2:Int)
 ∧ (2:Int)<(↑(3:Nat):Int)∧(3:Nat)≤b.length),post (i64.wrap (i64.wrap (i64.wrap (a.getD (Int.toNat (0:Int)) (0:Int)*b.getD (Int.toNat (0
 : Int)) (0:Int))+i64.wrap (a.getD (Int.toNat (1:Int)) (0:Int)*b.getD (Int.toNat (1:Int)) (0:Int)))+i64.wrap (a.getD (Int.toNat (2:Int)) (0:Int)
 * b.getD (Int.toNat (2:Int)) (0:Int))),())
theorem Zsv (a:List Int) (b:List Int) (h:WDot a b) (w:KS.wf [kWay,kWay] (a,b,())):Z7o  a b (fun r=>r=dotR a b):=by
 have hl:a.length=3:=w.1.1
 have hm:b.length=3:=w.2.1.1
 obtain ⟨ha,hb⟩:=h
 have M:∀ i:Nat,-(1048576*1048576)≤a.getD i 0*b.getD i 0∧a.getD i 0*b.getD i 0≤1048576*1048576:=fun i=>Za2 (ha i).1 (ha i).2 (hb i).1 (hb i).2
 have m0:=M 0
 have m1:=M 1
 have m2:=M 2
 refine ⟨⟨by decide,by decide,by omega⟩,⟨by decide,by decide,by omega⟩,⟨by decide,by decide,by omega⟩,⟨by decide,by decide,by omega⟩,⟨by decide,by decide,by omega⟩,⟨by decide,by decide,by omega⟩,?_⟩
 show (i64.wrap (i64.wrap (i64.wrap (a.getD 0 0*b.getD 0 0)+i64.wrap (a.getD 1 0*b.getD 1 0))+i64.wrap (a.getD 2 0*b.getD 2 0)),())=dotR a b
 rw [wi (x:=a.getD 0 0*b.getD 0 0) ⟨by omega,by omega⟩,wi (x:=a.getD 1 0*b.getD 1 0) ⟨by omega,by omega⟩,wi (x:=a.getD 2 0*b.getD 2 0) ⟨by omega,by omega⟩,wi (x:=a.getD 0 0*b.getD 0 0+a.getD 1 0*b.getD 1 0) ⟨by omega,by omega⟩,wi ⟨by omega,by omega⟩]
 rfl
def Z65:=fun (f:List (List Int)) (s:Int) (post:List Int × Unit→Prop)=>∀ (a:Bool),a=(s==(0:Int))→Br a (∃ (h:(0:Int)≤(1:Int)∧(1:Int) <
 (↑(3:Nat):Int)∧(3:Nat)≤f.length),∃ (h:(List.replicate (3:Nat) (0:Int)).length=(3:Nat)∧List.length (f.getD (Int.toNat (1:Int)) (K.arr (3:Nat) (K.int
 i64)).dflt)=(3:Nat)),∃ (h:List.length (f.getD (Int.toNat (1:Int)) (K.arr (3:Nat) (K.int i64)).dflt)=(3:Nat)),post (f.getD (Int.toNat (1:Int))
 (K.arr (3:Nat) (K.int i64)).dflt,())) (∀ (a:Bool),a=(s==(1:Int))→Br a (∃ (h:(0:Int)≤(2:Int)∧(2:Int)<(↑(3:Nat):Int)∧(3:Nat)≤f.length),
 ∃ (h:(List.replicate (3:Nat) (0:Int)).length=(3:Nat)∧List.length (f.getD (Int.toNat (2:Int)) (K.arr (3:Nat) (K.int i64)).dflt)=(3:Nat)),∃ (h :
 List.length (f.getD (Int.toNat (2:Int)) (K.arr (3:Nat) (K.int i64)).dflt)=(3:Nat)),post (f.getD (Int.toNat (2:Int)) (K.arr (3:Nat) (K.int i64)).dflt,
 ())) (∀ (a:Bool),a=(s==(2:Int))→Br a (∃ (h:(0:Int)≤(1:Int)∧(1:Int)<(↑(3:Nat):Int)∧(3:Nat)≤f.length),∃ (h:Z4k (f.getD (Int.toNat (1:Int))
 (K.arr (3:Nat) (K.int i64)).dflt) (-1:Int)),∀ (a:List Int × Unit),a=Za0 (f.getD (Int.toNat (1:Int)) (K.arr (3:Nat) (K.int i64)).dflt) (-1:Int) →
 ∃ (h:(List.replicate (3:Nat) (0:Int)).length=(3:Nat)∧a.fst.length=(3:Nat)),∃ (h:a.fst.length=(3:Nat)),post (a.fst,())) (∃ (h:(0:Int)≤(2:Int)∧(2
 : Int)<(↑(3:Nat):Int)∧(3:Nat)≤f.length),∃ (h:Z4k (f.getD (Int.toNat (2:Int)) (K.arr (3:Nat) (K.int i64)).dflt) (-1:Int)),∀ (a:List Int × Unit),
 a=Za0 (f.getD (Int.toNat (2:Int)) (K.arr (3:Nat) (K.int i64)).dflt) (-1:Int)→∃ (h:(List.replicate (3:Nat) (0:Int)).length=(3:Nat)∧a.fst.length =
 (3:Nat)),∃ (h:a.fst.length=(3:Nat)),post (a.fst,()))))
theorem Znk (f:List (List Int)) (s:Int) (h:WOut f s) (w:KS.wf [Z10z,.int .i64] (f,s,())):Z65  f s (fun r=>r=outR f s):=by
 have hl:f.length=3:=w.1.1
 have hm:∀ i,(Z1b f i).length=3:=fun i=>by
  unfold Z1b
  rcases Nat.lt_or_ge i f.length with g | g
  ·exact (w.1.2 _ (Z4a g [0,0,0])).1
  ·rw [List.getD_eq_getElem?_getD,List.getElem?_eq_none g]; rfl
 obtain ⟨h1,h2⟩:=h
 have t1:Z4k (Z1b f 1) (-1):=⟨h1,by decide,by decide⟩
 have t2:Z4k (Z1b f 2) (-1):=⟨h2,by decide,by decide⟩
 rintro _ rfl
 refine Br.intro (fun e=>?_) fun e=>?_
 ·have e:s=0:=beq_iff_eq.1 e
  exact ⟨⟨by decide,by decide,by omega⟩,⟨rfl,hm 1⟩,hm 1,congrArg r1 (by unfold outF; rw [if_pos e]; rfl)⟩
 have e:¬ s=0:=fun q=>by rw [q] at e; cases e
 rintro _ rfl
 refine Br.intro (fun g=>?_) fun g=>?_
 ·have g:s=1:=beq_iff_eq.1 g
  exact ⟨⟨by decide,by decide,by omega⟩,⟨rfl,hm 2⟩,hm 2,congrArg r1 (by unfold outF; rw [if_neg e,if_pos g]; rfl)⟩
 have g:¬ s=1:=fun q=>by rw [q] at g; cases g
 rintro _ rfl
 refine Br.intro (fun j=>?_) fun j=>?_
 ·have j:s=2:=beq_iff_eq.1 j
  refine ⟨⟨by decide,by decide,by omega⟩,t1,?_⟩
  rintro _ rfl
  exact ⟨⟨rfl,rfl⟩,rfl,congrArg r1 (by unfold outF; rw [if_neg e,if_neg g,if_pos j]; rfl)⟩
 have j:¬ s=2:=fun q=>by rw [q] at j; cases j
 refine ⟨⟨by decide,by decide,by omega⟩,t2,?_⟩
 rintro _ rfl
 exact ⟨⟨rfl,rfl⟩,rfl,congrArg r1 (by unfold outF; rw [if_neg e,if_neg g,if_neg j]; rfl)⟩
def Z8o:=fun (ty154:Nat) (c:List Int) (post:Int × Unit→Prop)=>HIs [HObj.row Md.rw ty154 (K.int i64) c] [HObj.row Md.rw ty154 (K.int i64) c] ∧
 ∃ (I:Int × Unit→Unit→Prop),∃ (μ:Int × Unit→Unit→Nat),I ((0:Int),()) ()∧∀ (x:Int × Unit) (y:Unit),I x y→∀ (a:Bool),a=decide (x.fst<(6:Int))→Br
 a (∃ (h:(0:Int)≤x.fst∧x.fst<(↑(6:Nat):Int)),∃ (h:(0:Int)≤(0:Int)∧(0:Int)<(↑(3:Nat):Int)),∃ (h:c.length=(3:Nat)),∀ (a:Bool),a=eqL
 (List.getD (Zj.getD x.fst.toNat (K.arr (3:Nat) (K.arr (3:Nat) (K.int i64))).dflt) (Int.toNat (0:Int)) (K.arr (3:Nat) (K.int i64)).dflt) c→Br a (post
 (x.fst,())) (HIs [HObj.row Md.rw ty154 (K.int i64) c] [HObj.row Md.rw ty154 (K.int i64) c]∧I (i64.wrap (x.fst+(1:Int)),()) ()∧μ (i64.wrap
 (x.fst+(1:Int)),()) ()<μ x y)) (post ((-1:Int),()))
theorem Zvf (ty0:Nat) (c:List Int) (w:KS.wf [kWay] (c,())):Z8o ty0 c (fun r=>r=Zv0 c):=by
 have hl:c.length=3:=w.1.1
 refine ⟨rfl,fun x _=>∃ k:Nat,x.1=k∧k≤6∧Z2u c=Zld (fun fr=>decide (Z1b fr 0=c)) k (Zj.drop k),fun x _=>6 - x.1.toNat,⟨0,rfl,by omega,rfl⟩,?_⟩
 rintro ⟨_,⟨⟩⟩ _ ⟨k,rfl,hk,hi⟩
 dsimp only
 rintro _ rfl
 refine Br.intro (fun e=>?_) fun e=>?_
 ·have e:k<6:=by have e:(k:Int)<6:=of_decide_eq_true e; omega
  refine ⟨⟨by omega,by show (k:Int)<6; omega⟩,⟨by decide,by decide⟩,hl,?_⟩
  rw [Z17x (l:=Zj) (i:=k) e [[0,0,0],[0,0,0],[0,0,0]],Z12u] at hi
  rw [Int.toNat_natCast,Z2b e (by omega)]
  intro z hz
  have hz:z=decide (Z1b (Zj.getD k [[0,0,0],[0,0,0],[0,0,0]]) 0=c):=hz
  rw [hz]
  refine Br.intro (fun g=>?_) fun g=>?_
  ·rw [if_pos g] at hi
   exact congrArg r1 hi.symm
  ·rw [if_neg (by rw [g]; decide)] at hi
   exact ⟨rfl,⟨k+1,rfl,by omega,hi⟩,by omega⟩
 ·have e:k=6:=by have e:¬ (k:Int)<6:=of_decide_eq_false e; omega
  subst e
  exact congrArg r1 (by rw [hi]; rfl)
def Zd4:=fun (n f i j:Int) (post:Int × Unit→Prop)=>∃ (h:True),∀ (a:Bool),a=(Zs3 n).fst→Br (!a) (post ((-1:Int),())) (∀ (a:Bool),a=decide (f <
 (0:Int))→Br a (post ((-1:Int),())) (∀ (a:Bool),a=decide (f≥(6:Int))→Br a (post ((-1:Int),())) (∀ (a:Bool),a=decide (i<(0:Int))→Br a (post ((-1 :
 Int),())) (∀ (a:Bool),a=decide (i≥n)→Br a (post ((-1:Int),())) (∀ (a:Bool),a=decide (j<(0:Int))→Br a (post ((-1:Int),())) (∀ (a:Bool),a=decide (j ≥
 n)→Br a (post ((-1:Int),())) (post (i64.wrap (i64.wrap (i64.wrap (i64.wrap (f*n)+j)*n)+i),()))))))))
theorem Z11i (n:Int) (f:Int) (i:Int) (j:Int) (h:IIII n f i j):Zd4  n f i j (fun r=>r=Zn5 n f i j):=by
 obtain ⟨hn,hf,hi,hj⟩:=h
 have no:Z3a n f i j=false→((-1:Int),())=Zn5 n f i j:=fun q=>congrArg r1 (by unfold Z17; rw [if_neg (by rw [q]; decide)])
 have ok:∀ p,(Z1j n&&decide (0≤f)&&decide (f<6)&&decide (0≤i)&&decide (i<n)&&decide (0≤j)&&decide (j<n))=p→Z3a n f i j=p:=fun p q=>q
 refine ⟨trivial,?_⟩
 intro g hg
 have hg:g=Z1j n:=hg
 rw [hg]
 refine Br.intro (fun e=>no (ok _ ?_)) fun e=>?_
 ·have e:Z1j n=false:=by simpa using e
  rw [e]; rfl
 have e:Z1j n=true:=by simpa using e
 rintro _ rfl
 refine Br.intro (fun q=>no (ok _ ?_)) fun q=>?_
 ·rw [decide_eq_false (p:=0≤f) (by have:=of_decide_eq_true q; omega)]; simp
 have q1:=of_decide_eq_false q
 rintro _ rfl
 refine Br.intro (fun q=>no (ok _ ?_)) fun q=>?_
 ·rw [decide_eq_false (p:=f<6) (by have:=of_decide_eq_true q; omega)]; simp
 have q2:=of_decide_eq_false q
 rintro _ rfl
 refine Br.intro (fun q=>no (ok _ ?_)) fun q=>?_
 ·rw [decide_eq_false (p:=0≤i) (by have:=of_decide_eq_true q; omega)]; simp
 have q3:=of_decide_eq_false q
 rintro _ rfl
 refine Br.intro (fun q=>no (ok _ ?_)) fun q=>?_
 ·rw [decide_eq_false (p:=i<n) (by have:=of_decide_eq_true q; omega)]; simp
 have q4:=of_decide_eq_false q
 rintro _ rfl
 refine Br.intro (fun q=>no (ok _ ?_)) fun q=>?_
 ·rw [decide_eq_false (p:=0≤j) (by have:=of_decide_eq_true q; omega)]; simp
 have q5:=of_decide_eq_false q
 rintro _ rfl
 refine Br.intro (fun q=>no (ok _ ?_)) fun q=>?_
 ·rw [decide_eq_false (p:=j<n) (by have:=of_decide_eq_true q; omega)]; simp
 have q6:=of_decide_eq_false q
 have hok:Z3a n f i j=true:=by
  unfold Z3a
  rw [e,decide_eq_true (p:=0≤f) (by omega),decide_eq_true (p:=f<6) (by omega),decide_eq_true (p:=0≤i) (by omega),decide_eq_true (p:=i<n) (by omega),decide_eq_true (p:=0≤j) (by omega),decide_eq_true (p:=j<n) (by omega)]; rfl
 obtain ⟨r0,r1',n1,n2⟩:=Zib hok
 have hv:Z17 n f i j=(f*n+j)*n+i:=by unfold Z17; rw [if_pos hok]
 rw [hv] at r0 r1'
 have sq:=Zn3 n1 n2
 have b1:0≤f*n:=Int.mul_nonneg (by omega) (by omega)
 have b2:f*n≤5*n:=Int.mul_le_mul_of_nonneg_right (by omega) (by omega)
 have b3:0≤(f*n+j)*n:=Int.mul_nonneg (by omega) (by omega)
 rw [wi (x:=f*n) ⟨by omega,by omega⟩,wi (x:=f*n+j) ⟨by omega,by omega⟩,wi (x:=(f*n+j)*n) ⟨by omega,by omega⟩,wi (x:=(f*n+j)*n+i) ⟨by omega,by omega⟩]
 exact congrArg r1 hv.symm
def Z5z:=fun (n f i j:Int) (post:List Int × Unit→Prop)=>∃ (h:(0:Int)≤f∧f<(↑(6:Nat):Int)),∃ (h:(List.replicate (3:Nat) (K.arr (3:Nat) (K.int
 i64)).dflt).length=(3:Nat)∧List.length (Zj.getD f.toNat (K.arr (3:Nat) (K.arr (3:Nat) (K.int i64))).dflt)=(3:Nat)),∃ (h:(0:Int)≤(0:Int)
 ∧ (0:Int)<(↑(3:Nat):Int)∧(3:Nat)≤List.length (Zj.getD f.toNat (K.arr (3:Nat) (K.arr (3:Nat) (K.int i64))).dflt)),∃ (h:Z4k (List.getD
 (Zj.getD f.toNat (K.arr (3:Nat) (K.arr (3:Nat) (K.int i64))).dflt) (Int.toNat (0:Int)) (K.arr (3:Nat) (K.int i64)).dflt) n),∀ (a:List Int × Unit),
 a=Za0 (List.getD (Zj.getD f.toNat (K.arr (3:Nat) (K.arr (3:Nat) (K.int i64))).dflt) (Int.toNat (0:Int)) (K.arr (3:Nat) (K.int i64)).dflt) n→∃
 (h:(0:Int)≤(1:Int)∧(1:Int)<(↑(3:Nat):Int)∧(3:Nat)≤List.length (Zj.getD f.toNat (K.arr (3:Nat) (K.arr (3:Nat) (K.int i64))).dflt)),∃ (h :
 Z4k (List.getD (Zj.getD f.toNat (K.arr (3:Nat) (K.arr (3:Nat) (K.int i64))).dflt) (Int.toNat (1:Int)) (K.arr (3:Nat) (K.int i64)).dflt)
 (i64.wrap (i64.wrap (i64.wrap ((2:Int)*i)+(1:Int)) - n))),∀ (a_1:List Int × Unit),a_1=Za0 (List.getD (Zj.getD f.toNat (K.arr (3 :
 Nat) (K.arr (3:Nat) (K.int i64))).dflt) (Int.toNat (1:Int)) (K.arr (3:Nat) (K.int i64)).dflt) (i64.wrap (i64.wrap (i64.wrap ((2 :
 Int)*i)+(1:Int)) - n))→∃ (h:Zsc a.fst a_1.fst),∀ (a_2:List Int × Unit),a_2=Zn4 a.fst a_1.fst→∃ (h:(0:Int)≤(2:Int)∧(2:Int)<(↑(3:Nat):Int) ∧
 (3:Nat)≤List.length (Zj.getD f.toNat (K.arr (3:Nat) (K.arr (3:Nat) (K.int i64))).dflt)),∃ (h:Z4k (List.getD (Zj.getD f.toNat (K.arr (3:Nat)
 (K.arr (3:Nat) (K.int i64))).dflt) (Int.toNat (2:Int)) (K.arr (3:Nat) (K.int i64)).dflt) (i64.wrap (i64.wrap (i64.wrap ((2:Int) *
 j)+(1:Int)) - n))),∀ (a:List Int × Unit),a=Za0 (List.getD (Zj.getD f.toNat (K.arr (3:Nat) (K.arr (3:Nat) (K.int i64))).dflt) (Int.toNat (2:Int))
 (K.arr (3:Nat) (K.int i64)).dflt) (i64.wrap (i64.wrap (i64.wrap ((2:Int)*j)+(1:Int)) - n))→∃ (h:Zsc a_2.fst a.fst),∀ (a_3:List
 Int × Unit),a_3=Zn4 a_2.fst a.fst→∃ (h:(List.replicate (3:Nat) (0:Int)).length=(3:Nat)∧a_3.fst.length=(3:Nat)),∃ (h:a_3.fst.length=(3:Nat)),post
 (a_3.fst,())
theorem Zvg (n:Int) (f:Int) (i:Int) (j:Int) (h:Z1n n f i j):Z5z  n f i j (fun r=>r=Zpf n f i j):=by
 have hh:=h
 obtain ⟨n1,n2,f0,f5,i0,i1,j0,j1⟩:=h
 have fl:(Zj.getD f.toNat (K.arr (3:Nat) (K.arr (3:Nat) (K.int i64))).dflt).length=3:=Zxj f0 f5
 have b:=Z3e f0 f5
 have t0:Z4k (Z1b (Zs f) 0) n:=⟨(b 0).mono (by decide),by omega,by omega⟩
 have w1:i64.wrap (i64.wrap (i64.wrap (2*i)+1) - n)=2*i+1 - n:=by
  rw [wi (x:=2*i) ⟨by omega,by omega⟩,wi (x:=2*i+1) ⟨by omega,by omega⟩,wi ⟨by omega,by omega⟩]
 have w2:i64.wrap (i64.wrap (i64.wrap (2*j)+1) - n)=2*j+1 - n:=by
  rw [wi (x:=2*j) ⟨by omega,by omega⟩,wi (x:=2*j+1) ⟨by omega,by omega⟩,wi ⟨by omega,by omega⟩]
 unfold Z5z
 rw [w1,w2]
 have t1:Z4k (Z1b (Zs f) 1) (2*i+1 - n):=⟨(b 1).mono (by decide),by omega,by omega⟩
 have t2:Z4k (Z1b (Zs f) 2) (2*j+1 - n):=⟨(b 2).mono (by decide),by omega,by omega⟩
 have c0:=Z59 (q:=32) (b 0) (k:=n) (by omega) (by omega)
 have c1:=Z59 (q:=32) (b 1) (k:=2*i+1 - n) (by omega) (by omega)
 have c2:=Z59 (q:=32) (b 2) (k:=2*j+1 - n) (by omega) (by omega)
 have p1:=Zn6 c0 c1
 refine ⟨⟨f0,by show f<6; omega⟩,⟨rfl,fl⟩,⟨by decide,by decide,by omega⟩,t0,?_⟩
 rintro _ rfl
 refine ⟨⟨by decide,by decide,by omega⟩,t1,?_⟩
 rintro _ rfl
 refine ⟨⟨c0.mono (by decide),c1.mono (by decide)⟩,?_⟩
 rintro _ rfl
 refine ⟨⟨by decide,by decide,by omega⟩,t2,?_⟩
 rintro _ rfl
 refine ⟨⟨p1.mono (by decide),c2.mono (by decide)⟩,?_⟩
 rintro _ rfl
 exact ⟨⟨rfl,rfl⟩,rfl,rfl⟩
def Zap:=fun (n a:Int) (post:Int × Unit→Prop)=>∃ (h:(2:Int)≠(0:Int)),post (imin (imax (i64.wrap ((i64.wrap (i64.wrap (a+n) -
 (1:Int))).tdiv (2:Int))) (0:Int)) (i64.wrap (n - (1:Int))),())
theorem Zyc (n:Int) (a:Int) (h:Zse n a):Zap  n a (fun r=>r=Zsd n a):=by
 obtain ⟨n1,n2,a1,a2⟩:=h
 have w1:i64.wrap (i64.wrap (a+n) - 1)=a+n - 1:=by
  rw [wi (x:=a+n) ⟨by omega,by omega⟩,wi ⟨by omega,by omega⟩]
 have w2:i64.wrap (n - 1)=n - 1:=wi ⟨by omega,by omega⟩
 have w3:i64.wrap (Int.tdiv (a+n - 1) 2)=Int.tdiv (a+n - 1) 2:=by
  have:(Int.tdiv (a+n - 1) 2).natAbs≤(a+n - 1).natAbs:=by rw [Int.natAbs_tdiv]; exact Nat.div_le_self _ _
  exact wi ⟨by omega,by omega⟩
 exact ⟨by decide,by rw [w1,w2,w3]; rfl⟩
end Go.Lift

namespace Go.Lift
open Go.Proofs
def Z5e:Con:=Con.nam [kWay,.int .i64] [.snap kWay] (fun x=>Z4k x.1 x.2.1) (fun x=>Za0 x.1 x.2.1)
def Za8:Cx:=⟨Zk Zn,Zm [],RbG⟩
theorem Zgg:CxOk Tryz.prog Za8:=⟨Z4 Z7,fun f c h=>by cases h⟩
theorem Zju:FnAt Tryz.prog 116 Tryz.f116.ntmps Tryz.f116.results.toList (Tryz.f116.body.getD .skip):=⟨Tryz.f116,Tryz.func116,rfl,rfl,by simp,by decide⟩
theorem Zjv (a:List Int) (k:Int) (post:(List Int) × Unit→Prop):Ze Za8 nHn Tryz.f116.ntmps Tryz.f116.results.toList (Tryz.f116.body.getD .skip) [kWay,.int .i64] [.snap kWay] (a,k,()) post=Z64  a k post:=by kernel_rfl
theorem Za9:Z5e.holds Tryz.prog RbG 116 :=
 Zx (detP Zgg Z8 nHn Zju (F:=fun x post=>Z64  x.1 x.2.1 post) (fun x post=>Zjv x.1 x.2.1 post) fun x h w=>Znj  x.1 x.2.1 h w)
def Z66:Con:=Con.nam [kWay,kWay] [.snap kWay] (fun x=>Zsc x.1 x.2.1) (fun x=>Zn4 x.1 x.2.1)
def Zbd:Cx:=⟨Zk Zn,Zm [],RbG⟩
theorem Zin:CxOk Tryz.prog Zbd:=⟨Z4 Z7,fun f c h=>by cases h⟩
theorem Zlm:FnAt Tryz.prog 84 Tryz.f84.ntmps Tryz.f84.results.toList (Tryz.f84.body.getD .skip):=⟨Tryz.f84,Tryz.func84,rfl,rfl,by simp,by decide⟩
theorem Zln (a:List Int) (b:List Int) (post:(List Int) × Unit→Prop):Ze Zbd nHn Tryz.f84.ntmps Tryz.f84.results.toList (Tryz.f84.body.getD .skip) [kWay,kWay] [.snap kWay] (a,b,()) post=Z6s  a b post:=by kernel_rfl
theorem Zbe:Z66.holds Tryz.prog RbG 84 :=
 Zx (detP Zin Z8 nHn Zlm (F:=fun x post=>Z6s  x.1 x.2.1 post) (fun x post=>Zln x.1 x.2.1 post) fun x h w=>Zpi  x.1 x.2.1 h w)
def Zd5:Con:=Con.nam [kWay,kWay] [.snap (.int .i64)] (fun x=>WDot x.1 x.2.1) (fun x=>dotR x.1 x.2.1)
def Zd6:Cx:=⟨Zk Zn,Zm [],RbG⟩
theorem Zjw:CxOk Tryz.prog Zd6:=⟨Z4 Z7,fun f c h=>by cases h⟩
theorem Znl:FnAt Tryz.prog 86 Tryz.f86.ntmps Tryz.f86.results.toList (Tryz.f86.body.getD .skip):=⟨Tryz.f86,Tryz.func86,rfl,rfl,by simp,by decide⟩
theorem Znm (a:List Int) (b:List Int) (post:Int × Unit→Prop):Ze Zd6 nHn Tryz.f86.ntmps Tryz.f86.results.toList (Tryz.f86.body.getD .skip) [kWay,kWay] [.snap (.int .i64)] (a,b,()) post=Z7o  a b post:=by kernel_rfl
theorem Zpj:Zd5.holds Tryz.prog RbG 86 :=
 Zx (detP Zjw Z8 nHn Znl (F:=fun x post=>Z7o  x.1 x.2.1 post) (fun x post=>Znm x.1 x.2.1 post) fun x h w=>Zsv  x.1 x.2.1 h w)
def Zaa:Con:=Con.nam [Z10z,.int .i64] [.snap kWay] (fun x=>WOut x.1 x.2.1) (fun x=>outR x.1 x.2.1)
def Zab:Cx:=⟨Zk Zn,Zm [(116,Z5e)],RbG⟩
theorem Zgh:CxOk Tryz.prog Zab:=⟨Z4 Z7,Z9 ⟨Za9,trivial⟩⟩
theorem Zjx:FnAt Tryz.prog 82 Tryz.f82.ntmps Tryz.f82.results.toList (Tryz.f82.body.getD .skip):=⟨Tryz.f82,Tryz.func82,rfl,rfl,by simp,by decide⟩
theorem Zjy (f:List (List Int)) (s:Int) (post:(List Int) × Unit→Prop):Ze Zab nHn Tryz.f82.ntmps Tryz.f82.results.toList (Tryz.f82.body.getD .skip) [Z10z,.int .i64] [.snap kWay] (f,s,()) post=Z65  f s post:=by kernel_rfl
theorem Zlo:Zaa.holds Tryz.prog RbG 82 :=
 Zx (detP Zgh Z8 nHn Zjx (F:=fun x post=>Z65  x.1 x.2.1 post) (fun x post=>Zjy x.1 x.2.1 post) fun x h w=>Znk  x.1 x.2.1 h w)
def Zes:Con:=Con.nam [kWay] [.snap (.int .i64)] (fun _=>True) (fun x=>Zv0 x.1)
def Zd7:Hn:={ loops:=Z2i [(2,{ ls:=[(.slot 4,.data (.int .i64))],os:=[] })],joins:=fun _=>none,named:=true }
def Zet:Cx:=⟨Zk Zn,Zm [],RbG⟩
theorem Zlp:CxOk Tryz.prog Zet:=⟨Z4 Z7,fun f c h=>by cases h⟩
theorem Zpk:FnAt Tryz.prog 81 Tryz.f81.ntmps Tryz.f81.results.toList (Tryz.f81.body.getD .skip):=⟨Tryz.f81,Tryz.func81,rfl,rfl,by simp,by decide⟩
theorem Zpl (c:List Int) (post:Int × Unit→Prop):Ze Zet Zd7 Tryz.f81.ntmps Tryz.f81.results.toList (Tryz.f81.body.getD .skip) [kWay] [.snap (.int .i64)] (c,()) post=Z8o 109 c post:=by kernel_rfl
theorem Zsw:Zes.holds Tryz.prog RbG 81 :=
 Zx (detP Zlp Z8 Zd7 Zpk (F:=fun x post=>Z8o 109 x.1 post) (fun x post=>Zpl x.1 post) fun x _ w=>Zvf 109 x.1 w)
def Zj8:Con:=Con.nam [.int .i64,.int .i64,.int .i64,.int .i64] [.snap (.int .i64)] (fun x=>IIII x.1 x.2.1 x.2.2.1 x.2.2.2.1) (fun x=>Zn5 x.1 x.2.1 x.2.2.1 x.2.2.2.1)
def Zgi:Hn:=nHn
def Zj9:Cx:=⟨Zk Zn,Zm [(97,Zao)],RbG⟩
theorem Zpm:CxOk Tryz.prog Zj9:=⟨Z4 Z7,Z9 ⟨Zj7,trivial⟩⟩
theorem Zvh:FnAt Tryz.prog 80 Tryz.f80.ntmps Tryz.f80.results.toList (Tryz.f80.body.getD .skip):=⟨Tryz.f80,Tryz.func80,rfl,rfl,by simp,by decide⟩
theorem Zvi (n:Int) (f:Int) (i:Int) (j:Int) (post:Int × Unit→Prop):Ze Zj9 Zgi Tryz.f80.ntmps Tryz.f80.results.toList (Tryz.f80.body.getD .skip) [.int .i64,.int .i64,.int .i64,.int .i64] [.snap (.int .i64)] (n,f,i,j,()) post=Zd4  n f i j post:=by kernel_rfl
theorem Zyd:Zj8.holds Tryz.prog RbG 80 :=
 Zx (detP Zpm Z8 Zgi Zvh (F:=fun x post=>Zd4  x.1 x.2.1 x.2.2.1 x.2.2.2.1 post) (fun x post=>Zvi x.1 x.2.1 x.2.2.1 x.2.2.2.1 post) fun x h _=>Z11i  x.1 x.2.1 x.2.2.1 x.2.2.2.1 h)
def Zeu:Con:=Con.nam [.int .i64,.int .i64,.int .i64,.int .i64] [.snap kWay] (fun x=>Z1n x.1 x.2.1 x.2.2.1 x.2.2.2.1) (fun x=>Zpf x.1 x.2.1 x.2.2.1 x.2.2.2.1)
def Zev:Cx:=⟨Zk Zn,Zm [(116,Z5e),(84,Z66)],RbG⟩
theorem Zlq:CxOk Tryz.prog Zev:=⟨Z4 Z7,Z9 ⟨Za9,Zbe,trivial⟩⟩
theorem Zpn:FnAt Tryz.prog 83 Tryz.f83.ntmps Tryz.f83.results.toList (Tryz.f83.body.getD .skip):=⟨Tryz.f83,Tryz.func83,rfl,rfl,by simp,by decide⟩
theorem Zpo (n:Int) (f:Int) (i:Int) (j:Int) (post:(List Int) × Unit→Prop):Ze Zev nHn Tryz.f83.ntmps Tryz.f83.results.toList (Tryz.f83.body.getD .skip) [.int .i64,.int .i64,.int .i64,.int .i64] [.snap kWay] (n,f,i,j,()) post=Z5z  n f i j post:=by kernel_rfl
theorem Zsx:Zeu.holds Tryz.prog RbG 83 :=
 Zx (detP Zlq Z8 nHn Zpn (F:=fun x post=>Z5z  x.1 x.2.1 x.2.2.1 x.2.2.2.1 post) (fun x post=>Zpo x.1 x.2.1 x.2.2.1 x.2.2.2.1 post) fun x h _=>Zvg  x.1 x.2.1 x.2.2.1 x.2.2.2.1 h)
def Zgj:Con:=Con.nam [.int .i64,.int .i64] [.snap (.int .i64)] (fun x=>Zse x.1 x.2.1) (fun x=>Zsd x.1 x.2.1)
def Zgk:Cx:=⟨Zk Zn,Zm [],RbG⟩
theorem Znn:CxOk Tryz.prog Zgk:=⟨Z4 Z7,fun f c h=>by cases h⟩
theorem Zsy:FnAt Tryz.prog 85 Tryz.f85.ntmps Tryz.f85.results.toList (Tryz.f85.body.getD .skip):=⟨Tryz.f85,Tryz.func85,rfl,rfl,by simp,by decide⟩
theorem Zsz (n:Int) (a:Int) (post:Int × Unit→Prop):Ze Zgk nHn Tryz.f85.ntmps Tryz.f85.results.toList (Tryz.f85.body.getD .skip) [.int .i64,.int .i64] [.snap (.int .i64)] (n,a,()) post=Zap  n a post:=by kernel_rfl
theorem Zvj:Zgj.holds Tryz.prog RbG 85 :=
 Zx (detP Znn Z8 nHn Zsy (F:=fun x post=>Zap  x.1 x.2.1 post) (fun x post=>Zsz x.1 x.2.1 post) fun x h _=>Zyc  x.1 x.2.1 h)
end Go.Lift

namespace Go.Lift
open Go.Proofs
def Z52:Con:=Con.nam [.int .i64,.int .i64,.int .i64] [.snap (.int .i64),.snap (.int .i64)] (fun x=>III x.1 x.2.1 x.2.2.1) (fun x=>Z2c x.1 x.2.1 x.2.2.1)
def Zd8:Hn:={ loops:=Z2i [(13,{ ls:=[(.slot 98,.data (.int .i64))],os:=[] })],joins:=fun _=>none,named:=true }
def Zew:Cx:=⟨Zk Zn,Zm [(79,Z5y),(80,Zj8),(82,Zaa),(81,Zes),(83,Zeu),(84,Z66),(86,Zd5),(85,Zgj)],RbG⟩
theorem Zlr:CxOk Tryz.prog Zew:=⟨Z4 Z7,Z9 ⟨Z8m,Zyd,Zlo,Zsw,Zsx,Zbe,Zpj,Zvj,trivial⟩⟩
theorem Zpp:FnAt Tryz.prog 35 Tryz.f35.ntmps Tryz.f35.results.toList (Tryz.f35.body.getD .skip):=⟨Tryz.f35,Tryz.func35,rfl,rfl,by simp,by decide⟩
theorem Zpq (n:Int) (c:Int) (o:Int) (post:Int × Int × Unit→Prop):Ze Zew Zd8 Tryz.f35.ntmps Tryz.f35.results.toList (Tryz.f35.body.getD .skip) [.int .i64,.int .i64,.int .i64] [.snap (.int .i64),.snap (.int .i64)] (n,c,o,()) post=Z8n 105 111 109 n c o post:=by kernel_rfl
theorem Z7p:Z52.holds Tryz.prog RbG 35 :=
 Zx (detP Zlr Z8 Zd8 Zpp (F:=fun x post=>Z8n 105 111 109 x.1 x.2.1 x.2.2.1 post) (fun x post=>Zpq x.1 x.2.1 x.2.2.1 post) fun x h _=>Zve 105 111 109 x.1 x.2.1 x.2.2.1 h)
end Go.Lift

namespace Go.Lift
def Z8p:=fun (n c:Int) (post:(Nat × Nat × Nat) × Bool × Unit→Prop)=>∃ (h:II n c),Br (!(Z1 n c).snd.snd.snd.fst) (post (((0:Nat),(0:Nat),(0 :
 Nat)),false,())) (∃ (h:Zcy (i64.wrap (i64.wrap (i64.wrap ((2:Int)*(Z1 n c).snd.fst)+(1:Int)) - n)) n),∃ (h:Zcy
 (i64.wrap (i64.wrap (i64.wrap ((2:Int)*(Z1 n c).snd.snd.fst)+(1:Int)) - n)) n),∃ (h:Zs6 (Z1 n c).fst (Z29 (i64.wrap
 (i64.wrap (i64.wrap ((2:Int)*(Z1 n c).snd.fst)+(1:Int)) - n)) n).fst (Z29 (i64.wrap (i64.wrap (i64.wrap ((2:Int) *
 (Z1 n c).snd.snd.fst)+(1:Int)) - n)) n).fst),post (((Z9y (Z1 n c).fst (Z29 (i64.wrap (i64.wrap (i64.wrap ((2:Int)*(Z1 n
 c).snd.fst)+(1:Int)) - n)) n).fst (Z29 (i64.wrap (i64.wrap (i64.wrap ((2:Int)*(Z1 n c).snd.snd.fst)+(1:Int)) - n)) n).fst).fst.fst,
 (Z9y (Z1 n c).fst (Z29 (i64.wrap (i64.wrap (i64.wrap ((2:Int)*(Z1 n c).snd.fst)+(1:Int)) - n)) n).fst (Z29 (i64.wrap
 (i64.wrap (i64.wrap ((2:Int)*(Z1 n c).snd.snd.fst)+(1:Int)) - n)) n).fst).fst.snd.fst,(Z9y (Z1 n c).fst (Z29 (i64.wrap
 (i64.wrap (i64.wrap ((2:Int)*(Z1 n c).snd.fst)+(1:Int)) - n)) n).fst (Z29 (i64.wrap (i64.wrap (i64.wrap ((2:Int) *
 (Z1 n c).snd.snd.fst)+(1:Int)) - n)) n).fst).fst.snd.snd),true,()))
theorem Zvk (n:Int) (c:Int) (h:II n c):Z8p  n c (fun r=>r=Z5t n c):=by
 refine ⟨h,?_⟩
 by_cases ok:Zh n c=true
 ·rw [Z111 ok]
  obtain ⟨n1,n2,f0,f5,i0,i1,j0,j1⟩:=Za3 ok
  dsimp only
  refine Br.intro (fun e=>absurd e (by decide)) fun _=>?_
  have w1:i64.wrap (i64.wrap (i64.wrap (2*(c % n))+1) - n)=2*(c % n)+1 - n:=by
   rw [wi (x:=2*(c % n)) ⟨by omega,by omega⟩,wi (x:=2*(c % n)+1) ⟨by omega,by omega⟩,wi ⟨by omega,by omega⟩]
  have w2:i64.wrap (i64.wrap (i64.wrap (2*(c / n % n))+1) - n)=2*(c / n % n)+1 - n:=by
   rw [wi (x:=2*(c / n % n)) ⟨by omega,by omega⟩,wi (x:=2*(c / n % n)+1) ⟨by omega,by omega⟩,wi ⟨by omega,by omega⟩]
  rw [w1,w2]
  refine ⟨⟨⟨by omega,by omega⟩,n1,h.1⟩,⟨⟨by omega,by omega⟩,n1,h.1⟩,⟨f0,f5,Z85 _ _,Z85 _ _⟩,?_⟩
  unfold Z5t; rw [if_pos ok]; rfl
 ·rw [Z112 ok]
  refine Br.intro (fun _=>?_) fun e=>absurd e (by decide)
  unfold Z5t; rw [if_neg ok]
def Z8q:=fun (n c o:Int) (post:Nat × Unit→Prop)=>∃ (h:II n c),∃ (h:(List.replicate (4:Nat) ((K.flt f64).pair ((K.flt f64).pair
 (K.flt f64))).dflt).length=(4:Nat)∧(Zo n c).fst.length=(4:Nat)),Br (!(Zo n c).snd.fst) (post ((0:Nat),())) (∀ (a:Bool),a=decide (o<(0
 : Int))→Br a (post ((0:Nat),())) (∀ (a:Bool),a=decide (o > (3:Int))→Br a (post ((0:Nat),())) (∃ (h:(0:Int)≤o∧o<(↑(4:Nat):Int)),∃ (h :
 (List.replicate (2:Nat) (0:Int)).length=(2:Nat)∧List.length ([[(1:Int),(2:Int)],[(3:Int),(2:Int)],[(0:Int),(3:Int)],[(0:Int),(1:Int)]].getD
 o.toNat (K.arr (2:Nat) (K.int i64)).dflt)=(2:Nat)),∃ (h:(0:Int)≤(0:Int)∧(0:Int)<(↑(2:Nat):Int)∧(2:Nat)≤List.length ([[(1:Int),(2:Int)],
 [(3:Int),(2:Int)],[(0:Int),(3:Int)],[(0:Int),(1:Int)]].getD o.toNat (K.arr (2:Nat) (K.int i64)).dflt)),∃ (h:(0:Int)≤List.getD ([[(1:Int),(2 :
 Int)],[(3:Int),(2:Int)],[(0:Int),(3:Int)],[(0:Int),(1:Int)]].getD o.toNat (K.arr (2:Nat) (K.int i64)).dflt) (Int.toNat (0:Int)) (0:Int)∧List.getD
 ([[(1:Int),(2:Int)],[(3:Int),(2:Int)],[(0:Int),(3:Int)],[(0:Int),(1:Int)]].getD o.toNat (K.arr (2:Nat) (K.int i64)).dflt) (Int.toNat (0:Int)) (0
 : Int)<(↑(4:Nat):Int)∧(4:Nat)≤(Zo n c).fst.length),∃ (h:(0:Int)≤(1:Int)∧(1:Int)<(↑(2:Nat):Int)∧(2:Nat)≤List.length ([[(1:Int),(2 :
 Int)],[(3:Int),(2:Int)],[(0:Int),(3:Int)],[(0:Int),(1:Int)]].getD o.toNat (K.arr (2:Nat) (K.int i64)).dflt)),∃ (h:(0:Int)≤List.getD ([[(1 :
 Int),(2:Int)],[(3:Int),(2:Int)],[(0:Int),(3:Int)],[(0:Int),(1:Int)]].getD o.toNat (K.arr (2:Nat) (K.int i64)).dflt) (Int.toNat (1:Int)) (0:Int)
 ∧ List.getD ([[(1:Int),(2:Int)],[(3:Int),(2:Int)],[(0:Int),(3:Int)],[(0:Int),(1:Int)]].getD o.toNat (K.arr (2:Nat) (K.int i64)).dflt) (Int.toNat
 (1:Int)) (0:Int)<(↑(4:Nat):Int)∧(4:Nat)≤(Zo n c).fst.length),∃ (h:WV2 ((Zo n c).fst.getD (Int.toNat (List.getD ([[(1:Int),(2:Int)],[(3:Int),
 (2:Int)],[(0:Int),(3:Int)],[(0:Int),(1:Int)]].getD o.toNat (K.arr (2:Nat) (K.int i64)).dflt) (Int.toNat (0:Int)) (0:Int))) ((K.flt
 f64).pair ((K.flt f64).pair (K.flt f64))).dflt) ((Zo n c).fst.getD (Int.toNat (List.getD ([[(1:Int),(2:Int)],[(3:Int),(2 :
 Int)],[(0:Int),(3:Int)],[(0:Int),(1:Int)]].getD o.toNat (K.arr (2:Nat) (K.int i64)).dflt) (Int.toNat (1:Int)) (0:Int))) ((K.flt f64).pair
 ((K.flt f64).pair (K.flt f64))).dflt)),post ((gapR ((Zo n c).fst.getD (Int.toNat (List.getD ([[(1:Int),(2:Int)],[(3:Int),(2:Int)],[(0
 : Int),(3:Int)],[(0:Int),(1:Int)]].getD o.toNat (K.arr (2:Nat) (K.int i64)).dflt) (Int.toNat (0:Int)) (0:Int))) ((K.flt f64).pair ((K.flt
 f64).pair (K.flt f64))).dflt) ((Zo n c).fst.getD (Int.toNat (List.getD ([[(1:Int),(2:Int)],[(3:Int),(2:Int)],[(0:Int),(3:Int)],
 [(0:Int),(1:Int)]].getD o.toNat (K.arr (2:Nat) (K.int i64)).dflt) (Int.toNat (1:Int)) (0:Int))) ((K.flt f64).pair ((K.flt f64).pair
 (K.flt f64))).dflt)).fst,()))))
theorem Zvl (n:Int) (c:Int) (o:Int) (h:III n c o):Z8q  n c o (fun r=>r=Zd0 n c o):=by
 have cl:=Zot n c
 refine ⟨⟨h.1,h.2.1⟩,⟨rfl,cl⟩,?_⟩
 have no:Zr n c o=false→((0:Nat),())=Zd0 n c o:=fun q=>congrArg r1 (by unfold Zcd; rw [if_neg (by rw [q]; decide)])
 rw [Zi9]
 refine Br.intro (fun e=>no ?_) fun e=>?_
 ·unfold Zr; rw [show Zh n c=false by simpa using e]; rfl
 have ok:Zh n c=true:=by simpa using e
 rintro _ rfl
 refine Br.intro (fun e=>no ?_) fun e=>?_
 ·have e:=of_decide_eq_true e
  unfold Zr; rw [decide_eq_false (p:=0≤o) (by omega)]; simp
 have o0:=of_decide_eq_false e
 rintro _ rfl
 refine Br.intro (fun e=>no ?_) fun e=>?_
 ·have e:=of_decide_eq_true e
  unfold Zr; rw [decide_eq_false (p:=o<4) (by omega)]; simp
 have o4:=of_decide_eq_false e
 have o0:0≤o:=by omega
 have o4:o<4:=by omega
 have okb:Zr n c o=true:=by unfold Zr; rw [ok,decide_eq_true o0,decide_eq_true o4]; rfl
 have hc:∀ i:Int,0≤i→i≤3→(Zo n c).1.getD i.toNat ((K.flt f64).pair ((K.flt f64).pair (K.flt f64))).dflt=Zbz n c i:=fun i a b=>Z189 ok a b _
 have c0:=hc 0 (by decide) (by decide)
 have c1:=hc 1 (by decide) (by decide)
 have c2:=hc 2 (by decide) (by decide)
 have c3:=hc 3 (by decide) (by decide)
 have fin:∀ A B:Nat × Nat × Nat,A=Zbz n c (endA o)→B=Zbz n c (endB o)→(gapQ A B,())=Zd0 n c o:=by
  intro A B hA hB
  rw [hA,hB]; exact congrArg r1 (by unfold Zcd; rw [if_pos okb])
 have wA:∀ i,WV (Zbz n c i):=Z1bg n c
 generalize hQ:(Zo n c).fst=Q at *
 rcases Z18 o0 o4 with rfl | rfl | rfl | rfl
 ·exact ⟨⟨by decide,by decide⟩,⟨rfl,rfl⟩,⟨by decide,by decide,by decide⟩,⟨by decide,by decide,Nat.le_of_eq cl.symm⟩,⟨by decide,by decide,by decide⟩,⟨by decide,by decide,Nat.le_of_eq cl.symm⟩,⟨c1 ▸ wA 1,c2 ▸ wA 2⟩,fin _ _ c1 c2⟩
 ·exact ⟨⟨by decide,by decide⟩,⟨rfl,rfl⟩,⟨by decide,by decide,by decide⟩,⟨by decide,by decide,Nat.le_of_eq cl.symm⟩,⟨by decide,by decide,by decide⟩,⟨by decide,by decide,Nat.le_of_eq cl.symm⟩,⟨c3 ▸ wA 3,c2 ▸ wA 2⟩,fin _ _ c3 c2⟩
 ·exact ⟨⟨by decide,by decide⟩,⟨rfl,rfl⟩,⟨by decide,by decide,by decide⟩,⟨by decide,by decide,Nat.le_of_eq cl.symm⟩,⟨by decide,by decide,by decide⟩,⟨by decide,by decide,Nat.le_of_eq cl.symm⟩,⟨c0 ▸ wA 0,c3 ▸ wA 3⟩,fin _ _ c0 c3⟩
 ·exact ⟨⟨by decide,by decide⟩,⟨rfl,rfl⟩,⟨by decide,by decide,by decide⟩,⟨by decide,by decide,Nat.le_of_eq cl.symm⟩,⟨by decide,by decide,by decide⟩,⟨by decide,by decide,Nat.le_of_eq cl.symm⟩,⟨c0 ▸ wA 0,c1 ▸ wA 1⟩,fin _ _ c0 c1⟩
def Zfs:=fun (n c o:Int) (post:Nat × Unit→Prop)=>∃ (h:III n c o),∀ (a:Int × Int × Unit),a=Z2c n c o→∃ (h:II n c),∀ (a_1:(Nat × Nat × Nat) × Bool
 × Unit),a_1=Z5t n c→∃ (h:II n a.fst),∀ (a_2:(Nat × Nat × Nat) × Bool × Unit),a_2=Z5t n a.fst→Br (!a_1.snd.fst) (post ((0:Nat),())) (Br (!a_2.snd.fst)
 (post ((0:Nat),())) (∃ (h:WV2 (a_1.fst.fst,a_1.fst.snd.fst,a_1.fst.snd.snd) (a_2.fst.fst,a_2.fst.snd.fst,a_2.fst.snd.snd)),post ((gapR (a_1.fst.fst,a_1.fst.snd.fst,
 a_1.fst.snd.snd) (a_2.fst.fst,a_2.fst.snd.fst,a_2.fst.snd.snd)).fst,())))
theorem Z12y (n:Int) (c:Int) (o:Int) (h:III n c o):Zfs  n c o (fun r=>r=Z15e n c o):=by
 have br:=Zsi n c o
 refine ⟨h,?_⟩
 rintro ⟨b,q,⟨⟩⟩ hb
 have eb:b=(Z3 n c o).1:=congrArg Prod.fst hb
 rw [← eb] at br
 refine ⟨⟨h.1,h.2.1⟩,?_⟩
 rintro ⟨⟨A1,A2,A3⟩,p,⟨⟩⟩ hA
 refine ⟨⟨h.1,by omega,by omega⟩,?_⟩
 rintro ⟨⟨B1,B2,B3⟩,r,⟨⟩⟩ hB
 have hA:((A1,A2,A3),p,())=Z5t n c:=hA
 have hB:((B1,B2,B3),r,())=Z5t n b:=hB
 have key:∀ z,Z5t n z=if Zh n z then (Zgc n z,true,()) else ((0,0,0),false,()):=fun z=>rfl
 have bt:∀ {z:Bool},z=true→¬ (!z)=true:=fun {z} e=>by rw [e]; decide
 have bf:∀ {z:Bool},z=false→¬ (!z)=false:=fun {z} e=>by rw [e]; decide
 by_cases o1:Zh n c=true
 ·rw [key,if_pos o1] at hA
  obtain ⟨eA,e1⟩:=Prod.mk.inj hA
  have ep:p=true:=congrArg Prod.fst e1
  refine Br.intro (fun e=>absurd e (bt ep)) fun _=>?_
  by_cases o2:Zh n b=true
  ·rw [key,if_pos o2] at hB
   obtain ⟨eB,e2⟩:=Prod.mk.inj hB
   have er:r=true:=congrArg Prod.fst e2
   refine Br.intro (fun e=>absurd e (bt er)) fun _=>?_
   have hw:WV2 (A1,A2,A3) (B1,B2,B3):=⟨by rw [eA]; exact Zxl _ _,by rw [eB]; exact Zxl _ _⟩
   have hg:gapQ (A1,A2,A3) (B1,B2,B3)=gapG n c o:=by
    rw [eA,eB]; unfold gapG; rw [← eb,o1,o2,if_pos (by decide)]
   exact ⟨hw,congrArg r1 hg⟩
  ·rw [key,if_neg o2] at hB
   obtain ⟨eB,e2⟩:=Prod.mk.inj hB
   have er:r=false:=congrArg Prod.fst e2
   refine Br.intro (fun _=>congrArg r1 ?_) fun e=>absurd e (bf er)
   unfold gapG; rw [← eb,o1,show Zh n b=false by simpa using o2]; rfl
 ·rw [key,if_neg o1] at hA
  obtain ⟨eA,e1⟩:=Prod.mk.inj hA
  have ep:p=false:=congrArg Prod.fst e1
  refine Br.intro (fun _=>congrArg r1 ?_) fun e=>absurd e (bf ep)
  unfold gapG; rw [show Zh n c=false by simpa using o1]; rfl
end Go.Lift

namespace Go.Lift
def Zaq:=fun (a b:Int) (post:Nat × Unit→Prop)=>∀ (a_1:Nat),FRes f64 (f64.format.div (f64.nearest a)
 (f64.nearest b)) a_1→post (a_1,())
theorem Zye (a:Int) (b:Int) (h:Zcy a b):Zaq  a b (fun r=>r=Z29 a b):=by
 intro r hr
 exact congrArg r1 (Z13w h.1 h.2.1 h.2.2 hr)
def Zar:=fun (ty72 ty98:Nat) (f:Int) (s t:Nat) (post:(Nat × Nat × Nat) × Unit→Prop)=>∃ (post_1:Unit→List Nat × Unit→Prop),(∃ (h:(0:Int)≤(0 :
 Int)∧(0:Int)<(↑(3:Nat):Int)),∃ (h:(0:Int)≤f∧f<(↑(6:Nat):Int)),∃ (h:(0:Int)≤(0:Int)∧(0:Int)<(↑(3:Nat):Int)),∃ (h:(0:Int)≤(0 :
 Int)∧(0:Int)<(↑(3:Nat):Int)),Br (List.getD (List.getD (Zj.getD f.toNat (K.arr (3:Nat) (K.arr (3:Nat) (K.int i64))).dflt) (Int.toNat (0:Int)) (K.arr
 (3:Nat) (K.int i64)).dflt) (Int.toNat (0:Int)) (0:Int)==(1:Int)) (∃ (h:True),∃ (h:(0:Int)≤(0:Int)∧(0:Int)<(↑(3:Nat):Int)∧(3:Nat) ≤
 (List.replicate (3:Nat) (0:Nat)).length),HIs [HObj.box Md.rw ty72 [SV.val (Go.Value.float f64 (0:Nat)),SV.val (Go.Value.float f64 (0:Nat)),
 SV.val (Go.Value.float f64 (0:Nat))],HObj.row Md.rw ty98 (K.flt f64) ((List.replicate (3:Nat) (0:Nat)).set (Int.toNat (0:Int)) (Zg
 ([(4607182418800017408:Nat),s,t].getD (Int.toNat (0:Int)) (0:Nat))).fst)] [HObj.box Md.rw ty72 [SV.val (Go.Value.float f64 (0:Nat)),SV.val (Go.Value.float
 f64 (0:Nat)),SV.val (Go.Value.float f64 (0:Nat))],HObj.row Md.rw ty98 (K.flt f64) ((List.replicate (3:Nat) (0:Nat)).set (Int.toNat
 (0:Int)) (Zg ([(4607182418800017408:Nat),s,t].getD (Int.toNat (0:Int)) (0:Nat))).fst)]∧post_1 () ((List.replicate (3:Nat) (0:Nat)).set (Int.toNat (0:Int))
 (Zg ([(4607182418800017408:Nat),s,t].getD (Int.toNat (0:Int)) (0:Nat))).fst,())) (Br (List.getD (List.getD (Zj.getD f.toNat (K.arr (3:Nat) (K.arr (3:Nat)
 (K.int i64))).dflt) (Int.toNat (0:Int)) (K.arr (3:Nat) (K.int i64)).dflt) (Int.toNat (0:Int)) (0:Int)==(-1:Int)) (∃ (h:True),∃ (h:(0:Int)≤(0 :
 Int)∧(0:Int)<(↑(3:Nat):Int)∧(3:Nat)≤(List.replicate (3:Nat) (0:Nat)).length),HIs [HObj.box Md.rw ty72 [SV.val (Go.Value.float f64 (0:Nat)),
 SV.val (Go.Value.float f64 (0:Nat)),SV.val (Go.Value.float f64 (0:Nat))],HObj.row Md.rw ty98 (K.flt f64) ((List.replicate (3:Nat) (0
 : Nat)).set (Int.toNat (0:Int)) (Zg (Go.Op.negFloat f64 ([(4607182418800017408:Nat),s,t].getD (Int.toNat (0:Int)) (0:Nat)))).fst)] [HObj.box Md.rw ty72
 [SV.val (Go.Value.float f64 (0:Nat)),SV.val (Go.Value.float f64 (0:Nat)),SV.val (Go.Value.float f64 (0:Nat))],HObj.row Md.rw ty98
 (K.flt f64) ((List.replicate (3:Nat) (0:Nat)).set (Int.toNat (0:Int)) (Zg (Go.Op.negFloat f64 ([(4607182418800017408:Nat),s,t].getD
 (Int.toNat (0:Int)) (0:Nat)))).fst)]∧post_1 () ((List.replicate (3:Nat) (0:Nat)).set (Int.toNat (0:Int)) (Zg (Go.Op.negFloat f64
 ([(4607182418800017408:Nat),s,t].getD (Int.toNat (0:Int)) (0:Nat)))).fst,())) (HIs [HObj.box Md.rw ty72 [SV.val (Go.Value.float f64 (0:Nat)),SV.val
 (Go.Value.float f64 (0:Nat)),SV.val (Go.Value.float f64 (0:Nat))],HObj.row Md.rw ty98 (K.flt f64) (List.replicate (3:Nat) (0 :
 Nat))] [HObj.box Md.rw ty72 [SV.val (Go.Value.float f64 (0:Nat)),SV.val (Go.Value.float f64 (0:Nat)),SV.val (Go.Value.float f64 (0 :
 Nat))],HObj.row Md.rw ty98 (K.flt f64) (List.replicate (3:Nat) (0:Nat))]∧post_1 () (List.replicate (3:Nat) (0:Nat),()))))∧∀ (x:Unit) (y:List Nat ×
 Unit),post_1 x y→∃ (post_2:Unit→List Nat × Unit→Prop),(∃ (h:(0:Int)≤i64.wrap ((0:Int)+(1:Int))∧i64.wrap ((0:Int)+(1:Int))<(↑(3 :
 Nat):Int)),∃ (h:(0:Int)≤f∧f<(↑(6:Nat):Int)),∃ (h:(0:Int)≤i64.wrap ((0:Int)+(1:Int))∧i64.wrap ((0:Int)+(1:Int))<(↑(3:Nat)
 : Int)),∃ (h:(0:Int)≤(0:Int)∧(0:Int)<(↑(3:Nat):Int)),Br (List.getD (List.getD (Zj.getD f.toNat (K.arr (3:Nat) (K.arr (3:Nat) (K.int
 i64))).dflt) (i64.wrap ((0:Int)+(1:Int))).toNat (K.arr (3:Nat) (K.int i64)).dflt) (Int.toNat (0:Int)) (0:Int)==(1:Int)) (∃ (h:True),∃ (h
 : (0:Int)≤(0:Int)∧(0:Int)<(↑(3:Nat):Int)∧(3:Nat)≤y.fst.length),HIs [HObj.box Md.rw ty72 [SV.val (Go.Value.float f64 (0:Nat)),SV.val
 (Go.Value.float f64 (0:Nat)),SV.val (Go.Value.float f64 (0:Nat))],HObj.row Md.rw ty98 (K.flt f64) (y.fst.set (Int.toNat (0:Int))
 (Zg ([(4607182418800017408:Nat),s,t].getD (i64.wrap ((0:Int)+(1:Int))).toNat (0:Nat))).fst)] [HObj.box Md.rw ty72 [SV.val (Go.Value.float f64
 (0:Nat)),SV.val (Go.Value.float f64 (0:Nat)),SV.val (Go.Value.float f64 (0:Nat))],HObj.row Md.rw ty98 (K.flt f64) (y.fst.set
 (Int.toNat (0:Int)) (Zg ([(4607182418800017408:Nat),s,t].getD (i64.wrap ((0:Int)+(1:Int))).toNat (0:Nat))).fst)]∧post_2 () (y.fst.set (Int.toNat (0 :
 Int)) (Zg ([(4607182418800017408:Nat),s,t].getD (i64.wrap ((0:Int)+(1:Int))).toNat (0:Nat))).fst,())) (Br (List.getD (List.getD (Zj.getD f.toNat
 (K.arr (3:Nat) (K.arr (3:Nat) (K.int i64))).dflt) (i64.wrap ((0:Int)+(1:Int))).toNat (K.arr (3:Nat) (K.int i64)).dflt) (Int.toNat (0:Int)) (0
 : Int)==(-1:Int)) (∃ (h:True),∃ (h:(0:Int)≤(0:Int)∧(0:Int)<(↑(3:Nat):Int)∧(3:Nat)≤y.fst.length),HIs [HObj.box Md.rw ty72 [SV.val (Go.Value.float
 f64 (0:Nat)),SV.val (Go.Value.float f64 (0:Nat)),SV.val (Go.Value.float f64 (0:Nat))],HObj.row Md.rw ty98 (K.flt f64)
 (y.fst.set (Int.toNat (0:Int)) (Zg (Go.Op.negFloat f64 ([(4607182418800017408:Nat),s,t].getD (i64.wrap ((0:Int)+(1:Int))).toNat (0 :
 Nat)))).fst)] [HObj.box Md.rw ty72 [SV.val (Go.Value.float f64 (0:Nat)),SV.val (Go.Value.float f64 (0:Nat)),SV.val (Go.Value.float f64
 (0:Nat))],HObj.row Md.rw ty98 (K.flt f64) (y.fst.set (Int.toNat (0:Int)) (Zg (Go.Op.negFloat f64 ([(4607182418800017408:Nat),s,t].getD
 (i64.wrap ((0:Int)+(1:Int))).toNat (0:Nat)))).fst)]∧post_2 () (y.fst.set (Int.toNat (0:Int)) (Zg (Go.Op.negFloat f64 ([(4607182418800017408 :
 Nat),s,t].getD (i64.wrap ((0:Int)+(1:Int))).toNat (0:Nat)))).fst,())) (HIs [HObj.box Md.rw ty72 [SV.val (Go.Value.float f64 (0:Nat)),SV.val
 (Go.Value.float f64 (0:Nat)),SV.val (Go.Value.float f64 (0:Nat))],HObj.row Md.rw ty98 (K.flt f64) y.fst] [HObj.box Md.rw ty72 [SV.val
 (Go.Value.float f64 (0:Nat)),SV.val (Go.Value.float f64 (0:Nat)),SV.val (Go.Value.float f64 (0:Nat))],HObj.row Md.rw ty98 (K.flt
 f64) y.fst]∧post_2 () (y.fst,()))))∧∀ (x:Unit) (y:List Nat × Unit),post_2 x y→∃ (post_3:Unit→List Nat × Unit→Prop),(∃ (h:(0:Int) ≤
 i64.wrap (i64.wrap ((0:Int)+(1:Int))+(1:Int))∧i64.wrap (i64.wrap ((0:Int)+(1:Int))+(1:Int))<(↑(3:Nat):Int)),∃ (h:(0
 : Int)≤f∧f<(↑(6:Nat):Int)),∃ (h:(0:Int)≤i64.wrap (i64.wrap ((0:Int)+(1:Int))+(1:Int))∧i64.wrap (i64.wrap ((0:Int) +
 (1:Int))+(1:Int))<(↑(3:Nat):Int)),∃ (h:(0:Int)≤(0:Int)∧(0:Int)<(↑(3:Nat):Int)),Br (List.getD (List.getD (Zj.getD f.toNat (K.arr (3:Nat)
 (K.arr (3:Nat) (K.int i64))).dflt) (i64.wrap (i64.wrap ((0:Int)+(1:Int))+(1:Int))).toNat (K.arr (3:Nat) (K.int i64)).dflt) (Int.toNat
 (0:Int)) (0:Int)==(1:Int)) (∃ (h:True),∃ (h:(0:Int)≤(0:Int)∧(0:Int)<(↑(3:Nat):Int)∧(3:Nat)≤y.fst.length),HIs [HObj.box Md.rw ty72 [SV.val
 (Go.Value.float f64 (0:Nat)),SV.val (Go.Value.float f64 (0:Nat)),SV.val (Go.Value.float f64 (0:Nat))],HObj.row Md.rw ty98 (K.flt
 f64) (y.fst.set (Int.toNat (0:Int)) (Zg ([(4607182418800017408:Nat),s,t].getD (i64.wrap (i64.wrap ((0:Int)+(1:Int))+(1 :
 Int))).toNat (0:Nat))).fst)] [HObj.box Md.rw ty72 [SV.val (Go.Value.float f64 (0:Nat)),SV.val (Go.Value.float f64 (0:Nat)),SV.val (Go.Value.float
 f64 (0:Nat))],HObj.row Md.rw ty98 (K.flt f64) (y.fst.set (Int.toNat (0:Int)) (Zg ([(4607182418800017408:Nat),s,t].getD (i64.wrap
 (i64.wrap ((0:Int)+(1:Int))+(1:Int))).toNat (0:Nat))).fst)]∧post_3 () (y.fst.set (Int.toNat (0:Int)) (Zg ([(4607182418800017408:Nat),s,t].getD
 (i64.wrap (i64.wrap ((0:Int)+(1:Int))+(1:Int))).toNat (0:Nat))).fst,())) (Br (List.getD (List.getD (Zj.getD f.toNat (K.arr (3:Nat) (K.arr (3 :
 Nat) (K.int i64))).dflt) (i64.wrap (i64.wrap ((0:Int)+(1:Int))+(1:Int))).toNat (K.arr (3:Nat) (K.int i64)).dflt) (Int.toNat (0:Int))
 (0:Int)==(-1:Int)) (∃ (h:True),∃ (h:(0:Int)≤(0:Int)∧(0:Int)<(↑(3:Nat):Int)∧(3:Nat)≤y.fst.length),HIs [HObj.box Md.rw ty72 [SV.val (Go.Value.float
 f64 (0:Nat)),SV.val (Go.Value.float f64 (0:Nat)),SV.val (Go.Value.float f64 (0:Nat))],HObj.row Md.rw ty98 (K.flt f64)
 (y.fst.set (Int.toNat (0:Int)) (Zg (Go.Op.negFloat f64 ([(4607182418800017408:Nat),s,t].getD (i64.wrap (i64.wrap ((0:Int)+(1:Int)) +
 (1:Int))).toNat (0:Nat)))).fst)] [HObj.box Md.rw ty72 [SV.val (Go.Value.float f64 (0:Nat)),SV.val (Go.Value.float f64 (0:Nat)),SV.val
 (Go.Value.float f64 (0:Nat))],HObj.row Md.rw ty98 (K.flt f64) (y.fst.set (Int.toNat (0:Int)) (Zg (Go.Op.negFloat f64
 ([(4607182418800017408:Nat),s,t].getD (i64.wrap (i64.wrap ((0:Int)+(1:Int))+(1:Int))).toNat (0:Nat)))).fst)]∧post_3 () (y.fst.set (Int.toNat (0 :
 Int)) (Zg (Go.Op.negFloat f64 ([(4607182418800017408:Nat),s,t].getD (i64.wrap (i64.wrap ((0:Int)+(1:Int))+(1:Int))).toNat (0 :
 Nat)))).fst,())) (HIs [HObj.box Md.rw ty72 [SV.val (Go.Value.float f64 (0:Nat)),SV.val (Go.Value.float f64 (0:Nat)),SV.val (Go.Value.float
 f64 (0:Nat))],HObj.row Md.rw ty98 (K.flt f64) y.fst] [HObj.box Md.rw ty72 [SV.val (Go.Value.float f64 (0:Nat)),SV.val (Go.Value.float
 f64 (0:Nat)),SV.val (Go.Value.float f64 (0:Nat))],HObj.row Md.rw ty98 (K.flt f64) y.fst]∧post_3 () (y.fst,()))))∧∀ (x:Unit) (y
 : List Nat × Unit),post_3 x y→∃ (post_4:Unit→List Nat × Unit→Prop),(∃ (h:(0:Int)≤(0:Int)∧(0:Int)<(↑(3:Nat):Int)),∃ (h:(0:Int)≤f∧f<(↑(6 :
 Nat):Int)),∃ (h:(0:Int)≤(0:Int)∧(0:Int)<(↑(3:Nat):Int)),∃ (h:(0:Int)≤i64.wrap ((0:Int)+(1:Int))∧i64.wrap ((0:Int)+(1 :
 Int))<(↑(3:Nat):Int)),Br (List.getD (List.getD (Zj.getD f.toNat (K.arr (3:Nat) (K.arr (3:Nat) (K.int i64))).dflt) (Int.toNat (0:Int)) (K.arr (3:Nat)
 (K.int i64)).dflt) (i64.wrap ((0:Int)+(1:Int))).toNat (0:Int)==(1:Int)) (∃ (h:True),∃ (h:(0:Int)≤i64.wrap ((0:Int)+(1:Int)) ∧
 i64.wrap ((0:Int)+(1:Int))<(↑(3:Nat):Int)∧(3:Nat)≤y.fst.length),HIs [HObj.box Md.rw ty72 [SV.val (Go.Value.float f64 (0:Nat)),SV.val
 (Go.Value.float f64 (0:Nat)),SV.val (Go.Value.float f64 (0:Nat))],HObj.row Md.rw ty98 (K.flt f64) (y.fst.set (i64.wrap ((0 :
 Int)+(1:Int))).toNat (Zg ([(4607182418800017408:Nat),s,t].getD (Int.toNat (0:Int)) (0:Nat))).fst)] [HObj.box Md.rw ty72 [SV.val (Go.Value.float f64 (0
 : Nat)),SV.val (Go.Value.float f64 (0:Nat)),SV.val (Go.Value.float f64 (0:Nat))],HObj.row Md.rw ty98 (K.flt f64) (y.fst.set
 (i64.wrap ((0:Int)+(1:Int))).toNat (Zg ([(4607182418800017408:Nat),s,t].getD (Int.toNat (0:Int)) (0:Nat))).fst)]∧post_4 () (y.fst.set (i64.wrap
 ((0:Int)+(1:Int))).toNat (Zg ([(4607182418800017408:Nat),s,t].getD (Int.toNat (0:Int)) (0:Nat))).fst,())) (Br (List.getD (List.getD (Zj.getD f.toNat (K.arr
 (3:Nat) (K.arr (3:Nat) (K.int i64))).dflt) (Int.toNat (0:Int)) (K.arr (3:Nat) (K.int i64)).dflt) (i64.wrap ((0:Int)+(1:Int))).toNat (0:Int)
 == (-1:Int)) (∃ (h:True),∃ (h:(0:Int)≤i64.wrap ((0:Int)+(1:Int))∧i64.wrap ((0:Int)+(1:Int))<(↑(3:Nat):Int)∧(3:Nat) ≤
 y.fst.length),HIs [HObj.box Md.rw ty72 [SV.val (Go.Value.float f64 (0:Nat)),SV.val (Go.Value.float f64 (0:Nat)),SV.val (Go.Value.float
 f64 (0:Nat))],HObj.row Md.rw ty98 (K.flt f64) (y.fst.set (i64.wrap ((0:Int)+(1:Int))).toNat (Zg (Go.Op.negFloat f64
 ([(4607182418800017408:Nat),s,t].getD (Int.toNat (0:Int)) (0:Nat)))).fst)] [HObj.box Md.rw ty72 [SV.val (Go.Value.float f64 (0:Nat)),SV.val (Go.Value.float
 f64 (0:Nat)),SV.val (Go.Value.float f64 (0:Nat))],HObj.row Md.rw ty98 (K.flt f64) (y.fst.set (i64.wrap ((0:Int)+(1 :
 Int))).toNat (Zg (Go.Op.negFloat f64 ([(4607182418800017408:Nat),s,t].getD (Int.toNat (0:Int)) (0:Nat)))).fst)]∧post_4 () (y.fst.set (i64.wrap
 ((0:Int)+(1:Int))).toNat (Zg (Go.Op.negFloat f64 ([(4607182418800017408:Nat),s,t].getD (Int.toNat (0:Int)) (0:Nat)))).fst,())) (HIs [HObj.box Md.rw
 ty72 [SV.val (Go.Value.float f64 (0:Nat)),SV.val (Go.Value.float f64 (0:Nat)),SV.val (Go.Value.float f64 (0:Nat))],HObj.row Md.rw
 ty98 (K.flt f64) y.fst] [HObj.box Md.rw ty72 [SV.val (Go.Value.float f64 (0:Nat)),SV.val (Go.Value.float f64 (0:Nat)),SV.val
 (Go.Value.float f64 (0:Nat))],HObj.row Md.rw ty98 (K.flt f64) y.fst]∧post_4 () (y.fst,()))))∧∀ (x:Unit) (y:List Nat × Unit),post_4 x y→∃
 (post_5:Unit→List Nat × Unit→Prop),(∃ (h:(0:Int)≤i64.wrap ((0:Int)+(1:Int))∧i64.wrap ((0:Int)+(1:Int))<(↑(3:Nat):Int)),∃ (h:(0
 : Int)≤f∧f<(↑(6:Nat):Int)),∃ (h:(0:Int)≤i64.wrap ((0:Int)+(1:Int))∧i64.wrap ((0:Int)+(1:Int))<(↑(3:Nat):Int)),∃ (h:(0 :
 Int)≤i64.wrap ((0:Int)+(1:Int))∧i64.wrap ((0:Int)+(1:Int))<(↑(3:Nat):Int)),Br (List.getD (List.getD (Zj.getD f.toNat (K.arr (3:Nat)
 (K.arr (3:Nat) (K.int i64))).dflt) (i64.wrap ((0:Int)+(1:Int))).toNat (K.arr (3:Nat) (K.int i64)).dflt) (i64.wrap ((0:Int)+(1 :
 Int))).toNat (0:Int)==(1:Int)) (∃ (h:True),∃ (h:(0:Int)≤i64.wrap ((0:Int)+(1:Int))∧i64.wrap ((0:Int)+(1:Int))<(↑(3:Nat):Int) ∧
 (3:Nat)≤y.fst.length),HIs [HObj.box Md.rw ty72 [SV.val (Go.Value.float f64 (0:Nat)),SV.val (Go.Value.float f64 (0:Nat)),SV.val (Go.Value.float
 f64 (0:Nat))],HObj.row Md.rw ty98 (K.flt f64) (y.fst.set (i64.wrap ((0:Int)+(1:Int))).toNat (Zg ([(4607182418800017408:Nat),s,
 t].getD (i64.wrap ((0:Int)+(1:Int))).toNat (0:Nat))).fst)] [HObj.box Md.rw ty72 [SV.val (Go.Value.float f64 (0:Nat)),SV.val (Go.Value.float
 f64 (0:Nat)),SV.val (Go.Value.float f64 (0:Nat))],HObj.row Md.rw ty98 (K.flt f64) (y.fst.set (i64.wrap ((0:Int)+(1 :
 Int))).toNat (Zg ([(4607182418800017408:Nat),s,t].getD (i64.wrap ((0:Int)+(1:Int))).toNat (0:Nat))).fst)]∧post_5 () (y.fst.set (i64.wrap ((0 :
 Int)+(1:Int))).toNat (Zg ([(4607182418800017408:Nat),s,t].getD (i64.wrap ((0:Int)+(1:Int))).toNat (0:Nat))).fst,())) (Br (List.getD (List.getD
 (Zj.getD f.toNat (K.arr (3:Nat) (K.arr (3:Nat) (K.int i64))).dflt) (i64.wrap ((0:Int)+(1:Int))).toNat (K.arr (3:Nat) (K.int i64)).dflt)
 (i64.wrap ((0:Int)+(1:Int))).toNat (0:Int)==(-1:Int)) (∃ (h:True),∃ (h:(0:Int)≤i64.wrap ((0:Int)+(1:Int))∧i64.wrap ((0:Int)
 + (1:Int))<(↑(3:Nat):Int)∧(3:Nat)≤y.fst.length),HIs [HObj.box Md.rw ty72 [SV.val (Go.Value.float f64 (0:Nat)),SV.val (Go.Value.float
 f64 (0:Nat)),SV.val (Go.Value.float f64 (0:Nat))],HObj.row Md.rw ty98 (K.flt f64) (y.fst.set (i64.wrap ((0:Int)+(1 :
 Int))).toNat (Zg (Go.Op.negFloat f64 ([(4607182418800017408:Nat),s,t].getD (i64.wrap ((0:Int)+(1:Int))).toNat (0:Nat)))).fst)] [HObj.box Md.rw
 ty72 [SV.val (Go.Value.float f64 (0:Nat)),SV.val (Go.Value.float f64 (0:Nat)),SV.val (Go.Value.float f64 (0:Nat))],HObj.row Md.rw
 ty98 (K.flt f64) (y.fst.set (i64.wrap ((0:Int)+(1:Int))).toNat (Zg (Go.Op.negFloat f64 ([(4607182418800017408:Nat),s,t].getD
 (i64.wrap ((0:Int)+(1:Int))).toNat (0:Nat)))).fst)]∧post_5 () (y.fst.set (i64.wrap ((0:Int)+(1:Int))).toNat (Zg (Go.Op.negFloat
 f64 ([(4607182418800017408:Nat),s,t].getD (i64.wrap ((0:Int)+(1:Int))).toNat (0:Nat)))).fst,())) (HIs [HObj.box Md.rw ty72 [SV.val
 (Go.Value.float f64 (0:Nat)),SV.val (Go.Value.float f64 (0:Nat)),SV.val (Go.Value.float f64 (0:Nat))],HObj.row Md.rw ty98 (K.flt
 f64) y.fst] [HObj.box Md.rw ty72 [SV.val (Go.Value.float f64 (0:Nat)),SV.val (Go.Value.float f64 (0:Nat)),SV.val (Go.Value.float
 f64 (0:Nat))],HObj.row Md.rw ty98 (K.flt f64) y.fst]∧post_5 () (y.fst,()))))∧∀ (x:Unit) (y:List Nat × Unit),post_5 x y→∃ (post_6:Unit →
 List Nat × Unit→Prop),(∃ (h:(0:Int)≤i64.wrap (i64.wrap ((0:Int)+(1:Int))+(1:Int))∧i64.wrap (i64.wrap ((0:Int)+(1:Int)) +
 (1:Int))<(↑(3:Nat):Int)),∃ (h:(0:Int)≤f∧f<(↑(6:Nat):Int)),∃ (h:(0:Int)≤i64.wrap (i64.wrap ((0:Int)+(1:Int))+(1:Int)) ∧
 i64.wrap (i64.wrap ((0:Int)+(1:Int))+(1:Int))<(↑(3:Nat):Int)),∃ (h:(0:Int)≤i64.wrap ((0:Int)+(1:Int))∧i64.wrap ((0 :
 Int)+(1:Int))<(↑(3:Nat):Int)),Br (List.getD (List.getD (Zj.getD f.toNat (K.arr (3:Nat) (K.arr (3:Nat) (K.int i64))).dflt) (i64.wrap
 (i64.wrap ((0:Int)+(1:Int))+(1:Int))).toNat (K.arr (3:Nat) (K.int i64)).dflt) (i64.wrap ((0:Int)+(1:Int))).toNat (0:Int)==(1:Int))
 (∃ (h:True),∃ (h:(0:Int)≤i64.wrap ((0:Int)+(1:Int))∧i64.wrap ((0:Int)+(1:Int))<(↑(3:Nat):Int)∧(3:Nat)≤y.fst.length),HIs
 [HObj.box Md.rw ty72 [SV.val (Go.Value.float f64 (0:Nat)),SV.val (Go.Value.float f64 (0:Nat)),SV.val (Go.Value.float f64 (0:Nat))],
 HObj.row Md.rw ty98 (K.flt f64) (y.fst.set (i64.wrap ((0:Int)+(1:Int))).toNat (Zg ([(4607182418800017408:Nat),s,t].getD (i64.wrap
 (i64.wrap ((0:Int)+(1:Int))+(1:Int))).toNat (0:Nat))).fst)] [HObj.box Md.rw ty72 [SV.val (Go.Value.float f64 (0:Nat)),SV.val (Go.Value.float
 f64 (0:Nat)),SV.val (Go.Value.float f64 (0:Nat))],HObj.row Md.rw ty98 (K.flt f64) (y.fst.set (i64.wrap ((0:Int)+(1 :
 Int))).toNat (Zg ([(4607182418800017408:Nat),s,t].getD (i64.wrap (i64.wrap ((0:Int)+(1:Int))+(1:Int))).toNat (0:Nat))).fst)]∧post_6 ()
 (y.fst.set (i64.wrap ((0:Int)+(1:Int))).toNat (Zg ([(4607182418800017408:Nat),s,t].getD (i64.wrap (i64.wrap ((0:Int)+(1:Int))+(1 :
 Int))).toNat (0:Nat))).fst,())) (Br (List.getD (List.getD (Zj.getD f.toNat (K.arr (3:Nat) (K.arr (3:Nat) (K.int i64))).dflt) (i64.wrap
 (i64.wrap ((0:Int)+(1:Int))+(1:Int))).toNat (K.arr (3:Nat) (K.int i64)).dflt) (i64.wrap ((0:Int)+(1:Int))).toNat (0:Int)==(-1:Int))
 (∃ (h:True),∃ (h:(0:Int)≤i64.wrap ((0:Int)+(1:Int))∧i64.wrap ((0:Int)+(1:Int))<(↑(3:Nat):Int)∧(3:Nat)≤y.fst.length),HIs
 [HObj.box Md.rw ty72 [SV.val (Go.Value.float f64 (0:Nat)),SV.val (Go.Value.float f64 (0:Nat)),SV.val (Go.Value.float f64 (0:Nat))],
 HObj.row Md.rw ty98 (K.flt f64) (y.fst.set (i64.wrap ((0:Int)+(1:Int))).toNat (Zg (Go.Op.negFloat f64 ([(4607182418800017408:Nat),s,
 t].getD (i64.wrap (i64.wrap ((0:Int)+(1:Int))+(1:Int))).toNat (0:Nat)))).fst)] [HObj.box Md.rw ty72 [SV.val (Go.Value.float f64 (0 :
 Nat)),SV.val (Go.Value.float f64 (0:Nat)),SV.val (Go.Value.float f64 (0:Nat))],HObj.row Md.rw ty98 (K.flt f64) (y.fst.set
 (i64.wrap ((0:Int)+(1:Int))).toNat (Zg (Go.Op.negFloat f64 ([(4607182418800017408:Nat),s,t].getD (i64.wrap (i64.wrap ((0:Int)
 + (1:Int))+(1:Int))).toNat (0:Nat)))).fst)]∧post_6 () (y.fst.set (i64.wrap ((0:Int)+(1:Int))).toNat (Zg (Go.Op.negFloat f64
 ([(4607182418800017408:Nat),s,t].getD (i64.wrap (i64.wrap ((0:Int)+(1:Int))+(1:Int))).toNat (0:Nat)))).fst,())) (HIs [HObj.box Md.rw ty72 [SV.val
 (Go.Value.float f64 (0:Nat)),SV.val (Go.Value.float f64 (0:Nat)),SV.val (Go.Value.float f64 (0:Nat))],HObj.row Md.rw ty98 (K.flt
 f64) y.fst] [HObj.box Md.rw ty72 [SV.val (Go.Value.float f64 (0:Nat)),SV.val (Go.Value.float f64 (0:Nat)),SV.val (Go.Value.float
 f64 (0:Nat))],HObj.row Md.rw ty98 (K.flt f64) y.fst]∧post_6 () (y.fst,()))))∧∀ (x:Unit) (y:List Nat × Unit),post_6 x y→∃ (post_7:Unit →
 List Nat × Unit→Prop),(∃ (h:(0:Int)≤(0:Int)∧(0:Int)<(↑(3:Nat):Int)),∃ (h:(0:Int)≤f∧f<(↑(6:Nat):Int)),∃ (h:(0:Int)≤(0:Int)∧(0:Int)
 < (↑(3:Nat):Int)),∃ (h:(0:Int)≤i64.wrap (i64.wrap ((0:Int)+(1:Int))+(1:Int))∧i64.wrap (i64.wrap ((0:Int)+(1:Int))+(1
 : Int))<(↑(3:Nat):Int)),Br (List.getD (List.getD (Zj.getD f.toNat (K.arr (3:Nat) (K.arr (3:Nat) (K.int i64))).dflt) (Int.toNat (0:Int)) (K.arr (3:Nat)
 (K.int i64)).dflt) (i64.wrap (i64.wrap ((0:Int)+(1:Int))+(1:Int))).toNat (0:Int)==(1:Int)) (∃ (h:True),∃ (h:(0:Int) ≤
 i64.wrap (i64.wrap ((0:Int)+(1:Int))+(1:Int))∧i64.wrap (i64.wrap ((0:Int)+(1:Int))+(1:Int))<(↑(3:Nat):Int)∧(3:Nat)
 ≤ y.fst.length),HIs [HObj.box Md.rw ty72 [SV.val (Go.Value.float f64 (0:Nat)),SV.val (Go.Value.float f64 (0:Nat)),SV.val (Go.Value.float
 f64 (0:Nat))],HObj.row Md.rw ty98 (K.flt f64) (y.fst.set (i64.wrap (i64.wrap ((0:Int)+(1:Int))+(1:Int))).toNat (Zg
 ([(4607182418800017408:Nat),s,t].getD (Int.toNat (0:Int)) (0:Nat))).fst)] [HObj.box Md.rw ty72 [SV.val (Go.Value.float f64 (0:Nat)),SV.val (Go.Value.float
 f64 (0:Nat)),SV.val (Go.Value.float f64 (0:Nat))],HObj.row Md.rw ty98 (K.flt f64) (y.fst.set (i64.wrap (i64.wrap ((0 :
 Int)+(1:Int))+(1:Int))).toNat (Zg ([(4607182418800017408:Nat),s,t].getD (Int.toNat (0:Int)) (0:Nat))).fst)]∧post_7 () (y.fst.set (i64.wrap
 (i64.wrap ((0:Int)+(1:Int))+(1:Int))).toNat (Zg ([(4607182418800017408:Nat),s,t].getD (Int.toNat (0:Int)) (0:Nat))).fst,())) (Br (List.getD
 (List.getD (Zj.getD f.toNat (K.arr (3:Nat) (K.arr (3:Nat) (K.int i64))).dflt) (Int.toNat (0:Int)) (K.arr (3:Nat) (K.int i64)).dflt) (i64.wrap
 (i64.wrap ((0:Int)+(1:Int))+(1:Int))).toNat (0:Int)==(-1:Int)) (∃ (h:True),∃ (h:(0:Int)≤i64.wrap (i64.wrap ((0:Int)+(1:Int))
 + (1:Int))∧i64.wrap (i64.wrap ((0:Int)+(1:Int))+(1:Int))<(↑(3:Nat):Int)∧(3:Nat)≤y.fst.length),HIs [HObj.box Md.rw ty72 [SV.val
 (Go.Value.float f64 (0:Nat)),SV.val (Go.Value.float f64 (0:Nat)),SV.val (Go.Value.float f64 (0:Nat))],HObj.row Md.rw ty98 (K.flt
 f64) (y.fst.set (i64.wrap (i64.wrap ((0:Int)+(1:Int))+(1:Int))).toNat (Zg (Go.Op.negFloat f64 ([(4607182418800017408 :
 Nat),s,t].getD (Int.toNat (0:Int)) (0:Nat)))).fst)] [HObj.box Md.rw ty72 [SV.val (Go.Value.float f64 (0:Nat)),SV.val (Go.Value.float f64 (0 :
 Nat)),SV.val (Go.Value.float f64 (0:Nat))],HObj.row Md.rw ty98 (K.flt f64) (y.fst.set (i64.wrap (i64.wrap ((0:Int)+(1:Int)) +
 (1:Int))).toNat (Zg (Go.Op.negFloat f64 ([(4607182418800017408:Nat),s,t].getD (Int.toNat (0:Int)) (0:Nat)))).fst)]∧post_7 () (y.fst.set
 (i64.wrap (i64.wrap ((0:Int)+(1:Int))+(1:Int))).toNat (Zg (Go.Op.negFloat f64 ([(4607182418800017408:Nat),s,t].getD (Int.toNat (0 :
 Int)) (0:Nat)))).fst,())) (HIs [HObj.box Md.rw ty72 [SV.val (Go.Value.float f64 (0:Nat)),SV.val (Go.Value.float f64 (0:Nat)),SV.val
 (Go.Value.float f64 (0:Nat))],HObj.row Md.rw ty98 (K.flt f64) y.fst] [HObj.box Md.rw ty72 [SV.val (Go.Value.float f64 (0:Nat)),SV.val
 (Go.Value.float f64 (0:Nat)),SV.val (Go.Value.float f64 (0:Nat))],HObj.row Md.rw ty98 (K.flt f64) y.fst]∧post_7 () (y.fst,())))) ∧
 ∀ (x:Unit) (y:List Nat × Unit),post_7 x y→∃ (post_8:Unit→List Nat × Unit→Prop),(∃ (h:(0:Int)≤i64.wrap ((0:Int)+(1:Int))∧i64.wrap ((0 :
 Int)+(1:Int))<(↑(3:Nat):Int)),∃ (h:(0:Int)≤f∧f<(↑(6:Nat):Int)),∃ (h:(0:Int)≤i64.wrap ((0:Int)+(1:Int))∧i64.wrap ((0:Int)
 + (1:Int))<(↑(3:Nat):Int)),∃ (h:(0:Int)≤i64.wrap (i64.wrap ((0:Int)+(1:Int))+(1:Int))∧i64.wrap (i64.wrap ((0:Int)+(1
 : Int))+(1:Int))<(↑(3:Nat):Int)),Br (List.getD (List.getD (Zj.getD f.toNat (K.arr (3:Nat) (K.arr (3:Nat) (K.int i64))).dflt) (i64.wrap ((0 :
 Int)+(1:Int))).toNat (K.arr (3:Nat) (K.int i64)).dflt) (i64.wrap (i64.wrap ((0:Int)+(1:Int))+(1:Int))).toNat (0:Int)==(1:Int)) (∃ (h
 : True),∃ (h:(0:Int)≤i64.wrap (i64.wrap ((0:Int)+(1:Int))+(1:Int))∧i64.wrap (i64.wrap ((0:Int)+(1:Int))+(1:Int)) <
 (↑(3:Nat):Int)∧(3:Nat)≤y.fst.length),HIs [HObj.box Md.rw ty72 [SV.val (Go.Value.float f64 (0:Nat)),SV.val (Go.Value.float f64 (0:Nat)),
 SV.val (Go.Value.float f64 (0:Nat))],HObj.row Md.rw ty98 (K.flt f64) (y.fst.set (i64.wrap (i64.wrap ((0:Int)+(1:Int))+(1 :
 Int))).toNat (Zg ([(4607182418800017408:Nat),s,t].getD (i64.wrap ((0:Int)+(1:Int))).toNat (0:Nat))).fst)] [HObj.box Md.rw ty72 [SV.val (Go.Value.float
 f64 (0:Nat)),SV.val (Go.Value.float f64 (0:Nat)),SV.val (Go.Value.float f64 (0:Nat))],HObj.row Md.rw ty98 (K.flt f64)
 (y.fst.set (i64.wrap (i64.wrap ((0:Int)+(1:Int))+(1:Int))).toNat (Zg ([(4607182418800017408:Nat),s,t].getD (i64.wrap ((0:Int)+(1 :
 Int))).toNat (0:Nat))).fst)]∧post_8 () (y.fst.set (i64.wrap (i64.wrap ((0:Int)+(1:Int))+(1:Int))).toNat (Zg ([(4607182418800017408:Nat),s,
 t].getD (i64.wrap ((0:Int)+(1:Int))).toNat (0:Nat))).fst,())) (Br (List.getD (List.getD (Zj.getD f.toNat (K.arr (3:Nat) (K.arr (3:Nat) (K.int
 i64))).dflt) (i64.wrap ((0:Int)+(1:Int))).toNat (K.arr (3:Nat) (K.int i64)).dflt) (i64.wrap (i64.wrap ((0:Int)+(1:Int))+(1
 : Int))).toNat (0:Int)==(-1:Int)) (∃ (h:True),∃ (h:(0:Int)≤i64.wrap (i64.wrap ((0:Int)+(1:Int))+(1:Int))∧i64.wrap
 (i64.wrap ((0:Int)+(1:Int))+(1:Int))<(↑(3:Nat):Int)∧(3:Nat)≤y.fst.length),HIs [HObj.box Md.rw ty72 [SV.val (Go.Value.float f64 (0 :
 Nat)),SV.val (Go.Value.float f64 (0:Nat)),SV.val (Go.Value.float f64 (0:Nat))],HObj.row Md.rw ty98 (K.flt f64) (y.fst.set
 (i64.wrap (i64.wrap ((0:Int)+(1:Int))+(1:Int))).toNat (Zg (Go.Op.negFloat f64 ([(4607182418800017408:Nat),s,t].getD
 (i64.wrap ((0:Int)+(1:Int))).toNat (0:Nat)))).fst)] [HObj.box Md.rw ty72 [SV.val (Go.Value.float f64 (0:Nat)),SV.val (Go.Value.float
 f64 (0:Nat)),SV.val (Go.Value.float f64 (0:Nat))],HObj.row Md.rw ty98 (K.flt f64) (y.fst.set (i64.wrap (i64.wrap ((0 :
 Int)+(1:Int))+(1:Int))).toNat (Zg (Go.Op.negFloat f64 ([(4607182418800017408:Nat),s,t].getD (i64.wrap ((0:Int)+(1:Int))).toNat (0 :
 Nat)))).fst)]∧post_8 () (y.fst.set (i64.wrap (i64.wrap ((0:Int)+(1:Int))+(1:Int))).toNat (Zg (Go.Op.negFloat f64
 ([(4607182418800017408:Nat),s,t].getD (i64.wrap ((0:Int)+(1:Int))).toNat (0:Nat)))).fst,())) (HIs [HObj.box Md.rw ty72 [SV.val (Go.Value.float
 f64 (0:Nat)),SV.val (Go.Value.float f64 (0:Nat)),SV.val (Go.Value.float f64 (0:Nat))],HObj.row Md.rw ty98 (K.flt f64)
 y.fst] [HObj.box Md.rw ty72 [SV.val (Go.Value.float f64 (0:Nat)),SV.val (Go.Value.float f64 (0:Nat)),SV.val (Go.Value.float f64 (0 :
 Nat))],HObj.row Md.rw ty98 (K.flt f64) y.fst]∧post_8 () (y.fst,()))))∧∀ (x:Unit) (y:List Nat × Unit),post_8 x y→∃ (post_9:Unit→List Nat × Unit →
 Prop),(∃ (h:(0:Int)≤i64.wrap (i64.wrap ((0:Int)+(1:Int))+(1:Int))∧i64.wrap (i64.wrap ((0:Int)+(1:Int))+(1:Int))<(↑(3
 : Nat):Int)),∃ (h:(0:Int)≤f∧f<(↑(6:Nat):Int)),∃ (h:(0:Int)≤i64.wrap (i64.wrap ((0:Int)+(1:Int))+(1:Int))∧i64.wrap
 (i64.wrap ((0:Int)+(1:Int))+(1:Int))<(↑(3:Nat):Int)),∃ (h:(0:Int)≤i64.wrap (i64.wrap ((0:Int)+(1:Int))+(1:Int)) ∧
 i64.wrap (i64.wrap ((0:Int)+(1:Int))+(1:Int))<(↑(3:Nat):Int)),Br (List.getD (List.getD (Zj.getD f.toNat (K.arr (3:Nat) (K.arr (3:Nat)
 (K.int i64))).dflt) (i64.wrap (i64.wrap ((0:Int)+(1:Int))+(1:Int))).toNat (K.arr (3:Nat) (K.int i64)).dflt) (i64.wrap
 (i64.wrap ((0:Int)+(1:Int))+(1:Int))).toNat (0:Int)==(1:Int)) (∃ (h:True),∃ (h:(0:Int)≤i64.wrap (i64.wrap ((0:Int)+(1:Int))
 + (1:Int))∧i64.wrap (i64.wrap ((0:Int)+(1:Int))+(1:Int))<(↑(3:Nat):Int)∧(3:Nat)≤y.fst.length),HIs [HObj.box Md.rw ty72 [SV.val
 (Go.Value.float f64 (0:Nat)),SV.val (Go.Value.float f64 (0:Nat)),SV.val (Go.Value.float f64 (0:Nat))],HObj.row Md.rw ty98 (K.flt
 f64) (y.fst.set (i64.wrap (i64.wrap ((0:Int)+(1:Int))+(1:Int))).toNat (Zg ([(4607182418800017408:Nat),s,t].getD (i64.wrap
 (i64.wrap ((0:Int)+(1:Int))+(1:Int))).toNat (0:Nat))).fst)] [HObj.box Md.rw ty72 [SV.val (Go.Value.float f64 (0:Nat)),SV.val (Go.Value.float
 f64 (0:Nat)),SV.val (Go.Value.float f64 (0:Nat))],HObj.row Md.rw ty98 (K.flt f64) (y.fst.set (i64.wrap (i64.wrap ((0 :
 Int)+(1:Int))+(1:Int))).toNat (Zg ([(4607182418800017408:Nat),s,t].getD (i64.wrap (i64.wrap ((0:Int)+(1:Int))+(1:Int))).toNat (0 :
 Nat))).fst)]∧post_9 () (y.fst.set (i64.wrap (i64.wrap ((0:Int)+(1:Int))+(1:Int))).toNat (Zg ([(4607182418800017408:Nat),s,t].getD
 (i64.wrap (i64.wrap ((0:Int)+(1:Int))+(1:Int))).toNat (0:Nat))).fst,())) (Br (List.getD (List.getD (Zj.getD f.toNat (K.arr (3:Nat) (K.arr (3 :
 Nat) (K.int i64))).dflt) (i64.wrap (i64.wrap ((0:Int)+(1:Int))+(1:Int))).toNat (K.arr (3:Nat) (K.int i64)).dflt) (i64.wrap
 (i64.wrap ((0:Int)+(1:Int))+(1:Int))).toNat (0:Int)==(-1:Int)) (∃ (h:True),∃ (h:(0:Int)≤i64.wrap (i64.wrap ((0:Int)+(1:Int))
 + (1:Int))∧i64.wrap (i64.wrap ((0:Int)+(1:Int))+(1:Int))<(↑(3:Nat):Int)∧(3:Nat)≤y.fst.length),HIs [HObj.box Md.rw ty72 [SV.val
 (Go.Value.float f64 (0:Nat)),SV.val (Go.Value.float f64 (0:Nat)),SV.val (Go.Value.float f64 (0:Nat))],HObj.row Md.rw ty98 (K.flt
 f64) (y.fst.set (i64.wrap (i64.wrap ((0:Int)+(1:Int))+(1:Int))).toNat (Zg (Go.Op.negFloat f64 ([(4607182418800017408 :
 Nat),s,t].getD (i64.wrap (i64.wrap ((0:Int)+(1:Int))+(1:Int))).toNat (0:Nat)))).fst)] [HObj.box Md.rw ty72 [SV.val (Go.Value.float f64
 (0:Nat)),SV.val (Go.Value.float f64 (0:Nat)),SV.val (Go.Value.float f64 (0:Nat))],HObj.row Md.rw ty98 (K.flt f64) (y.fst.set
 (i64.wrap (i64.wrap ((0:Int)+(1:Int))+(1:Int))).toNat (Zg (Go.Op.negFloat f64 ([(4607182418800017408:Nat),s,t].getD
 (i64.wrap (i64.wrap ((0:Int)+(1:Int))+(1:Int))).toNat (0:Nat)))).fst)]∧post_9 () (y.fst.set (i64.wrap (i64.wrap ((0:Int)+(1 :
 Int))+(1:Int))).toNat (Zg (Go.Op.negFloat f64 ([(4607182418800017408:Nat),s,t].getD (i64.wrap (i64.wrap ((0:Int)+(1:Int))+(1 :
 Int))).toNat (0:Nat)))).fst,())) (HIs [HObj.box Md.rw ty72 [SV.val (Go.Value.float f64 (0:Nat)),SV.val (Go.Value.float f64 (0:Nat)),SV.val
 (Go.Value.float f64 (0:Nat))],HObj.row Md.rw ty98 (K.flt f64) y.fst] [HObj.box Md.rw ty72 [SV.val (Go.Value.float f64 (0:Nat)),SV.val
 (Go.Value.float f64 (0:Nat)),SV.val (Go.Value.float f64 (0:Nat))],HObj.row Md.rw ty98 (K.flt f64) y.fst]∧post_9 () (y.fst,())))) ∧
 ∀ (x:Unit) (y:List Nat × Unit),post_9 x y→∃ (h:(0:Int)≤(0:Int)∧(0:Int)<(↑(3:Nat):Int)∧(3:Nat)≤y.fst.length),∃ (h:(0:Int)≤(1:Int)∧(1 :
 Int)<(↑(3:Nat):Int)∧(3:Nat)≤y.fst.length),∃ (h:(0:Int)≤(2:Int)∧(2:Int)<(↑(3:Nat):Int)∧(3:Nat)≤y.fst.length),∃ (h:WV (y.fst.getD (Int.toNat
 (0:Int)) (0:Nat),y.fst.getD (Int.toNat (1:Int)) (0:Nat),y.fst.getD (Int.toNat (2:Int)) (0:Nat))),post (((Zs2 (y.fst.getD (Int.toNat (0:Int)) (0:Nat),
 y.fst.getD (Int.toNat (1:Int)) (0:Nat),y.fst.getD (Int.toNat (2:Int)) (0:Nat))).fst.fst,(Zs2 (y.fst.getD (Int.toNat (0:Int)) (0:Nat),y.fst.getD (Int.toNat (1 :
 Int)) (0:Nat),y.fst.getD (Int.toNat (2:Int)) (0:Nat))).fst.snd.fst,(Zs2 (y.fst.getD (Int.toNat (0:Int)) (0:Nat),y.fst.getD (Int.toNat (1:Int)) (0:Nat),
 y.fst.getD (Int.toNat (2:Int)) (0:Nat))).fst.snd.snd),())
theorem Zyf (ty0 ty1:Nat) (f:Int) (s:Nat) (t:Nat) (h:Zs6 f s t):Zar ty0 ty1 f s t (fun r=>r=Z9y f s t):=by
 obtain ⟨f0,f5,hs,ht⟩:=h
 have hfb:0≤f∧f<((6:Nat):Int):=⟨f0,by omega⟩
 refine ⟨fun _ y=>y.1=[(Z5 (Z2 f 0 0) (List.getD [(4607182418800017408:Nat),s,t] (Int.toNat (0:Int)) (0:Nat)) 0),0,0],⟨by decide,hfb,by decide,by decide,Z5r (m:=(Z2 f 0 0)) (v:=(List.getD [(4607182418800017408:Nat),s,t] (Int.toNat (0:Int)) (0:Nat))) (c:=0) (P:=fun z=>[z,0,0]=[(Z5 (Z2 f 0 0) (List.getD [(4607182418800017408:Nat),s,t] (Int.toNat (0:Int)) (0:Nat)) 0),0,0]) rfl (fun e=>⟨trivial,⟨by decide,by decide,Nat.le_refl 3⟩,rfl,e⟩) (fun e=>⟨trivial,⟨by decide,by decide,Nat.le_refl 3⟩,rfl,e⟩) (fun e=>⟨rfl,e⟩)⟩,?_⟩
 rintro ⟨⟩ ⟨_,⟨⟩⟩ rfl
 refine ⟨fun _ y=>y.1=[(Z5 (Z2 f 1 0) s (Z5 (Z2 f 0 0) (List.getD [(4607182418800017408:Nat),s,t] (Int.toNat (0:Int)) (0:Nat)) 0)),0,0],⟨by decide,hfb,by decide,by decide,Z5r (m:=(Z2 f 1 0)) (v:=s) (c:=(Z5 (Z2 f 0 0) (List.getD [(4607182418800017408:Nat),s,t] (Int.toNat (0:Int)) (0:Nat)) 0)) (P:=fun z=>[z,0,0]=[(Z5 (Z2 f 1 0) s (Z5 (Z2 f 0 0) (List.getD [(4607182418800017408:Nat),s,t] (Int.toNat (0:Int)) (0:Nat)) 0)),0,0]) rfl (fun e=>⟨trivial,⟨by decide,by decide,Nat.le_refl 3⟩,rfl,e⟩) (fun e=>⟨trivial,⟨by decide,by decide,Nat.le_refl 3⟩,rfl,e⟩) (fun e=>⟨rfl,e⟩)⟩,?_⟩
 rintro ⟨⟩ ⟨_,⟨⟩⟩ rfl
 refine ⟨fun _ y=>y.1=[(Z5 (Z2 f 2 0) t (Z5 (Z2 f 1 0) s (Z5 (Z2 f 0 0) (List.getD [(4607182418800017408:Nat),s,t] (Int.toNat (0:Int)) (0:Nat)) 0))),0,0],⟨by decide,hfb,by decide,by decide,Z5r (m:=(Z2 f 2 0)) (v:=t) (c:=(Z5 (Z2 f 1 0) s (Z5 (Z2 f 0 0) (List.getD [(4607182418800017408:Nat),s,t] (Int.toNat (0:Int)) (0:Nat)) 0))) (P:=fun z=>[z,0,0]=[(Z5 (Z2 f 2 0) t (Z5 (Z2 f 1 0) s (Z5 (Z2 f 0 0) (List.getD [(4607182418800017408:Nat),s,t] (Int.toNat (0:Int)) (0:Nat)) 0))),0,0]) rfl (fun e=>⟨trivial,⟨by decide,by decide,Nat.le_refl 3⟩,rfl,e⟩) (fun e=>⟨trivial,⟨by decide,by decide,Nat.le_refl 3⟩,rfl,e⟩) (fun e=>⟨rfl,e⟩)⟩,?_⟩
 rintro ⟨⟩ ⟨_,⟨⟩⟩ rfl
 refine ⟨fun _ y=>y.1=[(Z5 (Z2 f 2 0) t (Z5 (Z2 f 1 0) s (Z5 (Z2 f 0 0) (List.getD [(4607182418800017408:Nat),s,t] (Int.toNat (0:Int)) (0:Nat)) 0))),(Z5 (Z2 f 0 1) (List.getD [(4607182418800017408:Nat),s,t] (Int.toNat (0:Int)) (0:Nat)) 0),0],⟨by decide,hfb,by decide,by decide,Z5r (m:=(Z2 f 0 1)) (v:=(List.getD [(4607182418800017408:Nat),s,t] (Int.toNat (0:Int)) (0:Nat))) (c:=0) (P:=fun z=>[(Z5 (Z2 f 2 0) t (Z5 (Z2 f 1 0) s (Z5 (Z2 f 0 0) (List.getD [(4607182418800017408:Nat),s,t] (Int.toNat (0:Int)) (0:Nat)) 0))),z,0]=[(Z5 (Z2 f 2 0) t (Z5 (Z2 f 1 0) s (Z5 (Z2 f 0 0) (List.getD [(4607182418800017408:Nat),s,t] (Int.toNat (0:Int)) (0:Nat)) 0))),(Z5 (Z2 f 0 1) (List.getD [(4607182418800017408:Nat),s,t] (Int.toNat (0:Int)) (0:Nat)) 0),0]) rfl (fun e=>⟨trivial,⟨by decide,by decide,Nat.le_refl 3⟩,rfl,e⟩) (fun e=>⟨trivial,⟨by decide,by decide,Nat.le_refl 3⟩,rfl,e⟩) (fun e=>⟨rfl,e⟩)⟩,?_⟩
 rintro ⟨⟩ ⟨_,⟨⟩⟩ rfl
 refine ⟨fun _ y=>y.1=[(Z5 (Z2 f 2 0) t (Z5 (Z2 f 1 0) s (Z5 (Z2 f 0 0) (List.getD [(4607182418800017408:Nat),s,t] (Int.toNat (0:Int)) (0:Nat)) 0))),(Z5 (Z2 f 1 1) s (Z5 (Z2 f 0 1) (List.getD [(4607182418800017408:Nat),s,t] (Int.toNat (0:Int)) (0:Nat)) 0)),0],⟨by decide,hfb,by decide,by decide,Z5r (m:=(Z2 f 1 1)) (v:=s) (c:=(Z5 (Z2 f 0 1) (List.getD [(4607182418800017408:Nat),s,t] (Int.toNat (0:Int)) (0:Nat)) 0)) (P:=fun z=>[(Z5 (Z2 f 2 0) t (Z5 (Z2 f 1 0) s (Z5 (Z2 f 0 0) (List.getD [(4607182418800017408:Nat),s,t] (Int.toNat (0:Int)) (0:Nat)) 0))),z,0]=[(Z5 (Z2 f 2 0) t (Z5 (Z2 f 1 0) s (Z5 (Z2 f 0 0) (List.getD [(4607182418800017408:Nat),s,t] (Int.toNat (0:Int)) (0:Nat)) 0))),(Z5 (Z2 f 1 1) s (Z5 (Z2 f 0 1) (List.getD [(4607182418800017408:Nat),s,t] (Int.toNat (0:Int)) (0:Nat)) 0)),0]) rfl (fun e=>⟨trivial,⟨by decide,by decide,Nat.le_refl 3⟩,rfl,e⟩) (fun e=>⟨trivial,⟨by decide,by decide,Nat.le_refl 3⟩,rfl,e⟩) (fun e=>⟨rfl,e⟩)⟩,?_⟩
 rintro ⟨⟩ ⟨_,⟨⟩⟩ rfl
 refine ⟨fun _ y=>y.1=[(Z5 (Z2 f 2 0) t (Z5 (Z2 f 1 0) s (Z5 (Z2 f 0 0) (List.getD [(4607182418800017408:Nat),s,t] (Int.toNat (0:Int)) (0:Nat)) 0))),(Z5 (Z2 f 2 1) t (Z5 (Z2 f 1 1) s (Z5 (Z2 f 0 1) (List.getD [(4607182418800017408:Nat),s,t] (Int.toNat (0:Int)) (0:Nat)) 0))),0],⟨by decide,hfb,by decide,by decide,Z5r (m:=(Z2 f 2 1)) (v:=t) (c:=(Z5 (Z2 f 1 1) s (Z5 (Z2 f 0 1) (List.getD [(4607182418800017408:Nat),s,t] (Int.toNat (0:Int)) (0:Nat)) 0))) (P:=fun z=>[(Z5 (Z2 f 2 0) t (Z5 (Z2 f 1 0) s (Z5 (Z2 f 0 0) (List.getD [(4607182418800017408:Nat),s,t] (Int.toNat (0:Int)) (0:Nat)) 0))),z,0]=[(Z5 (Z2 f 2 0) t (Z5 (Z2 f 1 0) s (Z5 (Z2 f 0 0) (List.getD [(4607182418800017408:Nat),s,t] (Int.toNat (0:Int)) (0:Nat)) 0))),(Z5 (Z2 f 2 1) t (Z5 (Z2 f 1 1) s (Z5 (Z2 f 0 1) (List.getD [(4607182418800017408:Nat),s,t] (Int.toNat (0:Int)) (0:Nat)) 0))),0]) rfl (fun e=>⟨trivial,⟨by decide,by decide,Nat.le_refl 3⟩,rfl,e⟩) (fun e=>⟨trivial,⟨by decide,by decide,Nat.le_refl 3⟩,rfl,e⟩) (fun e=>⟨rfl,e⟩)⟩,?_⟩
 rintro ⟨⟩ ⟨_,⟨⟩⟩ rfl
 refine ⟨fun _ y=>y.1=[(Z5 (Z2 f 2 0) t (Z5 (Z2 f 1 0) s (Z5 (Z2 f 0 0) (List.getD [(4607182418800017408:Nat),s,t] (Int.toNat (0:Int)) (0:Nat)) 0))),(Z5 (Z2 f 2 1) t (Z5 (Z2 f 1 1) s (Z5 (Z2 f 0 1) (List.getD [(4607182418800017408:Nat),s,t] (Int.toNat (0:Int)) (0:Nat)) 0))),(Z5 (Z2 f 0 2) (List.getD [(4607182418800017408:Nat),s,t] (Int.toNat (0:Int)) (0:Nat)) 0)],⟨by decide,hfb,by decide,by decide,Z5r (m:=(Z2 f 0 2)) (v:=(List.getD [(4607182418800017408:Nat),s,t] (Int.toNat (0:Int)) (0:Nat))) (c:=0) (P:=fun z=>[(Z5 (Z2 f 2 0) t (Z5 (Z2 f 1 0) s (Z5 (Z2 f 0 0) (List.getD [(4607182418800017408:Nat),s,t] (Int.toNat (0:Int)) (0:Nat)) 0))),(Z5 (Z2 f 2 1) t (Z5 (Z2 f 1 1) s (Z5 (Z2 f 0 1) (List.getD [(4607182418800017408:Nat),s,t] (Int.toNat (0:Int)) (0:Nat)) 0))),z]=[(Z5 (Z2 f 2 0) t (Z5 (Z2 f 1 0) s (Z5 (Z2 f 0 0) (List.getD [(4607182418800017408:Nat),s,t] (Int.toNat (0:Int)) (0:Nat)) 0))),(Z5 (Z2 f 2 1) t (Z5 (Z2 f 1 1) s (Z5 (Z2 f 0 1) (List.getD [(4607182418800017408:Nat),s,t] (Int.toNat (0:Int)) (0:Nat)) 0))),(Z5 (Z2 f 0 2) (List.getD [(4607182418800017408:Nat),s,t] (Int.toNat (0:Int)) (0:Nat)) 0)]) rfl (fun e=>⟨trivial,⟨by decide,by decide,Nat.le_refl 3⟩,rfl,e⟩) (fun e=>⟨trivial,⟨by decide,by decide,Nat.le_refl 3⟩,rfl,e⟩) (fun e=>⟨rfl,e⟩)⟩,?_⟩
 rintro ⟨⟩ ⟨_,⟨⟩⟩ rfl
 refine ⟨fun _ y=>y.1=[(Z5 (Z2 f 2 0) t (Z5 (Z2 f 1 0) s (Z5 (Z2 f 0 0) (List.getD [(4607182418800017408:Nat),s,t] (Int.toNat (0:Int)) (0:Nat)) 0))),(Z5 (Z2 f 2 1) t (Z5 (Z2 f 1 1) s (Z5 (Z2 f 0 1) (List.getD [(4607182418800017408:Nat),s,t] (Int.toNat (0:Int)) (0:Nat)) 0))),(Z5 (Z2 f 1 2) s (Z5 (Z2 f 0 2) (List.getD [(4607182418800017408:Nat),s,t] (Int.toNat (0:Int)) (0:Nat)) 0))],⟨by decide,hfb,by decide,by decide,Z5r (m:=(Z2 f 1 2)) (v:=s) (c:=(Z5 (Z2 f 0 2) (List.getD [(4607182418800017408:Nat),s,t] (Int.toNat (0:Int)) (0:Nat)) 0)) (P:=fun z=>[(Z5 (Z2 f 2 0) t (Z5 (Z2 f 1 0) s (Z5 (Z2 f 0 0) (List.getD [(4607182418800017408:Nat),s,t] (Int.toNat (0:Int)) (0:Nat)) 0))),(Z5 (Z2 f 2 1) t (Z5 (Z2 f 1 1) s (Z5 (Z2 f 0 1) (List.getD [(4607182418800017408:Nat),s,t] (Int.toNat (0:Int)) (0:Nat)) 0))),z]=[(Z5 (Z2 f 2 0) t (Z5 (Z2 f 1 0) s (Z5 (Z2 f 0 0) (List.getD [(4607182418800017408:Nat),s,t] (Int.toNat (0:Int)) (0:Nat)) 0))),(Z5 (Z2 f 2 1) t (Z5 (Z2 f 1 1) s (Z5 (Z2 f 0 1) (List.getD [(4607182418800017408:Nat),s,t] (Int.toNat (0:Int)) (0:Nat)) 0))),(Z5 (Z2 f 1 2) s (Z5 (Z2 f 0 2) (List.getD [(4607182418800017408:Nat),s,t] (Int.toNat (0:Int)) (0:Nat)) 0))]) rfl (fun e=>⟨trivial,⟨by decide,by decide,Nat.le_refl 3⟩,rfl,e⟩) (fun e=>⟨trivial,⟨by decide,by decide,Nat.le_refl 3⟩,rfl,e⟩) (fun e=>⟨rfl,e⟩)⟩,?_⟩
 rintro ⟨⟩ ⟨_,⟨⟩⟩ rfl
 refine ⟨fun _ y=>y.1=[(Z5 (Z2 f 2 0) t (Z5 (Z2 f 1 0) s (Z5 (Z2 f 0 0) (List.getD [(4607182418800017408:Nat),s,t] (Int.toNat (0:Int)) (0:Nat)) 0))),(Z5 (Z2 f 2 1) t (Z5 (Z2 f 1 1) s (Z5 (Z2 f 0 1) (List.getD [(4607182418800017408:Nat),s,t] (Int.toNat (0:Int)) (0:Nat)) 0))),(Z5 (Z2 f 2 2) t (Z5 (Z2 f 1 2) s (Z5 (Z2 f 0 2) (List.getD [(4607182418800017408:Nat),s,t] (Int.toNat (0:Int)) (0:Nat)) 0)))],⟨by decide,hfb,by decide,by decide,Z5r (m:=(Z2 f 2 2)) (v:=t) (c:=(Z5 (Z2 f 1 2) s (Z5 (Z2 f 0 2) (List.getD [(4607182418800017408:Nat),s,t] (Int.toNat (0:Int)) (0:Nat)) 0))) (P:=fun z=>[(Z5 (Z2 f 2 0) t (Z5 (Z2 f 1 0) s (Z5 (Z2 f 0 0) (List.getD [(4607182418800017408:Nat),s,t] (Int.toNat (0:Int)) (0:Nat)) 0))),(Z5 (Z2 f 2 1) t (Z5 (Z2 f 1 1) s (Z5 (Z2 f 0 1) (List.getD [(4607182418800017408:Nat),s,t] (Int.toNat (0:Int)) (0:Nat)) 0))),z]=[(Z5 (Z2 f 2 0) t (Z5 (Z2 f 1 0) s (Z5 (Z2 f 0 0) (List.getD [(4607182418800017408:Nat),s,t] (Int.toNat (0:Int)) (0:Nat)) 0))),(Z5 (Z2 f 2 1) t (Z5 (Z2 f 1 1) s (Z5 (Z2 f 0 1) (List.getD [(4607182418800017408:Nat),s,t] (Int.toNat (0:Int)) (0:Nat)) 0))),(Z5 (Z2 f 2 2) t (Z5 (Z2 f 1 2) s (Z5 (Z2 f 0 2) (List.getD [(4607182418800017408:Nat),s,t] (Int.toNat (0:Int)) (0:Nat)) 0)))]) rfl (fun e=>⟨trivial,⟨by decide,by decide,Nat.le_refl 3⟩,rfl,e⟩) (fun e=>⟨trivial,⟨by decide,by decide,Nat.le_refl 3⟩,rfl,e⟩) (fun e=>⟨rfl,e⟩)⟩,?_⟩
 rintro ⟨⟩ ⟨_,⟨⟩⟩ rfl
 refine ⟨⟨by decide,by decide,Nat.le_refl 3⟩,⟨by decide,by decide,Nat.le_refl 3⟩,⟨by decide,by decide,Nat.le_refl 3⟩,⟨Zuy f hs ht 0,Zuy f hs ht 1,Zuy f hs ht 2⟩,rfl⟩
def Z8r:=fun (n f i j:Int) (post:(Nat × Nat × Nat) × Bool × Unit→Prop)=>∃ (h:I64 n),∀ (a:Bool),a=((Z9w n).fst==(0:Int))→Br a (post (((0:Nat),
 (0:Nat),(0:Nat)),false,())) (∀ (a:Bool),a=decide (f<(0:Int))→Br a (post (((0:Nat),(0:Nat),(0:Nat)),false,())) (∀ (a:Bool),a=decide (f >
 (5:Int))→Br a (post (((0:Nat),(0:Nat),(0:Nat)),false,())) (∀ (a:Bool),a=decide (i<(0:Int))→Br a (post (((0:Nat),(0:Nat),(0:Nat)),false,
 ())) (∀ (a:Bool),a=decide (i > n)→Br a (post (((0:Nat),(0:Nat),(0:Nat)),false,())) (∀ (a:Bool),a=decide (j<(0:Int))→Br a (post (((0:Nat),(0 :
 Nat),(0:Nat)),false,())) (∀ (a:Bool),a=decide (j > n)→Br a (post (((0:Nat),(0:Nat),(0:Nat)),false,())) (∃ (h:Zcy (i64.wrap
 (i64.wrap ((2:Int)*i) - n)) n),∃ (h:Zcy (i64.wrap (i64.wrap ((2:Int)*j) - n)) n),∃ (h:Zs6 f (Z29 (i64.wrap (i64.wrap
 ((2:Int)*i) - n)) n).fst (Z29 (i64.wrap (i64.wrap ((2:Int)*j) - n)) n).fst),post (((Z9y f (Z29 (i64.wrap (i64.wrap ((2:Int) *
 i) - n)) n).fst (Z29 (i64.wrap (i64.wrap ((2:Int)*j) - n)) n).fst).fst.fst,(Z9y f (Z29 (i64.wrap (i64.wrap ((2:Int)*i) - n))
 n).fst (Z29 (i64.wrap (i64.wrap ((2:Int)*j) - n)) n).fst).fst.snd.fst,(Z9y f (Z29 (i64.wrap (i64.wrap ((2:Int)*i) - n)) n).fst
 (Z29 (i64.wrap (i64.wrap ((2:Int)*j) - n)) n).fst).fst.snd.snd),true,()))))))))
theorem Zvm (n:Int) (f:Int) (i:Int) (j:Int) (h:IIII n f i j):Z8r  n f i j (fun r=>r=Zy n f i j):=by
 obtain ⟨hn,hf,hi,hj⟩:=h
 have bad:Z57 n f i j=false→(((0:Nat),(0:Nat),(0:Nat)),false,())=Zy n f i j:=by
  intro e; unfold Zy; rw [if_neg (by rw [e]; decide)]
 refine ⟨hn,?_⟩
 rintro _ rfl
 refine Br.intro (fun e=>?_) fun e0=>?_
 ·have e:Zc n=0:=by have e:(Zc n==0)=true:=e; simpa using e
  refine bad ?_
  cases hg:Z1j n with
  | false=>unfold Z57; rw [hg]; rfl
  | true=>rw [Zby hg] at e; have:=Zn3 (Z27.1 hg).1 (Z27.1 hg).2; omega
 have e0:¬ Zc n=0:=by have e:(Zc n==0)=false:=e0; simpa using e
 have hg:Z1j n=true:=by
  cases hg:Z1j n with
  | false=>exact absurd (Zeo hg) e0
  | true=>rfl
 obtain ⟨n1,n2⟩:=Z27.1 hg
 have no:¬ (0≤f∧f≤5∧0≤i∧i≤n∧0≤j∧j≤n)→Z57 n f i j=false:=by
  intro q
  rw [Bool.eq_false_iff]
  intro w
  unfold Z57 at w
  simp only [Bool.and_eq_true,decide_eq_true_eq] at w
  omega
 rintro _ rfl
 refine Br.intro (fun e=>bad (no (by have e:=of_decide_eq_true e; omega))) fun e1=>?_
 have e1:=of_decide_eq_false e1
 rintro _ rfl
 refine Br.intro (fun e=>bad (no (by have e:=of_decide_eq_true e; omega))) fun e2=>?_
 have e2:=of_decide_eq_false e2
 rintro _ rfl
 refine Br.intro (fun e=>bad (no (by have e:=of_decide_eq_true e; omega))) fun e3=>?_
 have e3:=of_decide_eq_false e3
 rintro _ rfl
 refine Br.intro (fun e=>bad (no (by have e:=of_decide_eq_true e; omega))) fun e4=>?_
 have e4:=of_decide_eq_false e4
 rintro _ rfl
 refine Br.intro (fun e=>bad (no (by have e:=of_decide_eq_true e; omega))) fun e5=>?_
 have e5:=of_decide_eq_false e5
 rintro _ rfl
 refine Br.intro (fun e=>bad (no (by have e:=of_decide_eq_true e; omega))) fun e6=>?_
 have e6:=of_decide_eq_false e6
 obtain ⟨w1,w2⟩:=Zsb n1 n2 (i:=i) (by omega) (by omega)
 obtain ⟨w3,w4⟩:=Zsb n1 n2 (i:=j) (by omega) (by omega)
 rw [w1,w3]
 refine ⟨w2,w4,⟨by omega,by omega,Z85 _ _,Z85 _ _⟩,?_⟩
 have ok:Z57 n f i j=true:=by
  unfold Z57
  rw [hg,decide_eq_true (by omega),decide_eq_true (by omega),decide_eq_true (by omega),decide_eq_true (by omega),decide_eq_true (by omega),decide_eq_true (by omega)]
  rfl
 unfold Zy; rw [if_pos ok]; rfl
def Z7q:=fun (n c:Int) (post:List (Nat × Nat × Nat) × Bool × Unit→Prop)=>∃ (h:II n c),Br (!(Z1 n c).snd.snd.snd.fst) (∃ (h:(List.replicate (4:Nat)
 ((K.flt f64).pair ((K.flt f64).pair (K.flt f64))).dflt).length=(4:Nat)∧(4:Nat)=(4:Nat)),∃ (h:(4:Nat)=(4:Nat)),post
 ([((0:Nat),(0:Nat),(0:Nat)),((0:Nat),(0:Nat),(0:Nat)),((0:Nat),(0:Nat),(0:Nat)),((0:Nat),(0:Nat),(0:Nat))],false,())) (∃ (h:(0:Int) ≤
 (0:Int)∧(0:Int)<(↑(4:Nat):Int)),∃ (h:(List.replicate (2:Nat) (0:Int)).length=(2:Nat)∧List.length ([[(0:Int),(0:Int)],[(1:Int),(0:Int)],[(1 :
 Int),(1:Int)],[(0:Int),(1:Int)]].getD (Int.toNat (0:Int)) (K.arr (2:Nat) (K.int i64)).dflt)=(2:Nat)),∃ (h:(0:Int)≤(0:Int)∧(0:Int)<(↑(2 :
 Nat):Int)∧(2:Nat)≤List.length ([[(0:Int),(0:Int)],[(1:Int),(0:Int)],[(1:Int),(1:Int)],[(0:Int),(1:Int)]].getD (Int.toNat (0:Int)) (K.arr (2:Nat)
 (K.int i64)).dflt)),∃ (h:(0:Int)≤(1:Int)∧(1:Int)<(↑(2:Nat):Int)∧(2:Nat)≤List.length ([[(0:Int),(0:Int)],[(1:Int),(0:Int)],[(1:Int),
 (1:Int)],[(0:Int),(1:Int)]].getD (Int.toNat (0:Int)) (K.arr (2:Nat) (K.int i64)).dflt)),∃ (h:IIII n (Z1 n c).fst (i64.wrap ((Z1 n
 c).snd.fst+List.getD ([[(0:Int),(0:Int)],[(1:Int),(0:Int)],[(1:Int),(1:Int)],[(0:Int),(1:Int)]].getD (Int.toNat (0:Int)) (K.arr (2:Nat) (K.int
 i64)).dflt) (Int.toNat (0:Int)) (0:Int))) (i64.wrap ((Z1 n c).snd.snd.fst+List.getD ([[(0:Int),(0:Int)],[(1:Int),(0:Int)],[(1:Int),(1 :
 Int)],[(0:Int),(1:Int)]].getD (Int.toNat (0:Int)) (K.arr (2:Nat) (K.int i64)).dflt) (Int.toNat (1:Int)) (0:Int)))),∃ (h:(0:Int)≤(0:Int)∧(0:Int)
 < (↑(4:Nat):Int)∧(4:Nat)≤(List.replicate (4:Nat) ((K.flt f64).pair ((K.flt f64).pair (K.flt f64))).dflt).length),∃ (h:(0 :
 Int)≤i64.wrap ((0:Int)+(1:Int))∧i64.wrap ((0:Int)+(1:Int))<(↑(4:Nat):Int)),∃ (h:(List.replicate (2:Nat) (0:Int)).length=(2:Nat) ∧
 List.length ([[(0:Int),(0:Int)],[(1:Int),(0:Int)],[(1:Int),(1:Int)],[(0:Int),(1:Int)]].getD (i64.wrap ((0:Int)+(1:Int))).toNat (K.arr (2 :
 Nat) (K.int i64)).dflt)=(2:Nat)),∃ (h:(0:Int)≤(0:Int)∧(0:Int)<(↑(2:Nat):Int)∧(2:Nat)≤List.length ([[(0:Int),(0:Int)],[(1:Int),(0 :
 Int)],[(1:Int),(1:Int)],[(0:Int),(1:Int)]].getD (i64.wrap ((0:Int)+(1:Int))).toNat (K.arr (2:Nat) (K.int i64)).dflt)),∃ (h:(0:Int)≤(1 :
 Int)∧(1:Int)<(↑(2:Nat):Int)∧(2:Nat)≤List.length ([[(0:Int),(0:Int)],[(1:Int),(0:Int)],[(1:Int),(1:Int)],[(0:Int),(1:Int)]].getD
 (i64.wrap ((0:Int)+(1:Int))).toNat (K.arr (2:Nat) (K.int i64)).dflt)),∃ (h:IIII n (Z1 n c).fst (i64.wrap ((Z1 n c).snd.fst+List.getD
 ([[(0:Int),(0:Int)],[(1:Int),(0:Int)],[(1:Int),(1:Int)],[(0:Int),(1:Int)]].getD (i64.wrap ((0:Int)+(1:Int))).toNat (K.arr (2:Nat) (K.int
 i64)).dflt) (Int.toNat (0:Int)) (0:Int))) (i64.wrap ((Z1 n c).snd.snd.fst+List.getD ([[(0:Int),(0:Int)],[(1:Int),(0:Int)],[(1:Int),(1 :
 Int)],[(0:Int),(1:Int)]].getD (i64.wrap ((0:Int)+(1:Int))).toNat (K.arr (2:Nat) (K.int i64)).dflt) (Int.toNat (1:Int)) (0:Int)))),∃ (h:(0 :
 Int)≤i64.wrap ((0:Int)+(1:Int))∧i64.wrap ((0:Int)+(1:Int))<(↑(4:Nat):Int)∧(4:Nat)≤((List.replicate (4:Nat) ((K.flt
 f64).pair ((K.flt f64).pair (K.flt f64))).dflt).set (Int.toNat (0:Int)) (Zy n (Z1 n c).fst (i64.wrap ((Z1 n
 c).snd.fst+List.getD ([[(0:Int),(0:Int)],[(1:Int),(0:Int)],[(1:Int),(1:Int)],[(0:Int),(1:Int)]].getD (Int.toNat (0:Int)) (K.arr (2:Nat) (K.int
 i64)).dflt) (Int.toNat (0:Int)) (0:Int))) (i64.wrap ((Z1 n c).snd.snd.fst+List.getD ([[(0:Int),(0:Int)],[(1:Int),(0:Int)],[(1:Int),(1 :
 Int)],[(0:Int),(1:Int)]].getD (Int.toNat (0:Int)) (K.arr (2:Nat) (K.int i64)).dflt) (Int.toNat (1:Int)) (0:Int)))).fst).length),∃ (h:(0:Int) ≤
 i64.wrap (i64.wrap ((0:Int)+(1:Int))+(1:Int))∧i64.wrap (i64.wrap ((0:Int)+(1:Int))+(1:Int))<(↑(4:Nat):Int)),∃ (h :
 (List.replicate (2:Nat) (0:Int)).length=(2:Nat)∧List.length ([[(0:Int),(0:Int)],[(1:Int),(0:Int)],[(1:Int),(1:Int)],[(0:Int),(1:Int)]].getD
 (i64.wrap (i64.wrap ((0:Int)+(1:Int))+(1:Int))).toNat (K.arr (2:Nat) (K.int i64)).dflt)=(2:Nat)),∃ (h:(0:Int)≤(0:Int)∧(0:Int)
 < (↑(2:Nat):Int)∧(2:Nat)≤List.length ([[(0:Int),(0:Int)],[(1:Int),(0:Int)],[(1:Int),(1:Int)],[(0:Int),(1:Int)]].getD (i64.wrap
 (i64.wrap ((0:Int)+(1:Int))+(1:Int))).toNat (K.arr (2:Nat) (K.int i64)).dflt)),∃ (h:(0:Int)≤(1:Int)∧(1:Int)<(↑(2:Nat):Int)∧(2 :
 Nat)≤List.length ([[(0:Int),(0:Int)],[(1:Int),(0:Int)],[(1:Int),(1:Int)],[(0:Int),(1:Int)]].getD (i64.wrap (i64.wrap ((0:Int)+(1 :
 Int))+(1:Int))).toNat (K.arr (2:Nat) (K.int i64)).dflt)),∃ (h:IIII n (Z1 n c).fst (i64.wrap ((Z1 n c).snd.fst+List.getD ([[(0:Int),(0 :
 Int)],[(1:Int),(0:Int)],[(1:Int),(1:Int)],[(0:Int),(1:Int)]].getD (i64.wrap (i64.wrap ((0:Int)+(1:Int))+(1:Int))).toNat (K.arr (2 :
 Nat) (K.int i64)).dflt) (Int.toNat (0:Int)) (0:Int))) (i64.wrap ((Z1 n c).snd.snd.fst+List.getD ([[(0:Int),(0:Int)],[(1:Int),(0:Int)],[(1 :
 Int),(1:Int)],[(0:Int),(1:Int)]].getD (i64.wrap (i64.wrap ((0:Int)+(1:Int))+(1:Int))).toNat (K.arr (2:Nat) (K.int i64)).dflt)
 (Int.toNat (1:Int)) (0:Int)))),∃ (h:(0:Int)≤i64.wrap (i64.wrap ((0:Int)+(1:Int))+(1:Int))∧i64.wrap (i64.wrap ((0:Int)+(1
 : Int))+(1:Int))<(↑(4:Nat):Int)∧(4:Nat)≤(((List.replicate (4:Nat) ((K.flt f64).pair ((K.flt f64).pair (K.flt
 f64))).dflt).set (Int.toNat (0:Int)) (Zy n (Z1 n c).fst (i64.wrap ((Z1 n c).snd.fst+List.getD ([[(0:Int),(0:Int)],[(1:Int),(0 :
 Int)],[(1:Int),(1:Int)],[(0:Int),(1:Int)]].getD (Int.toNat (0:Int)) (K.arr (2:Nat) (K.int i64)).dflt) (Int.toNat (0:Int)) (0:Int))) (i64.wrap
 ((Z1 n c).snd.snd.fst+List.getD ([[(0:Int),(0:Int)],[(1:Int),(0:Int)],[(1:Int),(1:Int)],[(0:Int),(1:Int)]].getD (Int.toNat (0:Int)) (K.arr (2 :
 Nat) (K.int i64)).dflt) (Int.toNat (1:Int)) (0:Int)))).fst).set (i64.wrap ((0:Int)+(1:Int))).toNat (Zy n (Z1 n c).fst (i64.wrap
 ((Z1 n c).snd.fst+List.getD ([[(0:Int),(0:Int)],[(1:Int),(0:Int)],[(1:Int),(1:Int)],[(0:Int),(1:Int)]].getD (i64.wrap ((0:Int)+(1 :
 Int))).toNat (K.arr (2:Nat) (K.int i64)).dflt) (Int.toNat (0:Int)) (0:Int))) (i64.wrap ((Z1 n c).snd.snd.fst+List.getD ([[(0:Int),(0:Int)],[(1 :
 Int),(0:Int)],[(1:Int),(1:Int)],[(0:Int),(1:Int)]].getD (i64.wrap ((0:Int)+(1:Int))).toNat (K.arr (2:Nat) (K.int i64)).dflt) (Int.toNat (1 :
 Int)) (0:Int)))).fst).length),∃ (h:(0:Int)≤i64.wrap (i64.wrap (i64.wrap ((0:Int)+(1:Int))+(1:Int))+(1:Int))∧i64.wrap
 (i64.wrap (i64.wrap ((0:Int)+(1:Int))+(1:Int))+(1:Int))<(↑(4:Nat):Int)),∃ (h:(List.replicate (2:Nat) (0:Int)).length=(2:Nat) ∧
 List.length ([[(0:Int),(0:Int)],[(1:Int),(0:Int)],[(1:Int),(1:Int)],[(0:Int),(1:Int)]].getD (i64.wrap (i64.wrap (i64.wrap ((0:Int)
 + (1:Int))+(1:Int))+(1:Int))).toNat (K.arr (2:Nat) (K.int i64)).dflt)=(2:Nat)),∃ (h:(0:Int)≤(0:Int)∧(0:Int)<(↑(2:Nat):Int)∧(2:Nat) ≤
 List.length ([[(0:Int),(0:Int)],[(1:Int),(0:Int)],[(1:Int),(1:Int)],[(0:Int),(1:Int)]].getD (i64.wrap (i64.wrap (i64.wrap ((0:Int)
 + (1:Int))+(1:Int))+(1:Int))).toNat (K.arr (2:Nat) (K.int i64)).dflt)),∃ (h:(0:Int)≤(1:Int)∧(1:Int)<(↑(2:Nat):Int)∧(2:Nat)≤List.length
 ([[(0:Int),(0:Int)],[(1:Int),(0:Int)],[(1:Int),(1:Int)],[(0:Int),(1:Int)]].getD (i64.wrap (i64.wrap (i64.wrap ((0:Int)+(1 :
 Int))+(1:Int))+(1:Int))).toNat (K.arr (2:Nat) (K.int i64)).dflt)),∃ (h:IIII n (Z1 n c).fst (i64.wrap ((Z1 n c).snd.fst+List.getD ([[(0 :
 Int),(0:Int)],[(1:Int),(0:Int)],[(1:Int),(1:Int)],[(0:Int),(1:Int)]].getD (i64.wrap (i64.wrap (i64.wrap ((0:Int)+(1:Int))+(1 :
 Int))+(1:Int))).toNat (K.arr (2:Nat) (K.int i64)).dflt) (Int.toNat (0:Int)) (0:Int))) (i64.wrap ((Z1 n c).snd.snd.fst+List.getD ([[(0:Int),(0 :
 Int)],[(1:Int),(0:Int)],[(1:Int),(1:Int)],[(0:Int),(1:Int)]].getD (i64.wrap (i64.wrap (i64.wrap ((0:Int)+(1:Int))+(1:Int))+(1
 : Int))).toNat (K.arr (2:Nat) (K.int i64)).dflt) (Int.toNat (1:Int)) (0:Int)))),∃ (h:(0:Int)≤i64.wrap (i64.wrap (i64.wrap ((0:Int) +
 (1:Int))+(1:Int))+(1:Int))∧i64.wrap (i64.wrap (i64.wrap ((0:Int)+(1:Int))+(1:Int))+(1:Int))<(↑(4:Nat):Int)∧(4:Nat) ≤
 ((((List.replicate (4:Nat) ((K.flt f64).pair ((K.flt f64).pair (K.flt f64))).dflt).set (Int.toNat (0:Int)) (Zy n (Z1 n c).fst
 (i64.wrap ((Z1 n c).snd.fst+List.getD ([[(0:Int),(0:Int)],[(1:Int),(0:Int)],[(1:Int),(1:Int)],[(0:Int),(1:Int)]].getD (Int.toNat (0:Int))
 (K.arr (2:Nat) (K.int i64)).dflt) (Int.toNat (0:Int)) (0:Int))) (i64.wrap ((Z1 n c).snd.snd.fst+List.getD ([[(0:Int),(0:Int)],[(1:Int),(0 :
 Int)],[(1:Int),(1:Int)],[(0:Int),(1:Int)]].getD (Int.toNat (0:Int)) (K.arr (2:Nat) (K.int i64)).dflt) (Int.toNat (1:Int)) (0:Int)))).fst).set
 (i64.wrap ((0:Int)+(1:Int))).toNat (Zy n (Z1 n c).fst (i64.wrap ((Z1 n c).snd.fst+List.getD ([[(0:Int),(0:Int)],[(1:Int),(0 :
 Int)],[(1:Int),(1:Int)],[(0:Int),(1:Int)]].getD (i64.wrap ((0:Int)+(1:Int))).toNat (K.arr (2:Nat) (K.int i64)).dflt) (Int.toNat (0:Int)) (0 :
 Int))) (i64.wrap ((Z1 n c).snd.snd.fst+List.getD ([[(0:Int),(0:Int)],[(1:Int),(0:Int)],[(1:Int),(1:Int)],[(0:Int),(1:Int)]].getD
 (i64.wrap ((0:Int)+(1:Int))).toNat (K.arr (2:Nat) (K.int i64)).dflt) (Int.toNat (1:Int)) (0:Int)))).fst).set (i64.wrap (i64.wrap ((0 :
 Int)+(1:Int))+(1:Int))).toNat (Zy n (Z1 n c).fst (i64.wrap ((Z1 n c).snd.fst+List.getD ([[(0:Int),(0:Int)],[(1:Int),(0:Int)],[(1 :
 Int),(1:Int)],[(0:Int),(1:Int)]].getD (i64.wrap (i64.wrap ((0:Int)+(1:Int))+(1:Int))).toNat (K.arr (2:Nat) (K.int i64)).dflt)
 (Int.toNat (0:Int)) (0:Int))) (i64.wrap ((Z1 n c).snd.snd.fst+List.getD ([[(0:Int),(0:Int)],[(1:Int),(0:Int)],[(1:Int),(1:Int)],[(0:Int),(1
 : Int)]].getD (i64.wrap (i64.wrap ((0:Int)+(1:Int))+(1:Int))).toNat (K.arr (2:Nat) (K.int i64)).dflt) (Int.toNat (1:Int)) (0 :
 Int)))).fst).length),∃ (h:(((((List.replicate (4:Nat) ((K.flt f64).pair ((K.flt f64).pair (K.flt f64))).dflt).set (Int.toNat (0:Int))
 (Zy n (Z1 n c).fst (i64.wrap ((Z1 n c).snd.fst+List.getD ([[(0:Int),(0:Int)],[(1:Int),(0:Int)],[(1:Int),(1:Int)],[(0:Int),(1 :
 Int)]].getD (Int.toNat (0:Int)) (K.arr (2:Nat) (K.int i64)).dflt) (Int.toNat (0:Int)) (0:Int))) (i64.wrap ((Z1 n c).snd.snd.fst+List.getD ([[(0 :
 Int),(0:Int)],[(1:Int),(0:Int)],[(1:Int),(1:Int)],[(0:Int),(1:Int)]].getD (Int.toNat (0:Int)) (K.arr (2:Nat) (K.int i64)).dflt) (Int.toNat (1 :
 Int)) (0:Int)))).fst).set (i64.wrap ((0:Int)+(1:Int))).toNat (Zy n (Z1 n c).fst (i64.wrap ((Z1 n c).snd.fst+List.getD ([[(0:Int),(0 :
 Int)],[(1:Int),(0:Int)],[(1:Int),(1:Int)],[(0:Int),(1:Int)]].getD (i64.wrap ((0:Int)+(1:Int))).toNat (K.arr (2:Nat) (K.int i64)).dflt)
 (Int.toNat (0:Int)) (0:Int))) (i64.wrap ((Z1 n c).snd.snd.fst+List.getD ([[(0:Int),(0:Int)],[(1:Int),(0:Int)],[(1:Int),(1:Int)],[(0:Int),(1
 : Int)]].getD (i64.wrap ((0:Int)+(1:Int))).toNat (K.arr (2:Nat) (K.int i64)).dflt) (Int.toNat (1:Int)) (0:Int)))).fst).set (i64.wrap
 (i64.wrap ((0:Int)+(1:Int))+(1:Int))).toNat (Zy n (Z1 n c).fst (i64.wrap ((Z1 n c).snd.fst+List.getD ([[(0:Int),(0:Int)],[(1 :
 Int),(0:Int)],[(1:Int),(1:Int)],[(0:Int),(1:Int)]].getD (i64.wrap (i64.wrap ((0:Int)+(1:Int))+(1:Int))).toNat (K.arr (2:Nat) (K.int
 i64)).dflt) (Int.toNat (0:Int)) (0:Int))) (i64.wrap ((Z1 n c).snd.snd.fst+List.getD ([[(0:Int),(0:Int)],[(1:Int),(0:Int)],[(1:Int),(1 :
 Int)],[(0:Int),(1:Int)]].getD (i64.wrap (i64.wrap ((0:Int)+(1:Int))+(1:Int))).toNat (K.arr (2:Nat) (K.int i64)).dflt) (Int.toNat (1 :
 Int)) (0:Int)))).fst).set (i64.wrap (i64.wrap (i64.wrap ((0:Int)+(1:Int))+(1:Int))+(1:Int))).toNat (Zy n (Z1 n c).fst
 (i64.wrap ((Z1 n c).snd.fst+List.getD ([[(0:Int),(0:Int)],[(1:Int),(0:Int)],[(1:Int),(1:Int)],[(0:Int),(1:Int)]].getD (i64.wrap
 (i64.wrap (i64.wrap ((0:Int)+(1:Int))+(1:Int))+(1:Int))).toNat (K.arr (2:Nat) (K.int i64)).dflt) (Int.toNat (0:Int)) (0:Int)))
 (i64.wrap ((Z1 n c).snd.snd.fst+List.getD ([[(0:Int),(0:Int)],[(1:Int),(0:Int)],[(1:Int),(1:Int)],[(0:Int),(1:Int)]].getD (i64.wrap
 (i64.wrap (i64.wrap ((0:Int)+(1:Int))+(1:Int))+(1:Int))).toNat (K.arr (2:Nat) (K.int i64)).dflt) (Int.toNat (1:Int)) (0 :
 Int)))).fst).length=(4:Nat)),∃ (h:(List.replicate (4:Nat) ((K.flt f64).pair ((K.flt f64).pair (K.flt f64))).dflt).length=(4 :
 Nat)∧(((((List.replicate (4:Nat) ((K.flt f64).pair ((K.flt f64).pair (K.flt f64))).dflt).set (Int.toNat (0:Int)) (Zy n (Z1 n
 c).fst (i64.wrap ((Z1 n c).snd.fst+List.getD ([[(0:Int),(0:Int)],[(1:Int),(0:Int)],[(1:Int),(1:Int)],[(0:Int),(1:Int)]].getD (Int.toNat (0 :
 Int)) (K.arr (2:Nat) (K.int i64)).dflt) (Int.toNat (0:Int)) (0:Int))) (i64.wrap ((Z1 n c).snd.snd.fst+List.getD ([[(0:Int),(0:Int)],[(1:Int),
 (0:Int)],[(1:Int),(1:Int)],[(0:Int),(1:Int)]].getD (Int.toNat (0:Int)) (K.arr (2:Nat) (K.int i64)).dflt) (Int.toNat (1:Int)) (0:Int)))).fst).set
 (i64.wrap ((0:Int)+(1:Int))).toNat (Zy n (Z1 n c).fst (i64.wrap ((Z1 n c).snd.fst+List.getD ([[(0:Int),(0:Int)],[(1:Int),(0 :
 Int)],[(1:Int),(1:Int)],[(0:Int),(1:Int)]].getD (i64.wrap ((0:Int)+(1:Int))).toNat (K.arr (2:Nat) (K.int i64)).dflt) (Int.toNat (0:Int)) (0 :
 Int))) (i64.wrap ((Z1 n c).snd.snd.fst+List.getD ([[(0:Int),(0:Int)],[(1:Int),(0:Int)],[(1:Int),(1:Int)],[(0:Int),(1:Int)]].getD
 (i64.wrap ((0:Int)+(1:Int))).toNat (K.arr (2:Nat) (K.int i64)).dflt) (Int.toNat (1:Int)) (0:Int)))).fst).set (i64.wrap (i64.wrap ((0 :
 Int)+(1:Int))+(1:Int))).toNat (Zy n (Z1 n c).fst (i64.wrap ((Z1 n c).snd.fst+List.getD ([[(0:Int),(0:Int)],[(1:Int),(0:Int)],[(1 :
 Int),(1:Int)],[(0:Int),(1:Int)]].getD (i64.wrap (i64.wrap ((0:Int)+(1:Int))+(1:Int))).toNat (K.arr (2:Nat) (K.int i64)).dflt)
 (Int.toNat (0:Int)) (0:Int))) (i64.wrap ((Z1 n c).snd.snd.fst+List.getD ([[(0:Int),(0:Int)],[(1:Int),(0:Int)],[(1:Int),(1:Int)],[(0:Int),(1
 : Int)]].getD (i64.wrap (i64.wrap ((0:Int)+(1:Int))+(1:Int))).toNat (K.arr (2:Nat) (K.int i64)).dflt) (Int.toNat (1:Int)) (0 :
 Int)))).fst).set (i64.wrap (i64.wrap (i64.wrap ((0:Int)+(1:Int))+(1:Int))+(1:Int))).toNat (Zy n (Z1 n c).fst (i64.wrap
 ((Z1 n c).snd.fst+List.getD ([[(0:Int),(0:Int)],[(1:Int),(0:Int)],[(1:Int),(1:Int)],[(0:Int),(1:Int)]].getD (i64.wrap (i64.wrap
 (i64.wrap ((0:Int)+(1:Int))+(1:Int))+(1:Int))).toNat (K.arr (2:Nat) (K.int i64)).dflt) (Int.toNat (0:Int)) (0:Int))) (i64.wrap
 ((Z1 n c).snd.snd.fst+List.getD ([[(0:Int),(0:Int)],[(1:Int),(0:Int)],[(1:Int),(1:Int)],[(0:Int),(1:Int)]].getD (i64.wrap (i64.wrap
 (i64.wrap ((0:Int)+(1:Int))+(1:Int))+(1:Int))).toNat (K.arr (2:Nat) (K.int i64)).dflt) (Int.toNat (1:Int)) (0:Int)))).fst).length=(4:Nat)),
 ∃ (h:(((((List.replicate (4:Nat) ((K.flt f64).pair ((K.flt f64).pair (K.flt f64))).dflt).set (Int.toNat (0:Int)) (Zy n (Z1 n
 c).fst (i64.wrap ((Z1 n c).snd.fst+List.getD ([[(0:Int),(0:Int)],[(1:Int),(0:Int)],[(1:Int),(1:Int)],[(0:Int),(1:Int)]].getD (Int.toNat (0 :
 Int)) (K.arr (2:Nat) (K.int i64)).dflt) (Int.toNat (0:Int)) (0:Int))) (i64.wrap ((Z1 n c).snd.snd.fst+List.getD ([[(0:Int),(0:Int)],[(1:Int),
 (0:Int)],[(1:Int),(1:Int)],[(0:Int),(1:Int)]].getD (Int.toNat (0:Int)) (K.arr (2:Nat) (K.int i64)).dflt) (Int.toNat (1:Int)) (0:Int)))).fst).set
 (i64.wrap ((0:Int)+(1:Int))).toNat (Zy n (Z1 n c).fst (i64.wrap ((Z1 n c).snd.fst+List.getD ([[(0:Int),(0:Int)],[(1:Int),(0 :
 Int)],[(1:Int),(1:Int)],[(0:Int),(1:Int)]].getD (i64.wrap ((0:Int)+(1:Int))).toNat (K.arr (2:Nat) (K.int i64)).dflt) (Int.toNat (0:Int)) (0 :
 Int))) (i64.wrap ((Z1 n c).snd.snd.fst+List.getD ([[(0:Int),(0:Int)],[(1:Int),(0:Int)],[(1:Int),(1:Int)],[(0:Int),(1:Int)]].getD
 (i64.wrap ((0:Int)+(1:Int))).toNat (K.arr (2:Nat) (K.int i64)).dflt) (Int.toNat (1:Int)) (0:Int)))).fst).set (i64.wrap (i64.wrap ((0 :
 Int)+(1:Int))+(1:Int))).toNat (Zy n (Z1 n c).fst (i64.wrap ((Z1 n c).snd.fst+List.getD ([[(0:Int),(0:Int)],[(1:Int),(0:Int)],[(1 :
 Int),(1:Int)],[(0:Int),(1:Int)]].getD (i64.wrap (i64.wrap ((0:Int)+(1:Int))+(1:Int))).toNat (K.arr (2:Nat) (K.int i64)).dflt)
 (Int.toNat (0:Int)) (0:Int))) (i64.wrap ((Z1 n c).snd.snd.fst+List.getD ([[(0:Int),(0:Int)],[(1:Int),(0:Int)],[(1:Int),(1:Int)],[(0:Int),(1
 : Int)]].getD (i64.wrap (i64.wrap ((0:Int)+(1:Int))+(1:Int))).toNat (K.arr (2:Nat) (K.int i64)).dflt) (Int.toNat (1:Int)) (0 :
 Int)))).fst).set (i64.wrap (i64.wrap (i64.wrap ((0:Int)+(1:Int))+(1:Int))+(1:Int))).toNat (Zy n (Z1 n c).fst (i64.wrap
 ((Z1 n c).snd.fst+List.getD ([[(0:Int),(0:Int)],[(1:Int),(0:Int)],[(1:Int),(1:Int)],[(0:Int),(1:Int)]].getD (i64.wrap (i64.wrap
 (i64.wrap ((0:Int)+(1:Int))+(1:Int))+(1:Int))).toNat (K.arr (2:Nat) (K.int i64)).dflt) (Int.toNat (0:Int)) (0:Int))) (i64.wrap
 ((Z1 n c).snd.snd.fst+List.getD ([[(0:Int),(0:Int)],[(1:Int),(0:Int)],[(1:Int),(1:Int)],[(0:Int),(1:Int)]].getD (i64.wrap (i64.wrap
 (i64.wrap ((0:Int)+(1:Int))+(1:Int))+(1:Int))).toNat (K.arr (2:Nat) (K.int i64)).dflt) (Int.toNat (1:Int)) (0:Int)))).fst).length=(4:Nat)),
 post (((((List.replicate (4:Nat) ((K.flt f64).pair ((K.flt f64).pair (K.flt f64))).dflt).set (Int.toNat (0:Int)) (Zy n (Z1 n
 c).fst (i64.wrap ((Z1 n c).snd.fst+List.getD ([[(0:Int),(0:Int)],[(1:Int),(0:Int)],[(1:Int),(1:Int)],[(0:Int),(1:Int)]].getD (Int.toNat (0 :
 Int)) (K.arr (2:Nat) (K.int i64)).dflt) (Int.toNat (0:Int)) (0:Int))) (i64.wrap ((Z1 n c).snd.snd.fst+List.getD ([[(0:Int),(0:Int)],[(1:Int),
 (0:Int)],[(1:Int),(1:Int)],[(0:Int),(1:Int)]].getD (Int.toNat (0:Int)) (K.arr (2:Nat) (K.int i64)).dflt) (Int.toNat (1:Int)) (0:Int)))).fst).set
 (i64.wrap ((0:Int)+(1:Int))).toNat (Zy n (Z1 n c).fst (i64.wrap ((Z1 n c).snd.fst+List.getD ([[(0:Int),(0:Int)],[(1:Int),(0 :
 Int)],[(1:Int),(1:Int)],[(0:Int),(1:Int)]].getD (i64.wrap ((0:Int)+(1:Int))).toNat (K.arr (2:Nat) (K.int i64)).dflt) (Int.toNat (0:Int)) (0 :
 Int))) (i64.wrap ((Z1 n c).snd.snd.fst+List.getD ([[(0:Int),(0:Int)],[(1:Int),(0:Int)],[(1:Int),(1:Int)],[(0:Int),(1:Int)]].getD
 (i64.wrap ((0:Int)+(1:Int))).toNat (K.arr (2:Nat) (K.int i64)).dflt) (Int.toNat (1:Int)) (0:Int)))).fst).set (i64.wrap (i64.wrap ((0 :
 Int)+(1:Int))+(1:Int))).toNat (Zy n (Z1 n c).fst (i64.wrap ((Z1 n c).snd.fst+List.getD ([[(0:Int),(0:Int)],[(1:Int),(0:Int)],[(1 :
 Int),(1:Int)],[(0:Int),(1:Int)]].getD (i64.wrap (i64.wrap ((0:Int)+(1:Int))+(1:Int))).toNat (K.arr (2:Nat) (K.int i64)).dflt)
 (Int.toNat (0:Int)) (0:Int))) (i64.wrap ((Z1 n c).snd.snd.fst+List.getD ([[(0:Int),(0:Int)],[(1:Int),(0:Int)],[(1:Int),(1:Int)],[(0:Int),(1
 : Int)]].getD (i64.wrap (i64.wrap ((0:Int)+(1:Int))+(1:Int))).toNat (K.arr (2:Nat) (K.int i64)).dflt) (Int.toNat (1:Int)) (0 :
 Int)))).fst).set (i64.wrap (i64.wrap (i64.wrap ((0:Int)+(1:Int))+(1:Int))+(1:Int))).toNat (Zy n (Z1 n c).fst (i64.wrap
 ((Z1 n c).snd.fst+List.getD ([[(0:Int),(0:Int)],[(1:Int),(0:Int)],[(1:Int),(1:Int)],[(0:Int),(1:Int)]].getD (i64.wrap (i64.wrap
 (i64.wrap ((0:Int)+(1:Int))+(1:Int))+(1:Int))).toNat (K.arr (2:Nat) (K.int i64)).dflt) (Int.toNat (0:Int)) (0:Int))) (i64.wrap
 ((Z1 n c).snd.snd.fst+List.getD ([[(0:Int),(0:Int)],[(1:Int),(0:Int)],[(1:Int),(1:Int)],[(0:Int),(1:Int)]].getD (i64.wrap (i64.wrap
 (i64.wrap ((0:Int)+(1:Int))+(1:Int))+(1:Int))).toNat (K.arr (2:Nat) (K.int i64)).dflt) (Int.toNat (1:Int)) (0:Int)))).fst,true,()))
theorem Zt0 (n:Int) (c:Int) (h:II n c):Z7q  n c (fun r=>r=Zo n c):=by
 obtain ⟨hn,hc⟩:=h
 refine ⟨⟨hn,hc⟩,Br.intro (fun e=>?_) fun e=>?_⟩
 ·refine ⟨⟨by decide,by decide⟩,by decide,?_⟩
  have ok:Zh n c=false:=by
   cases q:Zh n c with
   | false=>rfl
   | true=>unfold Z1 at e; rw [if_pos q] at e; cases e
  unfold Zo; rw [if_neg (by rw [ok]; decide)]
 have ok:Zh n c=true:=by
  cases q:Zh n c with
  | true=>rfl
  | false=>unfold Z1 at e; rw [if_neg (by rw [q]; decide)] at e; cases e
 obtain ⟨h1,h2,h3,h4,h5,h6⟩:=Z99 ok
 obtain ⟨r1,r2,r3,r4,r5,r6⟩:=Zle ok
 have hp:Z1 n c=(c / (n*n),c % n,c / n % n,true,()):=by unfold Z1; rw [if_pos ok]
 have hf:I64 (c / (n*n)):=⟨by omega,by omega⟩
 have ho:∀ x,0≤x→x≤33→I64 x:=fun x a b=>⟨by omega,by omega⟩
 have w0:∀ x,0≤x→x≤33→i64.wrap (x+0)=x:=fun x a b=>by rw [Int.add_zero,wi (ho x a b)]
 have w1:∀ x,0≤x→x≤32→i64.wrap (x+1)=x+1:=fun x a b=>wi (ho _ (by omega) (by omega))
 have hC:∀ i j,0≤i→i≤n→0≤j→j≤n→Zy n (c / (n*n)) i j=(Z76 n (c / (n*n)) i j,true,()):=by
  intro i j a1 a2 a3 a4
  unfold Zy
  rw [if_pos]
  unfold Z57
  rw [Z27.2 ⟨h1,h2⟩,decide_eq_true (by omega),decide_eq_true (by omega),decide_eq_true (by omega),decide_eq_true (by omega),decide_eq_true (by omega),decide_eq_true (by omega)]
  rfl
 have a0:=w0 (c % n) (by omega) (by omega)
 have a1:=w1 (c % n) (by omega) (by omega)
 have b0:=w0 (c / n % n) (by omega) (by omega)
 have b1:=w1 (c / n % n) (by omega) (by omega)
 have A0:I64 (i64.wrap (c % n+0)):=by rw [a0]; exact ho _ (by omega) (by omega)
 have A1:I64 (i64.wrap (c % n+1)):=by rw [a1]; exact ho _ (by omega) (by omega)
 have B0:I64 (i64.wrap (c / n % n+0)):=by rw [b0]; exact ho _ (by omega) (by omega)
 have B1:I64 (i64.wrap (c / n % n+1)):=by rw [b1]; exact ho _ (by omega) (by omega)
 rw [hp]
 refine ⟨by decide,⟨by decide,by decide⟩,⟨by decide,by decide,by decide⟩,⟨by decide,by decide,by decide⟩,⟨hn,hf,A0,B0⟩,⟨by decide,by decide,Nat.le_refl 4⟩,
  by decide,⟨by decide,by decide⟩,⟨by decide,by decide,by decide⟩,⟨by decide,by decide,by decide⟩,⟨hn,hf,A1,B0⟩,⟨by decide,by decide,Nat.le_refl 4⟩,
  by decide,⟨by decide,by decide⟩,⟨by decide,by decide,by decide⟩,⟨by decide,by decide,by decide⟩,⟨hn,hf,A1,B1⟩,⟨by decide,by decide,Nat.le_refl 4⟩,
  by decide,⟨by decide,by decide⟩,⟨by decide,by decide,by decide⟩,⟨by decide,by decide,by decide⟩,⟨hn,hf,A0,B1⟩,⟨by decide,by decide,Nat.le_refl 4⟩,rfl,⟨rfl,rfl⟩,rfl,?_⟩
 show ([(Zy n (c / (n*n)) (i64.wrap (c % n+0)) (i64.wrap (c / n % n+0))).1,(Zy n (c / (n*n)) (i64.wrap (c % n+1)) (i64.wrap (c / n % n+0))).1,(Zy n (c / (n*n)) (i64.wrap (c % n+1)) (i64.wrap (c / n % n+1))).1,(Zy n (c / (n*n)) (i64.wrap (c % n+0)) (i64.wrap (c / n % n+1))).1],true,())=_
 rw [a0,a1,b0,b1,hC _ _ (by omega) (by omega) (by omega) (by omega),hC _ _ (by omega) (by omega) (by omega) (by omega),hC _ _ (by omega) (by omega) (by omega) (by omega),hC _ _ (by omega) (by omega) (by omega) (by omega)]
 unfold Zo; rw [if_pos ok]
def Zd9:=fun (n c:Int) (post:Int × Unit→Prop)=>∃ (h:II n c),∃ (h:(List.replicate (4:Nat) ((K.flt f64).pair ((K.flt f64).pair
 (K.flt f64))).dflt).length=(4:Nat)∧(Zo n c).fst.length=(4:Nat)),Br (!(Zo n c).snd.fst) (post ((0:Int),())) (∃ (h:(0:Int)≤(2:Int) ∧
 (2:Int)<(↑(4:Nat):Int)∧(4:Nat)≤(Zo n c).fst.length),∃ (h:(0:Int)≤(0:Int)∧(0:Int)<(↑(4:Nat):Int)∧(4:Nat)≤(Zo n c).fst.length),∃
 (h:WV2 ((Zo n c).fst.getD (Int.toNat (2:Int)) ((K.flt f64).pair ((K.flt f64).pair (K.flt f64))).dflt) ((Zo n c).fst.getD
 (Int.toNat (0:Int)) ((K.flt f64).pair ((K.flt f64).pair (K.flt f64))).dflt)),∃ (h:(0:Int)≤(3:Int)∧(3:Int)<(↑(4:Nat) :
 Int)∧(4:Nat)≤(Zo n c).fst.length),∃ (h:(0:Int)≤(1:Int)∧(1:Int)<(↑(4:Nat):Int)∧(4:Nat)≤(Zo n c).fst.length),∃ (h:WV2 ((Zo n
 c).fst.getD (Int.toNat (3:Int)) ((K.flt f64).pair ((K.flt f64).pair (K.flt f64))).dflt) ((Zo n c).fst.getD (Int.toNat (1:Int))
 ((K.flt f64).pair ((K.flt f64).pair (K.flt f64))).dflt)),∃ (h:True),∃ (h:WV (Zlb (Z6f ((Zo n c).fst.getD (Int.toNat (2 :
 Int)) ((K.flt f64).pair ((K.flt f64).pair (K.flt f64))).dflt) ((Zo n c).fst.getD (Int.toNat (0:Int)) ((K.flt f64).pair
 ((K.flt f64).pair (K.flt f64))).dflt)).fst (Z6f ((Zo n c).fst.getD (Int.toNat (3:Int)) ((K.flt f64).pair ((K.flt
 f64).pair (K.flt f64))).dflt) ((Zo n c).fst.getD (Int.toNat (1:Int)) ((K.flt f64).pair ((K.flt f64).pair (K.flt
 f64))).dflt)).fst).fst),∀ (a:Nat),FRes f64 (f64.format.mul (Z3q (Zlb (Z6f ((Zo n c).fst.getD (Int.toNat (2:Int))
 ((K.flt f64).pair ((K.flt f64).pair (K.flt f64))).dflt) ((Zo n c).fst.getD (Int.toNat (0:Int)) ((K.flt f64).pair
 ((K.flt f64).pair (K.flt f64))).dflt)).fst (Z6f ((Zo n c).fst.getD (Int.toNat (3:Int)) ((K.flt f64).pair ((K.flt
 f64).pair (K.flt f64))).dflt) ((Zo n c).fst.getD (Int.toNat (1:Int)) ((K.flt f64).pair ((K.flt f64).pair (K.flt
 f64))).dflt)).fst).fst).fst (4602678819172646912:Nat)) a→∀ (a_1:Nat),FRes f64 (f64.format.mul a (4742290407621132288:Nat)) a_1→∃
 (h:W64 a_1),post (imax (Zcx a_1).fst (1:Int),()))
theorem Z11j (n:Int) (c:Int) (h:II n c):Zd9  n c (fun r=>r=Zs8 n c):=by
 have g0:∀ i:Nat,WV ((Zo n c).fst.getD i ((K.flt f64).pair ((K.flt f64).pair (K.flt f64))).dflt):=Z17w n c
 have hl:=Zot n c
 refine ⟨h,⟨by decide,hl⟩,?_⟩
 rw [hl]
 refine Br.intro (fun e=>?_) fun e=>?_
 ·rw [Zi9] at e
  exact congrArg r1 (by unfold Z14; rw [if_neg (by intro q; rw [q] at e; cases e)])
 rw [Zi9] at e
 have ok:Zh n c=true:=by simpa using e
 refine ⟨⟨by decide,by decide,Nat.le_refl 4⟩,⟨by decide,by decide,Nat.le_refl 4⟩,⟨g0 2,g0 0⟩,⟨by decide,by decide,Nat.le_refl 4⟩,⟨by decide,by decide,Nat.le_refl 4⟩,⟨g0 3,g0 1⟩,trivial,Z19q _ _,?_⟩
 intro x hx y hy
 obtain ⟨x1,x2⟩:=fmul hx
 obtain ⟨y1,y2⟩:=fmul hy
 refine ⟨y2,congrArg r1 ?_⟩
 have hs:Zo n c=([Z1h n c 0 0,Z1h n c 1 0,Z1h n c 1 1,Z1h n c 0 1],true,()):=by
  unfold Zo; rw [if_pos ok]; unfold Z1h; rw [Int.add_zero,Int.add_zero]
 have hq:[Z1h n c 0 0,Z1h n c 1 0,Z1h n c 1 1,Z1h n c 0 1]=(Zo n c).1:=by rw [hs]
 have hx1:Zb x=mulQ (Zs7 n c) Z6l:=by
  rw [x1]
  exact congrArg (fun z=>mulQ z 4602678819172646912) (Z1c9 (z:=(0,0,0)) hq.symm)
 have hy1:Zb y=mulQ (mulQ (Zs7 n c) Z6l) Zpe:=by
  rw [y1]
  have u:Zb x=Zb (mulQ (Zs7 n c) Z6l):=by rw [hx1,Zg3]
  exact Z14n u rfl
 show imax (Z39 y).1 1=Z14 n c
 unfold Z14
 rw [if_pos ok,Z12t y2,hy1]
end Go.Lift
