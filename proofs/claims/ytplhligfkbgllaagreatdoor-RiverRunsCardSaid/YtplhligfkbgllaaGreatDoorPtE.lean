/- A part of the proof of RiverRunsCard: an own lifter of code into plain terms, and plain laws. -/
import Derived.Test.YtplhligfkbgllaaGreatDoorPtD
set_option linter.unusedVariables false
set_option linter.unusedSimpArgs false
set_option linter.unusedSectionVars false
open Go.IntKind (i64 u64 u32 u8)
open Go.FloatKind (f64 f32)
namespace Go.Lift
def Zfg:=fun (a b:Int) (post:Nat × Unit→Prop)=>∀ (a_1:Nat),FRes f64 (f64.format.div (f64.nearest a)
 (f64.nearest b)) a_1→post (a_1,())
theorem Z1eu (a:Int) (b:Int) (h:Z76 a b):Zfg  a b (fun r=>r=Z1s a b):=by
 intro r hr
 exact congrArg r1 (Zy3 h.1 h.2.1 h.2.2 hr)
def Zfh:=fun (ty72 ty98:Nat) (f:Int) (s t:Nat) (post:(Nat × Nat × Nat) × Unit→Prop)=>∃ (post_1:Unit→List Nat × Unit→Prop),(∃ (h:(0:Int)≤(0 :
 Int)∧(0:Int)<(↑(3:Nat):Int)),∃ (h:(0:Int)≤f∧f<(↑(6:Nat):Int)),∃ (h:(0:Int)≤(0:Int)∧(0:Int)<(↑(3:Nat):Int)),∃ (h:(0:Int)≤(0 :
 Int)∧(0:Int)<(↑(3:Nat):Int)),Br (List.getD (List.getD (Zq.getD f.toNat (K.arr (3:Nat) (K.arr (3:Nat) (K.int i64))).dflt) (Int.toNat (0:Int)) (K.arr
 (3:Nat) (K.int i64)).dflt) (Int.toNat (0:Int)) (0:Int)==(1:Int)) (∃ (h:True),∃ (h:(0:Int)≤(0:Int)∧(0:Int)<(↑(3:Nat):Int)∧(3:Nat) ≤
 (List.replicate (3:Nat) (0:Nat)).length),HIs [HObj.box Md.rw ty72 [SV.val (Go.Value.float f64 (0:Nat)),SV.val (Go.Value.float f64 (0:Nat)),
 SV.val (Go.Value.float f64 (0:Nat))],HObj.row Md.rw ty98 (K.flt f64) ((List.replicate (3:Nat) (0:Nat)).set (Int.toNat (0:Int)) (Zk
 ([(4607182418800017408:Nat),s,t].getD (Int.toNat (0:Int)) (0:Nat))).fst)] [HObj.box Md.rw ty72 [SV.val (Go.Value.float f64 (0:Nat)),SV.val (Go.Value.float
 f64 (0:Nat)),SV.val (Go.Value.float f64 (0:Nat))],HObj.row Md.rw ty98 (K.flt f64) ((List.replicate (3:Nat) (0:Nat)).set (Int.toNat
 (0:Int)) (Zk ([(4607182418800017408:Nat),s,t].getD (Int.toNat (0:Int)) (0:Nat))).fst)]∧post_1 () ((List.replicate (3:Nat) (0:Nat)).set (Int.toNat (0:Int))
 (Zk ([(4607182418800017408:Nat),s,t].getD (Int.toNat (0:Int)) (0:Nat))).fst,())) (Br (List.getD (List.getD (Zq.getD f.toNat (K.arr (3:Nat) (K.arr (3:Nat)
 (K.int i64))).dflt) (Int.toNat (0:Int)) (K.arr (3:Nat) (K.int i64)).dflt) (Int.toNat (0:Int)) (0:Int)==(-1:Int)) (∃ (h:True),∃ (h:(0:Int)≤(0 :
 Int)∧(0:Int)<(↑(3:Nat):Int)∧(3:Nat)≤(List.replicate (3:Nat) (0:Nat)).length),HIs [HObj.box Md.rw ty72 [SV.val (Go.Value.float f64 (0:Nat)),
 SV.val (Go.Value.float f64 (0:Nat)),SV.val (Go.Value.float f64 (0:Nat))],HObj.row Md.rw ty98 (K.flt f64) ((List.replicate (3:Nat) (0
 : Nat)).set (Int.toNat (0:Int)) (Zk (Go.Op.negFloat f64 ([(4607182418800017408:Nat),s,t].getD (Int.toNat (0:Int)) (0:Nat)))).fst)] [HObj.box Md.rw ty72
 [SV.val (Go.Value.float f64 (0:Nat)),SV.val (Go.Value.float f64 (0:Nat)),SV.val (Go.Value.float f64 (0:Nat))],HObj.row Md.rw ty98
 (K.flt f64) ((List.replicate (3:Nat) (0:Nat)).set (Int.toNat (0:Int)) (Zk (Go.Op.negFloat f64 ([(4607182418800017408:Nat),s,t].getD
 (Int.toNat (0:Int)) (0:Nat)))).fst)]∧post_1 () ((List.replicate (3:Nat) (0:Nat)).set (Int.toNat (0:Int)) (Zk (Go.Op.negFloat f64
 ([(4607182418800017408:Nat),s,t].getD (Int.toNat (0:Int)) (0:Nat)))).fst,())) (HIs [HObj.box Md.rw ty72 [SV.val (Go.Value.float f64 (0:Nat)),SV.val
 (Go.Value.float f64 (0:Nat)),SV.val (Go.Value.float f64 (0:Nat))],HObj.row Md.rw ty98 (K.flt f64) (List.replicate (3:Nat) (0 :
 Nat))] [HObj.box Md.rw ty72 [SV.val (Go.Value.float f64 (0:Nat)),SV.val (Go.Value.float f64 (0:Nat)),SV.val (Go.Value.float f64 (0 :
 Nat))],HObj.row Md.rw ty98 (K.flt f64) (List.replicate (3:Nat) (0:Nat))]∧post_1 () (List.replicate (3:Nat) (0:Nat),()))))∧∀ (x:Unit) (y:List Nat ×
 Unit),post_1 x y→∃ (post_2:Unit→List Nat × Unit→Prop),(∃ (h:(0:Int)≤i64.wrap ((0:Int)+(1:Int))∧i64.wrap ((0:Int)+(1:Int))<(↑(3 :
 Nat):Int)),∃ (h:(0:Int)≤f∧f<(↑(6:Nat):Int)),∃ (h:(0:Int)≤i64.wrap ((0:Int)+(1:Int))∧i64.wrap ((0:Int)+(1:Int))<(↑(3:Nat)
 : Int)),∃ (h:(0:Int)≤(0:Int)∧(0:Int)<(↑(3:Nat):Int)),Br (List.getD (List.getD (Zq.getD f.toNat (K.arr (3:Nat) (K.arr (3:Nat) (K.int
 i64))).dflt) (i64.wrap ((0:Int)+(1:Int))).toNat (K.arr (3:Nat) (K.int i64)).dflt) (Int.toNat (0:Int)) (0:Int)==(1:Int)) (∃ (h:True),∃ (h
 : (0:Int)≤(0:Int)∧(0:Int)<(↑(3:Nat):Int)∧(3:Nat)≤y.fst.length),HIs [HObj.box Md.rw ty72 [SV.val (Go.Value.float f64 (0:Nat)),SV.val
 (Go.Value.float f64 (0:Nat)),SV.val (Go.Value.float f64 (0:Nat))],HObj.row Md.rw ty98 (K.flt f64) (y.fst.set (Int.toNat (0:Int))
 (Zk ([(4607182418800017408:Nat),s,t].getD (i64.wrap ((0:Int)+(1:Int))).toNat (0:Nat))).fst)] [HObj.box Md.rw ty72 [SV.val (Go.Value.float f64
 (0:Nat)),SV.val (Go.Value.float f64 (0:Nat)),SV.val (Go.Value.float f64 (0:Nat))],HObj.row Md.rw ty98 (K.flt f64) (y.fst.set
 (Int.toNat (0:Int)) (Zk ([(4607182418800017408:Nat),s,t].getD (i64.wrap ((0:Int)+(1:Int))).toNat (0:Nat))).fst)]∧post_2 () (y.fst.set (Int.toNat (0 :
 Int)) (Zk ([(4607182418800017408:Nat),s,t].getD (i64.wrap ((0:Int)+(1:Int))).toNat (0:Nat))).fst,())) (Br (List.getD (List.getD (Zq.getD f.toNat
 (K.arr (3:Nat) (K.arr (3:Nat) (K.int i64))).dflt) (i64.wrap ((0:Int)+(1:Int))).toNat (K.arr (3:Nat) (K.int i64)).dflt) (Int.toNat (0:Int)) (0
 : Int)==(-1:Int)) (∃ (h:True),∃ (h:(0:Int)≤(0:Int)∧(0:Int)<(↑(3:Nat):Int)∧(3:Nat)≤y.fst.length),HIs [HObj.box Md.rw ty72 [SV.val (Go.Value.float
 f64 (0:Nat)),SV.val (Go.Value.float f64 (0:Nat)),SV.val (Go.Value.float f64 (0:Nat))],HObj.row Md.rw ty98 (K.flt f64)
 (y.fst.set (Int.toNat (0:Int)) (Zk (Go.Op.negFloat f64 ([(4607182418800017408:Nat),s,t].getD (i64.wrap ((0:Int)+(1:Int))).toNat (0 :
 Nat)))).fst)] [HObj.box Md.rw ty72 [SV.val (Go.Value.float f64 (0:Nat)),SV.val (Go.Value.float f64 (0:Nat)),SV.val (Go.Value.float f64
 (0:Nat))],HObj.row Md.rw ty98 (K.flt f64) (y.fst.set (Int.toNat (0:Int)) (Zk (Go.Op.negFloat f64 ([(4607182418800017408:Nat),s,t].getD
 (i64.wrap ((0:Int)+(1:Int))).toNat (0:Nat)))).fst)]∧post_2 () (y.fst.set (Int.toNat (0:Int)) (Zk (Go.Op.negFloat f64 ([(4607182418800017408 :
 Nat),s,t].getD (i64.wrap ((0:Int)+(1:Int))).toNat (0:Nat)))).fst,())) (HIs [HObj.box Md.rw ty72 [SV.val (Go.Value.float f64 (0:Nat)),SV.val
 (Go.Value.float f64 (0:Nat)),SV.val (Go.Value.float f64 (0:Nat))],HObj.row Md.rw ty98 (K.flt f64) y.fst] [HObj.box Md.rw ty72 [SV.val
 (Go.Value.float f64 (0:Nat)),SV.val (Go.Value.float f64 (0:Nat)),SV.val (Go.Value.float f64 (0:Nat))],HObj.row Md.rw ty98 (K.flt
 f64) y.fst]∧post_2 () (y.fst,()))))∧∀ (x:Unit) (y:List Nat × Unit),post_2 x y→∃ (post_3:Unit→List Nat × Unit→Prop),(∃ (h:(0:Int) ≤
 i64.wrap (i64.wrap ((0:Int)+(1:Int))+(1:Int))∧i64.wrap (i64.wrap ((0:Int)+(1:Int))+(1:Int))<(↑(3:Nat):Int)),∃ (h:(0
 : Int)≤f∧f<(↑(6:Nat):Int)),∃ (h:(0:Int)≤i64.wrap (i64.wrap ((0:Int)+(1:Int))+(1:Int))∧i64.wrap (i64.wrap ((0:Int) +
 (1:Int))+(1:Int))<(↑(3:Nat):Int)),∃ (h:(0:Int)≤(0:Int)∧(0:Int)<(↑(3:Nat):Int)),Br (List.getD (List.getD (Zq.getD f.toNat (K.arr (3:Nat)
 (K.arr (3:Nat) (K.int i64))).dflt) (i64.wrap (i64.wrap ((0:Int)+(1:Int))+(1:Int))).toNat (K.arr (3:Nat) (K.int i64)).dflt) (Int.toNat
 (0:Int)) (0:Int)==(1:Int)) (∃ (h:True),∃ (h:(0:Int)≤(0:Int)∧(0:Int)<(↑(3:Nat):Int)∧(3:Nat)≤y.fst.length),HIs [HObj.box Md.rw ty72 [SV.val
 (Go.Value.float f64 (0:Nat)),SV.val (Go.Value.float f64 (0:Nat)),SV.val (Go.Value.float f64 (0:Nat))],HObj.row Md.rw ty98 (K.flt
 f64) (y.fst.set (Int.toNat (0:Int)) (Zk ([(4607182418800017408:Nat),s,t].getD (i64.wrap (i64.wrap ((0:Int)+(1:Int))+(1 :
 Int))).toNat (0:Nat))).fst)] [HObj.box Md.rw ty72 [SV.val (Go.Value.float f64 (0:Nat)),SV.val (Go.Value.float f64 (0:Nat)),SV.val (Go.Value.float
 f64 (0:Nat))],HObj.row Md.rw ty98 (K.flt f64) (y.fst.set (Int.toNat (0:Int)) (Zk ([(4607182418800017408:Nat),s,t].getD (i64.wrap
 (i64.wrap ((0:Int)+(1:Int))+(1:Int))).toNat (0:Nat))).fst)]∧post_3 () (y.fst.set (Int.toNat (0:Int)) (Zk ([(4607182418800017408:Nat),s,t].getD
 (i64.wrap (i64.wrap ((0:Int)+(1:Int))+(1:Int))).toNat (0:Nat))).fst,())) (Br (List.getD (List.getD (Zq.getD f.toNat (K.arr (3:Nat) (K.arr (3 :
 Nat) (K.int i64))).dflt) (i64.wrap (i64.wrap ((0:Int)+(1:Int))+(1:Int))).toNat (K.arr (3:Nat) (K.int i64)).dflt) (Int.toNat (0:Int))
 (0:Int)==(-1:Int)) (∃ (h:True),∃ (h:(0:Int)≤(0:Int)∧(0:Int)<(↑(3:Nat):Int)∧(3:Nat)≤y.fst.length),HIs [HObj.box Md.rw ty72 [SV.val (Go.Value.float
 f64 (0:Nat)),SV.val (Go.Value.float f64 (0:Nat)),SV.val (Go.Value.float f64 (0:Nat))],HObj.row Md.rw ty98 (K.flt f64)
 (y.fst.set (Int.toNat (0:Int)) (Zk (Go.Op.negFloat f64 ([(4607182418800017408:Nat),s,t].getD (i64.wrap (i64.wrap ((0:Int)+(1:Int)) +
 (1:Int))).toNat (0:Nat)))).fst)] [HObj.box Md.rw ty72 [SV.val (Go.Value.float f64 (0:Nat)),SV.val (Go.Value.float f64 (0:Nat)),SV.val
 (Go.Value.float f64 (0:Nat))],HObj.row Md.rw ty98 (K.flt f64) (y.fst.set (Int.toNat (0:Int)) (Zk (Go.Op.negFloat f64
 ([(4607182418800017408:Nat),s,t].getD (i64.wrap (i64.wrap ((0:Int)+(1:Int))+(1:Int))).toNat (0:Nat)))).fst)]∧post_3 () (y.fst.set (Int.toNat (0 :
 Int)) (Zk (Go.Op.negFloat f64 ([(4607182418800017408:Nat),s,t].getD (i64.wrap (i64.wrap ((0:Int)+(1:Int))+(1:Int))).toNat (0 :
 Nat)))).fst,())) (HIs [HObj.box Md.rw ty72 [SV.val (Go.Value.float f64 (0:Nat)),SV.val (Go.Value.float f64 (0:Nat)),SV.val (Go.Value.float
 f64 (0:Nat))],HObj.row Md.rw ty98 (K.flt f64) y.fst] [HObj.box Md.rw ty72 [SV.val (Go.Value.float f64 (0:Nat)),SV.val (Go.Value.float
 f64 (0:Nat)),SV.val (Go.Value.float f64 (0:Nat))],HObj.row Md.rw ty98 (K.flt f64) y.fst]∧post_3 () (y.fst,()))))∧∀ (x:Unit) (y
 : List Nat × Unit),post_3 x y→∃ (post_4:Unit→List Nat × Unit→Prop),(∃ (h:(0:Int)≤(0:Int)∧(0:Int)<(↑(3:Nat):Int)),∃ (h:(0:Int)≤f∧f<(↑(6 :
 Nat):Int)),∃ (h:(0:Int)≤(0:Int)∧(0:Int)<(↑(3:Nat):Int)),∃ (h:(0:Int)≤i64.wrap ((0:Int)+(1:Int))∧i64.wrap ((0:Int)+(1 :
 Int))<(↑(3:Nat):Int)),Br (List.getD (List.getD (Zq.getD f.toNat (K.arr (3:Nat) (K.arr (3:Nat) (K.int i64))).dflt) (Int.toNat (0:Int)) (K.arr (3:Nat)
 (K.int i64)).dflt) (i64.wrap ((0:Int)+(1:Int))).toNat (0:Int)==(1:Int)) (∃ (h:True),∃ (h:(0:Int)≤i64.wrap ((0:Int)+(1:Int)) ∧
 i64.wrap ((0:Int)+(1:Int))<(↑(3:Nat):Int)∧(3:Nat)≤y.fst.length),HIs [HObj.box Md.rw ty72 [SV.val (Go.Value.float f64 (0:Nat)),SV.val
 (Go.Value.float f64 (0:Nat)),SV.val (Go.Value.float f64 (0:Nat))],HObj.row Md.rw ty98 (K.flt f64) (y.fst.set (i64.wrap ((0 :
 Int)+(1:Int))).toNat (Zk ([(4607182418800017408:Nat),s,t].getD (Int.toNat (0:Int)) (0:Nat))).fst)] [HObj.box Md.rw ty72 [SV.val (Go.Value.float f64 (0
 : Nat)),SV.val (Go.Value.float f64 (0:Nat)),SV.val (Go.Value.float f64 (0:Nat))],HObj.row Md.rw ty98 (K.flt f64) (y.fst.set
 (i64.wrap ((0:Int)+(1:Int))).toNat (Zk ([(4607182418800017408:Nat),s,t].getD (Int.toNat (0:Int)) (0:Nat))).fst)]∧post_4 () (y.fst.set (i64.wrap
 ((0:Int)+(1:Int))).toNat (Zk ([(4607182418800017408:Nat),s,t].getD (Int.toNat (0:Int)) (0:Nat))).fst,())) (Br (List.getD (List.getD (Zq.getD f.toNat (K.arr
 (3:Nat) (K.arr (3:Nat) (K.int i64))).dflt) (Int.toNat (0:Int)) (K.arr (3:Nat) (K.int i64)).dflt) (i64.wrap ((0:Int)+(1:Int))).toNat (0:Int)
 == (-1:Int)) (∃ (h:True),∃ (h:(0:Int)≤i64.wrap ((0:Int)+(1:Int))∧i64.wrap ((0:Int)+(1:Int))<(↑(3:Nat):Int)∧(3:Nat) ≤
 y.fst.length),HIs [HObj.box Md.rw ty72 [SV.val (Go.Value.float f64 (0:Nat)),SV.val (Go.Value.float f64 (0:Nat)),SV.val (Go.Value.float
 f64 (0:Nat))],HObj.row Md.rw ty98 (K.flt f64) (y.fst.set (i64.wrap ((0:Int)+(1:Int))).toNat (Zk (Go.Op.negFloat f64
 ([(4607182418800017408:Nat),s,t].getD (Int.toNat (0:Int)) (0:Nat)))).fst)] [HObj.box Md.rw ty72 [SV.val (Go.Value.float f64 (0:Nat)),SV.val (Go.Value.float
 f64 (0:Nat)),SV.val (Go.Value.float f64 (0:Nat))],HObj.row Md.rw ty98 (K.flt f64) (y.fst.set (i64.wrap ((0:Int)+(1 :
 Int))).toNat (Zk (Go.Op.negFloat f64 ([(4607182418800017408:Nat),s,t].getD (Int.toNat (0:Int)) (0:Nat)))).fst)]∧post_4 () (y.fst.set (i64.wrap
 ((0:Int)+(1:Int))).toNat (Zk (Go.Op.negFloat f64 ([(4607182418800017408:Nat),s,t].getD (Int.toNat (0:Int)) (0:Nat)))).fst,())) (HIs [HObj.box Md.rw
 ty72 [SV.val (Go.Value.float f64 (0:Nat)),SV.val (Go.Value.float f64 (0:Nat)),SV.val (Go.Value.float f64 (0:Nat))],HObj.row Md.rw
 ty98 (K.flt f64) y.fst] [HObj.box Md.rw ty72 [SV.val (Go.Value.float f64 (0:Nat)),SV.val (Go.Value.float f64 (0:Nat)),SV.val
 (Go.Value.float f64 (0:Nat))],HObj.row Md.rw ty98 (K.flt f64) y.fst]∧post_4 () (y.fst,()))))∧∀ (x:Unit) (y:List Nat × Unit),post_4 x y→∃
 (post_5:Unit→List Nat × Unit→Prop),(∃ (h:(0:Int)≤i64.wrap ((0:Int)+(1:Int))∧i64.wrap ((0:Int)+(1:Int))<(↑(3:Nat):Int)),∃ (h:(0
 : Int)≤f∧f<(↑(6:Nat):Int)),∃ (h:(0:Int)≤i64.wrap ((0:Int)+(1:Int))∧i64.wrap ((0:Int)+(1:Int))<(↑(3:Nat):Int)),∃ (h:(0 :
 Int)≤i64.wrap ((0:Int)+(1:Int))∧i64.wrap ((0:Int)+(1:Int))<(↑(3:Nat):Int)),Br (List.getD (List.getD (Zq.getD f.toNat (K.arr (3:Nat)
 (K.arr (3:Nat) (K.int i64))).dflt) (i64.wrap ((0:Int)+(1:Int))).toNat (K.arr (3:Nat) (K.int i64)).dflt) (i64.wrap ((0:Int)+(1 :
 Int))).toNat (0:Int)==(1:Int)) (∃ (h:True),∃ (h:(0:Int)≤i64.wrap ((0:Int)+(1:Int))∧i64.wrap ((0:Int)+(1:Int))<(↑(3:Nat):Int) ∧
 (3:Nat)≤y.fst.length),HIs [HObj.box Md.rw ty72 [SV.val (Go.Value.float f64 (0:Nat)),SV.val (Go.Value.float f64 (0:Nat)),SV.val (Go.Value.float
 f64 (0:Nat))],HObj.row Md.rw ty98 (K.flt f64) (y.fst.set (i64.wrap ((0:Int)+(1:Int))).toNat (Zk ([(4607182418800017408:Nat),s,
 t].getD (i64.wrap ((0:Int)+(1:Int))).toNat (0:Nat))).fst)] [HObj.box Md.rw ty72 [SV.val (Go.Value.float f64 (0:Nat)),SV.val (Go.Value.float
 f64 (0:Nat)),SV.val (Go.Value.float f64 (0:Nat))],HObj.row Md.rw ty98 (K.flt f64) (y.fst.set (i64.wrap ((0:Int)+(1 :
 Int))).toNat (Zk ([(4607182418800017408:Nat),s,t].getD (i64.wrap ((0:Int)+(1:Int))).toNat (0:Nat))).fst)]∧post_5 () (y.fst.set (i64.wrap ((0 :
 Int)+(1:Int))).toNat (Zk ([(4607182418800017408:Nat),s,t].getD (i64.wrap ((0:Int)+(1:Int))).toNat (0:Nat))).fst,())) (Br (List.getD (List.getD
 (Zq.getD f.toNat (K.arr (3:Nat) (K.arr (3:Nat) (K.int i64))).dflt) (i64.wrap ((0:Int)+(1:Int))).toNat (K.arr (3:Nat) (K.int i64)).dflt)
 (i64.wrap ((0:Int)+(1:Int))).toNat (0:Int)==(-1:Int)) (∃ (h:True),∃ (h:(0:Int)≤i64.wrap ((0:Int)+(1:Int))∧i64.wrap ((0:Int)
 + (1:Int))<(↑(3:Nat):Int)∧(3:Nat)≤y.fst.length),HIs [HObj.box Md.rw ty72 [SV.val (Go.Value.float f64 (0:Nat)),SV.val (Go.Value.float
 f64 (0:Nat)),SV.val (Go.Value.float f64 (0:Nat))],HObj.row Md.rw ty98 (K.flt f64) (y.fst.set (i64.wrap ((0:Int)+(1 :
 Int))).toNat (Zk (Go.Op.negFloat f64 ([(4607182418800017408:Nat),s,t].getD (i64.wrap ((0:Int)+(1:Int))).toNat (0:Nat)))).fst)] [HObj.box Md.rw
 ty72 [SV.val (Go.Value.float f64 (0:Nat)),SV.val (Go.Value.float f64 (0:Nat)),SV.val (Go.Value.float f64 (0:Nat))],HObj.row Md.rw
 ty98 (K.flt f64) (y.fst.set (i64.wrap ((0:Int)+(1:Int))).toNat (Zk (Go.Op.negFloat f64 ([(4607182418800017408:Nat),s,t].getD
 (i64.wrap ((0:Int)+(1:Int))).toNat (0:Nat)))).fst)]∧post_5 () (y.fst.set (i64.wrap ((0:Int)+(1:Int))).toNat (Zk (Go.Op.negFloat
 f64 ([(4607182418800017408:Nat),s,t].getD (i64.wrap ((0:Int)+(1:Int))).toNat (0:Nat)))).fst,())) (HIs [HObj.box Md.rw ty72 [SV.val
 (Go.Value.float f64 (0:Nat)),SV.val (Go.Value.float f64 (0:Nat)),SV.val (Go.Value.float f64 (0:Nat))],HObj.row Md.rw ty98 (K.flt
 f64) y.fst] [HObj.box Md.rw ty72 [SV.val (Go.Value.float f64 (0:Nat)),SV.val (Go.Value.float f64 (0:Nat)),SV.val (Go.Value.float
 f64 (0:Nat))],HObj.row Md.rw ty98 (K.flt f64) y.fst]∧post_5 () (y.fst,()))))∧∀ (x:Unit) (y:List Nat × Unit),post_5 x y→∃ (post_6:Unit →
 List Nat × Unit→Prop),(∃ (h:(0:Int)≤i64.wrap (i64.wrap ((0:Int)+(1:Int))+(1:Int))∧i64.wrap (i64.wrap ((0:Int)+(1:Int)) +
 (1:Int))<(↑(3:Nat):Int)),∃ (h:(0:Int)≤f∧f<(↑(6:Nat):Int)),∃ (h:(0:Int)≤i64.wrap (i64.wrap ((0:Int)+(1:Int))+(1:Int)) ∧
 i64.wrap (i64.wrap ((0:Int)+(1:Int))+(1:Int))<(↑(3:Nat):Int)),∃ (h:(0:Int)≤i64.wrap ((0:Int)+(1:Int))∧i64.wrap ((0 :
 Int)+(1:Int))<(↑(3:Nat):Int)),Br (List.getD (List.getD (Zq.getD f.toNat (K.arr (3:Nat) (K.arr (3:Nat) (K.int i64))).dflt) (i64.wrap
 (i64.wrap ((0:Int)+(1:Int))+(1:Int))).toNat (K.arr (3:Nat) (K.int i64)).dflt) (i64.wrap ((0:Int)+(1:Int))).toNat (0:Int)==(1:Int))
 (∃ (h:True),∃ (h:(0:Int)≤i64.wrap ((0:Int)+(1:Int))∧i64.wrap ((0:Int)+(1:Int))<(↑(3:Nat):Int)∧(3:Nat)≤y.fst.length),HIs
 [HObj.box Md.rw ty72 [SV.val (Go.Value.float f64 (0:Nat)),SV.val (Go.Value.float f64 (0:Nat)),SV.val (Go.Value.float f64 (0:Nat))],
 HObj.row Md.rw ty98 (K.flt f64) (y.fst.set (i64.wrap ((0:Int)+(1:Int))).toNat (Zk ([(4607182418800017408:Nat),s,t].getD (i64.wrap
 (i64.wrap ((0:Int)+(1:Int))+(1:Int))).toNat (0:Nat))).fst)] [HObj.box Md.rw ty72 [SV.val (Go.Value.float f64 (0:Nat)),SV.val (Go.Value.float
 f64 (0:Nat)),SV.val (Go.Value.float f64 (0:Nat))],HObj.row Md.rw ty98 (K.flt f64) (y.fst.set (i64.wrap ((0:Int)+(1 :
 Int))).toNat (Zk ([(4607182418800017408:Nat),s,t].getD (i64.wrap (i64.wrap ((0:Int)+(1:Int))+(1:Int))).toNat (0:Nat))).fst)]∧post_6 ()
 (y.fst.set (i64.wrap ((0:Int)+(1:Int))).toNat (Zk ([(4607182418800017408:Nat),s,t].getD (i64.wrap (i64.wrap ((0:Int)+(1:Int))+(1 :
 Int))).toNat (0:Nat))).fst,())) (Br (List.getD (List.getD (Zq.getD f.toNat (K.arr (3:Nat) (K.arr (3:Nat) (K.int i64))).dflt) (i64.wrap
 (i64.wrap ((0:Int)+(1:Int))+(1:Int))).toNat (K.arr (3:Nat) (K.int i64)).dflt) (i64.wrap ((0:Int)+(1:Int))).toNat (0:Int)==(-1:Int))
 (∃ (h:True),∃ (h:(0:Int)≤i64.wrap ((0:Int)+(1:Int))∧i64.wrap ((0:Int)+(1:Int))<(↑(3:Nat):Int)∧(3:Nat)≤y.fst.length),HIs
 [HObj.box Md.rw ty72 [SV.val (Go.Value.float f64 (0:Nat)),SV.val (Go.Value.float f64 (0:Nat)),SV.val (Go.Value.float f64 (0:Nat))],
 HObj.row Md.rw ty98 (K.flt f64) (y.fst.set (i64.wrap ((0:Int)+(1:Int))).toNat (Zk (Go.Op.negFloat f64 ([(4607182418800017408:Nat),s,
 t].getD (i64.wrap (i64.wrap ((0:Int)+(1:Int))+(1:Int))).toNat (0:Nat)))).fst)] [HObj.box Md.rw ty72 [SV.val (Go.Value.float f64 (0 :
 Nat)),SV.val (Go.Value.float f64 (0:Nat)),SV.val (Go.Value.float f64 (0:Nat))],HObj.row Md.rw ty98 (K.flt f64) (y.fst.set
 (i64.wrap ((0:Int)+(1:Int))).toNat (Zk (Go.Op.negFloat f64 ([(4607182418800017408:Nat),s,t].getD (i64.wrap (i64.wrap ((0:Int)
 + (1:Int))+(1:Int))).toNat (0:Nat)))).fst)]∧post_6 () (y.fst.set (i64.wrap ((0:Int)+(1:Int))).toNat (Zk (Go.Op.negFloat f64
 ([(4607182418800017408:Nat),s,t].getD (i64.wrap (i64.wrap ((0:Int)+(1:Int))+(1:Int))).toNat (0:Nat)))).fst,())) (HIs [HObj.box Md.rw ty72 [SV.val
 (Go.Value.float f64 (0:Nat)),SV.val (Go.Value.float f64 (0:Nat)),SV.val (Go.Value.float f64 (0:Nat))],HObj.row Md.rw ty98 (K.flt
 f64) y.fst] [HObj.box Md.rw ty72 [SV.val (Go.Value.float f64 (0:Nat)),SV.val (Go.Value.float f64 (0:Nat)),SV.val (Go.Value.float
 f64 (0:Nat))],HObj.row Md.rw ty98 (K.flt f64) y.fst]∧post_6 () (y.fst,()))))∧∀ (x:Unit) (y:List Nat × Unit),post_6 x y→∃ (post_7:Unit →
 List Nat × Unit→Prop),(∃ (h:(0:Int)≤(0:Int)∧(0:Int)<(↑(3:Nat):Int)),∃ (h:(0:Int)≤f∧f<(↑(6:Nat):Int)),∃ (h:(0:Int)≤(0:Int)∧(0:Int)
 < (↑(3:Nat):Int)),∃ (h:(0:Int)≤i64.wrap (i64.wrap ((0:Int)+(1:Int))+(1:Int))∧i64.wrap (i64.wrap ((0:Int)+(1:Int))+(1
 : Int))<(↑(3:Nat):Int)),Br (List.getD (List.getD (Zq.getD f.toNat (K.arr (3:Nat) (K.arr (3:Nat) (K.int i64))).dflt) (Int.toNat (0:Int)) (K.arr (3:Nat)
 (K.int i64)).dflt) (i64.wrap (i64.wrap ((0:Int)+(1:Int))+(1:Int))).toNat (0:Int)==(1:Int)) (∃ (h:True),∃ (h:(0:Int) ≤
 i64.wrap (i64.wrap ((0:Int)+(1:Int))+(1:Int))∧i64.wrap (i64.wrap ((0:Int)+(1:Int))+(1:Int))<(↑(3:Nat):Int)∧(3:Nat)
 ≤ y.fst.length),HIs [HObj.box Md.rw ty72 [SV.val (Go.Value.float f64 (0:Nat)),SV.val (Go.Value.float f64 (0:Nat)),SV.val (Go.Value.float
 f64 (0:Nat))],HObj.row Md.rw ty98 (K.flt f64) (y.fst.set (i64.wrap (i64.wrap ((0:Int)+(1:Int))+(1:Int))).toNat (Zk
 ([(4607182418800017408:Nat),s,t].getD (Int.toNat (0:Int)) (0:Nat))).fst)] [HObj.box Md.rw ty72 [SV.val (Go.Value.float f64 (0:Nat)),SV.val (Go.Value.float
 f64 (0:Nat)),SV.val (Go.Value.float f64 (0:Nat))],HObj.row Md.rw ty98 (K.flt f64) (y.fst.set (i64.wrap (i64.wrap ((0 :
 Int)+(1:Int))+(1:Int))).toNat (Zk ([(4607182418800017408:Nat),s,t].getD (Int.toNat (0:Int)) (0:Nat))).fst)]∧post_7 () (y.fst.set (i64.wrap
 (i64.wrap ((0:Int)+(1:Int))+(1:Int))).toNat (Zk ([(4607182418800017408:Nat),s,t].getD (Int.toNat (0:Int)) (0:Nat))).fst,())) (Br (List.getD
 (List.getD (Zq.getD f.toNat (K.arr (3:Nat) (K.arr (3:Nat) (K.int i64))).dflt) (Int.toNat (0:Int)) (K.arr (3:Nat) (K.int i64)).dflt) (i64.wrap
 (i64.wrap ((0:Int)+(1:Int))+(1:Int))).toNat (0:Int)==(-1:Int)) (∃ (h:True),∃ (h:(0:Int)≤i64.wrap (i64.wrap ((0:Int)+(1:Int))
 + (1:Int))∧i64.wrap (i64.wrap ((0:Int)+(1:Int))+(1:Int))<(↑(3:Nat):Int)∧(3:Nat)≤y.fst.length),HIs [HObj.box Md.rw ty72 [SV.val
 (Go.Value.float f64 (0:Nat)),SV.val (Go.Value.float f64 (0:Nat)),SV.val (Go.Value.float f64 (0:Nat))],HObj.row Md.rw ty98 (K.flt
 f64) (y.fst.set (i64.wrap (i64.wrap ((0:Int)+(1:Int))+(1:Int))).toNat (Zk (Go.Op.negFloat f64 ([(4607182418800017408 :
 Nat),s,t].getD (Int.toNat (0:Int)) (0:Nat)))).fst)] [HObj.box Md.rw ty72 [SV.val (Go.Value.float f64 (0:Nat)),SV.val (Go.Value.float f64 (0 :
 Nat)),SV.val (Go.Value.float f64 (0:Nat))],HObj.row Md.rw ty98 (K.flt f64) (y.fst.set (i64.wrap (i64.wrap ((0:Int)+(1:Int)) +
 (1:Int))).toNat (Zk (Go.Op.negFloat f64 ([(4607182418800017408:Nat),s,t].getD (Int.toNat (0:Int)) (0:Nat)))).fst)]∧post_7 () (y.fst.set
 (i64.wrap (i64.wrap ((0:Int)+(1:Int))+(1:Int))).toNat (Zk (Go.Op.negFloat f64 ([(4607182418800017408:Nat),s,t].getD (Int.toNat (0 :
 Int)) (0:Nat)))).fst,())) (HIs [HObj.box Md.rw ty72 [SV.val (Go.Value.float f64 (0:Nat)),SV.val (Go.Value.float f64 (0:Nat)),SV.val
 (Go.Value.float f64 (0:Nat))],HObj.row Md.rw ty98 (K.flt f64) y.fst] [HObj.box Md.rw ty72 [SV.val (Go.Value.float f64 (0:Nat)),SV.val
 (Go.Value.float f64 (0:Nat)),SV.val (Go.Value.float f64 (0:Nat))],HObj.row Md.rw ty98 (K.flt f64) y.fst]∧post_7 () (y.fst,())))) ∧
 ∀ (x:Unit) (y:List Nat × Unit),post_7 x y→∃ (post_8:Unit→List Nat × Unit→Prop),(∃ (h:(0:Int)≤i64.wrap ((0:Int)+(1:Int))∧i64.wrap ((0 :
 Int)+(1:Int))<(↑(3:Nat):Int)),∃ (h:(0:Int)≤f∧f<(↑(6:Nat):Int)),∃ (h:(0:Int)≤i64.wrap ((0:Int)+(1:Int))∧i64.wrap ((0:Int)
 + (1:Int))<(↑(3:Nat):Int)),∃ (h:(0:Int)≤i64.wrap (i64.wrap ((0:Int)+(1:Int))+(1:Int))∧i64.wrap (i64.wrap ((0:Int)+(1
 : Int))+(1:Int))<(↑(3:Nat):Int)),Br (List.getD (List.getD (Zq.getD f.toNat (K.arr (3:Nat) (K.arr (3:Nat) (K.int i64))).dflt) (i64.wrap ((0 :
 Int)+(1:Int))).toNat (K.arr (3:Nat) (K.int i64)).dflt) (i64.wrap (i64.wrap ((0:Int)+(1:Int))+(1:Int))).toNat (0:Int)==(1:Int)) (∃ (h
 : True),∃ (h:(0:Int)≤i64.wrap (i64.wrap ((0:Int)+(1:Int))+(1:Int))∧i64.wrap (i64.wrap ((0:Int)+(1:Int))+(1:Int)) <
 (↑(3:Nat):Int)∧(3:Nat)≤y.fst.length),HIs [HObj.box Md.rw ty72 [SV.val (Go.Value.float f64 (0:Nat)),SV.val (Go.Value.float f64 (0:Nat)),
 SV.val (Go.Value.float f64 (0:Nat))],HObj.row Md.rw ty98 (K.flt f64) (y.fst.set (i64.wrap (i64.wrap ((0:Int)+(1:Int))+(1 :
 Int))).toNat (Zk ([(4607182418800017408:Nat),s,t].getD (i64.wrap ((0:Int)+(1:Int))).toNat (0:Nat))).fst)] [HObj.box Md.rw ty72 [SV.val (Go.Value.float
 f64 (0:Nat)),SV.val (Go.Value.float f64 (0:Nat)),SV.val (Go.Value.float f64 (0:Nat))],HObj.row Md.rw ty98 (K.flt f64)
 (y.fst.set (i64.wrap (i64.wrap ((0:Int)+(1:Int))+(1:Int))).toNat (Zk ([(4607182418800017408:Nat),s,t].getD (i64.wrap ((0:Int)+(1 :
 Int))).toNat (0:Nat))).fst)]∧post_8 () (y.fst.set (i64.wrap (i64.wrap ((0:Int)+(1:Int))+(1:Int))).toNat (Zk ([(4607182418800017408:Nat),s,
 t].getD (i64.wrap ((0:Int)+(1:Int))).toNat (0:Nat))).fst,())) (Br (List.getD (List.getD (Zq.getD f.toNat (K.arr (3:Nat) (K.arr (3:Nat) (K.int
 i64))).dflt) (i64.wrap ((0:Int)+(1:Int))).toNat (K.arr (3:Nat) (K.int i64)).dflt) (i64.wrap (i64.wrap ((0:Int)+(1:Int))+(1
 : Int))).toNat (0:Int)==(-1:Int)) (∃ (h:True),∃ (h:(0:Int)≤i64.wrap (i64.wrap ((0:Int)+(1:Int))+(1:Int))∧i64.wrap
 (i64.wrap ((0:Int)+(1:Int))+(1:Int))<(↑(3:Nat):Int)∧(3:Nat)≤y.fst.length),HIs [HObj.box Md.rw ty72 [SV.val (Go.Value.float f64 (0 :
 Nat)),SV.val (Go.Value.float f64 (0:Nat)),SV.val (Go.Value.float f64 (0:Nat))],HObj.row Md.rw ty98 (K.flt f64) (y.fst.set
 (i64.wrap (i64.wrap ((0:Int)+(1:Int))+(1:Int))).toNat (Zk (Go.Op.negFloat f64 ([(4607182418800017408:Nat),s,t].getD
 (i64.wrap ((0:Int)+(1:Int))).toNat (0:Nat)))).fst)] [HObj.box Md.rw ty72 [SV.val (Go.Value.float f64 (0:Nat)),SV.val (Go.Value.float
 f64 (0:Nat)),SV.val (Go.Value.float f64 (0:Nat))],HObj.row Md.rw ty98 (K.flt f64) (y.fst.set (i64.wrap (i64.wrap ((0 :
 Int)+(1:Int))+(1:Int))).toNat (Zk (Go.Op.negFloat f64 ([(4607182418800017408:Nat),s,t].getD (i64.wrap ((0:Int)+(1:Int))).toNat (0 :
 Nat)))).fst)]∧post_8 () (y.fst.set (i64.wrap (i64.wrap ((0:Int)+(1:Int))+(1:Int))).toNat (Zk (Go.Op.negFloat f64
 ([(4607182418800017408:Nat),s,t].getD (i64.wrap ((0:Int)+(1:Int))).toNat (0:Nat)))).fst,())) (HIs [HObj.box Md.rw ty72 [SV.val (Go.Value.float
 f64 (0:Nat)),SV.val (Go.Value.float f64 (0:Nat)),SV.val (Go.Value.float f64 (0:Nat))],HObj.row Md.rw ty98 (K.flt f64)
 y.fst] [HObj.box Md.rw ty72 [SV.val (Go.Value.float f64 (0:Nat)),SV.val (Go.Value.float f64 (0:Nat)),SV.val (Go.Value.float f64 (0 :
 Nat))],HObj.row Md.rw ty98 (K.flt f64) y.fst]∧post_8 () (y.fst,()))))∧∀ (x:Unit) (y:List Nat × Unit),post_8 x y→∃ (post_9:Unit→List Nat × Unit →
 Prop),(∃ (h:(0:Int)≤i64.wrap (i64.wrap ((0:Int)+(1:Int))+(1:Int))∧i64.wrap (i64.wrap ((0:Int)+(1:Int))+(1:Int))<(↑(3
 : Nat):Int)),∃ (h:(0:Int)≤f∧f<(↑(6:Nat):Int)),∃ (h:(0:Int)≤i64.wrap (i64.wrap ((0:Int)+(1:Int))+(1:Int))∧i64.wrap
 (i64.wrap ((0:Int)+(1:Int))+(1:Int))<(↑(3:Nat):Int)),∃ (h:(0:Int)≤i64.wrap (i64.wrap ((0:Int)+(1:Int))+(1:Int)) ∧
 i64.wrap (i64.wrap ((0:Int)+(1:Int))+(1:Int))<(↑(3:Nat):Int)),Br (List.getD (List.getD (Zq.getD f.toNat (K.arr (3:Nat) (K.arr (3:Nat)
 (K.int i64))).dflt) (i64.wrap (i64.wrap ((0:Int)+(1:Int))+(1:Int))).toNat (K.arr (3:Nat) (K.int i64)).dflt) (i64.wrap
 (i64.wrap ((0:Int)+(1:Int))+(1:Int))).toNat (0:Int)==(1:Int)) (∃ (h:True),∃ (h:(0:Int)≤i64.wrap (i64.wrap ((0:Int)+(1:Int))
 + (1:Int))∧i64.wrap (i64.wrap ((0:Int)+(1:Int))+(1:Int))<(↑(3:Nat):Int)∧(3:Nat)≤y.fst.length),HIs [HObj.box Md.rw ty72 [SV.val
 (Go.Value.float f64 (0:Nat)),SV.val (Go.Value.float f64 (0:Nat)),SV.val (Go.Value.float f64 (0:Nat))],HObj.row Md.rw ty98 (K.flt
 f64) (y.fst.set (i64.wrap (i64.wrap ((0:Int)+(1:Int))+(1:Int))).toNat (Zk ([(4607182418800017408:Nat),s,t].getD (i64.wrap
 (i64.wrap ((0:Int)+(1:Int))+(1:Int))).toNat (0:Nat))).fst)] [HObj.box Md.rw ty72 [SV.val (Go.Value.float f64 (0:Nat)),SV.val (Go.Value.float
 f64 (0:Nat)),SV.val (Go.Value.float f64 (0:Nat))],HObj.row Md.rw ty98 (K.flt f64) (y.fst.set (i64.wrap (i64.wrap ((0 :
 Int)+(1:Int))+(1:Int))).toNat (Zk ([(4607182418800017408:Nat),s,t].getD (i64.wrap (i64.wrap ((0:Int)+(1:Int))+(1:Int))).toNat (0 :
 Nat))).fst)]∧post_9 () (y.fst.set (i64.wrap (i64.wrap ((0:Int)+(1:Int))+(1:Int))).toNat (Zk ([(4607182418800017408:Nat),s,t].getD
 (i64.wrap (i64.wrap ((0:Int)+(1:Int))+(1:Int))).toNat (0:Nat))).fst,())) (Br (List.getD (List.getD (Zq.getD f.toNat (K.arr (3:Nat) (K.arr (3 :
 Nat) (K.int i64))).dflt) (i64.wrap (i64.wrap ((0:Int)+(1:Int))+(1:Int))).toNat (K.arr (3:Nat) (K.int i64)).dflt) (i64.wrap
 (i64.wrap ((0:Int)+(1:Int))+(1:Int))).toNat (0:Int)==(-1:Int)) (∃ (h:True),∃ (h:(0:Int)≤i64.wrap (i64.wrap ((0:Int)+(1:Int))
 + (1:Int))∧i64.wrap (i64.wrap ((0:Int)+(1:Int))+(1:Int))<(↑(3:Nat):Int)∧(3:Nat)≤y.fst.length),HIs [HObj.box Md.rw ty72 [SV.val
 (Go.Value.float f64 (0:Nat)),SV.val (Go.Value.float f64 (0:Nat)),SV.val (Go.Value.float f64 (0:Nat))],HObj.row Md.rw ty98 (K.flt
 f64) (y.fst.set (i64.wrap (i64.wrap ((0:Int)+(1:Int))+(1:Int))).toNat (Zk (Go.Op.negFloat f64 ([(4607182418800017408 :
 Nat),s,t].getD (i64.wrap (i64.wrap ((0:Int)+(1:Int))+(1:Int))).toNat (0:Nat)))).fst)] [HObj.box Md.rw ty72 [SV.val (Go.Value.float f64
 (0:Nat)),SV.val (Go.Value.float f64 (0:Nat)),SV.val (Go.Value.float f64 (0:Nat))],HObj.row Md.rw ty98 (K.flt f64) (y.fst.set
 (i64.wrap (i64.wrap ((0:Int)+(1:Int))+(1:Int))).toNat (Zk (Go.Op.negFloat f64 ([(4607182418800017408:Nat),s,t].getD
 (i64.wrap (i64.wrap ((0:Int)+(1:Int))+(1:Int))).toNat (0:Nat)))).fst)]∧post_9 () (y.fst.set (i64.wrap (i64.wrap ((0:Int)+(1 :
 Int))+(1:Int))).toNat (Zk (Go.Op.negFloat f64 ([(4607182418800017408:Nat),s,t].getD (i64.wrap (i64.wrap ((0:Int)+(1:Int))+(1 :
 Int))).toNat (0:Nat)))).fst,())) (HIs [HObj.box Md.rw ty72 [SV.val (Go.Value.float f64 (0:Nat)),SV.val (Go.Value.float f64 (0:Nat)),SV.val
 (Go.Value.float f64 (0:Nat))],HObj.row Md.rw ty98 (K.flt f64) y.fst] [HObj.box Md.rw ty72 [SV.val (Go.Value.float f64 (0:Nat)),SV.val
 (Go.Value.float f64 (0:Nat)),SV.val (Go.Value.float f64 (0:Nat))],HObj.row Md.rw ty98 (K.flt f64) y.fst]∧post_9 () (y.fst,())))) ∧
 ∀ (x:Unit) (y:List Nat × Unit),post_9 x y→∃ (h:(0:Int)≤(0:Int)∧(0:Int)<(↑(3:Nat):Int)∧(3:Nat)≤y.fst.length),∃ (h:(0:Int)≤(1:Int)∧(1 :
 Int)<(↑(3:Nat):Int)∧(3:Nat)≤y.fst.length),∃ (h:(0:Int)≤(2:Int)∧(2:Int)<(↑(3:Nat):Int)∧(3:Nat)≤y.fst.length),∃ (h:WV (y.fst.getD (Int.toNat
 (0:Int)) (0:Nat),y.fst.getD (Int.toNat (1:Int)) (0:Nat),y.fst.getD (Int.toNat (2:Int)) (0:Nat))),post (((Zac (y.fst.getD (Int.toNat (0:Int)) (0:Nat),
 y.fst.getD (Int.toNat (1:Int)) (0:Nat),y.fst.getD (Int.toNat (2:Int)) (0:Nat))).fst.fst,(Zac (y.fst.getD (Int.toNat (0:Int)) (0:Nat),y.fst.getD (Int.toNat (1 :
 Int)) (0:Nat),y.fst.getD (Int.toNat (2:Int)) (0:Nat))).fst.snd.fst,(Zac (y.fst.getD (Int.toNat (0:Int)) (0:Nat),y.fst.getD (Int.toNat (1:Int)) (0:Nat),
 y.fst.getD (Int.toNat (2:Int)) (0:Nat))).fst.snd.snd),())
theorem Z1ev (ty0 ty1:Nat) (f:Int) (s:Nat) (t:Nat) (h:Zie f s t):Zfh ty0 ty1 f s t (fun r=>r=Z4y f s t):=by
 obtain ⟨f0,f5,hs,ht⟩:=h
 have hfb:0≤f∧f<((6:Nat):Int):=⟨f0,by omega⟩
 refine ⟨fun _ y=>y.1=[(Zc (Za f 0 0) (List.getD [(4607182418800017408:Nat),s,t] (Int.toNat (0:Int)) (0:Nat)) 0),0,0],⟨by decide,hfb,by decide,by decide,Z7y (m:=(Za f 0 0)) (v:=(List.getD [(4607182418800017408:Nat),s,t] (Int.toNat (0:Int)) (0:Nat))) (c:=0) (P:=fun z=>[z,0,0]=[(Zc (Za f 0 0) (List.getD [(4607182418800017408:Nat),s,t] (Int.toNat (0:Int)) (0:Nat)) 0),0,0]) rfl (fun e=>⟨trivial,⟨by decide,by decide,Nat.le_refl 3⟩,rfl,e⟩) (fun e=>⟨trivial,⟨by decide,by decide,Nat.le_refl 3⟩,rfl,e⟩) (fun e=>⟨rfl,e⟩)⟩,?_⟩
 rintro ⟨⟩ ⟨_,⟨⟩⟩ rfl
 refine ⟨fun _ y=>y.1=[(Zc (Za f 1 0) s (Zc (Za f 0 0) (List.getD [(4607182418800017408:Nat),s,t] (Int.toNat (0:Int)) (0:Nat)) 0)),0,0],⟨by decide,hfb,by decide,by decide,Z7y (m:=(Za f 1 0)) (v:=s) (c:=(Zc (Za f 0 0) (List.getD [(4607182418800017408:Nat),s,t] (Int.toNat (0:Int)) (0:Nat)) 0)) (P:=fun z=>[z,0,0]=[(Zc (Za f 1 0) s (Zc (Za f 0 0) (List.getD [(4607182418800017408:Nat),s,t] (Int.toNat (0:Int)) (0:Nat)) 0)),0,0]) rfl (fun e=>⟨trivial,⟨by decide,by decide,Nat.le_refl 3⟩,rfl,e⟩) (fun e=>⟨trivial,⟨by decide,by decide,Nat.le_refl 3⟩,rfl,e⟩) (fun e=>⟨rfl,e⟩)⟩,?_⟩
 rintro ⟨⟩ ⟨_,⟨⟩⟩ rfl
 refine ⟨fun _ y=>y.1=[(Zc (Za f 2 0) t (Zc (Za f 1 0) s (Zc (Za f 0 0) (List.getD [(4607182418800017408:Nat),s,t] (Int.toNat (0:Int)) (0:Nat)) 0))),0,0],⟨by decide,hfb,by decide,by decide,Z7y (m:=(Za f 2 0)) (v:=t) (c:=(Zc (Za f 1 0) s (Zc (Za f 0 0) (List.getD [(4607182418800017408:Nat),s,t] (Int.toNat (0:Int)) (0:Nat)) 0))) (P:=fun z=>[z,0,0]=[(Zc (Za f 2 0) t (Zc (Za f 1 0) s (Zc (Za f 0 0) (List.getD [(4607182418800017408:Nat),s,t] (Int.toNat (0:Int)) (0:Nat)) 0))),0,0]) rfl (fun e=>⟨trivial,⟨by decide,by decide,Nat.le_refl 3⟩,rfl,e⟩) (fun e=>⟨trivial,⟨by decide,by decide,Nat.le_refl 3⟩,rfl,e⟩) (fun e=>⟨rfl,e⟩)⟩,?_⟩
 rintro ⟨⟩ ⟨_,⟨⟩⟩ rfl
 refine ⟨fun _ y=>y.1=[(Zc (Za f 2 0) t (Zc (Za f 1 0) s (Zc (Za f 0 0) (List.getD [(4607182418800017408:Nat),s,t] (Int.toNat (0:Int)) (0:Nat)) 0))),(Zc (Za f 0 1) (List.getD [(4607182418800017408:Nat),s,t] (Int.toNat (0:Int)) (0:Nat)) 0),0],⟨by decide,hfb,by decide,by decide,Z7y (m:=(Za f 0 1)) (v:=(List.getD [(4607182418800017408:Nat),s,t] (Int.toNat (0:Int)) (0:Nat))) (c:=0) (P:=fun z=>[(Zc (Za f 2 0) t (Zc (Za f 1 0) s (Zc (Za f 0 0) (List.getD [(4607182418800017408:Nat),s,t] (Int.toNat (0:Int)) (0:Nat)) 0))),z,0]=[(Zc (Za f 2 0) t (Zc (Za f 1 0) s (Zc (Za f 0 0) (List.getD [(4607182418800017408:Nat),s,t] (Int.toNat (0:Int)) (0:Nat)) 0))),(Zc (Za f 0 1) (List.getD [(4607182418800017408:Nat),s,t] (Int.toNat (0:Int)) (0:Nat)) 0),0]) rfl (fun e=>⟨trivial,⟨by decide,by decide,Nat.le_refl 3⟩,rfl,e⟩) (fun e=>⟨trivial,⟨by decide,by decide,Nat.le_refl 3⟩,rfl,e⟩) (fun e=>⟨rfl,e⟩)⟩,?_⟩
 rintro ⟨⟩ ⟨_,⟨⟩⟩ rfl
 refine ⟨fun _ y=>y.1=[(Zc (Za f 2 0) t (Zc (Za f 1 0) s (Zc (Za f 0 0) (List.getD [(4607182418800017408:Nat),s,t] (Int.toNat (0:Int)) (0:Nat)) 0))),(Zc (Za f 1 1) s (Zc (Za f 0 1) (List.getD [(4607182418800017408:Nat),s,t] (Int.toNat (0:Int)) (0:Nat)) 0)),0],⟨by decide,hfb,by decide,by decide,Z7y (m:=(Za f 1 1)) (v:=s) (c:=(Zc (Za f 0 1) (List.getD [(4607182418800017408:Nat),s,t] (Int.toNat (0:Int)) (0:Nat)) 0)) (P:=fun z=>[(Zc (Za f 2 0) t (Zc (Za f 1 0) s (Zc (Za f 0 0) (List.getD [(4607182418800017408:Nat),s,t] (Int.toNat (0:Int)) (0:Nat)) 0))),z,0]=[(Zc (Za f 2 0) t (Zc (Za f 1 0) s (Zc (Za f 0 0) (List.getD [(4607182418800017408:Nat),s,t] (Int.toNat (0:Int)) (0:Nat)) 0))),(Zc (Za f 1 1) s (Zc (Za f 0 1) (List.getD [(4607182418800017408:Nat),s,t] (Int.toNat (0:Int)) (0:Nat)) 0)),0]) rfl (fun e=>⟨trivial,⟨by decide,by decide,Nat.le_refl 3⟩,rfl,e⟩) (fun e=>⟨trivial,⟨by decide,by decide,Nat.le_refl 3⟩,rfl,e⟩) (fun e=>⟨rfl,e⟩)⟩,?_⟩
 rintro ⟨⟩ ⟨_,⟨⟩⟩ rfl
 refine ⟨fun _ y=>y.1=[(Zc (Za f 2 0) t (Zc (Za f 1 0) s (Zc (Za f 0 0) (List.getD [(4607182418800017408:Nat),s,t] (Int.toNat (0:Int)) (0:Nat)) 0))),(Zc (Za f 2 1) t (Zc (Za f 1 1) s (Zc (Za f 0 1) (List.getD [(4607182418800017408:Nat),s,t] (Int.toNat (0:Int)) (0:Nat)) 0))),0],⟨by decide,hfb,by decide,by decide,Z7y (m:=(Za f 2 1)) (v:=t) (c:=(Zc (Za f 1 1) s (Zc (Za f 0 1) (List.getD [(4607182418800017408:Nat),s,t] (Int.toNat (0:Int)) (0:Nat)) 0))) (P:=fun z=>[(Zc (Za f 2 0) t (Zc (Za f 1 0) s (Zc (Za f 0 0) (List.getD [(4607182418800017408:Nat),s,t] (Int.toNat (0:Int)) (0:Nat)) 0))),z,0]=[(Zc (Za f 2 0) t (Zc (Za f 1 0) s (Zc (Za f 0 0) (List.getD [(4607182418800017408:Nat),s,t] (Int.toNat (0:Int)) (0:Nat)) 0))),(Zc (Za f 2 1) t (Zc (Za f 1 1) s (Zc (Za f 0 1) (List.getD [(4607182418800017408:Nat),s,t] (Int.toNat (0:Int)) (0:Nat)) 0))),0]) rfl (fun e=>⟨trivial,⟨by decide,by decide,Nat.le_refl 3⟩,rfl,e⟩) (fun e=>⟨trivial,⟨by decide,by decide,Nat.le_refl 3⟩,rfl,e⟩) (fun e=>⟨rfl,e⟩)⟩,?_⟩
 rintro ⟨⟩ ⟨_,⟨⟩⟩ rfl
 refine ⟨fun _ y=>y.1=[(Zc (Za f 2 0) t (Zc (Za f 1 0) s (Zc (Za f 0 0) (List.getD [(4607182418800017408:Nat),s,t] (Int.toNat (0:Int)) (0:Nat)) 0))),(Zc (Za f 2 1) t (Zc (Za f 1 1) s (Zc (Za f 0 1) (List.getD [(4607182418800017408:Nat),s,t] (Int.toNat (0:Int)) (0:Nat)) 0))),(Zc (Za f 0 2) (List.getD [(4607182418800017408:Nat),s,t] (Int.toNat (0:Int)) (0:Nat)) 0)],⟨by decide,hfb,by decide,by decide,Z7y (m:=(Za f 0 2)) (v:=(List.getD [(4607182418800017408:Nat),s,t] (Int.toNat (0:Int)) (0:Nat))) (c:=0) (P:=fun z=>[(Zc (Za f 2 0) t (Zc (Za f 1 0) s (Zc (Za f 0 0) (List.getD [(4607182418800017408:Nat),s,t] (Int.toNat (0:Int)) (0:Nat)) 0))),(Zc (Za f 2 1) t (Zc (Za f 1 1) s (Zc (Za f 0 1) (List.getD [(4607182418800017408:Nat),s,t] (Int.toNat (0:Int)) (0:Nat)) 0))),z]=[(Zc (Za f 2 0) t (Zc (Za f 1 0) s (Zc (Za f 0 0) (List.getD [(4607182418800017408:Nat),s,t] (Int.toNat (0:Int)) (0:Nat)) 0))),(Zc (Za f 2 1) t (Zc (Za f 1 1) s (Zc (Za f 0 1) (List.getD [(4607182418800017408:Nat),s,t] (Int.toNat (0:Int)) (0:Nat)) 0))),(Zc (Za f 0 2) (List.getD [(4607182418800017408:Nat),s,t] (Int.toNat (0:Int)) (0:Nat)) 0)]) rfl (fun e=>⟨trivial,⟨by decide,by decide,Nat.le_refl 3⟩,rfl,e⟩) (fun e=>⟨trivial,⟨by decide,by decide,Nat.le_refl 3⟩,rfl,e⟩) (fun e=>⟨rfl,e⟩)⟩,?_⟩
 rintro ⟨⟩ ⟨_,⟨⟩⟩ rfl
 refine ⟨fun _ y=>y.1=[(Zc (Za f 2 0) t (Zc (Za f 1 0) s (Zc (Za f 0 0) (List.getD [(4607182418800017408:Nat),s,t] (Int.toNat (0:Int)) (0:Nat)) 0))),(Zc (Za f 2 1) t (Zc (Za f 1 1) s (Zc (Za f 0 1) (List.getD [(4607182418800017408:Nat),s,t] (Int.toNat (0:Int)) (0:Nat)) 0))),(Zc (Za f 1 2) s (Zc (Za f 0 2) (List.getD [(4607182418800017408:Nat),s,t] (Int.toNat (0:Int)) (0:Nat)) 0))],⟨by decide,hfb,by decide,by decide,Z7y (m:=(Za f 1 2)) (v:=s) (c:=(Zc (Za f 0 2) (List.getD [(4607182418800017408:Nat),s,t] (Int.toNat (0:Int)) (0:Nat)) 0)) (P:=fun z=>[(Zc (Za f 2 0) t (Zc (Za f 1 0) s (Zc (Za f 0 0) (List.getD [(4607182418800017408:Nat),s,t] (Int.toNat (0:Int)) (0:Nat)) 0))),(Zc (Za f 2 1) t (Zc (Za f 1 1) s (Zc (Za f 0 1) (List.getD [(4607182418800017408:Nat),s,t] (Int.toNat (0:Int)) (0:Nat)) 0))),z]=[(Zc (Za f 2 0) t (Zc (Za f 1 0) s (Zc (Za f 0 0) (List.getD [(4607182418800017408:Nat),s,t] (Int.toNat (0:Int)) (0:Nat)) 0))),(Zc (Za f 2 1) t (Zc (Za f 1 1) s (Zc (Za f 0 1) (List.getD [(4607182418800017408:Nat),s,t] (Int.toNat (0:Int)) (0:Nat)) 0))),(Zc (Za f 1 2) s (Zc (Za f 0 2) (List.getD [(4607182418800017408:Nat),s,t] (Int.toNat (0:Int)) (0:Nat)) 0))]) rfl (fun e=>⟨trivial,⟨by decide,by decide,Nat.le_refl 3⟩,rfl,e⟩) (fun e=>⟨trivial,⟨by decide,by decide,Nat.le_refl 3⟩,rfl,e⟩) (fun e=>⟨rfl,e⟩)⟩,?_⟩
 rintro ⟨⟩ ⟨_,⟨⟩⟩ rfl
 refine ⟨fun _ y=>y.1=[(Zc (Za f 2 0) t (Zc (Za f 1 0) s (Zc (Za f 0 0) (List.getD [(4607182418800017408:Nat),s,t] (Int.toNat (0:Int)) (0:Nat)) 0))),(Zc (Za f 2 1) t (Zc (Za f 1 1) s (Zc (Za f 0 1) (List.getD [(4607182418800017408:Nat),s,t] (Int.toNat (0:Int)) (0:Nat)) 0))),(Zc (Za f 2 2) t (Zc (Za f 1 2) s (Zc (Za f 0 2) (List.getD [(4607182418800017408:Nat),s,t] (Int.toNat (0:Int)) (0:Nat)) 0)))],⟨by decide,hfb,by decide,by decide,Z7y (m:=(Za f 2 2)) (v:=t) (c:=(Zc (Za f 1 2) s (Zc (Za f 0 2) (List.getD [(4607182418800017408:Nat),s,t] (Int.toNat (0:Int)) (0:Nat)) 0))) (P:=fun z=>[(Zc (Za f 2 0) t (Zc (Za f 1 0) s (Zc (Za f 0 0) (List.getD [(4607182418800017408:Nat),s,t] (Int.toNat (0:Int)) (0:Nat)) 0))),(Zc (Za f 2 1) t (Zc (Za f 1 1) s (Zc (Za f 0 1) (List.getD [(4607182418800017408:Nat),s,t] (Int.toNat (0:Int)) (0:Nat)) 0))),z]=[(Zc (Za f 2 0) t (Zc (Za f 1 0) s (Zc (Za f 0 0) (List.getD [(4607182418800017408:Nat),s,t] (Int.toNat (0:Int)) (0:Nat)) 0))),(Zc (Za f 2 1) t (Zc (Za f 1 1) s (Zc (Za f 0 1) (List.getD [(4607182418800017408:Nat),s,t] (Int.toNat (0:Int)) (0:Nat)) 0))),(Zc (Za f 2 2) t (Zc (Za f 1 2) s (Zc (Za f 0 2) (List.getD [(4607182418800017408:Nat),s,t] (Int.toNat (0:Int)) (0:Nat)) 0)))]) rfl (fun e=>⟨trivial,⟨by decide,by decide,Nat.le_refl 3⟩,rfl,e⟩) (fun e=>⟨trivial,⟨by decide,by decide,Nat.le_refl 3⟩,rfl,e⟩) (fun e=>⟨rfl,e⟩)⟩,?_⟩
 rintro ⟨⟩ ⟨_,⟨⟩⟩ rfl
 refine ⟨⟨by decide,by decide,Nat.le_refl 3⟩,⟨by decide,by decide,Nat.le_refl 3⟩,⟨by decide,by decide,Nat.le_refl 3⟩,⟨Zhp f hs ht 0,Zhp f hs ht 1,Zhp f hs ht 2⟩,rfl⟩
def Zcj:=fun (n f i j:Int) (post:(Nat × Nat × Nat) × Bool × Unit→Prop)=>∃ (h:I64 n),∀ (a:Bool),a=((Z19 n).fst==(0:Int))→Br a (post (((0:Nat),
 (0:Nat),(0:Nat)),false,())) (∀ (a:Bool),a=decide (f<(0:Int))→Br a (post (((0:Nat),(0:Nat),(0:Nat)),false,())) (∀ (a:Bool),a=decide (f >
 (5:Int))→Br a (post (((0:Nat),(0:Nat),(0:Nat)),false,())) (∀ (a:Bool),a=decide (i<(0:Int))→Br a (post (((0:Nat),(0:Nat),(0:Nat)),false,
 ())) (∀ (a:Bool),a=decide (i > n)→Br a (post (((0:Nat),(0:Nat),(0:Nat)),false,())) (∀ (a:Bool),a=decide (j<(0:Int))→Br a (post (((0:Nat),(0 :
 Nat),(0:Nat)),false,())) (∀ (a:Bool),a=decide (j > n)→Br a (post (((0:Nat),(0:Nat),(0:Nat)),false,())) (∃ (h:Z76 (i64.wrap
 (i64.wrap ((2:Int)*i) - n)) n),∃ (h:Z76 (i64.wrap (i64.wrap ((2:Int)*j) - n)) n),∃ (h:Zie f (Z1s (i64.wrap (i64.wrap
 ((2:Int)*i) - n)) n).fst (Z1s (i64.wrap (i64.wrap ((2:Int)*j) - n)) n).fst),post (((Z4y f (Z1s (i64.wrap (i64.wrap ((2:Int) *
 i) - n)) n).fst (Z1s (i64.wrap (i64.wrap ((2:Int)*j) - n)) n).fst).fst.fst,(Z4y f (Z1s (i64.wrap (i64.wrap ((2:Int)*i) - n))
 n).fst (Z1s (i64.wrap (i64.wrap ((2:Int)*j) - n)) n).fst).fst.snd.fst,(Z4y f (Z1s (i64.wrap (i64.wrap ((2:Int)*i) - n)) n).fst
 (Z1s (i64.wrap (i64.wrap ((2:Int)*j) - n)) n).fst).fst.snd.snd),true,()))))))))
theorem Z1aw (n:Int) (f:Int) (i:Int) (j:Int) (h:IIII n f i j):Zcj  n f i j (fun r=>r=Zj n f i j):=by
 obtain ⟨hn,hf,hi,hj⟩:=h
 have bad:Z2a n f i j=false→(((0:Nat),(0:Nat),(0:Nat)),false,())=Zj n f i j:=by
  intro e; unfold Zj; rw [if_neg (by rw [e]; decide)]
 refine ⟨hn,?_⟩
 rintro _ rfl
 refine Br.intro (fun e=>?_) fun e0=>?_
 ·have e:Zb n=0:=by have e:(Zb n==0)=true:=e; simpa using e
  refine bad ?_
  cases hg:Z1i n with
  | false=>unfold Z2a; rw [hg]; rfl
  | true=>rw [Zad hg] at e; have:=Zkp (Z1n.1 hg).1 (Z1n.1 hg).2; omega
 have e0:¬ Zb n=0:=by have e:(Zb n==0)=false:=e0; simpa using e
 have hg:Z1i n=true:=by
  cases hg:Z1i n with
  | false=>exact absurd (Z77 hg) e0
  | true=>rfl
 obtain ⟨n1,n2⟩:=Z1n.1 hg
 have no:¬ (0≤f∧f≤5∧0≤i∧i≤n∧0≤j∧j≤n)→Z2a n f i j=false:=by
  intro q
  rw [Bool.eq_false_iff]
  intro w
  unfold Z2a at w
  simp only [Bool.and_eq_true,decide_eq_true_eq] at w
  omega
 rintro _ rfl
 refine Br.intro (fun e=>bad (no (by have e:=of_decide_eq_true e; omega))) fun e1=>?_
 have e1:=of_decide_eq_false e1
 rintro _ rfl
 refine Br.intro (fun e=>bad (no (by have e:=of_decide_eq_true e; omega))) fun e2=>?_
 have e2:=of_decide_eq_false e2
 rintro _ rfl
 refine Br.intro (fun e=>bad (no (by have e:=of_decide_eq_true e; omega))) fun e3=>?_
 have e3:=of_decide_eq_false e3
 rintro _ rfl
 refine Br.intro (fun e=>bad (no (by have e:=of_decide_eq_true e; omega))) fun e4=>?_
 have e4:=of_decide_eq_false e4
 rintro _ rfl
 refine Br.intro (fun e=>bad (no (by have e:=of_decide_eq_true e; omega))) fun e5=>?_
 have e5:=of_decide_eq_false e5
 rintro _ rfl
 refine Br.intro (fun e=>bad (no (by have e:=of_decide_eq_true e; omega))) fun e6=>?_
 have e6:=of_decide_eq_false e6
 obtain ⟨w1,w2⟩:=Zhc n1 n2 (i:=i) (by omega) (by omega)
 obtain ⟨w3,w4⟩:=Zhc n1 n2 (i:=j) (by omega) (by omega)
 rw [w1,w3]
 refine ⟨w2,w4,⟨by omega,by omega,Z7u _ _,Z7u _ _⟩,?_⟩
 have ok:Z2a n f i j=true:=by
  unfold Z2a
  rw [hg,decide_eq_true (by omega),decide_eq_true (by omega),decide_eq_true (by omega),decide_eq_true (by omega),decide_eq_true (by omega),decide_eq_true (by omega)]
  rfl
 unfold Zj; rw [if_pos ok]; rfl
def Zas:=fun (n c:Int) (post:List (Nat × Nat × Nat) × Bool × Unit→Prop)=>∃ (h:II n c),Br (!(Z0 n c).snd.snd.snd.fst) (∃ (h:(List.replicate (4:Nat)
 ((K.flt f64).pair ((K.flt f64).pair (K.flt f64))).dflt).length=(4:Nat)∧(4:Nat)=(4:Nat)),∃ (h:(4:Nat)=(4:Nat)),post
 ([((0:Nat),(0:Nat),(0:Nat)),((0:Nat),(0:Nat),(0:Nat)),((0:Nat),(0:Nat),(0:Nat)),((0:Nat),(0:Nat),(0:Nat))],false,())) (∃ (h:(0:Int) ≤
 (0:Int)∧(0:Int)<(↑(4:Nat):Int)),∃ (h:(List.replicate (2:Nat) (0:Int)).length=(2:Nat)∧List.length ([[(0:Int),(0:Int)],[(1:Int),(0:Int)],[(1 :
 Int),(1:Int)],[(0:Int),(1:Int)]].getD (Int.toNat (0:Int)) (K.arr (2:Nat) (K.int i64)).dflt)=(2:Nat)),∃ (h:(0:Int)≤(0:Int)∧(0:Int)<(↑(2 :
 Nat):Int)∧(2:Nat)≤List.length ([[(0:Int),(0:Int)],[(1:Int),(0:Int)],[(1:Int),(1:Int)],[(0:Int),(1:Int)]].getD (Int.toNat (0:Int)) (K.arr (2:Nat)
 (K.int i64)).dflt)),∃ (h:(0:Int)≤(1:Int)∧(1:Int)<(↑(2:Nat):Int)∧(2:Nat)≤List.length ([[(0:Int),(0:Int)],[(1:Int),(0:Int)],[(1:Int),
 (1:Int)],[(0:Int),(1:Int)]].getD (Int.toNat (0:Int)) (K.arr (2:Nat) (K.int i64)).dflt)),∃ (h:IIII n (Z0 n c).fst (i64.wrap ((Z0 n
 c).snd.fst+List.getD ([[(0:Int),(0:Int)],[(1:Int),(0:Int)],[(1:Int),(1:Int)],[(0:Int),(1:Int)]].getD (Int.toNat (0:Int)) (K.arr (2:Nat) (K.int
 i64)).dflt) (Int.toNat (0:Int)) (0:Int))) (i64.wrap ((Z0 n c).snd.snd.fst+List.getD ([[(0:Int),(0:Int)],[(1:Int),(0:Int)],[(1:Int),(1 :
 Int)],[(0:Int),(1:Int)]].getD (Int.toNat (0:Int)) (K.arr (2:Nat) (K.int i64)).dflt) (Int.toNat (1:Int)) (0:Int)))),∃ (h:(0:Int)≤(0:Int)∧(0:Int)
 < (↑(4:Nat):Int)∧(4:Nat)≤(List.replicate (4:Nat) ((K.flt f64).pair ((K.flt f64).pair (K.flt f64))).dflt).length),∃ (h:(0 :
 Int)≤i64.wrap ((0:Int)+(1:Int))∧i64.wrap ((0:Int)+(1:Int))<(↑(4:Nat):Int)),∃ (h:(List.replicate (2:Nat) (0:Int)).length=(2:Nat) ∧
 List.length ([[(0:Int),(0:Int)],[(1:Int),(0:Int)],[(1:Int),(1:Int)],[(0:Int),(1:Int)]].getD (i64.wrap ((0:Int)+(1:Int))).toNat (K.arr (2 :
 Nat) (K.int i64)).dflt)=(2:Nat)),∃ (h:(0:Int)≤(0:Int)∧(0:Int)<(↑(2:Nat):Int)∧(2:Nat)≤List.length ([[(0:Int),(0:Int)],[(1:Int),(0 :
 Int)],[(1:Int),(1:Int)],[(0:Int),(1:Int)]].getD (i64.wrap ((0:Int)+(1:Int))).toNat (K.arr (2:Nat) (K.int i64)).dflt)),∃ (h:(0:Int)≤(1 :
 Int)∧(1:Int)<(↑(2:Nat):Int)∧(2:Nat)≤List.length ([[(0:Int),(0:Int)],[(1:Int),(0:Int)],[(1:Int),(1:Int)],[(0:Int),(1:Int)]].getD
 (i64.wrap ((0:Int)+(1:Int))).toNat (K.arr (2:Nat) (K.int i64)).dflt)),∃ (h:IIII n (Z0 n c).fst (i64.wrap ((Z0 n c).snd.fst+List.getD
 ([[(0:Int),(0:Int)],[(1:Int),(0:Int)],[(1:Int),(1:Int)],[(0:Int),(1:Int)]].getD (i64.wrap ((0:Int)+(1:Int))).toNat (K.arr (2:Nat) (K.int
 i64)).dflt) (Int.toNat (0:Int)) (0:Int))) (i64.wrap ((Z0 n c).snd.snd.fst+List.getD ([[(0:Int),(0:Int)],[(1:Int),(0:Int)],[(1:Int),(1 :
 Int)],[(0:Int),(1:Int)]].getD (i64.wrap ((0:Int)+(1:Int))).toNat (K.arr (2:Nat) (K.int i64)).dflt) (Int.toNat (1:Int)) (0:Int)))),∃ (h:(0 :
 Int)≤i64.wrap ((0:Int)+(1:Int))∧i64.wrap ((0:Int)+(1:Int))<(↑(4:Nat):Int)∧(4:Nat)≤((List.replicate (4:Nat) ((K.flt
 f64).pair ((K.flt f64).pair (K.flt f64))).dflt).set (Int.toNat (0:Int)) (Zj n (Z0 n c).fst (i64.wrap ((Z0 n
 c).snd.fst+List.getD ([[(0:Int),(0:Int)],[(1:Int),(0:Int)],[(1:Int),(1:Int)],[(0:Int),(1:Int)]].getD (Int.toNat (0:Int)) (K.arr (2:Nat) (K.int
 i64)).dflt) (Int.toNat (0:Int)) (0:Int))) (i64.wrap ((Z0 n c).snd.snd.fst+List.getD ([[(0:Int),(0:Int)],[(1:Int),(0:Int)],[(1:Int),(1 :
 Int)],[(0:Int),(1:Int)]].getD (Int.toNat (0:Int)) (K.arr (2:Nat) (K.int i64)).dflt) (Int.toNat (1:Int)) (0:Int)))).fst).length),∃ (h:(0:Int) ≤
 i64.wrap (i64.wrap ((0:Int)+(1:Int))+(1:Int))∧i64.wrap (i64.wrap ((0:Int)+(1:Int))+(1:Int))<(↑(4:Nat):Int)),∃ (h :
 (List.replicate (2:Nat) (0:Int)).length=(2:Nat)∧List.length ([[(0:Int),(0:Int)],[(1:Int),(0:Int)],[(1:Int),(1:Int)],[(0:Int),(1:Int)]].getD
 (i64.wrap (i64.wrap ((0:Int)+(1:Int))+(1:Int))).toNat (K.arr (2:Nat) (K.int i64)).dflt)=(2:Nat)),∃ (h:(0:Int)≤(0:Int)∧(0:Int)
 < (↑(2:Nat):Int)∧(2:Nat)≤List.length ([[(0:Int),(0:Int)],[(1:Int),(0:Int)],[(1:Int),(1:Int)],[(0:Int),(1:Int)]].getD (i64.wrap
 (i64.wrap ((0:Int)+(1:Int))+(1:Int))).toNat (K.arr (2:Nat) (K.int i64)).dflt)),∃ (h:(0:Int)≤(1:Int)∧(1:Int)<(↑(2:Nat):Int)∧(2 :
 Nat)≤List.length ([[(0:Int),(0:Int)],[(1:Int),(0:Int)],[(1:Int),(1:Int)],[(0:Int),(1:Int)]].getD (i64.wrap (i64.wrap ((0:Int)+(1 :
 Int))+(1:Int))).toNat (K.arr (2:Nat) (K.int i64)).dflt)),∃ (h:IIII n (Z0 n c).fst (i64.wrap ((Z0 n c).snd.fst+List.getD ([[(0:Int),(0 :
 Int)],[(1:Int),(0:Int)],[(1:Int),(1:Int)],[(0:Int),(1:Int)]].getD (i64.wrap (i64.wrap ((0:Int)+(1:Int))+(1:Int))).toNat (K.arr (2 :
 Nat) (K.int i64)).dflt) (Int.toNat (0:Int)) (0:Int))) (i64.wrap ((Z0 n c).snd.snd.fst+List.getD ([[(0:Int),(0:Int)],[(1:Int),(0:Int)],[(1 :
 Int),(1:Int)],[(0:Int),(1:Int)]].getD (i64.wrap (i64.wrap ((0:Int)+(1:Int))+(1:Int))).toNat (K.arr (2:Nat) (K.int i64)).dflt)
 (Int.toNat (1:Int)) (0:Int)))),∃ (h:(0:Int)≤i64.wrap (i64.wrap ((0:Int)+(1:Int))+(1:Int))∧i64.wrap (i64.wrap ((0:Int)+(1
 : Int))+(1:Int))<(↑(4:Nat):Int)∧(4:Nat)≤(((List.replicate (4:Nat) ((K.flt f64).pair ((K.flt f64).pair (K.flt
 f64))).dflt).set (Int.toNat (0:Int)) (Zj n (Z0 n c).fst (i64.wrap ((Z0 n c).snd.fst+List.getD ([[(0:Int),(0:Int)],[(1:Int),(0 :
 Int)],[(1:Int),(1:Int)],[(0:Int),(1:Int)]].getD (Int.toNat (0:Int)) (K.arr (2:Nat) (K.int i64)).dflt) (Int.toNat (0:Int)) (0:Int))) (i64.wrap
 ((Z0 n c).snd.snd.fst+List.getD ([[(0:Int),(0:Int)],[(1:Int),(0:Int)],[(1:Int),(1:Int)],[(0:Int),(1:Int)]].getD (Int.toNat (0:Int)) (K.arr (2 :
 Nat) (K.int i64)).dflt) (Int.toNat (1:Int)) (0:Int)))).fst).set (i64.wrap ((0:Int)+(1:Int))).toNat (Zj n (Z0 n c).fst (i64.wrap
 ((Z0 n c).snd.fst+List.getD ([[(0:Int),(0:Int)],[(1:Int),(0:Int)],[(1:Int),(1:Int)],[(0:Int),(1:Int)]].getD (i64.wrap ((0:Int)+(1 :
 Int))).toNat (K.arr (2:Nat) (K.int i64)).dflt) (Int.toNat (0:Int)) (0:Int))) (i64.wrap ((Z0 n c).snd.snd.fst+List.getD ([[(0:Int),(0:Int)],[(1 :
 Int),(0:Int)],[(1:Int),(1:Int)],[(0:Int),(1:Int)]].getD (i64.wrap ((0:Int)+(1:Int))).toNat (K.arr (2:Nat) (K.int i64)).dflt) (Int.toNat (1 :
 Int)) (0:Int)))).fst).length),∃ (h:(0:Int)≤i64.wrap (i64.wrap (i64.wrap ((0:Int)+(1:Int))+(1:Int))+(1:Int))∧i64.wrap
 (i64.wrap (i64.wrap ((0:Int)+(1:Int))+(1:Int))+(1:Int))<(↑(4:Nat):Int)),∃ (h:(List.replicate (2:Nat) (0:Int)).length=(2:Nat) ∧
 List.length ([[(0:Int),(0:Int)],[(1:Int),(0:Int)],[(1:Int),(1:Int)],[(0:Int),(1:Int)]].getD (i64.wrap (i64.wrap (i64.wrap ((0:Int)
 + (1:Int))+(1:Int))+(1:Int))).toNat (K.arr (2:Nat) (K.int i64)).dflt)=(2:Nat)),∃ (h:(0:Int)≤(0:Int)∧(0:Int)<(↑(2:Nat):Int)∧(2:Nat) ≤
 List.length ([[(0:Int),(0:Int)],[(1:Int),(0:Int)],[(1:Int),(1:Int)],[(0:Int),(1:Int)]].getD (i64.wrap (i64.wrap (i64.wrap ((0:Int)
 + (1:Int))+(1:Int))+(1:Int))).toNat (K.arr (2:Nat) (K.int i64)).dflt)),∃ (h:(0:Int)≤(1:Int)∧(1:Int)<(↑(2:Nat):Int)∧(2:Nat)≤List.length
 ([[(0:Int),(0:Int)],[(1:Int),(0:Int)],[(1:Int),(1:Int)],[(0:Int),(1:Int)]].getD (i64.wrap (i64.wrap (i64.wrap ((0:Int)+(1 :
 Int))+(1:Int))+(1:Int))).toNat (K.arr (2:Nat) (K.int i64)).dflt)),∃ (h:IIII n (Z0 n c).fst (i64.wrap ((Z0 n c).snd.fst+List.getD ([[(0 :
 Int),(0:Int)],[(1:Int),(0:Int)],[(1:Int),(1:Int)],[(0:Int),(1:Int)]].getD (i64.wrap (i64.wrap (i64.wrap ((0:Int)+(1:Int))+(1 :
 Int))+(1:Int))).toNat (K.arr (2:Nat) (K.int i64)).dflt) (Int.toNat (0:Int)) (0:Int))) (i64.wrap ((Z0 n c).snd.snd.fst+List.getD ([[(0:Int),(0 :
 Int)],[(1:Int),(0:Int)],[(1:Int),(1:Int)],[(0:Int),(1:Int)]].getD (i64.wrap (i64.wrap (i64.wrap ((0:Int)+(1:Int))+(1:Int))+(1
 : Int))).toNat (K.arr (2:Nat) (K.int i64)).dflt) (Int.toNat (1:Int)) (0:Int)))),∃ (h:(0:Int)≤i64.wrap (i64.wrap (i64.wrap ((0:Int) +
 (1:Int))+(1:Int))+(1:Int))∧i64.wrap (i64.wrap (i64.wrap ((0:Int)+(1:Int))+(1:Int))+(1:Int))<(↑(4:Nat):Int)∧(4:Nat) ≤
 ((((List.replicate (4:Nat) ((K.flt f64).pair ((K.flt f64).pair (K.flt f64))).dflt).set (Int.toNat (0:Int)) (Zj n (Z0 n c).fst
 (i64.wrap ((Z0 n c).snd.fst+List.getD ([[(0:Int),(0:Int)],[(1:Int),(0:Int)],[(1:Int),(1:Int)],[(0:Int),(1:Int)]].getD (Int.toNat (0:Int))
 (K.arr (2:Nat) (K.int i64)).dflt) (Int.toNat (0:Int)) (0:Int))) (i64.wrap ((Z0 n c).snd.snd.fst+List.getD ([[(0:Int),(0:Int)],[(1:Int),(0 :
 Int)],[(1:Int),(1:Int)],[(0:Int),(1:Int)]].getD (Int.toNat (0:Int)) (K.arr (2:Nat) (K.int i64)).dflt) (Int.toNat (1:Int)) (0:Int)))).fst).set
 (i64.wrap ((0:Int)+(1:Int))).toNat (Zj n (Z0 n c).fst (i64.wrap ((Z0 n c).snd.fst+List.getD ([[(0:Int),(0:Int)],[(1:Int),(0 :
 Int)],[(1:Int),(1:Int)],[(0:Int),(1:Int)]].getD (i64.wrap ((0:Int)+(1:Int))).toNat (K.arr (2:Nat) (K.int i64)).dflt) (Int.toNat (0:Int)) (0 :
 Int))) (i64.wrap ((Z0 n c).snd.snd.fst+List.getD ([[(0:Int),(0:Int)],[(1:Int),(0:Int)],[(1:Int),(1:Int)],[(0:Int),(1:Int)]].getD
 (i64.wrap ((0:Int)+(1:Int))).toNat (K.arr (2:Nat) (K.int i64)).dflt) (Int.toNat (1:Int)) (0:Int)))).fst).set (i64.wrap (i64.wrap ((0 :
 Int)+(1:Int))+(1:Int))).toNat (Zj n (Z0 n c).fst (i64.wrap ((Z0 n c).snd.fst+List.getD ([[(0:Int),(0:Int)],[(1:Int),(0:Int)],[(1 :
 Int),(1:Int)],[(0:Int),(1:Int)]].getD (i64.wrap (i64.wrap ((0:Int)+(1:Int))+(1:Int))).toNat (K.arr (2:Nat) (K.int i64)).dflt)
 (Int.toNat (0:Int)) (0:Int))) (i64.wrap ((Z0 n c).snd.snd.fst+List.getD ([[(0:Int),(0:Int)],[(1:Int),(0:Int)],[(1:Int),(1:Int)],[(0:Int),(1
 : Int)]].getD (i64.wrap (i64.wrap ((0:Int)+(1:Int))+(1:Int))).toNat (K.arr (2:Nat) (K.int i64)).dflt) (Int.toNat (1:Int)) (0 :
 Int)))).fst).length),∃ (h:(((((List.replicate (4:Nat) ((K.flt f64).pair ((K.flt f64).pair (K.flt f64))).dflt).set (Int.toNat (0:Int))
 (Zj n (Z0 n c).fst (i64.wrap ((Z0 n c).snd.fst+List.getD ([[(0:Int),(0:Int)],[(1:Int),(0:Int)],[(1:Int),(1:Int)],[(0:Int),(1 :
 Int)]].getD (Int.toNat (0:Int)) (K.arr (2:Nat) (K.int i64)).dflt) (Int.toNat (0:Int)) (0:Int))) (i64.wrap ((Z0 n c).snd.snd.fst+List.getD ([[(0 :
 Int),(0:Int)],[(1:Int),(0:Int)],[(1:Int),(1:Int)],[(0:Int),(1:Int)]].getD (Int.toNat (0:Int)) (K.arr (2:Nat) (K.int i64)).dflt) (Int.toNat (1 :
 Int)) (0:Int)))).fst).set (i64.wrap ((0:Int)+(1:Int))).toNat (Zj n (Z0 n c).fst (i64.wrap ((Z0 n c).snd.fst+List.getD ([[(0:Int),(0 :
 Int)],[(1:Int),(0:Int)],[(1:Int),(1:Int)],[(0:Int),(1:Int)]].getD (i64.wrap ((0:Int)+(1:Int))).toNat (K.arr (2:Nat) (K.int i64)).dflt)
 (Int.toNat (0:Int)) (0:Int))) (i64.wrap ((Z0 n c).snd.snd.fst+List.getD ([[(0:Int),(0:Int)],[(1:Int),(0:Int)],[(1:Int),(1:Int)],[(0:Int),(1
 : Int)]].getD (i64.wrap ((0:Int)+(1:Int))).toNat (K.arr (2:Nat) (K.int i64)).dflt) (Int.toNat (1:Int)) (0:Int)))).fst).set (i64.wrap
 (i64.wrap ((0:Int)+(1:Int))+(1:Int))).toNat (Zj n (Z0 n c).fst (i64.wrap ((Z0 n c).snd.fst+List.getD ([[(0:Int),(0:Int)],[(1 :
 Int),(0:Int)],[(1:Int),(1:Int)],[(0:Int),(1:Int)]].getD (i64.wrap (i64.wrap ((0:Int)+(1:Int))+(1:Int))).toNat (K.arr (2:Nat) (K.int
 i64)).dflt) (Int.toNat (0:Int)) (0:Int))) (i64.wrap ((Z0 n c).snd.snd.fst+List.getD ([[(0:Int),(0:Int)],[(1:Int),(0:Int)],[(1:Int),(1 :
 Int)],[(0:Int),(1:Int)]].getD (i64.wrap (i64.wrap ((0:Int)+(1:Int))+(1:Int))).toNat (K.arr (2:Nat) (K.int i64)).dflt) (Int.toNat (1 :
 Int)) (0:Int)))).fst).set (i64.wrap (i64.wrap (i64.wrap ((0:Int)+(1:Int))+(1:Int))+(1:Int))).toNat (Zj n (Z0 n c).fst
 (i64.wrap ((Z0 n c).snd.fst+List.getD ([[(0:Int),(0:Int)],[(1:Int),(0:Int)],[(1:Int),(1:Int)],[(0:Int),(1:Int)]].getD (i64.wrap
 (i64.wrap (i64.wrap ((0:Int)+(1:Int))+(1:Int))+(1:Int))).toNat (K.arr (2:Nat) (K.int i64)).dflt) (Int.toNat (0:Int)) (0:Int)))
 (i64.wrap ((Z0 n c).snd.snd.fst+List.getD ([[(0:Int),(0:Int)],[(1:Int),(0:Int)],[(1:Int),(1:Int)],[(0:Int),(1:Int)]].getD (i64.wrap
 (i64.wrap (i64.wrap ((0:Int)+(1:Int))+(1:Int))+(1:Int))).toNat (K.arr (2:Nat) (K.int i64)).dflt) (Int.toNat (1:Int)) (0 :
 Int)))).fst).length=(4:Nat)),∃ (h:(List.replicate (4:Nat) ((K.flt f64).pair ((K.flt f64).pair (K.flt f64))).dflt).length=(4 :
 Nat)∧(((((List.replicate (4:Nat) ((K.flt f64).pair ((K.flt f64).pair (K.flt f64))).dflt).set (Int.toNat (0:Int)) (Zj n (Z0 n
 c).fst (i64.wrap ((Z0 n c).snd.fst+List.getD ([[(0:Int),(0:Int)],[(1:Int),(0:Int)],[(1:Int),(1:Int)],[(0:Int),(1:Int)]].getD (Int.toNat (0 :
 Int)) (K.arr (2:Nat) (K.int i64)).dflt) (Int.toNat (0:Int)) (0:Int))) (i64.wrap ((Z0 n c).snd.snd.fst+List.getD ([[(0:Int),(0:Int)],[(1:Int),
 (0:Int)],[(1:Int),(1:Int)],[(0:Int),(1:Int)]].getD (Int.toNat (0:Int)) (K.arr (2:Nat) (K.int i64)).dflt) (Int.toNat (1:Int)) (0:Int)))).fst).set
 (i64.wrap ((0:Int)+(1:Int))).toNat (Zj n (Z0 n c).fst (i64.wrap ((Z0 n c).snd.fst+List.getD ([[(0:Int),(0:Int)],[(1:Int),(0 :
 Int)],[(1:Int),(1:Int)],[(0:Int),(1:Int)]].getD (i64.wrap ((0:Int)+(1:Int))).toNat (K.arr (2:Nat) (K.int i64)).dflt) (Int.toNat (0:Int)) (0 :
 Int))) (i64.wrap ((Z0 n c).snd.snd.fst+List.getD ([[(0:Int),(0:Int)],[(1:Int),(0:Int)],[(1:Int),(1:Int)],[(0:Int),(1:Int)]].getD
 (i64.wrap ((0:Int)+(1:Int))).toNat (K.arr (2:Nat) (K.int i64)).dflt) (Int.toNat (1:Int)) (0:Int)))).fst).set (i64.wrap (i64.wrap ((0 :
 Int)+(1:Int))+(1:Int))).toNat (Zj n (Z0 n c).fst (i64.wrap ((Z0 n c).snd.fst+List.getD ([[(0:Int),(0:Int)],[(1:Int),(0:Int)],[(1 :
 Int),(1:Int)],[(0:Int),(1:Int)]].getD (i64.wrap (i64.wrap ((0:Int)+(1:Int))+(1:Int))).toNat (K.arr (2:Nat) (K.int i64)).dflt)
 (Int.toNat (0:Int)) (0:Int))) (i64.wrap ((Z0 n c).snd.snd.fst+List.getD ([[(0:Int),(0:Int)],[(1:Int),(0:Int)],[(1:Int),(1:Int)],[(0:Int),(1
 : Int)]].getD (i64.wrap (i64.wrap ((0:Int)+(1:Int))+(1:Int))).toNat (K.arr (2:Nat) (K.int i64)).dflt) (Int.toNat (1:Int)) (0 :
 Int)))).fst).set (i64.wrap (i64.wrap (i64.wrap ((0:Int)+(1:Int))+(1:Int))+(1:Int))).toNat (Zj n (Z0 n c).fst (i64.wrap
 ((Z0 n c).snd.fst+List.getD ([[(0:Int),(0:Int)],[(1:Int),(0:Int)],[(1:Int),(1:Int)],[(0:Int),(1:Int)]].getD (i64.wrap (i64.wrap
 (i64.wrap ((0:Int)+(1:Int))+(1:Int))+(1:Int))).toNat (K.arr (2:Nat) (K.int i64)).dflt) (Int.toNat (0:Int)) (0:Int))) (i64.wrap
 ((Z0 n c).snd.snd.fst+List.getD ([[(0:Int),(0:Int)],[(1:Int),(0:Int)],[(1:Int),(1:Int)],[(0:Int),(1:Int)]].getD (i64.wrap (i64.wrap
 (i64.wrap ((0:Int)+(1:Int))+(1:Int))+(1:Int))).toNat (K.arr (2:Nat) (K.int i64)).dflt) (Int.toNat (1:Int)) (0:Int)))).fst).length=(4:Nat)),
 ∃ (h:(((((List.replicate (4:Nat) ((K.flt f64).pair ((K.flt f64).pair (K.flt f64))).dflt).set (Int.toNat (0:Int)) (Zj n (Z0 n
 c).fst (i64.wrap ((Z0 n c).snd.fst+List.getD ([[(0:Int),(0:Int)],[(1:Int),(0:Int)],[(1:Int),(1:Int)],[(0:Int),(1:Int)]].getD (Int.toNat (0 :
 Int)) (K.arr (2:Nat) (K.int i64)).dflt) (Int.toNat (0:Int)) (0:Int))) (i64.wrap ((Z0 n c).snd.snd.fst+List.getD ([[(0:Int),(0:Int)],[(1:Int),
 (0:Int)],[(1:Int),(1:Int)],[(0:Int),(1:Int)]].getD (Int.toNat (0:Int)) (K.arr (2:Nat) (K.int i64)).dflt) (Int.toNat (1:Int)) (0:Int)))).fst).set
 (i64.wrap ((0:Int)+(1:Int))).toNat (Zj n (Z0 n c).fst (i64.wrap ((Z0 n c).snd.fst+List.getD ([[(0:Int),(0:Int)],[(1:Int),(0 :
 Int)],[(1:Int),(1:Int)],[(0:Int),(1:Int)]].getD (i64.wrap ((0:Int)+(1:Int))).toNat (K.arr (2:Nat) (K.int i64)).dflt) (Int.toNat (0:Int)) (0 :
 Int))) (i64.wrap ((Z0 n c).snd.snd.fst+List.getD ([[(0:Int),(0:Int)],[(1:Int),(0:Int)],[(1:Int),(1:Int)],[(0:Int),(1:Int)]].getD
 (i64.wrap ((0:Int)+(1:Int))).toNat (K.arr (2:Nat) (K.int i64)).dflt) (Int.toNat (1:Int)) (0:Int)))).fst).set (i64.wrap (i64.wrap ((0 :
 Int)+(1:Int))+(1:Int))).toNat (Zj n (Z0 n c).fst (i64.wrap ((Z0 n c).snd.fst+List.getD ([[(0:Int),(0:Int)],[(1:Int),(0:Int)],[(1 :
 Int),(1:Int)],[(0:Int),(1:Int)]].getD (i64.wrap (i64.wrap ((0:Int)+(1:Int))+(1:Int))).toNat (K.arr (2:Nat) (K.int i64)).dflt)
 (Int.toNat (0:Int)) (0:Int))) (i64.wrap ((Z0 n c).snd.snd.fst+List.getD ([[(0:Int),(0:Int)],[(1:Int),(0:Int)],[(1:Int),(1:Int)],[(0:Int),(1
 : Int)]].getD (i64.wrap (i64.wrap ((0:Int)+(1:Int))+(1:Int))).toNat (K.arr (2:Nat) (K.int i64)).dflt) (Int.toNat (1:Int)) (0 :
 Int)))).fst).set (i64.wrap (i64.wrap (i64.wrap ((0:Int)+(1:Int))+(1:Int))+(1:Int))).toNat (Zj n (Z0 n c).fst (i64.wrap
 ((Z0 n c).snd.fst+List.getD ([[(0:Int),(0:Int)],[(1:Int),(0:Int)],[(1:Int),(1:Int)],[(0:Int),(1:Int)]].getD (i64.wrap (i64.wrap
 (i64.wrap ((0:Int)+(1:Int))+(1:Int))+(1:Int))).toNat (K.arr (2:Nat) (K.int i64)).dflt) (Int.toNat (0:Int)) (0:Int))) (i64.wrap
 ((Z0 n c).snd.snd.fst+List.getD ([[(0:Int),(0:Int)],[(1:Int),(0:Int)],[(1:Int),(1:Int)],[(0:Int),(1:Int)]].getD (i64.wrap (i64.wrap
 (i64.wrap ((0:Int)+(1:Int))+(1:Int))+(1:Int))).toNat (K.arr (2:Nat) (K.int i64)).dflt) (Int.toNat (1:Int)) (0:Int)))).fst).length=(4:Nat)),
 post (((((List.replicate (4:Nat) ((K.flt f64).pair ((K.flt f64).pair (K.flt f64))).dflt).set (Int.toNat (0:Int)) (Zj n (Z0 n
 c).fst (i64.wrap ((Z0 n c).snd.fst+List.getD ([[(0:Int),(0:Int)],[(1:Int),(0:Int)],[(1:Int),(1:Int)],[(0:Int),(1:Int)]].getD (Int.toNat (0 :
 Int)) (K.arr (2:Nat) (K.int i64)).dflt) (Int.toNat (0:Int)) (0:Int))) (i64.wrap ((Z0 n c).snd.snd.fst+List.getD ([[(0:Int),(0:Int)],[(1:Int),
 (0:Int)],[(1:Int),(1:Int)],[(0:Int),(1:Int)]].getD (Int.toNat (0:Int)) (K.arr (2:Nat) (K.int i64)).dflt) (Int.toNat (1:Int)) (0:Int)))).fst).set
 (i64.wrap ((0:Int)+(1:Int))).toNat (Zj n (Z0 n c).fst (i64.wrap ((Z0 n c).snd.fst+List.getD ([[(0:Int),(0:Int)],[(1:Int),(0 :
 Int)],[(1:Int),(1:Int)],[(0:Int),(1:Int)]].getD (i64.wrap ((0:Int)+(1:Int))).toNat (K.arr (2:Nat) (K.int i64)).dflt) (Int.toNat (0:Int)) (0 :
 Int))) (i64.wrap ((Z0 n c).snd.snd.fst+List.getD ([[(0:Int),(0:Int)],[(1:Int),(0:Int)],[(1:Int),(1:Int)],[(0:Int),(1:Int)]].getD
 (i64.wrap ((0:Int)+(1:Int))).toNat (K.arr (2:Nat) (K.int i64)).dflt) (Int.toNat (1:Int)) (0:Int)))).fst).set (i64.wrap (i64.wrap ((0 :
 Int)+(1:Int))+(1:Int))).toNat (Zj n (Z0 n c).fst (i64.wrap ((Z0 n c).snd.fst+List.getD ([[(0:Int),(0:Int)],[(1:Int),(0:Int)],[(1 :
 Int),(1:Int)],[(0:Int),(1:Int)]].getD (i64.wrap (i64.wrap ((0:Int)+(1:Int))+(1:Int))).toNat (K.arr (2:Nat) (K.int i64)).dflt)
 (Int.toNat (0:Int)) (0:Int))) (i64.wrap ((Z0 n c).snd.snd.fst+List.getD ([[(0:Int),(0:Int)],[(1:Int),(0:Int)],[(1:Int),(1:Int)],[(0:Int),(1
 : Int)]].getD (i64.wrap (i64.wrap ((0:Int)+(1:Int))+(1:Int))).toNat (K.arr (2:Nat) (K.int i64)).dflt) (Int.toNat (1:Int)) (0 :
 Int)))).fst).set (i64.wrap (i64.wrap (i64.wrap ((0:Int)+(1:Int))+(1:Int))+(1:Int))).toNat (Zj n (Z0 n c).fst (i64.wrap
 ((Z0 n c).snd.fst+List.getD ([[(0:Int),(0:Int)],[(1:Int),(0:Int)],[(1:Int),(1:Int)],[(0:Int),(1:Int)]].getD (i64.wrap (i64.wrap
 (i64.wrap ((0:Int)+(1:Int))+(1:Int))+(1:Int))).toNat (K.arr (2:Nat) (K.int i64)).dflt) (Int.toNat (0:Int)) (0:Int))) (i64.wrap
 ((Z0 n c).snd.snd.fst+List.getD ([[(0:Int),(0:Int)],[(1:Int),(0:Int)],[(1:Int),(1:Int)],[(0:Int),(1:Int)]].getD (i64.wrap (i64.wrap
 (i64.wrap ((0:Int)+(1:Int))+(1:Int))+(1:Int))).toNat (K.arr (2:Nat) (K.int i64)).dflt) (Int.toNat (1:Int)) (0:Int)))).fst,true,()))
theorem Z16s (n:Int) (c:Int) (h:II n c):Zas  n c (fun r=>r=Zt n c):=by
 obtain ⟨hn,hc⟩:=h
 refine ⟨⟨hn,hc⟩,Br.intro (fun e=>?_) fun e=>?_⟩
 ·refine ⟨⟨by decide,by decide⟩,by decide,?_⟩
  have ok:Zl n c=false:=by
   cases q:Zl n c with
   | false=>rfl
   | true=>unfold Z0 at e; rw [if_pos q] at e; cases e
  unfold Zt; rw [if_neg (by rw [ok]; decide)]
 have ok:Zl n c=true:=by
  cases q:Zl n c with
  | true=>rfl
  | false=>unfold Z0 at e; rw [if_neg (by rw [q]; decide)] at e; cases e
 obtain ⟨h1,h2,h3,h4,h5,h6⟩:=Z3s ok
 obtain ⟨r1,r2,r3,r4,r5,r6⟩:=Zen ok
 have hp:Z0 n c=(c / (n*n),c % n,c / n % n,true,()):=by unfold Z0; rw [if_pos ok]
 have hf:I64 (c / (n*n)):=⟨by omega,by omega⟩
 have ho:∀ x,0≤x→x≤33→I64 x:=fun x a b=>⟨by omega,by omega⟩
 have w0:∀ x,0≤x→x≤33→i64.wrap (x+0)=x:=fun x a b=>by rw [Int.add_zero,wi (ho x a b)]
 have w1:∀ x,0≤x→x≤32→i64.wrap (x+1)=x+1:=fun x a b=>wi (ho _ (by omega) (by omega))
 have hC:∀ i j,0≤i→i≤n→0≤j→j≤n→Zj n (c / (n*n)) i j=(Z2k n (c / (n*n)) i j,true,()):=by
  intro i j a1 a2 a3 a4
  unfold Zj
  rw [if_pos]
  unfold Z2a
  rw [Z1n.2 ⟨h1,h2⟩,decide_eq_true (by omega),decide_eq_true (by omega),decide_eq_true (by omega),decide_eq_true (by omega),decide_eq_true (by omega),decide_eq_true (by omega)]
  rfl
 have a0:=w0 (c % n) (by omega) (by omega)
 have a1:=w1 (c % n) (by omega) (by omega)
 have b0:=w0 (c / n % n) (by omega) (by omega)
 have b1:=w1 (c / n % n) (by omega) (by omega)
 have A0:I64 (i64.wrap (c % n+0)):=by rw [a0]; exact ho _ (by omega) (by omega)
 have A1:I64 (i64.wrap (c % n+1)):=by rw [a1]; exact ho _ (by omega) (by omega)
 have B0:I64 (i64.wrap (c / n % n+0)):=by rw [b0]; exact ho _ (by omega) (by omega)
 have B1:I64 (i64.wrap (c / n % n+1)):=by rw [b1]; exact ho _ (by omega) (by omega)
 rw [hp]
 refine ⟨by decide,⟨by decide,by decide⟩,⟨by decide,by decide,by decide⟩,⟨by decide,by decide,by decide⟩,⟨hn,hf,A0,B0⟩,⟨by decide,by decide,Nat.le_refl 4⟩,
  by decide,⟨by decide,by decide⟩,⟨by decide,by decide,by decide⟩,⟨by decide,by decide,by decide⟩,⟨hn,hf,A1,B0⟩,⟨by decide,by decide,Nat.le_refl 4⟩,
  by decide,⟨by decide,by decide⟩,⟨by decide,by decide,by decide⟩,⟨by decide,by decide,by decide⟩,⟨hn,hf,A1,B1⟩,⟨by decide,by decide,Nat.le_refl 4⟩,
  by decide,⟨by decide,by decide⟩,⟨by decide,by decide,by decide⟩,⟨by decide,by decide,by decide⟩,⟨hn,hf,A0,B1⟩,⟨by decide,by decide,Nat.le_refl 4⟩,rfl,⟨rfl,rfl⟩,rfl,?_⟩
 show ([(Zj n (c / (n*n)) (i64.wrap (c % n+0)) (i64.wrap (c / n % n+0))).1,(Zj n (c / (n*n)) (i64.wrap (c % n+1)) (i64.wrap (c / n % n+0))).1,(Zj n (c / (n*n)) (i64.wrap (c % n+1)) (i64.wrap (c / n % n+1))).1,(Zj n (c / (n*n)) (i64.wrap (c % n+0)) (i64.wrap (c / n % n+1))).1],true,())=_
 rw [a0,a1,b0,b1,hC _ _ (by omega) (by omega) (by omega) (by omega),hC _ _ (by omega) (by omega) (by omega) (by omega),hC _ _ (by omega) (by omega) (by omega) (by omega),hC _ _ (by omega) (by omega) (by omega) (by omega)]
 unfold Zt; rw [if_pos ok]
def Zir:=fun (n c:Int) (post:Int × Unit→Prop)=>∃ (h:II n c),∃ (h:(List.replicate (4:Nat) ((K.flt f64).pair ((K.flt f64).pair
 (K.flt f64))).dflt).length=(4:Nat)∧(Zt n c).fst.length=(4:Nat)),Br (!(Zt n c).snd.fst) (post ((0:Int),())) (∃ (h:(0:Int)≤(2:Int) ∧
 (2:Int)<(↑(4:Nat):Int)∧(4:Nat)≤(Zt n c).fst.length),∃ (h:(0:Int)≤(0:Int)∧(0:Int)<(↑(4:Nat):Int)∧(4:Nat)≤(Zt n c).fst.length),∃
 (h:WV2 ((Zt n c).fst.getD (Int.toNat (2:Int)) ((K.flt f64).pair ((K.flt f64).pair (K.flt f64))).dflt) ((Zt n c).fst.getD
 (Int.toNat (0:Int)) ((K.flt f64).pair ((K.flt f64).pair (K.flt f64))).dflt)),∃ (h:(0:Int)≤(3:Int)∧(3:Int)<(↑(4:Nat) :
 Int)∧(4:Nat)≤(Zt n c).fst.length),∃ (h:(0:Int)≤(1:Int)∧(1:Int)<(↑(4:Nat):Int)∧(4:Nat)≤(Zt n c).fst.length),∃ (h:WV2 ((Zt n
 c).fst.getD (Int.toNat (3:Int)) ((K.flt f64).pair ((K.flt f64).pair (K.flt f64))).dflt) ((Zt n c).fst.getD (Int.toNat (1:Int))
 ((K.flt f64).pair ((K.flt f64).pair (K.flt f64))).dflt)),∃ (h:True),∃ (h:WV (Zab (Z3l ((Zt n c).fst.getD (Int.toNat (2 :
 Int)) ((K.flt f64).pair ((K.flt f64).pair (K.flt f64))).dflt) ((Zt n c).fst.getD (Int.toNat (0:Int)) ((K.flt f64).pair
 ((K.flt f64).pair (K.flt f64))).dflt)).fst (Z3l ((Zt n c).fst.getD (Int.toNat (3:Int)) ((K.flt f64).pair ((K.flt
 f64).pair (K.flt f64))).dflt) ((Zt n c).fst.getD (Int.toNat (1:Int)) ((K.flt f64).pair ((K.flt f64).pair (K.flt
 f64))).dflt)).fst).fst),∀ (a:Nat),FRes f64 (f64.format.mul (Z23 (Zab (Z3l ((Zt n c).fst.getD (Int.toNat (2:Int))
 ((K.flt f64).pair ((K.flt f64).pair (K.flt f64))).dflt) ((Zt n c).fst.getD (Int.toNat (0:Int)) ((K.flt f64).pair
 ((K.flt f64).pair (K.flt f64))).dflt)).fst (Z3l ((Zt n c).fst.getD (Int.toNat (3:Int)) ((K.flt f64).pair ((K.flt
 f64).pair (K.flt f64))).dflt) ((Zt n c).fst.getD (Int.toNat (1:Int)) ((K.flt f64).pair ((K.flt f64).pair (K.flt
 f64))).dflt)).fst).fst).fst (4602678819172646912:Nat)) a→∀ (a_1:Nat),FRes f64 (f64.format.mul a (4742290407621132288:Nat)) a_1→∃
 (h:W64 a_1),post (imax (Z2y a_1).fst (1:Int),()))
theorem Z1ir (n:Int) (c:Int) (h:II n c):Zir  n c (fun r=>r=Zko n c):=by
 have g0:∀ i:Nat,WV ((Zt n c).fst.getD i ((K.flt f64).pair ((K.flt f64).pair (K.flt f64))).dflt):=Z1pe n c
 have hl:=Z10p n c
 refine ⟨h,⟨by decide,hl⟩,?_⟩
 rw [hl]
 refine Br.intro (fun e=>?_) fun e=>?_
 ·rw [Zr0] at e
  exact congrArg r1 (by unfold Zx; rw [if_neg (by intro q; rw [q] at e; cases e)])
 rw [Zr0] at e
 have ok:Zl n c=true:=by simpa using e
 refine ⟨⟨by decide,by decide,Nat.le_refl 4⟩,⟨by decide,by decide,Nat.le_refl 4⟩,⟨g0 2,g0 0⟩,⟨by decide,by decide,Nat.le_refl 4⟩,⟨by decide,by decide,Nat.le_refl 4⟩,⟨g0 3,g0 1⟩,trivial,Z1hu _ _,?_⟩
 intro x hx y hy
 obtain ⟨x1,x2⟩:=fmul hx
 obtain ⟨y1,y2⟩:=fmul hy
 refine ⟨y2,congrArg r1 ?_⟩
 have hs:Zt n c=([Z1w n c 0 0,Z1w n c 1 0,Z1w n c 1 1,Z1w n c 0 1],true,()):=by
  unfold Zt; rw [if_pos ok]; unfold Z1w; rw [Int.add_zero,Int.add_zero]
 have hq:[Z1w n c 0 0,Z1w n c 1 0,Z1w n c 1 1,Z1w n c 0 1]=(Zt n c).1:=by rw [hs]
 have hx1:Zh x=mulQ (Zdu n c) Z2x:=by
  rw [x1]
  exact congrArg (fun z=>mulQ z 4602678819172646912) (Z1uf (z:=(0,0,0)) hq.symm)
 have hy1:Zh y=mulQ (mulQ (Zdu n c) Z2x) Zqz:=by
  rw [y1]
  have u:Zh x=Zh (mulQ (Zdu n c) Z2x):=by rw [hx1,Zhy]
  exact Z14k u rfl
 show imax (Z2h y).1 1=Zx n c
 unfold Zx
 rw [if_pos ok,Z10q y2,hy1]
end Go.Lift

namespace Go.Lift
def Zn9:=fun (a:Int) (post:Nat × Unit→Prop)=>∃ (h:True),post ((Z7x a).fst,())
theorem Z1kd (a:Int):Zn9  a (fun r=>r=Z7x a):=by
 exact ⟨trivial,rfl⟩
def Zna:=fun (a:Nat) (post:Int × Unit→Prop)=>∃ (h:True),post ((Z1k a).fst,())
theorem Z1ke (a:Nat):Zna  a (fun r=>r=Z1k a):=by
 exact ⟨trivial,rfl⟩
def Zfi:=fun (post:Nat × Unit→Prop)=>∃ (h:True),post ((Z7x (9221120237041090561:Int)).fst,())
theorem Z1ew  : Zfi   (fun r=>r=qnR):=by
 exact ⟨trivial,rfl⟩
def Zck:=fun (post:Nat × Unit→Prop)=>∃ (h:True),post ((Z7x (9221120237041090561:Int)).fst,())
theorem Z1ax  : Zck   (fun r=>r=qnR):=by
 exact ⟨trivial,rfl⟩
def Znb:=fun (a:Nat) (post:Nat × Unit→Prop)=>∃ (h:True),∃ (h:True),post ((Z7x (Go.bits Go.BinOp.andNot u64 (Z1k a).fst (9223372036854775808 :
 Int))).fst,())
theorem Z1kf (a:Nat) (h:W64 a):Znb  a (fun r=>r=absR a):=by
 refine ⟨trivial,trivial,?_⟩
 show r1 (Go.bits .andNot .u64 (a:Int) 9223372036854775808).toNat=_
 rw [Z1k2 h]; rfl
def Zfj:=fun (a:Nat) (post:Bool × Unit→Prop)=>∀ (a_1:Bool),a_1=fcmp Go.BinOp.neq (f64.format.order a a)→post (a_1,())
theorem Z1ex (a:Nat):Zfj  a (fun r=>r=nanR a):=by
 rintro _ rfl
 exact congrArg r1 (Z116 a)
def Zis:=fun (a:Nat) (post:Int × Unit→Prop)=>∃ (h:True),∃ (h:(9223372036854775808:Int)≠(0:Int)),post ((Z1k a).fst.tmod (9223372036854775808:Int),
 ())
theorem Z1is (a:Nat) (h:W64 a):Zis  a (fun r=>r=magR a):=by
 refine ⟨trivial,by decide,?_⟩
 show r1 ((a:Int).tmod 9223372036854775808)=r1 (magI a)
 rw [Int.tmod_eq_emod_of_nonneg (by omega)]; unfold magI Z1 sw; congr 1
def Zfk:=fun (a:Nat) (post:Bool × Unit→Prop)=>∃ (h:W64 a),∀ (a_1:Bool),a_1=decide ((magR a).fst > (9218868437227405312:Int))→post (a_1,())
theorem Z1ey (a:Nat) (h:W64 a):Zfk  a (fun r=>r=nanR a):=by
 refine ⟨h,?_⟩
 rintro _ rfl
 refine congrArg r1 ?_
 show decide (((Z1 a:Nat):Int) > 9218868437227405312)=decide (infR<Z1 a)
 rw [Bool.eq_iff_iff]; simp only [decide_eq_true_eq]; unfold infR; omega
def Zcl:=fun (a:Nat) (post:Bool × Unit→Prop)=>∃ (h:True),∀ (a_1:Bool),a_1=decide ((Z1k a).fst≥(9223372036854775808:Int))→post (a_1,())
theorem Z1ay (a:Nat) (h:W64 a):Zcl  a (fun r=>r=Zej a):=by
 refine ⟨trivial,?_⟩
 rintro _ rfl
 refine congrArg r1 ?_
 rw [Z1a0 h,Bool.eq_iff_iff]
 simp [Z1k,r1]; omega
def Zfl:=fun (a:Nat) (post:Nat × Unit→Prop)=>∀ (a_1:Bool),a_1=fcmp Go.BinOp.neq (f64.format.order a a)→Br a_1 (∃ (h:True),post (qnR.fst,
 ())) (∀ (a_2:Bool),a_2=fcmp Go.BinOp.eql (f64.format.order a (0:Nat))→Br a_2 (post ((0:Nat),())) (post (a,())))
theorem Z1ez (a:Nat):Zfl  a (fun r=>r=Zk a):=by
 rintro _ rfl
 refine Br.intro (fun e=>⟨trivial,?_⟩) fun e=>?_
 ·have e:isN a=true:=(Z116 a).symm.trans e
  exact congrArg r1 (by unfold Z16; rw [if_pos e]; rfl)
 ·have e:isN a=false:=(Z116 a).symm.trans e
  rintro _ rfl
  refine Br.intro (fun z=>?_) fun z=>?_
  ·have z:=(Z1gx a).symm.trans z
   rw [e] at z
   exact congrArg r1 (by unfold Z16; rw [e,if_neg (by simp),if_pos (by simpa using z)])
  ·have z:=(Z1gx a).symm.trans z
   rw [e] at z
   exact congrArg r1 (by unfold Z16; rw [e,if_neg (by simp),if_neg (by simpa using z)])
def Zcm:=fun (a:Nat) (post:Nat × Unit→Prop)=>∃ (h:W64 a),∀ (a_1:Bool),a_1=(nanR a).fst→Br a_1 (∃ (h:True),post (qnR.fst,())) (∃ (h:W64 a),∀
 (a_2:Bool),a_2=((magR a).fst==(0:Int))→Br a_2 (∃ (h:True),post ((Z7x (0:Int)).fst,())) (post (a,())))
theorem Z1az (a:Nat) (h:W64 a):Zcm  a (fun r=>r=Zk a):=by
 refine ⟨h,?_⟩
 rintro _ rfl
 refine Br.intro (fun e=>⟨trivial,?_⟩) fun e=>⟨h,?_⟩
 ·have e:isN a=true:=e
  exact congrArg r1 (by unfold Z16; rw [if_pos e]; rfl)
 ·have e:isN a=false:=e
  rintro _ rfl
  refine Br.intro (fun z=>⟨trivial,?_⟩) fun z=>?_
  ·have z:Z1 a=0:=by simpa [magR,r1,magI] using z
   exact congrArg r1 (by unfold Z16; rw [e,if_neg (by simp),if_pos z]; rfl)
  ·have z:Z1 a≠0:=by simpa [magR,r1,magI] using z
   exact congrArg r1 (by unfold Z16; rw [e,if_neg (by simp),if_neg z])
def Zit:=fun (a:Nat) (post:Nat × Unit→Prop)=>∃ (h:True),∀ (a_1:Bool),a_1=(nanR a).fst→Br a_1 (∃ (h:True),post ((Z7x (9221120237041090561 :
 Int)).fst,())) (post (a,()))
theorem Z1it (a:Nat):Zit  a (fun r=>r=Z4c a):=by
 refine ⟨trivial,?_⟩
 rintro _ rfl
 refine Br.intro (fun e=>⟨trivial,?_⟩) fun e=>?_
 ·have e:isN a=true:=e
  exact congrArg r1 (by unfold Zh; rw [if_pos e]; rfl)
 ·have e:isN a=false:=e
  exact congrArg r1 (by unfold Zh; rw [e]; rfl)
def Z96:=fun (a:Nat) (post:Nat × Unit→Prop)=>∃ (h:W64 a),∀ (a_1:Bool),a_1=(nanR a).fst→Br a_1 (∃ (h:True),post (qnR.fst,())) (post (a,()))
theorem Z11s (a:Nat) (h:W64 a):Z96  a (fun r=>r=Z4c a):=by
 refine ⟨h,?_⟩
 rintro _ rfl
 refine Br.intro (fun e=>⟨trivial,?_⟩) fun e=>?_
 ·have e:isN a=true:=e
  exact congrArg r1 (by unfold Zh; rw [if_pos e]; rfl)
 ·have e:isN a=false:=e
  exact congrArg r1 (by unfold Zh; rw [e]; rfl)
def Z97:=fun (a:Nat) (post:Int × Unit→Prop)=>∃ (h:True),∃ (h:(0:Int)≤(1:Int)),post (u64.wrap ((Z1k a).fst*(2:Int) ^ Min.min
 (Int.toNat (1:Int)) u64.bits),())
theorem Z11t (a:Nat) (h:W64 a):Z97  a (fun r=>r=Z1gi a):=by
 refine ⟨trivial,by decide,?_⟩
 refine congrArg r1 ?_
 show u64.wrap ((a:Int)*2 ^ 1)=_
 rw [IntKind.wrap_u64]; unfold mag2 magI Z1 sw; omega
def Zfm:=fun (a:Nat) (post:Int × Unit→Prop)=>∃ (h:True),∀ (a_1:Bool),a_1=decide ((Z1k a).fst≥(9223372036854775808:Int))→Br a_1 (post (Go.bits
 Go.BinOp.xor u64 (if u64.signed=true then (-1:Int) else u64.max) (Z1k a).fst,())) (post (Go.bits Go.BinOp.or u64 (Z1k a).fst
 (9223372036854775808:Int),()))
theorem Z1f0 (a:Nat) (h:W64 a):Zfm  a (fun r=>r=Z15q a):=by
 refine ⟨trivial,?_⟩
 rintro _ rfl
 refine Br.intro (fun e=>?_) fun e=>?_
 ·have e:9223372036854775808≤a:=by have:=of_decide_eq_true e; dsimp only [Z1k,r1] at this; omega
  refine congrArg r1 ?_
  show Go.bits .xor .u64 _ (a:Int)=_
  unfold Z4d; rw [if_pos ((Z9o h).2 e)]
  exact Z1r2 h
 ·have e:a<9223372036854775808:=by have:=of_decide_eq_false e; dsimp only [Z1k,r1] at this; omega
  refine congrArg r1 ?_
  show Go.bits .or .u64 (a:Int) 9223372036854775808=_
  unfold Z4d; rw [if_neg (by rw [Z9o h]; omega)]
  exact Z1sy e
def Z6f:=fun (a:Int) (post:Bool × Unit→Prop)=>∀ (a_1:Bool),a_1=(a != a)→post (a_1,())
theorem Ztd (a:Int):Z6f  a (fun r=>r=noR a):=by
 rintro _ rfl
 exact congrArg r1 (by simp)
def Z50:=fun (a b:Int) (post:Int × Unit→Prop)=>∃ (h:True),∀ (a_1:Bool),a_1=(noR a).fst→∃ (h:True),∀ (a_2:Bool),a_2=(noR b).fst→Br a_1
 (Br a_2 (post ((0:Int),())) (post ((-1:Int),()))) (Br a_2 (post ((1:Int),())) (∀ (a_3:Bool),a_3=decide (a<b)→Br a_3 (post ((-1:Int),())) (∀ (a_4:Bool),a_4
 = decide (a > b)→Br a_4 (post ((1:Int),())) (post ((0:Int),())))))
theorem Zof (a:Int) (b:Int):Z50  a b (fun r=>r=cmpR a b):=by
 refine ⟨trivial,?_⟩
 rintro _ rfl
 refine ⟨trivial,?_⟩
 rintro _ rfl
 refine Br.intro (fun e=>by cases e) fun _=>Br.intro (fun e=>by cases e) fun _=>?_
 rintro _ rfl
 refine Br.intro (fun e=>?_) fun e=>?_
 ·exact congrArg r1 (by unfold cmpI; rw [if_pos (of_decide_eq_true e)])
 ·rintro _ rfl
  refine Br.intro (fun f=>?_) fun f=>?_
  ·exact congrArg r1 (by unfold cmpI; rw [if_neg (of_decide_eq_false e),if_pos (of_decide_eq_true f)])
  ·exact congrArg r1 (by unfold cmpI; rw [if_neg (of_decide_eq_false e),if_neg (of_decide_eq_false f)])
def Zfn:=fun (a b:Nat) (post:Int × Unit→Prop)=>∃ (h:W64 a),∃ (h:W64 b),∃ (h:True),post ((cmpR (Z15q a).fst (Z15q b).fst).fst,())
theorem Z1f1 (a:Nat) (b:Nat) (h:W2 a b):Zfn  a b (fun r=>r=ordR a b):=by
 exact ⟨h.1,h.2,trivial,rfl⟩
def Zfo:=fun (a:List Int) (post:Int × Unit→Prop)=>HIs [] []∧∃ (I:Int × Unit→Unit→Prop),∃ (μ:Int × Unit→Unit→Nat),I ((0:Int),()) ()∧∀ (x :
 Int × Unit) (y:Unit),I x y→∀ (a_1:Bool),a_1=decide (x.fst<(↑a.length:Int))→Br a_1 (∃ (h:(0:Int)≤x.fst∧x.fst<(↑a.length:Int)),∀ (a_2:Bool),a_2 =
 (a.getD x.fst.toNat (0:Int) != (0:Int))→Br a_2 (post (a.getD x.fst.toNat (0:Int),())) (HIs [] []∧I (i64.wrap (x.fst+(1:Int)),()) ()∧μ (i64.wrap
 (x.fst+(1:Int)),()) ()<μ x y)) (post ((0:Int),()))
theorem Z1f2 (a:List Int) (w:KS.wf [.slice (.int .i64)] (a,())):Zfo  a (fun r=>r=orR a):=by
 have hl:a.length≤maxN:=w.1.1
 unfold maxN at hl
 refine ⟨rfl,fun x _=>∃ i:Nat,x.1=i∧i≤a.length∧Zc7 (a.drop i)=Zc7 a,fun x _=>a.length - x.1.toNat,⟨0,rfl,by omega,rfl⟩,?_⟩
 rintro ⟨_,⟨⟩⟩ _ ⟨i,hi,hil,hn⟩
 dsimp only at hi
 subst hi
 rintro _ rfl
 refine Br.intro (fun e=>?_) fun e=>?_
 ·have e:i<a.length:=by have:=of_decide_eq_true e; dsimp only at this; omega
  have hd:a.drop i=a.getD i 0 :: a.drop (i+1):=by
   rw [List.drop_eq_getElem_cons e,List.getD_eq_getElem?_getD,List.getElem?_eq_getElem e]; rfl
  rw [hd] at hn
  simp only [Int.toNat_natCast]
  refine ⟨⟨by omega,by omega⟩,?_⟩
  rintro _ rfl
  refine Br.intro (fun z=>?_) fun z=>⟨rfl,⟨i+1,?_,by omega,?_⟩,?_⟩
  ·have z:a.getD i 0≠0:=by simpa using z
   refine congrArg r1 ?_
   rw [← hn]; unfold Zc7; rw [if_pos z]
  ·rw [wi ⟨by omega,by omega⟩]; omega
  ·have z:a.getD i 0=0:=by simpa using z
   rw [← hn,z]; rfl
  ·rw [wi ⟨by omega,by omega⟩]; omega
 ·have e:a.length≤i:=by have:=of_decide_eq_false e; dsimp only at this; omega
  refine congrArg r1 ?_
  rw [← hn,List.drop_eq_nil_of_le e]; rfl
def Zat:=fun (a b:Nat) (post:Int × Unit→Prop)=>∃ (h:W64 a),∃ (h:W64 b),∃ (h:True),∃ (h:W2 a b),∃ (h:True),post ((orR [(cmpR (Z1gi a).fst (Z1gi
 b).fst).fst,(ordR a b).fst]).fst,())
theorem Z16t (a:Nat) (b:Nat) (h:W2 a b):Zat  a b (fun r=>r=Zqx a b):=by
 refine ⟨h.1,h.2,trivial,h,trivial,?_⟩
 refine congrArg r1 ?_
 unfold cmpM
 show Zc7 [cmpI (mag2 a) (mag2 b),ordF a b]=_
 simp only [Zc7]
 split
 ·rfl
 ·split
  ·rfl
  ·rename_i z; simpa using (by simpa using z:ordF a b=0).symm
def Zcn:=fun (a b:Nat) (post:Int × Unit→Prop)=>∃ (h:True),∃ (h:True),∀ (a_1:Bool),a_1=((Z1k a).fst==(Z1k b).fst)→Br a_1 (post ((0:Int),
 ())) (∃ (h:W64 a),∀ (a_2:Bool),a_2=(Zej a).fst→Br a_2 (∃ (h:W64 b),∀ (a_3:Bool),a_3=(Zej b).fst→Br a_3 (∀ (a_4:Bool),a_4=decide ((Z1k a).fst >
 (Z1k b).fst)→Br a_4 (post ((-1:Int),())) (post ((1:Int),()))) (∃ (h:W64 a),∀ (a_4:Bool),a_4=(Zej a).fst→Br a_4 (post ((-1:Int),())) (∃ (h:W64 b),∀
 (a_5:Bool),a_5=(Zej b).fst→Br a_5 (post ((1:Int),())) (∀ (a_6:Bool),a_6=decide ((Z1k a).fst<(Z1k b).fst)→Br a_6 (post ((-1:Int),())) (post ((1:Int),
 ())))))) (∃ (h:W64 a),∀ (a_3:Bool),a_3=(Zej a).fst→Br a_3 (post ((-1:Int),())) (∃ (h:W64 b),∀ (a_4:Bool),a_4=(Zej b).fst→Br a_4 (post ((1:Int),()))
 (∀ (a_5:Bool),a_5=decide ((Z1k a).fst<(Z1k b).fst)→Br a_5 (post ((-1:Int),())) (post ((1:Int),()))))))
theorem Z1b0 (a:Nat) (b:Nat) (h:W2 a b):Zcn  a b (fun r=>r=ordR a b):=by
 have hw1:=h.1
 have hw2:=h.2
 refine ⟨trivial,trivial,?_⟩
 rintro _ rfl
 refine Br.intro (fun e=>?_) fun e=>⟨hw1,?_⟩
 ·have e:((a:Int)==(b:Int))=true:=e
  exact congrArg r1 (Z1r3 (by simpa [Z1l9] using e)).symm
 ·have e:((a:Int)==(b:Int))=false:=e
  have e:a≠b:=by simpa [Z1l9] using e
  have one:sgn b=false→∀ t:Bool,t=sgn a→Br t ((-1,())=ordR a b) (∃ _:W64 b,∀ t:Bool,t=sgn b→Br t ((1,())=ordR a b) (∀ t:Bool,t=decide ((a:Int)<(b:Int))→Br t ((-1,())=ordR a b) ((1,())=ordR a b))):=by
   rintro hb _ rfl
   refine Br.intro (fun f=>congrArg r1 (Z1u8 f hb hw1 hw2).symm) fun f=>⟨hw2,?_⟩
   rintro _ rfl
   refine Br.intro (fun g=>by rw [hb] at g; cases g) fun g=>?_
   rintro _ rfl
   refine Br.intro (fun z=>congrArg r1 (Z1p2 f g (of_decide_eq_true z)).symm) fun z=>congrArg r1 (Z1la f g e (by have:=of_decide_eq_false z; omega)).symm
  have two:sgn a=false→∀ t:Bool,t=sgn a→Br t ((-1,())=ordR a b) (∃ _:W64 b,∀ t:Bool,t=sgn b→Br t ((1,())=ordR a b) (∀ t:Bool,t=decide ((a:Int)<(b:Int))→Br t ((-1,())=ordR a b) ((1,())=ordR a b))):=by
   rintro hb _ rfl
   refine Br.intro (fun f=>by rw [hb] at f; cases f) fun f=>⟨hw2,?_⟩
   rintro _ rfl
   refine Br.intro (fun g=>congrArg r1 (Z1u9 f g hw1 hw2).symm) fun g=>?_
   rintro _ rfl
   refine Br.intro (fun z=>congrArg r1 (Z1p2 f g (of_decide_eq_true z)).symm) fun z=>congrArg r1 (Z1la f g e (by have:=of_decide_eq_false z; omega)).symm
  rintro _ rfl
  refine Br.intro (fun f=>⟨hw2,?_⟩) fun f=>⟨hw1,two f⟩
  rintro _ rfl
  refine Br.intro (fun g=>?_) fun g=>⟨hw1,one g⟩
  rintro _ rfl
  refine Br.intro (fun z=>congrArg r1 (Z1ua f g (of_decide_eq_true z)).symm) fun z=>congrArg r1 (Z1sz f g e (by have:=of_decide_eq_false z; dsimp only [Z1k,r1] at this; omega)).symm
def Zco:=fun (a b:Nat) (post:Bool × Unit→Prop)=>∃ (h:W64 a),∃ (h:W64 b),∀ (a_1:Bool),a_1=decide ((magR a).fst<(magR b).fst)→Br a_1 (post
 (true,())) (∀ (a_2:Bool),a_2=((magR a).fst==(magR b).fst)→Br a_2 (∃ (h:W2 a b),∀ (a_3:Bool),a_3=decide ((ordR a b).fst<(0:Int))→post (a_3,())) (post
 (false,())))
theorem Z1b1 (a:Nat) (b:Nat) (h:W2 a b):Zco  a b (fun r=>r=Za9 a b):=by
 refine ⟨h.1,h.2,?_⟩
 rintro _ rfl
 refine Br.intro (fun e=>?_) fun e=>?_
 ·have e:magI a<magI b:=of_decide_eq_true e
  exact congrArg r1 (Z1r4 e).symm
 ·have e:¬ magI a<magI b:=of_decide_eq_false e
  rintro _ rfl
  refine Br.intro (fun z=>⟨h,?_⟩) fun z=>?_
  ·have z:(magI a==magI b)=true:=z
   rintro _ rfl
   exact congrArg r1 (Z1r6 (by simpa using z)).symm
  ·have z:(magI a==magI b)=false:=z
   have z:magI a≠magI b:=by simpa using z
   exact congrArg r1 (Z1r5 (by omega)).symm
def Zfp:=fun (a:Nat) (b:Int) (post:Bool × Unit→Prop)=>∀ (a_1:Bool),a_1=(b==(0:Int))→Br a_1 (∃ (h:W64 a),∀ (a_2:Bool),a_2=fcmp Go.BinOp.gtr
 (f64.format.order (absR a).fst (9218868437227405311:Nat))→post (a_2,())) (∀ (a_2:Bool),a_2=decide (b<(0:Int))→Br a_2 (∀ (a_3:Bool),a_3=fcmp
 Go.BinOp.gtr (f64.format.order (Go.Op.negFloat f64 a) (9218868437227405311:Nat))→post (a_3,())) (∀ (a_3:Bool),a_3=fcmp Go.BinOp.gtr
 (f64.format.order a (9218868437227405311:Nat))→post (a_3,())))
theorem Z1f3 (a:Nat) (b:Int) (h:WI a b):Zfp  a b (fun r=>r=Z1ms a b):=by
 have h:W64 a:=h
 rintro _ rfl
 refine Br.intro (fun e=>⟨h,?_⟩) fun e=>?_
 ·have e:b=0:=by simpa using e
  rintro _ rfl
  refine congrArg r1 ?_
  show fcmp .gtr (Ieee.double.order (Z1 a) 9218868437227405311)=_
  unfold infS; rw [if_pos e,Z1hm]
  have:=Z1l8 a
  have e1:Z1 (Z1 a)=Z1 a:=Zxz this
  have e2:sgn (Z1 a)=false:=by rw [Z1a0 (by unfold W64; omega)]; simp; omega
  rw [e1,e2]; simp
 ·have e:b≠0:=by simpa using e
  rintro _ rfl
  refine Br.intro (fun f=>?_) fun f=>?_
  ·have f:b<0:=of_decide_eq_true f
   rintro _ rfl
   refine congrArg r1 ?_
   show fcmp .gtr (Ieee.double.order (negF a) 9218868437227405311)=_
   unfold infS; rw [if_neg e,if_pos f,Z1hm,(Z1du h).1,Z1hl h]; simp
  ·have f:¬ b<0:=of_decide_eq_false f
   rintro _ rfl
   refine congrArg r1 ?_
   show fcmp .gtr (Ieee.double.order a 9218868437227405311)=_
   unfold infS; rw [if_neg e,if_neg f,Z1hm]
def Zcp:=fun (a:Nat) (post:Int × Unit→Prop)=>∃ (h:W64 a),∀ (a_1:Bool),a_1=((magR a).fst==(0:Int))→Br a_1 (post ((0:Int),())) (∀ (a_2:Bool),
 a_2=decide ((magR a).fst<(4503599627370496:Int))→Br a_2 (post ((1:Int),())) (∀ (a_3:Bool),a_3=decide ((magR a).fst<(9218868437227405312:Int))→Br a_3 (post
 ((2:Int),())) (∀ (a_4:Bool),a_4=((magR a).fst==(9218868437227405312:Int))→Br a_4 (post ((3:Int),())) (post ((4:Int),())))))
theorem Z1b2 (a:Nat) (h:W64 a):Zcp  a (fun r=>r=Zv2 a):=by
 refine ⟨h,?_⟩
 generalize hm:(magR a).fst=m
 have hm:magI a=m:=hm
 rintro _ rfl
 refine Br.intro (fun e=>by subst hm; exact congrArg r1 (Z1t1 e).symm) fun e=>?_
 have e2:Z1 a≠0:=by subst hm; exact Z1r7 e
 clear e
 rintro _ rfl
 refine Br.intro (fun f=>by subst hm; exact congrArg r1 (Z1t2 e2 f).symm) fun f=>?_
 rintro _ rfl
 refine Br.intro (fun g=>by subst hm; exact congrArg r1 (Z1t3 e2 f g).symm) fun g=>?_
 rintro _ rfl
 exact Br.intro (fun k=>by subst hm; exact congrArg r1 (Z1t4 e2 f g k).symm) fun k=>by subst hm; exact congrArg r1 (Z1t5 e2 f g k).symm
end Go.Lift

namespace Go.Lift
open Go.Proofs
def Z32:Con:=.det [.flt .f64] [.snap (.int .u64)] (fun _=>True) (fun x=>Z1k x.1)
theorem Z3o:Z32.holds Tryz.prog RbG 120:=by
 refine Z1nb (fn:=Tryz.f120) Tryz.func120 (by decide) rfl rfl (by kernel_rfl)
def Z2c:Con:=.det [.int .u64] [.snap (.flt .f64)] (fun _=>True) (fun x=>Z7x x.1)
theorem Z33:Z2c.holds Tryz.prog RbG 146:=by
 refine Z1nc (fn:=Tryz.f146) Tryz.func146 (by decide) rfl rfl (by kernel_rfl)
def Zsg:Con:=.rel [.flt .f64] [.snap (.flt .f64)] (fun _=>True) (fun x r=>Z8w x.1 r) (fun x h=>Zxy (Z19o _) (Zxp _))
theorem Z1f4:Zsg.holds Tryz.prog RbG 166:=by
 refine Z1rv (fn:=Tryz.f166) Tryz.func166 (by decide) rfl rfl (by kernel_rfl)
def Zau:Con:=.det [.int .u64] [.snap (.flt .f64)] (fun _=>True) (fun x=>Z7x x.1)
def Zvp:Cx:=⟨Zd Zf,Ze [(146,Z2c)],RbG⟩
theorem Z16u:CxOk Tryz.prog Zvp:=⟨Z3 Z6,Z5 ⟨Z33,trivial⟩⟩
theorem Z1f5:FnAt Tryz.prog 131 Tryz.f131.ntmps Tryz.f131.results.toList (Tryz.f131.body.getD .skip):=⟨Tryz.f131,Tryz.func131,rfl,rfl,by simp,by decide⟩
theorem Z1f6 (a:Int) (post:Nat × Unit→Prop):Z9 Zvp nHn Tryz.f131.ntmps Tryz.f131.results.toList (Tryz.f131.body.getD .skip) [.int .u64] [.snap (.flt .f64)] (a,()) post=Zn9  a post:=by kernel_rfl
theorem Ziu:Zau.holds Tryz.prog RbG 131 :=
 detP Z16u Z8 nHn Z1f5 (F:=fun x post=>Zn9  x.1 post) (fun x post=>Z1f6 x.1 post) fun x _ _=>Z1kd  x.1
def Z7h:Con:=.det [.flt .f64] [.snap (.int .u64)] (fun _=>True) (fun x=>Z1k x.1)
def Zvq:Cx:=⟨Zd Zf,Ze [(120,Z32)],RbG⟩
theorem Z16v:CxOk Tryz.prog Zvq:=⟨Z3 Z6,Z5 ⟨Z3o,trivial⟩⟩
theorem Z1f7:FnAt Tryz.prog 140 Tryz.f140.ntmps Tryz.f140.results.toList (Tryz.f140.body.getD .skip):=⟨Tryz.f140,Tryz.func140,rfl,rfl,by simp,by decide⟩
theorem Z1f8 (a:Nat) (post:Int × Unit→Prop):Z9 Zvq nHn Tryz.f140.ntmps Tryz.f140.results.toList (Tryz.f140.body.getD .skip) [.flt .f64] [.snap (.int .u64)] (a,()) post=Zna  a post:=by kernel_rfl
theorem Zav:Z7h.holds Tryz.prog RbG 140 :=
 detP Z16v Z8 nHn Z1f7 (F:=fun x post=>Zna  x.1 post) (fun x post=>Z1f8 x.1 post) fun x _ _=>Z1ke  x.1
def Zog:Con:=.det [] [.snap (.flt .f64)] (fun _=>True) (fun x=>qnR)
def Zoh:Cx:=⟨Zd Zf,Ze [(146,Z2c)],RbG⟩
theorem Zyl:CxOk Tryz.prog Zoh:=⟨Z3 Z6,Z5 ⟨Z33,trivial⟩⟩
theorem Z16w:FnAt Tryz.prog 119 Tryz.f119.ntmps Tryz.f119.results.toList (Tryz.f119.body.getD .skip):=⟨Tryz.f119,Tryz.func119,rfl,rfl,by simp,by decide⟩
theorem Z16x  (post:Nat × Unit→Prop):Z9 Zoh nHn Tryz.f119.ntmps Tryz.f119.results.toList (Tryz.f119.body.getD .skip) [] [.snap (.flt .f64)] (()) post=Zfi   post:=by kernel_rfl
theorem Z1b3:Zog.holds Tryz.prog RbG 119 :=
 detP Zyl Z8 nHn Z16w (F:=fun x post=>Zfi   post) (fun x post=>Z16x  post) fun x _ _=>Z1ew
def Zaw:Con:=.det [] [.snap (.flt .f64)] (fun _=>True) (fun x=>qnR)
def Zl5:Cx:=⟨Zd Zf,Ze [(131,Zau)],RbG⟩
theorem Zvr:CxOk Tryz.prog Zl5:=⟨Z3 Z6,Z5 ⟨Ziu,trivial⟩⟩
theorem Z11u:FnAt Tryz.prog 143 Tryz.f143.ntmps Tryz.f143.results.toList (Tryz.f143.body.getD .skip):=⟨Tryz.f143,Tryz.func143,rfl,rfl,by simp,by decide⟩
theorem Z11v  (post:Nat × Unit→Prop):Z9 Zl5 nHn Tryz.f143.ntmps Tryz.f143.results.toList (Tryz.f143.body.getD .skip) [] [.snap (.flt .f64)] (()) post=Zck   post:=by kernel_rfl
theorem Zl6:Zaw.holds Tryz.prog RbG 143 :=
 detP Zvr Z8 nHn Z11u (F:=fun x post=>Zck   post) (fun x post=>Z11v  post) fun x _ _=>Z1ax
def Ziv:Con:=.det [.flt .f64] [.snap (.flt .f64)] (fun x=>W64 x.1) (fun x=>absR x.1)
def Zvs:Cx:=⟨Zd Zf,Ze [(120,Z32),(146,Z2c)],RbG⟩
theorem Z16y:CxOk Tryz.prog Zvs:=⟨Z3 Z6,Z5 ⟨Z3o,Z33,trivial⟩⟩
theorem Z1f9:FnAt Tryz.prog 151 Tryz.f151.ntmps Tryz.f151.results.toList (Tryz.f151.body.getD .skip):=⟨Tryz.f151,Tryz.func151,rfl,rfl,by simp,by decide⟩
theorem Z1fa (a:Nat) (post:Nat × Unit→Prop):Z9 Zvs nHn Tryz.f151.ntmps Tryz.f151.results.toList (Tryz.f151.body.getD .skip) [.flt .f64] [.snap (.flt .f64)] (a,()) post=Znb  a post:=by kernel_rfl
theorem Zvt:Ziv.holds Tryz.prog RbG 151 :=
 detP Z16y Z8 nHn Z1f9 (F:=fun x post=>Znb  x.1 post) (fun x post=>Z1fa x.1 post) fun x h _=>Z1kf  x.1 h
def Zoi:Con:=.det [.flt .f64] [.snap .bool] (fun _=>True) (fun x=>nanR x.1)
def Zoj:Cx:=⟨Zd Zf,Ze [],RbG⟩
theorem Zym:CxOk Tryz.prog Zoj:=⟨Z3 Z6,fun f c h=>by cases h⟩
theorem Z16z:FnAt Tryz.prog 197 Tryz.f197.ntmps Tryz.f197.results.toList (Tryz.f197.body.getD .skip):=⟨Tryz.f197,Tryz.func197,rfl,rfl,by simp,by decide⟩
theorem Z170 (a:Nat) (post:Bool × Unit→Prop):Z9 Zoj nHn Tryz.f197.ntmps Tryz.f197.results.toList (Tryz.f197.body.getD .skip) [.flt .f64] [.snap .bool] (a,()) post=Zfj  a post:=by kernel_rfl
theorem Z1b4:Zoi.holds Tryz.prog RbG 197 :=
 detP Zym Z8 nHn Z16z (F:=fun x post=>Zfj  x.1 post) (fun x post=>Z170 x.1 post) fun x _ _=>Z1ex  x.1
def Z68:Con:=.det [.flt .f64] [.snap (.int .u64)] (fun x=>W64 x.1) (fun x=>magR x.1)
def Zsh:Cx:=⟨Zd Zf,Ze [(140,Z7h)],RbG⟩
theorem Z11w:CxOk Tryz.prog Zsh:=⟨Z3 Z6,Z5 ⟨Zav,trivial⟩⟩
theorem Z1b5:FnAt Tryz.prog 144 Tryz.f144.ntmps Tryz.f144.results.toList (Tryz.f144.body.getD .skip):=⟨Tryz.f144,Tryz.func144,rfl,rfl,by simp,by decide⟩
theorem Z1b6 (a:Nat) (post:Int × Unit→Prop):Z9 Zsh nHn Tryz.f144.ntmps Tryz.f144.results.toList (Tryz.f144.body.getD .skip) [.flt .f64] [.snap (.int .u64)] (a,()) post=Zis  a post:=by kernel_rfl
theorem Z90:Z68.holds Tryz.prog RbG 144 :=
 detP Z11w Z8 nHn Z1b5 (F:=fun x post=>Zis  x.1 post) (fun x post=>Z1b6 x.1 post) fun x h _=>Z1is  x.1 h
def Zcq:Con:=.det [.flt .f64] [.snap .bool] (fun x=>W64 x.1) (fun x=>nanR x.1)
def Zok:Cx:=⟨Zd Zf,Ze [(144,Z68)],RbG⟩
theorem Zyn:CxOk Tryz.prog Zok:=⟨Z3 Z6,Z5 ⟨Z90,trivial⟩⟩
theorem Z171:FnAt Tryz.prog 142 Tryz.f142.ntmps Tryz.f142.results.toList (Tryz.f142.body.getD .skip):=⟨Tryz.f142,Tryz.func142,rfl,rfl,by simp,by decide⟩
theorem Z172 (a:Nat) (post:Bool × Unit→Prop):Z9 Zok nHn Tryz.f142.ntmps Tryz.f142.results.toList (Tryz.f142.body.getD .skip) [.flt .f64] [.snap .bool] (a,()) post=Zfk  a post:=by kernel_rfl
theorem Zol:Zcq.holds Tryz.prog RbG 142 :=
 detP Zyn Z8 nHn Z171 (F:=fun x post=>Zfk  x.1 post) (fun x post=>Z172 x.1 post) fun x h _=>Z1ey  x.1 h
def Zl7:Con:=.det [.flt .f64] [.snap .bool] (fun x=>W64 x.1) (fun x=>Zej x.1)
def Zl8:Cx:=⟨Zd Zf,Ze [(140,Z7h)],RbG⟩
theorem Zvu:CxOk Tryz.prog Zl8:=⟨Z3 Z6,Z5 ⟨Zav,trivial⟩⟩
theorem Z11x:FnAt Tryz.prog 141 Tryz.f141.ntmps Tryz.f141.results.toList (Tryz.f141.body.getD .skip):=⟨Tryz.f141,Tryz.func141,rfl,rfl,by simp,by decide⟩
theorem Z11y (a:Nat) (post:Bool × Unit→Prop):Z9 Zl8 nHn Tryz.f141.ntmps Tryz.f141.results.toList (Tryz.f141.body.getD .skip) [.flt .f64] [.snap .bool] (a,()) post=Zcl  a post:=by kernel_rfl
theorem Z173:Zl7.holds Tryz.prog RbG 141 :=
 detP Zvu Z8 nHn Z11x (F:=fun x post=>Zcl  x.1 post) (fun x post=>Z11y x.1 post) fun x h _=>Z1ay  x.1 h
def Z51:Con:=.det [.flt .f64] [.snap (.flt .f64)] (fun _=>True) (fun x=>Zk x.1)
def Zom:Cx:=⟨Zd Zf,Ze [(119,Zog)],RbG⟩
theorem Zyo:CxOk Tryz.prog Zom:=⟨Z3 Z6,Z5 ⟨Z1b3,trivial⟩⟩
theorem Z174:FnAt Tryz.prog 88 Tryz.f88.ntmps Tryz.f88.results.toList (Tryz.f88.body.getD .skip):=⟨Tryz.f88,Tryz.func88,rfl,rfl,by simp,by decide⟩
theorem Z175 (a:Nat) (post:Nat × Unit→Prop):Z9 Zom nHn Tryz.f88.ntmps Tryz.f88.results.toList (Tryz.f88.body.getD .skip) [.flt .f64] [.snap (.flt .f64)] (a,()) post=Zfl  a post:=by kernel_rfl
theorem Z89:Z51.holds Tryz.prog RbG 88 :=
 detP Zyo Z8 nHn Z174 (F:=fun x post=>Zfl  x.1 post) (fun x post=>Z175 x.1 post) fun x _ _=>Z1ez  x.1
def Z4i:Con:=.det [.flt .f64] [.snap (.flt .f64)] (fun x=>W64 x.1) (fun x=>Zk x.1)
def Zl9:Cx:=⟨Zd Zf,Ze [(142,Zcq),(143,Zaw),(144,Z68),(131,Zau)],RbG⟩
theorem Zvv:CxOk Tryz.prog Zl9:=⟨Z3 Z6,Z5 ⟨Zol,Zl6,Z90,Ziu,trivial⟩⟩
theorem Z11z:FnAt Tryz.prog 115 Tryz.f115.ntmps Tryz.f115.results.toList (Tryz.f115.body.getD .skip):=⟨Tryz.f115,Tryz.func115,rfl,rfl,by simp,by decide⟩
theorem Z120 (a:Nat) (post:Nat × Unit→Prop):Z9 Zl9 nHn Tryz.f115.ntmps Tryz.f115.results.toList (Tryz.f115.body.getD .skip) [.flt .f64] [.snap (.flt .f64)] (a,()) post=Zcm  a post:=by kernel_rfl
theorem Z6w:Z4i.holds Tryz.prog RbG 115 :=
 detP Zvv Z8 nHn Z11z (F:=fun x post=>Zcm  x.1 post) (fun x post=>Z120 x.1 post) fun x h _=>Z1az  x.1 h
def Zsi:Con:=.det [.flt .f64] [.snap (.flt .f64)] (fun _=>True) (fun x=>Z4c x.1)
def Zsj:Cx:=⟨Zd Zf,Ze [(197,Zoi),(146,Z2c)],RbG⟩
theorem Z121:CxOk Tryz.prog Zsj:=⟨Z3 Z6,Z5 ⟨Z1b4,Z33,trivial⟩⟩
theorem Z1b7:FnAt Tryz.prog 182 Tryz.f182.ntmps Tryz.f182.results.toList (Tryz.f182.body.getD .skip):=⟨Tryz.f182,Tryz.func182,rfl,rfl,by simp,by decide⟩
theorem Z1b8 (a:Nat) (post:Nat × Unit→Prop):Z9 Zsj nHn Tryz.f182.ntmps Tryz.f182.results.toList (Tryz.f182.body.getD .skip) [.flt .f64] [.snap (.flt .f64)] (a,()) post=Zit  a post:=by kernel_rfl
theorem Z1fb:Zsi.holds Tryz.prog RbG 182 :=
 detP Z121 Z8 nHn Z1b7 (F:=fun x post=>Zit  x.1 post) (fun x post=>Z1b8 x.1 post) fun x _ _=>Z1it  x.1
def Zgi:Con:=.det [.flt .f64] [.snap (.flt .f64)] (fun x=>W64 x.1) (fun x=>Z4c x.1)
def Zgj:Cx:=⟨Zd Zf,Ze [(142,Zcq),(143,Zaw)],RbG⟩
theorem Zre:CxOk Tryz.prog Zgj:=⟨Z3 Z6,Z5 ⟨Zol,Zl6,trivial⟩⟩
theorem Zvw:FnAt Tryz.prog 178 Tryz.f178.ntmps Tryz.f178.results.toList (Tryz.f178.body.getD .skip):=⟨Tryz.f178,Tryz.func178,rfl,rfl,by simp,by decide⟩
theorem Zvx (a:Nat) (post:Nat × Unit→Prop):Z9 Zgj nHn Tryz.f178.ntmps Tryz.f178.results.toList (Tryz.f178.body.getD .skip) [.flt .f64] [.snap (.flt .f64)] (a,()) post=Z96  a post:=by kernel_rfl
theorem Zyp:Zgi.holds Tryz.prog RbG 178 :=
 detP Zre Z8 nHn Zvw (F:=fun x post=>Z96  x.1 post) (fun x post=>Zvx x.1 post) fun x h _=>Z11s  x.1 h
def Zgk:Con:=.det [.flt .f64] [.snap (.int .u64)] (fun x=>W64 x.1) (fun x=>Z1gi x.1)
def Zgl:Cx:=⟨Zd Zf,Ze [(120,Z32)],RbG⟩
theorem Zrf:CxOk Tryz.prog Zgl:=⟨Z3 Z6,Z5 ⟨Z3o,trivial⟩⟩
theorem Zvy:FnAt Tryz.prog 170 Tryz.f170.ntmps Tryz.f170.results.toList (Tryz.f170.body.getD .skip):=⟨Tryz.f170,Tryz.func170,rfl,rfl,by simp,by decide⟩
theorem Zvz (a:Nat) (post:Int × Unit→Prop):Z9 Zgl nHn Tryz.f170.ntmps Tryz.f170.results.toList (Tryz.f170.body.getD .skip) [.flt .f64] [.snap (.int .u64)] (a,()) post=Z97  a post:=by kernel_rfl
theorem Zyq:Zgk.holds Tryz.prog RbG 170 :=
 detP Zrf Z8 nHn Zvy (F:=fun x post=>Z97  x.1 post) (fun x post=>Zvz x.1 post) fun x h _=>Z11t  x.1 h
def Zon:Con:=.det [.flt .f64] [.snap (.int .u64)] (fun x=>W64 x.1) (fun x=>Z15q x.1)
def Zoo:Cx:=⟨Zd Zf,Ze [(120,Z32)],RbG⟩
theorem Zyr:CxOk Tryz.prog Zoo:=⟨Z3 Z6,Z5 ⟨Z3o,trivial⟩⟩
theorem Z176:FnAt Tryz.prog 118 Tryz.f118.ntmps Tryz.f118.results.toList (Tryz.f118.body.getD .skip):=⟨Tryz.f118,Tryz.func118,rfl,rfl,by simp,by decide⟩
theorem Z177 (a:Nat) (post:Int × Unit→Prop):Z9 Zoo nHn Tryz.f118.ntmps Tryz.f118.results.toList (Tryz.f118.body.getD .skip) [.flt .f64] [.snap (.int .u64)] (a,()) post=Zfm  a post:=by kernel_rfl
theorem Z1b9:Zon.holds Tryz.prog RbG 118 :=
 detP Zyr Z8 nHn Z176 (F:=fun x post=>Zfm  x.1 post) (fun x post=>Z177 x.1 post) fun x h _=>Z1f0  x.1 h
def Zax:Con:=.det [.int .u64] [.snap .bool] (fun _=>True) (fun x=>noR x.1)
def Zay:Cx:=⟨Zd Zf,Ze [],RbG⟩
theorem Zjw:CxOk Tryz.prog Zay:=⟨Z3 Z6,fun f c h=>by cases h⟩
theorem Zop:FnAt Tryz.prog 145 Tryz.f145.ntmps Tryz.f145.results.toList (Tryz.f145.body.getD .skip):=⟨Tryz.f145,Tryz.func145,rfl,rfl,by simp,by decide⟩
theorem Zoq (a:Int) (post:Bool × Unit→Prop):Z9 Zay nHn Tryz.f145.ntmps Tryz.f145.results.toList (Tryz.f145.body.getD .skip) [.int .u64] [.snap .bool] (a,()) post=Z6f  a post:=by kernel_rfl
theorem Zrg:Zax.holds Tryz.prog RbG 145 :=
 detP Zjw Z8 nHn Zop (F:=fun x post=>Z6f  x.1 post) (fun x post=>Zoq x.1 post) fun x _ _=>Ztd  x.1
def Z4n:Con:=.det [.int .u64,.int .u64] [.snap (.int .i64)] (fun _=>True) (fun x=>cmpR x.1 x.2.1)
def Z8r:Cx:=⟨Zd Zf,Ze [(145,Zax)],RbG⟩
theorem Zhj:CxOk Tryz.prog Z8r:=⟨Z3 Z6,Z5 ⟨Zrg,trivial⟩⟩
theorem Zjx:FnAt Tryz.prog 117 Tryz.f117.ntmps Tryz.f117.results.toList (Tryz.f117.body.getD .skip):=⟨Tryz.f117,Tryz.func117,rfl,rfl,by simp,by decide⟩
theorem Zjy (a:Int) (b:Int) (post:Int × Unit→Prop):Z9 Z8r nHn Tryz.f117.ntmps Tryz.f117.results.toList (Tryz.f117.body.getD .skip) [.int .u64,.int .u64] [.snap (.int .i64)] (a,b,()) post=Z50  a b post:=by kernel_rfl
theorem Z8s:Z4n.holds Tryz.prog RbG 117 :=
 detP Zhj Z8 nHn Zjx (F:=fun x post=>Z50  x.1 x.2.1 post) (fun x post=>Zjy x.1 x.2.1 post) fun x _ _=>Zof  x.1 x.2.1
def Zcr:Con:=.det [.flt .f64,.flt .f64] [.snap (.int .i64)] (fun x=>W2 x.1 x.2.1) (fun x=>ordR x.1 x.2.1)
def Zor:Cx:=⟨Zd Zf,Ze [(118,Zon),(117,Z4n)],RbG⟩
theorem Zys:CxOk Tryz.prog Zor:=⟨Z3 Z6,Z5 ⟨Z1b9,Z8s,trivial⟩⟩
theorem Z178:FnAt Tryz.prog 87 Tryz.f87.ntmps Tryz.f87.results.toList (Tryz.f87.body.getD .skip):=⟨Tryz.f87,Tryz.func87,rfl,rfl,by simp,by decide⟩
theorem Z179 (a:Nat) (b:Nat) (post:Int × Unit→Prop):Z9 Zor nHn Tryz.f87.ntmps Tryz.f87.results.toList (Tryz.f87.body.getD .skip) [.flt .f64,.flt .f64] [.snap (.int .i64)] (a,b,()) post=Zfn  a b post:=by kernel_rfl
theorem Zos:Zcr.holds Tryz.prog RbG 87 :=
 detP Zys Z8 nHn Z178 (F:=fun x post=>Zfn  x.1 x.2.1 post) (fun x post=>Z179 x.1 x.2.1 post) fun x h _=>Z1f1  x.1 x.2.1 h
def Zot:Con:=.det [.slice (.int .i64)] [.snap (.int .i64)] (fun _=>True) (fun x=>orR x.1)
def Zla:Hn:={ loops:=fun k=>match k with | 3=>some { ls:=[(.slot 8,.data (.int .i64))],os:=[] } | _=>none,joins:=fun _=>none,named:=true }
def Zou:Cx:=⟨Zd Zf,Ze [],RbG⟩
theorem Zyt:CxOk Tryz.prog Zou:=⟨Z3 Z6,fun f c h=>by cases h⟩
theorem Z17a:FnAt Tryz.prog 169 Tryz.f169.ntmps Tryz.f169.results.toList (Tryz.f169.body.getD .skip):=⟨Tryz.f169,Tryz.func169,rfl,rfl,by simp,by decide⟩
theorem Z17b (a:List Int) (post:Int × Unit→Prop):Z9 Zou Zla Tryz.f169.ntmps Tryz.f169.results.toList (Tryz.f169.body.getD .skip) [.slice (.int .i64)] [.snap (.int .i64)] (a,()) post=Zfo  a post:=by kernel_rfl
theorem Z1ba:Zot.holds Tryz.prog RbG 169 :=
 detP Zyt Z8 Zla Z17a (F:=fun x post=>Zfo  x.1 post) (fun x post=>Z17b x.1 post) fun x _ w=>Z1f2  x.1 w
def Ziw:Con:=.det [.flt .f64,.flt .f64] [.snap (.int .i64)] (fun x=>W2 x.1 x.2.1) (fun x=>Zqx x.1 x.2.1)
def Zix:Cx:=⟨Zd Zf,Ze [(170,Zgk),(117,Z4n),(87,Zcr),(169,Zot)],RbG⟩
theorem Zte:CxOk Tryz.prog Zix:=⟨Z3 Z6,Z5 ⟨Zyq,Z8s,Zos,Z1ba,trivial⟩⟩
theorem Zyu:FnAt Tryz.prog 168 Tryz.f168.ntmps Tryz.f168.results.toList (Tryz.f168.body.getD .skip):=⟨Tryz.f168,Tryz.func168,rfl,rfl,by simp,by decide⟩
theorem Zyv (a:Nat) (b:Nat) (post:Int × Unit→Prop):Z9 Zix nHn Tryz.f168.ntmps Tryz.f168.results.toList (Tryz.f168.body.getD .skip) [.flt .f64,.flt .f64] [.snap (.int .i64)] (a,b,()) post=Zat  a b post:=by kernel_rfl
theorem Z122:Ziw.holds Tryz.prog RbG 168 :=
 detP Zte Z8 nHn Zyu (F:=fun x post=>Zat  x.1 x.2.1 post) (fun x post=>Zyv x.1 x.2.1 post) fun x h _=>Z16t  x.1 x.2.1 h
def Zaz:Con:=.det [.flt .f64,.flt .f64] [.snap (.int .i64)] (fun x=>W2 x.1 x.2.1) (fun x=>ordR x.1 x.2.1)
def Zlb:Cx:=⟨Zd Zf,Ze [(140,Z7h),(141,Zl7)],RbG⟩
theorem Zw0:CxOk Tryz.prog Zlb:=⟨Z3 Z6,Z5 ⟨Zav,Z173,trivial⟩⟩
theorem Z123:FnAt Tryz.prog 114 Tryz.f114.ntmps Tryz.f114.results.toList (Tryz.f114.body.getD .skip):=⟨Tryz.f114,Tryz.func114,rfl,rfl,by simp,by decide⟩
theorem Z124 (a:Nat) (b:Nat) (post:Int × Unit→Prop):Z9 Zlb nHn Tryz.f114.ntmps Tryz.f114.results.toList (Tryz.f114.body.getD .skip) [.flt .f64,.flt .f64] [.snap (.int .i64)] (a,b,()) post=Zcn  a b post:=by kernel_rfl
theorem Zlc:Zaz.holds Tryz.prog RbG 114 :=
 detP Zw0 Z8 nHn Z123 (F:=fun x post=>Zcn  x.1 x.2.1 post) (fun x post=>Z124 x.1 x.2.1 post) fun x h _=>Z1b0  x.1 x.2.1 h
def Zld:Con:=.det [.flt .f64,.flt .f64] [.snap .bool] (fun x=>W2 x.1 x.2.1) (fun x=>Za9 x.1 x.2.1)
def Zle:Cx:=⟨Zd Zf,Ze [(144,Z68),(114,Zaz)],RbG⟩
theorem Zw1:CxOk Tryz.prog Zle:=⟨Z3 Z6,Z5 ⟨Z90,Zlc,trivial⟩⟩
theorem Z125:FnAt Tryz.prog 177 Tryz.f177.ntmps Tryz.f177.results.toList (Tryz.f177.body.getD .skip):=⟨Tryz.f177,Tryz.func177,rfl,rfl,by simp,by decide⟩
theorem Z126 (a:Nat) (b:Nat) (post:Bool × Unit→Prop):Z9 Zle nHn Tryz.f177.ntmps Tryz.f177.results.toList (Tryz.f177.body.getD .skip) [.flt .f64,.flt .f64] [.snap .bool] (a,b,()) post=Zco  a b post:=by kernel_rfl
theorem Z17c:Zld.holds Tryz.prog RbG 177 :=
 detP Zw1 Z8 nHn Z125 (F:=fun x post=>Zco  x.1 x.2.1 post) (fun x post=>Z126 x.1 x.2.1 post) fun x h _=>Z1b1  x.1 x.2.1 h
def Zov:Con:=.det [.flt .f64,.int .i64] [.snap .bool] (fun x=>WI x.1 x.2.1) (fun x=>Z1ms x.1 x.2.1)
def Zow:Cx:=⟨Zd Zf,Ze [(151,Ziv)],RbG⟩
theorem Zyw:CxOk Tryz.prog Zow:=⟨Z3 Z6,Z5 ⟨Zvt,trivial⟩⟩
theorem Z17d:FnAt Tryz.prog 173 Tryz.f173.ntmps Tryz.f173.results.toList (Tryz.f173.body.getD .skip):=⟨Tryz.f173,Tryz.func173,rfl,rfl,by simp,by decide⟩
theorem Z17e (a:Nat) (b:Int) (post:Bool × Unit→Prop):Z9 Zow nHn Tryz.f173.ntmps Tryz.f173.results.toList (Tryz.f173.body.getD .skip) [.flt .f64,.int .i64] [.snap .bool] (a,b,()) post=Zfp  a b post:=by kernel_rfl
theorem Z1bb:Zov.holds Tryz.prog RbG 173 :=
 detP Zyw Z8 nHn Z17d (F:=fun x post=>Zfp  x.1 x.2.1 post) (fun x post=>Z17e x.1 x.2.1 post) fun x h _=>Z1f3  x.1 x.2.1 h
def Zlf:Con:=.det [.flt .f64] [.snap (.int .i64)] (fun x=>W64 x.1) (fun x=>Zv2 x.1)
def Zlg:Cx:=⟨Zd Zf,Ze [(144,Z68)],RbG⟩
theorem Zw2:CxOk Tryz.prog Zlg:=⟨Z3 Z6,Z5 ⟨Z90,trivial⟩⟩
theorem Z127:FnAt Tryz.prog 185 Tryz.f185.ntmps Tryz.f185.results.toList (Tryz.f185.body.getD .skip):=⟨Tryz.f185,Tryz.func185,rfl,rfl,by simp,by decide⟩
theorem Z128 (a:Nat) (post:Int × Unit→Prop):Z9 Zlg nHn Tryz.f185.ntmps Tryz.f185.results.toList (Tryz.f185.body.getD .skip) [.flt .f64] [.snap (.int .i64)] (a,()) post=Zcp  a post:=by kernel_rfl
theorem Z17f:Zlf.holds Tryz.prog RbG 185 :=
 detP Zw2 Z8 nHn Z127 (F:=fun x post=>Zcp  x.1 post) (fun x post=>Z128 x.1 post) fun x h _=>Z1b2  x.1 h
end Go.Lift

namespace Go.Lift
def Ziy:=fun (a b c:Nat) (post:(Nat × Nat × Nat) × Unit→Prop)=>∃ (h:True),∃ (h:True),∃ (h:True),post (((Zk a).fst,(Zk b).fst,(Zk c).fst),
 ())
theorem Z1iu (a:Nat) (b:Nat) (c:Nat):Ziy  a b c (fun r=>r=Z18 a b c):=by
 exact ⟨trivial,trivial,trivial,rfl⟩
def Zfq:=fun (a b c:Nat) (post:(Nat × Nat × Nat) × Unit→Prop)=>∃ (h:W64 a),∃ (h:W64 b),∃ (h:W64 c),post (((Zk a).fst,(Zk b).fst,(Zk
 c).fst),())
theorem Z1fc (a:Nat) (b:Nat) (c:Nat) (h:W3 a b c):Zfq  a b c (fun r=>r=Z18 a b c):=by
 obtain ⟨ha,hb,hc⟩:=h
 exact ⟨ha,hb,hc,rfl⟩
def Ziz:=fun (a b:Nat × Nat × Nat) (post:(Nat × Nat × Nat) × Unit→Prop)=>∀ (a_1:Nat),FRes f64 (f64.format.sub a.fst b.fst) a_1→∀
 (a_2:Nat),FRes f64 (f64.format.sub a.snd.fst b.snd.fst) a_2→∀ (a_3:Nat),FRes f64 (f64.format.sub a.snd.snd b.snd.snd)
 a_3→∃ (h:True),post (((Z18 a_1 a_2 a_3).fst.fst,(Z18 a_1 a_2 a_3).fst.snd.fst,(Z18 a_1 a_2 a_3).fst.snd.snd),())
theorem Z1iv (a:Nat × Nat × Nat) (b:Nat × Nat × Nat) (h:WV2 a b):Ziz  a b (fun r=>r=Z3l a b):=by
 intro x hx y hy z hz
 exact ⟨trivial,congrArg r1 (Z75 (fsub hx).1 (fsub hy).1 (fsub hz).1)⟩
def Zcs:=fun (a b:Nat × Nat × Nat) (post:(Nat × Nat × Nat) × Unit→Prop)=>∀ (a_1:Nat),FRes f64 (f64.format.sub a.fst b.fst) a_1→∀
 (a_2:Nat),FRes f64 (f64.format.sub a.snd.fst b.snd.fst) a_2→∀ (a_3:Nat),FRes f64 (f64.format.sub a.snd.snd b.snd.snd)
 a_3→∃ (h:W3 a_1 a_2 a_3),post (((Z18 a_1 a_2 a_3).fst.fst,(Z18 a_1 a_2 a_3).fst.snd.fst,(Z18 a_1 a_2 a_3).fst.snd.snd),())
theorem Z1bc (a:Nat × Nat × Nat) (b:Nat × Nat × Nat) (h:WV2 a b):Zcs  a b (fun r=>r=Z3l a b):=by
 intro x hx y hy z hz
 exact ⟨⟨(fsub hx).2,(fsub hy).2,(fsub hz).2⟩,congrArg r1 (Z75 (fsub hx).1 (fsub hy).1 (fsub hz).1)⟩
def Zfr:=fun (a b c d:Nat) (post:Nat × Unit→Prop)=>∀ (a_1:Nat),FRes f64 (f64.format.mul a b) a_1→∀ (a:Nat),FRes
 f64 (f64.format.mul c d) a→∀ (a_2:Nat),FRes f64 (f64.format.sub a_1 a) a_2→post (a_2,())
theorem Z1fd (a:Nat) (b:Nat) (c:Nat) (d:Nat):Zfr  a b c d (fun r=>Z15t a b c d r):=by
 intro x hx y hy z hz
 exact ⟨Zy1 (fmul hx).1 (fmul hy).1 (fsub hz).1,(fsub hz).2⟩
def Zj0:=fun (a b:Nat × Nat × Nat) (post:(Nat × Nat × Nat) × Unit→Prop)=>∀ (a_1:Nat),FRes f64 (f64.format.mul a.snd.fst b.snd.snd)
 a_1→∀ (a_2:Nat),FRes f64 (f64.format.mul a.snd.snd b.snd.fst) a_2→∀ (a_3:Nat),FRes f64 (f64.format.sub a_1 a_2) a_3 →
 ∀ (a_4:Nat),FRes f64 (f64.format.mul a.snd.snd b.fst) a_4→∀ (a_5:Nat),FRes f64 (f64.format.mul a.fst b.snd.snd) a_5→∀
 (a_6:Nat),FRes f64 (f64.format.sub a_4 a_5) a_6→∀ (a_7:Nat),FRes f64 (f64.format.mul a.fst b.snd.fst) a_7→∀ (a_8 :
 Nat),FRes f64 (f64.format.mul a.snd.fst b.fst) a_8→∀ (a:Nat),FRes f64 (f64.format.sub a_7 a_8) a→∃ (h:True),post
 (((Z18 a_3 a_6 a).fst.fst,(Z18 a_3 a_6 a).fst.snd.fst,(Z18 a_3 a_6 a).fst.snd.snd),())
theorem Z1iw (a:Nat × Nat × Nat) (b:Nat × Nat × Nat):Zj0  a b (fun r=>r=Zab a b):=by
 intro x1 h1 x2 h2 x3 h3 x4 h4 x5 h5 x6 h6 x7 h7 x8 h8 x9 h9
 exact ⟨trivial,congrArg r1 (Z75 (Zy1 (fmul h1).1 (fmul h2).1 (fsub h3).1) (Zy1 (fmul h4).1 (fmul h5).1 (fsub h6).1) (Zy1 (fmul h7).1 (fmul h8).1 (fsub h9).1))⟩
def Zct:=fun (a b:Nat × Nat × Nat) (post:(Nat × Nat × Nat) × Unit→Prop)=>∃ (h:True),∀ (a_1:Nat × Unit),Z15t a.snd.fst b.snd.snd a.snd.snd b.snd.fst a_1 →
 ∃ (h:True),∀ (a_2:Nat × Unit),Z15t a.snd.snd b.fst a.fst b.snd.snd a_2→∃ (h:True),∀ (a_3:Nat × Unit),Z15t a.fst b.snd.fst a.snd.fst b.fst a_3→∃ (h:W3 a_1.fst
 a_2.fst a_3.fst),post (((Z18 a_1.fst a_2.fst a_3.fst).fst.fst,(Z18 a_1.fst a_2.fst a_3.fst).fst.snd.fst,(Z18 a_1.fst a_2.fst a_3.fst).fst.snd.snd),())
theorem Z1bd (a:Nat × Nat × Nat) (b:Nat × Nat × Nat):Zct  a b (fun r=>r=Zab a b):=by
 exact ⟨trivial,fun x hx=>⟨trivial,fun y hy=>⟨trivial,fun z hz=>⟨⟨hx.2,hy.2,hz.2⟩,congrArg r1 (Z75 hx.1 hy.1 hz.1)⟩⟩⟩⟩
def Zj1:=fun (a:Nat) (post:Nat × Unit→Prop)=>∃ (h:True),∀ (a_1:Nat × Unit),Z8w a a_1→post (a_1.fst,())
theorem Z1ix (a:Nat):Zj1  a (fun r=>Z8w a r):=by
 exact ⟨trivial,fun x hx=>hx⟩
def Znc:=fun (a:Nat) (post:Nat × Unit→Prop)=>∃ (h:True),∀ (a_1:Nat × Unit),Z8w a a_1→post (a_1.fst,())
theorem Z1kg (a:Nat):Znc  a (fun r=>Z8w a r):=by
 exact ⟨trivial,fun x hx=>hx⟩
def Zfs:=fun (a:Nat × Nat × Nat) (post:Nat × Unit→Prop)=>∀ (a_1:Nat),FRes f64 (f64.format.mul a.fst a.fst) a_1→∀ (a_2:Nat),FRes
 f64 (f64.format.mul a.snd.fst a.snd.fst) a_2→∀ (a_3:Nat),FRes f64 (f64.format.mul a.snd.snd a.snd.snd) a_3→∃ (h:W3 a_1
 a_2 a_3),∃ (h:True),∀ (a:Nat × Unit),Z8w (Zek a_1 a_2 a_3).fst a→∃ (h:True),post ((Zk a.fst).fst,())
theorem Z1fe (a:Nat × Nat × Nat) (h:WV a):Zfs  a (fun r=>r=Z23 a):=by
 intro x hx y hy z hz
 exact ⟨⟨(fmul hx).2,(fmul hy).2,(fmul hz).2⟩,trivial,fun w hw=>⟨trivial,congrArg r1 (length_eq (fmul hx).1 (fmul hy).1 (fmul hz).1 hw.1)⟩⟩
def Zb0:=fun (a:Nat × Nat × Nat) (post:Nat × Unit→Prop)=>∀ (a_1:Nat),FRes f64 (f64.format.mul a.fst a.fst) a_1→∀ (a_2:Nat),
 FRes f64 (f64.format.mul a.snd.fst a.snd.fst) a_2→∀ (a_3:Nat),FRes f64 (f64.format.mul a.snd.snd a.snd.snd) a_3→∃ (h :
 W3 a_1 a_2 a_3),∃ (h:True),∀ (a:Nat × Unit),Z8w (Zek a_1 a_2 a_3).fst a→∃ (h:W64 a.fst),post ((Zk a.fst).fst,())
theorem Z17g (a:Nat × Nat × Nat) (h:WV a):Zb0  a (fun r=>r=Z23 a):=by
 intro x hx y hy z hz
 exact ⟨⟨(fmul hx).2,(fmul hy).2,(fmul hz).2⟩,trivial,fun w hw=>⟨hw.2,congrArg r1 (length_eq (fmul hx).1 (fmul hy).1 (fmul hz).1 hw.1)⟩⟩
def Zrh:=fun (a b:Nat × Nat × Nat) (post:Nat × Unit→Prop)=>∃ (h:WV2 (a.fst,a.snd.fst,a.snd.snd) (b.fst,b.snd.fst,b.snd.snd)),∃ (h:WV (Z3l (a.fst,
 a.snd.fst,a.snd.snd) (b.fst,b.snd.fst,b.snd.snd)).fst),post ((Z23 (Z3l (a.fst,a.snd.fst,a.snd.snd) (b.fst,b.snd.fst,b.snd.snd)).fst).fst,())
theorem Z1nm (a:Nat × Nat × Nat) (b:Nat × Nat × Nat) (h:WV2 a b):Zrh  a b (fun r=>r=gapR a b):=by
 exact ⟨h,Z1rb _ _,rfl⟩
def Znd:=fun (a:Nat × Nat × Nat) (post:(Nat × Nat × Nat) × Unit→Prop)=>∃ (h:WV (a.fst,a.snd.fst,a.snd.snd)),∀ (a_1:Bool),a_1=fcmp Go.BinOp.gtr
 (f64.format.order (Z23 (a.fst,a.snd.fst,a.snd.snd)).fst (0:Nat))→Br (!a_1) (post (((0:Nat),(0:Nat),(0:Nat)),())) (∃ (h:WI (Z23 (a.fst,
 a.snd.fst,a.snd.snd)).fst (1:Int)),∀ (a_2:Bool),a_2=(Z1ms (Z23 (a.fst,a.snd.fst,a.snd.snd)).fst (1:Int)).fst→Br a_2 (post (((0:Nat),(0:Nat),(0:Nat)),
 ())) (∀ (a_3:Nat),FRes f64 (f64.format.div a.fst (Z23 (a.fst,a.snd.fst,a.snd.snd)).fst) a_3→∀ (a_4:Nat),FRes f64
 (f64.format.div a.snd.fst (Z23 (a.fst,a.snd.fst,a.snd.snd)).fst) a_4→∀ (a_5:Nat),FRes f64 (f64.format.div a.snd.snd (Z23
 (a.fst,a.snd.fst,a.snd.snd)).fst) a_5→∃ (h:True),post (((Z18 a_3 a_4 a_5).fst.fst,(Z18 a_3 a_4 a_5).fst.snd.fst,(Z18 a_3 a_4 a_5).fst.snd.snd),())))
theorem Z1kh (a:Nat × Nat × Nat) (h:WV a):Znd  a (fun r=>r=Zac a):=by
 refine ⟨h,?_⟩
 have hs:=Z1k4 a
 have hg:=Z1t8 hs
 rintro _ rfl
 refine Br.intro (fun e=>?_) fun e=>⟨Z1dv a,?_⟩
 ·have e:(!fcmp .gtr (Ieee.double.order (Zy a) 0))=true:=e
  rw [hg] at e
  refine (congrArg r1 (Zv4 ?_)).symm
  rw [Z1a2]
  rintro ⟨h1,h2⟩
  have:isN (Zy a)=false:=by unfold isN; simp; omega
  rw [this] at e
  simp [h1] at e
 ·have e:(!fcmp .gtr (Ieee.double.order (Zy a) 0))=false:=e
  rw [hg] at e
  have e:isN (Zy a)=false∧Z1 (Zy a)≠0:=by simpa using e
  have hi:infS (Zy a) 1=decide (Z1 (Zy a)=infR):=by unfold infS; rw [if_neg (by decide),if_neg (by decide),hs]; simp
  rintro _ rfl
  refine Br.intro (fun f=>?_) fun f=>?_
  ·have f:infS (Zy a) 1=true:=f
   rw [hi] at f
   have f:=of_decide_eq_true f
   exact (congrArg r1 (Zv4 (by rw [Z1a2]; rintro ⟨h1,h2⟩; omega))).symm
  ·have f:infS (Zy a) 1=false:=f
   rw [hi] at f
   have f:=of_decide_eq_false f
   have g:Z1 (Zy a)≤infR:=by have:=e.1; unfold isN at this; simpa using this
   intro x hx y hy z hz
   exact ⟨trivial,congrArg r1 (Z1dw ((Z1a2 _).2 ⟨e.2,by omega⟩) (fdiv hx).1 (fdiv hy).1 (fdiv hz).1)⟩
def Zft:=fun (a:Nat × Nat × Nat) (post:(Nat × Nat × Nat) × Unit→Prop)=>∃ (h:WV (a.fst,a.snd.fst,a.snd.snd)),∃ (h:W64 (Z23 (a.fst,a.snd.fst,
 a.snd.snd)).fst),∀ (a_1:Bool),a_1=((Zv2 (Z23 (a.fst,a.snd.fst,a.snd.snd)).fst).fst==(0:Int))→Br a_1 (∃ (h:W3 (0:Nat) (0:Nat) (0:Nat)),post (((Z18
 (0:Nat) (0:Nat) (0:Nat)).fst.fst,(Z18 (0:Nat) (0:Nat) (0:Nat)).fst.snd.fst,(Z18 (0:Nat) (0:Nat) (0:Nat)).fst.snd.snd),())) (∀ (a_2:Bool),a_2 =
 ((Zv2 (Z23 (a.fst,a.snd.fst,a.snd.snd)).fst).fst==(3:Int))→Br a_2 (∃ (h:W3 (0:Nat) (0:Nat) (0:Nat)),post (((Z18 (0:Nat) (0:Nat) (0:Nat)).fst.fst,
 (Z18 (0:Nat) (0:Nat) (0:Nat)).fst.snd.fst,(Z18 (0:Nat) (0:Nat) (0:Nat)).fst.snd.snd),())) (∀ (a_3:Bool),a_3=((Zv2 (Z23 (a.fst,a.snd.fst,
 a.snd.snd)).fst).fst==(4:Int))→Br a_3 (∃ (h:W3 (0:Nat) (0:Nat) (0:Nat)),post (((Z18 (0:Nat) (0:Nat) (0:Nat)).fst.fst,(Z18 (0:Nat) (0:Nat) (0 :
 Nat)).fst.snd.fst,(Z18 (0:Nat) (0:Nat) (0:Nat)).fst.snd.snd),())) (∀ (a_4:Nat),FRes f64 (f64.format.div a.fst (Z23 (a.fst,a.snd.fst,
 a.snd.snd)).fst) a_4→∀ (a_5:Nat),FRes f64 (f64.format.div a.snd.fst (Z23 (a.fst,a.snd.fst,a.snd.snd)).fst) a_5→∀ (a_6:Nat),FRes
 f64 (f64.format.div a.snd.snd (Z23 (a.fst,a.snd.fst,a.snd.snd)).fst) a_6→∃ (h:W3 a_4 a_5 a_6),post (((Z18 a_4 a_5 a_6).fst.fst,(Z18
 a_4 a_5 a_6).fst.snd.fst,(Z18 a_4 a_5 a_6).fst.snd.snd),()))))
theorem Z1ff (a:Nat × Nat × Nat) (h:WV a):Zft  a (fun r=>r=Zac a):=by
 refine ⟨h,Z1dv a,?_⟩
 have z:Z8p 0 0 0=(0,0,0):=by decide
 have w0:W64 0:=by unfold W64; decide
 have out:∀ k:Int,k≠1→k≠2→(Z1j (Zy a)==k)=true→∃ h:W3 0 0 0,(((Z18 0 0 0).fst.fst,(Z18 0 0 0).fst.snd.fst,(Z18 0 0 0).fst.snd.snd),())=Zac a:=by
  intro k k1 k2 e
  have e:Z1j (Zy a)=k:=by simpa using e
  exact ⟨⟨w0,w0,w0⟩,congrArg r1 (z.trans (Zv4 (by rw [e]; omega)).symm)⟩
 rintro _ rfl
 refine Br.intro (fun e=>out 0 (by decide) (by decide) e) fun e=>?_
 have e:(Z1j (Zy a)==0)=false:=e
 rintro _ rfl
 refine Br.intro (fun f=>out 3 (by decide) (by decide) f) fun f=>?_
 have f:(Z1j (Zy a)==3)=false:=f
 rintro _ rfl
 refine Br.intro (fun g=>out 4 (by decide) (by decide) g) fun g=>?_
 have g:(Z1j (Zy a)==4)=false:=g
 have c:Z1j (Zy a)=1∨Z1j (Zy a)=2:=by
  have e:Z1j (Zy a)≠0:=by simpa using e
  have f:Z1j (Zy a)≠3:=by simpa using f
  have g:Z1j (Zy a)≠4:=by simpa using g
  have:=Z1rc (Zy a)
  omega
 intro x hx y hy z hz
 exact ⟨⟨(fdiv hx).2,(fdiv hy).2,(fdiv hz).2⟩,congrArg r1 (Z1dw c (fdiv hx).1 (fdiv hy).1 (fdiv hz).1)⟩
end Go.Lift

namespace Go.Lift
def Zri:=fun (a:List Nat) (post:Nat × Unit→Prop)=>∀ (a_1:Bool),a_1=((↑a.length:Int)==(0:Int))→Br a_1 (post ((0:Nat),())) (∃ (h:(0:Int)≤(0 :
 Int)∧(0:Int)<(↑a.length:Int)),∃ (h:(0:Int)≤(1:Int)∧(1:Int)≤(↑a.length:Int)∧(↑a.length:Int)≤(↑a.length:Int)),HIs [] []∧∃ (I:Nat × Int × Unit →
 Unit→Prop),∃ (μ:Nat × Int × Unit→Unit→Nat),I (a.getD (Int.toNat (0:Int)) (0:Nat),(0:Int),()) ()∧∀ (x:Nat × Int × Unit) (y:Unit),I x y→∀ (a_2:Bool),
 a_2=decide (x.snd.fst<(↑(List.take ((↑a.length:Int) - (1:Int)).toNat (List.drop (Int.toNat (1:Int)) a)).length:Int))→Br a_2 (∃ (h:(0:Int)≤x.snd.fst∧x.snd.fst
 < (↑(List.take ((↑a.length:Int) - (1:Int)).toNat (List.drop (Int.toNat (1:Int)) a)).length:Int)),∀ (a_3:Nat),FRes f64 (f64.format.add x.fst
 ((List.take ((↑a.length:Int) - (1:Int)).toNat (List.drop (Int.toNat (1:Int)) a)).getD x.snd.fst.toNat (0:Nat))) a_3→HIs [] []∧I (a_3,i64.wrap (x.snd.fst+(1
 : Int)),()) ()∧μ (a_3,i64.wrap (x.snd.fst+(1:Int)),()) ()<μ x y) (∃ (h:True),post ((Z4c x.fst).fst,())))
theorem Z1nn (a:List Nat) (h:WL a) (w:KS.wf [.slice (.flt .f64)] (a,())):Zri  a (fun r=>r=rowR a):=by
 have hl:a.length≤maxN:=w.1.1
 unfold maxN at hl
 rintro _ rfl
 refine Br.intro (fun e=>?_) fun e=>?_
 ·have e:a.length=0:=by have:=eq_of_beq e; omega
  have:a=[]:=List.eq_nil_of_length_eq_zero e
  subst this; rfl
 ·have e:0<a.length:=by
   rcases Nat.eq_zero_or_pos a.length with z | z
   ·rw [z] at e; cases e
   ·exact z
  refine ⟨⟨by omega,by omega⟩,⟨by omega,by omega,by omega⟩,rfl,fun x _=>∃ i:Nat,x.2.1=i∧i+1≤a.length∧W64 x.1∧Zh x.1=rowQ (a.take (i+1)),fun x _=>a.length - x.2.1.toNat,⟨0,rfl,by omega,Z1t7 h 0,(Z1r8 e).symm⟩,?_⟩
  have ht:List.take ((a.length:Int) - 1).toNat (List.drop (Int.toNat 1) a)=a.drop 1:=by
   show List.take ((a.length:Int) - 1).toNat (List.drop 1 a)=a.drop 1
   apply List.take_of_length_le; rw [List.length_drop]; omega
  rw [ht]
  have hd:∀ i,(a.drop 1).getD i 0=a.getD (i+1) 0:=by
   intro i; rw [List.getD_eq_getElem?_getD,List.getD_eq_getElem?_getD,List.getElem?_drop,Nat.add_comm]
  rintro ⟨acc,_,⟨⟩⟩ _ ⟨i,hi,hil,hw,hq⟩
  dsimp only at hi hw hq
  subst hi
  dsimp only
  rintro _ rfl
  refine Br.intro (fun f=>?_) fun f=>?_
  ·have f:i+1<a.length:=by have:=of_decide_eq_true f; rw [List.length_drop] at this; omega
   refine ⟨⟨by omega,by rw [List.length_drop]; omega⟩,fun r hr=>?_⟩
   rw [Int.toNat_natCast,hd] at hr
   obtain ⟨q1,q2⟩:=fadd hr
   refine ⟨rfl,⟨i+1,?_,by omega,q2,?_⟩,?_⟩
   ·rw [wi ⟨by omega,by omega⟩]; omega
   ·show Zh r=_
    rw [q1,Z1t6 f (by omega),Zqm (x':=rowQ (a.take (i+1))) (by rw [hq,Z1ub]) rfl]
   ·rw [wi ⟨by omega,by omega⟩]; omega
  ·have f:a.length≤i+1:=by have:=of_decide_eq_false f; rw [List.length_drop] at this; omega
   refine ⟨trivial,congrArg r1 ?_⟩
   show Zh acc=_
   rw [hq,List.take_of_length_le f]
def Zcu:=fun (a b c:Nat) (post:Nat × Unit→Prop)=>∃ (h:W2 b a),∀ (a_1:Bool),a_1=(Za9 b a).fst→Br a_1 (∃ (h:W2 c a),∀ (a_2:Bool),a_2=(Za9
 c a).fst→Br a_2 (∃ (h:W2 c b),∀ (a_3:Bool),a_3=(Za9 c b).fst→Br a_3 (∀ (a_4:Nat),FRes f64 (f64.format.add c b) a_4→∀ (a_5:Nat),
 FRes f64 (f64.format.add a_4 a) a_5→∃ (h:W64 a_5),post ((Z4c a_5).fst,())) (∀ (a_4:Nat),FRes f64 (f64.format.add b
 c) a_4→∀ (a_5:Nat),FRes f64 (f64.format.add a_4 a) a_5→∃ (h:W64 a_5),post ((Z4c a_5).fst,()))) (∃ (h:W2 a b),∀ (a_3:Bool),a_3 =
 (Za9 a b).fst→Br a_3 (∀ (a_4:Nat),FRes f64 (f64.format.add a b) a_4→∀ (a:Nat),FRes f64 (f64.format.add a_4 c) a →
 ∃ (h:W64 a),post ((Z4c a).fst,())) (∀ (a_4:Nat),FRes f64 (f64.format.add b a) a_4→∀ (a:Nat),FRes f64
 (f64.format.add a_4 c) a→∃ (h:W64 a),post ((Z4c a).fst,())))) (∃ (h:W2 c b),∀ (a_2:Bool),a_2=(Za9 c b).fst→Br a_2 (∃ (h:W2 c a),∀ (a_3 :
 Bool),a_3=(Za9 c a).fst→Br a_3 (∀ (a_4:Nat),FRes f64 (f64.format.add c a) a_4→∀ (a:Nat),FRes f64
 (f64.format.add a_4 b) a→∃ (h:W64 a),post ((Z4c a).fst,())) (∀ (a_4:Nat),FRes f64 (f64.format.add a c) a_4→∀ (a:Nat),FRes
 f64 (f64.format.add a_4 b) a→∃ (h:W64 a),post ((Z4c a).fst,()))) (∃ (h:W2 b a),∀ (a_3:Bool),a_3=(Za9 b a).fst→Br a_3 (∀ (a_4 :
 Nat),FRes f64 (f64.format.add b a) a_4→∀ (a:Nat),FRes f64 (f64.format.add a_4 c) a→∃ (h:W64 a),post ((Z4c a).fst,
 ())) (∀ (a_4:Nat),FRes f64 (f64.format.add a b) a_4→∀ (a:Nat),FRes f64 (f64.format.add a_4 c) a→∃ (h:W64 a),post
 ((Z4c a).fst,()))))
theorem Z1be (a:Nat) (b:Nat) (c:Nat) (h:W3 a b c):Zcu  a b c (fun r=>r=Zek a b c):=by
 obtain ⟨ha,hb,hc⟩:=h
 have leaf:∀ x y z,Z4e a b c=[x,y,z]→∀ s,FRes f64 (f64.format.add x y) s→∀ t,FRes f64 (f64.format.add s z) t→∃ h:W64 t,((Z4c t).fst,())=Zek a b c:=by
  intro x y z e s hs t ht
  obtain ⟨q1,w1⟩:=fadd hs
  obtain ⟨q2,w2⟩:=fadd ht
  refine ⟨w2,congrArg r1 ?_⟩
  show Zh t=rowQ (Z4e a b c)
  rw [e]; exact Z1uv q1 q2
 refine ⟨⟨hb,ha⟩,?_⟩
 rintro _ rfl
 refine Br.intro (fun e=>⟨⟨hc,ha⟩,?_⟩) fun e=>⟨⟨hc,hb⟩,?_⟩
 ·have e:ltM b a=true:=e
  rintro _ rfl
  refine Br.intro (fun f=>⟨⟨hc,hb⟩,?_⟩) fun f=>⟨⟨ha,hb⟩,?_⟩
  ·have f:ltM c a=true:=f
   rintro _ rfl
   refine Br.intro (fun g=>?_) fun g=>?_
   ·have g:ltM c b=true:=g
    exact leaf _ _ _ (by unfold Z4e; rw [e,f,g]; rfl)
   ·have g:ltM c b=false:=g
    exact leaf _ _ _ (by unfold Z4e; rw [e,f,g]; rfl)
  ·have f:ltM c a=false:=f
   rintro _ rfl
   refine Br.intro (fun g=>?_) fun g=>?_
   ·have g:ltM a b=true:=g
    rw [Z1p4 e] at g; cases g
   ·exact leaf _ _ _ (by unfold Z4e; rw [e,f]; rfl)
 ·have e:ltM b a=false:=e
  rintro _ rfl
  refine Br.intro (fun f=>⟨⟨hc,ha⟩,?_⟩) fun f=>⟨⟨hb,ha⟩,?_⟩
  ·have f:ltM c b=true:=f
   rintro _ rfl
   refine Br.intro (fun g=>?_) fun g=>?_
   ·have g:ltM c a=true:=g
    exact leaf _ _ _ (by unfold Z4e; rw [e,f,g]; rfl)
   ·have g:ltM c a=false:=g
    exact leaf _ _ _ (by unfold Z4e; rw [e,f,g]; rfl)
  ·have f:ltM c b=false:=f
   rintro _ rfl
   refine Br.intro (fun g=>?_) fun g=>?_
   ·have g:ltM b a=true:=g
    rw [e] at g; cases g
   ·exact leaf _ _ _ (by unfold Z4e; rw [e,f]; rfl)
def Zj2:=fun (a b c:Nat) (post:Nat × Unit→Prop)=>∃ (h:(List.replicate (3:Nat) (0:Nat)).length=(3:Nat)∧(3:Nat)=(3:Nat)),∃ (h:(0:Int)≤(0 :
 Int)∧(0:Int)≤(3:Int)∧(3:Int)≤(3:Int)∧(3:Nat)=(3:Nat)),∃ (h:Zy0 (3:Int)),∃ (h:(0:Int)≤(1:Int)∧(1:Int)<(3:Int)),∃ (h:(0:Int) ≤
 (0:Int)∧(0:Int)<(3:Int)),∃ (h:W2 b a),Br (decide ((Zqx b a).fst<(0:Int))) (∃ (h:(0:Int)≤(0:Int)∧(0:Int)<(3:Int)),∃ (h:(0:Int)≤(1:Int)
 ∧ (1:Int)<(3:Int)),∃ (h:(0:Int)≤(1:Int)∧(1:Int)<(3:Int)),∃ (h:(0:Int)≤(0:Int)∧(0:Int)<(3:Int)),∃ (h:(0:Int)≤(2:Int)∧(2:Int) <
 (3:Int)),∃ (h:(0:Int)≤(1:Int)∧(1:Int)<(3:Int)),∃ (h:W2 c a),Br (decide ((Zqx c a).fst<(0:Int))) (∃ (h:(0:Int)≤(1:Int)∧(1:Int)<(3 :
 Int)),∃ (h:(0:Int)≤(2:Int)∧(2:Int)<(3:Int)),∃ (h:(0:Int)≤(2:Int)∧(2:Int)<(3:Int)),∃ (h:(0:Int)≤(1:Int)∧(1:Int)<(3:Int)),∃ (h :
 (0:Int)≤(1:Int)∧(1:Int)<(3:Int)),∃ (h:(0:Int)≤(0:Int)∧(0:Int)<(3:Int)),∃ (h:W2 c b),Br (decide ((Zqx c b).fst<(0:Int))) (∃ (h:(0:Int)
 ≤ (0:Int)∧(0:Int)<(3:Int)),∃ (h:(0:Int)≤(1:Int)∧(1:Int)<(3:Int)),∃ (h:(0:Int)≤(1:Int)∧(1:Int)<(3:Int)),∃ (h:(0:Int)≤(0:Int) ∧
 (0:Int)<(3:Int)),∃ (h:(0:Int)≤(0:Int)∧(0:Int)≤(3:Int)∧(3:Int)≤(3:Int)∧(3:Nat)=[c,b,a].length),∃ (h:WL [c,b,a]),post ((rowR [c,b,
 a]).fst,())) (∃ (h:(0:Int)≤(0:Int)∧(0:Int)≤(3:Int)∧(3:Int)≤(3:Int)∧(3:Nat)=[b,c,a].length),∃ (h:WL [b,c,a]),post ((rowR [b,c,a]).fst,
 ()))) (∃ (h:(0:Int)≤(0:Int)∧(0:Int)≤(3:Int)∧(3:Int)≤(3:Int)∧(3:Nat)=[b,a,c].length),∃ (h:WL [b,a,c]),post ((rowR [b,a,c]).fst,()))) (∃ (h
 : (0:Int)≤(2:Int)∧(2:Int)<(3:Int)),∃ (h:(0:Int)≤(1:Int)∧(1:Int)<(3:Int)),∃ (h:W2 c b),Br (decide ((Zqx c b).fst<(0:Int))) (∃ (h:(0 :
 Int)≤(1:Int)∧(1:Int)<(3:Int)),∃ (h:(0:Int)≤(2:Int)∧(2:Int)<(3:Int)),∃ (h:(0:Int)≤(2:Int)∧(2:Int)<(3:Int)),∃ (h:(0:Int)≤(1 :
 Int)∧(1:Int)<(3:Int)),∃ (h:(0:Int)≤(1:Int)∧(1:Int)<(3:Int)),∃ (h:(0:Int)≤(0:Int)∧(0:Int)<(3:Int)),∃ (h:W2 c a),Br (decide ((Zqx c
 a).fst<(0:Int))) (∃ (h:(0:Int)≤(0:Int)∧(0:Int)<(3:Int)),∃ (h:(0:Int)≤(1:Int)∧(1:Int)<(3:Int)),∃ (h:(0:Int)≤(1:Int)∧(1:Int)<(3 :
 Int)),∃ (h:(0:Int)≤(0:Int)∧(0:Int)<(3:Int)),∃ (h:(0:Int)≤(0:Int)∧(0:Int)≤(3:Int)∧(3:Int)≤(3:Int)∧(3:Nat)=[c,a,b].length),∃ (h :
 WL [c,a,b]),post ((rowR [c,a,b]).fst,())) (∃ (h:(0:Int)≤(0:Int)∧(0:Int)≤(3:Int)∧(3:Int)≤(3:Int)∧(3:Nat)=[a,c,b].length),∃ (h:WL [a,c,
 b]),post ((rowR [a,c,b]).fst,()))) (∃ (h:(0:Int)≤(0:Int)∧(0:Int)≤(3:Int)∧(3:Int)≤(3:Int)∧(3:Nat)=(3:Nat)),∃ (h:WL [a,b,c]),post ((rowR
 [a,b,c]).fst,())))
theorem Z1iy (a:Nat) (b:Nat) (c:Nat) (h:W3 a b c):Zj2  a b c (fun r=>r=Zek a b c):=by
 obtain ⟨ha,hb,hc⟩:=h
 have leaf:∀ l,Z4e a b c=l→((rowR l).fst,())=Zek a b c:=by rintro _ rfl; rfl
 refine ⟨⟨rfl,rfl⟩,⟨by decide,by decide,by decide,rfl⟩,rfl,by decide,by decide,⟨hb,ha⟩,Br.intro (fun e=>⟨by decide,by decide,by decide,by decide,by decide,by decide,⟨hc,ha⟩,Br.intro (fun f=>⟨by decide,by decide,by decide,by decide,by decide,by decide,⟨hc,hb⟩,Br.intro (fun g=>⟨by decide,by decide,by decide,by decide,⟨by decide,by decide,by decide,rfl⟩,WL3 hc hb ha,leaf _ ?_⟩) fun g=>⟨⟨by decide,by decide,by decide,rfl⟩,WL3 hb hc ha,leaf _ ?_⟩⟩) fun f=>⟨⟨by decide,by decide,by decide,rfl⟩,WL3 hb ha hc,leaf _ ?_⟩⟩) fun e=>⟨by decide,by decide,⟨hc,hb⟩,Br.intro (fun f=>⟨by decide,by decide,by decide,by decide,by decide,by decide,⟨hc,ha⟩,Br.intro (fun g=>⟨by decide,by decide,by decide,by decide,⟨by decide,by decide,by decide,rfl⟩,WL3 hc ha hb,leaf _ ?_⟩) fun g=>⟨⟨by decide,by decide,by decide,rfl⟩,WL3 ha hc hb,leaf _ ?_⟩⟩) fun f=>⟨⟨by decide,by decide,by decide,rfl⟩,WL3 ha hb hc,leaf _ ?_⟩⟩⟩
 ·have e:ltM b a=true:=e
  have f:ltM c a=true:=f
  have g:ltM c b=true:=g
  unfold Z4e; rw [e,f,g]; rfl
 ·have e:ltM b a=true:=e
  have f:ltM c a=true:=f
  have g:ltM c b=false:=g
  unfold Z4e; rw [e,f,g]; rfl
 ·have e:ltM b a=true:=e
  have f:ltM c a=false:=f
  unfold Z4e; rw [e,f]; rfl
 ·have e:ltM b a=false:=e
  have f:ltM c b=true:=f
  have g:ltM c a=true:=g
  unfold Z4e; rw [e,f,g]; rfl
 ·have e:ltM b a=false:=e
  have f:ltM c b=true:=f
  have g:ltM c a=false:=g
  unfold Z4e; rw [e,f,g]; rfl
 ·have e:ltM b a=false:=e
  have f:ltM c b=false:=f
  unfold Z4e; rw [e,f]; rfl
end Go.Lift

namespace Go.Lift
open Go.Proofs
def Z10v:Con:=.det [.slice (.flt .f64)] [.snap (.flt .f64)] (fun x=>WL x.1) (fun x=>rowR x.1)
def Zw3:Hn:={ loops:=fun k=>match k with | 5=>some { ls:=[(.slot 3,.data (.flt .f64)),(.slot 15,.data (.int .i64))],os:=[] } | _=>none,joins:=fun _=>none,named:=true }
def Z10w:Cx:=⟨Zd Zf,Ze [(182,Zsi)],RbG⟩
theorem Z1bf:CxOk Tryz.prog Z10w:=⟨Z3 Z6,Z5 ⟨Z1fb,trivial⟩⟩
theorem Z1iz:FnAt Tryz.prog 171 Tryz.f171.ntmps Tryz.f171.results.toList (Tryz.f171.body.getD .skip):=⟨Tryz.f171,Tryz.func171,rfl,rfl,by simp,by decide⟩
theorem Z1j0 (a:List Nat) (post:Nat × Unit→Prop):Z9 Z10w Zw3 Tryz.f171.ntmps Tryz.f171.results.toList (Tryz.f171.body.getD .skip) [.slice (.flt .f64)] [.snap (.flt .f64)] (a,()) post=Zri  a post:=by kernel_rfl
theorem Z1ki:Z10v.holds Tryz.prog RbG 171 :=
 detP Z1bf Z8 Zw3 Z1iz (F:=fun x post=>Zri  x.1 post) (fun x post=>Z1j0 x.1 post) fun x h w=>Z1nn  x.1 h w
def Zlh:Con:=.det [.flt .f64,.flt .f64,.flt .f64] [.snap (.flt .f64)] (fun x=>W3 x.1 x.2.1 x.2.2.1) (fun x=>Zek x.1 x.2.1 x.2.2.1)
def Zli:Cx:=⟨Zd Zf,Ze [(177,Zld),(178,Zgi)],RbG⟩
theorem Zw4:CxOk Tryz.prog Zli:=⟨Z3 Z6,Z5 ⟨Z17c,Zyp,trivial⟩⟩
theorem Z129:FnAt Tryz.prog 159 Tryz.f159.ntmps Tryz.f159.results.toList (Tryz.f159.body.getD .skip):=⟨Tryz.f159,Tryz.func159,rfl,rfl,by simp,by decide⟩
theorem Z12a (a:Nat) (b:Nat) (c:Nat) (post:Nat × Unit→Prop):Z9 Zli nHn Tryz.f159.ntmps Tryz.f159.results.toList (Tryz.f159.body.getD .skip) [.flt .f64,.flt .f64,.flt .f64] [.snap (.flt .f64)] (a,b,c,()) post=Zcu  a b c post:=by kernel_rfl
theorem Z17h:Zlh.holds Tryz.prog RbG 159 :=
 detP Zw4 Z8 nHn Z129 (F:=fun x post=>Zcu  x.1 x.2.1 x.2.2.1 post) (fun x post=>Z12a x.1 x.2.1 x.2.2.1 post) fun x h _=>Z1be  x.1 x.2.1 x.2.2.1 h
def Zlj:Con:=.det [.int .u64] [.snap (.int .i64)] (fun x=>Zy0 x.1) (fun x=>twoR x.1)
def Zlk:Cx:=⟨Zd Zf,fun _=>none,RbG⟩
theorem Zw5:CxOk Tryz.prog Zlk:=⟨Z3 Z6,fun f c h=>by cases h⟩
theorem Z12b:FnAt Tryz.prog 147 Tryz.f147.ntmps Tryz.f147.results.toList (Tryz.f147.body.getD .skip):=⟨Tryz.f147,Tryz.func147,rfl,rfl,by simp,by decide⟩
theorem Z12c (post:Int × Unit→Prop):Z9 Zlk noHn Tryz.f147.ntmps Tryz.f147.results.toList (Tryz.f147.body.getD .skip) [.int .u64] [.snap (.int .i64)] ((3:Int),()) post=(∃ (h:(0:Int)≤(3:Int)∧(3:Int)<(256:Int)),post ((2:Int),())):=by kernel_rfl
theorem Z17i:Zlj.holds Tryz.prog RbG 147:=by
 refine Z1ds Zw5 Z8 noHn Z12b ?_
 rintro ⟨a,⟨⟩⟩ h
 have h:a=(3:Int):=h
 subst h
 exact (Z12c _).mpr ⟨by decide,rfl⟩
def Zsk:Con:=.det [.int .u64] [.snap (.int .i64)] (fun x=>Zy0 x.1) (fun x=>twoR x.1)
def Zsl:Cx:=⟨Zd Zf,Ze [(147,Zlj)],RbG⟩
theorem Z12d:CxOk Tryz.prog Zsl:=⟨Z3 Z6,Z5 ⟨Z17i,trivial⟩⟩
theorem Z1bg:FnAt Tryz.prog 181 Tryz.f181.ntmps Tryz.f181.results.toList (Tryz.f181.body.getD .skip):=⟨Tryz.f181,Tryz.func181,rfl,rfl,by simp,by decide⟩
theorem Z1bh (post:Int × Unit→Prop):Z9 Zsl noHn Tryz.f181.ntmps Tryz.f181.results.toList (Tryz.f181.body.getD .skip) [.int .u64] [.snap (.int .i64)] ((3:Int),()) post=(∃ (h:Zy0 3),post ((2:Int),())):=by kernel_rfl
theorem Z1fg:Zsk.holds Tryz.prog RbG 181:=by
 refine Z1ds Z12d Z8 noHn Z1bg ?_
 rintro ⟨a,⟨⟩⟩ h
 have h:a=(3:Int):=h
 subst h
 exact (Z1bh _).mpr ⟨rfl,rfl⟩
def Zsm:Con:=.det [.flt .f64,.flt .f64,.flt .f64] [.snap (.flt .f64)] (fun x=>W3 x.1 x.2.1 x.2.2.1) (fun x=>Zek x.1 x.2.1 x.2.2.1)
def Zox:Hn:={ loops:=fun _=>none,joins:=fun _=>none,inl:=inlL [167] }
def Zfu:Cx:=⟨Zd Zf,Ze [(168,Ziw),(171,Z10v),(181,Zsk)],RbG⟩
theorem Zj3:CxOk Tryz.prog Zfu:=⟨Z3 Z6,Z5 ⟨Z122,Z1ki,Z1fg,trivial⟩⟩
theorem Z1bi:FnAt Tryz.prog 149 Tryz.f149.ntmps Tryz.f149.results.toList (Tryz.f149.body.getD .skip):=⟨Tryz.f149,Tryz.func149,rfl,rfl,by simp,by decide⟩
theorem Z1bj (a:Nat) (b:Nat) (c:Nat) (post:Nat × Unit→Prop):Z6b Zfu Zox (Zc5 Zfu Zn5 5) Tryz.f149.ntmps Tryz.f149.results.toList (Tryz.f149.body.getD .skip) [.flt .f64,.flt .f64,.flt .f64] [.snap (.flt .f64)] (a,b,c,()) post=Zj2  a b c post:=by kernel_rfl
theorem Z1fh:Zsm.holds Tryz.prog RbG 149 :=
 Z15n Zj3 Z8 Zox (Za8 Zj3 Z8 Z1ae 5) Z1bi (F:=fun x post=>Zj2  x.1 x.2.1 x.2.2.1 post) (fun x post=>Z1bj x.1 x.2.1 x.2.2.1 post) fun x h _=>Z1iy  x.1 x.2.1 x.2.2.1 h
end Go.Lift

namespace Go.Lift
open Go.Proofs
def Z91:Con:=.det [.flt .f64,.flt .f64,.flt .f64] [.snap kVec] (fun _=>True) (fun x=>Z18 x.1 x.2.1 x.2.2.1)
def Zsn:Cx:=⟨Zd Zf,Ze [(88,Z51)],RbG⟩
theorem Z12e:CxOk Tryz.prog Zsn:=⟨Z3 Z6,Z5 ⟨Z89,trivial⟩⟩
theorem Z1bk:FnAt Tryz.prog 150 Tryz.f150.ntmps Tryz.f150.results.toList (Tryz.f150.body.getD .skip):=⟨Tryz.f150,Tryz.func150,rfl,rfl,by simp,by decide⟩
theorem Z1bl (a:Nat) (b:Nat) (c:Nat) (post:(Nat × Nat × Nat) × Unit→Prop):Z9 Zsn nHn Tryz.f150.ntmps Tryz.f150.results.toList (Tryz.f150.body.getD .skip) [.flt .f64,.flt .f64,.flt .f64] [.snap kVec] (a,b,c,()) post=Ziy  a b c post:=by kernel_rfl
theorem Zfv:Z91.holds Tryz.prog RbG 150 :=
 detP Z12e Z8 nHn Z1bk (F:=fun x post=>Ziy  x.1 x.2.1 x.2.2.1 post) (fun x post=>Z1bl x.1 x.2.1 x.2.2.1 post) fun x _ _=>Z1iu  x.1 x.2.1 x.2.2.1
def Z8a:Con:=.det [.flt .f64,.flt .f64,.flt .f64] [.snap kVec] (fun x=>W3 x.1 x.2.1 x.2.2.1) (fun x=>Z18 x.1 x.2.1 x.2.2.1)
def Zoy:Cx:=⟨Zd Zf,Ze [(115,Z4i)],RbG⟩
theorem Zyx:CxOk Tryz.prog Zoy:=⟨Z3 Z6,Z5 ⟨Z6w,trivial⟩⟩
theorem Z17j:FnAt Tryz.prog 160 Tryz.f160.ntmps Tryz.f160.results.toList (Tryz.f160.body.getD .skip):=⟨Tryz.f160,Tryz.func160,rfl,rfl,by simp,by decide⟩
theorem Z17k (a:Nat) (b:Nat) (c:Nat) (post:(Nat × Nat × Nat) × Unit→Prop):Z9 Zoy nHn Tryz.f160.ntmps Tryz.f160.results.toList (Tryz.f160.body.getD .skip) [.flt .f64,.flt .f64,.flt .f64] [.snap kVec] (a,b,c,()) post=Zfq  a b c post:=by kernel_rfl
theorem Zcv:Z8a.holds Tryz.prog RbG 160 :=
 detP Zyx Z8 nHn Z17j (F:=fun x post=>Zfq  x.1 x.2.1 x.2.2.1 post) (fun x post=>Z17k x.1 x.2.1 x.2.2.1 post) fun x h _=>Z1fc  x.1 x.2.1 x.2.2.1 h
def Zfw:Con:=.det [kVec,kVec] [.snap kVec] (fun x=>WV2 x.1 x.2.1) (fun x=>Z3l x.1 x.2.1)
def Zso:Cx:=⟨Zd Zf,Ze [(150,Z91)],RbG⟩
theorem Z12f:CxOk Tryz.prog Zso:=⟨Z3 Z6,Z5 ⟨Zfv,trivial⟩⟩
theorem Z1bm:FnAt Tryz.prog 125 Tryz.f125.ntmps Tryz.f125.results.toList (Tryz.f125.body.getD .skip):=⟨Tryz.f125,Tryz.func125,rfl,rfl,by simp,by decide⟩
theorem Z1bn (a:Nat × Nat × Nat) (b:Nat × Nat × Nat) (post:(Nat × Nat × Nat) × Unit→Prop):Z9 Zso nHn Tryz.f125.ntmps Tryz.f125.results.toList (Tryz.f125.body.getD .skip) [kVec,kVec] [.snap kVec] (a,b,()) post=Ziz  a b post:=by kernel_rfl
theorem Zsp:Zfw.holds Tryz.prog RbG 125 :=
 detP Z12f Z8 nHn Z1bm (F:=fun x post=>Ziz  x.1 x.2.1 post) (fun x post=>Z1bn x.1 x.2.1 post) fun x h _=>Z1iv  x.1 x.2.1 h
def Zll:Con:=.det [kVec,kVec] [.snap kVec] (fun x=>WV2 x.1 x.2.1) (fun x=>Z3l x.1 x.2.1)
def Zlm:Cx:=⟨Zd Zf,Ze [(160,Z8a)],RbG⟩
theorem Zw6:CxOk Tryz.prog Zlm:=⟨Z3 Z6,Z5 ⟨Zcv,trivial⟩⟩
theorem Z12g:FnAt Tryz.prog 136 Tryz.f136.ntmps Tryz.f136.results.toList (Tryz.f136.body.getD .skip):=⟨Tryz.f136,Tryz.func136,rfl,rfl,by simp,by decide⟩
theorem Z12h (a:Nat × Nat × Nat) (b:Nat × Nat × Nat) (post:(Nat × Nat × Nat) × Unit→Prop):Z9 Zlm nHn Tryz.f136.ntmps Tryz.f136.results.toList (Tryz.f136.body.getD .skip) [kVec,kVec] [.snap kVec] (a,b,()) post=Zcs  a b post:=by kernel_rfl
theorem Z17l:Zll.holds Tryz.prog RbG 136 :=
 detP Zw6 Z8 nHn Z12g (F:=fun x post=>Zcs  x.1 x.2.1 post) (fun x post=>Z12h x.1 x.2.1 post) fun x h _=>Z1bc  x.1 x.2.1 h
def Zoz:Con:=.rel [.flt .f64,.flt .f64,.flt .f64,.flt .f64] [.snap (.flt .f64)] (fun _=>True) (fun x r=>Z15t x.1 x.2.1 x.2.2.1 x.2.2.2.1 r) (fun x h=>Zxy (Z1u4 _ _) (Ze3 _ _))
def Zp0:Cx:=⟨Zd Zf,Ze [],RbG⟩
theorem Zyy:CxOk Tryz.prog Zp0:=⟨Z3 Z6,fun f c h=>by cases h⟩
theorem Z17m:FnAt Tryz.prog 161 Tryz.f161.ntmps Tryz.f161.results.toList (Tryz.f161.body.getD .skip):=⟨Tryz.f161,Tryz.func161,rfl,rfl,by simp,by decide⟩
theorem Z17n (a:Nat) (b:Nat) (c:Nat) (d:Nat) (post:Nat × Unit→Prop):Z9 Zp0 nHn Tryz.f161.ntmps Tryz.f161.results.toList (Tryz.f161.body.getD .skip) [.flt .f64,.flt .f64,.flt .f64,.flt .f64] [.snap (.flt .f64)] (a,b,c,d,()) post=Zfr  a b c d post:=by kernel_rfl
theorem Z1bo:Zoz.holds Tryz.prog RbG 161 :=
 relP Zyy Z8 nHn Z17m (F:=fun x post=>Zfr  x.1 x.2.1 x.2.2.1 x.2.2.2.1 post) (fun x post=>Z17n x.1 x.2.1 x.2.2.1 x.2.2.2.1 post) fun x _ _=>Z1fd  x.1 x.2.1 x.2.2.1 x.2.2.2.1
def Zsq:Con:=.det [kVec,kVec] [.snap kVec] (fun _=>True) (fun x=>Zab x.1 x.2.1)
def Zsr:Cx:=⟨Zd Zf,Ze [(150,Z91)],RbG⟩
theorem Z12i:CxOk Tryz.prog Zsr:=⟨Z3 Z6,Z5 ⟨Zfv,trivial⟩⟩
theorem Z1bp:FnAt Tryz.prog 124 Tryz.f124.ntmps Tryz.f124.results.toList (Tryz.f124.body.getD .skip):=⟨Tryz.f124,Tryz.func124,rfl,rfl,by simp,by decide⟩
theorem Z1bq (a:Nat × Nat × Nat) (b:Nat × Nat × Nat) (post:(Nat × Nat × Nat) × Unit→Prop):Z9 Zsr nHn Tryz.f124.ntmps Tryz.f124.results.toList (Tryz.f124.body.getD .skip) [kVec,kVec] [.snap kVec] (a,b,()) post=Zj0  a b post:=by kernel_rfl
theorem Z1fi:Zsq.holds Tryz.prog RbG 124 :=
 detP Z12i Z8 nHn Z1bp (F:=fun x post=>Zj0  x.1 x.2.1 post) (fun x post=>Z1bq x.1 x.2.1 post) fun x _ _=>Z1iw  x.1 x.2.1
def Zln:Con:=.det [kVec,kVec] [.snap kVec] (fun _=>True) (fun x=>Zab x.1 x.2.1)
def Zlo:Cx:=⟨Zd Zf,Ze [(161,Zoz),(160,Z8a)],RbG⟩
theorem Zw7:CxOk Tryz.prog Zlo:=⟨Z3 Z6,Z5 ⟨Z1bo,Zcv,trivial⟩⟩
theorem Z12j:FnAt Tryz.prog 135 Tryz.f135.ntmps Tryz.f135.results.toList (Tryz.f135.body.getD .skip):=⟨Tryz.f135,Tryz.func135,rfl,rfl,by simp,by decide⟩
theorem Z12k (a:Nat × Nat × Nat) (b:Nat × Nat × Nat) (post:(Nat × Nat × Nat) × Unit→Prop):Z9 Zlo nHn Tryz.f135.ntmps Tryz.f135.results.toList (Tryz.f135.body.getD .skip) [kVec,kVec] [.snap kVec] (a,b,()) post=Zct  a b post:=by kernel_rfl
theorem Z17o:Zln.holds Tryz.prog RbG 135 :=
 detP Zw7 Z8 nHn Z12j (F:=fun x post=>Zct  x.1 x.2.1 post) (fun x post=>Z12k x.1 x.2.1 post) fun x _ _=>Z1bd  x.1 x.2.1
def Zfx:Con:=.rel [.flt .f64] [.snap (.flt .f64)] (fun _=>True) (fun x r=>Z8w x.1 r) (fun x h=>Zxy (Z19o _) (Zxp _))
def Zss:Cx:=⟨Zd Zf,Ze [(166,Zsg)],RbG⟩
theorem Z12l:CxOk Tryz.prog Zss:=⟨Z3 Z6,Z5 ⟨Z1f4,trivial⟩⟩
theorem Z1br:FnAt Tryz.prog 148 Tryz.f148.ntmps Tryz.f148.results.toList (Tryz.f148.body.getD .skip):=⟨Tryz.f148,Tryz.func148,rfl,rfl,by simp,by decide⟩
theorem Z1bs (a:Nat) (post:Nat × Unit→Prop):Z9 Zss nHn Tryz.f148.ntmps Tryz.f148.results.toList (Tryz.f148.body.getD .skip) [.flt .f64] [.snap (.flt .f64)] (a,()) post=Zj1  a post:=by kernel_rfl
theorem Zst:Zfx.holds Tryz.prog RbG 148 :=
 relP Z12l Z8 nHn Z1br (F:=fun x post=>Zj1  x.1 post) (fun x post=>Z1bs x.1 post) fun x _ _=>Z1ix  x.1
def Zw8:Con:=.rel [.flt .f64] [.snap (.flt .f64)] (fun _=>True) (fun x r=>Z8w x.1 r) (fun x h=>Zxy (Z19o _) (Zxp _))
def Zw9:Cx:=⟨Zd Zf,Ze [(148,Zfx)],RbG⟩
theorem Z17p:CxOk Tryz.prog Zw9:=⟨Z3 Z6,Z5 ⟨Zst,trivial⟩⟩
theorem Z1fj:FnAt Tryz.prog 158 Tryz.f158.ntmps Tryz.f158.results.toList (Tryz.f158.body.getD .skip):=⟨Tryz.f158,Tryz.func158,rfl,rfl,by simp,by decide⟩
theorem Z1fk (a:Nat) (post:Nat × Unit→Prop):Z9 Zw9 nHn Tryz.f158.ntmps Tryz.f158.results.toList (Tryz.f158.body.getD .skip) [.flt .f64] [.snap (.flt .f64)] (a,()) post=Znc  a post:=by kernel_rfl
theorem Z1j1:Zw8.holds Tryz.prog RbG 158 :=
 relP Z17p Z8 nHn Z1fj (F:=fun x post=>Znc  x.1 post) (fun x post=>Z1fk x.1 post) fun x _ _=>Z1kg  x.1
def Z8b:Con:=.det [kVec] [.snap (.flt .f64)] (fun x=>WV x.1) (fun x=>Z23 x.1)
def Zp1:Cx:=⟨Zd Zf,Ze [(149,Zsm),(148,Zfx),(88,Z51)],RbG⟩
theorem Zyz:CxOk Tryz.prog Zp1:=⟨Z3 Z6,Z5 ⟨Z1fh,Zst,Z89,trivial⟩⟩
theorem Z17q:FnAt Tryz.prog 123 Tryz.f123.ntmps Tryz.f123.results.toList (Tryz.f123.body.getD .skip):=⟨Tryz.f123,Tryz.func123,rfl,rfl,by simp,by decide⟩
theorem Z17r (a:Nat × Nat × Nat) (post:Nat × Unit→Prop):Z9 Zp1 nHn Tryz.f123.ntmps Tryz.f123.results.toList (Tryz.f123.body.getD .skip) [kVec] [.snap (.flt .f64)] (a,()) post=Zfs  a post:=by kernel_rfl
theorem Zcw:Z8b.holds Tryz.prog RbG 123 :=
 detP Zyz Z8 nHn Z17q (F:=fun x post=>Zfs  x.1 post) (fun x post=>Z17r x.1 post) fun x h _=>Z1fe  x.1 h
def Z98:Con:=.det [kVec] [.snap (.flt .f64)] (fun x=>WV x.1) (fun x=>Z23 x.1)
def Zj4:Cx:=⟨Zd Zf,Ze [(159,Zlh),(158,Zw8),(115,Z4i)],RbG⟩
theorem Ztf:CxOk Tryz.prog Zj4:=⟨Z3 Z6,Z5 ⟨Z17h,Z1j1,Z6w,trivial⟩⟩
theorem Zz0:FnAt Tryz.prog 134 Tryz.f134.ntmps Tryz.f134.results.toList (Tryz.f134.body.getD .skip):=⟨Tryz.f134,Tryz.func134,rfl,rfl,by simp,by decide⟩
theorem Zz1 (a:Nat × Nat × Nat) (post:Nat × Unit→Prop):Z9 Zj4 nHn Tryz.f134.ntmps Tryz.f134.results.toList (Tryz.f134.body.getD .skip) [kVec] [.snap (.flt .f64)] (a,()) post=Zb0  a post:=by kernel_rfl
theorem Zj5:Z98.holds Tryz.prog RbG 134 :=
 detP Ztf Z8 nHn Zz0 (F:=fun x post=>Zb0  x.1 post) (fun x post=>Zz1 x.1 post) fun x h _=>Z17g  x.1 h
def Zne:Con:=.det [kVec,kVec] [.snap (.flt .f64)] (fun x=>WV2 x.1 x.2.1) (fun x=>gapR x.1 x.2.1)
def Z10x:Cx:=⟨Zd Zf,Ze [(125,Zfw),(123,Z8b)],RbG⟩
theorem Z1bt:CxOk Tryz.prog Z10x:=⟨Z3 Z6,Z5 ⟨Zsp,Zcw,trivial⟩⟩
theorem Z1j2:FnAt Tryz.prog 100 Tryz.f100.ntmps Tryz.f100.results.toList (Tryz.f100.body.getD .skip):=⟨Tryz.f100,Tryz.func100,rfl,rfl,by simp,by decide⟩
theorem Z1j3 (a:Nat × Nat × Nat) (b:Nat × Nat × Nat) (post:Nat × Unit→Prop):Z9 Z10x nHn Tryz.f100.ntmps Tryz.f100.results.toList (Tryz.f100.body.getD .skip) [kVec,kVec] [.snap (.flt .f64)] (a,b,()) post=Zrh  a b post:=by kernel_rfl
theorem Z10y:Zne.holds Tryz.prog RbG 100 :=
 detP Z1bt Z8 nHn Z1j2 (F:=fun x post=>Zrh  x.1 x.2.1 post) (fun x post=>Z1j3 x.1 x.2.1 post) fun x h _=>Z1nm  x.1 x.2.1 h
def Zwa:Con:=.det [kVec] [.snap kVec] (fun x=>WV x.1) (fun x=>Zac x.1)
def Zwb:Cx:=⟨Zd Zf,Ze [(123,Z8b),(173,Zov),(150,Z91)],RbG⟩
theorem Z17s:CxOk Tryz.prog Zwb:=⟨Z3 Z6,Z5 ⟨Zcw,Z1bb,Zfv,trivial⟩⟩
theorem Z1fl:FnAt Tryz.prog 153 Tryz.f153.ntmps Tryz.f153.results.toList (Tryz.f153.body.getD .skip):=⟨Tryz.f153,Tryz.func153,rfl,rfl,by simp,by decide⟩
theorem Z1fm (a:Nat × Nat × Nat) (post:(Nat × Nat × Nat) × Unit→Prop):Z9 Zwb nHn Tryz.f153.ntmps Tryz.f153.results.toList (Tryz.f153.body.getD .skip) [kVec] [.snap kVec] (a,()) post=Znd  a post:=by kernel_rfl
theorem Z1j4:Zwa.holds Tryz.prog RbG 153 :=
 detP Z17s Z8 nHn Z1fl (F:=fun x post=>Znd  x.1 post) (fun x post=>Z1fm x.1 post) fun x h _=>Z1kh  x.1 h
def Zp2:Con:=.det [kVec] [.snap kVec] (fun x=>WV x.1) (fun x=>Zac x.1)
def Zp3:Cx:=⟨Zd Zf,Ze [(134,Z98),(185,Zlf),(160,Z8a)],RbG⟩
theorem Zz2:CxOk Tryz.prog Zp3:=⟨Z3 Z6,Z5 ⟨Zj5,Z17f,Zcv,trivial⟩⟩
theorem Z17t:FnAt Tryz.prog 175 Tryz.f175.ntmps Tryz.f175.results.toList (Tryz.f175.body.getD .skip):=⟨Tryz.f175,Tryz.func175,rfl,rfl,by simp,by decide⟩
theorem Z17u (a:Nat × Nat × Nat) (post:(Nat × Nat × Nat) × Unit→Prop):Z9 Zp3 nHn Tryz.f175.ntmps Tryz.f175.results.toList (Tryz.f175.body.getD .skip) [kVec] [.snap kVec] (a,()) post=Zft  a post:=by kernel_rfl
theorem Z1bu:Zp2.holds Tryz.prog RbG 175 :=
 detP Zz2 Z8 nHn Z17t (F:=fun x post=>Zft  x.1 post) (fun x post=>Z17u x.1 post) fun x h _=>Z1ff  x.1 h
end Go.Lift

namespace Go.Lift
def Zb1:=fun (a:Int) (post:Nat × Unit→Prop)=>post (f64.nearest a,())
theorem Z17v (a:Int):Zb1  a (fun r=>r=ofIR a):=by
 exact rfl
def Zcx:=fun (a b:Int) (post:Nat × Unit→Prop)=>∀ (a_1:Bool),a_1=decide (a<(1:Int))→Br a_1 (post ((0:Nat),())) (∀ (a_2:Bool),a_2=decide (b <
 (1:Int))→Br a_2 (post ((0:Nat),())) (∃ (h:True),∃ (h:True),∀ (a_3:Nat),FRes f64 (f64.format.div (ofIR a).fst (ofIR b).fst) a_3→post
 (a_3,())))
theorem Z1bv (a:Int) (b:Int) (h:II a b):Zcx  a b (fun r=>r=Zid a b):=by
 rintro _ rfl
 refine Br.intro (fun e=>?_) fun e=>?_
 ·exact congrArg r1 (by unfold Zic; rw [if_pos (.inl (of_decide_eq_true e))])
 ·rintro _ rfl
  refine Br.intro (fun f=>?_) fun f=>?_
  ·exact congrArg r1 (by unfold Zic; rw [if_pos (.inr (of_decide_eq_true f))])
  ·have e:=of_decide_eq_false e
   have f:=of_decide_eq_false f
   refine ⟨trivial,trivial,fun r hr=>congrArg r1 ?_⟩
   rw [Zy3 h.1 (by omega) h.2 hr]
   unfold Zic; rw [if_neg (by omega)]
def Zfy:=fun (a:Nat) (post:Nat × Unit→Prop)=>∃ (h:WNum a),post ((Zem a).fst,())
theorem Z1fn (a:Nat) (h:WNum a):Zfy  a (fun r=>r=Zem a):=by
 exact ⟨h,rfl⟩
def Zj6:=fun (a:Nat) (post:Int × Unit→Prop)=>∃ (h:WNum a),∀ (a_1:Int),F2I f64 (Zem a).fst u64 a_1→∀ (a_2:Nat),FRes
 f64 (f64.format.sub a (Zem a).fst) a_2→∀ (a:Bool),a=fcmp Go.BinOp.gtr (f64.format.order a_2 (4602678819172646912:Nat))→Br a
 (post (u64.wrap (a_1+(1:Int)),())) (∀ (a:Bool),a=fcmp Go.BinOp.eql (f64.format.order a_2 (4602678819172646912:Nat))→Br a (∃ (h:(2:Int)≠(0
 : Int)),∀ (a:Bool),a=(a_1.tmod (2:Int)==(1:Int))→Br a (post (u64.wrap (a_1+(1:Int)),())) (post (a_1,()))) (post (a_1,())))
theorem Z1j5 (a:Nat) (h:Zy2 a):Zj6  a (fun r=>r=Z1gj a):=by
 have hw:W64 a:=by unfold Zy2 Z13 at h; unfold W64; omega
 have hn:isN a=false:=by
  have:=(Zel (r:=a) (by unfold Zy2 Z13 at h; omega)).2.1
  unfold isN; rw [this,decide_eq_false_iff_not]; unfold Zy2 Z13 at h; unfold infR; omega
 refine ⟨⟨hw,hn⟩,?_⟩
 intro n hn2
 have hn2:=Z1pc h hn2
 subst hn2
 intro d hd
 have hd:∀ z,Ieee.double.order d z=Ieee.double.order (subQ a (Z1e a)) z:=Z15x hd
 obtain ⟨_,r1',r2'⟩:=Z1dx h
 have hwp:u64.wrap (Z3z (Z1e a)+1)=Z3z (Z1e a)+1:=wu1 ⟨by omega,by omega⟩
 have tm:(Z3z (Z1e a)).tmod 2=Z3z (Z1e a) % 2:=Int.tmod_eq_emod_of_nonneg r1'
 rintro _ rfl
 refine Br.intro (fun e=>?_) fun e=>?_
 ·rw [show f64.format.order d 4602678819172646912=_ from hd _] at e
  exact congrArg r1 (by rw [hwp]; unfold Zdt; rw [if_pos (by rw [show fcmp .gtr (Ieee.double.order (subQ a (Z1e a)) Z2x)=true from e]; rfl)])
 ·rw [show f64.format.order d 4602678819172646912=_ from hd _] at e
  rintro _ rfl
  refine Br.intro (fun f=>?_) fun f=>?_
  ·rw [show f64.format.order d 4602678819172646912=_ from hd _] at f
   refine ⟨by decide,?_⟩
   rintro _ rfl
   refine Br.intro (fun g=>?_) fun g=>?_
   ·rw [tm] at g
    exact congrArg r1 (by rw [hwp]; unfold Zdt; rw [if_pos (by rw [show fcmp .eql (Ieee.double.order (subQ a (Z1e a)) Z2x)=true from f,g,Bool.true_and,Bool.or_true])])
   ·rw [tm] at g
    exact congrArg r1 (by unfold Zdt; rw [if_neg (by rw [show fcmp .gtr (Ieee.double.order (subQ a (Z1e a)) Z2x)=false from e,g,Bool.and_false]; decide)])
  ·rw [show f64.format.order d 4602678819172646912=_ from hd _] at f
   exact congrArg r1 (by unfold Zdt; rw [if_neg (by rw [show fcmp .gtr (Ieee.double.order (subQ a (Z1e a)) Z2x)=false from e,show fcmp .eql (Ieee.double.order (subQ a (Z1e a)) Z2x)=false from f,Bool.false_and]; decide)])
def Zfz:=fun (a:Nat) (post:Int × Bool × Unit→Prop)=>∃ (h:W64 a),∀ (a_1:Bool),a_1=fcmp Go.BinOp.lss (f64.format.order (absR a).fst
 (4890909195324358656:Nat))→Br a_1 (∃ (h:Zy2 (absR a).fst),∀ (a_2:Bool),a_2=fcmp Go.BinOp.lss (f64.format.order a (0:Nat))→Br a_2 (post
 (i64.wrap ((0:Int) - i64.wrap (Z1gj (absR a).fst).fst),true,())) (post (i64.wrap (Z1gj (absR a).fst).fst,true,()))) (∀ (a_2:Bool),a_2
 = fcmp Go.BinOp.eql (f64.format.order a (14114281232179134464:Nat))→Br a_2 (post ((-9223372036854775808:Int),true,())) (post ((0:Int),false,
 ())))
theorem Z1fo (a:Nat) (h:W64 a):Zfz  a (fun r=>r=Z2y a):=by
 refine ⟨h,?_⟩
 rintro _ rfl
 refine Br.intro (fun e=>?_) fun e=>?_
 ·have e:fcmp .lss (Ieee.double.order (Z1 a) Z13)=true:=e
  rw [Z1ht] at e
  have e:=of_decide_eq_true e
  have hn:isN a=false:=by unfold isN; rw [decide_eq_false_iff_not]; unfold Z13 at e; unfold infR; omega
  refine ⟨e,?_⟩
  rintro _ rfl
  refine Br.intro (fun f=>?_) fun f=>?_
  ·rw [show fcmp .lss (f64.format.order a 0)=_ from Z15v hn] at f
   unfold Z2y Z2h; rw [if_pos e,if_pos f]; rfl
  ·rw [show fcmp .lss (f64.format.order a 0)=_ from Z15v hn] at f
   unfold Z2y Z2h; rw [if_pos e,if_neg (by rw [f]; decide)]; rfl
 ·have e:fcmp .lss (Ieee.double.order (Z1 a) Z13)=false:=e
  rw [Z1ht] at e
  have e:=of_decide_eq_false e
  rintro _ rfl
  refine Br.intro (fun f=>?_) fun f=>?_
  ·rw [show fcmp .eql (f64.format.order a 14114281232179134464)=_ from Z1lc h] at f
   unfold Z2y Z2h; rw [if_neg e,if_pos (show a=Z13+9223372036854775808 from of_decide_eq_true f)]
  ·rw [show fcmp .eql (f64.format.order a 14114281232179134464)=_ from Z1lc h] at f
   unfold Z2y Z2h; rw [if_neg e,if_neg (show ¬ a=Z13+9223372036854775808 from of_decide_eq_false f)]
end Go.Lift

namespace Go.Lift
open Go.Proofs
def Zj7:Con:=.det [.int .i64] [.snap (.flt .f64)] (fun _=>True) (fun x=>ofIR x.1)
def Zj8:Cx:=⟨Zd Zf,Ze [],RbG⟩
theorem Ztg:CxOk Tryz.prog Zj8:=⟨Z3 Z6,fun f c h=>by cases h⟩
theorem Zz3:FnAt Tryz.prog 89 Tryz.f89.ntmps Tryz.f89.results.toList (Tryz.f89.body.getD .skip):=⟨Tryz.f89,Tryz.func89,rfl,rfl,by simp,by decide⟩
theorem Zz4 (a:Int) (post:Nat × Unit→Prop):Z9 Zj8 nHn Tryz.f89.ntmps Tryz.f89.results.toList (Tryz.f89.body.getD .skip) [.int .i64] [.snap (.flt .f64)] (a,()) post=Zb1  a post:=by kernel_rfl
theorem Z12m:Zj7.holds Tryz.prog RbG 89 :=
 detP Ztg Z8 nHn Zz3 (F:=fun x post=>Zb1  x.1 post) (fun x post=>Zz4 x.1 post) fun x _ _=>Z17v  x.1
def Zlp:Con:=.det [.int .i64,.int .i64] [.snap (.flt .f64)] (fun x=>II x.1 x.2.1) (fun x=>Zid x.1 x.2.1)
def Zlq:Cx:=⟨Zd Zf,Ze [(89,Zj7)],RbG⟩
theorem Zwc:CxOk Tryz.prog Zlq:=⟨Z3 Z6,Z5 ⟨Z12m,trivial⟩⟩
theorem Z12n:FnAt Tryz.prog 37 Tryz.f37.ntmps Tryz.f37.results.toList (Tryz.f37.body.getD .skip):=⟨Tryz.f37,Tryz.func37,rfl,rfl,by simp,by decide⟩
theorem Z12o (a:Int) (b:Int) (post:Nat × Unit→Prop):Z9 Zlq nHn Tryz.f37.ntmps Tryz.f37.results.toList (Tryz.f37.body.getD .skip) [.int .i64,.int .i64] [.snap (.flt .f64)] (a,b,()) post=Zcx  a b post:=by kernel_rfl
theorem Z17w:Zlp.holds Tryz.prog RbG 37 :=
 detP Zwc Z8 nHn Z12n (F:=fun x post=>Zcx  x.1 x.2.1 post) (fun x post=>Z12o x.1 x.2.1 post) fun x h _=>Z1bv  x.1 x.2.1 h
def Zey:Con:=.det [.flt .f64] [.snap (.flt .f64)] (fun x=>WNum x.1) (fun x=>Zem x.1)
theorem Zwd:Zey.holds Tryz.prog RbG 183:=by
 refine Z1q0 (fn:=Tryz.f183) Tryz.func183 (by decide) rfl rfl (by kernel_rfl)
def Zp4:Con:=.det [.flt .f64] [.snap (.flt .f64)] (fun x=>WNum x.1) (fun x=>Zem x.1)
def Zp5:Cx:=⟨Zd Zf,Ze [(183,Zey)],RbG⟩
theorem Zz5:CxOk Tryz.prog Zp5:=⟨Z3 Z6,Z5 ⟨Zwd,trivial⟩⟩
theorem Z17x:FnAt Tryz.prog 172 Tryz.f172.ntmps Tryz.f172.results.toList (Tryz.f172.body.getD .skip):=⟨Tryz.f172,Tryz.func172,rfl,rfl,by simp,by decide⟩
theorem Z17y (a:Nat) (post:Nat × Unit→Prop):Z9 Zp5 nHn Tryz.f172.ntmps Tryz.f172.results.toList (Tryz.f172.body.getD .skip) [.flt .f64] [.snap (.flt .f64)] (a,()) post=Zfy  a post:=by kernel_rfl
theorem Z1bw:Zp4.holds Tryz.prog RbG 172 :=
 detP Zz5 Z8 nHn Z17x (F:=fun x post=>Zfy  x.1 post) (fun x post=>Z17y x.1 post) fun x h _=>Z1fn  x.1 h
def Zsu:Con:=.det [.flt .f64] [.snap (.int .u64)] (fun x=>Zy2 x.1) (fun x=>Z1gj x.1)
def Zsv:Cx:=⟨Zd Zf,Ze [(172,Zp4)],RbG⟩
theorem Z12p:CxOk Tryz.prog Zsv:=⟨Z3 Z6,Z5 ⟨Z1bw,trivial⟩⟩
theorem Z1bx:FnAt Tryz.prog 152 Tryz.f152.ntmps Tryz.f152.results.toList (Tryz.f152.body.getD .skip):=⟨Tryz.f152,Tryz.func152,rfl,rfl,by simp,by decide⟩
theorem Z1by (a:Nat) (post:Int × Unit→Prop):Z9 Zsv nHn Tryz.f152.ntmps Tryz.f152.results.toList (Tryz.f152.body.getD .skip) [.flt .f64] [.snap (.int .u64)] (a,()) post=Zj6  a post:=by kernel_rfl
theorem Z1fp:Zsu.holds Tryz.prog RbG 152 :=
 detP Z12p Z8 nHn Z1bx (F:=fun x post=>Zj6  x.1 post) (fun x post=>Z1by x.1 post) fun x h _=>Z1j5  x.1 h
def Zp6:Con:=.det [.flt .f64] [.snap (.int .i64),.snap .bool] (fun x=>W64 x.1) (fun x=>Z2y x.1)
def Zp7:Cx:=⟨Zd Zf,Ze [(151,Ziv),(152,Zsu)],RbG⟩
theorem Zz6:CxOk Tryz.prog Zp7:=⟨Z3 Z6,Z5 ⟨Zvt,Z1fp,trivial⟩⟩
theorem Z17z:FnAt Tryz.prog 126 Tryz.f126.ntmps Tryz.f126.results.toList (Tryz.f126.body.getD .skip):=⟨Tryz.f126,Tryz.func126,rfl,rfl,by simp,by decide⟩
theorem Z180 (a:Nat) (post:Int × Bool × Unit→Prop):Z9 Zp7 nHn Tryz.f126.ntmps Tryz.f126.results.toList (Tryz.f126.body.getD .skip) [.flt .f64] [.snap (.int .i64),.snap .bool] (a,()) post=Zfz  a post:=by kernel_rfl
theorem Z1bz:Zp6.holds Tryz.prog RbG 126 :=
 detP Zz6 Z8 nHn Z17z (F:=fun x post=>Zfz  x.1 post) (fun x post=>Z180 x.1 post) fun x h _=>Z1fo  x.1 h
end Go.Lift

namespace Go.Lift
open Go.Proofs
def Zcy:Con:=.det [.int .i64,.int .i64] [.snap (.flt .f64)] (fun x=>Z76 x.1 x.2.1) (fun x=>Z1s x.1 x.2.1)
def Zp8:Cx:=⟨Zd Zf,Ze [],RbG⟩
theorem Zz7:CxOk Tryz.prog Zp8:=⟨Z3 Z6,fun f c h=>by cases h⟩
theorem Z181:FnAt Tryz.prog 129 Tryz.f129.ntmps Tryz.f129.results.toList (Tryz.f129.body.getD .skip):=⟨Tryz.f129,Tryz.func129,rfl,rfl,by simp,by decide⟩
theorem Z182 (a:Int) (b:Int) (post:Nat × Unit→Prop):Z9 Zp8 nHn Tryz.f129.ntmps Tryz.f129.results.toList (Tryz.f129.body.getD .skip) [.int .i64,.int .i64] [.snap (.flt .f64)] (a,b,()) post=Zfg  a b post:=by kernel_rfl
theorem Zp9:Zcy.holds Tryz.prog RbG 129 :=
 detP Zz7 Z8 nHn Z181 (F:=fun x post=>Zfg  x.1 x.2.1 post) (fun x post=>Z182 x.1 x.2.1 post) fun x h _=>Z1eu  x.1 x.2.1 h
def Zcz:Con:=.det [.int .i64,.flt .f64,.flt .f64] [.snap kVec] (fun x=>Zie x.1 x.2.1 x.2.2.1) (fun x=>Z4y x.1 x.2.1 x.2.2.1)
def Zlr:Hn:={ loops:=fun _=>none,joins:=Z22 [(13,{ ls:=[],os:=[(1,169,.flt .f64)] })],unroll:=fun _=>some 4 }
def Zpa:Cx:=⟨Zd Zf,Ze [(88,Z51),(153,Zwa)],RbG⟩
theorem Zz8:CxOk Tryz.prog Zpa:=⟨Z3 Z6,Z5 ⟨Z89,Z1j4,trivial⟩⟩
theorem Z183:FnAt Tryz.prog 128 Tryz.f128.ntmps Tryz.f128.results.toList (Tryz.f128.body.getD .skip):=⟨Tryz.f128,Tryz.func128,rfl,rfl,by simp,by decide⟩
theorem Z184 (f:Int) (s:Nat) (t:Nat) (post:(Nat × Nat × Nat) × Unit→Prop):Z9 Zpa Zlr Tryz.f128.ntmps Tryz.f128.results.toList (Tryz.f128.body.getD .skip) [.int .i64,.flt .f64,.flt .f64] [.snap kVec] (f,s,t,()) post=Zfh 130 169 f s t post:=by kernel_rfl
theorem Zpb:Zcz.holds Tryz.prog RbG 128 :=
 detP Zz8 Z8 Zlr Z183 (F:=fun x post=>Zfh 130 169 x.1 x.2.1 x.2.2.1 post) (fun x post=>Z184 x.1 x.2.1 x.2.2.1 post) fun x h _=>Z1ev 130 169 x.1 x.2.1 x.2.2.1 h
def Zls:Con:=.det [.int .i64,.int .i64,.int .i64,.int .i64] [.snap kVec,.snap .bool] (fun x=>IIII x.1 x.2.1 x.2.2.1 x.2.2.2.1) (fun x=>Zj x.1 x.2.1 x.2.2.1 x.2.2.2.1)
def Zlt:Cx:=⟨Zd Zf,Ze [(58,Z86),(129,Zcy),(128,Zcz)],RbG⟩
theorem Zwe:CxOk Tryz.prog Zlt:=⟨Z3 Z6,Z5 ⟨Zcd,Zp9,Zpb,trivial⟩⟩
theorem Z12q:FnAt Tryz.prog 127 Tryz.f127.ntmps Tryz.f127.results.toList (Tryz.f127.body.getD .skip):=⟨Tryz.f127,Tryz.func127,rfl,rfl,by simp,by decide⟩
theorem Z12r (n:Int) (f:Int) (i:Int) (j:Int) (post:(Nat × Nat × Nat) × Bool × Unit→Prop):Z9 Zlt nHn Tryz.f127.ntmps Tryz.f127.results.toList (Tryz.f127.body.getD .skip) [.int .i64,.int .i64,.int .i64,.int .i64] [.snap kVec,.snap .bool] (n,f,i,j,()) post=Zcj  n f i j post:=by kernel_rfl
theorem Z185:Zls.holds Tryz.prog RbG 127 :=
 detP Zwe Z8 nHn Z12q (F:=fun x post=>Zcj  x.1 x.2.1 x.2.2.1 x.2.2.2.1 post) (fun x post=>Z12r x.1 x.2.1 x.2.2.1 x.2.2.2.1 post) fun x h _=>Z1aw  x.1 x.2.1 x.2.2.1 x.2.2.2.1 h
def Z99:Con:=.det [.int .i64,.int .i64] [.snap (.arr 4 kVec),.snap .bool] (fun x=>II x.1 x.2.1) (fun x=>Zt x.1 x.2.1)
def Zgm:Hn:={ loops:=fun _=>none,joins:=fun _=>none,unroll:=fun _=>some 5 }
def Zj9:Cx:=⟨Zd Zf,Ze [(79,Z87),(127,Zls)],RbG⟩
theorem Zth:CxOk Tryz.prog Zj9:=⟨Z3 Z6,Z5 ⟨Zce,Z185,trivial⟩⟩
theorem Zz9:FnAt Tryz.prog 99 Tryz.f99.ntmps Tryz.f99.results.toList (Tryz.f99.body.getD .skip):=⟨Tryz.f99,Tryz.func99,rfl,rfl,by simp,by decide⟩
theorem Zza (n:Int) (c:Int) (post:(List (Nat × Nat × Nat)) × Bool × Unit→Prop):Z9 Zj9 Zgm Tryz.f99.ntmps Tryz.f99.results.toList (Tryz.f99.body.getD .skip) [.int .i64,.int .i64] [.snap (.arr 4 kVec),.snap .bool] (n,c,()) post=Zas  n c post:=by kernel_rfl
theorem Zja:Z99.holds Tryz.prog RbG 99 :=
 detP Zth Z8 Zgm Zz9 (F:=fun x post=>Zas  x.1 x.2.1 post) (fun x post=>Zza x.1 x.2.1 post) fun x h _=>Z16s  x.1 x.2.1 h
def Zsw:Con:=.det [.int .i64,.int .i64] [.snap (.int .i64)] (fun x=>II x.1 x.2.1) (fun x=>Zko x.1 x.2.1)
def Zsx:Cx:=⟨Zd Zf,Ze [(99,Z99),(125,Zfw),(124,Zsq),(123,Z8b),(126,Zp6)],RbG⟩
theorem Z12s:CxOk Tryz.prog Zsx:=⟨Z3 Z6,Z5 ⟨Zja,Zsp,Z1fi,Zcw,Z1bz,trivial⟩⟩
theorem Z1c0:FnAt Tryz.prog 98 Tryz.f98.ntmps Tryz.f98.results.toList (Tryz.f98.body.getD .skip):=⟨Tryz.f98,Tryz.func98,rfl,rfl,by simp,by decide⟩
theorem Z1c1 (n:Int) (c:Int) (post:Int × Unit→Prop):Z9 Zsx nHn Tryz.f98.ntmps Tryz.f98.results.toList (Tryz.f98.body.getD .skip) [.int .i64,.int .i64] [.snap (.int .i64)] (n,c,()) post=Zir  n c post:=by kernel_rfl
theorem Z1fq:Zsw.holds Tryz.prog RbG 98 :=
 detP Z12s Z8 nHn Z1c0 (F:=fun x post=>Zir  x.1 x.2.1 post) (fun x post=>Z1c1 x.1 x.2.1 post) fun x h _=>Z1ir  x.1 x.2.1 h
end Go.Lift

namespace Go.Lift
open Go.Proofs
def Zlu:Con:=Con.nam [.int .i64,.int .i64] [.snap kVec,.snap .bool] (fun x=>II x.1 x.2.1) (fun x=>Z81 x.1 x.2.1)
def Zlv:Cx:=⟨Zd Zf,Ze [(79,Z87),(129,Zcy),(128,Zcz)],RbG⟩
theorem Zwf:CxOk Tryz.prog Zlv:=⟨Z3 Z6,Z5 ⟨Zce,Zp9,Zpb,trivial⟩⟩
theorem Z12t:FnAt Tryz.prog 101 Tryz.f101.ntmps Tryz.f101.results.toList (Tryz.f101.body.getD .skip):=⟨Tryz.f101,Tryz.func101,rfl,rfl,by simp,by decide⟩
theorem Z12u (n:Int) (c:Int) (post:(Nat × Nat × Nat) × Bool × Unit→Prop):Z9 Zlv nHn Tryz.f101.ntmps Tryz.f101.results.toList (Tryz.f101.body.getD .skip) [.int .i64,.int .i64] [.snap kVec,.snap .bool] (n,c,()) post=Zch  n c post:=by kernel_rfl
theorem Z186:Zlu.holds Tryz.prog RbG 101 :=
 Zo (detP Zwf Z8 nHn Z12t (F:=fun x post=>Zch  x.1 x.2.1 post) (fun x post=>Z12u x.1 x.2.1 post) fun x h _=>Z1au  x.1 x.2.1 h)
def Zlw:Con:=Con.nam [.int .i64,.int .i64,.int .i64] [.snap (.flt .f64)] (fun x=>III x.1 x.2.1 x.2.2.1) (fun x=>Zih x.1 x.2.1 x.2.2.1)
def Zjb:Hn:=nHn
def Zlx:Cx:=⟨Zd Zf,Ze [(99,Z99),(100,Zne)],RbG⟩
theorem Zwg:CxOk Tryz.prog Zlx:=⟨Z3 Z6,Z5 ⟨Zja,Z10y,trivial⟩⟩
theorem Z12v:FnAt Tryz.prog 61 Tryz.f61.ntmps Tryz.f61.results.toList (Tryz.f61.body.getD .skip):=⟨Tryz.f61,Tryz.func61,rfl,rfl,by simp,by decide⟩
theorem Z12w (n:Int) (c:Int) (o:Int) (post:Nat × Unit→Prop):Z9 Zlx Zjb Tryz.f61.ntmps Tryz.f61.results.toList (Tryz.f61.body.getD .skip) [.int .i64,.int .i64,.int .i64] [.snap (.flt .f64)] (n,c,o,()) post=Zci  n c o post:=by kernel_rfl
theorem Z187:Zlw.holds Tryz.prog RbG 61 :=
 Zo (detP Zwg Z8 Zjb Z12v (F:=fun x post=>Zci  x.1 x.2.1 x.2.2.1 post) (fun x post=>Z12w x.1 x.2.1 x.2.2.1 post) fun x h _=>Z1av  x.1 x.2.1 x.2.2.1 h)
def Zwh:Con:=Con.nam [.int .i64,.int .i64,.int .i64] [.snap (.flt .f64)] (fun x=>III x.1 x.2.1 x.2.2.1) (fun x=>Z1my x.1 x.2.1 x.2.2.1)
def Zsy:Hn:=nHn
def Zwi:Cx:=⟨Zd Zf,Ze [(35,Zar),(101,Zlu),(100,Zne)],RbG⟩
theorem Z188:CxOk Tryz.prog Zwi:=⟨Z3 Z6,Z5 ⟨Zl4,Z186,Z10y,trivial⟩⟩
theorem Z1fr:FnAt Tryz.prog 62 Tryz.f62.ntmps Tryz.f62.results.toList (Tryz.f62.body.getD .skip):=⟨Tryz.f62,Tryz.func62,rfl,rfl,by simp,by decide⟩
theorem Z1fs (n:Int) (c:Int) (o:Int) (post:Nat × Unit→Prop):Z9 Zwi Zsy Tryz.f62.ntmps Tryz.f62.results.toList (Tryz.f62.body.getD .skip) [.int .i64,.int .i64,.int .i64] [.snap (.flt .f64)] (n,c,o,()) post=Zn8  n c o post:=by kernel_rfl
theorem Z1j6:Zwh.holds Tryz.prog RbG 62 :=
 Zo (detP Z188 Z8 Zsy Z1fr (F:=fun x post=>Zn8  x.1 x.2.1 x.2.2.1 post) (fun x post=>Z1fs x.1 x.2.1 x.2.2.1 post) fun x h _=>Z1kc  x.1 x.2.1 x.2.2.1 h)
end Go.Lift

namespace Go.Lift
open Go.Proofs
def Zjc:Con:=.det [.int .i64] [.snap (.ptr Z14),.snap (.int .i64)] (fun x=>I64 x.1) (fun x=>newR x.1)
def Zsz:Hn:={ loops:=Z22 [(9,{ ls:=[(.slot 36,.data (.int .i64)),(.cell 1 1,.row 91 Z28),(.cell 1 4,.row 2 (.int .i64))],os:=[(0,83,.ent (.pair (.int .i64) (.int .i64)) (.int .i64))] }),(15,{ ls:=[(.slot 49,.data (.int .i64)),(.cell 1 3,.row 92 (.arr 2 (.int .i64))),(.cell 1 5,.row 59 (.flt .f64)),(.cell 1 6,.row 59 (.flt .f64))],os:=[] })],joins:=fun _=>none,inl:=inlL [59,60],unroll:=fun k=>if k=6 then some 3 else none }
def Zjd:Cx:=⟨Zd Zf,Ze [(58,Z86),(35,Zar),(98,Zsw),(61,Zlw),(62,Zwh)],RbG⟩
theorem Zly:CxOk Tryz.prog Zjd:=⟨Z3 Z6,Z5 ⟨Zcd,Zl4,Z1fq,Z187,Z1j6,trivial⟩⟩
theorem Z1ft:FnAt Tryz.prog 24 Tryz.f24.ntmps Tryz.f24.results.toList (Tryz.f24.body.getD .skip):=⟨Tryz.f24,Tryz.func24,rfl,rfl,by simp,by decide⟩
theorem Z1fu (n:Int) (post:(Option (Int × (List (Int × Int × Int × Int)) × (List ((Int × Int) × Int)) × (List (List Int)) × (List Int) × (List Nat) × List Nat)) × Int × Unit→Prop):Z6b Zjd Zsz (Zc5 Zjd Zr8 6) Tryz.f24.ntmps Tryz.f24.results.toList (Tryz.f24.body.getD .skip) [.int .i64] [.snap (.ptr Z14),.snap (.int .i64)] (n,()) post=Zn7 87 88 2 91 59 60 n post:=by kernel_rfl
theorem Zwj:Zjc.holds Tryz.prog RbG 24 :=
 Z15n Zly Z8 Zsz (Za8 Zly Z8 Z1ep 6) Z1ft (F:=fun x post=>Zn7 87 88 2 91 59 60 x.1 post) (fun x post=>Z1fu x.1 post) fun x h _=>Z1kb 87 88 2 91 59 60 x.1 h
end Go.Lift

namespace Go.Lift
def Zd0:=fun (s:List Nat × List Int × List Int × List Nat × Int × Int) (post:List Int × List Int × Int × Unit→Prop)=>post ([],[],(2:Int),())
theorem Z1c2 (s:(List Nat) × (List Int) × (List Int) × (List Nat) × Int × Int) (h:WRun none s) (w:KS.wf [.ptr Z14,kSea] (none,s,())):Zd0  s (fun r=>r=Z4h none s):=by
 exact rfl
def Zd1:=fun (ty39 ty2 ty3:Nat) (g:Int × List (Int × Int × Int × Int) × List ((Int × Int) × Int) × List (List Int) × List Int × List Nat × List Nat) (s:List Nat ×
 List Int × List Int × List Nat × Int × Int) (post:List Int × List Int × Int × Unit→Prop)=>∃ (h:True),∀ (a:Bool),a=((↑s.fst.length:Int) != (Zi (some
 g)).fst)→Br a (post ([],[],(1:Int),())) (∀ (a:Bool),a=((↑s.snd.fst.length:Int) != (Zi (some g)).fst)→Br a (post ([],[],(1:Int),())) (∀ (a:Bool),
 a=((↑s.snd.snd.fst.length:Int) != (Zi (some g)).fst)→Br a (post ([],[],(1:Int),())) (∃ (h:True),∀ (a:Bool),a=((↑s.snd.snd.snd.fst.length:Int) !=
 (Zc9 (some g)).fst)→Br a (post ([],[],(1:Int),())) (∃ (h:True),∀ (a:Bool × Unit),a=Zkv s.snd.fst→∀ (a_1:Bool),a_1=a.fst→Br (!a_1) (post ([],
 [],(1:Int),())) (∃ (h:True),∀ (a:Bool × Unit),a=Zkv s.snd.snd.fst→∀ (a_2:Bool),a_2=a.fst→Br (!a_2) (post ([],[],(1:Int),())) (∃ (h:Zkw s.snd.fst),
 ∀ (a:List Int × Unit),a=Z8q s.snd.fst→∃ (h:Zkw s.snd.snd.fst),∀ (a_3:List Int × Unit),a_3=Z8q s.snd.snd.fst→∃ (h:WOrd s.fst),∀ (a_4:List Int × Unit),
 a_4=Zal s.fst→HIs [HObj.box Md.rw ty39 [SV.data (K.flt f64).slice s.fst,SV.data (K.int i64).slice s.snd.fst,SV.data (K.int i64).slice
 s.snd.snd.fst,SV.data (K.flt f64).slice s.snd.snd.snd.fst,SV.val (Go.Value.int i64 s.snd.snd.snd.snd.fst),SV.val (Go.Value.int i64
 s.snd.snd.snd.snd.snd)],HObj.row Md.rw ty2 (K.int i64) a.fst,HObj.row Md.rw ty2 (K.int i64) a_3.fst,HObj.row Md.rw ty3 (K.int i64) a_4.fst] [HObj.box
 Md.rw ty39 [SV.data (K.flt f64).slice s.fst,SV.data (K.int i64).slice s.snd.fst,SV.data (K.int i64).slice s.snd.snd.fst,SV.data (K.flt
 f64).slice s.snd.snd.snd.fst,SV.val (Go.Value.int i64 s.snd.snd.snd.snd.fst),SV.val (Go.Value.int i64 s.snd.snd.snd.snd.snd)],HObj.row Md.rw ty2
 (K.int i64) a.fst,HObj.row Md.rw ty2 (K.int i64) a_3.fst,HObj.row Md.rw ty3 (K.int i64) a_4.fst]∧∃ (I:Int × Unit→List Int × List Int × Unit →
 Prop),∃ (μ:Int × Unit→List Int × List Int × Unit→Nat),I ((0:Int),()) (a.fst,a_3.fst,())∧∀ (x:Int × Unit) (y:List Int × List Int × Unit),I x y→∀ (a_5:Bool),
 a_5=decide (x.fst<(↑a_4.fst.length:Int))→Br a_5 (∃ (h:(0:Int)≤x.fst∧x.fst<(↑a_4.fst.length:Int)),∃ (h:Zhu (some g) s.fst (a_4.fst.getD ((0:Nat)
 + x.fst.toNat) (0:Int))),∀ (a_6:Int × Unit),a_6=Z47 (some g) s.fst (a_4.fst.getD ((0:Nat)+x.fst.toNat) (0:Int))→∀ (a_7:Bool),a_7=decide (a_6.fst <
 (0:Int))→Br a_7 (HIs [HObj.box Md.rw ty39 [SV.data (K.flt f64).slice s.fst,SV.data (K.int i64).slice s.snd.fst,SV.data (K.int i64).slice
 s.snd.snd.fst,SV.data (K.flt f64).slice s.snd.snd.snd.fst,SV.val (Go.Value.int i64 s.snd.snd.snd.snd.fst),SV.val (Go.Value.int i64
 s.snd.snd.snd.snd.snd)],HObj.row Md.rw ty2 (K.int i64) y.fst,HObj.row Md.rw ty2 (K.int i64) y.snd.fst,HObj.row Md.rw ty3 (K.int i64) a_4.fst] [HObj.box
 Md.rw ty39 [SV.data (K.flt f64).slice s.fst,SV.data (K.int i64).slice s.snd.fst,SV.data (K.int i64).slice s.snd.snd.fst,SV.data (K.flt
 f64).slice s.snd.snd.snd.fst,SV.val (Go.Value.int i64 s.snd.snd.snd.snd.fst),SV.val (Go.Value.int i64 s.snd.snd.snd.snd.snd)],HObj.row Md.rw ty2
 (K.int i64) y.fst,HObj.row Md.rw ty2 (K.int i64) y.snd.fst,HObj.row Md.rw ty3 (K.int i64) a_4.fst]∧I (i64.wrap (x.fst+(1:Int)),()) (y.fst,
 y.snd.fst,())∧μ (i64.wrap (x.fst+(1:Int)),()) (y.fst,y.snd.fst,())<μ x y) (∃ (h:(0:Int)≤a_4.fst.getD ((0:Nat)+x.fst.toNat) (0:Int)∧a_4.fst.getD
 ((0:Nat)+x.fst.toNat) (0:Int)<(↑a.fst.length:Int)),∀ (a_8:Bool),a_8=decide (y.fst.getD ((0:Nat)+Int.toNat (a_4.fst.getD ((0:Nat)+x.fst.toNat) (0:Int)))
 (0:Int)≤(0:Int))→Br a_8 (HIs [HObj.box Md.rw ty39 [SV.data (K.flt f64).slice s.fst,SV.data (K.int i64).slice s.snd.fst,SV.data (K.int
 i64).slice s.snd.snd.fst,SV.data (K.flt f64).slice s.snd.snd.snd.fst,SV.val (Go.Value.int i64 s.snd.snd.snd.snd.fst),SV.val (Go.Value.int
 i64 s.snd.snd.snd.snd.snd)],HObj.row Md.rw ty2 (K.int i64) y.fst,HObj.row Md.rw ty2 (K.int i64) y.snd.fst,HObj.row Md.rw ty3 (K.int i64)
 a_4.fst] [HObj.box Md.rw ty39 [SV.data (K.flt f64).slice s.fst,SV.data (K.int i64).slice s.snd.fst,SV.data (K.int i64).slice s.snd.snd.fst,SV.data
 (K.flt f64).slice s.snd.snd.snd.fst,SV.val (Go.Value.int i64 s.snd.snd.snd.snd.fst),SV.val (Go.Value.int i64 s.snd.snd.snd.snd.snd)],HObj.row Md.rw
 ty2 (K.int i64) y.fst,HObj.row Md.rw ty2 (K.int i64) y.snd.fst,HObj.row Md.rw ty3 (K.int i64) a_4.fst]∧I (i64.wrap (x.fst+(1:Int)),())
 (y.fst,y.snd.fst,())∧μ (i64.wrap (x.fst+(1:Int)),()) (y.fst,y.snd.fst,())<μ x y) (∃ (h:(0:Int)≤a_4.fst.getD ((0:Nat)+x.fst.toNat) (0:Int) ∧
 a_4.fst.getD ((0:Nat)+x.fst.toNat) (0:Int)<(↑a.fst.length:Int)),∃ (h:True),∃ (h:II (y.fst.getD ((0:Nat)+Int.toNat (a_4.fst.getD ((0:Nat)+x.fst.toNat) (0 :
 Int))) (0:Int)) (Z2z (some g) (a_4.fst.getD ((0:Nat)+x.fst.toNat) (0:Int))).fst),∀ (a_9:Bool),a_9=fcmp Go.BinOp.lss (f64.format.order (Zid
 (y.fst.getD ((0:Nat)+Int.toNat (a_4.fst.getD ((0:Nat)+x.fst.toNat) (0:Int))) (0:Int)) (Z2z (some g) (a_4.fst.getD ((0:Nat)+x.fst.toNat) (0 :
 Int))).fst).fst (4602678819172646912:Nat))→Br (!a_9) (HIs [HObj.box Md.rw ty39 [SV.data (K.flt f64).slice s.fst,SV.data (K.int i64).slice s.snd.fst,
 SV.data (K.int i64).slice s.snd.snd.fst,SV.data (K.flt f64).slice s.snd.snd.snd.fst,SV.val (Go.Value.int i64 s.snd.snd.snd.snd.fst),SV.val
 (Go.Value.int i64 s.snd.snd.snd.snd.snd)],HObj.row Md.rw ty2 (K.int i64) y.fst,HObj.row Md.rw ty2 (K.int i64) y.snd.fst,HObj.row Md.rw ty3 (K.int
 i64) a_4.fst] [HObj.box Md.rw ty39 [SV.data (K.flt f64).slice s.fst,SV.data (K.int i64).slice s.snd.fst,SV.data (K.int i64).slice
 s.snd.snd.fst,SV.data (K.flt f64).slice s.snd.snd.snd.fst,SV.val (Go.Value.int i64 s.snd.snd.snd.snd.fst),SV.val (Go.Value.int i64
 s.snd.snd.snd.snd.snd)],HObj.row Md.rw ty2 (K.int i64) y.fst,HObj.row Md.rw ty2 (K.int i64) y.snd.fst,HObj.row Md.rw ty3 (K.int i64) a_4.fst]∧I
 (i64.wrap (x.fst+(1:Int)),()) (y.fst,y.snd.fst,())∧μ (i64.wrap (x.fst+(1:Int)),()) (y.fst,y.snd.fst,())<μ x y) (∃ (h:(0:Int)≤a_4.fst.getD
 ((0:Nat)+x.fst.toNat) (0:Int)∧a_4.fst.getD ((0:Nat)+x.fst.toNat) (0:Int)<(↑a.fst.length:Int)),∃ (h:(4:Int)≠(0:Int)),∃ (h:(0:Int)≤a_4.fst.getD ((0
 : Nat)+x.fst.toNat) (0:Int)∧a_4.fst.getD ((0:Nat)+x.fst.toNat) (0:Int)<(↑a_3.fst.length:Int)),∃ (h:(0:Int)≤a_4.fst.getD ((0:Nat)+x.fst.toNat) (0:Int)
 ∧ a_4.fst.getD ((0:Nat)+x.fst.toNat) (0:Int)<(↑a.fst.length:Int)),∃ (h:III (y.snd.fst.getD ((0:Nat)+Int.toNat (a_4.fst.getD ((0:Nat)+x.fst.toNat) (0:Int)))
 (0:Int)) (i64.wrap (Int.tdiv (y.fst.getD ((0:Nat)+Int.toNat (a_4.fst.getD ((0:Nat)+x.fst.toNat) (0:Int))) (0:Int)) (4:Int))) (y.fst.getD ((0:Nat) +
 Int.toNat (a_4.fst.getD ((0:Nat)+x.fst.toNat) (0:Int))) (0:Int))),∃ (h:(0:Int)≤a_4.fst.getD ((0:Nat)+x.fst.toNat) (0:Int)∧a_4.fst.getD ((0:Nat) +
 x.fst.toNat) (0:Int)<(↑a.fst.length:Int)),∃ (h:(0:Int)≤a_4.fst.getD ((0:Nat)+x.fst.toNat) (0:Int)∧a_4.fst.getD ((0:Nat)+x.fst.toNat) (0:Int) <
 (↑a.fst.length:Int)),∃ (h:(0:Int)≤a_6.fst∧a_6.fst<(↑a.fst.length:Int)),∃ (h:(0:Int)≤a_6.fst∧a_6.fst<(↑a.fst.length:Int)),∃ (h:(0:Int) ≤
 a_4.fst.getD ((0:Nat)+x.fst.toNat) (0:Int)∧a_4.fst.getD ((0:Nat)+x.fst.toNat) (0:Int)<(↑a_3.fst.length:Int)),∃ (h:(0:Int)≤a_4.fst.getD ((0:Nat) +
 x.fst.toNat) (0:Int)∧a_4.fst.getD ((0:Nat)+x.fst.toNat) (0:Int)<(↑a_3.fst.length:Int)),∃ (h:(0:Int)≤a_6.fst∧a_6.fst<(↑a_3.fst.length:Int)),∃ (h:(0 :
 Int)≤a_6.fst∧a_6.fst<(↑a_3.fst.length:Int)),HIs [HObj.box Md.rw ty39 [SV.data (K.flt f64).slice s.fst,SV.data (K.int i64).slice s.snd.fst,SV.data
 (K.int i64).slice s.snd.snd.fst,SV.data (K.flt f64).slice s.snd.snd.snd.fst,SV.val (Go.Value.int i64 s.snd.snd.snd.snd.fst),SV.val (Go.Value.int
 i64 s.snd.snd.snd.snd.snd)],HObj.row Md.rw ty2 (K.int i64) ((y.fst.set ((0:Nat)+Int.toNat (a_4.fst.getD ((0:Nat)+x.fst.toNat) (0:Int)))
 (i64.wrap (y.fst.getD ((0:Nat)+Int.toNat (a_4.fst.getD ((0:Nat)+x.fst.toNat) (0:Int))) (0:Int) - i64.wrap (Int.tdiv (y.fst.getD ((0:Nat)+Int.toNat
 (a_4.fst.getD ((0:Nat)+x.fst.toNat) (0:Int))) (0:Int)) (4:Int))))).set ((0:Nat)+a_6.fst.toNat) (i64.wrap ((y.fst.set ((0:Nat)+Int.toNat (a_4.fst.getD ((0
 : Nat)+x.fst.toNat) (0:Int))) (i64.wrap (y.fst.getD ((0:Nat)+Int.toNat (a_4.fst.getD ((0:Nat)+x.fst.toNat) (0:Int))) (0:Int) - i64.wrap (Int.tdiv
 (y.fst.getD ((0:Nat)+Int.toNat (a_4.fst.getD ((0:Nat)+x.fst.toNat) (0:Int))) (0:Int)) (4:Int))))).getD ((0:Nat)+a_6.fst.toNat) (0:Int)+i64.wrap
 (Int.tdiv (y.fst.getD ((0:Nat)+Int.toNat (a_4.fst.getD ((0:Nat)+x.fst.toNat) (0:Int))) (0:Int)) (4:Int))))),HObj.row Md.rw ty2 (K.int i64) ((y.snd.fst.set
 ((0:Nat)+Int.toNat (a_4.fst.getD ((0:Nat)+x.fst.toNat) (0:Int))) (i64.wrap (y.snd.fst.getD ((0:Nat)+Int.toNat (a_4.fst.getD ((0:Nat)+x.fst.toNat) (0 :
 Int))) (0:Int) - (prtR (y.snd.fst.getD ((0:Nat)+Int.toNat (a_4.fst.getD ((0:Nat)+x.fst.toNat) (0:Int))) (0:Int)) (i64.wrap (Int.tdiv (y.fst.getD ((0:Nat) +
 Int.toNat (a_4.fst.getD ((0:Nat)+x.fst.toNat) (0:Int))) (0:Int)) (4:Int))) (y.fst.getD ((0:Nat)+Int.toNat (a_4.fst.getD ((0:Nat)+x.fst.toNat) (0:Int))) (0 :
 Int))).fst))).set ((0:Nat)+a_6.fst.toNat) (i64.wrap ((y.snd.fst.set ((0:Nat)+Int.toNat (a_4.fst.getD ((0:Nat)+x.fst.toNat) (0:Int))) (i64.wrap
 (y.snd.fst.getD ((0:Nat)+Int.toNat (a_4.fst.getD ((0:Nat)+x.fst.toNat) (0:Int))) (0:Int) - (prtR (y.snd.fst.getD ((0:Nat)+Int.toNat (a_4.fst.getD ((0:Nat) +
 x.fst.toNat) (0:Int))) (0:Int)) (i64.wrap (Int.tdiv (y.fst.getD ((0:Nat)+Int.toNat (a_4.fst.getD ((0:Nat)+x.fst.toNat) (0:Int))) (0:Int)) (4:Int)))
 (y.fst.getD ((0:Nat)+Int.toNat (a_4.fst.getD ((0:Nat)+x.fst.toNat) (0:Int))) (0:Int))).fst))).getD ((0:Nat)+a_6.fst.toNat) (0:Int)+(prtR (y.snd.fst.getD ((0 :
 Nat)+Int.toNat (a_4.fst.getD ((0:Nat)+x.fst.toNat) (0:Int))) (0:Int)) (i64.wrap (Int.tdiv (y.fst.getD ((0:Nat)+Int.toNat (a_4.fst.getD ((0:Nat) +
 x.fst.toNat) (0:Int))) (0:Int)) (4:Int))) (y.fst.getD ((0:Nat)+Int.toNat (a_4.fst.getD ((0:Nat)+x.fst.toNat) (0:Int))) (0:Int))).fst))),HObj.row Md.rw ty3
 (K.int i64) a_4.fst] [HObj.box Md.rw ty39 [SV.data (K.flt f64).slice s.fst,SV.data (K.int i64).slice s.snd.fst,SV.data (K.int i64).slice
 s.snd.snd.fst,SV.data (K.flt f64).slice s.snd.snd.snd.fst,SV.val (Go.Value.int i64 s.snd.snd.snd.snd.fst),SV.val (Go.Value.int i64
 s.snd.snd.snd.snd.snd)],HObj.row Md.rw ty2 (K.int i64) ((y.fst.set ((0:Nat)+Int.toNat (a_4.fst.getD ((0:Nat)+x.fst.toNat) (0:Int))) (i64.wrap
 (y.fst.getD ((0:Nat)+Int.toNat (a_4.fst.getD ((0:Nat)+x.fst.toNat) (0:Int))) (0:Int) - i64.wrap (Int.tdiv (y.fst.getD ((0:Nat)+Int.toNat (a_4.fst.getD ((0
 : Nat)+x.fst.toNat) (0:Int))) (0:Int)) (4:Int))))).set ((0:Nat)+a_6.fst.toNat) (i64.wrap ((y.fst.set ((0:Nat)+Int.toNat (a_4.fst.getD ((0:Nat) +
 x.fst.toNat) (0:Int))) (i64.wrap (y.fst.getD ((0:Nat)+Int.toNat (a_4.fst.getD ((0:Nat)+x.fst.toNat) (0:Int))) (0:Int) - i64.wrap (Int.tdiv
 (y.fst.getD ((0:Nat)+Int.toNat (a_4.fst.getD ((0:Nat)+x.fst.toNat) (0:Int))) (0:Int)) (4:Int))))).getD ((0:Nat)+a_6.fst.toNat) (0:Int)+i64.wrap
 (Int.tdiv (y.fst.getD ((0:Nat)+Int.toNat (a_4.fst.getD ((0:Nat)+x.fst.toNat) (0:Int))) (0:Int)) (4:Int))))),HObj.row Md.rw ty2 (K.int i64) ((y.snd.fst.set
 ((0:Nat)+Int.toNat (a_4.fst.getD ((0:Nat)+x.fst.toNat) (0:Int))) (i64.wrap (y.snd.fst.getD ((0:Nat)+Int.toNat (a_4.fst.getD ((0:Nat)+x.fst.toNat) (0 :
 Int))) (0:Int) - (prtR (y.snd.fst.getD ((0:Nat)+Int.toNat (a_4.fst.getD ((0:Nat)+x.fst.toNat) (0:Int))) (0:Int)) (i64.wrap (Int.tdiv (y.fst.getD ((0:Nat) +
 Int.toNat (a_4.fst.getD ((0:Nat)+x.fst.toNat) (0:Int))) (0:Int)) (4:Int))) (y.fst.getD ((0:Nat)+Int.toNat (a_4.fst.getD ((0:Nat)+x.fst.toNat) (0:Int))) (0 :
 Int))).fst))).set ((0:Nat)+a_6.fst.toNat) (i64.wrap ((y.snd.fst.set ((0:Nat)+Int.toNat (a_4.fst.getD ((0:Nat)+x.fst.toNat) (0:Int))) (i64.wrap
 (y.snd.fst.getD ((0:Nat)+Int.toNat (a_4.fst.getD ((0:Nat)+x.fst.toNat) (0:Int))) (0:Int) - (prtR (y.snd.fst.getD ((0:Nat)+Int.toNat (a_4.fst.getD ((0:Nat) +
 x.fst.toNat) (0:Int))) (0:Int)) (i64.wrap (Int.tdiv (y.fst.getD ((0:Nat)+Int.toNat (a_4.fst.getD ((0:Nat)+x.fst.toNat) (0:Int))) (0:Int)) (4:Int)))
 (y.fst.getD ((0:Nat)+Int.toNat (a_4.fst.getD ((0:Nat)+x.fst.toNat) (0:Int))) (0:Int))).fst))).getD ((0:Nat)+a_6.fst.toNat) (0:Int)+(prtR (y.snd.fst.getD ((0 :
 Nat)+Int.toNat (a_4.fst.getD ((0:Nat)+x.fst.toNat) (0:Int))) (0:Int)) (i64.wrap (Int.tdiv (y.fst.getD ((0:Nat)+Int.toNat (a_4.fst.getD ((0:Nat) +
 x.fst.toNat) (0:Int))) (0:Int)) (4:Int))) (y.fst.getD ((0:Nat)+Int.toNat (a_4.fst.getD ((0:Nat)+x.fst.toNat) (0:Int))) (0:Int))).fst))),HObj.row Md.rw ty3
 (K.int i64) a_4.fst]∧I (i64.wrap (x.fst+(1:Int)),()) ((y.fst.set ((0:Nat)+Int.toNat (a_4.fst.getD ((0:Nat)+x.fst.toNat) (0:Int)))
 (i64.wrap (y.fst.getD ((0:Nat)+Int.toNat (a_4.fst.getD ((0:Nat)+x.fst.toNat) (0:Int))) (0:Int) - i64.wrap (Int.tdiv (y.fst.getD ((0:Nat)+Int.toNat
 (a_4.fst.getD ((0:Nat)+x.fst.toNat) (0:Int))) (0:Int)) (4:Int))))).set ((0:Nat)+a_6.fst.toNat) (i64.wrap ((y.fst.set ((0:Nat)+Int.toNat (a_4.fst.getD ((0
 : Nat)+x.fst.toNat) (0:Int))) (i64.wrap (y.fst.getD ((0:Nat)+Int.toNat (a_4.fst.getD ((0:Nat)+x.fst.toNat) (0:Int))) (0:Int) - i64.wrap (Int.tdiv
 (y.fst.getD ((0:Nat)+Int.toNat (a_4.fst.getD ((0:Nat)+x.fst.toNat) (0:Int))) (0:Int)) (4:Int))))).getD ((0:Nat)+a_6.fst.toNat) (0:Int)+i64.wrap
 (Int.tdiv (y.fst.getD ((0:Nat)+Int.toNat (a_4.fst.getD ((0:Nat)+x.fst.toNat) (0:Int))) (0:Int)) (4:Int)))),(y.snd.fst.set ((0:Nat)+Int.toNat (a_4.fst.getD ((0 :
 Nat)+x.fst.toNat) (0:Int))) (i64.wrap (y.snd.fst.getD ((0:Nat)+Int.toNat (a_4.fst.getD ((0:Nat)+x.fst.toNat) (0:Int))) (0:Int) - (prtR (y.snd.fst.getD ((0
 : Nat)+Int.toNat (a_4.fst.getD ((0:Nat)+x.fst.toNat) (0:Int))) (0:Int)) (i64.wrap (Int.tdiv (y.fst.getD ((0:Nat)+Int.toNat (a_4.fst.getD ((0:Nat) +
 x.fst.toNat) (0:Int))) (0:Int)) (4:Int))) (y.fst.getD ((0:Nat)+Int.toNat (a_4.fst.getD ((0:Nat)+x.fst.toNat) (0:Int))) (0:Int))).fst))).set ((0:Nat) +
 a_6.fst.toNat) (i64.wrap ((y.snd.fst.set ((0:Nat)+Int.toNat (a_4.fst.getD ((0:Nat)+x.fst.toNat) (0:Int))) (i64.wrap (y.snd.fst.getD ((0:Nat) +
 Int.toNat (a_4.fst.getD ((0:Nat)+x.fst.toNat) (0:Int))) (0:Int) - (prtR (y.snd.fst.getD ((0:Nat)+Int.toNat (a_4.fst.getD ((0:Nat)+x.fst.toNat) (0:Int))) (0 :
 Int)) (i64.wrap (Int.tdiv (y.fst.getD ((0:Nat)+Int.toNat (a_4.fst.getD ((0:Nat)+x.fst.toNat) (0:Int))) (0:Int)) (4:Int))) (y.fst.getD ((0:Nat)+Int.toNat
 (a_4.fst.getD ((0:Nat)+x.fst.toNat) (0:Int))) (0:Int))).fst))).getD ((0:Nat)+a_6.fst.toNat) (0:Int)+(prtR (y.snd.fst.getD ((0:Nat)+Int.toNat (a_4.fst.getD ((0
 : Nat)+x.fst.toNat) (0:Int))) (0:Int)) (i64.wrap (Int.tdiv (y.fst.getD ((0:Nat)+Int.toNat (a_4.fst.getD ((0:Nat)+x.fst.toNat) (0:Int))) (0:Int)) (4 :
 Int))) (y.fst.getD ((0:Nat)+Int.toNat (a_4.fst.getD ((0:Nat)+x.fst.toNat) (0:Int))) (0:Int))).fst)),())∧μ (i64.wrap (x.fst+(1:Int)),()) ((y.fst.set ((0
 : Nat)+Int.toNat (a_4.fst.getD ((0:Nat)+x.fst.toNat) (0:Int))) (i64.wrap (y.fst.getD ((0:Nat)+Int.toNat (a_4.fst.getD ((0:Nat)+x.fst.toNat) (0:Int))) (0
 : Int) - i64.wrap (Int.tdiv (y.fst.getD ((0:Nat)+Int.toNat (a_4.fst.getD ((0:Nat)+x.fst.toNat) (0:Int))) (0:Int)) (4:Int))))).set ((0:Nat)+a_6.fst.toNat)
 (i64.wrap ((y.fst.set ((0:Nat)+Int.toNat (a_4.fst.getD ((0:Nat)+x.fst.toNat) (0:Int))) (i64.wrap (y.fst.getD ((0:Nat)+Int.toNat (a_4.fst.getD ((0 :
 Nat)+x.fst.toNat) (0:Int))) (0:Int) - i64.wrap (Int.tdiv (y.fst.getD ((0:Nat)+Int.toNat (a_4.fst.getD ((0:Nat)+x.fst.toNat) (0:Int))) (0:Int)) (4 :
 Int))))).getD ((0:Nat)+a_6.fst.toNat) (0:Int)+i64.wrap (Int.tdiv (y.fst.getD ((0:Nat)+Int.toNat (a_4.fst.getD ((0:Nat)+x.fst.toNat) (0:Int))) (0:Int))
 (4:Int)))),(y.snd.fst.set ((0:Nat)+Int.toNat (a_4.fst.getD ((0:Nat)+x.fst.toNat) (0:Int))) (i64.wrap (y.snd.fst.getD ((0:Nat)+Int.toNat (a_4.fst.getD ((0
 : Nat)+x.fst.toNat) (0:Int))) (0:Int) - (prtR (y.snd.fst.getD ((0:Nat)+Int.toNat (a_4.fst.getD ((0:Nat)+x.fst.toNat) (0:Int))) (0:Int)) (i64.wrap
 (Int.tdiv (y.fst.getD ((0:Nat)+Int.toNat (a_4.fst.getD ((0:Nat)+x.fst.toNat) (0:Int))) (0:Int)) (4:Int))) (y.fst.getD ((0:Nat)+Int.toNat (a_4.fst.getD ((0:Nat)
 + x.fst.toNat) (0:Int))) (0:Int))).fst))).set ((0:Nat)+a_6.fst.toNat) (i64.wrap ((y.snd.fst.set ((0:Nat)+Int.toNat (a_4.fst.getD ((0:Nat)+x.fst.toNat) (0 :
 Int))) (i64.wrap (y.snd.fst.getD ((0:Nat)+Int.toNat (a_4.fst.getD ((0:Nat)+x.fst.toNat) (0:Int))) (0:Int) - (prtR (y.snd.fst.getD ((0:Nat)+Int.toNat
 (a_4.fst.getD ((0:Nat)+x.fst.toNat) (0:Int))) (0:Int)) (i64.wrap (Int.tdiv (y.fst.getD ((0:Nat)+Int.toNat (a_4.fst.getD ((0:Nat)+x.fst.toNat) (0:Int)))
 (0:Int)) (4:Int))) (y.fst.getD ((0:Nat)+Int.toNat (a_4.fst.getD ((0:Nat)+x.fst.toNat) (0:Int))) (0:Int))).fst))).getD ((0:Nat)+a_6.fst.toNat) (0:Int)+(prtR
 (y.snd.fst.getD ((0:Nat)+Int.toNat (a_4.fst.getD ((0:Nat)+x.fst.toNat) (0:Int))) (0:Int)) (i64.wrap (Int.tdiv (y.fst.getD ((0:Nat)+Int.toNat (a_4.fst.getD
 ((0:Nat)+x.fst.toNat) (0:Int))) (0:Int)) (4:Int))) (y.fst.getD ((0:Nat)+Int.toNat (a_4.fst.getD ((0:Nat)+x.fst.toNat) (0:Int))) (0:Int))).fst)),())<μ x
 y)))) (((0:Nat)=(0:Nat)∧a.fst.length=y.fst.length)∧((0:Nat)=(0:Nat)∧a_3.fst.length=y.snd.fst.length)∧post (y.fst,y.snd.fst,(0:Int),()))))))))
theorem Z1c3 (ty0 ty1 ty2:Nat) (g:Int × (List (Int × Int × Int × Int)) × (List ((Int × Int) × Int)) × (List (List Int)) × (List Int) × (List Nat) × List Nat) (s:(List Nat) × (List Int) × (List Int) × (List Nat) × Int × Int) (h:WRun (some g) s) (w:KS.wf [.ptr Z14,kSea] ((some g),s,())):Zd1 ty0 ty1 ty2 g s (fun r=>r=Z4h (some g) s):=by
 obtain ⟨hg,hw,hi1,hi2⟩:=h
 obtain ⟨n,gn,rfl⟩:=Z1e3 hg
 obtain ⟨m,hm⟩:∃ m,(Zc9 (some (netG n))).1=m:=⟨_,rfl⟩
 have hC:(Zi (some (netG n))).1=Zb n:=Z5n n
 have hR:Z4h (some (netG n)) s=runF true (Zb n) m (Zx n) (Z1z true (Zb n) n s.1) s:=by rw [← hm]; unfold Z4h; rw [Z5n]; rfl
 have cr:=Z4f n
 have hD:∀ c,(Z47 (some (netG n)) s.1 c).fst=Z1z true (Zb n) n s.1 c:=fun c=>by unfold Z47; rw [Z5n]; rfl
 have bad:((Z42 (Zb n) m s&&Z1l 0 s.2.1)&&Z1l 0 s.2.2.1)=false→([],[],1,())=Z4h (some (netG n)) s:=fun h=>by rw [hR,Z1io h]
 have main:Z42 (Zb n) m s=true→Z1l 0 s.2.1=true→Z1l 0 s.2.2.1=true→∀ area down,area=Zx n→down=Z1z true (Zb n) n s.1→Z4h (some (netG n)) s=((runA area down (ordL s.1) (s.2.1,s.2.2.1)).1,(runA area down (ordL s.1) (s.2.1,s.2.2.1)).2,0,()):=by
  rintro h1 h2 h3 _ _ rfl rfl
  rw [hR,Zvg h1 h2 h3]
 refine ⟨trivial,?_⟩
 rw [hC,hm]
 have bad1:∀ {b:Bool},Z42 (Zb n) m s=b→b=false→([],[],1,())=Z4h (some (netG n)) s:=fun {b} h1 h2=>bad (by rw [h1,h2]; rfl)
 have nofit:¬ ((s.1.length:Int)=Zb n∧(s.2.1.length:Int)=Zb n∧(s.2.2.1.length:Int)=Zb n∧(s.2.2.2.1.length:Int)=m)→([],[],1,())=Z4h (some (netG n)) s:=fun h=>bad1 rfl (by rw [Bool.eq_false_iff]; exact fun q=>h (Zky.1 q))
 rintro _ rfl
 refine Br.intro (fun e=>nofit fun q=>absurd q.1 (bne_iff_ne.1 e)) fun f1=>?_
 have f1:(s.1.length:Int)=Zb n:=by simpa using f1
 rintro _ rfl
 refine Br.intro (fun e=>nofit fun q=>absurd q.2.1 (bne_iff_ne.1 e)) fun f2=>?_
 have f2:(s.2.1.length:Int)=Zb n:=by simpa using f2
 rintro _ rfl
 refine Br.intro (fun e=>nofit fun q=>absurd q.2.2.1 (bne_iff_ne.1 e)) fun f3=>?_
 have f3:(s.2.2.1.length:Int)=Zb n:=by simpa using f3
 refine ⟨trivial,?_⟩
 rintro _ rfl
 refine Br.intro (fun e=>nofit fun q=>absurd q.2.2.2 (bne_iff_ne.1 e)) fun f4=>?_
 have f4:(s.2.2.2.1.length:Int)=m:=by simpa using f4
 have hf:Z42 (Zb n) m s=true:=Zky.2 ⟨f1,f2,f3,f4⟩
 refine ⟨trivial,?_⟩
 rintro _ rfl
 rintro _ rfl
 refine Br.intro (fun e=>bad (by
  have e:(!Z1l 0 s.2.1)=true:=e
  have e:Z1l 0 s.2.1=false:=by simpa using e
  rw [hf,e]; rfl)) fun e=>?_
 have hk1:Z1l 0 s.2.1=true:=by
  have e:(!Z1l 0 s.2.1)=false:=e
  simpa using e
 refine ⟨trivial,?_⟩
 rintro _ rfl
 rintro _ rfl
 refine Br.intro (fun e=>bad (by
  have e:(!Z1l 0 s.2.2.1)=true:=e
  have e:Z1l 0 s.2.2.1=false:=by simpa using e
  rw [hf,hk1,e]; rfl)) fun e=>?_
 have hk2:Z1l 0 s.2.2.1=true:=by
  have e:(!Z1l 0 s.2.2.1)=false:=e
  simpa using e
 clear bad1 nofit
 have e1:=Zky.1 hf
 have q1:=Zap hk1 (by decide)
 have q2:=Zap hk2 (by decide)
 have p1:Pool s.1.length s.2.1.sum s.2.1:=⟨by omega,q1.1,rfl⟩
 have p2:Pool s.1.length s.2.2.1.sum s.2.2.1:=⟨by omega,q2.1,rfl⟩
 refine ⟨by show s.2.1.length≤65536; omega,?_⟩
 rintro _ rfl
 refine ⟨by show s.2.2.1.length≤65536; omega,?_⟩
 rintro _ rfl
 refine ⟨⟨hw,by omega⟩,?_⟩
 rintro _ rfl
 have hm2:=main hf hk1 hk2 _ _ rfl rfl
 rw [hm2]
 clear hm2 main bad hR
 dsimp only [Zal,Z8q]
 have lo:(ordL s.1).length=s.1.length:=by unfold ordL; rw [Zan]; simp
 have mo:∀ c ∈ ordL s.1,0≤c∧c<(s.1.length:Int):=fun c hc=>by have:=Z5p hc; simp at this; omega
 have hdr:=Z1e8 (n:=n) (bed:=s.1) e1.1
 simp only [hD]
 obtain ⟨down,hdn⟩:∃ down,Z1z true (Zb n) n s.1=down:=⟨_,rfl⟩
 rw [hdn] at hdr ⊢
 have pk:∀ k:Nat,Pool s.1.length s.2.1.sum (runA (Zx n) down ((ordL s.1).take k) (s.2.1,s.2.2.1)).1∧Pool s.1.length s.2.2.1.sum (runA (Zx n) down ((ordL s.1).take k) (s.2.1,s.2.2.1)).2:=fun k=>Z1ai hdr _ (fun c hc=>mo c (List.mem_of_mem_take hc)) p1 p2
 refine ⟨rfl,fun x y=>∃ k:Nat,x.1=k∧k≤(ordL s.1).length∧y.1=(runA (Zx n) down ((ordL s.1).take k) (s.2.1,s.2.2.1)).1∧y.2.1=(runA (Zx n) down ((ordL s.1).take k) (s.2.1,s.2.2.1)).2,fun x _=>(ordL s.1).length - x.1.toNat,⟨0,rfl,by omega,rfl,rfl⟩,?_⟩
 rintro ⟨_,⟨⟩⟩ ⟨_,_,⟨⟩⟩ ⟨k,rfl,hk,rfl,rfl⟩
 dsimp only
 obtain ⟨st,hst⟩:∃ st,runA (Zx n) down ((ordL s.1).take k) (s.2.1,s.2.2.1)=st:=⟨_,rfl⟩
 have pst:=pk k
 rw [hst] at pst ⊢
 obtain ⟨pw,pt⟩:=pst
 have lw:=pw.len
 have lt:=pt.len
 rintro _ rfl
 refine Br.intro (fun d=>?_) fun d=>?_
 rotate_left
 ·have d:k=(ordL s.1).length:=by have d:¬ (k:Int)<(ordL s.1).length:=of_decide_eq_false d; omega
  rw [d,List.take_length] at hst
  rw [hst]
  exact ⟨⟨by trivial,by omega⟩,⟨by trivial,by omega⟩,rfl⟩
 have d:k<(ordL s.1).length:=by have d:(k:Int)<(ordL s.1).length:=of_decide_eq_true d; omega
 have hs1:=Z1e7 (area:=Zx n) (down:=down) (st:=(s.2.1,s.2.2.1)) d
 rw [hst] at hs1
 have hcm:=mo _ (Z84 d)
 simp only [Int.toNat_natCast,Nat.zero_add]
 rw [Z21 d (by omega)]
 obtain ⟨c,hc⟩:∃ c,(ordL s.1).getD k 0=c:=⟨_,rfl⟩
 have hc':at0 (ordL s.1) k=c:=hc
 rw [hc'] at hs1 hcm
 simp only [hc]
 have hdc:=hdr c hcm.1 hcm.2
 have cw:0≤c∧c<(s.2.1.length:Int):=by omega
 have ct:0≤c∧c<(s.2.2.1.length:Int):=by omega
 have aw:=pw.at (i:=c.toNat) (by omega)
 have at_:=pt.at (i:=c.toNat) (by omega)
 have aw:0≤st.1.getD c.toNat 0∧st.1.getD c.toNat 0≤s.2.1.sum:=aw
 have at_:0≤st.2.getD c.toNat 0∧st.2.getD c.toNat 0≤s.2.2.1.sum:=at_
 have next:∀ w t:List Int,(w,t)=Z2t (Zx n) down st c→(∃ j:Nat,((k+1:Nat):Int)=j∧j≤(ordL s.1).length∧w=(runA (Zx n) down ((ordL s.1).take j) (s.2.1,s.2.2.1)).1∧t=(runA (Zx n) down ((ordL s.1).take j) (s.2.1,s.2.2.1)).2)∧(ordL s.1).length - (((k+1:Nat):Int)).toNat<(ordL s.1).length - k:=fun w t h=>⟨⟨k+1,rfl,by omega,by rw [hs1,← h],by rw [hs1,← h]⟩,by omega⟩
 have skip:(down c<0∨st.1.getD c.toNat 0≤0∨Z5o (st.1.getD c.toNat 0) (Zx n c)=false)→(st.1,st.2)=Z2t (Zx n) down st c:=fun h=>by unfold Z2t; rw [if_pos h]
 refine ⟨⟨by omega,by omega⟩,⟨hg,hw⟩,?_⟩
 rintro _ rfl
 simp only [hD,hdn]
 rintro _ rfl
 refine Br.intro (fun e=>⟨rfl,next _ _ (skip (.inl (of_decide_eq_true e)))⟩) fun e=>?_
 have e:=of_decide_eq_false e
 refine ⟨cw,?_⟩
 rintro _ rfl
 refine Br.intro (fun f=>⟨rfl,next _ _ (skip (.inr (.inl (of_decide_eq_true f))))⟩) fun f=>?_
 have f:=of_decide_eq_false f
 have ar:=Z1hw n c
 have hA:(Z2z (some (netG n)) c).fst=Zx n c:=Z1q4 hcm.1 (by omega)
 rw [hA]
 refine ⟨cw,trivial,⟨⟨by omega,by omega⟩,ar.1⟩,?_⟩
 rintro _ rfl
 refine Br.intro (fun g=>⟨rfl,next _ _ (skip (.inr (.inr (by
  have g:(!Z5o (st.1.getD c.toNat 0) (Zx n c))=true:=g
  simpa using g))))⟩) fun g=>?_
 have g:Z5o (st.1.getD c.toNat 0) (Zx n c)=true:=by
  have g:(!Z5o (st.1.getD c.toNat 0) (Zx n c))=false:=g
  simpa using g
 have w4:i64.wrap (Int.tdiv (st.1.getD c.toNat 0) 4)=st.1.getD c.toNat 0 / 4:=by
  rw [Int.tdiv_eq_ediv_of_nonneg aw.1]; exact Zs (by omega) (by omega)
 have pr:∀ a b c:Int,(prtR a b c).fst=part a b c:=fun _ _ _=>rfl
 simp only [w4,pr]
 have pin:=Zy8 (a:=st.2.getD c.toNat 0) (b:=st.1.getD c.toNat 0 / 4) (c:=st.1.getD c.toNat 0) at_.1 (by omega) (by omega) (by omega)
 obtain ⟨_,m1,m2,m3,m4⟩:=pw.mv (i:=c) (j:=down c) (d:=st.1.getD c.toNat 0 / 4) hcm.1 hcm.2 (by omega) (by omega) (by omega) (by omega)
 obtain ⟨_,m5,m6,m7,m8⟩:=pt.mv (i:=c) (j:=down c) hcm.1 hcm.2 (by omega) (by omega) pin.1 pin.2
 have dw:0≤down c∧down c<(s.2.1.length:Int):=by omega
 have dt:0≤down c∧down c<(s.2.2.1.length:Int):=by omega
 rw [Zs (x:=st.1.getD c.toNat 0 - st.1.getD c.toNat 0 / 4) (by omega) (by omega),Zs (x:=st.2.getD c.toNat 0 - part (st.2.getD c.toNat 0) (st.1.getD c.toNat 0 / 4) (st.1.getD c.toNat 0)) (by omega) (by omega),
  Zs (x:=(st.1.set c.toNat (st.1.getD c.toNat 0 - st.1.getD c.toNat 0 / 4)).getD (down c).toNat 0+st.1.getD c.toNat 0 / 4) (by omega) (by omega),
  Zs (x:=(st.2.set c.toNat (st.2.getD c.toNat 0 - part (st.2.getD c.toNat 0) (st.1.getD c.toNat 0 / 4) (st.1.getD c.toNat 0))).getD (down c).toNat 0+part (st.2.getD c.toNat 0) (st.1.getD c.toNat 0 / 4) (st.1.getD c.toNat 0)) (by omega) (by omega)]
 refine ⟨cw,by decide,ct,cw,⟨⟨by omega,by omega⟩,⟨by omega,by omega⟩,by omega,by omega⟩,cw,cw,dw,dw,ct,ct,dt,dt,rfl,next _ _ ?_⟩
 unfold Z2t
 rw [if_neg (fun h=>by rcases h with h | h | h <;> first | omega | (rw [g] at h; cases h))]
 rfl
def Zd2:=fun (s:List Nat × List Int × List Int × List Nat × Int × Int) (post:List Int × List Int × Int × Unit→Prop)=>post ([],[],(2:Int),())
theorem Z1c4 (s:(List Nat) × (List Int) × (List Int) × (List Nat) × Int × Int) (h:Z16d none s) (w:KS.wf [.ptr Z1g,kSea] (none,s,())):Zd2  s (fun r=>r=Zdy none s):=by
 exact rfl
def Zd3:=fun (ty39 ty2 ty3:Nat) (g:Int × List (Int × Int × Int × Int) × List Int) (s:List Nat × List Int × List Int × List Nat × Int × Int) (post:List Int ×
 List Int × Int × Unit→Prop)=>∃ (h:Z1ad (some g) (s.fst,s.snd.fst,s.snd.snd.fst,s.snd.snd.snd.fst,s.snd.snd.snd.snd.fst,s.snd.snd.snd.snd.snd)),∀ (a:Bool ×
 Unit),a=Zht (some g) (s.fst,s.snd.fst,s.snd.snd.fst,s.snd.snd.snd.fst,s.snd.snd.snd.snd.fst,s.snd.snd.snd.snd.snd)→∀ (a_1:Bool),a_1=a.fst→Br (!a_1)
 (post ([],[],(1:Int),())) (∃ (h:True),∀ (a:Bool × Unit),a=Zkv s.snd.fst→∀ (a_2:Bool),a_2=a.fst→Br (!a_2) (post ([],[],(1:Int),())) (∃ (h:True),∀ (a
 : Bool × Unit),a=Zkv s.snd.snd.fst→∀ (a_3:Bool),a_3=a.fst→Br (!a_3) (post ([],[],(1:Int),())) (∃ (h:Zkw s.snd.fst),∀ (a:List Int × Unit),a=Z8q
 s.snd.fst→∃ (h:Zkw s.snd.snd.fst),∀ (a_4:List Int × Unit),a_4=Z8q s.snd.snd.fst→∃ (h:WOrd s.fst),∀ (a_5:List Int × Unit),a_5=Zal s.fst→HIs [HObj.box
 Md.rw ty39 [SV.data (K.flt f64).slice s.fst,SV.data (K.int i64).slice s.snd.fst,SV.data (K.int i64).slice s.snd.snd.fst,SV.data (K.flt
 f64).slice s.snd.snd.snd.fst,SV.val (Go.Value.int i64 s.snd.snd.snd.snd.fst),SV.val (Go.Value.int i64 s.snd.snd.snd.snd.snd)],HObj.row Md.rw ty2
 (K.int i64) a.fst,HObj.row Md.rw ty2 (K.int i64) a_4.fst,HObj.row Md.rw ty3 (K.int i64) a_5.fst] [HObj.box Md.rw ty39 [SV.data (K.flt
 f64).slice s.fst,SV.data (K.int i64).slice s.snd.fst,SV.data (K.int i64).slice s.snd.snd.fst,SV.data (K.flt f64).slice
 s.snd.snd.snd.fst,SV.val (Go.Value.int i64 s.snd.snd.snd.snd.fst),SV.val (Go.Value.int i64 s.snd.snd.snd.snd.snd)],HObj.row Md.rw ty2 (K.int i64) a.fst,
 HObj.row Md.rw ty2 (K.int i64) a_4.fst,HObj.row Md.rw ty3 (K.int i64) a_5.fst]∧∃ (I:Int × Unit→List Int × List Int × Unit→Prop),∃ (μ:Int × Unit→List
 Int × List Int × Unit→Nat),I ((0:Int),()) (a.fst,a_4.fst,())∧∀ (x:Int × Unit) (y:List Int × List Int × Unit),I x y→∀ (a_6:Bool),a_6=decide (x.fst <
 (↑a_5.fst.length:Int))→Br a_6 (∃ (h:(0:Int)≤x.fst∧x.fst<(↑a_5.fst.length:Int)),∃ (h:Zr7 (some g) s.fst (a_5.fst.getD ((0:Nat)+x.fst.toNat) (0 :
 Int))),∀ (a_7:Int × Unit),a_7=Zcc (some g) s.fst (a_5.fst.getD ((0:Nat)+x.fst.toNat) (0:Int))→∀ (a_8:Bool),a_8=decide (a_7.fst<(0:Int))→Br a_8
 (HIs [HObj.box Md.rw ty39 [SV.data (K.flt f64).slice s.fst,SV.data (K.int i64).slice s.snd.fst,SV.data (K.int i64).slice s.snd.snd.fst,SV.data
 (K.flt f64).slice s.snd.snd.snd.fst,SV.val (Go.Value.int i64 s.snd.snd.snd.snd.fst),SV.val (Go.Value.int i64 s.snd.snd.snd.snd.snd)],HObj.row Md.rw
 ty2 (K.int i64) y.fst,HObj.row Md.rw ty2 (K.int i64) y.snd.fst,HObj.row Md.rw ty3 (K.int i64) a_5.fst] [HObj.box Md.rw ty39 [SV.data (K.flt
 f64).slice s.fst,SV.data (K.int i64).slice s.snd.fst,SV.data (K.int i64).slice s.snd.snd.fst,SV.data (K.flt f64).slice
 s.snd.snd.snd.fst,SV.val (Go.Value.int i64 s.snd.snd.snd.snd.fst),SV.val (Go.Value.int i64 s.snd.snd.snd.snd.snd)],HObj.row Md.rw ty2 (K.int i64) y.fst,
 HObj.row Md.rw ty2 (K.int i64) y.snd.fst,HObj.row Md.rw ty3 (K.int i64) a_5.fst]∧I (i64.wrap (x.fst+(1:Int)),()) (y.fst,y.snd.fst,())∧μ
 (i64.wrap (x.fst+(1:Int)),()) (y.fst,y.snd.fst,())<μ x y) (∃ (h:(0:Int)≤a_5.fst.getD ((0:Nat)+x.fst.toNat) (0:Int)∧a_5.fst.getD ((0:Nat) +
 x.fst.toNat) (0:Int)<(↑a.fst.length:Int)),∀ (a_9:Bool),a_9=decide (y.fst.getD ((0:Nat)+Int.toNat (a_5.fst.getD ((0:Nat)+x.fst.toNat) (0:Int))) (0:Int)≤(0
 : Int))→Br a_9 (HIs [HObj.box Md.rw ty39 [SV.data (K.flt f64).slice s.fst,SV.data (K.int i64).slice s.snd.fst,SV.data (K.int i64).slice
 s.snd.snd.fst,SV.data (K.flt f64).slice s.snd.snd.snd.fst,SV.val (Go.Value.int i64 s.snd.snd.snd.snd.fst),SV.val (Go.Value.int i64
 s.snd.snd.snd.snd.snd)],HObj.row Md.rw ty2 (K.int i64) y.fst,HObj.row Md.rw ty2 (K.int i64) y.snd.fst,HObj.row Md.rw ty3 (K.int i64) a_5.fst] [HObj.box
 Md.rw ty39 [SV.data (K.flt f64).slice s.fst,SV.data (K.int i64).slice s.snd.fst,SV.data (K.int i64).slice s.snd.snd.fst,SV.data (K.flt
 f64).slice s.snd.snd.snd.fst,SV.val (Go.Value.int i64 s.snd.snd.snd.snd.fst),SV.val (Go.Value.int i64 s.snd.snd.snd.snd.snd)],HObj.row Md.rw ty2
 (K.int i64) y.fst,HObj.row Md.rw ty2 (K.int i64) y.snd.fst,HObj.row Md.rw ty3 (K.int i64) a_5.fst]∧I (i64.wrap (x.fst+(1:Int)),()) (y.fst,
 y.snd.fst,())∧μ (i64.wrap (x.fst+(1:Int)),()) (y.fst,y.snd.fst,())<μ x y) (∃ (h:(0:Int)≤a_5.fst.getD ((0:Nat)+x.fst.toNat) (0:Int)∧a_5.fst.getD
 ((0:Nat)+x.fst.toNat) (0:Int)<(↑a.fst.length:Int)),∃ (h:Z1ij (some g) (a_5.fst.getD ((0:Nat)+x.fst.toNat) (0:Int))),∀ (a_10:Int × Unit),a_10 =
 Z16c (some g) (a_5.fst.getD ((0:Nat)+x.fst.toNat) (0:Int))→∃ (h:II (y.fst.getD ((0:Nat)+Int.toNat (a_5.fst.getD ((0:Nat)+x.fst.toNat) (0:Int))) (0 :
 Int)) a_10.fst),∀ (a_11:Bool),a_11=fcmp Go.BinOp.lss (f64.format.order (Zid (y.fst.getD ((0:Nat)+Int.toNat (a_5.fst.getD ((0:Nat)+x.fst.toNat) (0 :
 Int))) (0:Int)) a_10.fst).fst (4602678819172646912:Nat))→Br (!a_11) (HIs [HObj.box Md.rw ty39 [SV.data (K.flt f64).slice s.fst,SV.data (K.int
 i64).slice s.snd.fst,SV.data (K.int i64).slice s.snd.snd.fst,SV.data (K.flt f64).slice s.snd.snd.snd.fst,SV.val (Go.Value.int i64
 s.snd.snd.snd.snd.fst),SV.val (Go.Value.int i64 s.snd.snd.snd.snd.snd)],HObj.row Md.rw ty2 (K.int i64) y.fst,HObj.row Md.rw ty2 (K.int i64) y.snd.fst,
 HObj.row Md.rw ty3 (K.int i64) a_5.fst] [HObj.box Md.rw ty39 [SV.data (K.flt f64).slice s.fst,SV.data (K.int i64).slice s.snd.fst,SV.data (K.int
 i64).slice s.snd.snd.fst,SV.data (K.flt f64).slice s.snd.snd.snd.fst,SV.val (Go.Value.int i64 s.snd.snd.snd.snd.fst),SV.val (Go.Value.int
 i64 s.snd.snd.snd.snd.snd)],HObj.row Md.rw ty2 (K.int i64) y.fst,HObj.row Md.rw ty2 (K.int i64) y.snd.fst,HObj.row Md.rw ty3 (K.int i64)
 a_5.fst]∧I (i64.wrap (x.fst+(1:Int)),()) (y.fst,y.snd.fst,())∧μ (i64.wrap (x.fst+(1:Int)),()) (y.fst,y.snd.fst,())<μ x y) (∃ (h:(0:Int) ≤
 a_5.fst.getD ((0:Nat)+x.fst.toNat) (0:Int)∧a_5.fst.getD ((0:Nat)+x.fst.toNat) (0:Int)<(↑a.fst.length:Int)),∃ (h:(4:Int)≠(0:Int)),∃ (h:(0:Int) ≤
 a_5.fst.getD ((0:Nat)+x.fst.toNat) (0:Int)∧a_5.fst.getD ((0:Nat)+x.fst.toNat) (0:Int)<(↑a_4.fst.length:Int)),∃ (h:(0:Int)≤a_5.fst.getD ((0:Nat) +
 x.fst.toNat) (0:Int)∧a_5.fst.getD ((0:Nat)+x.fst.toNat) (0:Int)<(↑a.fst.length:Int)),∃ (h:III (y.snd.fst.getD ((0:Nat)+Int.toNat (a_5.fst.getD ((0:Nat) +
 x.fst.toNat) (0:Int))) (0:Int)) (i64.wrap (Int.tdiv (y.fst.getD ((0:Nat)+Int.toNat (a_5.fst.getD ((0:Nat)+x.fst.toNat) (0:Int))) (0:Int)) (4:Int)))
 (y.fst.getD ((0:Nat)+Int.toNat (a_5.fst.getD ((0:Nat)+x.fst.toNat) (0:Int))) (0:Int))),∃ (h:(0:Int)≤a_5.fst.getD ((0:Nat)+x.fst.toNat) (0:Int) ∧
 a_5.fst.getD ((0:Nat)+x.fst.toNat) (0:Int)<(↑a.fst.length:Int)),∃ (h:(0:Int)≤a_5.fst.getD ((0:Nat)+x.fst.toNat) (0:Int)∧a_5.fst.getD ((0:Nat) +
 x.fst.toNat) (0:Int)<(↑a.fst.length:Int)),∃ (h:(0:Int)≤a_7.fst∧a_7.fst<(↑a.fst.length:Int)),∃ (h:(0:Int)≤a_7.fst∧a_7.fst<(↑a.fst.length:Int)),∃ (h
 : (0:Int)≤a_5.fst.getD ((0:Nat)+x.fst.toNat) (0:Int)∧a_5.fst.getD ((0:Nat)+x.fst.toNat) (0:Int)<(↑a_4.fst.length:Int)),∃ (h:(0:Int)≤a_5.fst.getD ((0 :
 Nat)+x.fst.toNat) (0:Int)∧a_5.fst.getD ((0:Nat)+x.fst.toNat) (0:Int)<(↑a_4.fst.length:Int)),∃ (h:(0:Int)≤a_7.fst∧a_7.fst<(↑a_4.fst.length:Int)),∃ (h
 : (0:Int)≤a_7.fst∧a_7.fst<(↑a_4.fst.length:Int)),HIs [HObj.box Md.rw ty39 [SV.data (K.flt f64).slice s.fst,SV.data (K.int i64).slice s.snd.fst,
 SV.data (K.int i64).slice s.snd.snd.fst,SV.data (K.flt f64).slice s.snd.snd.snd.fst,SV.val (Go.Value.int i64 s.snd.snd.snd.snd.fst),SV.val
 (Go.Value.int i64 s.snd.snd.snd.snd.snd)],HObj.row Md.rw ty2 (K.int i64) ((y.fst.set ((0:Nat)+Int.toNat (a_5.fst.getD ((0:Nat)+x.fst.toNat) (0:Int)))
 (i64.wrap (y.fst.getD ((0:Nat)+Int.toNat (a_5.fst.getD ((0:Nat)+x.fst.toNat) (0:Int))) (0:Int) - i64.wrap (Int.tdiv (y.fst.getD ((0:Nat)+Int.toNat
 (a_5.fst.getD ((0:Nat)+x.fst.toNat) (0:Int))) (0:Int)) (4:Int))))).set ((0:Nat)+a_7.fst.toNat) (i64.wrap ((y.fst.set ((0:Nat)+Int.toNat (a_5.fst.getD ((0
 : Nat)+x.fst.toNat) (0:Int))) (i64.wrap (y.fst.getD ((0:Nat)+Int.toNat (a_5.fst.getD ((0:Nat)+x.fst.toNat) (0:Int))) (0:Int) - i64.wrap (Int.tdiv
 (y.fst.getD ((0:Nat)+Int.toNat (a_5.fst.getD ((0:Nat)+x.fst.toNat) (0:Int))) (0:Int)) (4:Int))))).getD ((0:Nat)+a_7.fst.toNat) (0:Int)+i64.wrap
 (Int.tdiv (y.fst.getD ((0:Nat)+Int.toNat (a_5.fst.getD ((0:Nat)+x.fst.toNat) (0:Int))) (0:Int)) (4:Int))))),HObj.row Md.rw ty2 (K.int i64) ((y.snd.fst.set
 ((0:Nat)+Int.toNat (a_5.fst.getD ((0:Nat)+x.fst.toNat) (0:Int))) (i64.wrap (y.snd.fst.getD ((0:Nat)+Int.toNat (a_5.fst.getD ((0:Nat)+x.fst.toNat) (0 :
 Int))) (0:Int) - (prtR (y.snd.fst.getD ((0:Nat)+Int.toNat (a_5.fst.getD ((0:Nat)+x.fst.toNat) (0:Int))) (0:Int)) (i64.wrap (Int.tdiv (y.fst.getD ((0:Nat) +
 Int.toNat (a_5.fst.getD ((0:Nat)+x.fst.toNat) (0:Int))) (0:Int)) (4:Int))) (y.fst.getD ((0:Nat)+Int.toNat (a_5.fst.getD ((0:Nat)+x.fst.toNat) (0:Int))) (0 :
 Int))).fst))).set ((0:Nat)+a_7.fst.toNat) (i64.wrap ((y.snd.fst.set ((0:Nat)+Int.toNat (a_5.fst.getD ((0:Nat)+x.fst.toNat) (0:Int))) (i64.wrap
 (y.snd.fst.getD ((0:Nat)+Int.toNat (a_5.fst.getD ((0:Nat)+x.fst.toNat) (0:Int))) (0:Int) - (prtR (y.snd.fst.getD ((0:Nat)+Int.toNat (a_5.fst.getD ((0:Nat) +
 x.fst.toNat) (0:Int))) (0:Int)) (i64.wrap (Int.tdiv (y.fst.getD ((0:Nat)+Int.toNat (a_5.fst.getD ((0:Nat)+x.fst.toNat) (0:Int))) (0:Int)) (4:Int)))
 (y.fst.getD ((0:Nat)+Int.toNat (a_5.fst.getD ((0:Nat)+x.fst.toNat) (0:Int))) (0:Int))).fst))).getD ((0:Nat)+a_7.fst.toNat) (0:Int)+(prtR (y.snd.fst.getD ((0 :
 Nat)+Int.toNat (a_5.fst.getD ((0:Nat)+x.fst.toNat) (0:Int))) (0:Int)) (i64.wrap (Int.tdiv (y.fst.getD ((0:Nat)+Int.toNat (a_5.fst.getD ((0:Nat) +
 x.fst.toNat) (0:Int))) (0:Int)) (4:Int))) (y.fst.getD ((0:Nat)+Int.toNat (a_5.fst.getD ((0:Nat)+x.fst.toNat) (0:Int))) (0:Int))).fst))),HObj.row Md.rw ty3
 (K.int i64) a_5.fst] [HObj.box Md.rw ty39 [SV.data (K.flt f64).slice s.fst,SV.data (K.int i64).slice s.snd.fst,SV.data (K.int i64).slice
 s.snd.snd.fst,SV.data (K.flt f64).slice s.snd.snd.snd.fst,SV.val (Go.Value.int i64 s.snd.snd.snd.snd.fst),SV.val (Go.Value.int i64
 s.snd.snd.snd.snd.snd)],HObj.row Md.rw ty2 (K.int i64) ((y.fst.set ((0:Nat)+Int.toNat (a_5.fst.getD ((0:Nat)+x.fst.toNat) (0:Int))) (i64.wrap
 (y.fst.getD ((0:Nat)+Int.toNat (a_5.fst.getD ((0:Nat)+x.fst.toNat) (0:Int))) (0:Int) - i64.wrap (Int.tdiv (y.fst.getD ((0:Nat)+Int.toNat (a_5.fst.getD ((0
 : Nat)+x.fst.toNat) (0:Int))) (0:Int)) (4:Int))))).set ((0:Nat)+a_7.fst.toNat) (i64.wrap ((y.fst.set ((0:Nat)+Int.toNat (a_5.fst.getD ((0:Nat) +
 x.fst.toNat) (0:Int))) (i64.wrap (y.fst.getD ((0:Nat)+Int.toNat (a_5.fst.getD ((0:Nat)+x.fst.toNat) (0:Int))) (0:Int) - i64.wrap (Int.tdiv
 (y.fst.getD ((0:Nat)+Int.toNat (a_5.fst.getD ((0:Nat)+x.fst.toNat) (0:Int))) (0:Int)) (4:Int))))).getD ((0:Nat)+a_7.fst.toNat) (0:Int)+i64.wrap
 (Int.tdiv (y.fst.getD ((0:Nat)+Int.toNat (a_5.fst.getD ((0:Nat)+x.fst.toNat) (0:Int))) (0:Int)) (4:Int))))),HObj.row Md.rw ty2 (K.int i64) ((y.snd.fst.set
 ((0:Nat)+Int.toNat (a_5.fst.getD ((0:Nat)+x.fst.toNat) (0:Int))) (i64.wrap (y.snd.fst.getD ((0:Nat)+Int.toNat (a_5.fst.getD ((0:Nat)+x.fst.toNat) (0 :
 Int))) (0:Int) - (prtR (y.snd.fst.getD ((0:Nat)+Int.toNat (a_5.fst.getD ((0:Nat)+x.fst.toNat) (0:Int))) (0:Int)) (i64.wrap (Int.tdiv (y.fst.getD ((0:Nat) +
 Int.toNat (a_5.fst.getD ((0:Nat)+x.fst.toNat) (0:Int))) (0:Int)) (4:Int))) (y.fst.getD ((0:Nat)+Int.toNat (a_5.fst.getD ((0:Nat)+x.fst.toNat) (0:Int))) (0 :
 Int))).fst))).set ((0:Nat)+a_7.fst.toNat) (i64.wrap ((y.snd.fst.set ((0:Nat)+Int.toNat (a_5.fst.getD ((0:Nat)+x.fst.toNat) (0:Int))) (i64.wrap
 (y.snd.fst.getD ((0:Nat)+Int.toNat (a_5.fst.getD ((0:Nat)+x.fst.toNat) (0:Int))) (0:Int) - (prtR (y.snd.fst.getD ((0:Nat)+Int.toNat (a_5.fst.getD ((0:Nat) +
 x.fst.toNat) (0:Int))) (0:Int)) (i64.wrap (Int.tdiv (y.fst.getD ((0:Nat)+Int.toNat (a_5.fst.getD ((0:Nat)+x.fst.toNat) (0:Int))) (0:Int)) (4:Int)))
 (y.fst.getD ((0:Nat)+Int.toNat (a_5.fst.getD ((0:Nat)+x.fst.toNat) (0:Int))) (0:Int))).fst))).getD ((0:Nat)+a_7.fst.toNat) (0:Int)+(prtR (y.snd.fst.getD ((0 :
 Nat)+Int.toNat (a_5.fst.getD ((0:Nat)+x.fst.toNat) (0:Int))) (0:Int)) (i64.wrap (Int.tdiv (y.fst.getD ((0:Nat)+Int.toNat (a_5.fst.getD ((0:Nat) +
 x.fst.toNat) (0:Int))) (0:Int)) (4:Int))) (y.fst.getD ((0:Nat)+Int.toNat (a_5.fst.getD ((0:Nat)+x.fst.toNat) (0:Int))) (0:Int))).fst))),HObj.row Md.rw ty3
 (K.int i64) a_5.fst]∧I (i64.wrap (x.fst+(1:Int)),()) ((y.fst.set ((0:Nat)+Int.toNat (a_5.fst.getD ((0:Nat)+x.fst.toNat) (0:Int)))
 (i64.wrap (y.fst.getD ((0:Nat)+Int.toNat (a_5.fst.getD ((0:Nat)+x.fst.toNat) (0:Int))) (0:Int) - i64.wrap (Int.tdiv (y.fst.getD ((0:Nat)+Int.toNat
 (a_5.fst.getD ((0:Nat)+x.fst.toNat) (0:Int))) (0:Int)) (4:Int))))).set ((0:Nat)+a_7.fst.toNat) (i64.wrap ((y.fst.set ((0:Nat)+Int.toNat (a_5.fst.getD ((0
 : Nat)+x.fst.toNat) (0:Int))) (i64.wrap (y.fst.getD ((0:Nat)+Int.toNat (a_5.fst.getD ((0:Nat)+x.fst.toNat) (0:Int))) (0:Int) - i64.wrap (Int.tdiv
 (y.fst.getD ((0:Nat)+Int.toNat (a_5.fst.getD ((0:Nat)+x.fst.toNat) (0:Int))) (0:Int)) (4:Int))))).getD ((0:Nat)+a_7.fst.toNat) (0:Int)+i64.wrap
 (Int.tdiv (y.fst.getD ((0:Nat)+Int.toNat (a_5.fst.getD ((0:Nat)+x.fst.toNat) (0:Int))) (0:Int)) (4:Int)))),(y.snd.fst.set ((0:Nat)+Int.toNat (a_5.fst.getD ((0 :
 Nat)+x.fst.toNat) (0:Int))) (i64.wrap (y.snd.fst.getD ((0:Nat)+Int.toNat (a_5.fst.getD ((0:Nat)+x.fst.toNat) (0:Int))) (0:Int) - (prtR (y.snd.fst.getD ((0
 : Nat)+Int.toNat (a_5.fst.getD ((0:Nat)+x.fst.toNat) (0:Int))) (0:Int)) (i64.wrap (Int.tdiv (y.fst.getD ((0:Nat)+Int.toNat (a_5.fst.getD ((0:Nat) +
 x.fst.toNat) (0:Int))) (0:Int)) (4:Int))) (y.fst.getD ((0:Nat)+Int.toNat (a_5.fst.getD ((0:Nat)+x.fst.toNat) (0:Int))) (0:Int))).fst))).set ((0:Nat) +
 a_7.fst.toNat) (i64.wrap ((y.snd.fst.set ((0:Nat)+Int.toNat (a_5.fst.getD ((0:Nat)+x.fst.toNat) (0:Int))) (i64.wrap (y.snd.fst.getD ((0:Nat) +
 Int.toNat (a_5.fst.getD ((0:Nat)+x.fst.toNat) (0:Int))) (0:Int) - (prtR (y.snd.fst.getD ((0:Nat)+Int.toNat (a_5.fst.getD ((0:Nat)+x.fst.toNat) (0:Int))) (0 :
 Int)) (i64.wrap (Int.tdiv (y.fst.getD ((0:Nat)+Int.toNat (a_5.fst.getD ((0:Nat)+x.fst.toNat) (0:Int))) (0:Int)) (4:Int))) (y.fst.getD ((0:Nat)+Int.toNat
 (a_5.fst.getD ((0:Nat)+x.fst.toNat) (0:Int))) (0:Int))).fst))).getD ((0:Nat)+a_7.fst.toNat) (0:Int)+(prtR (y.snd.fst.getD ((0:Nat)+Int.toNat (a_5.fst.getD ((0
 : Nat)+x.fst.toNat) (0:Int))) (0:Int)) (i64.wrap (Int.tdiv (y.fst.getD ((0:Nat)+Int.toNat (a_5.fst.getD ((0:Nat)+x.fst.toNat) (0:Int))) (0:Int)) (4 :
 Int))) (y.fst.getD ((0:Nat)+Int.toNat (a_5.fst.getD ((0:Nat)+x.fst.toNat) (0:Int))) (0:Int))).fst)),())∧μ (i64.wrap (x.fst+(1:Int)),()) ((y.fst.set ((0
 : Nat)+Int.toNat (a_5.fst.getD ((0:Nat)+x.fst.toNat) (0:Int))) (i64.wrap (y.fst.getD ((0:Nat)+Int.toNat (a_5.fst.getD ((0:Nat)+x.fst.toNat) (0:Int))) (0
 : Int) - i64.wrap (Int.tdiv (y.fst.getD ((0:Nat)+Int.toNat (a_5.fst.getD ((0:Nat)+x.fst.toNat) (0:Int))) (0:Int)) (4:Int))))).set ((0:Nat)+a_7.fst.toNat)
 (i64.wrap ((y.fst.set ((0:Nat)+Int.toNat (a_5.fst.getD ((0:Nat)+x.fst.toNat) (0:Int))) (i64.wrap (y.fst.getD ((0:Nat)+Int.toNat (a_5.fst.getD ((0 :
 Nat)+x.fst.toNat) (0:Int))) (0:Int) - i64.wrap (Int.tdiv (y.fst.getD ((0:Nat)+Int.toNat (a_5.fst.getD ((0:Nat)+x.fst.toNat) (0:Int))) (0:Int)) (4 :
 Int))))).getD ((0:Nat)+a_7.fst.toNat) (0:Int)+i64.wrap (Int.tdiv (y.fst.getD ((0:Nat)+Int.toNat (a_5.fst.getD ((0:Nat)+x.fst.toNat) (0:Int))) (0:Int))
 (4:Int)))),(y.snd.fst.set ((0:Nat)+Int.toNat (a_5.fst.getD ((0:Nat)+x.fst.toNat) (0:Int))) (i64.wrap (y.snd.fst.getD ((0:Nat)+Int.toNat (a_5.fst.getD ((0
 : Nat)+x.fst.toNat) (0:Int))) (0:Int) - (prtR (y.snd.fst.getD ((0:Nat)+Int.toNat (a_5.fst.getD ((0:Nat)+x.fst.toNat) (0:Int))) (0:Int)) (i64.wrap
 (Int.tdiv (y.fst.getD ((0:Nat)+Int.toNat (a_5.fst.getD ((0:Nat)+x.fst.toNat) (0:Int))) (0:Int)) (4:Int))) (y.fst.getD ((0:Nat)+Int.toNat (a_5.fst.getD ((0:Nat)
 + x.fst.toNat) (0:Int))) (0:Int))).fst))).set ((0:Nat)+a_7.fst.toNat) (i64.wrap ((y.snd.fst.set ((0:Nat)+Int.toNat (a_5.fst.getD ((0:Nat)+x.fst.toNat) (0 :
 Int))) (i64.wrap (y.snd.fst.getD ((0:Nat)+Int.toNat (a_5.fst.getD ((0:Nat)+x.fst.toNat) (0:Int))) (0:Int) - (prtR (y.snd.fst.getD ((0:Nat)+Int.toNat
 (a_5.fst.getD ((0:Nat)+x.fst.toNat) (0:Int))) (0:Int)) (i64.wrap (Int.tdiv (y.fst.getD ((0:Nat)+Int.toNat (a_5.fst.getD ((0:Nat)+x.fst.toNat) (0:Int)))
 (0:Int)) (4:Int))) (y.fst.getD ((0:Nat)+Int.toNat (a_5.fst.getD ((0:Nat)+x.fst.toNat) (0:Int))) (0:Int))).fst))).getD ((0:Nat)+a_7.fst.toNat) (0:Int)+(prtR
 (y.snd.fst.getD ((0:Nat)+Int.toNat (a_5.fst.getD ((0:Nat)+x.fst.toNat) (0:Int))) (0:Int)) (i64.wrap (Int.tdiv (y.fst.getD ((0:Nat)+Int.toNat (a_5.fst.getD
 ((0:Nat)+x.fst.toNat) (0:Int))) (0:Int)) (4:Int))) (y.fst.getD ((0:Nat)+Int.toNat (a_5.fst.getD ((0:Nat)+x.fst.toNat) (0:Int))) (0:Int))).fst)),())<μ x
 y)))) (((0:Nat)=(0:Nat)∧a.fst.length=y.fst.length)∧((0:Nat)=(0:Nat)∧a_4.fst.length=y.snd.fst.length)∧post (y.fst,y.snd.fst,(0:Int),())))))
theorem Z1c5 (ty0 ty1 ty2:Nat) (g:Int × (List (Int × Int × Int × Int)) × List Int) (s:(List Nat) × (List Int) × (List Int) × (List Nat) × Int × Int) (h:Z16d (some g) s) (w:KS.wf [.ptr Z1g,kSea] ((some g),s,())):Zd3 ty0 ty1 ty2 g s (fun r=>r=Zdy (some g) s):=by
 obtain ⟨hg,hw,hi1,hi2⟩:=h
 obtain ⟨n,gn,rfl⟩:=Z16a hg
 obtain ⟨m,hm⟩:∃ m,(Zhr (some (Z2n n))).1=m:=⟨_,rfl⟩
 have hC:(Z34 (some (Z2n n))).1=Zb n:=rfl
 have hR:Zdy (some (Z2n n)) s=runF true (Zb n) m (Zx n) (Z1z true (Zb n) n s.1) s:=by rw [← hm]; rfl
 have cr:=Z4f n
 have hD:∀ c,(Zcc (some (Z2n n)) s.1 c).fst=Z1z true (Zb n) n s.1 c:=fun c=>rfl
 have bad:((Z42 (Zb n) m s&&Z1l 0 s.2.1)&&Z1l 0 s.2.2.1)=false→([],[],1,())=Zdy (some (Z2n n)) s:=fun h=>by rw [hR,Z1io h]
 have main:Z42 (Zb n) m s=true→Z1l 0 s.2.1=true→Z1l 0 s.2.2.1=true→∀ area down,area=Zx n→down=Z1z true (Zb n) n s.1→Zdy (some (Z2n n)) s=((runA area down (ordL s.1) (s.2.1,s.2.2.1)).1,(runA area down (ordL s.1) (s.2.1,s.2.2.1)).2,0,()):=by
  rintro h1 h2 h3 _ _ rfl rfl
  rw [hR,Zvg h1 h2 h3]
 refine ⟨hg,?_⟩
 have hF:Zht (some (Z2n n)) s=r1 (Z42 (Zb n) m s):=by rw [← hm]; rfl
 rintro _ rfl
 have hF':(Zht (some (Z2n n)) (s.1,s.2.1,s.2.2.1,s.2.2.2.1,s.2.2.2.2.1,s.2.2.2.2.2)).fst=Z42 (Zb n) m s:=by rw [← hm]; rfl
 rw [hF']
 rintro _ rfl
 refine Br.intro (fun e=>bad (by
  have e:Z42 (Zb n) m s=false:=by simpa using e
  rw [e]; rfl)) fun e=>?_
 have hf:Z42 (Zb n) m s=true:=by simpa using e
 refine ⟨trivial,?_⟩
 rintro _ rfl
 rintro _ rfl
 refine Br.intro (fun e=>bad (by
  have e:(!Z1l 0 s.2.1)=true:=e
  have e:Z1l 0 s.2.1=false:=by simpa using e
  rw [hf,e]; rfl)) fun e=>?_
 have hk1:Z1l 0 s.2.1=true:=by
  have e:(!Z1l 0 s.2.1)=false:=e
  simpa using e
 refine ⟨trivial,?_⟩
 rintro _ rfl
 rintro _ rfl
 refine Br.intro (fun e=>bad (by
  have e:(!Z1l 0 s.2.2.1)=true:=e
  have e:Z1l 0 s.2.2.1=false:=by simpa using e
  rw [hf,hk1,e]; rfl)) fun e=>?_
 have hk2:Z1l 0 s.2.2.1=true:=by
  have e:(!Z1l 0 s.2.2.1)=false:=e
  simpa using e
 have e1:=Zky.1 hf
 have q1:=Zap hk1 (by decide)
 have q2:=Zap hk2 (by decide)
 have p1:Pool s.1.length s.2.1.sum s.2.1:=⟨by omega,q1.1,rfl⟩
 have p2:Pool s.1.length s.2.2.1.sum s.2.2.1:=⟨by omega,q2.1,rfl⟩
 refine ⟨by show s.2.1.length≤65536; omega,?_⟩
 rintro _ rfl
 refine ⟨by show s.2.2.1.length≤65536; omega,?_⟩
 rintro _ rfl
 refine ⟨⟨hw,by omega⟩,?_⟩
 rintro _ rfl
 have hm2:=main hf hk1 hk2 _ _ rfl rfl
 rw [hm2]
 clear hm2 main bad hR
 dsimp only [Zal,Z8q]
 have lo:(ordL s.1).length=s.1.length:=by unfold ordL; rw [Zan]; simp
 have mo:∀ c ∈ ordL s.1,0≤c∧c<(s.1.length:Int):=fun c hc=>by have:=Z5p hc; simp at this; omega
 have hdr:=Z1e8 (n:=n) (bed:=s.1) e1.1
 simp only [hD]
 obtain ⟨down,hdn⟩:∃ down,Z1z true (Zb n) n s.1=down:=⟨_,rfl⟩
 rw [hdn] at hdr ⊢
 have pk:∀ k:Nat,Pool s.1.length s.2.1.sum (runA (Zx n) down ((ordL s.1).take k) (s.2.1,s.2.2.1)).1∧Pool s.1.length s.2.2.1.sum (runA (Zx n) down ((ordL s.1).take k) (s.2.1,s.2.2.1)).2:=fun k=>Z1ai hdr _ (fun c hc=>mo c (List.mem_of_mem_take hc)) p1 p2
 refine ⟨rfl,fun x y=>∃ k:Nat,x.1=k∧k≤(ordL s.1).length∧y.1=(runA (Zx n) down ((ordL s.1).take k) (s.2.1,s.2.2.1)).1∧y.2.1=(runA (Zx n) down ((ordL s.1).take k) (s.2.1,s.2.2.1)).2,fun x _=>(ordL s.1).length - x.1.toNat,⟨0,rfl,by omega,rfl,rfl⟩,?_⟩
 rintro ⟨_,⟨⟩⟩ ⟨_,_,⟨⟩⟩ ⟨k,rfl,hk,rfl,rfl⟩
 dsimp only
 obtain ⟨st,hst⟩:∃ st,runA (Zx n) down ((ordL s.1).take k) (s.2.1,s.2.2.1)=st:=⟨_,rfl⟩
 have pst:=pk k
 rw [hst] at pst ⊢
 obtain ⟨pw,pt⟩:=pst
 have lw:=pw.len
 have lt:=pt.len
 rintro _ rfl
 refine Br.intro (fun d=>?_) fun d=>?_
 rotate_left
 ·have d:k=(ordL s.1).length:=by have d:¬ (k:Int)<(ordL s.1).length:=of_decide_eq_false d; omega
  rw [d,List.take_length] at hst
  rw [hst]
  exact ⟨⟨by trivial,by omega⟩,⟨by trivial,by omega⟩,rfl⟩
 have d:k<(ordL s.1).length:=by have d:(k:Int)<(ordL s.1).length:=of_decide_eq_true d; omega
 have hs1:=Z1e7 (area:=Zx n) (down:=down) (st:=(s.2.1,s.2.2.1)) d
 rw [hst] at hs1
 have hcm:=mo _ (Z84 d)
 simp only [Int.toNat_natCast,Nat.zero_add]
 rw [Z21 d (by omega)]
 obtain ⟨c,hc⟩:∃ c,(ordL s.1).getD k 0=c:=⟨_,rfl⟩
 have hc':at0 (ordL s.1) k=c:=hc
 rw [hc'] at hs1 hcm
 simp only [hc]
 have hdc:=hdr c hcm.1 hcm.2
 have cw:0≤c∧c<(s.2.1.length:Int):=by omega
 have ct:0≤c∧c<(s.2.2.1.length:Int):=by omega
 have aw:=pw.at (i:=c.toNat) (by omega)
 have at_:=pt.at (i:=c.toNat) (by omega)
 have aw:0≤st.1.getD c.toNat 0∧st.1.getD c.toNat 0≤s.2.1.sum:=aw
 have at_:0≤st.2.getD c.toNat 0∧st.2.getD c.toNat 0≤s.2.2.1.sum:=at_
 have next:∀ w t:List Int,(w,t)=Z2t (Zx n) down st c→(∃ j:Nat,((k+1:Nat):Int)=j∧j≤(ordL s.1).length∧w=(runA (Zx n) down ((ordL s.1).take j) (s.2.1,s.2.2.1)).1∧t=(runA (Zx n) down ((ordL s.1).take j) (s.2.1,s.2.2.1)).2)∧(ordL s.1).length - (((k+1:Nat):Int)).toNat<(ordL s.1).length - k:=fun w t h=>⟨⟨k+1,rfl,by omega,by rw [hs1,← h],by rw [hs1,← h]⟩,by omega⟩
 have skip:(down c<0∨st.1.getD c.toNat 0≤0∨Z5o (st.1.getD c.toNat 0) (Zx n c)=false)→(st.1,st.2)=Z2t (Zx n) down st c:=fun h=>by unfold Z2t; rw [if_pos h]
 refine ⟨⟨by omega,by omega⟩,⟨hg,hw⟩,?_⟩
 rintro _ rfl
 simp only [hD,hdn]
 rintro _ rfl
 refine Br.intro (fun e=>⟨rfl,next _ _ (skip (.inl (of_decide_eq_true e)))⟩) fun e=>?_
 have e:=of_decide_eq_false e
 refine ⟨cw,?_⟩
 rintro _ rfl
 refine Br.intro (fun f=>⟨rfl,next _ _ (skip (.inr (.inl (of_decide_eq_true f))))⟩) fun f=>?_
 have f:=of_decide_eq_false f
 have ar:=Z1hw n c
 refine ⟨cw,⟨hg,hcm.1,by show c<Zb n; omega⟩,?_⟩
 rintro _ rfl
 have hA:(Z16c (some (Z2n n)) c).fst=Zx n c:=rfl
 rw [hA]
 refine ⟨⟨⟨by omega,by omega⟩,ar.1⟩,?_⟩
 rintro _ rfl
 refine Br.intro (fun g=>⟨rfl,next _ _ (skip (.inr (.inr (by
  have g:(!Z5o (st.1.getD c.toNat 0) (Zx n c))=true:=g
  simpa using g))))⟩) fun g=>?_
 have g:Z5o (st.1.getD c.toNat 0) (Zx n c)=true:=by
  have g:(!Z5o (st.1.getD c.toNat 0) (Zx n c))=false:=g
  simpa using g
 have w4:i64.wrap (Int.tdiv (st.1.getD c.toNat 0) 4)=st.1.getD c.toNat 0 / 4:=by
  rw [Int.tdiv_eq_ediv_of_nonneg aw.1]; exact Zs (by omega) (by omega)
 have pr:∀ a b c:Int,(prtR a b c).fst=part a b c:=fun _ _ _=>rfl
 simp only [w4,pr]
 have pin:=Zy8 (a:=st.2.getD c.toNat 0) (b:=st.1.getD c.toNat 0 / 4) (c:=st.1.getD c.toNat 0) at_.1 (by omega) (by omega) (by omega)
 obtain ⟨_,m1,m2,m3,m4⟩:=pw.mv (i:=c) (j:=down c) (d:=st.1.getD c.toNat 0 / 4) hcm.1 hcm.2 (by omega) (by omega) (by omega) (by omega)
 obtain ⟨_,m5,m6,m7,m8⟩:=pt.mv (i:=c) (j:=down c) hcm.1 hcm.2 (by omega) (by omega) pin.1 pin.2
 have dw:0≤down c∧down c<(s.2.1.length:Int):=by omega
 have dt:0≤down c∧down c<(s.2.2.1.length:Int):=by omega
 rw [Zs (x:=st.1.getD c.toNat 0 - st.1.getD c.toNat 0 / 4) (by omega) (by omega),Zs (x:=st.2.getD c.toNat 0 - part (st.2.getD c.toNat 0) (st.1.getD c.toNat 0 / 4) (st.1.getD c.toNat 0)) (by omega) (by omega),
  Zs (x:=(st.1.set c.toNat (st.1.getD c.toNat 0 - st.1.getD c.toNat 0 / 4)).getD (down c).toNat 0+st.1.getD c.toNat 0 / 4) (by omega) (by omega),
  Zs (x:=(st.2.set c.toNat (st.2.getD c.toNat 0 - part (st.2.getD c.toNat 0) (st.1.getD c.toNat 0 / 4) (st.1.getD c.toNat 0))).getD (down c).toNat 0+part (st.2.getD c.toNat 0) (st.1.getD c.toNat 0 / 4) (st.1.getD c.toNat 0)) (by omega) (by omega)]
 refine ⟨cw,by decide,ct,cw,⟨⟨by omega,by omega⟩,⟨by omega,by omega⟩,by omega,by omega⟩,cw,cw,dw,dw,ct,ct,dt,dt,rfl,next _ _ ?_⟩
 unfold Z2t
 rw [if_neg (fun h=>by rcases h with h | h | h <;> first | omega | (rw [g] at h; cases h))]
 rfl
end Go.Lift

namespace Go.Lift
def Z5r:=fun (post:Int × Unit→Prop)=>post ((0:Int),())
theorem Zrj  (w:KS.wf [.ptr Z14] (none,())):Z5r   (fun r=>r=Zi none):=by
 exact rfl
def Z5s:=fun (g:Int × List (Int × Int × Int × Int) × List ((Int × Int) × Int) × List (List Int) × List Int × List Nat × List Nat) (post:Int × Unit→Prop) =>
 ∃ (h:some g≠none),post ((↑g.snd.snd.snd.snd.fst.length:Int),())
theorem Zrk (g:Int × (List (Int × Int × Int × Int)) × (List ((Int × Int) × Int)) × (List (List Int)) × (List Int) × (List Nat) × List Nat) (w:KS.wf [.ptr Z14] ((some g),())):Z5s  g (fun r=>r=Zi (some g)):=by
 exact ⟨by simp,rfl⟩
def Z5t:=fun (post:Int × Unit→Prop)=>post ((0:Int),())
theorem Zrl  (w:KS.wf [.ptr Z14] (none,())):Z5t   (fun r=>r=Zc9 none):=by
 exact rfl
def Z5u:=fun (g:Int × List (Int × Int × Int × Int) × List ((Int × Int) × Int) × List (List Int) × List Int × List Nat × List Nat) (post:Int × Unit→Prop) =>
 ∃ (h:some g≠none),post ((↑g.snd.fst.length:Int),())
theorem Zrm (g:Int × (List (Int × Int × Int × Int)) × (List ((Int × Int) × Int)) × (List (List Int)) × (List Int) × (List Nat) × List Nat) (w:KS.wf [.ptr Z14] ((some g),())):Z5u  g (fun r=>r=Zc9 (some g)):=by
 exact ⟨by simp,rfl⟩
def Z6g:=fun (c:Int) (post:Int × Unit→Prop)=>post ((0:Int),())
theorem Zti (c:Int) (w:KS.wf [.ptr Z14,.int .i64] (none,c,())):Z6g  c (fun r=>r=Z2z none c):=by
 exact rfl
def Z6h:=fun (g:Int × List (Int × Int × Int × Int) × List ((Int × Int) × Int) × List (List Int) × List Int × List Nat × List Nat) (c:Int) (post:Int × Unit →
 Prop)=>∀ (a:Bool),a=decide (c<(0:Int))→Br a (post ((0:Int),())) (∃ (h:some g≠none),∀ (a:Bool),a=decide (c≥(↑g.snd.snd.snd.snd.fst.length
 : Int))→Br a (post ((0:Int),())) (∃ (h:some g≠none),∃ (h:(0:Int)≤c∧c<(↑g.snd.snd.snd.snd.fst.length:Int)),post (g.snd.snd.snd.snd.fst.getD
 c.toNat (0:Int),())))
theorem Ztj (g:Int × (List (Int × Int × Int × Int)) × (List ((Int × Int) × Int)) × (List (List Int)) × (List Int) × (List Nat) × List Nat) (c:Int) (w:KS.wf [.ptr Z14,.int .i64] ((some g),c,())):Z6h  g c (fun r=>r=Z2z (some g) c):=by
 rintro _ rfl
 refine Br.intro (fun e=>congrArg r1 ?_) fun e=>?_
 ·have e:=of_decide_eq_true e
  show (0:Int)=if 0≤c∧c<(g.2.2.2.2.1.length:Nat) then g.2.2.2.2.1.getD c.toNat 0 else 0
  rw [if_neg (by omega)]
 have e:=of_decide_eq_false e
 refine ⟨by simp,?_⟩
 rintro _ rfl
 refine Br.intro (fun f=>congrArg r1 ?_) fun f=>?_
 ·have f:=of_decide_eq_true f
  show (0:Int)=if 0≤c∧c<(g.2.2.2.2.1.length:Nat) then g.2.2.2.2.1.getD c.toNat 0 else 0
  rw [if_neg (by omega)]
 have f:=of_decide_eq_false f
 refine ⟨by simp,⟨by omega,by omega⟩,congrArg r1 ?_⟩
 show g.2.2.2.2.1.getD c.toNat 0=if 0≤c∧c<(g.2.2.2.2.1.length:Nat) then g.2.2.2.2.1.getD c.toNat 0 else 0
 rw [if_pos ⟨by omega,by omega⟩]
end Go.Lift

namespace Go.Lift
open Go.Proofs
def Z43:Con:=.det [.ptr Z14] [.snap (.int .i64)] (fun _=>True) (fun x=>Zi x.1)
def Z6i:Cx:=⟨Zd Zf,Ze [],RbG⟩
theorem Znf:CxOk Tryz.prog Z6i:=⟨Z3 Z6,fun f c h=>by cases h⟩
theorem Zrn:FnAt Tryz.prog 31 Tryz.f31.ntmps Tryz.f31.results.toList (Tryz.f31.body.getD .skip):=⟨Tryz.f31,Tryz.func31,rfl,rfl,by simp,by decide⟩
theorem Zng  (post:Int × Unit→Prop):Z9 Z6i nHn Tryz.f31.ntmps Tryz.f31.results.toList (Tryz.f31.body.getD .skip) [.ptr Z14] [.snap (.int .i64)] (none,()) post=Z5r   post:=by kernel_rfl
theorem Znh (g:Int × (List (Int × Int × Int × Int)) × (List ((Int × Int) × Int)) × (List (List Int)) × (List Int) × (List Nat) × List Nat) (post:Int × Unit→Prop):Z9 Z6i nHn Tryz.f31.ntmps Tryz.f31.results.toList (Tryz.f31.body.getD .skip) [.ptr Z14] [.snap (.int .i64)] ((some g),()) post=Z5s  g post:=by kernel_rfl
def Ztk (x:KS [.ptr Z14]) (post:RS [.snap (.int .i64)]→Prop):Prop:=match x with
 | (none,y)=>Z5r   post
 | (some g,y)=>Z5s  g post
theorem Z6j:Z43.holds Tryz.prog RbG 31 :=
 detP Znf Z8 nHn Zrn (F:=Ztk) (fun x post=>match x with
  | (none,y)=>Zng  post
  | (some g,y)=>Znh g post) fun x h w=>match x,h,w with
  | (none,y),h,w=>Zrj   w
  | (some g,y),h,w=>Zrk  g w
def Z6k:Con:=.det [.ptr Z14] [.snap (.int .i64)] (fun _=>True) (fun x=>Zc9 x.1)
def Z6l:Cx:=⟨Zd Zf,Ze [],RbG⟩
theorem Zni:CxOk Tryz.prog Z6l:=⟨Z3 Z6,fun f c h=>by cases h⟩
theorem Zro:FnAt Tryz.prog 55 Tryz.f55.ntmps Tryz.f55.results.toList (Tryz.f55.body.getD .skip):=⟨Tryz.f55,Tryz.func55,rfl,rfl,by simp,by decide⟩
theorem Znj  (post:Int × Unit→Prop):Z9 Z6l nHn Tryz.f55.ntmps Tryz.f55.results.toList (Tryz.f55.body.getD .skip) [.ptr Z14] [.snap (.int .i64)] (none,()) post=Z5t   post:=by kernel_rfl
theorem Znk (g:Int × (List (Int × Int × Int × Int)) × (List ((Int × Int) × Int)) × (List (List Int)) × (List Int) × (List Nat) × List Nat) (post:Int × Unit→Prop):Z9 Z6l nHn Tryz.f55.ntmps Tryz.f55.results.toList (Tryz.f55.body.getD .skip) [.ptr Z14] [.snap (.int .i64)] ((some g),()) post=Z5u  g post:=by kernel_rfl
def Ztl (x:KS [.ptr Z14]) (post:RS [.snap (.int .i64)]→Prop):Prop:=match x with
 | (none,y)=>Z5t   post
 | (some g,y)=>Z5u  g post
theorem Zbr:Z6k.holds Tryz.prog RbG 55 :=
 detP Zni Z8 nHn Zro (F:=Ztl) (fun x post=>match x with
  | (none,y)=>Znj  post
  | (some g,y)=>Znk g post) fun x h w=>match x,h,w with
  | (none,y),h,w=>Zrl   w
  | (some g,y),h,w=>Zrm  g w
def Z7i:Con:=.det [.ptr Z14,.int .i64] [.snap (.int .i64)] (fun _=>True) (fun x=>Z2z x.1 x.2.1)
def Z6m:Hn:=nHn
def Z7j:Cx:=⟨Zd Zf,Ze [],RbG⟩
theorem Zpc:CxOk Tryz.prog Z7j:=⟨Z3 Z6,fun f c h=>by cases h⟩
theorem Ztm:FnAt Tryz.prog 38 Tryz.f38.ntmps Tryz.f38.results.toList (Tryz.f38.body.getD .skip):=⟨Tryz.f38,Tryz.func38,rfl,rfl,by simp,by decide⟩
theorem Zpd (c:Int) (post:Int × Unit→Prop):Z9 Z7j Z6m Tryz.f38.ntmps Tryz.f38.results.toList (Tryz.f38.body.getD .skip) [.ptr Z14,.int .i64] [.snap (.int .i64)] (none,c,()) post=Z6g  c post:=by kernel_rfl
theorem Zpe (g:Int × (List (Int × Int × Int × Int)) × (List ((Int × Int) × Int)) × (List (List Int)) × (List Int) × (List Nat) × List Nat) (c:Int) (post:Int × Unit→Prop):Z9 Z7j Z6m Tryz.f38.ntmps Tryz.f38.results.toList (Tryz.f38.body.getD .skip) [.ptr Z14,.int .i64] [.snap (.int .i64)] ((some g),c,()) post=Z6h  g c post:=by kernel_rfl
def Zwk (x:KS [.ptr Z14,.int .i64]) (post:RS [.snap (.int .i64)]→Prop):Prop:=match x with
 | (none,y)=>Z6g  y.1 post
 | (some g,y)=>Z6h  g y.1 post
theorem Zez:Z7i.holds Tryz.prog RbG 38 :=
 detP Zpc Z8 Z6m Ztm (F:=Zwk) (fun x post=>match x with
  | (none,y)=>Zpd y.1 post
  | (some g,y)=>Zpe g y.1 post) fun x h w=>match x,h,w with
  | (none,y),h,w=>Zti  y.1 w
  | (some g,y),h,w=>Ztj  g y.1 w
end Go.Lift
