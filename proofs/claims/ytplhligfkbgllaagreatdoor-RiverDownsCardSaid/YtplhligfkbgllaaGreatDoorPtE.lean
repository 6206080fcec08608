/- A part of the proof of RiverDownsCard: an own lifter of code into plain terms, and plain laws. -/
import Derived.Test.YtplhligfkbgllaaGreatDoorPtD
set_option linter.unusedVariables false
set_option linter.unusedSimpArgs false
set_option linter.unusedSectionVars false
open Go.IntKind (i64 u64 u32 u8)
open Go.FloatKind (f64 f32)
namespace Go.Lift
def Zd1:=fun (a b:Int) (post:Nat × Unit→Prop)=>∀ (a_1:Nat),FRes f64 (f64.format.div (f64.nearest a)
 (f64.nearest b)) a_1→post (a_1,())
theorem Z15a (a:Int) (b:Int) (h:Zff a b):Zd1  a b (fun r=>r=Z2u a b):=by
 intro r hr
 exact congrArg r1 (Z1bb h.1 h.2.1 h.2.2 hr)
def Zd2:=fun (ty72 ty98:Nat) (f:Int) (s t:Nat) (post:(Nat × Nat × Nat) × Unit→Prop)=>∃ (post_1:Unit→List Nat × Unit→Prop),(∃ (h:(0:Int)≤(0 :
 Int)∧(0:Int)<(↑(3:Nat):Int)),∃ (h:(0:Int)≤f∧f<(↑(6:Nat):Int)),∃ (h:(0:Int)≤(0:Int)∧(0:Int)<(↑(3:Nat):Int)),∃ (h:(0:Int)≤(0 :
 Int)∧(0:Int)<(↑(3:Nat):Int)),Br (List.getD (List.getD (Zm.getD f.toNat (K.arr (3:Nat) (K.arr (3:Nat) (K.int i64))).dflt) (Int.toNat (0:Int)) (K.arr
 (3:Nat) (K.int i64)).dflt) (Int.toNat (0:Int)) (0:Int)==(1:Int)) (∃ (h:True),∃ (h:(0:Int)≤(0:Int)∧(0:Int)<(↑(3:Nat):Int)∧(3:Nat) ≤
 (List.replicate (3:Nat) (0:Nat)).length),HIs [HObj.box Md.rw ty72 [SV.val (Go.Value.float f64 (0:Nat)),SV.val (Go.Value.float f64 (0:Nat)),
 SV.val (Go.Value.float f64 (0:Nat))],HObj.row Md.rw ty98 (K.flt f64) ((List.replicate (3:Nat) (0:Nat)).set (Int.toNat (0:Int)) (Zk
 ([(4607182418800017408:Nat),s,t].getD (Int.toNat (0:Int)) (0:Nat))).fst)] [HObj.box Md.rw ty72 [SV.val (Go.Value.float f64 (0:Nat)),SV.val (Go.Value.float
 f64 (0:Nat)),SV.val (Go.Value.float f64 (0:Nat))],HObj.row Md.rw ty98 (K.flt f64) ((List.replicate (3:Nat) (0:Nat)).set (Int.toNat
 (0:Int)) (Zk ([(4607182418800017408:Nat),s,t].getD (Int.toNat (0:Int)) (0:Nat))).fst)]∧post_1 () ((List.replicate (3:Nat) (0:Nat)).set (Int.toNat (0:Int))
 (Zk ([(4607182418800017408:Nat),s,t].getD (Int.toNat (0:Int)) (0:Nat))).fst,())) (Br (List.getD (List.getD (Zm.getD f.toNat (K.arr (3:Nat) (K.arr (3:Nat)
 (K.int i64))).dflt) (Int.toNat (0:Int)) (K.arr (3:Nat) (K.int i64)).dflt) (Int.toNat (0:Int)) (0:Int)==(-1:Int)) (∃ (h:True),∃ (h:(0:Int)≤(0 :
 Int)∧(0:Int)<(↑(3:Nat):Int)∧(3:Nat)≤(List.replicate (3:Nat) (0:Nat)).length),HIs [HObj.box Md.rw ty72 [SV.val (Go.Value.float f64 (0:Nat)),
 SV.val (Go.Value.float f64 (0:Nat)),SV.val (Go.Value.float f64 (0:Nat))],HObj.row Md.rw ty98 (K.flt f64) ((List.replicate (3:Nat) (0
 : Nat)).set (Int.toNat (0:Int)) (Zk (Go.Op.negFloat f64 ([(4607182418800017408:Nat),s,t].getD (Int.toNat (0:Int)) (0:Nat)))).fst)] [HObj.box Md.rw ty72
 [SV.val (Go.Value.float f64 (0:Nat)),SV.val (Go.Value.float f64 (0:Nat)),SV.val (Go.Value.float f64 (0:Nat))],HObj.row Md.rw ty98
 (K.flt f64) ((List.replicate (3:Nat) (0:Nat)).set (Int.toNat (0:Int)) (Zk (Go.Op.negFloat f64 ([(4607182418800017408:Nat),s,t].getD
 (Int.toNat (0:Int)) (0:Nat)))).fst)]∧post_1 () ((List.replicate (3:Nat) (0:Nat)).set (Int.toNat (0:Int)) (Zk (Go.Op.negFloat f64
 ([(4607182418800017408:Nat),s,t].getD (Int.toNat (0:Int)) (0:Nat)))).fst,())) (HIs [HObj.box Md.rw ty72 [SV.val (Go.Value.float f64 (0:Nat)),SV.val
 (Go.Value.float f64 (0:Nat)),SV.val (Go.Value.float f64 (0:Nat))],HObj.row Md.rw ty98 (K.flt f64) (List.replicate (3:Nat) (0 :
 Nat))] [HObj.box Md.rw ty72 [SV.val (Go.Value.float f64 (0:Nat)),SV.val (Go.Value.float f64 (0:Nat)),SV.val (Go.Value.float f64 (0 :
 Nat))],HObj.row Md.rw ty98 (K.flt f64) (List.replicate (3:Nat) (0:Nat))]∧post_1 () (List.replicate (3:Nat) (0:Nat),()))))∧∀ (x:Unit) (y:List Nat ×
 Unit),post_1 x y→∃ (post_2:Unit→List Nat × Unit→Prop),(∃ (h:(0:Int)≤i64.wrap ((0:Int)+(1:Int))∧i64.wrap ((0:Int)+(1:Int))<(↑(3 :
 Nat):Int)),∃ (h:(0:Int)≤f∧f<(↑(6:Nat):Int)),∃ (h:(0:Int)≤i64.wrap ((0:Int)+(1:Int))∧i64.wrap ((0:Int)+(1:Int))<(↑(3:Nat)
 : Int)),∃ (h:(0:Int)≤(0:Int)∧(0:Int)<(↑(3:Nat):Int)),Br (List.getD (List.getD (Zm.getD f.toNat (K.arr (3:Nat) (K.arr (3:Nat) (K.int
 i64))).dflt) (i64.wrap ((0:Int)+(1:Int))).toNat (K.arr (3:Nat) (K.int i64)).dflt) (Int.toNat (0:Int)) (0:Int)==(1:Int)) (∃ (h:True),∃ (h
 : (0:Int)≤(0:Int)∧(0:Int)<(↑(3:Nat):Int)∧(3:Nat)≤y.fst.length),HIs [HObj.box Md.rw ty72 [SV.val (Go.Value.float f64 (0:Nat)),SV.val
 (Go.Value.float f64 (0:Nat)),SV.val (Go.Value.float f64 (0:Nat))],HObj.row Md.rw ty98 (K.flt f64) (y.fst.set (Int.toNat (0:Int))
 (Zk ([(4607182418800017408:Nat),s,t].getD (i64.wrap ((0:Int)+(1:Int))).toNat (0:Nat))).fst)] [HObj.box Md.rw ty72 [SV.val (Go.Value.float f64
 (0:Nat)),SV.val (Go.Value.float f64 (0:Nat)),SV.val (Go.Value.float f64 (0:Nat))],HObj.row Md.rw ty98 (K.flt f64) (y.fst.set
 (Int.toNat (0:Int)) (Zk ([(4607182418800017408:Nat),s,t].getD (i64.wrap ((0:Int)+(1:Int))).toNat (0:Nat))).fst)]∧post_2 () (y.fst.set (Int.toNat (0 :
 Int)) (Zk ([(4607182418800017408:Nat),s,t].getD (i64.wrap ((0:Int)+(1:Int))).toNat (0:Nat))).fst,())) (Br (List.getD (List.getD (Zm.getD f.toNat
 (K.arr (3:Nat) (K.arr (3:Nat) (K.int i64))).dflt) (i64.wrap ((0:Int)+(1:Int))).toNat (K.arr (3:Nat) (K.int i64)).dflt) (Int.toNat (0:Int)) (0
 : Int)==(-1:Int)) (∃ (h:True),∃ (h:(0:Int)≤(0:Int)∧(0:Int)<(↑(3:Nat):Int)∧(3:Nat)≤y.fst.length),HIs [HObj.box Md.rw ty72 [SV.val (Go.Value.float
 f64 (0:Nat)),SV.val (Go.Value.float f64 (0:Nat)),SV.val (Go.Value.float f64 (0:Nat))],HObj.row Md.rw ty98 (K.flt f64)
 (y.fst.set (Int.toNat (0:Int)) (Zk (Go.Op.negFloat f64 ([(4607182418800017408:Nat),s,t].getD (i64.wrap ((0:Int)+(1:Int))).toNat (0 :
 Nat)))).fst)] [HObj.box Md.rw ty72 [SV.val (Go.Value.float f64 (0:Nat)),SV.val (Go.Value.float f64 (0:Nat)),SV.val (Go.Value.float f64
 (0:Nat))],HObj.row Md.rw ty98 (K.flt f64) (y.fst.set (Int.toNat (0:Int)) (Zk (Go.Op.negFloat f64 ([(4607182418800017408:Nat),s,t].getD
 (i64.wrap ((0:Int)+(1:Int))).toNat (0:Nat)))).fst)]∧post_2 () (y.fst.set (Int.toNat (0:Int)) (Zk (Go.Op.negFloat f64 ([(4607182418800017408 :
 Nat),s,t].getD (i64.wrap ((0:Int)+(1:Int))).toNat (0:Nat)))).fst,())) (HIs [HObj.box Md.rw ty72 [SV.val (Go.Value.float f64 (0:Nat)),SV.val
 (Go.Value.float f64 (0:Nat)),SV.val (Go.Value.float f64 (0:Nat))],HObj.row Md.rw ty98 (K.flt f64) y.fst] [HObj.box Md.rw ty72 [SV.val
 (Go.Value.float f64 (0:Nat)),SV.val (Go.Value.float f64 (0:Nat)),SV.val (Go.Value.float f64 (0:Nat))],HObj.row Md.rw ty98 (K.flt
 f64) y.fst]∧post_2 () (y.fst,()))))∧∀ (x:Unit) (y:List Nat × Unit),post_2 x y→∃ (post_3:Unit→List Nat × Unit→Prop),(∃ (h:(0:Int) ≤
 i64.wrap (i64.wrap ((0:Int)+(1:Int))+(1:Int))∧i64.wrap (i64.wrap ((0:Int)+(1:Int))+(1:Int))<(↑(3:Nat):Int)),∃ (h:(0
 : Int)≤f∧f<(↑(6:Nat):Int)),∃ (h:(0:Int)≤i64.wrap (i64.wrap ((0:Int)+(1:Int))+(1:Int))∧i64.wrap (i64.wrap ((0:Int) +
 (1:Int))+(1:Int))<(↑(3:Nat):Int)),∃ (h:(0:Int)≤(0:Int)∧(0:Int)<(↑(3:Nat):Int)),Br (List.getD (List.getD (Zm.getD f.toNat (K.arr (3:Nat)
 (K.arr (3:Nat) (K.int i64))).dflt) (i64.wrap (i64.wrap ((0:Int)+(1:Int))+(1:Int))).toNat (K.arr (3:Nat) (K.int i64)).dflt) (Int.toNat
 (0:Int)) (0:Int)==(1:Int)) (∃ (h:True),∃ (h:(0:Int)≤(0:Int)∧(0:Int)<(↑(3:Nat):Int)∧(3:Nat)≤y.fst.length),HIs [HObj.box Md.rw ty72 [SV.val
 (Go.Value.float f64 (0:Nat)),SV.val (Go.Value.float f64 (0:Nat)),SV.val (Go.Value.float f64 (0:Nat))],HObj.row Md.rw ty98 (K.flt
 f64) (y.fst.set (Int.toNat (0:Int)) (Zk ([(4607182418800017408:Nat),s,t].getD (i64.wrap (i64.wrap ((0:Int)+(1:Int))+(1 :
 Int))).toNat (0:Nat))).fst)] [HObj.box Md.rw ty72 [SV.val (Go.Value.float f64 (0:Nat)),SV.val (Go.Value.float f64 (0:Nat)),SV.val (Go.Value.float
 f64 (0:Nat))],HObj.row Md.rw ty98 (K.flt f64) (y.fst.set (Int.toNat (0:Int)) (Zk ([(4607182418800017408:Nat),s,t].getD (i64.wrap
 (i64.wrap ((0:Int)+(1:Int))+(1:Int))).toNat (0:Nat))).fst)]∧post_3 () (y.fst.set (Int.toNat (0:Int)) (Zk ([(4607182418800017408:Nat),s,t].getD
 (i64.wrap (i64.wrap ((0:Int)+(1:Int))+(1:Int))).toNat (0:Nat))).fst,())) (Br (List.getD (List.getD (Zm.getD f.toNat (K.arr (3:Nat) (K.arr (3 :
 Nat) (K.int i64))).dflt) (i64.wrap (i64.wrap ((0:Int)+(1:Int))+(1:Int))).toNat (K.arr (3:Nat) (K.int i64)).dflt) (Int.toNat (0:Int))
 (0:Int)==(-1:Int)) (∃ (h:True),∃ (h:(0:Int)≤(0:Int)∧(0:Int)<(↑(3:Nat):Int)∧(3:Nat)≤y.fst.length),HIs [HObj.box Md.rw ty72 [SV.val (Go.Value.float
 f64 (0:Nat)),SV.val (Go.Value.float f64 (0:Nat)),SV.val (Go.Value.float f64 (0:Nat))],HObj.row Md.rw ty98 (K.flt f64)
 (y.fst.set (Int.toNat (0:Int)) (Zk (Go.Op.negFloat f64 ([(4607182418800017408:Nat),s,t].getD (i64.wrap (i64.wrap ((0:Int)+(1:Int)) +
 (1:Int))).toNat (0:Nat)))).fst)] [HObj.box Md.rw ty72 [SV.val (Go.Value.float f64 (0:Nat)),SV.val (Go.Value.float f64 (0:Nat)),SV.val
 (Go.Value.float f64 (0:Nat))],HObj.row Md.rw ty98 (K.flt f64) (y.fst.set (Int.toNat (0:Int)) (Zk (Go.Op.negFloat f64
 ([(4607182418800017408:Nat),s,t].getD (i64.wrap (i64.wrap ((0:Int)+(1:Int))+(1:Int))).toNat (0:Nat)))).fst)]∧post_3 () (y.fst.set (Int.toNat (0 :
 Int)) (Zk (Go.Op.negFloat f64 ([(4607182418800017408:Nat),s,t].getD (i64.wrap (i64.wrap ((0:Int)+(1:Int))+(1:Int))).toNat (0 :
 Nat)))).fst,())) (HIs [HObj.box Md.rw ty72 [SV.val (Go.Value.float f64 (0:Nat)),SV.val (Go.Value.float f64 (0:Nat)),SV.val (Go.Value.float
 f64 (0:Nat))],HObj.row Md.rw ty98 (K.flt f64) y.fst] [HObj.box Md.rw ty72 [SV.val (Go.Value.float f64 (0:Nat)),SV.val (Go.Value.float
 f64 (0:Nat)),SV.val (Go.Value.float f64 (0:Nat))],HObj.row Md.rw ty98 (K.flt f64) y.fst]∧post_3 () (y.fst,()))))∧∀ (x:Unit) (y
 : List Nat × Unit),post_3 x y→∃ (post_4:Unit→List Nat × Unit→Prop),(∃ (h:(0:Int)≤(0:Int)∧(0:Int)<(↑(3:Nat):Int)),∃ (h:(0:Int)≤f∧f<(↑(6 :
 Nat):Int)),∃ (h:(0:Int)≤(0:Int)∧(0:Int)<(↑(3:Nat):Int)),∃ (h:(0:Int)≤i64.wrap ((0:Int)+(1:Int))∧i64.wrap ((0:Int)+(1 :
 Int))<(↑(3:Nat):Int)),Br (List.getD (List.getD (Zm.getD f.toNat (K.arr (3:Nat) (K.arr (3:Nat) (K.int i64))).dflt) (Int.toNat (0:Int)) (K.arr (3:Nat)
 (K.int i64)).dflt) (i64.wrap ((0:Int)+(1:Int))).toNat (0:Int)==(1:Int)) (∃ (h:True),∃ (h:(0:Int)≤i64.wrap ((0:Int)+(1:Int)) ∧
 i64.wrap ((0:Int)+(1:Int))<(↑(3:Nat):Int)∧(3:Nat)≤y.fst.length),HIs [HObj.box Md.rw ty72 [SV.val (Go.Value.float f64 (0:Nat)),SV.val
 (Go.Value.float f64 (0:Nat)),SV.val (Go.Value.float f64 (0:Nat))],HObj.row Md.rw ty98 (K.flt f64) (y.fst.set (i64.wrap ((0 :
 Int)+(1:Int))).toNat (Zk ([(4607182418800017408:Nat),s,t].getD (Int.toNat (0:Int)) (0:Nat))).fst)] [HObj.box Md.rw ty72 [SV.val (Go.Value.float f64 (0
 : Nat)),SV.val (Go.Value.float f64 (0:Nat)),SV.val (Go.Value.float f64 (0:Nat))],HObj.row Md.rw ty98 (K.flt f64) (y.fst.set
 (i64.wrap ((0:Int)+(1:Int))).toNat (Zk ([(4607182418800017408:Nat),s,t].getD (Int.toNat (0:Int)) (0:Nat))).fst)]∧post_4 () (y.fst.set (i64.wrap
 ((0:Int)+(1:Int))).toNat (Zk ([(4607182418800017408:Nat),s,t].getD (Int.toNat (0:Int)) (0:Nat))).fst,())) (Br (List.getD (List.getD (Zm.getD f.toNat (K.arr
 (3:Nat) (K.arr (3:Nat) (K.int i64))).dflt) (Int.toNat (0:Int)) (K.arr (3:Nat) (K.int i64)).dflt) (i64.wrap ((0:Int)+(1:Int))).toNat (0:Int)
 == (-1:Int)) (∃ (h:True),∃ (h:(0:Int)≤i64.wrap ((0:Int)+(1:Int))∧i64.wrap ((0:Int)+(1:Int))<(↑(3:Nat):Int)∧(3:Nat) ≤
 y.fst.length),HIs [HObj.box Md.rw ty72 [SV.val (Go.Value.float f64 (0:Nat)),SV.val (Go.Value.float f64 (0:Nat)),SV.val (Go.Value.float
 f64 (0:Nat))],HObj.row Md.rw ty98 (K.flt f64) (y.fst.set (i64.wrap ((0:Int)+(1:Int))).toNat (Zk (Go.Op.negFloat f64
 ([(4607182418800017408:Nat),s,t].getD (Int.toNat (0:Int)) (0:Nat)))).fst)] [HObj.box Md.rw ty72 [SV.val (Go.Value.float f64 (0:Nat)),SV.val (Go.Value.float
 f64 (0:Nat)),SV.val (Go.Value.float f64 (0:Nat))],HObj.row Md.rw ty98 (K.flt f64) (y.fst.set (i64.wrap ((0:Int)+(1 :
 Int))).toNat (Zk (Go.Op.negFloat f64 ([(4607182418800017408:Nat),s,t].getD (Int.toNat (0:Int)) (0:Nat)))).fst)]∧post_4 () (y.fst.set (i64.wrap
 ((0:Int)+(1:Int))).toNat (Zk (Go.Op.negFloat f64 ([(4607182418800017408:Nat),s,t].getD (Int.toNat (0:Int)) (0:Nat)))).fst,())) (HIs [HObj.box Md.rw
 ty72 [SV.val (Go.Value.float f64 (0:Nat)),SV.val (Go.Value.float f64 (0:Nat)),SV.val (Go.Value.float f64 (0:Nat))],HObj.row Md.rw
 ty98 (K.flt f64) y.fst] [HObj.box Md.rw ty72 [SV.val (Go.Value.float f64 (0:Nat)),SV.val (Go.Value.float f64 (0:Nat)),SV.val
 (Go.Value.float f64 (0:Nat))],HObj.row Md.rw ty98 (K.flt f64) y.fst]∧post_4 () (y.fst,()))))∧∀ (x:Unit) (y:List Nat × Unit),post_4 x y→∃
 (post_5:Unit→List Nat × Unit→Prop),(∃ (h:(0:Int)≤i64.wrap ((0:Int)+(1:Int))∧i64.wrap ((0:Int)+(1:Int))<(↑(3:Nat):Int)),∃ (h:(0
 : Int)≤f∧f<(↑(6:Nat):Int)),∃ (h:(0:Int)≤i64.wrap ((0:Int)+(1:Int))∧i64.wrap ((0:Int)+(1:Int))<(↑(3:Nat):Int)),∃ (h:(0 :
 Int)≤i64.wrap ((0:Int)+(1:Int))∧i64.wrap ((0:Int)+(1:Int))<(↑(3:Nat):Int)),Br (List.getD (List.getD (Zm.getD f.toNat (K.arr (3:Nat)
 (K.arr (3:Nat) (K.int i64))).dflt) (i64.wrap ((0:Int)+(1:Int))).toNat (K.arr (3:Nat) (K.int i64)).dflt) (i64.wrap ((0:Int)+(1 :
 Int))).toNat (0:Int)==(1:Int)) (∃ (h:True),∃ (h:(0:Int)≤i64.wrap ((0:Int)+(1:Int))∧i64.wrap ((0:Int)+(1:Int))<(↑(3:Nat):Int) ∧
 (3:Nat)≤y.fst.length),HIs [HObj.box Md.rw ty72 [SV.val (Go.Value.float f64 (0:Nat)),SV.val (Go.Value.float f64 (0:Nat)),SV.val (Go.Value.float
 f64 (0:Nat))],HObj.row Md.rw ty98 (K.flt f64) (y.fst.set (i64.wrap ((0:Int)+(1:Int))).toNat (Zk ([(4607182418800017408:Nat),s,
 t].getD (i64.wrap ((0:Int)+(1:Int))).toNat (0:Nat))).fst)] [HObj.box Md.rw ty72 [SV.val (Go.Value.float f64 (0:Nat)),SV.val (Go.Value.float
 f64 (0:Nat)),SV.val (Go.Value.float f64 (0:Nat))],HObj.row Md.rw ty98 (K.flt f64) (y.fst.set (i64.wrap ((0:Int)+(1 :
 Int))).toNat (Zk ([(4607182418800017408:Nat),s,t].getD (i64.wrap ((0:Int)+(1:Int))).toNat (0:Nat))).fst)]∧post_5 () (y.fst.set (i64.wrap ((0 :
 Int)+(1:Int))).toNat (Zk ([(4607182418800017408:Nat),s,t].getD (i64.wrap ((0:Int)+(1:Int))).toNat (0:Nat))).fst,())) (Br (List.getD (List.getD
 (Zm.getD f.toNat (K.arr (3:Nat) (K.arr (3:Nat) (K.int i64))).dflt) (i64.wrap ((0:Int)+(1:Int))).toNat (K.arr (3:Nat) (K.int i64)).dflt)
 (i64.wrap ((0:Int)+(1:Int))).toNat (0:Int)==(-1:Int)) (∃ (h:True),∃ (h:(0:Int)≤i64.wrap ((0:Int)+(1:Int))∧i64.wrap ((0:Int)
 + (1:Int))<(↑(3:Nat):Int)∧(3:Nat)≤y.fst.length),HIs [HObj.box Md.rw ty72 [SV.val (Go.Value.float f64 (0:Nat)),SV.val (Go.Value.float
 f64 (0:Nat)),SV.val (Go.Value.float f64 (0:Nat))],HObj.row Md.rw ty98 (K.flt f64) (y.fst.set (i64.wrap ((0:Int)+(1 :
 Int))).toNat (Zk (Go.Op.negFloat f64 ([(4607182418800017408:Nat),s,t].getD (i64.wrap ((0:Int)+(1:Int))).toNat (0:Nat)))).fst)] [HObj.box Md.rw
 ty72 [SV.val (Go.Value.float f64 (0:Nat)),SV.val (Go.Value.float f64 (0:Nat)),SV.val (Go.Value.float f64 (0:Nat))],HObj.row Md.rw
 ty98 (K.flt f64) (y.fst.set (i64.wrap ((0:Int)+(1:Int))).toNat (Zk (Go.Op.negFloat f64 ([(4607182418800017408:Nat),s,t].getD
 (i64.wrap ((0:Int)+(1:Int))).toNat (0:Nat)))).fst)]∧post_5 () (y.fst.set (i64.wrap ((0:Int)+(1:Int))).toNat (Zk (Go.Op.negFloat
 f64 ([(4607182418800017408:Nat),s,t].getD (i64.wrap ((0:Int)+(1:Int))).toNat (0:Nat)))).fst,())) (HIs [HObj.box Md.rw ty72 [SV.val
 (Go.Value.float f64 (0:Nat)),SV.val (Go.Value.float f64 (0:Nat)),SV.val (Go.Value.float f64 (0:Nat))],HObj.row Md.rw ty98 (K.flt
 f64) y.fst] [HObj.box Md.rw ty72 [SV.val (Go.Value.float f64 (0:Nat)),SV.val (Go.Value.float f64 (0:Nat)),SV.val (Go.Value.float
 f64 (0:Nat))],HObj.row Md.rw ty98 (K.flt f64) y.fst]∧post_5 () (y.fst,()))))∧∀ (x:Unit) (y:List Nat × Unit),post_5 x y→∃ (post_6:Unit →
 List Nat × Unit→Prop),(∃ (h:(0:Int)≤i64.wrap (i64.wrap ((0:Int)+(1:Int))+(1:Int))∧i64.wrap (i64.wrap ((0:Int)+(1:Int)) +
 (1:Int))<(↑(3:Nat):Int)),∃ (h:(0:Int)≤f∧f<(↑(6:Nat):Int)),∃ (h:(0:Int)≤i64.wrap (i64.wrap ((0:Int)+(1:Int))+(1:Int)) ∧
 i64.wrap (i64.wrap ((0:Int)+(1:Int))+(1:Int))<(↑(3:Nat):Int)),∃ (h:(0:Int)≤i64.wrap ((0:Int)+(1:Int))∧i64.wrap ((0 :
 Int)+(1:Int))<(↑(3:Nat):Int)),Br (List.getD (List.getD (Zm.getD f.toNat (K.arr (3:Nat) (K.arr (3:Nat) (K.int i64))).dflt) (i64.wrap
 (i64.wrap ((0:Int)+(1:Int))+(1:Int))).toNat (K.arr (3:Nat) (K.int i64)).dflt) (i64.wrap ((0:Int)+(1:Int))).toNat (0:Int)==(1:Int))
 (∃ (h:True),∃ (h:(0:Int)≤i64.wrap ((0:Int)+(1:Int))∧i64.wrap ((0:Int)+(1:Int))<(↑(3:Nat):Int)∧(3:Nat)≤y.fst.length),HIs
 [HObj.box Md.rw ty72 [SV.val (Go.Value.float f64 (0:Nat)),SV.val (Go.Value.float f64 (0:Nat)),SV.val (Go.Value.float f64 (0:Nat))],
 HObj.row Md.rw ty98 (K.flt f64) (y.fst.set (i64.wrap ((0:Int)+(1:Int))).toNat (Zk ([(4607182418800017408:Nat),s,t].getD (i64.wrap
 (i64.wrap ((0:Int)+(1:Int))+(1:Int))).toNat (0:Nat))).fst)] [HObj.box Md.rw ty72 [SV.val (Go.Value.float f64 (0:Nat)),SV.val (Go.Value.float
 f64 (0:Nat)),SV.val (Go.Value.float f64 (0:Nat))],HObj.row Md.rw ty98 (K.flt f64) (y.fst.set (i64.wrap ((0:Int)+(1 :
 Int))).toNat (Zk ([(4607182418800017408:Nat),s,t].getD (i64.wrap (i64.wrap ((0:Int)+(1:Int))+(1:Int))).toNat (0:Nat))).fst)]∧post_6 ()
 (y.fst.set (i64.wrap ((0:Int)+(1:Int))).toNat (Zk ([(4607182418800017408:Nat),s,t].getD (i64.wrap (i64.wrap ((0:Int)+(1:Int))+(1 :
 Int))).toNat (0:Nat))).fst,())) (Br (List.getD (List.getD (Zm.getD f.toNat (K.arr (3:Nat) (K.arr (3:Nat) (K.int i64))).dflt) (i64.wrap
 (i64.wrap ((0:Int)+(1:Int))+(1:Int))).toNat (K.arr (3:Nat) (K.int i64)).dflt) (i64.wrap ((0:Int)+(1:Int))).toNat (0:Int)==(-1:Int))
 (∃ (h:True),∃ (h:(0:Int)≤i64.wrap ((0:Int)+(1:Int))∧i64.wrap ((0:Int)+(1:Int))<(↑(3:Nat):Int)∧(3:Nat)≤y.fst.length),HIs
 [HObj.box Md.rw ty72 [SV.val (Go.Value.float f64 (0:Nat)),SV.val (Go.Value.float f64 (0:Nat)),SV.val (Go.Value.float f64 (0:Nat))],
 HObj.row Md.rw ty98 (K.flt f64) (y.fst.set (i64.wrap ((0:Int)+(1:Int))).toNat (Zk (Go.Op.negFloat f64 ([(4607182418800017408:Nat),s,
 t].getD (i64.wrap (i64.wrap ((0:Int)+(1:Int))+(1:Int))).toNat (0:Nat)))).fst)] [HObj.box Md.rw ty72 [SV.val (Go.Value.float f64 (0 :
 Nat)),SV.val (Go.Value.float f64 (0:Nat)),SV.val (Go.Value.float f64 (0:Nat))],HObj.row Md.rw ty98 (K.flt f64) (y.fst.set
 (i64.wrap ((0:Int)+(1:Int))).toNat (Zk (Go.Op.negFloat f64 ([(4607182418800017408:Nat),s,t].getD (i64.wrap (i64.wrap ((0:Int)
 + (1:Int))+(1:Int))).toNat (0:Nat)))).fst)]∧post_6 () (y.fst.set (i64.wrap ((0:Int)+(1:Int))).toNat (Zk (Go.Op.negFloat f64
 ([(4607182418800017408:Nat),s,t].getD (i64.wrap (i64.wrap ((0:Int)+(1:Int))+(1:Int))).toNat (0:Nat)))).fst,())) (HIs [HObj.box Md.rw ty72 [SV.val
 (Go.Value.float f64 (0:Nat)),SV.val (Go.Value.float f64 (0:Nat)),SV.val (Go.Value.float f64 (0:Nat))],HObj.row Md.rw ty98 (K.flt
 f64) y.fst] [HObj.box Md.rw ty72 [SV.val (Go.Value.float f64 (0:Nat)),SV.val (Go.Value.float f64 (0:Nat)),SV.val (Go.Value.float
 f64 (0:Nat))],HObj.row Md.rw ty98 (K.flt f64) y.fst]∧post_6 () (y.fst,()))))∧∀ (x:Unit) (y:List Nat × Unit),post_6 x y→∃ (post_7:Unit →
 List Nat × Unit→Prop),(∃ (h:(0:Int)≤(0:Int)∧(0:Int)<(↑(3:Nat):Int)),∃ (h:(0:Int)≤f∧f<(↑(6:Nat):Int)),∃ (h:(0:Int)≤(0:Int)∧(0:Int)
 < (↑(3:Nat):Int)),∃ (h:(0:Int)≤i64.wrap (i64.wrap ((0:Int)+(1:Int))+(1:Int))∧i64.wrap (i64.wrap ((0:Int)+(1:Int))+(1
 : Int))<(↑(3:Nat):Int)),Br (List.getD (List.getD (Zm.getD f.toNat (K.arr (3:Nat) (K.arr (3:Nat) (K.int i64))).dflt) (Int.toNat (0:Int)) (K.arr (3:Nat)
 (K.int i64)).dflt) (i64.wrap (i64.wrap ((0:Int)+(1:Int))+(1:Int))).toNat (0:Int)==(1:Int)) (∃ (h:True),∃ (h:(0:Int) ≤
 i64.wrap (i64.wrap ((0:Int)+(1:Int))+(1:Int))∧i64.wrap (i64.wrap ((0:Int)+(1:Int))+(1:Int))<(↑(3:Nat):Int)∧(3:Nat)
 ≤ y.fst.length),HIs [HObj.box Md.rw ty72 [SV.val (Go.Value.float f64 (0:Nat)),SV.val (Go.Value.float f64 (0:Nat)),SV.val (Go.Value.float
 f64 (0:Nat))],HObj.row Md.rw ty98 (K.flt f64) (y.fst.set (i64.wrap (i64.wrap ((0:Int)+(1:Int))+(1:Int))).toNat (Zk
 ([(4607182418800017408:Nat),s,t].getD (Int.toNat (0:Int)) (0:Nat))).fst)] [HObj.box Md.rw ty72 [SV.val (Go.Value.float f64 (0:Nat)),SV.val (Go.Value.float
 f64 (0:Nat)),SV.val (Go.Value.float f64 (0:Nat))],HObj.row Md.rw ty98 (K.flt f64) (y.fst.set (i64.wrap (i64.wrap ((0 :
 Int)+(1:Int))+(1:Int))).toNat (Zk ([(4607182418800017408:Nat),s,t].getD (Int.toNat (0:Int)) (0:Nat))).fst)]∧post_7 () (y.fst.set (i64.wrap
 (i64.wrap ((0:Int)+(1:Int))+(1:Int))).toNat (Zk ([(4607182418800017408:Nat),s,t].getD (Int.toNat (0:Int)) (0:Nat))).fst,())) (Br (List.getD
 (List.getD (Zm.getD f.toNat (K.arr (3:Nat) (K.arr (3:Nat) (K.int i64))).dflt) (Int.toNat (0:Int)) (K.arr (3:Nat) (K.int i64)).dflt) (i64.wrap
 (i64.wrap ((0:Int)+(1:Int))+(1:Int))).toNat (0:Int)==(-1:Int)) (∃ (h:True),∃ (h:(0:Int)≤i64.wrap (i64.wrap ((0:Int)+(1:Int))
 + (1:Int))∧i64.wrap (i64.wrap ((0:Int)+(1:Int))+(1:Int))<(↑(3:Nat):Int)∧(3:Nat)≤y.fst.length),HIs [HObj.box Md.rw ty72 [SV.val
 (Go.Value.float f64 (0:Nat)),SV.val (Go.Value.float f64 (0:Nat)),SV.val (Go.Value.float f64 (0:Nat))],HObj.row Md.rw ty98 (K.flt
 f64) (y.fst.set (i64.wrap (i64.wrap ((0:Int)+(1:Int))+(1:Int))).toNat (Zk (Go.Op.negFloat f64 ([(4607182418800017408 :
 Nat),s,t].getD (Int.toNat (0:Int)) (0:Nat)))).fst)] [HObj.box Md.rw ty72 [SV.val (Go.Value.float f64 (0:Nat)),SV.val (Go.Value.float f64 (0 :
 Nat)),SV.val (Go.Value.float f64 (0:Nat))],HObj.row Md.rw ty98 (K.flt f64) (y.fst.set (i64.wrap (i64.wrap ((0:Int)+(1:Int)) +
 (1:Int))).toNat (Zk (Go.Op.negFloat f64 ([(4607182418800017408:Nat),s,t].getD (Int.toNat (0:Int)) (0:Nat)))).fst)]∧post_7 () (y.fst.set
 (i64.wrap (i64.wrap ((0:Int)+(1:Int))+(1:Int))).toNat (Zk (Go.Op.negFloat f64 ([(4607182418800017408:Nat),s,t].getD (Int.toNat (0 :
 Int)) (0:Nat)))).fst,())) (HIs [HObj.box Md.rw ty72 [SV.val (Go.Value.float f64 (0:Nat)),SV.val (Go.Value.float f64 (0:Nat)),SV.val
 (Go.Value.float f64 (0:Nat))],HObj.row Md.rw ty98 (K.flt f64) y.fst] [HObj.box Md.rw ty72 [SV.val (Go.Value.float f64 (0:Nat)),SV.val
 (Go.Value.float f64 (0:Nat)),SV.val (Go.Value.float f64 (0:Nat))],HObj.row Md.rw ty98 (K.flt f64) y.fst]∧post_7 () (y.fst,())))) ∧
 ∀ (x:Unit) (y:List Nat × Unit),post_7 x y→∃ (post_8:Unit→List Nat × Unit→Prop),(∃ (h:(0:Int)≤i64.wrap ((0:Int)+(1:Int))∧i64.wrap ((0 :
 Int)+(1:Int))<(↑(3:Nat):Int)),∃ (h:(0:Int)≤f∧f<(↑(6:Nat):Int)),∃ (h:(0:Int)≤i64.wrap ((0:Int)+(1:Int))∧i64.wrap ((0:Int)
 + (1:Int))<(↑(3:Nat):Int)),∃ (h:(0:Int)≤i64.wrap (i64.wrap ((0:Int)+(1:Int))+(1:Int))∧i64.wrap (i64.wrap ((0:Int)+(1
 : Int))+(1:Int))<(↑(3:Nat):Int)),Br (List.getD (List.getD (Zm.getD f.toNat (K.arr (3:Nat) (K.arr (3:Nat) (K.int i64))).dflt) (i64.wrap ((0 :
 Int)+(1:Int))).toNat (K.arr (3:Nat) (K.int i64)).dflt) (i64.wrap (i64.wrap ((0:Int)+(1:Int))+(1:Int))).toNat (0:Int)==(1:Int)) (∃ (h
 : True),∃ (h:(0:Int)≤i64.wrap (i64.wrap ((0:Int)+(1:Int))+(1:Int))∧i64.wrap (i64.wrap ((0:Int)+(1:Int))+(1:Int)) <
 (↑(3:Nat):Int)∧(3:Nat)≤y.fst.length),HIs [HObj.box Md.rw ty72 [SV.val (Go.Value.float f64 (0:Nat)),SV.val (Go.Value.float f64 (0:Nat)),
 SV.val (Go.Value.float f64 (0:Nat))],HObj.row Md.rw ty98 (K.flt f64) (y.fst.set (i64.wrap (i64.wrap ((0:Int)+(1:Int))+(1 :
 Int))).toNat (Zk ([(4607182418800017408:Nat),s,t].getD (i64.wrap ((0:Int)+(1:Int))).toNat (0:Nat))).fst)] [HObj.box Md.rw ty72 [SV.val (Go.Value.float
 f64 (0:Nat)),SV.val (Go.Value.float f64 (0:Nat)),SV.val (Go.Value.float f64 (0:Nat))],HObj.row Md.rw ty98 (K.flt f64)
 (y.fst.set (i64.wrap (i64.wrap ((0:Int)+(1:Int))+(1:Int))).toNat (Zk ([(4607182418800017408:Nat),s,t].getD (i64.wrap ((0:Int)+(1 :
 Int))).toNat (0:Nat))).fst)]∧post_8 () (y.fst.set (i64.wrap (i64.wrap ((0:Int)+(1:Int))+(1:Int))).toNat (Zk ([(4607182418800017408:Nat),s,
 t].getD (i64.wrap ((0:Int)+(1:Int))).toNat (0:Nat))).fst,())) (Br (List.getD (List.getD (Zm.getD f.toNat (K.arr (3:Nat) (K.arr (3:Nat) (K.int
 i64))).dflt) (i64.wrap ((0:Int)+(1:Int))).toNat (K.arr (3:Nat) (K.int i64)).dflt) (i64.wrap (i64.wrap ((0:Int)+(1:Int))+(1
 : Int))).toNat (0:Int)==(-1:Int)) (∃ (h:True),∃ (h:(0:Int)≤i64.wrap (i64.wrap ((0:Int)+(1:Int))+(1:Int))∧i64.wrap
 (i64.wrap ((0:Int)+(1:Int))+(1:Int))<(↑(3:Nat):Int)∧(3:Nat)≤y.fst.length),HIs [HObj.box Md.rw ty72 [SV.val (Go.Value.float f64 (0 :
 Nat)),SV.val (Go.Value.float f64 (0:Nat)),SV.val (Go.Value.float f64 (0:Nat))],HObj.row Md.rw ty98 (K.flt f64) (y.fst.set
 (i64.wrap (i64.wrap ((0:Int)+(1:Int))+(1:Int))).toNat (Zk (Go.Op.negFloat f64 ([(4607182418800017408:Nat),s,t].getD
 (i64.wrap ((0:Int)+(1:Int))).toNat (0:Nat)))).fst)] [HObj.box Md.rw ty72 [SV.val (Go.Value.float f64 (0:Nat)),SV.val (Go.Value.float
 f64 (0:Nat)),SV.val (Go.Value.float f64 (0:Nat))],HObj.row Md.rw ty98 (K.flt f64) (y.fst.set (i64.wrap (i64.wrap ((0 :
 Int)+(1:Int))+(1:Int))).toNat (Zk (Go.Op.negFloat f64 ([(4607182418800017408:Nat),s,t].getD (i64.wrap ((0:Int)+(1:Int))).toNat (0 :
 Nat)))).fst)]∧post_8 () (y.fst.set (i64.wrap (i64.wrap ((0:Int)+(1:Int))+(1:Int))).toNat (Zk (Go.Op.negFloat f64
 ([(4607182418800017408:Nat),s,t].getD (i64.wrap ((0:Int)+(1:Int))).toNat (0:Nat)))).fst,())) (HIs [HObj.box Md.rw ty72 [SV.val (Go.Value.float
 f64 (0:Nat)),SV.val (Go.Value.float f64 (0:Nat)),SV.val (Go.Value.float f64 (0:Nat))],HObj.row Md.rw ty98 (K.flt f64)
 y.fst] [HObj.box Md.rw ty72 [SV.val (Go.Value.float f64 (0:Nat)),SV.val (Go.Value.float f64 (0:Nat)),SV.val (Go.Value.float f64 (0 :
 Nat))],HObj.row Md.rw ty98 (K.flt f64) y.fst]∧post_8 () (y.fst,()))))∧∀ (x:Unit) (y:List Nat × Unit),post_8 x y→∃ (post_9:Unit→List Nat × Unit →
 Prop),(∃ (h:(0:Int)≤i64.wrap (i64.wrap ((0:Int)+(1:Int))+(1:Int))∧i64.wrap (i64.wrap ((0:Int)+(1:Int))+(1:Int))<(↑(3
 : Nat):Int)),∃ (h:(0:Int)≤f∧f<(↑(6:Nat):Int)),∃ (h:(0:Int)≤i64.wrap (i64.wrap ((0:Int)+(1:Int))+(1:Int))∧i64.wrap
 (i64.wrap ((0:Int)+(1:Int))+(1:Int))<(↑(3:Nat):Int)),∃ (h:(0:Int)≤i64.wrap (i64.wrap ((0:Int)+(1:Int))+(1:Int)) ∧
 i64.wrap (i64.wrap ((0:Int)+(1:Int))+(1:Int))<(↑(3:Nat):Int)),Br (List.getD (List.getD (Zm.getD f.toNat (K.arr (3:Nat) (K.arr (3:Nat)
 (K.int i64))).dflt) (i64.wrap (i64.wrap ((0:Int)+(1:Int))+(1:Int))).toNat (K.arr (3:Nat) (K.int i64)).dflt) (i64.wrap
 (i64.wrap ((0:Int)+(1:Int))+(1:Int))).toNat (0:Int)==(1:Int)) (∃ (h:True),∃ (h:(0:Int)≤i64.wrap (i64.wrap ((0:Int)+(1:Int))
 + (1:Int))∧i64.wrap (i64.wrap ((0:Int)+(1:Int))+(1:Int))<(↑(3:Nat):Int)∧(3:Nat)≤y.fst.length),HIs [HObj.box Md.rw ty72 [SV.val
 (Go.Value.float f64 (0:Nat)),SV.val (Go.Value.float f64 (0:Nat)),SV.val (Go.Value.float f64 (0:Nat))],HObj.row Md.rw ty98 (K.flt
 f64) (y.fst.set (i64.wrap (i64.wrap ((0:Int)+(1:Int))+(1:Int))).toNat (Zk ([(4607182418800017408:Nat),s,t].getD (i64.wrap
 (i64.wrap ((0:Int)+(1:Int))+(1:Int))).toNat (0:Nat))).fst)] [HObj.box Md.rw ty72 [SV.val (Go.Value.float f64 (0:Nat)),SV.val (Go.Value.float
 f64 (0:Nat)),SV.val (Go.Value.float f64 (0:Nat))],HObj.row Md.rw ty98 (K.flt f64) (y.fst.set (i64.wrap (i64.wrap ((0 :
 Int)+(1:Int))+(1:Int))).toNat (Zk ([(4607182418800017408:Nat),s,t].getD (i64.wrap (i64.wrap ((0:Int)+(1:Int))+(1:Int))).toNat (0 :
 Nat))).fst)]∧post_9 () (y.fst.set (i64.wrap (i64.wrap ((0:Int)+(1:Int))+(1:Int))).toNat (Zk ([(4607182418800017408:Nat),s,t].getD
 (i64.wrap (i64.wrap ((0:Int)+(1:Int))+(1:Int))).toNat (0:Nat))).fst,())) (Br (List.getD (List.getD (Zm.getD f.toNat (K.arr (3:Nat) (K.arr (3 :
 Nat) (K.int i64))).dflt) (i64.wrap (i64.wrap ((0:Int)+(1:Int))+(1:Int))).toNat (K.arr (3:Nat) (K.int i64)).dflt) (i64.wrap
 (i64.wrap ((0:Int)+(1:Int))+(1:Int))).toNat (0:Int)==(-1:Int)) (∃ (h:True),∃ (h:(0:Int)≤i64.wrap (i64.wrap ((0:Int)+(1:Int))
 + (1:Int))∧i64.wrap (i64.wrap ((0:Int)+(1:Int))+(1:Int))<(↑(3:Nat):Int)∧(3:Nat)≤y.fst.length),HIs [HObj.box Md.rw ty72 [SV.val
 (Go.Value.float f64 (0:Nat)),SV.val (Go.Value.float f64 (0:Nat)),SV.val (Go.Value.float f64 (0:Nat))],HObj.row Md.rw ty98 (K.flt
 f64) (y.fst.set (i64.wrap (i64.wrap ((0:Int)+(1:Int))+(1:Int))).toNat (Zk (Go.Op.negFloat f64 ([(4607182418800017408 :
 Nat),s,t].getD (i64.wrap (i64.wrap ((0:Int)+(1:Int))+(1:Int))).toNat (0:Nat)))).fst)] [HObj.box Md.rw ty72 [SV.val (Go.Value.float f64
 (0:Nat)),SV.val (Go.Value.float f64 (0:Nat)),SV.val (Go.Value.float f64 (0:Nat))],HObj.row Md.rw ty98 (K.flt f64) (y.fst.set
 (i64.wrap (i64.wrap ((0:Int)+(1:Int))+(1:Int))).toNat (Zk (Go.Op.negFloat f64 ([(4607182418800017408:Nat),s,t].getD
 (i64.wrap (i64.wrap ((0:Int)+(1:Int))+(1:Int))).toNat (0:Nat)))).fst)]∧post_9 () (y.fst.set (i64.wrap (i64.wrap ((0:Int)+(1 :
 Int))+(1:Int))).toNat (Zk (Go.Op.negFloat f64 ([(4607182418800017408:Nat),s,t].getD (i64.wrap (i64.wrap ((0:Int)+(1:Int))+(1 :
 Int))).toNat (0:Nat)))).fst,())) (HIs [HObj.box Md.rw ty72 [SV.val (Go.Value.float f64 (0:Nat)),SV.val (Go.Value.float f64 (0:Nat)),SV.val
 (Go.Value.float f64 (0:Nat))],HObj.row Md.rw ty98 (K.flt f64) y.fst] [HObj.box Md.rw ty72 [SV.val (Go.Value.float f64 (0:Nat)),SV.val
 (Go.Value.float f64 (0:Nat)),SV.val (Go.Value.float f64 (0:Nat))],HObj.row Md.rw ty98 (K.flt f64) y.fst]∧post_9 () (y.fst,())))) ∧
 ∀ (x:Unit) (y:List Nat × Unit),post_9 x y→∃ (h:(0:Int)≤(0:Int)∧(0:Int)<(↑(3:Nat):Int)∧(3:Nat)≤y.fst.length),∃ (h:(0:Int)≤(1:Int)∧(1 :
 Int)<(↑(3:Nat):Int)∧(3:Nat)≤y.fst.length),∃ (h:(0:Int)≤(2:Int)∧(2:Int)<(↑(3:Nat):Int)∧(3:Nat)≤y.fst.length),∃ (h:WV (y.fst.getD (Int.toNat
 (0:Int)) (0:Nat),y.fst.getD (Int.toNat (1:Int)) (0:Nat),y.fst.getD (Int.toNat (2:Int)) (0:Nat))),post (((Zxn (y.fst.getD (Int.toNat (0:Int)) (0:Nat),
 y.fst.getD (Int.toNat (1:Int)) (0:Nat),y.fst.getD (Int.toNat (2:Int)) (0:Nat))).fst.fst,(Zxn (y.fst.getD (Int.toNat (0:Int)) (0:Nat),y.fst.getD (Int.toNat (1 :
 Int)) (0:Nat),y.fst.getD (Int.toNat (2:Int)) (0:Nat))).fst.snd.fst,(Zxn (y.fst.getD (Int.toNat (0:Int)) (0:Nat),y.fst.getD (Int.toNat (1:Int)) (0:Nat),
 y.fst.getD (Int.toNat (2:Int)) (0:Nat))).fst.snd.snd),())
theorem Z15b (ty0 ty1:Nat) (f:Int) (s:Nat) (t:Nat) (h:Zxr f s t):Zd2 ty0 ty1 f s t (fun r=>r=Zc8 f s t):=by
 obtain ⟨f0,f5,hs,ht⟩:=h
 have hfb:0≤f∧f<((6:Nat):Int):=⟨f0,by omega⟩
 refine ⟨fun _ y=>y.1=[(Z9 (Z5 f 0 0) (List.getD [(4607182418800017408:Nat),s,t] (Int.toNat (0:Int)) (0:Nat)) 0),0,0],⟨by decide,hfb,by decide,by decide,Z6v (m:=(Z5 f 0 0)) (v:=(List.getD [(4607182418800017408:Nat),s,t] (Int.toNat (0:Int)) (0:Nat))) (c:=0) (P:=fun z=>[z,0,0]=[(Z9 (Z5 f 0 0) (List.getD [(4607182418800017408:Nat),s,t] (Int.toNat (0:Int)) (0:Nat)) 0),0,0]) rfl (fun e=>⟨trivial,⟨by decide,by decide,Nat.le_refl 3⟩,rfl,e⟩) (fun e=>⟨trivial,⟨by decide,by decide,Nat.le_refl 3⟩,rfl,e⟩) (fun e=>⟨rfl,e⟩)⟩,?_⟩
 rintro ⟨⟩ ⟨_,⟨⟩⟩ rfl
 refine ⟨fun _ y=>y.1=[(Z9 (Z5 f 1 0) s (Z9 (Z5 f 0 0) (List.getD [(4607182418800017408:Nat),s,t] (Int.toNat (0:Int)) (0:Nat)) 0)),0,0],⟨by decide,hfb,by decide,by decide,Z6v (m:=(Z5 f 1 0)) (v:=s) (c:=(Z9 (Z5 f 0 0) (List.getD [(4607182418800017408:Nat),s,t] (Int.toNat (0:Int)) (0:Nat)) 0)) (P:=fun z=>[z,0,0]=[(Z9 (Z5 f 1 0) s (Z9 (Z5 f 0 0) (List.getD [(4607182418800017408:Nat),s,t] (Int.toNat (0:Int)) (0:Nat)) 0)),0,0]) rfl (fun e=>⟨trivial,⟨by decide,by decide,Nat.le_refl 3⟩,rfl,e⟩) (fun e=>⟨trivial,⟨by decide,by decide,Nat.le_refl 3⟩,rfl,e⟩) (fun e=>⟨rfl,e⟩)⟩,?_⟩
 rintro ⟨⟩ ⟨_,⟨⟩⟩ rfl
 refine ⟨fun _ y=>y.1=[(Z9 (Z5 f 2 0) t (Z9 (Z5 f 1 0) s (Z9 (Z5 f 0 0) (List.getD [(4607182418800017408:Nat),s,t] (Int.toNat (0:Int)) (0:Nat)) 0))),0,0],⟨by decide,hfb,by decide,by decide,Z6v (m:=(Z5 f 2 0)) (v:=t) (c:=(Z9 (Z5 f 1 0) s (Z9 (Z5 f 0 0) (List.getD [(4607182418800017408:Nat),s,t] (Int.toNat (0:Int)) (0:Nat)) 0))) (P:=fun z=>[z,0,0]=[(Z9 (Z5 f 2 0) t (Z9 (Z5 f 1 0) s (Z9 (Z5 f 0 0) (List.getD [(4607182418800017408:Nat),s,t] (Int.toNat (0:Int)) (0:Nat)) 0))),0,0]) rfl (fun e=>⟨trivial,⟨by decide,by decide,Nat.le_refl 3⟩,rfl,e⟩) (fun e=>⟨trivial,⟨by decide,by decide,Nat.le_refl 3⟩,rfl,e⟩) (fun e=>⟨rfl,e⟩)⟩,?_⟩
 rintro ⟨⟩ ⟨_,⟨⟩⟩ rfl
 refine ⟨fun _ y=>y.1=[(Z9 (Z5 f 2 0) t (Z9 (Z5 f 1 0) s (Z9 (Z5 f 0 0) (List.getD [(4607182418800017408:Nat),s,t] (Int.toNat (0:Int)) (0:Nat)) 0))),(Z9 (Z5 f 0 1) (List.getD [(4607182418800017408:Nat),s,t] (Int.toNat (0:Int)) (0:Nat)) 0),0],⟨by decide,hfb,by decide,by decide,Z6v (m:=(Z5 f 0 1)) (v:=(List.getD [(4607182418800017408:Nat),s,t] (Int.toNat (0:Int)) (0:Nat))) (c:=0) (P:=fun z=>[(Z9 (Z5 f 2 0) t (Z9 (Z5 f 1 0) s (Z9 (Z5 f 0 0) (List.getD [(4607182418800017408:Nat),s,t] (Int.toNat (0:Int)) (0:Nat)) 0))),z,0]=[(Z9 (Z5 f 2 0) t (Z9 (Z5 f 1 0) s (Z9 (Z5 f 0 0) (List.getD [(4607182418800017408:Nat),s,t] (Int.toNat (0:Int)) (0:Nat)) 0))),(Z9 (Z5 f 0 1) (List.getD [(4607182418800017408:Nat),s,t] (Int.toNat (0:Int)) (0:Nat)) 0),0]) rfl (fun e=>⟨trivial,⟨by decide,by decide,Nat.le_refl 3⟩,rfl,e⟩) (fun e=>⟨trivial,⟨by decide,by decide,Nat.le_refl 3⟩,rfl,e⟩) (fun e=>⟨rfl,e⟩)⟩,?_⟩
 rintro ⟨⟩ ⟨_,⟨⟩⟩ rfl
 refine ⟨fun _ y=>y.1=[(Z9 (Z5 f 2 0) t (Z9 (Z5 f 1 0) s (Z9 (Z5 f 0 0) (List.getD [(4607182418800017408:Nat),s,t] (Int.toNat (0:Int)) (0:Nat)) 0))),(Z9 (Z5 f 1 1) s (Z9 (Z5 f 0 1) (List.getD [(4607182418800017408:Nat),s,t] (Int.toNat (0:Int)) (0:Nat)) 0)),0],⟨by decide,hfb,by decide,by decide,Z6v (m:=(Z5 f 1 1)) (v:=s) (c:=(Z9 (Z5 f 0 1) (List.getD [(4607182418800017408:Nat),s,t] (Int.toNat (0:Int)) (0:Nat)) 0)) (P:=fun z=>[(Z9 (Z5 f 2 0) t (Z9 (Z5 f 1 0) s (Z9 (Z5 f 0 0) (List.getD [(4607182418800017408:Nat),s,t] (Int.toNat (0:Int)) (0:Nat)) 0))),z,0]=[(Z9 (Z5 f 2 0) t (Z9 (Z5 f 1 0) s (Z9 (Z5 f 0 0) (List.getD [(4607182418800017408:Nat),s,t] (Int.toNat (0:Int)) (0:Nat)) 0))),(Z9 (Z5 f 1 1) s (Z9 (Z5 f 0 1) (List.getD [(4607182418800017408:Nat),s,t] (Int.toNat (0:Int)) (0:Nat)) 0)),0]) rfl (fun e=>⟨trivial,⟨by decide,by decide,Nat.le_refl 3⟩,rfl,e⟩) (fun e=>⟨trivial,⟨by decide,by decide,Nat.le_refl 3⟩,rfl,e⟩) (fun e=>⟨rfl,e⟩)⟩,?_⟩
 rintro ⟨⟩ ⟨_,⟨⟩⟩ rfl
 refine ⟨fun _ y=>y.1=[(Z9 (Z5 f 2 0) t (Z9 (Z5 f 1 0) s (Z9 (Z5 f 0 0) (List.getD [(4607182418800017408:Nat),s,t] (Int.toNat (0:Int)) (0:Nat)) 0))),(Z9 (Z5 f 2 1) t (Z9 (Z5 f 1 1) s (Z9 (Z5 f 0 1) (List.getD [(4607182418800017408:Nat),s,t] (Int.toNat (0:Int)) (0:Nat)) 0))),0],⟨by decide,hfb,by decide,by decide,Z6v (m:=(Z5 f 2 1)) (v:=t) (c:=(Z9 (Z5 f 1 1) s (Z9 (Z5 f 0 1) (List.getD [(4607182418800017408:Nat),s,t] (Int.toNat (0:Int)) (0:Nat)) 0))) (P:=fun z=>[(Z9 (Z5 f 2 0) t (Z9 (Z5 f 1 0) s (Z9 (Z5 f 0 0) (List.getD [(4607182418800017408:Nat),s,t] (Int.toNat (0:Int)) (0:Nat)) 0))),z,0]=[(Z9 (Z5 f 2 0) t (Z9 (Z5 f 1 0) s (Z9 (Z5 f 0 0) (List.getD [(4607182418800017408:Nat),s,t] (Int.toNat (0:Int)) (0:Nat)) 0))),(Z9 (Z5 f 2 1) t (Z9 (Z5 f 1 1) s (Z9 (Z5 f 0 1) (List.getD [(4607182418800017408:Nat),s,t] (Int.toNat (0:Int)) (0:Nat)) 0))),0]) rfl (fun e=>⟨trivial,⟨by decide,by decide,Nat.le_refl 3⟩,rfl,e⟩) (fun e=>⟨trivial,⟨by decide,by decide,Nat.le_refl 3⟩,rfl,e⟩) (fun e=>⟨rfl,e⟩)⟩,?_⟩
 rintro ⟨⟩ ⟨_,⟨⟩⟩ rfl
 refine ⟨fun _ y=>y.1=[(Z9 (Z5 f 2 0) t (Z9 (Z5 f 1 0) s (Z9 (Z5 f 0 0) (List.getD [(4607182418800017408:Nat),s,t] (Int.toNat (0:Int)) (0:Nat)) 0))),(Z9 (Z5 f 2 1) t (Z9 (Z5 f 1 1) s (Z9 (Z5 f 0 1) (List.getD [(4607182418800017408:Nat),s,t] (Int.toNat (0:Int)) (0:Nat)) 0))),(Z9 (Z5 f 0 2) (List.getD [(4607182418800017408:Nat),s,t] (Int.toNat (0:Int)) (0:Nat)) 0)],⟨by decide,hfb,by decide,by decide,Z6v (m:=(Z5 f 0 2)) (v:=(List.getD [(4607182418800017408:Nat),s,t] (Int.toNat (0:Int)) (0:Nat))) (c:=0) (P:=fun z=>[(Z9 (Z5 f 2 0) t (Z9 (Z5 f 1 0) s (Z9 (Z5 f 0 0) (List.getD [(4607182418800017408:Nat),s,t] (Int.toNat (0:Int)) (0:Nat)) 0))),(Z9 (Z5 f 2 1) t (Z9 (Z5 f 1 1) s (Z9 (Z5 f 0 1) (List.getD [(4607182418800017408:Nat),s,t] (Int.toNat (0:Int)) (0:Nat)) 0))),z]=[(Z9 (Z5 f 2 0) t (Z9 (Z5 f 1 0) s (Z9 (Z5 f 0 0) (List.getD [(4607182418800017408:Nat),s,t] (Int.toNat (0:Int)) (0:Nat)) 0))),(Z9 (Z5 f 2 1) t (Z9 (Z5 f 1 1) s (Z9 (Z5 f 0 1) (List.getD [(4607182418800017408:Nat),s,t] (Int.toNat (0:Int)) (0:Nat)) 0))),(Z9 (Z5 f 0 2) (List.getD [(4607182418800017408:Nat),s,t] (Int.toNat (0:Int)) (0:Nat)) 0)]) rfl (fun e=>⟨trivial,⟨by decide,by decide,Nat.le_refl 3⟩,rfl,e⟩) (fun e=>⟨trivial,⟨by decide,by decide,Nat.le_refl 3⟩,rfl,e⟩) (fun e=>⟨rfl,e⟩)⟩,?_⟩
 rintro ⟨⟩ ⟨_,⟨⟩⟩ rfl
 refine ⟨fun _ y=>y.1=[(Z9 (Z5 f 2 0) t (Z9 (Z5 f 1 0) s (Z9 (Z5 f 0 0) (List.getD [(4607182418800017408:Nat),s,t] (Int.toNat (0:Int)) (0:Nat)) 0))),(Z9 (Z5 f 2 1) t (Z9 (Z5 f 1 1) s (Z9 (Z5 f 0 1) (List.getD [(4607182418800017408:Nat),s,t] (Int.toNat (0:Int)) (0:Nat)) 0))),(Z9 (Z5 f 1 2) s (Z9 (Z5 f 0 2) (List.getD [(4607182418800017408:Nat),s,t] (Int.toNat (0:Int)) (0:Nat)) 0))],⟨by decide,hfb,by decide,by decide,Z6v (m:=(Z5 f 1 2)) (v:=s) (c:=(Z9 (Z5 f 0 2) (List.getD [(4607182418800017408:Nat),s,t] (Int.toNat (0:Int)) (0:Nat)) 0)) (P:=fun z=>[(Z9 (Z5 f 2 0) t (Z9 (Z5 f 1 0) s (Z9 (Z5 f 0 0) (List.getD [(4607182418800017408:Nat),s,t] (Int.toNat (0:Int)) (0:Nat)) 0))),(Z9 (Z5 f 2 1) t (Z9 (Z5 f 1 1) s (Z9 (Z5 f 0 1) (List.getD [(4607182418800017408:Nat),s,t] (Int.toNat (0:Int)) (0:Nat)) 0))),z]=[(Z9 (Z5 f 2 0) t (Z9 (Z5 f 1 0) s (Z9 (Z5 f 0 0) (List.getD [(4607182418800017408:Nat),s,t] (Int.toNat (0:Int)) (0:Nat)) 0))),(Z9 (Z5 f 2 1) t (Z9 (Z5 f 1 1) s (Z9 (Z5 f 0 1) (List.getD [(4607182418800017408:Nat),s,t] (Int.toNat (0:Int)) (0:Nat)) 0))),(Z9 (Z5 f 1 2) s (Z9 (Z5 f 0 2) (List.getD [(4607182418800017408:Nat),s,t] (Int.toNat (0:Int)) (0:Nat)) 0))]) rfl (fun e=>⟨trivial,⟨by decide,by decide,Nat.le_refl 3⟩,rfl,e⟩) (fun e=>⟨trivial,⟨by decide,by decide,Nat.le_refl 3⟩,rfl,e⟩) (fun e=>⟨rfl,e⟩)⟩,?_⟩
 rintro ⟨⟩ ⟨_,⟨⟩⟩ rfl
 refine ⟨fun _ y=>y.1=[(Z9 (Z5 f 2 0) t (Z9 (Z5 f 1 0) s (Z9 (Z5 f 0 0) (List.getD [(4607182418800017408:Nat),s,t] (Int.toNat (0:Int)) (0:Nat)) 0))),(Z9 (Z5 f 2 1) t (Z9 (Z5 f 1 1) s (Z9 (Z5 f 0 1) (List.getD [(4607182418800017408:Nat),s,t] (Int.toNat (0:Int)) (0:Nat)) 0))),(Z9 (Z5 f 2 2) t (Z9 (Z5 f 1 2) s (Z9 (Z5 f 0 2) (List.getD [(4607182418800017408:Nat),s,t] (Int.toNat (0:Int)) (0:Nat)) 0)))],⟨by decide,hfb,by decide,by decide,Z6v (m:=(Z5 f 2 2)) (v:=t) (c:=(Z9 (Z5 f 1 2) s (Z9 (Z5 f 0 2) (List.getD [(4607182418800017408:Nat),s,t] (Int.toNat (0:Int)) (0:Nat)) 0))) (P:=fun z=>[(Z9 (Z5 f 2 0) t (Z9 (Z5 f 1 0) s (Z9 (Z5 f 0 0) (List.getD [(4607182418800017408:Nat),s,t] (Int.toNat (0:Int)) (0:Nat)) 0))),(Z9 (Z5 f 2 1) t (Z9 (Z5 f 1 1) s (Z9 (Z5 f 0 1) (List.getD [(4607182418800017408:Nat),s,t] (Int.toNat (0:Int)) (0:Nat)) 0))),z]=[(Z9 (Z5 f 2 0) t (Z9 (Z5 f 1 0) s (Z9 (Z5 f 0 0) (List.getD [(4607182418800017408:Nat),s,t] (Int.toNat (0:Int)) (0:Nat)) 0))),(Z9 (Z5 f 2 1) t (Z9 (Z5 f 1 1) s (Z9 (Z5 f 0 1) (List.getD [(4607182418800017408:Nat),s,t] (Int.toNat (0:Int)) (0:Nat)) 0))),(Z9 (Z5 f 2 2) t (Z9 (Z5 f 1 2) s (Z9 (Z5 f 0 2) (List.getD [(4607182418800017408:Nat),s,t] (Int.toNat (0:Int)) (0:Nat)) 0)))]) rfl (fun e=>⟨trivial,⟨by decide,by decide,Nat.le_refl 3⟩,rfl,e⟩) (fun e=>⟨trivial,⟨by decide,by decide,Nat.le_refl 3⟩,rfl,e⟩) (fun e=>⟨rfl,e⟩)⟩,?_⟩
 rintro ⟨⟩ ⟨_,⟨⟩⟩ rfl
 refine ⟨⟨by decide,by decide,Nat.le_refl 3⟩,⟨by decide,by decide,Nat.le_refl 3⟩,⟨by decide,by decide,Nat.le_refl 3⟩,⟨Z118 f hs ht 0,Z118 f hs ht 1,Z118 f hs ht 2⟩,rfl⟩
def Zav:=fun (n f i j:Int) (post:(Nat × Nat × Nat) × Bool × Unit→Prop)=>∃ (h:I64 n),∀ (a:Bool),a=((Z11 n).fst==(0:Int))→Br a (post (((0:Nat),
 (0:Nat),(0:Nat)),false,())) (∀ (a:Bool),a=decide (f<(0:Int))→Br a (post (((0:Nat),(0:Nat),(0:Nat)),false,())) (∀ (a:Bool),a=decide (f >
 (5:Int))→Br a (post (((0:Nat),(0:Nat),(0:Nat)),false,())) (∀ (a:Bool),a=decide (i<(0:Int))→Br a (post (((0:Nat),(0:Nat),(0:Nat)),false,
 ())) (∀ (a:Bool),a=decide (i > n)→Br a (post (((0:Nat),(0:Nat),(0:Nat)),false,())) (∀ (a:Bool),a=decide (j<(0:Int))→Br a (post (((0:Nat),(0 :
 Nat),(0:Nat)),false,())) (∀ (a:Bool),a=decide (j > n)→Br a (post (((0:Nat),(0:Nat),(0:Nat)),false,())) (∃ (h:Zff (i64.wrap
 (i64.wrap ((2:Int)*i) - n)) n),∃ (h:Zff (i64.wrap (i64.wrap ((2:Int)*j) - n)) n),∃ (h:Zxr f (Z2u (i64.wrap (i64.wrap
 ((2:Int)*i) - n)) n).fst (Z2u (i64.wrap (i64.wrap ((2:Int)*j) - n)) n).fst),post (((Zc8 f (Z2u (i64.wrap (i64.wrap ((2:Int) *
 i) - n)) n).fst (Z2u (i64.wrap (i64.wrap ((2:Int)*j) - n)) n).fst).fst.fst,(Zc8 f (Z2u (i64.wrap (i64.wrap ((2:Int)*i) - n))
 n).fst (Z2u (i64.wrap (i64.wrap ((2:Int)*j) - n)) n).fst).fst.snd.fst,(Zc8 f (Z2u (i64.wrap (i64.wrap ((2:Int)*i) - n)) n).fst
 (Z2u (i64.wrap (i64.wrap ((2:Int)*j) - n)) n).fst).fst.snd.snd),true,()))))))))
theorem Z11z (n:Int) (f:Int) (i:Int) (j:Int) (h:IIII n f i j):Zav  n f i j (fun r=>r=Z13 n f i j):=by
 obtain ⟨hn,hf,hi,hj⟩:=h
 have bad:Z68 n f i j=false→(((0:Nat),(0:Nat),(0:Nat)),false,())=Z13 n f i j:=by
  intro e; unfold Z13; rw [if_neg (by rw [e]; decide)]
 refine ⟨hn,?_⟩
 rintro _ rfl
 refine Br.intro (fun e=>?_) fun e0=>?_
 ·have e:Zb n=0:=by have e:(Zb n==0)=true:=e; simpa using e
  refine bad ?_
  cases hg:Z1b n with
  | false=>unfold Z68; rw [hg]; rfl
  | true=>rw [Z94 hg] at e; have:=Zhf (Z1r.1 hg).1 (Z1r.1 hg).2; omega
 have e0:¬ Zb n=0:=by have e:(Zb n==0)=false:=e0; simpa using e
 have hg:Z1b n=true:=by
  cases hg:Z1b n with
  | false=>exact absurd (Z69 hg) e0
  | true=>rfl
 obtain ⟨n1,n2⟩:=Z1r.1 hg
 have no:¬ (0≤f∧f≤5∧0≤i∧i≤n∧0≤j∧j≤n)→Z68 n f i j=false:=by
  intro q
  rw [Bool.eq_false_iff]
  intro w
  unfold Z68 at w
  simp only [Bool.and_eq_true,decide_eq_true_eq] at w
  omega
 rintro _ rfl
 refine Br.intro (fun e=>bad (no (by have e:=of_decide_eq_true e; omega))) fun e1=>?_
 have e1:=of_decide_eq_false e1
 rintro _ rfl
 refine Br.intro (fun e=>bad (no (by have e:=of_decide_eq_true e; omega))) fun e2=>?_
 have e2:=of_decide_eq_false e2
 rintro _ rfl
 refine Br.intro (fun e=>bad (no (by have e:=of_decide_eq_true e; omega))) fun e3=>?_
 have e3:=of_decide_eq_false e3
 rintro _ rfl
 refine Br.intro (fun e=>bad (no (by have e:=of_decide_eq_true e; omega))) fun e4=>?_
 have e4:=of_decide_eq_false e4
 rintro _ rfl
 refine Br.intro (fun e=>bad (no (by have e:=of_decide_eq_true e; omega))) fun e5=>?_
 have e5:=of_decide_eq_false e5
 rintro _ rfl
 refine Br.intro (fun e=>bad (no (by have e:=of_decide_eq_true e; omega))) fun e6=>?_
 have e6:=of_decide_eq_false e6
 obtain ⟨w1,w2⟩:=Zxx n1 n2 (i:=i) (by omega) (by omega)
 obtain ⟨w3,w4⟩:=Zxx n1 n2 (i:=j) (by omega) (by omega)
 rw [w1,w3]
 refine ⟨w2,w4,⟨by omega,by omega,Za9 _ _,Za9 _ _⟩,?_⟩
 have ok:Z68 n f i j=true:=by
  unfold Z68
  rw [hg,decide_eq_true (by omega),decide_eq_true (by omega),decide_eq_true (by omega),decide_eq_true (by omega),decide_eq_true (by omega),decide_eq_true (by omega)]
  rfl
 unfold Z13; rw [if_pos ok]; rfl
def Z9g:=fun (n c:Int) (post:List (Nat × Nat × Nat) × Bool × Unit→Prop)=>∃ (h:II n c),Br (!(Z2 n c).snd.snd.snd.fst) (∃ (h:(List.replicate (4:Nat)
 ((K.flt f64).pair ((K.flt f64).pair (K.flt f64))).dflt).length=(4:Nat)∧(4:Nat)=(4:Nat)),∃ (h:(4:Nat)=(4:Nat)),post
 ([((0:Nat),(0:Nat),(0:Nat)),((0:Nat),(0:Nat),(0:Nat)),((0:Nat),(0:Nat),(0:Nat)),((0:Nat),(0:Nat),(0:Nat))],false,())) (∃ (h:(0:Int) ≤
 (0:Int)∧(0:Int)<(↑(4:Nat):Int)),∃ (h:(List.replicate (2:Nat) (0:Int)).length=(2:Nat)∧List.length ([[(0:Int),(0:Int)],[(1:Int),(0:Int)],[(1 :
 Int),(1:Int)],[(0:Int),(1:Int)]].getD (Int.toNat (0:Int)) (K.arr (2:Nat) (K.int i64)).dflt)=(2:Nat)),∃ (h:(0:Int)≤(0:Int)∧(0:Int)<(↑(2 :
 Nat):Int)∧(2:Nat)≤List.length ([[(0:Int),(0:Int)],[(1:Int),(0:Int)],[(1:Int),(1:Int)],[(0:Int),(1:Int)]].getD (Int.toNat (0:Int)) (K.arr (2:Nat)
 (K.int i64)).dflt)),∃ (h:(0:Int)≤(1:Int)∧(1:Int)<(↑(2:Nat):Int)∧(2:Nat)≤List.length ([[(0:Int),(0:Int)],[(1:Int),(0:Int)],[(1:Int),
 (1:Int)],[(0:Int),(1:Int)]].getD (Int.toNat (0:Int)) (K.arr (2:Nat) (K.int i64)).dflt)),∃ (h:IIII n (Z2 n c).fst (i64.wrap ((Z2 n
 c).snd.fst+List.getD ([[(0:Int),(0:Int)],[(1:Int),(0:Int)],[(1:Int),(1:Int)],[(0:Int),(1:Int)]].getD (Int.toNat (0:Int)) (K.arr (2:Nat) (K.int
 i64)).dflt) (Int.toNat (0:Int)) (0:Int))) (i64.wrap ((Z2 n c).snd.snd.fst+List.getD ([[(0:Int),(0:Int)],[(1:Int),(0:Int)],[(1:Int),(1 :
 Int)],[(0:Int),(1:Int)]].getD (Int.toNat (0:Int)) (K.arr (2:Nat) (K.int i64)).dflt) (Int.toNat (1:Int)) (0:Int)))),∃ (h:(0:Int)≤(0:Int)∧(0:Int)
 < (↑(4:Nat):Int)∧(4:Nat)≤(List.replicate (4:Nat) ((K.flt f64).pair ((K.flt f64).pair (K.flt f64))).dflt).length),∃ (h:(0 :
 Int)≤i64.wrap ((0:Int)+(1:Int))∧i64.wrap ((0:Int)+(1:Int))<(↑(4:Nat):Int)),∃ (h:(List.replicate (2:Nat) (0:Int)).length=(2:Nat) ∧
 List.length ([[(0:Int),(0:Int)],[(1:Int),(0:Int)],[(1:Int),(1:Int)],[(0:Int),(1:Int)]].getD (i64.wrap ((0:Int)+(1:Int))).toNat (K.arr (2 :
 Nat) (K.int i64)).dflt)=(2:Nat)),∃ (h:(0:Int)≤(0:Int)∧(0:Int)<(↑(2:Nat):Int)∧(2:Nat)≤List.length ([[(0:Int),(0:Int)],[(1:Int),(0 :
 Int)],[(1:Int),(1:Int)],[(0:Int),(1:Int)]].getD (i64.wrap ((0:Int)+(1:Int))).toNat (K.arr (2:Nat) (K.int i64)).dflt)),∃ (h:(0:Int)≤(1 :
 Int)∧(1:Int)<(↑(2:Nat):Int)∧(2:Nat)≤List.length ([[(0:Int),(0:Int)],[(1:Int),(0:Int)],[(1:Int),(1:Int)],[(0:Int),(1:Int)]].getD
 (i64.wrap ((0:Int)+(1:Int))).toNat (K.arr (2:Nat) (K.int i64)).dflt)),∃ (h:IIII n (Z2 n c).fst (i64.wrap ((Z2 n c).snd.fst+List.getD
 ([[(0:Int),(0:Int)],[(1:Int),(0:Int)],[(1:Int),(1:Int)],[(0:Int),(1:Int)]].getD (i64.wrap ((0:Int)+(1:Int))).toNat (K.arr (2:Nat) (K.int
 i64)).dflt) (Int.toNat (0:Int)) (0:Int))) (i64.wrap ((Z2 n c).snd.snd.fst+List.getD ([[(0:Int),(0:Int)],[(1:Int),(0:Int)],[(1:Int),(1 :
 Int)],[(0:Int),(1:Int)]].getD (i64.wrap ((0:Int)+(1:Int))).toNat (K.arr (2:Nat) (K.int i64)).dflt) (Int.toNat (1:Int)) (0:Int)))),∃ (h:(0 :
 Int)≤i64.wrap ((0:Int)+(1:Int))∧i64.wrap ((0:Int)+(1:Int))<(↑(4:Nat):Int)∧(4:Nat)≤((List.replicate (4:Nat) ((K.flt
 f64).pair ((K.flt f64).pair (K.flt f64))).dflt).set (Int.toNat (0:Int)) (Z13 n (Z2 n c).fst (i64.wrap ((Z2 n
 c).snd.fst+List.getD ([[(0:Int),(0:Int)],[(1:Int),(0:Int)],[(1:Int),(1:Int)],[(0:Int),(1:Int)]].getD (Int.toNat (0:Int)) (K.arr (2:Nat) (K.int
 i64)).dflt) (Int.toNat (0:Int)) (0:Int))) (i64.wrap ((Z2 n c).snd.snd.fst+List.getD ([[(0:Int),(0:Int)],[(1:Int),(0:Int)],[(1:Int),(1 :
 Int)],[(0:Int),(1:Int)]].getD (Int.toNat (0:Int)) (K.arr (2:Nat) (K.int i64)).dflt) (Int.toNat (1:Int)) (0:Int)))).fst).length),∃ (h:(0:Int) ≤
 i64.wrap (i64.wrap ((0:Int)+(1:Int))+(1:Int))∧i64.wrap (i64.wrap ((0:Int)+(1:Int))+(1:Int))<(↑(4:Nat):Int)),∃ (h :
 (List.replicate (2:Nat) (0:Int)).length=(2:Nat)∧List.length ([[(0:Int),(0:Int)],[(1:Int),(0:Int)],[(1:Int),(1:Int)],[(0:Int),(1:Int)]].getD
 (i64.wrap (i64.wrap ((0:Int)+(1:Int))+(1:Int))).toNat (K.arr (2:Nat) (K.int i64)).dflt)=(2:Nat)),∃ (h:(0:Int)≤(0:Int)∧(0:Int)
 < (↑(2:Nat):Int)∧(2:Nat)≤List.length ([[(0:Int),(0:Int)],[(1:Int),(0:Int)],[(1:Int),(1:Int)],[(0:Int),(1:Int)]].getD (i64.wrap
 (i64.wrap ((0:Int)+(1:Int))+(1:Int))).toNat (K.arr (2:Nat) (K.int i64)).dflt)),∃ (h:(0:Int)≤(1:Int)∧(1:Int)<(↑(2:Nat):Int)∧(2 :
 Nat)≤List.length ([[(0:Int),(0:Int)],[(1:Int),(0:Int)],[(1:Int),(1:Int)],[(0:Int),(1:Int)]].getD (i64.wrap (i64.wrap ((0:Int)+(1 :
 Int))+(1:Int))).toNat (K.arr (2:Nat) (K.int i64)).dflt)),∃ (h:IIII n (Z2 n c).fst (i64.wrap ((Z2 n c).snd.fst+List.getD ([[(0:Int),(0 :
 Int)],[(1:Int),(0:Int)],[(1:Int),(1:Int)],[(0:Int),(1:Int)]].getD (i64.wrap (i64.wrap ((0:Int)+(1:Int))+(1:Int))).toNat (K.arr (2 :
 Nat) (K.int i64)).dflt) (Int.toNat (0:Int)) (0:Int))) (i64.wrap ((Z2 n c).snd.snd.fst+List.getD ([[(0:Int),(0:Int)],[(1:Int),(0:Int)],[(1 :
 Int),(1:Int)],[(0:Int),(1:Int)]].getD (i64.wrap (i64.wrap ((0:Int)+(1:Int))+(1:Int))).toNat (K.arr (2:Nat) (K.int i64)).dflt)
 (Int.toNat (1:Int)) (0:Int)))),∃ (h:(0:Int)≤i64.wrap (i64.wrap ((0:Int)+(1:Int))+(1:Int))∧i64.wrap (i64.wrap ((0:Int)+(1
 : Int))+(1:Int))<(↑(4:Nat):Int)∧(4:Nat)≤(((List.replicate (4:Nat) ((K.flt f64).pair ((K.flt f64).pair (K.flt
 f64))).dflt).set (Int.toNat (0:Int)) (Z13 n (Z2 n c).fst (i64.wrap ((Z2 n c).snd.fst+List.getD ([[(0:Int),(0:Int)],[(1:Int),(0 :
 Int)],[(1:Int),(1:Int)],[(0:Int),(1:Int)]].getD (Int.toNat (0:Int)) (K.arr (2:Nat) (K.int i64)).dflt) (Int.toNat (0:Int)) (0:Int))) (i64.wrap
 ((Z2 n c).snd.snd.fst+List.getD ([[(0:Int),(0:Int)],[(1:Int),(0:Int)],[(1:Int),(1:Int)],[(0:Int),(1:Int)]].getD (Int.toNat (0:Int)) (K.arr (2 :
 Nat) (K.int i64)).dflt) (Int.toNat (1:Int)) (0:Int)))).fst).set (i64.wrap ((0:Int)+(1:Int))).toNat (Z13 n (Z2 n c).fst (i64.wrap
 ((Z2 n c).snd.fst+List.getD ([[(0:Int),(0:Int)],[(1:Int),(0:Int)],[(1:Int),(1:Int)],[(0:Int),(1:Int)]].getD (i64.wrap ((0:Int)+(1 :
 Int))).toNat (K.arr (2:Nat) (K.int i64)).dflt) (Int.toNat (0:Int)) (0:Int))) (i64.wrap ((Z2 n c).snd.snd.fst+List.getD ([[(0:Int),(0:Int)],[(1 :
 Int),(0:Int)],[(1:Int),(1:Int)],[(0:Int),(1:Int)]].getD (i64.wrap ((0:Int)+(1:Int))).toNat (K.arr (2:Nat) (K.int i64)).dflt) (Int.toNat (1 :
 Int)) (0:Int)))).fst).length),∃ (h:(0:Int)≤i64.wrap (i64.wrap (i64.wrap ((0:Int)+(1:Int))+(1:Int))+(1:Int))∧i64.wrap
 (i64.wrap (i64.wrap ((0:Int)+(1:Int))+(1:Int))+(1:Int))<(↑(4:Nat):Int)),∃ (h:(List.replicate (2:Nat) (0:Int)).length=(2:Nat) ∧
 List.length ([[(0:Int),(0:Int)],[(1:Int),(0:Int)],[(1:Int),(1:Int)],[(0:Int),(1:Int)]].getD (i64.wrap (i64.wrap (i64.wrap ((0:Int)
 + (1:Int))+(1:Int))+(1:Int))).toNat (K.arr (2:Nat) (K.int i64)).dflt)=(2:Nat)),∃ (h:(0:Int)≤(0:Int)∧(0:Int)<(↑(2:Nat):Int)∧(2:Nat) ≤
 List.length ([[(0:Int),(0:Int)],[(1:Int),(0:Int)],[(1:Int),(1:Int)],[(0:Int),(1:Int)]].getD (i64.wrap (i64.wrap (i64.wrap ((0:Int)
 + (1:Int))+(1:Int))+(1:Int))).toNat (K.arr (2:Nat) (K.int i64)).dflt)),∃ (h:(0:Int)≤(1:Int)∧(1:Int)<(↑(2:Nat):Int)∧(2:Nat)≤List.length
 ([[(0:Int),(0:Int)],[(1:Int),(0:Int)],[(1:Int),(1:Int)],[(0:Int),(1:Int)]].getD (i64.wrap (i64.wrap (i64.wrap ((0:Int)+(1 :
 Int))+(1:Int))+(1:Int))).toNat (K.arr (2:Nat) (K.int i64)).dflt)),∃ (h:IIII n (Z2 n c).fst (i64.wrap ((Z2 n c).snd.fst+List.getD ([[(0 :
 Int),(0:Int)],[(1:Int),(0:Int)],[(1:Int),(1:Int)],[(0:Int),(1:Int)]].getD (i64.wrap (i64.wrap (i64.wrap ((0:Int)+(1:Int))+(1 :
 Int))+(1:Int))).toNat (K.arr (2:Nat) (K.int i64)).dflt) (Int.toNat (0:Int)) (0:Int))) (i64.wrap ((Z2 n c).snd.snd.fst+List.getD ([[(0:Int),(0 :
 Int)],[(1:Int),(0:Int)],[(1:Int),(1:Int)],[(0:Int),(1:Int)]].getD (i64.wrap (i64.wrap (i64.wrap ((0:Int)+(1:Int))+(1:Int))+(1
 : Int))).toNat (K.arr (2:Nat) (K.int i64)).dflt) (Int.toNat (1:Int)) (0:Int)))),∃ (h:(0:Int)≤i64.wrap (i64.wrap (i64.wrap ((0:Int) +
 (1:Int))+(1:Int))+(1:Int))∧i64.wrap (i64.wrap (i64.wrap ((0:Int)+(1:Int))+(1:Int))+(1:Int))<(↑(4:Nat):Int)∧(4:Nat) ≤
 ((((List.replicate (4:Nat) ((K.flt f64).pair ((K.flt f64).pair (K.flt f64))).dflt).set (Int.toNat (0:Int)) (Z13 n (Z2 n c).fst
 (i64.wrap ((Z2 n c).snd.fst+List.getD ([[(0:Int),(0:Int)],[(1:Int),(0:Int)],[(1:Int),(1:Int)],[(0:Int),(1:Int)]].getD (Int.toNat (0:Int))
 (K.arr (2:Nat) (K.int i64)).dflt) (Int.toNat (0:Int)) (0:Int))) (i64.wrap ((Z2 n c).snd.snd.fst+List.getD ([[(0:Int),(0:Int)],[(1:Int),(0 :
 Int)],[(1:Int),(1:Int)],[(0:Int),(1:Int)]].getD (Int.toNat (0:Int)) (K.arr (2:Nat) (K.int i64)).dflt) (Int.toNat (1:Int)) (0:Int)))).fst).set
 (i64.wrap ((0:Int)+(1:Int))).toNat (Z13 n (Z2 n c).fst (i64.wrap ((Z2 n c).snd.fst+List.getD ([[(0:Int),(0:Int)],[(1:Int),(0 :
 Int)],[(1:Int),(1:Int)],[(0:Int),(1:Int)]].getD (i64.wrap ((0:Int)+(1:Int))).toNat (K.arr (2:Nat) (K.int i64)).dflt) (Int.toNat (0:Int)) (0 :
 Int))) (i64.wrap ((Z2 n c).snd.snd.fst+List.getD ([[(0:Int),(0:Int)],[(1:Int),(0:Int)],[(1:Int),(1:Int)],[(0:Int),(1:Int)]].getD
 (i64.wrap ((0:Int)+(1:Int))).toNat (K.arr (2:Nat) (K.int i64)).dflt) (Int.toNat (1:Int)) (0:Int)))).fst).set (i64.wrap (i64.wrap ((0 :
 Int)+(1:Int))+(1:Int))).toNat (Z13 n (Z2 n c).fst (i64.wrap ((Z2 n c).snd.fst+List.getD ([[(0:Int),(0:Int)],[(1:Int),(0:Int)],[(1 :
 Int),(1:Int)],[(0:Int),(1:Int)]].getD (i64.wrap (i64.wrap ((0:Int)+(1:Int))+(1:Int))).toNat (K.arr (2:Nat) (K.int i64)).dflt)
 (Int.toNat (0:Int)) (0:Int))) (i64.wrap ((Z2 n c).snd.snd.fst+List.getD ([[(0:Int),(0:Int)],[(1:Int),(0:Int)],[(1:Int),(1:Int)],[(0:Int),(1
 : Int)]].getD (i64.wrap (i64.wrap ((0:Int)+(1:Int))+(1:Int))).toNat (K.arr (2:Nat) (K.int i64)).dflt) (Int.toNat (1:Int)) (0 :
 Int)))).fst).length),∃ (h:(((((List.replicate (4:Nat) ((K.flt f64).pair ((K.flt f64).pair (K.flt f64))).dflt).set (Int.toNat (0:Int))
 (Z13 n (Z2 n c).fst (i64.wrap ((Z2 n c).snd.fst+List.getD ([[(0:Int),(0:Int)],[(1:Int),(0:Int)],[(1:Int),(1:Int)],[(0:Int),(1 :
 Int)]].getD (Int.toNat (0:Int)) (K.arr (2:Nat) (K.int i64)).dflt) (Int.toNat (0:Int)) (0:Int))) (i64.wrap ((Z2 n c).snd.snd.fst+List.getD ([[(0 :
 Int),(0:Int)],[(1:Int),(0:Int)],[(1:Int),(1:Int)],[(0:Int),(1:Int)]].getD (Int.toNat (0:Int)) (K.arr (2:Nat) (K.int i64)).dflt) (Int.toNat (1 :
 Int)) (0:Int)))).fst).set (i64.wrap ((0:Int)+(1:Int))).toNat (Z13 n (Z2 n c).fst (i64.wrap ((Z2 n c).snd.fst+List.getD ([[(0:Int),(0 :
 Int)],[(1:Int),(0:Int)],[(1:Int),(1:Int)],[(0:Int),(1:Int)]].getD (i64.wrap ((0:Int)+(1:Int))).toNat (K.arr (2:Nat) (K.int i64)).dflt)
 (Int.toNat (0:Int)) (0:Int))) (i64.wrap ((Z2 n c).snd.snd.fst+List.getD ([[(0:Int),(0:Int)],[(1:Int),(0:Int)],[(1:Int),(1:Int)],[(0:Int),(1
 : Int)]].getD (i64.wrap ((0:Int)+(1:Int))).toNat (K.arr (2:Nat) (K.int i64)).dflt) (Int.toNat (1:Int)) (0:Int)))).fst).set (i64.wrap
 (i64.wrap ((0:Int)+(1:Int))+(1:Int))).toNat (Z13 n (Z2 n c).fst (i64.wrap ((Z2 n c).snd.fst+List.getD ([[(0:Int),(0:Int)],[(1 :
 Int),(0:Int)],[(1:Int),(1:Int)],[(0:Int),(1:Int)]].getD (i64.wrap (i64.wrap ((0:Int)+(1:Int))+(1:Int))).toNat (K.arr (2:Nat) (K.int
 i64)).dflt) (Int.toNat (0:Int)) (0:Int))) (i64.wrap ((Z2 n c).snd.snd.fst+List.getD ([[(0:Int),(0:Int)],[(1:Int),(0:Int)],[(1:Int),(1 :
 Int)],[(0:Int),(1:Int)]].getD (i64.wrap (i64.wrap ((0:Int)+(1:Int))+(1:Int))).toNat (K.arr (2:Nat) (K.int i64)).dflt) (Int.toNat (1 :
 Int)) (0:Int)))).fst).set (i64.wrap (i64.wrap (i64.wrap ((0:Int)+(1:Int))+(1:Int))+(1:Int))).toNat (Z13 n (Z2 n c).fst
 (i64.wrap ((Z2 n c).snd.fst+List.getD ([[(0:Int),(0:Int)],[(1:Int),(0:Int)],[(1:Int),(1:Int)],[(0:Int),(1:Int)]].getD (i64.wrap
 (i64.wrap (i64.wrap ((0:Int)+(1:Int))+(1:Int))+(1:Int))).toNat (K.arr (2:Nat) (K.int i64)).dflt) (Int.toNat (0:Int)) (0:Int)))
 (i64.wrap ((Z2 n c).snd.snd.fst+List.getD ([[(0:Int),(0:Int)],[(1:Int),(0:Int)],[(1:Int),(1:Int)],[(0:Int),(1:Int)]].getD (i64.wrap
 (i64.wrap (i64.wrap ((0:Int)+(1:Int))+(1:Int))+(1:Int))).toNat (K.arr (2:Nat) (K.int i64)).dflt) (Int.toNat (1:Int)) (0 :
 Int)))).fst).length=(4:Nat)),∃ (h:(List.replicate (4:Nat) ((K.flt f64).pair ((K.flt f64).pair (K.flt f64))).dflt).length=(4 :
 Nat)∧(((((List.replicate (4:Nat) ((K.flt f64).pair ((K.flt f64).pair (K.flt f64))).dflt).set (Int.toNat (0:Int)) (Z13 n (Z2 n
 c).fst (i64.wrap ((Z2 n c).snd.fst+List.getD ([[(0:Int),(0:Int)],[(1:Int),(0:Int)],[(1:Int),(1:Int)],[(0:Int),(1:Int)]].getD (Int.toNat (0 :
 Int)) (K.arr (2:Nat) (K.int i64)).dflt) (Int.toNat (0:Int)) (0:Int))) (i64.wrap ((Z2 n c).snd.snd.fst+List.getD ([[(0:Int),(0:Int)],[(1:Int),
 (0:Int)],[(1:Int),(1:Int)],[(0:Int),(1:Int)]].getD (Int.toNat (0:Int)) (K.arr (2:Nat) (K.int i64)).dflt) (Int.toNat (1:Int)) (0:Int)))).fst).set
 (i64.wrap ((0:Int)+(1:Int))).toNat (Z13 n (Z2 n c).fst (i64.wrap ((Z2 n c).snd.fst+List.getD ([[(0:Int),(0:Int)],[(1:Int),(0 :
 Int)],[(1:Int),(1:Int)],[(0:Int),(1:Int)]].getD (i64.wrap ((0:Int)+(1:Int))).toNat (K.arr (2:Nat) (K.int i64)).dflt) (Int.toNat (0:Int)) (0 :
 Int))) (i64.wrap ((Z2 n c).snd.snd.fst+List.getD ([[(0:Int),(0:Int)],[(1:Int),(0:Int)],[(1:Int),(1:Int)],[(0:Int),(1:Int)]].getD
 (i64.wrap ((0:Int)+(1:Int))).toNat (K.arr (2:Nat) (K.int i64)).dflt) (Int.toNat (1:Int)) (0:Int)))).fst).set (i64.wrap (i64.wrap ((0 :
 Int)+(1:Int))+(1:Int))).toNat (Z13 n (Z2 n c).fst (i64.wrap ((Z2 n c).snd.fst+List.getD ([[(0:Int),(0:Int)],[(1:Int),(0:Int)],[(1 :
 Int),(1:Int)],[(0:Int),(1:Int)]].getD (i64.wrap (i64.wrap ((0:Int)+(1:Int))+(1:Int))).toNat (K.arr (2:Nat) (K.int i64)).dflt)
 (Int.toNat (0:Int)) (0:Int))) (i64.wrap ((Z2 n c).snd.snd.fst+List.getD ([[(0:Int),(0:Int)],[(1:Int),(0:Int)],[(1:Int),(1:Int)],[(0:Int),(1
 : Int)]].getD (i64.wrap (i64.wrap ((0:Int)+(1:Int))+(1:Int))).toNat (K.arr (2:Nat) (K.int i64)).dflt) (Int.toNat (1:Int)) (0 :
 Int)))).fst).set (i64.wrap (i64.wrap (i64.wrap ((0:Int)+(1:Int))+(1:Int))+(1:Int))).toNat (Z13 n (Z2 n c).fst (i64.wrap
 ((Z2 n c).snd.fst+List.getD ([[(0:Int),(0:Int)],[(1:Int),(0:Int)],[(1:Int),(1:Int)],[(0:Int),(1:Int)]].getD (i64.wrap (i64.wrap
 (i64.wrap ((0:Int)+(1:Int))+(1:Int))+(1:Int))).toNat (K.arr (2:Nat) (K.int i64)).dflt) (Int.toNat (0:Int)) (0:Int))) (i64.wrap
 ((Z2 n c).snd.snd.fst+List.getD ([[(0:Int),(0:Int)],[(1:Int),(0:Int)],[(1:Int),(1:Int)],[(0:Int),(1:Int)]].getD (i64.wrap (i64.wrap
 (i64.wrap ((0:Int)+(1:Int))+(1:Int))+(1:Int))).toNat (K.arr (2:Nat) (K.int i64)).dflt) (Int.toNat (1:Int)) (0:Int)))).fst).length=(4:Nat)),
 ∃ (h:(((((List.replicate (4:Nat) ((K.flt f64).pair ((K.flt f64).pair (K.flt f64))).dflt).set (Int.toNat (0:Int)) (Z13 n (Z2 n
 c).fst (i64.wrap ((Z2 n c).snd.fst+List.getD ([[(0:Int),(0:Int)],[(1:Int),(0:Int)],[(1:Int),(1:Int)],[(0:Int),(1:Int)]].getD (Int.toNat (0 :
 Int)) (K.arr (2:Nat) (K.int i64)).dflt) (Int.toNat (0:Int)) (0:Int))) (i64.wrap ((Z2 n c).snd.snd.fst+List.getD ([[(0:Int),(0:Int)],[(1:Int),
 (0:Int)],[(1:Int),(1:Int)],[(0:Int),(1:Int)]].getD (Int.toNat (0:Int)) (K.arr (2:Nat) (K.int i64)).dflt) (Int.toNat (1:Int)) (0:Int)))).fst).set
 (i64.wrap ((0:Int)+(1:Int))).toNat (Z13 n (Z2 n c).fst (i64.wrap ((Z2 n c).snd.fst+List.getD ([[(0:Int),(0:Int)],[(1:Int),(0 :
 Int)],[(1:Int),(1:Int)],[(0:Int),(1:Int)]].getD (i64.wrap ((0:Int)+(1:Int))).toNat (K.arr (2:Nat) (K.int i64)).dflt) (Int.toNat (0:Int)) (0 :
 Int))) (i64.wrap ((Z2 n c).snd.snd.fst+List.getD ([[(0:Int),(0:Int)],[(1:Int),(0:Int)],[(1:Int),(1:Int)],[(0:Int),(1:Int)]].getD
 (i64.wrap ((0:Int)+(1:Int))).toNat (K.arr (2:Nat) (K.int i64)).dflt) (Int.toNat (1:Int)) (0:Int)))).fst).set (i64.wrap (i64.wrap ((0 :
 Int)+(1:Int))+(1:Int))).toNat (Z13 n (Z2 n c).fst (i64.wrap ((Z2 n c).snd.fst+List.getD ([[(0:Int),(0:Int)],[(1:Int),(0:Int)],[(1 :
 Int),(1:Int)],[(0:Int),(1:Int)]].getD (i64.wrap (i64.wrap ((0:Int)+(1:Int))+(1:Int))).toNat (K.arr (2:Nat) (K.int i64)).dflt)
 (Int.toNat (0:Int)) (0:Int))) (i64.wrap ((Z2 n c).snd.snd.fst+List.getD ([[(0:Int),(0:Int)],[(1:Int),(0:Int)],[(1:Int),(1:Int)],[(0:Int),(1
 : Int)]].getD (i64.wrap (i64.wrap ((0:Int)+(1:Int))+(1:Int))).toNat (K.arr (2:Nat) (K.int i64)).dflt) (Int.toNat (1:Int)) (0 :
 Int)))).fst).set (i64.wrap (i64.wrap (i64.wrap ((0:Int)+(1:Int))+(1:Int))+(1:Int))).toNat (Z13 n (Z2 n c).fst (i64.wrap
 ((Z2 n c).snd.fst+List.getD ([[(0:Int),(0:Int)],[(1:Int),(0:Int)],[(1:Int),(1:Int)],[(0:Int),(1:Int)]].getD (i64.wrap (i64.wrap
 (i64.wrap ((0:Int)+(1:Int))+(1:Int))+(1:Int))).toNat (K.arr (2:Nat) (K.int i64)).dflt) (Int.toNat (0:Int)) (0:Int))) (i64.wrap
 ((Z2 n c).snd.snd.fst+List.getD ([[(0:Int),(0:Int)],[(1:Int),(0:Int)],[(1:Int),(1:Int)],[(0:Int),(1:Int)]].getD (i64.wrap (i64.wrap
 (i64.wrap ((0:Int)+(1:Int))+(1:Int))+(1:Int))).toNat (K.arr (2:Nat) (K.int i64)).dflt) (Int.toNat (1:Int)) (0:Int)))).fst).length=(4:Nat)),
 post (((((List.replicate (4:Nat) ((K.flt f64).pair ((K.flt f64).pair (K.flt f64))).dflt).set (Int.toNat (0:Int)) (Z13 n (Z2 n
 c).fst (i64.wrap ((Z2 n c).snd.fst+List.getD ([[(0:Int),(0:Int)],[(1:Int),(0:Int)],[(1:Int),(1:Int)],[(0:Int),(1:Int)]].getD (Int.toNat (0 :
 Int)) (K.arr (2:Nat) (K.int i64)).dflt) (Int.toNat (0:Int)) (0:Int))) (i64.wrap ((Z2 n c).snd.snd.fst+List.getD ([[(0:Int),(0:Int)],[(1:Int),
 (0:Int)],[(1:Int),(1:Int)],[(0:Int),(1:Int)]].getD (Int.toNat (0:Int)) (K.arr (2:Nat) (K.int i64)).dflt) (Int.toNat (1:Int)) (0:Int)))).fst).set
 (i64.wrap ((0:Int)+(1:Int))).toNat (Z13 n (Z2 n c).fst (i64.wrap ((Z2 n c).snd.fst+List.getD ([[(0:Int),(0:Int)],[(1:Int),(0 :
 Int)],[(1:Int),(1:Int)],[(0:Int),(1:Int)]].getD (i64.wrap ((0:Int)+(1:Int))).toNat (K.arr (2:Nat) (K.int i64)).dflt) (Int.toNat (0:Int)) (0 :
 Int))) (i64.wrap ((Z2 n c).snd.snd.fst+List.getD ([[(0:Int),(0:Int)],[(1:Int),(0:Int)],[(1:Int),(1:Int)],[(0:Int),(1:Int)]].getD
 (i64.wrap ((0:Int)+(1:Int))).toNat (K.arr (2:Nat) (K.int i64)).dflt) (Int.toNat (1:Int)) (0:Int)))).fst).set (i64.wrap (i64.wrap ((0 :
 Int)+(1:Int))+(1:Int))).toNat (Z13 n (Z2 n c).fst (i64.wrap ((Z2 n c).snd.fst+List.getD ([[(0:Int),(0:Int)],[(1:Int),(0:Int)],[(1 :
 Int),(1:Int)],[(0:Int),(1:Int)]].getD (i64.wrap (i64.wrap ((0:Int)+(1:Int))+(1:Int))).toNat (K.arr (2:Nat) (K.int i64)).dflt)
 (Int.toNat (0:Int)) (0:Int))) (i64.wrap ((Z2 n c).snd.snd.fst+List.getD ([[(0:Int),(0:Int)],[(1:Int),(0:Int)],[(1:Int),(1:Int)],[(0:Int),(1
 : Int)]].getD (i64.wrap (i64.wrap ((0:Int)+(1:Int))+(1:Int))).toNat (K.arr (2:Nat) (K.int i64)).dflt) (Int.toNat (1:Int)) (0 :
 Int)))).fst).set (i64.wrap (i64.wrap (i64.wrap ((0:Int)+(1:Int))+(1:Int))+(1:Int))).toNat (Z13 n (Z2 n c).fst (i64.wrap
 ((Z2 n c).snd.fst+List.getD ([[(0:Int),(0:Int)],[(1:Int),(0:Int)],[(1:Int),(1:Int)],[(0:Int),(1:Int)]].getD (i64.wrap (i64.wrap
 (i64.wrap ((0:Int)+(1:Int))+(1:Int))+(1:Int))).toNat (K.arr (2:Nat) (K.int i64)).dflt) (Int.toNat (0:Int)) (0:Int))) (i64.wrap
 ((Z2 n c).snd.snd.fst+List.getD ([[(0:Int),(0:Int)],[(1:Int),(0:Int)],[(1:Int),(1:Int)],[(0:Int),(1:Int)]].getD (i64.wrap (i64.wrap
 (i64.wrap ((0:Int)+(1:Int))+(1:Int))+(1:Int))).toNat (K.arr (2:Nat) (K.int i64)).dflt) (Int.toNat (1:Int)) (0:Int)))).fst,true,()))
theorem Zyq (n:Int) (c:Int) (h:II n c):Z9g  n c (fun r=>r=Zp n c):=by
 obtain ⟨hn,hc⟩:=h
 refine ⟨⟨hn,hc⟩,Br.intro (fun e=>?_) fun e=>?_⟩
 ·refine ⟨⟨by decide,by decide⟩,by decide,?_⟩
  have ok:Zh n c=false:=by
   cases q:Zh n c with
   | false=>rfl
   | true=>unfold Z2 at e; rw [if_pos q] at e; cases e
  unfold Zp; rw [if_neg (by rw [ok]; decide)]
 have ok:Zh n c=true:=by
  cases q:Zh n c with
  | true=>rfl
  | false=>unfold Z2 at e; rw [if_neg (by rw [q]; decide)] at e; cases e
 obtain ⟨h1,h2,h3,h4,h5,h6⟩:=Z41 ok
 obtain ⟨r1,r2,r3,r4,r5,r6⟩:=Zhg ok
 have hp:Z2 n c=(c / (n*n),c % n,c / n % n,true,()):=by unfold Z2; rw [if_pos ok]
 have hf:I64 (c / (n*n)):=⟨by omega,by omega⟩
 have ho:∀ x,0≤x→x≤33→I64 x:=fun x a b=>⟨by omega,by omega⟩
 have w0:∀ x,0≤x→x≤33→i64.wrap (x+0)=x:=fun x a b=>by rw [Int.add_zero,wi (ho x a b)]
 have w1:∀ x,0≤x→x≤32→i64.wrap (x+1)=x+1:=fun x a b=>wi (ho _ (by omega) (by omega))
 have hC:∀ i j,0≤i→i≤n→0≤j→j≤n→Z13 n (c / (n*n)) i j=(Z8i n (c / (n*n)) i j,true,()):=by
  intro i j a1 a2 a3 a4
  unfold Z13
  rw [if_pos]
  unfold Z68
  rw [Z1r.2 ⟨h1,h2⟩,decide_eq_true (by omega),decide_eq_true (by omega),decide_eq_true (by omega),decide_eq_true (by omega),decide_eq_true (by omega),decide_eq_true (by omega)]
  rfl
 have a0:=w0 (c % n) (by omega) (by omega)
 have a1:=w1 (c % n) (by omega) (by omega)
 have b0:=w0 (c / n % n) (by omega) (by omega)
 have b1:=w1 (c / n % n) (by omega) (by omega)
 have A0:I64 (i64.wrap (c % n+0)):=by rw [a0]; exact ho _ (by omega) (by omega)
 have A1:I64 (i64.wrap (c % n+1)):=by rw [a1]; exact ho _ (by omega) (by omega)
 have B0:I64 (i64.wrap (c / n % n+0)):=by rw [b0]; exact ho _ (by omega) (by omega)
 have B1:I64 (i64.wrap (c / n % n+1)):=by rw [b1]; exact ho _ (by omega) (by omega)
 rw [hp]
 refine ⟨by decide,⟨by decide,by decide⟩,⟨by decide,by decide,by decide⟩,⟨by decide,by decide,by decide⟩,⟨hn,hf,A0,B0⟩,⟨by decide,by decide,Nat.le_refl 4⟩,
  by decide,⟨by decide,by decide⟩,⟨by decide,by decide,by decide⟩,⟨by decide,by decide,by decide⟩,⟨hn,hf,A1,B0⟩,⟨by decide,by decide,Nat.le_refl 4⟩,
  by decide,⟨by decide,by decide⟩,⟨by decide,by decide,by decide⟩,⟨by decide,by decide,by decide⟩,⟨hn,hf,A1,B1⟩,⟨by decide,by decide,Nat.le_refl 4⟩,
  by decide,⟨by decide,by decide⟩,⟨by decide,by decide,by decide⟩,⟨by decide,by decide,by decide⟩,⟨hn,hf,A0,B1⟩,⟨by decide,by decide,Nat.le_refl 4⟩,rfl,⟨rfl,rfl⟩,rfl,?_⟩
 show ([(Z13 n (c / (n*n)) (i64.wrap (c % n+0)) (i64.wrap (c / n % n+0))).1,(Z13 n (c / (n*n)) (i64.wrap (c % n+1)) (i64.wrap (c / n % n+0))).1,(Z13 n (c / (n*n)) (i64.wrap (c % n+1)) (i64.wrap (c / n % n+1))).1,(Z13 n (c / (n*n)) (i64.wrap (c % n+0)) (i64.wrap (c / n % n+1))).1],true,())=_
 rw [a0,a1,b0,b1,hC _ _ (by omega) (by omega) (by omega) (by omega),hC _ _ (by omega) (by omega) (by omega) (by omega),hC _ _ (by omega) (by omega) (by omega) (by omega),hC _ _ (by omega) (by omega) (by omega) (by omega)]
 unfold Zp; rw [if_pos ok]
def Zfr:=fun (n c:Int) (post:Int × Unit→Prop)=>∃ (h:II n c),∃ (h:(List.replicate (4:Nat) ((K.flt f64).pair ((K.flt f64).pair
 (K.flt f64))).dflt).length=(4:Nat)∧(Zp n c).fst.length=(4:Nat)),Br (!(Zp n c).snd.fst) (post ((0:Int),())) (∃ (h:(0:Int)≤(2:Int) ∧
 (2:Int)<(↑(4:Nat):Int)∧(4:Nat)≤(Zp n c).fst.length),∃ (h:(0:Int)≤(0:Int)∧(0:Int)<(↑(4:Nat):Int)∧(4:Nat)≤(Zp n c).fst.length),∃
 (h:WV2 ((Zp n c).fst.getD (Int.toNat (2:Int)) ((K.flt f64).pair ((K.flt f64).pair (K.flt f64))).dflt) ((Zp n c).fst.getD
 (Int.toNat (0:Int)) ((K.flt f64).pair ((K.flt f64).pair (K.flt f64))).dflt)),∃ (h:(0:Int)≤(3:Int)∧(3:Int)<(↑(4:Nat) :
 Int)∧(4:Nat)≤(Zp n c).fst.length),∃ (h:(0:Int)≤(1:Int)∧(1:Int)<(↑(4:Nat):Int)∧(4:Nat)≤(Zp n c).fst.length),∃ (h:WV2 ((Zp n
 c).fst.getD (Int.toNat (3:Int)) ((K.flt f64).pair ((K.flt f64).pair (K.flt f64))).dflt) ((Zp n c).fst.getD (Int.toNat (1:Int))
 ((K.flt f64).pair ((K.flt f64).pair (K.flt f64))).dflt)),∃ (h:True),∃ (h:WV (Zpj (Z7m ((Zp n c).fst.getD (Int.toNat (2 :
 Int)) ((K.flt f64).pair ((K.flt f64).pair (K.flt f64))).dflt) ((Zp n c).fst.getD (Int.toNat (0:Int)) ((K.flt f64).pair
 ((K.flt f64).pair (K.flt f64))).dflt)).fst (Z7m ((Zp n c).fst.getD (Int.toNat (3:Int)) ((K.flt f64).pair ((K.flt
 f64).pair (K.flt f64))).dflt) ((Zp n c).fst.getD (Int.toNat (1:Int)) ((K.flt f64).pair ((K.flt f64).pair (K.flt
 f64))).dflt)).fst).fst),∀ (a:Nat),FRes f64 (f64.format.mul (Z4e (Zpj (Z7m ((Zp n c).fst.getD (Int.toNat (2:Int))
 ((K.flt f64).pair ((K.flt f64).pair (K.flt f64))).dflt) ((Zp n c).fst.getD (Int.toNat (0:Int)) ((K.flt f64).pair
 ((K.flt f64).pair (K.flt f64))).dflt)).fst (Z7m ((Zp n c).fst.getD (Int.toNat (3:Int)) ((K.flt f64).pair ((K.flt
 f64).pair (K.flt f64))).dflt) ((Zp n c).fst.getD (Int.toNat (1:Int)) ((K.flt f64).pair ((K.flt f64).pair (K.flt
 f64))).dflt)).fst).fst).fst (4602678819172646912:Nat)) a→∀ (a_1:Nat),FRes f64 (f64.format.mul a (4742290407621132288:Nat)) a_1→∃
 (h:W64 a_1),post (imax (Zfe a_1).fst (1:Int),()))
theorem Z18r (n:Int) (c:Int) (h:II n c):Zfr  n c (fun r=>r=Zxt n c):=by
 have g0:∀ i:Nat,WV ((Zp n c).fst.getD i ((K.flt f64).pair ((K.flt f64).pair (K.flt f64))).dflt):=Z1fc n c
 have hl:=Zto n c
 refine ⟨h,⟨by decide,hl⟩,?_⟩
 rw [hl]
 refine Br.intro (fun e=>?_) fun e=>?_
 ·rw [Zm0] at e
  exact congrArg r1 (by unfold Z1c; rw [if_neg (by intro q; rw [q] at e; cases e)])
 rw [Zm0] at e
 have ok:Zh n c=true:=by simpa using e
 refine ⟨⟨by decide,by decide,Nat.le_refl 4⟩,⟨by decide,by decide,Nat.le_refl 4⟩,⟨g0 2,g0 0⟩,⟨by decide,by decide,Nat.le_refl 4⟩,⟨by decide,by decide,Nat.le_refl 4⟩,⟨g0 3,g0 1⟩,trivial,Z1h7 _ _,?_⟩
 intro x hx y hy
 obtain ⟨x1,x2⟩:=fmul hx
 obtain ⟨y1,y2⟩:=fmul hy
 refine ⟨y2,congrArg r1 ?_⟩
 have hs:Zp n c=([Z1p n c 0 0,Z1p n c 1 0,Z1p n c 1 1,Z1p n c 0 1],true,()):=by
  unfold Zp; rw [if_pos ok]; unfold Z1p; rw [Int.add_zero,Int.add_zero]
 have hq:[Z1p n c 0 0,Z1p n c 1 0,Z1p n c 1 1,Z1p n c 0 1]=(Zp n c).1:=by rw [hs]
 have hx1:Ze x=mulQ (Zxs n c) Z7t:=by
  rw [x1]
  exact congrArg (fun z=>mulQ z 4602678819172646912) (Z1k2 (z:=(0,0,0)) hq.symm)
 have hy1:Ze y=mulQ (mulQ (Zxs n c) Z7t) Zua:=by
  rw [y1]
  have u:Ze x=Ze (mulQ (Zxs n c) Z7t):=by rw [hx1,Zjf]
  exact Z1c4 u rfl
 show imax (Z3x y).1 1=Z1c n c
 unfold Z1c
 rw [if_pos ok,Z1a5 y2,hy1]
end Go.Lift

namespace Go.Lift
def Zj0:=fun (a:Int) (post:Nat × Unit→Prop)=>∃ (h:True),post ((Z91 a).fst,())
theorem Z1ab (a:Int):Zj0  a (fun r=>r=Z91 a):=by
 exact ⟨trivial,rfl⟩
def Zj1:=fun (a:Nat) (post:Int × Unit→Prop)=>∃ (h:True),post ((Z2a a).fst,())
theorem Z1ac (a:Nat):Zj1  a (fun r=>r=Z2a a):=by
 exact ⟨trivial,rfl⟩
def Zd3:=fun (post:Nat × Unit→Prop)=>∃ (h:True),post ((Z91 (9221120237041090561:Int)).fst,())
theorem Z15c  : Zd3   (fun r=>r=qnR):=by
 exact ⟨trivial,rfl⟩
def Zaw:=fun (post:Nat × Unit→Prop)=>∃ (h:True),post ((Z91 (9221120237041090561:Int)).fst,())
theorem Z120  : Zaw   (fun r=>r=qnR):=by
 exact ⟨trivial,rfl⟩
def Zj2:=fun (a:Nat) (post:Nat × Unit→Prop)=>∃ (h:True),∃ (h:True),post ((Z91 (Go.bits Go.BinOp.andNot u64 (Z2a a).fst (9223372036854775808 :
 Int))).fst,())
theorem Z1ad (a:Nat) (h:W64 a):Zj2  a (fun r=>r=absR a):=by
 refine ⟨trivial,trivial,?_⟩
 show r1 (Go.bits .andNot .u64 (a:Int) 9223372036854775808).toNat=_
 rw [Z1a0 h]; rfl
def Zd4:=fun (a:Nat) (post:Bool × Unit→Prop)=>∀ (a_1:Bool),a_1=fcmp Go.BinOp.neq (f64.format.order a a)→post (a_1,())
theorem Z15d (a:Nat):Zd4  a (fun r=>r=nanR a):=by
 rintro _ rfl
 exact congrArg r1 (Zu2 a)
def Zfs:=fun (a:Nat) (post:Int × Unit→Prop)=>∃ (h:True),∃ (h:(9223372036854775808:Int)≠(0:Int)),post ((Z2a a).fst.tmod (9223372036854775808:Int),
 ())
theorem Z18s (a:Nat) (h:W64 a):Zfs  a (fun r=>r=magR a):=by
 refine ⟨trivial,by decide,?_⟩
 show r1 ((a:Int).tmod 9223372036854775808)=r1 (magI a)
 rw [Int.tmod_eq_emod_of_nonneg (by omega)]; unfold magI Z1 sw; congr 1
def Zd5:=fun (a:Nat) (post:Bool × Unit→Prop)=>∃ (h:W64 a),∀ (a_1:Bool),a_1=decide ((magR a).fst > (9218868437227405312:Int))→post (a_1,())
theorem Z15e (a:Nat) (h:W64 a):Zd5  a (fun r=>r=nanR a):=by
 refine ⟨h,?_⟩
 rintro _ rfl
 refine congrArg r1 ?_
 show decide (((Z1 a:Nat):Int) > 9218868437227405312)=decide (infR<Z1 a)
 rw [Bool.eq_iff_iff]; simp only [decide_eq_true_eq]; unfold infR; omega
def Zax:=fun (a:Nat) (post:Bool × Unit→Prop)=>∃ (h:True),∀ (a_1:Bool),a_1=decide ((Z2a a).fst≥(9223372036854775808:Int))→post (a_1,())
theorem Z121 (a:Nat) (h:W64 a):Zax  a (fun r=>r=Zc6 a):=by
 refine ⟨trivial,?_⟩
 rintro _ rfl
 refine congrArg r1 ?_
 rw [Z112 h,Bool.eq_iff_iff]
 simp [Z2a,r1]; omega
def Zd6:=fun (a:Nat) (post:Nat × Unit→Prop)=>∀ (a_1:Bool),a_1=fcmp Go.BinOp.neq (f64.format.order a a)→Br a_1 (∃ (h:True),post (qnR.fst,
 ())) (∀ (a_2:Bool),a_2=fcmp Go.BinOp.eql (f64.format.order a (0:Nat))→Br a_2 (post ((0:Nat),())) (post (a,())))
theorem Z15f (a:Nat):Zd6  a (fun r=>r=Zk a):=by
 rintro _ rfl
 refine Br.intro (fun e=>⟨trivial,?_⟩) fun e=>?_
 ·have e:isN a=true:=(Zu2 a).symm.trans e
  exact congrArg r1 (by unfold Z1d; rw [if_pos e]; rfl)
 ·have e:isN a=false:=(Zu2 a).symm.trans e
  rintro _ rfl
  refine Br.intro (fun z=>?_) fun z=>?_
  ·have z:=(Z177 a).symm.trans z
   rw [e] at z
   exact congrArg r1 (by unfold Z1d; rw [e,if_neg (by simp),if_pos (by simpa using z)])
  ·have z:=(Z177 a).symm.trans z
   rw [e] at z
   exact congrArg r1 (by unfold Z1d; rw [e,if_neg (by simp),if_neg (by simpa using z)])
def Zay:=fun (a:Nat) (post:Nat × Unit→Prop)=>∃ (h:W64 a),∀ (a_1:Bool),a_1=(nanR a).fst→Br a_1 (∃ (h:True),post (qnR.fst,())) (∃ (h:W64 a),∀
 (a_2:Bool),a_2=((magR a).fst==(0:Int))→Br a_2 (∃ (h:True),post ((Z91 (0:Int)).fst,())) (post (a,())))
theorem Z122 (a:Nat) (h:W64 a):Zay  a (fun r=>r=Zk a):=by
 refine ⟨h,?_⟩
 rintro _ rfl
 refine Br.intro (fun e=>⟨trivial,?_⟩) fun e=>⟨h,?_⟩
 ·have e:isN a=true:=e
  exact congrArg r1 (by unfold Z1d; rw [if_pos e]; rfl)
 ·have e:isN a=false:=e
  rintro _ rfl
  refine Br.intro (fun z=>⟨trivial,?_⟩) fun z=>?_
  ·have z:Z1 a=0:=by simpa [magR,r1,magI] using z
   exact congrArg r1 (by unfold Z1d; rw [e,if_neg (by simp),if_pos z]; rfl)
  ·have z:Z1 a≠0:=by simpa [magR,r1,magI] using z
   exact congrArg r1 (by unfold Z1d; rw [e,if_neg (by simp),if_neg z])
def Zft:=fun (a:Nat) (post:Nat × Unit→Prop)=>∃ (h:True),∀ (a_1:Bool),a_1=(nanR a).fst→Br a_1 (∃ (h:True),post ((Z91 (9221120237041090561 :
 Int)).fst,())) (post (a,()))
theorem Z18t (a:Nat):Zft  a (fun r=>r=Z17v a):=by
 refine ⟨trivial,?_⟩
 rintro _ rfl
 refine Br.intro (fun e=>⟨trivial,?_⟩) fun e=>?_
 ·have e:isN a=true:=e
  exact congrArg r1 (by unfold Ze; rw [if_pos e]; rfl)
 ·have e:isN a=false:=e
  exact congrArg r1 (by unfold Ze; rw [e]; rfl)
def Z83:=fun (a:Nat) (post:Int × Unit→Prop)=>∃ (h:True),∃ (h:(0:Int)≤(1:Int)),post (u64.wrap ((Z2a a).fst*(2:Int) ^ Min.min
 (Int.toNat (1:Int)) u64.bits),())
theorem Zup (a:Nat) (h:W64 a):Z83  a (fun r=>r=Z16p a):=by
 refine ⟨trivial,by decide,?_⟩
 refine congrArg r1 ?_
 show u64.wrap ((a:Int)*2 ^ 1)=_
 rw [IntKind.wrap_u64]; unfold mag2 magI Z1 sw; omega
def Zd7:=fun (a:Nat) (post:Int × Unit→Prop)=>∃ (h:True),∀ (a_1:Bool),a_1=decide ((Z2a a).fst≥(9223372036854775808:Int))→Br a_1 (post (Go.bits
 Go.BinOp.xor u64 (if u64.signed=true then (-1:Int) else u64.max) (Z2a a).fst,())) (post (Go.bits Go.BinOp.or u64 (Z2a a).fst
 (9223372036854775808:Int),()))
theorem Z15g (a:Nat) (h:W64 a):Zd7  a (fun r=>r=Zxk a):=by
 refine ⟨trivial,?_⟩
 rintro _ rfl
 refine Br.intro (fun e=>?_) fun e=>?_
 ·have e:9223372036854775808≤a:=by have:=of_decide_eq_true e; dsimp only [Z2a,r1] at this; omega
  refine congrArg r1 ?_
  show Go.bits .xor .u64 _ (a:Int)=_
  unfold Z5e; rw [if_pos ((Z8g h).2 e)]
  exact Z1gz h
 ·have e:a<9223372036854775808:=by have:=of_decide_eq_false e; dsimp only [Z2a,r1] at this; omega
  refine congrArg r1 ?_
  show Go.bits .or .u64 (a:Int) 9223372036854775808=_
  unfold Z5e; rw [if_neg (by rw [Z8g h]; omega)]
  exact Z1ip e
def Z5m:=fun (a:Int) (post:Bool × Unit→Prop)=>∀ (a_1:Bool),a_1=(a != a)→post (a_1,())
theorem Zo3 (a:Int):Z5m  a (fun r=>r=noR a):=by
 rintro _ rfl
 exact congrArg r1 (by simp)
def Z4h:=fun (a b:Int) (post:Int × Unit→Prop)=>∃ (h:True),∀ (a_1:Bool),a_1=(noR a).fst→∃ (h:True),∀ (a_2:Bool),a_2=(noR b).fst→Br a_1
 (Br a_2 (post ((0:Int),())) (post ((-1:Int),()))) (Br a_2 (post ((1:Int),())) (∀ (a_3:Bool),a_3=decide (a<b)→Br a_3 (post ((-1:Int),())) (∀ (a_4:Bool),a_4
 = decide (a > b)→Br a_4 (post ((1:Int),())) (post ((0:Int),())))))
theorem Zjz (a:Int) (b:Int):Z4h  a b (fun r=>r=cmpR a b):=by
 refine ⟨trivial,?_⟩
 rintro _ rfl
 refine ⟨trivial,?_⟩
 rintro _ rfl
 refine Br.intro (fun e=>by cases e) fun _=>Br.intro (fun e=>by cases e) fun _=>?_
 rintro _ rfl
 refine Br.intro (fun e=>?_) fun e=>?_
 ·exact congrArg r1 (by unfold cmpI; rw [if_pos (of_decide_eq_true e)])
 ·rintro _ rfl
  refine Br.intro (fun f=>?_) fun f=>?_
  ·exact congrArg r1 (by unfold cmpI; rw [if_neg (of_decide_eq_false e),if_pos (of_decide_eq_true f)])
  ·exact congrArg r1 (by unfold cmpI; rw [if_neg (of_decide_eq_false e),if_neg (of_decide_eq_false f)])
def Zd8:=fun (a b:Nat) (post:Int × Unit→Prop)=>∃ (h:W64 a),∃ (h:W64 b),∃ (h:True),post ((cmpR (Zxk a).fst (Zxk b).fst).fst,())
theorem Z15h (a:Nat) (b:Nat) (h:W2 a b):Zd8  a b (fun r=>r=ordR a b):=by
 exact ⟨h.1,h.2,trivial,rfl⟩
def Zd9:=fun (a:List Int) (post:Int × Unit→Prop)=>HIs [] []∧∃ (I:Int × Unit→Unit→Prop),∃ (μ:Int × Unit→Unit→Nat),I ((0:Int),()) ()∧∀ (x :
 Int × Unit) (y:Unit),I x y→∀ (a_1:Bool),a_1=decide (x.fst<(↑a.length:Int))→Br a_1 (∃ (h:(0:Int)≤x.fst∧x.fst<(↑a.length:Int)),∀ (a_2:Bool),a_2 =
 (a.getD x.fst.toNat (0:Int) != (0:Int))→Br a_2 (post (a.getD x.fst.toNat (0:Int),())) (HIs [] []∧I (i64.wrap (x.fst+(1:Int)),()) ()∧μ (i64.wrap
 (x.fst+(1:Int)),()) ()<μ x y)) (post ((0:Int),()))
theorem Z15i (a:List Int) (w:KS.wf [.slice (.int .i64)] (a,())):Zd9  a (fun r=>r=orR a):=by
 have hl:a.length≤maxN:=w.1.1
 unfold maxN at hl
 refine ⟨rfl,fun x _=>∃ i:Nat,x.1=i∧i≤a.length∧Zai (a.drop i)=Zai a,fun x _=>a.length - x.1.toNat,⟨0,rfl,by omega,rfl⟩,?_⟩
 rintro ⟨_,⟨⟩⟩ _ ⟨i,hi,hil,hn⟩
 dsimp only at hi
 subst hi
 rintro _ rfl
 refine Br.intro (fun e=>?_) fun e=>?_
 ·have e:i<a.length:=by have:=of_decide_eq_true e; dsimp only at this; omega
  have hd:a.drop i=a.getD i 0 :: a.drop (i+1):=by
   rw [List.drop_eq_getElem_cons e,List.getD_eq_getElem?_getD,List.getElem?_eq_getElem e]; rfl
  rw [hd] at hn
  simp only [Int.toNat_natCast]
  refine ⟨⟨by omega,by omega⟩,?_⟩
  rintro _ rfl
  refine Br.intro (fun z=>?_) fun z=>⟨rfl,⟨i+1,?_,by omega,?_⟩,?_⟩
  ·have z:a.getD i 0≠0:=by simpa using z
   refine congrArg r1 ?_
   rw [← hn]; unfold Zai; rw [if_pos z]
  ·rw [wi ⟨by omega,by omega⟩]; omega
  ·have z:a.getD i 0=0:=by simpa using z
   rw [← hn,z]; rfl
  ·rw [wi ⟨by omega,by omega⟩]; omega
 ·have e:a.length≤i:=by have:=of_decide_eq_false e; dsimp only at this; omega
  refine congrArg r1 ?_
  rw [← hn,List.drop_eq_nil_of_le e]; rfl
def Z9h:=fun (a b:Nat) (post:Int × Unit→Prop)=>∃ (h:W64 a),∃ (h:W64 b),∃ (h:True),∃ (h:W2 a b),∃ (h:True),post ((orR [(cmpR (Z16p a).fst (Z16p
 b).fst).fst,(ordR a b).fst]).fst,())
theorem Zyr (a:Nat) (b:Nat) (h:W2 a b):Z9h  a b (fun r=>r=Zlx a b):=by
 refine ⟨h.1,h.2,trivial,h,trivial,?_⟩
 refine congrArg r1 ?_
 unfold cmpM
 show Zai [cmpI (mag2 a) (mag2 b),ordF a b]=_
 simp only [Zai]
 split
 ·rfl
 ·split
  ·rfl
  ·rename_i z; simpa using (by simpa using z:ordF a b=0).symm
def Zaz:=fun (a b:Nat) (post:Int × Unit→Prop)=>∃ (h:True),∃ (h:True),∀ (a_1:Bool),a_1=((Z2a a).fst==(Z2a b).fst)→Br a_1 (post ((0:Int),
 ())) (∃ (h:W64 a),∀ (a_2:Bool),a_2=(Zc6 a).fst→Br a_2 (∃ (h:W64 b),∀ (a_3:Bool),a_3=(Zc6 b).fst→Br a_3 (∀ (a_4:Bool),a_4=decide ((Z2a a).fst >
 (Z2a b).fst)→Br a_4 (post ((-1:Int),())) (post ((1:Int),()))) (∃ (h:W64 a),∀ (a_4:Bool),a_4=(Zc6 a).fst→Br a_4 (post ((-1:Int),())) (∃ (h:W64 b),∀
 (a_5:Bool),a_5=(Zc6 b).fst→Br a_5 (post ((1:Int),())) (∀ (a_6:Bool),a_6=decide ((Z2a a).fst<(Z2a b).fst)→Br a_6 (post ((-1:Int),())) (post ((1:Int),
 ())))))) (∃ (h:W64 a),∀ (a_3:Bool),a_3=(Zc6 a).fst→Br a_3 (post ((-1:Int),())) (∃ (h:W64 b),∀ (a_4:Bool),a_4=(Zc6 b).fst→Br a_4 (post ((1:Int),()))
 (∀ (a_5:Bool),a_5=decide ((Z2a a).fst<(Z2a b).fst)→Br a_5 (post ((-1:Int),())) (post ((1:Int),()))))))
theorem Z123 (a:Nat) (b:Nat) (h:W2 a b):Zaz  a b (fun r=>r=ordR a b):=by
 have hw1:=h.1
 have hw2:=h.2
 refine ⟨trivial,trivial,?_⟩
 rintro _ rfl
 refine Br.intro (fun e=>?_) fun e=>⟨hw1,?_⟩
 ·have e:((a:Int)==(b:Int))=true:=e
  exact congrArg r1 (Z1h0 (by simpa [Z1b7] using e)).symm
 ·have e:((a:Int)==(b:Int))=false:=e
  have e:a≠b:=by simpa [Z1b7] using e
  have one:sgn b=false→∀ t:Bool,t=sgn a→Br t ((-1,())=ordR a b) (∃ _:W64 b,∀ t:Bool,t=sgn b→Br t ((1,())=ordR a b) (∀ t:Bool,t=decide ((a:Int)<(b:Int))→Br t ((-1,())=ordR a b) ((1,())=ordR a b))):=by
   rintro hb _ rfl
   refine Br.intro (fun f=>congrArg r1 (Z1jt f hb hw1 hw2).symm) fun f=>⟨hw2,?_⟩
   rintro _ rfl
   refine Br.intro (fun g=>by rw [hb] at g; cases g) fun g=>?_
   rintro _ rfl
   refine Br.intro (fun z=>congrArg r1 (Z1f1 f g (of_decide_eq_true z)).symm) fun z=>congrArg r1 (Z1b8 f g e (by have:=of_decide_eq_false z; omega)).symm
  have two:sgn a=false→∀ t:Bool,t=sgn a→Br t ((-1,())=ordR a b) (∃ _:W64 b,∀ t:Bool,t=sgn b→Br t ((1,())=ordR a b) (∀ t:Bool,t=decide ((a:Int)<(b:Int))→Br t ((-1,())=ordR a b) ((1,())=ordR a b))):=by
   rintro hb _ rfl
   refine Br.intro (fun f=>by rw [hb] at f; cases f) fun f=>⟨hw2,?_⟩
   rintro _ rfl
   refine Br.intro (fun g=>congrArg r1 (Z1ju f g hw1 hw2).symm) fun g=>?_
   rintro _ rfl
   refine Br.intro (fun z=>congrArg r1 (Z1f1 f g (of_decide_eq_true z)).symm) fun z=>congrArg r1 (Z1b8 f g e (by have:=of_decide_eq_false z; omega)).symm
  rintro _ rfl
  refine Br.intro (fun f=>⟨hw2,?_⟩) fun f=>⟨hw1,two f⟩
  rintro _ rfl
  refine Br.intro (fun g=>?_) fun g=>⟨hw1,one g⟩
  rintro _ rfl
  refine Br.intro (fun z=>congrArg r1 (Z1jv f g (of_decide_eq_true z)).symm) fun z=>congrArg r1 (Z1iq f g e (by have:=of_decide_eq_false z; dsimp only [Z2a,r1] at this; omega)).symm
def Zda:=fun (a:Nat) (b:Int) (post:Bool × Unit→Prop)=>∀ (a_1:Bool),a_1=(b==(0:Int))→Br a_1 (∃ (h:W64 a),∀ (a_2:Bool),a_2=fcmp Go.BinOp.gtr
 (f64.format.order (absR a).fst (9218868437227405311:Nat))→post (a_2,())) (∀ (a_2:Bool),a_2=decide (b<(0:Int))→Br a_2 (∀ (a_3:Bool),a_3=fcmp
 Go.BinOp.gtr (f64.format.order (Go.Op.negFloat f64 a) (9218868437227405311:Nat))→post (a_3,())) (∀ (a_3:Bool),a_3=fcmp Go.BinOp.gtr
 (f64.format.order a (9218868437227405311:Nat))→post (a_3,())))
theorem Z15j (a:Nat) (b:Int) (h:WI a b):Zda  a b (fun r=>r=Z1cp a b):=by
 have h:W64 a:=h
 rintro _ rfl
 refine Br.intro (fun e=>⟨h,?_⟩) fun e=>?_
 ·have e:b=0:=by simpa using e
  rintro _ rfl
  refine congrArg r1 ?_
  show fcmp .gtr (Ieee.double.order (Z1 a) 9218868437227405311)=_
  unfold infS; rw [if_pos e,Z17x]
  have:=Z1b6 a
  have e1:Z1 (Z1 a)=Z1 a:=Z113 this
  have e2:sgn (Z1 a)=false:=by rw [Z112 (by unfold W64; omega)]; simp; omega
  rw [e1,e2]; simp
 ·have e:b≠0:=by simpa using e
  rintro _ rfl
  refine Br.intro (fun f=>?_) fun f=>?_
  ·have f:b<0:=of_decide_eq_true f
   rintro _ rfl
   refine congrArg r1 ?_
   show fcmp .gtr (Ieee.double.order (negF a) 9218868437227405311)=_
   unfold infS; rw [if_neg e,if_pos f,Z17x,(Z14c h).1,Z17w h]; simp
  ·have f:¬ b<0:=of_decide_eq_false f
   rintro _ rfl
   refine congrArg r1 ?_
   show fcmp .gtr (Ieee.double.order a 9218868437227405311)=_
   unfold infS; rw [if_neg e,if_neg f,Z17x]
end Go.Lift

namespace Go.Lift
open Go.Proofs
def Z2o:Con:=.det [.flt .f64] [.snap (.int .u64)] (fun _=>True) (fun x=>Z2a x.1)
theorem Z3b:Z2o.holds Tryz.prog RbG 120:=by
 refine Z1d7 (fn:=Tryz.f120) Tryz.func120 (by decide) rfl rfl (by kernel_rfl)
def Z20:Con:=.det [.int .u64] [.snap (.flt .f64)] (fun _=>True) (fun x=>Z91 x.1)
theorem Z2p:Z20.holds Tryz.prog RbG 146:=by
 refine Z1d8 (fn:=Tryz.f146) Tryz.func146 (by decide) rfl rfl (by kernel_rfl)
def Zn5:Con:=.rel [.flt .f64] [.snap (.flt .f64)] (fun _=>True) (fun x r=>Zha x.1 r) (fun x h=>Z1b5 (Z1av _) (Z10q _))
theorem Z15k:Zn5.holds Tryz.prog RbG 166:=by
 refine Z1hm (fn:=Tryz.f166) Tryz.func166 (by decide) rfl rfl (by kernel_rfl)
def Zfu:Con:=.det [.int .u64] [.snap (.flt .f64)] (fun _=>True) (fun x=>Z91 x.1)
def Zq2:Cx:=⟨Zf Zi,Zg [(146,Z20)],RbG⟩
theorem Zys:CxOk Tryz.prog Zq2:=⟨Z4 Z7,Z6 ⟨Z2p,trivial⟩⟩
theorem Z15l:FnAt Tryz.prog 131 Tryz.f131.ntmps Tryz.f131.results.toList (Tryz.f131.body.getD .skip):=⟨Tryz.f131,Tryz.func131,rfl,rfl,by simp,by decide⟩
theorem Z15m (a:Int) (post:Nat × Unit→Prop):Za Zq2 nHn Tryz.f131.ntmps Tryz.f131.results.toList (Tryz.f131.body.getD .skip) [.int .u64] [.snap (.flt .f64)] (a,()) post=Zj0  a post:=by kernel_rfl
theorem Zq3:Zfu.holds Tryz.prog RbG 131 :=
 detP Zys Z8 nHn Z15l (F:=fun x post=>Zj0  x.1 post) (fun x post=>Z15m x.1 post) fun x _ _=>Z1ab  x.1
def Z9i:Con:=.det [.flt .f64] [.snap (.int .u64)] (fun _=>True) (fun x=>Z2a x.1)
def Zq4:Cx:=⟨Zf Zi,Zg [(120,Z2o)],RbG⟩
theorem Zyt:CxOk Tryz.prog Zq4:=⟨Z4 Z7,Z6 ⟨Z3b,trivial⟩⟩
theorem Z15n:FnAt Tryz.prog 140 Tryz.f140.ntmps Tryz.f140.results.toList (Tryz.f140.body.getD .skip):=⟨Tryz.f140,Tryz.func140,rfl,rfl,by simp,by decide⟩
theorem Z15o (a:Nat) (post:Int × Unit→Prop):Za Zq4 nHn Tryz.f140.ntmps Tryz.f140.results.toList (Tryz.f140.body.getD .skip) [.flt .f64] [.snap (.int .u64)] (a,()) post=Zj1  a post:=by kernel_rfl
theorem Zfv:Z9i.holds Tryz.prog RbG 140 :=
 detP Zyt Z8 nHn Z15n (F:=fun x post=>Zj1  x.1 post) (fun x post=>Z15o x.1 post) fun x _ _=>Z1ac  x.1
def Zk0:Con:=.det [] [.snap (.flt .f64)] (fun _=>True) (fun x=>qnR)
def Zk1:Cx:=⟨Zf Zi,Zg [(146,Z20)],RbG⟩
theorem Zs6:CxOk Tryz.prog Zk1:=⟨Z4 Z7,Z6 ⟨Z2p,trivial⟩⟩
theorem Zyu:FnAt Tryz.prog 119 Tryz.f119.ntmps Tryz.f119.results.toList (Tryz.f119.body.getD .skip):=⟨Tryz.f119,Tryz.func119,rfl,rfl,by simp,by decide⟩
theorem Zyv  (post:Nat × Unit→Prop):Za Zk1 nHn Tryz.f119.ntmps Tryz.f119.results.toList (Tryz.f119.body.getD .skip) [] [.snap (.flt .f64)] (()) post=Zd3   post:=by kernel_rfl
theorem Z124:Zk0.holds Tryz.prog RbG 119 :=
 detP Zs6 Z8 nHn Zyu (F:=fun x post=>Zd3   post) (fun x post=>Zyv  post) fun x _ _=>Z15c
def Zhq:Con:=.det [] [.snap (.flt .f64)] (fun _=>True) (fun x=>qnR)
def Zhr:Cx:=⟨Zf Zi,Zg [(131,Zfu)],RbG⟩
theorem Zq5:CxOk Tryz.prog Zhr:=⟨Z4 Z7,Z6 ⟨Zq3,trivial⟩⟩
theorem Zuq:FnAt Tryz.prog 143 Tryz.f143.ntmps Tryz.f143.results.toList (Tryz.f143.body.getD .skip):=⟨Tryz.f143,Tryz.func143,rfl,rfl,by simp,by decide⟩
theorem Zur  (post:Nat × Unit→Prop):Za Zhr nHn Tryz.f143.ntmps Tryz.f143.results.toList (Tryz.f143.body.getD .skip) [] [.snap (.flt .f64)] (()) post=Zaw   post:=by kernel_rfl
theorem Zyw:Zhq.holds Tryz.prog RbG 143 :=
 detP Zq5 Z8 nHn Zuq (F:=fun x post=>Zaw   post) (fun x post=>Zur  post) fun x _ _=>Z120
def Zfw:Con:=.det [.flt .f64] [.snap (.flt .f64)] (fun x=>W64 x.1) (fun x=>absR x.1)
def Zq6:Cx:=⟨Zf Zi,Zg [(120,Z2o),(146,Z20)],RbG⟩
theorem Zyx:CxOk Tryz.prog Zq6:=⟨Z4 Z7,Z6 ⟨Z3b,Z2p,trivial⟩⟩
theorem Z15p:FnAt Tryz.prog 151 Tryz.f151.ntmps Tryz.f151.results.toList (Tryz.f151.body.getD .skip):=⟨Tryz.f151,Tryz.func151,rfl,rfl,by simp,by decide⟩
theorem Z15q (a:Nat) (post:Nat × Unit→Prop):Za Zq6 nHn Tryz.f151.ntmps Tryz.f151.results.toList (Tryz.f151.body.getD .skip) [.flt .f64] [.snap (.flt .f64)] (a,()) post=Zj2  a post:=by kernel_rfl
theorem Zq7:Zfw.holds Tryz.prog RbG 151 :=
 detP Zyx Z8 nHn Z15p (F:=fun x post=>Zj2  x.1 post) (fun x post=>Z15q x.1 post) fun x h _=>Z1ad  x.1 h
def Zk2:Con:=.det [.flt .f64] [.snap .bool] (fun _=>True) (fun x=>nanR x.1)
def Zk3:Cx:=⟨Zf Zi,Zg [],RbG⟩
theorem Zs7:CxOk Tryz.prog Zk3:=⟨Z4 Z7,fun f c h=>by cases h⟩
theorem Zyy:FnAt Tryz.prog 197 Tryz.f197.ntmps Tryz.f197.results.toList (Tryz.f197.body.getD .skip):=⟨Tryz.f197,Tryz.func197,rfl,rfl,by simp,by decide⟩
theorem Zyz (a:Nat) (post:Bool × Unit→Prop):Za Zk3 nHn Tryz.f197.ntmps Tryz.f197.results.toList (Tryz.f197.body.getD .skip) [.flt .f64] [.snap .bool] (a,()) post=Zd4  a post:=by kernel_rfl
theorem Z125:Zk2.holds Tryz.prog RbG 197 :=
 detP Zs7 Z8 nHn Zyy (F:=fun x post=>Zd4  x.1 post) (fun x post=>Zyz x.1 post) fun x _ _=>Z15d  x.1
def Zdb:Con:=.det [.flt .f64] [.snap (.int .u64)] (fun x=>W64 x.1) (fun x=>magR x.1)
def Zn6:Cx:=⟨Zf Zi,Zg [(140,Z9i)],RbG⟩
theorem Zus:CxOk Tryz.prog Zn6:=⟨Z4 Z7,Z6 ⟨Zfv,trivial⟩⟩
theorem Z126:FnAt Tryz.prog 144 Tryz.f144.ntmps Tryz.f144.results.toList (Tryz.f144.body.getD .skip):=⟨Tryz.f144,Tryz.func144,rfl,rfl,by simp,by decide⟩
theorem Z127 (a:Nat) (post:Int × Unit→Prop):Za Zn6 nHn Tryz.f144.ntmps Tryz.f144.results.toList (Tryz.f144.body.getD .skip) [.flt .f64] [.snap (.int .u64)] (a,()) post=Zfs  a post:=by kernel_rfl
theorem Zn7:Zdb.holds Tryz.prog RbG 144 :=
 detP Zus Z8 nHn Z126 (F:=fun x post=>Zfs  x.1 post) (fun x post=>Z127 x.1 post) fun x h _=>Z18s  x.1 h
def Zk4:Con:=.det [.flt .f64] [.snap .bool] (fun x=>W64 x.1) (fun x=>nanR x.1)
def Zk5:Cx:=⟨Zf Zi,Zg [(144,Zdb)],RbG⟩
theorem Zs8:CxOk Tryz.prog Zk5:=⟨Z4 Z7,Z6 ⟨Zn7,trivial⟩⟩
theorem Zz0:FnAt Tryz.prog 142 Tryz.f142.ntmps Tryz.f142.results.toList (Tryz.f142.body.getD .skip):=⟨Tryz.f142,Tryz.func142,rfl,rfl,by simp,by decide⟩
theorem Zz1 (a:Nat) (post:Bool × Unit→Prop):Za Zk5 nHn Tryz.f142.ntmps Tryz.f142.results.toList (Tryz.f142.body.getD .skip) [.flt .f64] [.snap .bool] (a,()) post=Zd5  a post:=by kernel_rfl
theorem Z128:Zk4.holds Tryz.prog RbG 142 :=
 detP Zs8 Z8 nHn Zz0 (F:=fun x post=>Zd5  x.1 post) (fun x post=>Zz1 x.1 post) fun x h _=>Z15e  x.1 h
def Zhs:Con:=.det [.flt .f64] [.snap .bool] (fun x=>W64 x.1) (fun x=>Zc6 x.1)
def Zht:Cx:=⟨Zf Zi,Zg [(140,Z9i)],RbG⟩
theorem Zq8:CxOk Tryz.prog Zht:=⟨Z4 Z7,Z6 ⟨Zfv,trivial⟩⟩
theorem Zut:FnAt Tryz.prog 141 Tryz.f141.ntmps Tryz.f141.results.toList (Tryz.f141.body.getD .skip):=⟨Tryz.f141,Tryz.func141,rfl,rfl,by simp,by decide⟩
theorem Zuu (a:Nat) (post:Bool × Unit→Prop):Za Zht nHn Tryz.f141.ntmps Tryz.f141.results.toList (Tryz.f141.body.getD .skip) [.flt .f64] [.snap .bool] (a,()) post=Zax  a post:=by kernel_rfl
theorem Zz2:Zhs.holds Tryz.prog RbG 141 :=
 detP Zq8 Z8 nHn Zut (F:=fun x post=>Zax  x.1 post) (fun x post=>Zuu x.1 post) fun x h _=>Z121  x.1 h
def Z4i:Con:=.det [.flt .f64] [.snap (.flt .f64)] (fun _=>True) (fun x=>Zk x.1)
def Zk6:Cx:=⟨Zf Zi,Zg [(119,Zk0)],RbG⟩
theorem Zs9:CxOk Tryz.prog Zk6:=⟨Z4 Z7,Z6 ⟨Z124,trivial⟩⟩
theorem Zz3:FnAt Tryz.prog 88 Tryz.f88.ntmps Tryz.f88.results.toList (Tryz.f88.body.getD .skip):=⟨Tryz.f88,Tryz.func88,rfl,rfl,by simp,by decide⟩
theorem Zz4 (a:Nat) (post:Nat × Unit→Prop):Za Zk6 nHn Tryz.f88.ntmps Tryz.f88.results.toList (Tryz.f88.body.getD .skip) [.flt .f64] [.snap (.flt .f64)] (a,()) post=Zd6  a post:=by kernel_rfl
theorem Z76:Z4i.holds Tryz.prog RbG 88 :=
 detP Zs9 Z8 nHn Zz3 (F:=fun x post=>Zd6  x.1 post) (fun x post=>Zz4 x.1 post) fun x _ _=>Z15f  x.1
def Zhu:Con:=.det [.flt .f64] [.snap (.flt .f64)] (fun x=>W64 x.1) (fun x=>Zk x.1)
def Zhv:Cx:=⟨Zf Zi,Zg [(142,Zk4),(143,Zhq),(144,Zdb),(131,Zfu)],RbG⟩
theorem Zq9:CxOk Tryz.prog Zhv:=⟨Z4 Z7,Z6 ⟨Z128,Zyw,Zn7,Zq3,trivial⟩⟩
theorem Zuv:FnAt Tryz.prog 115 Tryz.f115.ntmps Tryz.f115.results.toList (Tryz.f115.body.getD .skip):=⟨Tryz.f115,Tryz.func115,rfl,rfl,by simp,by decide⟩
theorem Zuw (a:Nat) (post:Nat × Unit→Prop):Za Zhv nHn Tryz.f115.ntmps Tryz.f115.results.toList (Tryz.f115.body.getD .skip) [.flt .f64] [.snap (.flt .f64)] (a,()) post=Zay  a post:=by kernel_rfl
theorem Zz5:Zhu.holds Tryz.prog RbG 115 :=
 detP Zq9 Z8 nHn Zuv (F:=fun x post=>Zay  x.1 post) (fun x post=>Zuw x.1 post) fun x h _=>Z122  x.1 h
def Zn8:Con:=.det [.flt .f64] [.snap (.flt .f64)] (fun _=>True) (fun x=>Z17v x.1)
def Zn9:Cx:=⟨Zf Zi,Zg [(197,Zk2),(146,Z20)],RbG⟩
theorem Zux:CxOk Tryz.prog Zn9:=⟨Z4 Z7,Z6 ⟨Z125,Z2p,trivial⟩⟩
theorem Z129:FnAt Tryz.prog 182 Tryz.f182.ntmps Tryz.f182.results.toList (Tryz.f182.body.getD .skip):=⟨Tryz.f182,Tryz.func182,rfl,rfl,by simp,by decide⟩
theorem Z12a (a:Nat) (post:Nat × Unit→Prop):Za Zn9 nHn Tryz.f182.ntmps Tryz.f182.results.toList (Tryz.f182.body.getD .skip) [.flt .f64] [.snap (.flt .f64)] (a,()) post=Zft  a post:=by kernel_rfl
theorem Z15r:Zn8.holds Tryz.prog RbG 182 :=
 detP Zux Z8 nHn Z129 (F:=fun x post=>Zft  x.1 post) (fun x post=>Z12a x.1 post) fun x _ _=>Z18t  x.1
def Zds:Con:=.det [.flt .f64] [.snap (.int .u64)] (fun x=>W64 x.1) (fun x=>Z16p x.1)
def Zdt:Cx:=⟨Zf Zi,Zg [(120,Z2o)],RbG⟩
theorem Zmc:CxOk Tryz.prog Zdt:=⟨Z4 Z7,Z6 ⟨Z3b,trivial⟩⟩
theorem Zqa:FnAt Tryz.prog 170 Tryz.f170.ntmps Tryz.f170.results.toList (Tryz.f170.body.getD .skip):=⟨Tryz.f170,Tryz.func170,rfl,rfl,by simp,by decide⟩
theorem Zqb (a:Nat) (post:Int × Unit→Prop):Za Zdt nHn Tryz.f170.ntmps Tryz.f170.results.toList (Tryz.f170.body.getD .skip) [.flt .f64] [.snap (.int .u64)] (a,()) post=Z83  a post:=by kernel_rfl
theorem Zsa:Zds.holds Tryz.prog RbG 170 :=
 detP Zmc Z8 nHn Zqa (F:=fun x post=>Z83  x.1 post) (fun x post=>Zqb x.1 post) fun x h _=>Zup  x.1 h
def Zk7:Con:=.det [.flt .f64] [.snap (.int .u64)] (fun x=>W64 x.1) (fun x=>Zxk x.1)
def Zk8:Cx:=⟨Zf Zi,Zg [(120,Z2o)],RbG⟩
theorem Zsb:CxOk Tryz.prog Zk8:=⟨Z4 Z7,Z6 ⟨Z3b,trivial⟩⟩
theorem Zz6:FnAt Tryz.prog 118 Tryz.f118.ntmps Tryz.f118.results.toList (Tryz.f118.body.getD .skip):=⟨Tryz.f118,Tryz.func118,rfl,rfl,by simp,by decide⟩
theorem Zz7 (a:Nat) (post:Int × Unit→Prop):Za Zk8 nHn Tryz.f118.ntmps Tryz.f118.results.toList (Tryz.f118.body.getD .skip) [.flt .f64] [.snap (.int .u64)] (a,()) post=Zd7  a post:=by kernel_rfl
theorem Z12b:Zk7.holds Tryz.prog RbG 118 :=
 detP Zsb Z8 nHn Zz6 (F:=fun x post=>Zd7  x.1 post) (fun x post=>Zz7 x.1 post) fun x h _=>Z15g  x.1 h
def Z9j:Con:=.det [.int .u64] [.snap .bool] (fun _=>True) (fun x=>noR x.1)
def Z9k:Cx:=⟨Zf Zi,Zg [],RbG⟩
theorem Zgo:CxOk Tryz.prog Z9k:=⟨Z4 Z7,fun f c h=>by cases h⟩
theorem Zk9:FnAt Tryz.prog 145 Tryz.f145.ntmps Tryz.f145.results.toList (Tryz.f145.body.getD .skip):=⟨Tryz.f145,Tryz.func145,rfl,rfl,by simp,by decide⟩
theorem Zka (a:Int) (post:Bool × Unit→Prop):Za Z9k nHn Tryz.f145.ntmps Tryz.f145.results.toList (Tryz.f145.body.getD .skip) [.int .u64] [.snap .bool] (a,()) post=Z5m  a post:=by kernel_rfl
theorem Zmd:Z9j.holds Tryz.prog RbG 145 :=
 detP Zgo Z8 nHn Zk9 (F:=fun x post=>Z5m  x.1 post) (fun x post=>Zka x.1 post) fun x _ _=>Zo3  x.1
def Z44:Con:=.det [.int .u64,.int .u64] [.snap (.int .i64)] (fun _=>True) (fun x=>cmpR x.1 x.2.1)
def Z7p:Cx:=⟨Zf Zi,Zg [(145,Z9j)],RbG⟩
theorem Zel:CxOk Tryz.prog Z7p:=⟨Z4 Z7,Z6 ⟨Zmd,trivial⟩⟩
theorem Zgp:FnAt Tryz.prog 117 Tryz.f117.ntmps Tryz.f117.results.toList (Tryz.f117.body.getD .skip):=⟨Tryz.f117,Tryz.func117,rfl,rfl,by simp,by decide⟩
theorem Zgq (a:Int) (b:Int) (post:Int × Unit→Prop):Za Z7p nHn Tryz.f117.ntmps Tryz.f117.results.toList (Tryz.f117.body.getD .skip) [.int .u64,.int .u64] [.snap (.int .i64)] (a,b,()) post=Z4h  a b post:=by kernel_rfl
theorem Z7q:Z44.holds Tryz.prog RbG 117 :=
 detP Zel Z8 nHn Zgp (F:=fun x post=>Z4h  x.1 x.2.1 post) (fun x post=>Zgq x.1 x.2.1 post) fun x _ _=>Zjz  x.1 x.2.1
def Zb0:Con:=.det [.flt .f64,.flt .f64] [.snap (.int .i64)] (fun x=>W2 x.1 x.2.1) (fun x=>ordR x.1 x.2.1)
def Zkb:Cx:=⟨Zf Zi,Zg [(118,Zk7),(117,Z44)],RbG⟩
theorem Zsc:CxOk Tryz.prog Zkb:=⟨Z4 Z7,Z6 ⟨Z12b,Z7q,trivial⟩⟩
theorem Zz8:FnAt Tryz.prog 87 Tryz.f87.ntmps Tryz.f87.results.toList (Tryz.f87.body.getD .skip):=⟨Tryz.f87,Tryz.func87,rfl,rfl,by simp,by decide⟩
theorem Zz9 (a:Nat) (b:Nat) (post:Int × Unit→Prop):Za Zkb nHn Tryz.f87.ntmps Tryz.f87.results.toList (Tryz.f87.body.getD .skip) [.flt .f64,.flt .f64] [.snap (.int .i64)] (a,b,()) post=Zd8  a b post:=by kernel_rfl
theorem Zkc:Zb0.holds Tryz.prog RbG 87 :=
 detP Zsc Z8 nHn Zz8 (F:=fun x post=>Zd8  x.1 x.2.1 post) (fun x post=>Zz9 x.1 x.2.1 post) fun x h _=>Z15h  x.1 x.2.1 h
def Zkd:Con:=.det [.slice (.int .i64)] [.snap (.int .i64)] (fun _=>True) (fun x=>orR x.1)
def Zhw:Hn:={ loops:=fun k=>match k with | 3=>some { ls:=[(.slot 8,.data (.int .i64))],os:=[] } | _=>none,joins:=fun _=>none,named:=true }
def Zke:Cx:=⟨Zf Zi,Zg [],RbG⟩
theorem Zsd:CxOk Tryz.prog Zke:=⟨Z4 Z7,fun f c h=>by cases h⟩
theorem Zza:FnAt Tryz.prog 169 Tryz.f169.ntmps Tryz.f169.results.toList (Tryz.f169.body.getD .skip):=⟨Tryz.f169,Tryz.func169,rfl,rfl,by simp,by decide⟩
theorem Zzb (a:List Int) (post:Int × Unit→Prop):Za Zke Zhw Tryz.f169.ntmps Tryz.f169.results.toList (Tryz.f169.body.getD .skip) [.slice (.int .i64)] [.snap (.int .i64)] (a,()) post=Zd9  a post:=by kernel_rfl
theorem Z12c:Zkd.holds Tryz.prog RbG 169 :=
 detP Zsd Z8 Zhw Zza (F:=fun x post=>Zd9  x.1 post) (fun x post=>Zzb x.1 post) fun x _ w=>Z15i  x.1 w
def Zfx:Con:=.det [.flt .f64,.flt .f64] [.snap (.int .i64)] (fun x=>W2 x.1 x.2.1) (fun x=>Zlx x.1 x.2.1)
def Zfy:Cx:=⟨Zf Zi,Zg [(170,Zds),(117,Z44),(87,Zb0),(169,Zkd)],RbG⟩
theorem Zo4:CxOk Tryz.prog Zfy:=⟨Z4 Z7,Z6 ⟨Zsa,Z7q,Zkc,Z12c,trivial⟩⟩
theorem Zse:FnAt Tryz.prog 168 Tryz.f168.ntmps Tryz.f168.results.toList (Tryz.f168.body.getD .skip):=⟨Tryz.f168,Tryz.func168,rfl,rfl,by simp,by decide⟩
theorem Zsf (a:Nat) (b:Nat) (post:Int × Unit→Prop):Za Zfy nHn Tryz.f168.ntmps Tryz.f168.results.toList (Tryz.f168.body.getD .skip) [.flt .f64,.flt .f64] [.snap (.int .i64)] (a,b,()) post=Z9h  a b post:=by kernel_rfl
theorem Zuy:Zfx.holds Tryz.prog RbG 168 :=
 detP Zo4 Z8 nHn Zse (F:=fun x post=>Z9h  x.1 x.2.1 post) (fun x post=>Zsf x.1 x.2.1 post) fun x h _=>Zyr  x.1 x.2.1 h
def Zhx:Con:=.det [.flt .f64,.flt .f64] [.snap (.int .i64)] (fun x=>W2 x.1 x.2.1) (fun x=>ordR x.1 x.2.1)
def Zhy:Cx:=⟨Zf Zi,Zg [(140,Z9i),(141,Zhs)],RbG⟩
theorem Zqc:CxOk Tryz.prog Zhy:=⟨Z4 Z7,Z6 ⟨Zfv,Zz2,trivial⟩⟩
theorem Zuz:FnAt Tryz.prog 114 Tryz.f114.ntmps Tryz.f114.results.toList (Tryz.f114.body.getD .skip):=⟨Tryz.f114,Tryz.func114,rfl,rfl,by simp,by decide⟩
theorem Zv0 (a:Nat) (b:Nat) (post:Int × Unit→Prop):Za Zhy nHn Tryz.f114.ntmps Tryz.f114.results.toList (Tryz.f114.body.getD .skip) [.flt .f64,.flt .f64] [.snap (.int .i64)] (a,b,()) post=Zaz  a b post:=by kernel_rfl
theorem Zzc:Zhx.holds Tryz.prog RbG 114 :=
 detP Zqc Z8 nHn Zuz (F:=fun x post=>Zaz  x.1 x.2.1 post) (fun x post=>Zv0 x.1 x.2.1 post) fun x h _=>Z123  x.1 x.2.1 h
def Zkf:Con:=.det [.flt .f64,.int .i64] [.snap .bool] (fun x=>WI x.1 x.2.1) (fun x=>Z1cp x.1 x.2.1)
def Zkg:Cx:=⟨Zf Zi,Zg [(151,Zfw)],RbG⟩
theorem Zsg:CxOk Tryz.prog Zkg:=⟨Z4 Z7,Z6 ⟨Zq7,trivial⟩⟩
theorem Zzd:FnAt Tryz.prog 173 Tryz.f173.ntmps Tryz.f173.results.toList (Tryz.f173.body.getD .skip):=⟨Tryz.f173,Tryz.func173,rfl,rfl,by simp,by decide⟩
theorem Zze (a:Nat) (b:Int) (post:Bool × Unit→Prop):Za Zkg nHn Tryz.f173.ntmps Tryz.f173.results.toList (Tryz.f173.body.getD .skip) [.flt .f64,.int .i64] [.snap .bool] (a,b,()) post=Zda  a b post:=by kernel_rfl
theorem Z12d:Zkf.holds Tryz.prog RbG 173 :=
 detP Zsg Z8 nHn Zzd (F:=fun x post=>Zda  x.1 x.2.1 post) (fun x post=>Zze x.1 x.2.1 post) fun x h _=>Z15j  x.1 x.2.1 h
end Go.Lift

namespace Go.Lift
def Zfz:=fun (a b c:Nat) (post:(Nat × Nat × Nat) × Unit→Prop)=>∃ (h:True),∃ (h:True),∃ (h:True),post (((Zk a).fst,(Zk b).fst,(Zk c).fst),
 ())
theorem Z18u (a:Nat) (b:Nat) (c:Nat):Zfz  a b c (fun r=>r=Z4d a b c):=by
 exact ⟨trivial,trivial,trivial,rfl⟩
def Zg0:=fun (a b:Nat × Nat × Nat) (post:(Nat × Nat × Nat) × Unit→Prop)=>∀ (a_1:Nat),FRes f64 (f64.format.sub a.fst b.fst) a_1→∀
 (a_2:Nat),FRes f64 (f64.format.sub a.snd.fst b.snd.fst) a_2→∀ (a_3:Nat),FRes f64 (f64.format.sub a.snd.snd b.snd.snd)
 a_3→∃ (h:True),post (((Z4d a_1 a_2 a_3).fst.fst,(Z4d a_1 a_2 a_3).fst.snd.fst,(Z4d a_1 a_2 a_3).fst.snd.snd),())
theorem Z18v (a:Nat × Nat × Nat) (b:Nat × Nat × Nat) (h:WV2 a b):Zg0  a b (fun r=>r=Z7m a b):=by
 intro x hx y hy z hz
 exact ⟨trivial,congrArg r1 (Zfd (fsub hx).1 (fsub hy).1 (fsub hz).1)⟩
def Zg1:=fun (a b:Nat × Nat × Nat) (post:(Nat × Nat × Nat) × Unit→Prop)=>∀ (a_1:Nat),FRes f64 (f64.format.mul a.snd.fst b.snd.snd)
 a_1→∀ (a_2:Nat),FRes f64 (f64.format.mul a.snd.snd b.snd.fst) a_2→∀ (a_3:Nat),FRes f64 (f64.format.sub a_1 a_2) a_3 →
 ∀ (a_4:Nat),FRes f64 (f64.format.mul a.snd.snd b.fst) a_4→∀ (a_5:Nat),FRes f64 (f64.format.mul a.fst b.snd.snd) a_5→∀
 (a_6:Nat),FRes f64 (f64.format.sub a_4 a_5) a_6→∀ (a_7:Nat),FRes f64 (f64.format.mul a.fst b.snd.fst) a_7→∀ (a_8 :
 Nat),FRes f64 (f64.format.mul a.snd.fst b.fst) a_8→∀ (a:Nat),FRes f64 (f64.format.sub a_7 a_8) a→∃ (h:True),post
 (((Z4d a_3 a_6 a).fst.fst,(Z4d a_3 a_6 a).fst.snd.fst,(Z4d a_3 a_6 a).fst.snd.snd),())
theorem Z18w (a:Nat × Nat × Nat) (b:Nat × Nat × Nat):Zg1  a b (fun r=>r=Zpj a b):=by
 intro x1 h1 x2 h2 x3 h3 x4 h4 x5 h5 x6 h6 x7 h7 x8 h8 x9 h9
 exact ⟨trivial,congrArg r1 (Zfd (Z115 (fmul h1).1 (fmul h2).1 (fsub h3).1) (Z115 (fmul h4).1 (fmul h5).1 (fsub h6).1) (Z115 (fmul h7).1 (fmul h8).1 (fsub h9).1))⟩
def Zg2:=fun (a:Nat) (post:Nat × Unit→Prop)=>∃ (h:True),∀ (a_1:Nat × Unit),Zha a a_1→post (a_1.fst,())
theorem Z18x (a:Nat):Zg2  a (fun r=>Zha a r):=by
 exact ⟨trivial,fun x hx=>hx⟩
def Zdc:=fun (a:Nat × Nat × Nat) (post:Nat × Unit→Prop)=>∀ (a_1:Nat),FRes f64 (f64.format.mul a.fst a.fst) a_1→∀ (a_2:Nat),FRes
 f64 (f64.format.mul a.snd.fst a.snd.fst) a_2→∀ (a_3:Nat),FRes f64 (f64.format.mul a.snd.snd a.snd.snd) a_3→∃ (h:W3 a_1
 a_2 a_3),∃ (h:True),∀ (a:Nat × Unit),Zha (Zxl a_1 a_2 a_3).fst a→∃ (h:True),post ((Zk a.fst).fst,())
theorem Z15s (a:Nat × Nat × Nat) (h:WV a):Zdc  a (fun r=>r=Z4e a):=by
 intro x hx y hy z hz
 exact ⟨⟨(fmul hx).2,(fmul hy).2,(fmul hz).2⟩,trivial,fun w hw=>⟨trivial,congrArg r1 (length_eq (fmul hx).1 (fmul hy).1 (fmul hz).1 hw.1)⟩⟩
def Zme:=fun (a b:Nat × Nat × Nat) (post:Nat × Unit→Prop)=>∃ (h:WV2 (a.fst,a.snd.fst,a.snd.snd) (b.fst,b.snd.fst,b.snd.snd)),∃ (h:WV (Z7m (a.fst,
 a.snd.fst,a.snd.snd) (b.fst,b.snd.fst,b.snd.snd)).fst),post ((Z4e (Z7m (a.fst,a.snd.fst,a.snd.snd) (b.fst,b.snd.fst,b.snd.snd)).fst).fst,())
theorem Z1di (a:Nat × Nat × Nat) (b:Nat × Nat × Nat) (h:WV2 a b):Zme  a b (fun r=>r=gapR a b):=by
 exact ⟨h,Z1h3 _ _,rfl⟩
def Zj3:=fun (a:Nat × Nat × Nat) (post:(Nat × Nat × Nat) × Unit→Prop)=>∃ (h:WV (a.fst,a.snd.fst,a.snd.snd)),∀ (a_1:Bool),a_1=fcmp Go.BinOp.gtr
 (f64.format.order (Z4e (a.fst,a.snd.fst,a.snd.snd)).fst (0:Nat))→Br (!a_1) (post (((0:Nat),(0:Nat),(0:Nat)),())) (∃ (h:WI (Z4e (a.fst,
 a.snd.fst,a.snd.snd)).fst (1:Int)),∀ (a_2:Bool),a_2=(Z1cp (Z4e (a.fst,a.snd.fst,a.snd.snd)).fst (1:Int)).fst→Br a_2 (post (((0:Nat),(0:Nat),(0:Nat)),
 ())) (∀ (a_3:Nat),FRes f64 (f64.format.div a.fst (Z4e (a.fst,a.snd.fst,a.snd.snd)).fst) a_3→∀ (a_4:Nat),FRes f64
 (f64.format.div a.snd.fst (Z4e (a.fst,a.snd.fst,a.snd.snd)).fst) a_4→∀ (a_5:Nat),FRes f64 (f64.format.div a.snd.snd (Z4e
 (a.fst,a.snd.fst,a.snd.snd)).fst) a_5→∃ (h:True),post (((Z4d a_3 a_4 a_5).fst.fst,(Z4d a_3 a_4 a_5).fst.snd.fst,(Z4d a_3 a_4 a_5).fst.snd.snd),())))
theorem Z1ae (a:Nat × Nat × Nat) (h:WV a):Zj3  a (fun r=>r=Zxn a):=by
 refine ⟨h,?_⟩
 have hs:=Z1a2 a
 have hg:=Z1it hs
 rintro _ rfl
 refine Br.intro (fun e=>?_) fun e=>⟨Z1f4 a,?_⟩
 ·have e:(!fcmp .gtr (Ieee.double.order (Z18 a) 0))=true:=e
  rw [hg] at e
  refine (congrArg r1 (Z14d ?_)).symm
  rw [Z116]
  rintro ⟨h1,h2⟩
  have:isN (Z18 a)=false:=by unfold isN; simp; omega
  rw [this] at e
  simp [h1] at e
 ·have e:(!fcmp .gtr (Ieee.double.order (Z18 a) 0))=false:=e
  rw [hg] at e
  have e:isN (Z18 a)=false∧Z1 (Z18 a)≠0:=by simpa using e
  have hi:infS (Z18 a) 1=decide (Z1 (Z18 a)=infR):=by unfold infS; rw [if_neg (by decide),if_neg (by decide),hs]; simp
  rintro _ rfl
  refine Br.intro (fun f=>?_) fun f=>?_
  ·have f:infS (Z18 a) 1=true:=f
   rw [hi] at f
   have f:=of_decide_eq_true f
   exact (congrArg r1 (Z14d (by rw [Z116]; rintro ⟨h1,h2⟩; omega))).symm
  ·have f:infS (Z18 a) 1=false:=f
   rw [hi] at f
   have f:=of_decide_eq_false f
   have g:Z1 (Z18 a)≤infR:=by have:=e.1; unfold isN at this; simpa using this
   intro x hx y hy z hz
   exact ⟨trivial,congrArg r1 (Z1f5 ((Z116 _).2 ⟨e.2,by omega⟩) (fdiv hx).1 (fdiv hy).1 (fdiv hz).1)⟩
end Go.Lift

namespace Go.Lift
def Zmf:=fun (a:List Nat) (post:Nat × Unit→Prop)=>∀ (a_1:Bool),a_1=((↑a.length:Int)==(0:Int))→Br a_1 (post ((0:Nat),())) (∃ (h:(0:Int)≤(0 :
 Int)∧(0:Int)<(↑a.length:Int)),∃ (h:(0:Int)≤(1:Int)∧(1:Int)≤(↑a.length:Int)∧(↑a.length:Int)≤(↑a.length:Int)),HIs [] []∧∃ (I:Nat × Int × Unit →
 Unit→Prop),∃ (μ:Nat × Int × Unit→Unit→Nat),I (a.getD (Int.toNat (0:Int)) (0:Nat),(0:Int),()) ()∧∀ (x:Nat × Int × Unit) (y:Unit),I x y→∀ (a_2:Bool),
 a_2=decide (x.snd.fst<(↑(List.take ((↑a.length:Int) - (1:Int)).toNat (List.drop (Int.toNat (1:Int)) a)).length:Int))→Br a_2 (∃ (h:(0:Int)≤x.snd.fst∧x.snd.fst
 < (↑(List.take ((↑a.length:Int) - (1:Int)).toNat (List.drop (Int.toNat (1:Int)) a)).length:Int)),∀ (a_3:Nat),FRes f64 (f64.format.add x.fst
 ((List.take ((↑a.length:Int) - (1:Int)).toNat (List.drop (Int.toNat (1:Int)) a)).getD x.snd.fst.toNat (0:Nat))) a_3→HIs [] []∧I (a_3,i64.wrap (x.snd.fst+(1
 : Int)),()) ()∧μ (a_3,i64.wrap (x.snd.fst+(1:Int)),()) ()<μ x y) (∃ (h:True),post ((Z17v x.fst).fst,())))
theorem Z1dj (a:List Nat) (h:WL a) (w:KS.wf [.slice (.flt .f64)] (a,())):Zmf  a (fun r=>r=rowR a):=by
 have hl:a.length≤maxN:=w.1.1
 unfold maxN at hl
 rintro _ rfl
 refine Br.intro (fun e=>?_) fun e=>?_
 ·have e:a.length=0:=by have:=eq_of_beq e; omega
  have:a=[]:=List.eq_nil_of_length_eq_zero e
  subst this; rfl
 ·have e:0<a.length:=by
   rcases Nat.eq_zero_or_pos a.length with z | z
   ·rw [z] at e; cases e
   ·exact z
  refine ⟨⟨by omega,by omega⟩,⟨by omega,by omega,by omega⟩,rfl,fun x _=>∃ i:Nat,x.2.1=i∧i+1≤a.length∧W64 x.1∧Ze x.1=rowQ (a.take (i+1)),fun x _=>a.length - x.2.1.toNat,⟨0,rfl,by omega,Z1is h 0,(Z1h1 e).symm⟩,?_⟩
  have ht:List.take ((a.length:Int) - 1).toNat (List.drop (Int.toNat 1) a)=a.drop 1:=by
   show List.take ((a.length:Int) - 1).toNat (List.drop 1 a)=a.drop 1
   apply List.take_of_length_le; rw [List.length_drop]; omega
  rw [ht]
  have hd:∀ i,(a.drop 1).getD i 0=a.getD (i+1) 0:=by
   intro i; rw [List.getD_eq_getElem?_getD,List.getD_eq_getElem?_getD,List.getElem?_drop,Nat.add_comm]
  rintro ⟨acc,_,⟨⟩⟩ _ ⟨i,hi,hil,hw,hq⟩
  dsimp only at hi hw hq
  subst hi
  dsimp only
  rintro _ rfl
  refine Br.intro (fun f=>?_) fun f=>?_
  ·have f:i+1<a.length:=by have:=of_decide_eq_true f; rw [List.length_drop] at this; omega
   refine ⟨⟨by omega,by rw [List.length_drop]; omega⟩,fun r hr=>?_⟩
   rw [Int.toNat_natCast,hd] at hr
   obtain ⟨q1,q2⟩:=fadd hr
   refine ⟨rfl,⟨i+1,?_,by omega,q2,?_⟩,?_⟩
   ·rw [wi ⟨by omega,by omega⟩]; omega
   ·show Ze r=_
    rw [q1,Z1ir f (by omega),Z1c2 (x':=rowQ (a.take (i+1))) (by rw [hq,Z1jw]) rfl]
   ·rw [wi ⟨by omega,by omega⟩]; omega
  ·have f:a.length≤i+1:=by have:=of_decide_eq_false f; rw [List.length_drop] at this; omega
   refine ⟨trivial,congrArg r1 ?_⟩
   show Ze acc=_
   rw [hq,List.take_of_length_le f]
def Zg3:=fun (a b c:Nat) (post:Nat × Unit→Prop)=>∃ (h:(List.replicate (3:Nat) (0:Nat)).length=(3:Nat)∧(3:Nat)=(3:Nat)),∃ (h:(0:Int)≤(0 :
 Int)∧(0:Int)≤(3:Int)∧(3:Int)≤(3:Int)∧(3:Nat)=(3:Nat)),∃ (h:Zrm (3:Int)),∃ (h:(0:Int)≤(1:Int)∧(1:Int)<(3:Int)),∃ (h:(0:Int) ≤
 (0:Int)∧(0:Int)<(3:Int)),∃ (h:W2 b a),Br (decide ((Zlx b a).fst<(0:Int))) (∃ (h:(0:Int)≤(0:Int)∧(0:Int)<(3:Int)),∃ (h:(0:Int)≤(1:Int)
 ∧ (1:Int)<(3:Int)),∃ (h:(0:Int)≤(1:Int)∧(1:Int)<(3:Int)),∃ (h:(0:Int)≤(0:Int)∧(0:Int)<(3:Int)),∃ (h:(0:Int)≤(2:Int)∧(2:Int) <
 (3:Int)),∃ (h:(0:Int)≤(1:Int)∧(1:Int)<(3:Int)),∃ (h:W2 c a),Br (decide ((Zlx c a).fst<(0:Int))) (∃ (h:(0:Int)≤(1:Int)∧(1:Int)<(3 :
 Int)),∃ (h:(0:Int)≤(2:Int)∧(2:Int)<(3:Int)),∃ (h:(0:Int)≤(2:Int)∧(2:Int)<(3:Int)),∃ (h:(0:Int)≤(1:Int)∧(1:Int)<(3:Int)),∃ (h :
 (0:Int)≤(1:Int)∧(1:Int)<(3:Int)),∃ (h:(0:Int)≤(0:Int)∧(0:Int)<(3:Int)),∃ (h:W2 c b),Br (decide ((Zlx c b).fst<(0:Int))) (∃ (h:(0:Int)
 ≤ (0:Int)∧(0:Int)<(3:Int)),∃ (h:(0:Int)≤(1:Int)∧(1:Int)<(3:Int)),∃ (h:(0:Int)≤(1:Int)∧(1:Int)<(3:Int)),∃ (h:(0:Int)≤(0:Int) ∧
 (0:Int)<(3:Int)),∃ (h:(0:Int)≤(0:Int)∧(0:Int)≤(3:Int)∧(3:Int)≤(3:Int)∧(3:Nat)=[c,b,a].length),∃ (h:WL [c,b,a]),post ((rowR [c,b,
 a]).fst,())) (∃ (h:(0:Int)≤(0:Int)∧(0:Int)≤(3:Int)∧(3:Int)≤(3:Int)∧(3:Nat)=[b,c,a].length),∃ (h:WL [b,c,a]),post ((rowR [b,c,a]).fst,
 ()))) (∃ (h:(0:Int)≤(0:Int)∧(0:Int)≤(3:Int)∧(3:Int)≤(3:Int)∧(3:Nat)=[b,a,c].length),∃ (h:WL [b,a,c]),post ((rowR [b,a,c]).fst,()))) (∃ (h
 : (0:Int)≤(2:Int)∧(2:Int)<(3:Int)),∃ (h:(0:Int)≤(1:Int)∧(1:Int)<(3:Int)),∃ (h:W2 c b),Br (decide ((Zlx c b).fst<(0:Int))) (∃ (h:(0 :
 Int)≤(1:Int)∧(1:Int)<(3:Int)),∃ (h:(0:Int)≤(2:Int)∧(2:Int)<(3:Int)),∃ (h:(0:Int)≤(2:Int)∧(2:Int)<(3:Int)),∃ (h:(0:Int)≤(1 :
 Int)∧(1:Int)<(3:Int)),∃ (h:(0:Int)≤(1:Int)∧(1:Int)<(3:Int)),∃ (h:(0:Int)≤(0:Int)∧(0:Int)<(3:Int)),∃ (h:W2 c a),Br (decide ((Zlx c
 a).fst<(0:Int))) (∃ (h:(0:Int)≤(0:Int)∧(0:Int)<(3:Int)),∃ (h:(0:Int)≤(1:Int)∧(1:Int)<(3:Int)),∃ (h:(0:Int)≤(1:Int)∧(1:Int)<(3 :
 Int)),∃ (h:(0:Int)≤(0:Int)∧(0:Int)<(3:Int)),∃ (h:(0:Int)≤(0:Int)∧(0:Int)≤(3:Int)∧(3:Int)≤(3:Int)∧(3:Nat)=[c,a,b].length),∃ (h :
 WL [c,a,b]),post ((rowR [c,a,b]).fst,())) (∃ (h:(0:Int)≤(0:Int)∧(0:Int)≤(3:Int)∧(3:Int)≤(3:Int)∧(3:Nat)=[a,c,b].length),∃ (h:WL [a,c,
 b]),post ((rowR [a,c,b]).fst,()))) (∃ (h:(0:Int)≤(0:Int)∧(0:Int)≤(3:Int)∧(3:Int)≤(3:Int)∧(3:Nat)=(3:Nat)),∃ (h:WL [a,b,c]),post ((rowR
 [a,b,c]).fst,())))
theorem Z18y (a:Nat) (b:Nat) (c:Nat) (h:W3 a b c):Zg3  a b c (fun r=>r=Zxl a b c):=by
 obtain ⟨ha,hb,hc⟩:=h
 have leaf:∀ l,Zed a b c=l→((rowR l).fst,())=Zxl a b c:=by rintro _ rfl; rfl
 refine ⟨⟨rfl,rfl⟩,⟨by decide,by decide,by decide,rfl⟩,rfl,by decide,by decide,⟨hb,ha⟩,Br.intro (fun e=>⟨by decide,by decide,by decide,by decide,by decide,by decide,⟨hc,ha⟩,Br.intro (fun f=>⟨by decide,by decide,by decide,by decide,by decide,by decide,⟨hc,hb⟩,Br.intro (fun g=>⟨by decide,by decide,by decide,by decide,⟨by decide,by decide,by decide,rfl⟩,WL3 hc hb ha,leaf _ ?_⟩) fun g=>⟨⟨by decide,by decide,by decide,rfl⟩,WL3 hb hc ha,leaf _ ?_⟩⟩) fun f=>⟨⟨by decide,by decide,by decide,rfl⟩,WL3 hb ha hc,leaf _ ?_⟩⟩) fun e=>⟨by decide,by decide,⟨hc,hb⟩,Br.intro (fun f=>⟨by decide,by decide,by decide,by decide,by decide,by decide,⟨hc,ha⟩,Br.intro (fun g=>⟨by decide,by decide,by decide,by decide,⟨by decide,by decide,by decide,rfl⟩,WL3 hc ha hb,leaf _ ?_⟩) fun g=>⟨⟨by decide,by decide,by decide,rfl⟩,WL3 ha hc hb,leaf _ ?_⟩⟩) fun f=>⟨⟨by decide,by decide,by decide,rfl⟩,WL3 ha hb hc,leaf _ ?_⟩⟩⟩
 ·have e:ltM b a=true:=e
  have f:ltM c a=true:=f
  have g:ltM c b=true:=g
  unfold Zed; rw [e,f,g]; rfl
 ·have e:ltM b a=true:=e
  have f:ltM c a=true:=f
  have g:ltM c b=false:=g
  unfold Zed; rw [e,f,g]; rfl
 ·have e:ltM b a=true:=e
  have f:ltM c a=false:=f
  unfold Zed; rw [e,f]; rfl
 ·have e:ltM b a=false:=e
  have f:ltM c b=true:=f
  have g:ltM c a=true:=g
  unfold Zed; rw [e,f,g]; rfl
 ·have e:ltM b a=false:=e
  have f:ltM c b=true:=f
  have g:ltM c a=false:=g
  unfold Zed; rw [e,f,g]; rfl
 ·have e:ltM b a=false:=e
  have f:ltM c b=false:=f
  unfold Zed; rw [e,f]; rfl
end Go.Lift

namespace Go.Lift
open Go.Proofs
def Zts:Con:=.det [.slice (.flt .f64)] [.snap (.flt .f64)] (fun x=>WL x.1) (fun x=>rowR x.1)
def Zqd:Hn:={ loops:=fun k=>match k with | 5=>some { ls:=[(.slot 3,.data (.flt .f64)),(.slot 15,.data (.int .i64))],os:=[] } | _=>none,joins:=fun _=>none,named:=true }
def Ztt:Cx:=⟨Zf Zi,Zg [(182,Zn8)],RbG⟩
theorem Z12e:CxOk Tryz.prog Ztt:=⟨Z4 Z7,Z6 ⟨Z15r,trivial⟩⟩
theorem Z18z:FnAt Tryz.prog 171 Tryz.f171.ntmps Tryz.f171.results.toList (Tryz.f171.body.getD .skip):=⟨Tryz.f171,Tryz.func171,rfl,rfl,by simp,by decide⟩
theorem Z190 (a:List Nat) (post:Nat × Unit→Prop):Za Ztt Zqd Tryz.f171.ntmps Tryz.f171.results.toList (Tryz.f171.body.getD .skip) [.slice (.flt .f64)] [.snap (.flt .f64)] (a,()) post=Zmf  a post:=by kernel_rfl
theorem Z1af:Zts.holds Tryz.prog RbG 171 :=
 detP Z12e Z8 Zqd Z18z (F:=fun x post=>Zmf  x.1 post) (fun x post=>Z190 x.1 post) fun x h w=>Z1dj  x.1 h w
def Zhz:Con:=.det [.int .u64] [.snap (.int .i64)] (fun x=>Zrm x.1) (fun x=>twoR x.1)
def Zi0:Cx:=⟨Zf Zi,fun _=>none,RbG⟩
theorem Zqe:CxOk Tryz.prog Zi0:=⟨Z4 Z7,fun f c h=>by cases h⟩
theorem Zv1:FnAt Tryz.prog 147 Tryz.f147.ntmps Tryz.f147.results.toList (Tryz.f147.body.getD .skip):=⟨Tryz.f147,Tryz.func147,rfl,rfl,by simp,by decide⟩
theorem Zv2 (post:Int × Unit→Prop):Za Zi0 noHn Tryz.f147.ntmps Tryz.f147.results.toList (Tryz.f147.body.getD .skip) [.int .u64] [.snap (.int .i64)] ((3:Int),()) post=(∃ (h:(0:Int)≤(3:Int)∧(3:Int)<(256:Int)),post ((2:Int),())):=by kernel_rfl
theorem Zzf:Zhz.holds Tryz.prog RbG 147:=by
 refine Z14a Zqe Z8 noHn Zv1 ?_
 rintro ⟨a,⟨⟩⟩ h
 have h:a=(3:Int):=h
 subst h
 exact (Zv2 _).mpr ⟨by decide,rfl⟩
def Zna:Con:=.det [.int .u64] [.snap (.int .i64)] (fun x=>Zrm x.1) (fun x=>twoR x.1)
def Znb:Cx:=⟨Zf Zi,Zg [(147,Zhz)],RbG⟩
theorem Zv3:CxOk Tryz.prog Znb:=⟨Z4 Z7,Z6 ⟨Zzf,trivial⟩⟩
theorem Z12f:FnAt Tryz.prog 181 Tryz.f181.ntmps Tryz.f181.results.toList (Tryz.f181.body.getD .skip):=⟨Tryz.f181,Tryz.func181,rfl,rfl,by simp,by decide⟩
theorem Z12g (post:Int × Unit→Prop):Za Znb noHn Tryz.f181.ntmps Tryz.f181.results.toList (Tryz.f181.body.getD .skip) [.int .u64] [.snap (.int .i64)] ((3:Int),()) post=(∃ (h:Zrm 3),post ((2:Int),())):=by kernel_rfl
theorem Z15t:Zna.holds Tryz.prog RbG 181:=by
 refine Z14a Zv3 Z8 noHn Z12f ?_
 rintro ⟨a,⟨⟩⟩ h
 have h:a=(3:Int):=h
 subst h
 exact (Z12g _).mpr ⟨rfl,rfl⟩
def Znc:Con:=.det [.flt .f64,.flt .f64,.flt .f64] [.snap (.flt .f64)] (fun x=>W3 x.1 x.2.1 x.2.2.1) (fun x=>Zxl x.1 x.2.1 x.2.2.1)
def Zkh:Hn:={ loops:=fun _=>none,joins:=fun _=>none,inl:=inlL [167] }
def Zdd:Cx:=⟨Zf Zi,Zg [(168,Zfx),(171,Zts),(181,Zna)],RbG⟩
theorem Zg4:CxOk Tryz.prog Zdd:=⟨Z4 Z7,Z6 ⟨Zuy,Z1af,Z15t,trivial⟩⟩
theorem Z12h:FnAt Tryz.prog 149 Tryz.f149.ntmps Tryz.f149.results.toList (Tryz.f149.body.getD .skip):=⟨Tryz.f149,Tryz.func149,rfl,rfl,by simp,by decide⟩
theorem Z12i (a:Nat) (b:Nat) (c:Nat) (post:Nat × Unit→Prop):Z6u Zdd Zkh (Zes Zdd Ziw 5) Tryz.f149.ntmps Tryz.f149.results.toList (Tryz.f149.body.getD .skip) [.flt .f64,.flt .f64,.flt .f64] [.snap (.flt .f64)] (a,b,c,()) post=Zg3  a b c post:=by kernel_rfl
theorem Z15u:Znc.holds Tryz.prog RbG 149 :=
 Z16n Zg4 Z8 Zkh (Zec Zg4 Z8 Z11h 5) Z12h (F:=fun x post=>Zg3  x.1 x.2.1 x.2.2.1 post) (fun x post=>Z12i x.1 x.2.1 x.2.2.1 post) fun x h _=>Z18y  x.1 x.2.1 x.2.2.1 h
end Go.Lift

namespace Go.Lift
open Go.Proofs
def Z7x:Con:=.det [.flt .f64,.flt .f64,.flt .f64] [.snap kVec] (fun _=>True) (fun x=>Z4d x.1 x.2.1 x.2.2.1)
def Znd:Cx:=⟨Zf Zi,Zg [(88,Z4i)],RbG⟩
theorem Zv4:CxOk Tryz.prog Znd:=⟨Z4 Z7,Z6 ⟨Z76,trivial⟩⟩
theorem Z12j:FnAt Tryz.prog 150 Tryz.f150.ntmps Tryz.f150.results.toList (Tryz.f150.body.getD .skip):=⟨Tryz.f150,Tryz.func150,rfl,rfl,by simp,by decide⟩
theorem Z12k (a:Nat) (b:Nat) (c:Nat) (post:(Nat × Nat × Nat) × Unit→Prop):Za Znd nHn Tryz.f150.ntmps Tryz.f150.results.toList (Tryz.f150.body.getD .skip) [.flt .f64,.flt .f64,.flt .f64] [.snap kVec] (a,b,c,()) post=Zfz  a b c post:=by kernel_rfl
theorem Zde:Z7x.holds Tryz.prog RbG 150 :=
 detP Zv4 Z8 nHn Z12j (F:=fun x post=>Zfz  x.1 x.2.1 x.2.2.1 post) (fun x post=>Z12k x.1 x.2.1 x.2.2.1 post) fun x _ _=>Z18u  x.1 x.2.1 x.2.2.1
def Zdf:Con:=.det [kVec,kVec] [.snap kVec] (fun x=>WV2 x.1 x.2.1) (fun x=>Z7m x.1 x.2.1)
def Zne:Cx:=⟨Zf Zi,Zg [(150,Z7x)],RbG⟩
theorem Zv5:CxOk Tryz.prog Zne:=⟨Z4 Z7,Z6 ⟨Zde,trivial⟩⟩
theorem Z12l:FnAt Tryz.prog 125 Tryz.f125.ntmps Tryz.f125.results.toList (Tryz.f125.body.getD .skip):=⟨Tryz.f125,Tryz.func125,rfl,rfl,by simp,by decide⟩
theorem Z12m (a:Nat × Nat × Nat) (b:Nat × Nat × Nat) (post:(Nat × Nat × Nat) × Unit→Prop):Za Zne nHn Tryz.f125.ntmps Tryz.f125.results.toList (Tryz.f125.body.getD .skip) [kVec,kVec] [.snap kVec] (a,b,()) post=Zg0  a b post:=by kernel_rfl
theorem Znf:Zdf.holds Tryz.prog RbG 125 :=
 detP Zv5 Z8 nHn Z12l (F:=fun x post=>Zg0  x.1 x.2.1 post) (fun x post=>Z12m x.1 x.2.1 post) fun x h _=>Z18v  x.1 x.2.1 h
def Zng:Con:=.det [kVec,kVec] [.snap kVec] (fun _=>True) (fun x=>Zpj x.1 x.2.1)
def Znh:Cx:=⟨Zf Zi,Zg [(150,Z7x)],RbG⟩
theorem Zv6:CxOk Tryz.prog Znh:=⟨Z4 Z7,Z6 ⟨Zde,trivial⟩⟩
theorem Z12n:FnAt Tryz.prog 124 Tryz.f124.ntmps Tryz.f124.results.toList (Tryz.f124.body.getD .skip):=⟨Tryz.f124,Tryz.func124,rfl,rfl,by simp,by decide⟩
theorem Z12o (a:Nat × Nat × Nat) (b:Nat × Nat × Nat) (post:(Nat × Nat × Nat) × Unit→Prop):Za Znh nHn Tryz.f124.ntmps Tryz.f124.results.toList (Tryz.f124.body.getD .skip) [kVec,kVec] [.snap kVec] (a,b,()) post=Zg1  a b post:=by kernel_rfl
theorem Z15v:Zng.holds Tryz.prog RbG 124 :=
 detP Zv6 Z8 nHn Z12n (F:=fun x post=>Zg1  x.1 x.2.1 post) (fun x post=>Z12o x.1 x.2.1 post) fun x _ _=>Z18w  x.1 x.2.1
def Zni:Con:=.rel [.flt .f64] [.snap (.flt .f64)] (fun _=>True) (fun x r=>Zha x.1 r) (fun x h=>Z1b5 (Z1av _) (Z10q _))
def Znj:Cx:=⟨Zf Zi,Zg [(166,Zn5)],RbG⟩
theorem Zv7:CxOk Tryz.prog Znj:=⟨Z4 Z7,Z6 ⟨Z15k,trivial⟩⟩
theorem Z12p:FnAt Tryz.prog 148 Tryz.f148.ntmps Tryz.f148.results.toList (Tryz.f148.body.getD .skip):=⟨Tryz.f148,Tryz.func148,rfl,rfl,by simp,by decide⟩
theorem Z12q (a:Nat) (post:Nat × Unit→Prop):Za Znj nHn Tryz.f148.ntmps Tryz.f148.results.toList (Tryz.f148.body.getD .skip) [.flt .f64] [.snap (.flt .f64)] (a,()) post=Zg2  a post:=by kernel_rfl
theorem Z15w:Zni.holds Tryz.prog RbG 148 :=
 relP Zv7 Z8 nHn Z12p (F:=fun x post=>Zg2  x.1 post) (fun x post=>Z12q x.1 post) fun x _ _=>Z18x  x.1
def Z77:Con:=.det [kVec] [.snap (.flt .f64)] (fun x=>WV x.1) (fun x=>Z4e x.1)
def Zki:Cx:=⟨Zf Zi,Zg [(149,Znc),(148,Zni),(88,Z4i)],RbG⟩
theorem Zsh:CxOk Tryz.prog Zki:=⟨Z4 Z7,Z6 ⟨Z15u,Z15w,Z76,trivial⟩⟩
theorem Zzg:FnAt Tryz.prog 123 Tryz.f123.ntmps Tryz.f123.results.toList (Tryz.f123.body.getD .skip):=⟨Tryz.f123,Tryz.func123,rfl,rfl,by simp,by decide⟩
theorem Zzh (a:Nat × Nat × Nat) (post:Nat × Unit→Prop):Za Zki nHn Tryz.f123.ntmps Tryz.f123.results.toList (Tryz.f123.body.getD .skip) [kVec] [.snap (.flt .f64)] (a,()) post=Zdc  a post:=by kernel_rfl
theorem Zb1:Z77.holds Tryz.prog RbG 123 :=
 detP Zsh Z8 nHn Zzg (F:=fun x post=>Zdc  x.1 post) (fun x post=>Zzh x.1 post) fun x h _=>Z15s  x.1 h
def Zj4:Con:=.det [kVec,kVec] [.snap (.flt .f64)] (fun x=>WV2 x.1 x.2.1) (fun x=>gapR x.1 x.2.1)
def Ztu:Cx:=⟨Zf Zi,Zg [(125,Zdf),(123,Z77)],RbG⟩
theorem Z12r:CxOk Tryz.prog Ztu:=⟨Z4 Z7,Z6 ⟨Znf,Zb1,trivial⟩⟩
theorem Z191:FnAt Tryz.prog 100 Tryz.f100.ntmps Tryz.f100.results.toList (Tryz.f100.body.getD .skip):=⟨Tryz.f100,Tryz.func100,rfl,rfl,by simp,by decide⟩
theorem Z192 (a:Nat × Nat × Nat) (b:Nat × Nat × Nat) (post:Nat × Unit→Prop):Za Ztu nHn Tryz.f100.ntmps Tryz.f100.results.toList (Tryz.f100.body.getD .skip) [kVec,kVec] [.snap (.flt .f64)] (a,b,()) post=Zme  a b post:=by kernel_rfl
theorem Ztv:Zj4.holds Tryz.prog RbG 100 :=
 detP Z12r Z8 nHn Z191 (F:=fun x post=>Zme  x.1 x.2.1 post) (fun x post=>Z192 x.1 x.2.1 post) fun x h _=>Z1di  x.1 x.2.1 h
def Zqf:Con:=.det [kVec] [.snap kVec] (fun x=>WV x.1) (fun x=>Zxn x.1)
def Zqg:Cx:=⟨Zf Zi,Zg [(123,Z77),(173,Zkf),(150,Z7x)],RbG⟩
theorem Zzi:CxOk Tryz.prog Zqg:=⟨Z4 Z7,Z6 ⟨Zb1,Z12d,Zde,trivial⟩⟩
theorem Z15x:FnAt Tryz.prog 153 Tryz.f153.ntmps Tryz.f153.results.toList (Tryz.f153.body.getD .skip):=⟨Tryz.f153,Tryz.func153,rfl,rfl,by simp,by decide⟩
theorem Z15y (a:Nat × Nat × Nat) (post:(Nat × Nat × Nat) × Unit→Prop):Za Zqg nHn Tryz.f153.ntmps Tryz.f153.results.toList (Tryz.f153.body.getD .skip) [kVec] [.snap kVec] (a,()) post=Zj3  a post:=by kernel_rfl
theorem Z193:Zqf.holds Tryz.prog RbG 153 :=
 detP Zzi Z8 nHn Z15x (F:=fun x post=>Zj3  x.1 post) (fun x post=>Z15y x.1 post) fun x h _=>Z1ae  x.1 h
end Go.Lift

namespace Go.Lift
def Z9l:=fun (a:Int) (post:Nat × Unit→Prop)=>post (f64.nearest a,())
theorem Zzj (a:Int):Z9l  a (fun r=>r=ofIR a):=by
 exact rfl
def Zb2:=fun (a b:Int) (post:Nat × Unit→Prop)=>∀ (a_1:Bool),a_1=decide (a<(1:Int))→Br a_1 (post ((0:Nat),())) (∀ (a_2:Bool),a_2=decide (b <
 (1:Int))→Br a_2 (post ((0:Nat),())) (∃ (h:True),∃ (h:True),∀ (a_3:Nat),FRes f64 (f64.format.div (ofIR a).fst (ofIR b).fst) a_3→post
 (a_3,())))
theorem Z12s (a:Int) (b:Int) (h:II a b):Zb2  a b (fun r=>r=Zxq a b):=by
 rintro _ rfl
 refine Br.intro (fun e=>?_) fun e=>?_
 ·exact congrArg r1 (by unfold Zxp; rw [if_pos (.inl (of_decide_eq_true e))])
 ·rintro _ rfl
  refine Br.intro (fun f=>?_) fun f=>?_
  ·exact congrArg r1 (by unfold Zxp; rw [if_pos (.inr (of_decide_eq_true f))])
  ·have e:=of_decide_eq_false e
   have f:=of_decide_eq_false f
   refine ⟨trivial,trivial,fun r hr=>congrArg r1 ?_⟩
   rw [Z1bb h.1 (by omega) h.2 hr]
   unfold Zxp; rw [if_neg (by omega)]
def Zdg:=fun (a:Nat) (post:Nat × Unit→Prop)=>∃ (h:WNum a),post ((Zc7 a).fst,())
theorem Z15z (a:Nat) (h:WNum a):Zdg  a (fun r=>r=Zc7 a):=by
 exact ⟨h,rfl⟩
def Zg5:=fun (a:Nat) (post:Int × Unit→Prop)=>∃ (h:WNum a),∀ (a_1:Int),F2I f64 (Zc7 a).fst u64 a_1→∀ (a_2:Nat),FRes
 f64 (f64.format.sub a (Zc7 a).fst) a_2→∀ (a:Bool),a=fcmp Go.BinOp.gtr (f64.format.order a_2 (4602678819172646912:Nat))→Br a
 (post (u64.wrap (a_1+(1:Int)),())) (∀ (a:Bool),a=fcmp Go.BinOp.eql (f64.format.order a_2 (4602678819172646912:Nat))→Br a (∃ (h:(2:Int)≠(0
 : Int)),∀ (a:Bool),a=(a_1.tmod (2:Int)==(1:Int))→Br a (post (u64.wrap (a_1+(1:Int)),())) (post (a_1,()))) (post (a_1,())))
theorem Z194 (a:Nat) (h:Zrn a):Zg5  a (fun r=>r=Z16r a):=by
 have hw:W64 a:=by unfold Zrn Z1n at h; unfold W64; omega
 have hn:isN a=false:=by
  have:=(Zhe (r:=a) (by unfold Zrn Z1n at h; omega)).2.1
  unfold isN; rw [this,decide_eq_false_iff_not]; unfold Zrn Z1n at h; unfold infR; omega
 refine ⟨⟨hw,hn⟩,?_⟩
 intro n hn2
 have hn2:=Z1fa h hn2
 subst hn2
 intro d hd
 have hd:∀ z,Ieee.double.order d z=Ieee.double.order (subQ a (Z1e a)) z:=Zxw hd
 obtain ⟨_,r1',r2'⟩:=Z14e h
 have hwp:u64.wrap (Z4f (Z1e a)+1)=Z4f (Z1e a)+1:=wu1 ⟨by omega,by omega⟩
 have tm:(Z4f (Z1e a)).tmod 2=Z4f (Z1e a) % 2:=Int.tmod_eq_emod_of_nonneg r1'
 rintro _ rfl
 refine Br.intro (fun e=>?_) fun e=>?_
 ·rw [show f64.format.order d 4602678819172646912=_ from hd _] at e
  exact congrArg r1 (by rw [hwp]; unfold Zlz; rw [if_pos (by rw [show fcmp .gtr (Ieee.double.order (subQ a (Z1e a)) Z7t)=true from e]; rfl)])
 ·rw [show f64.format.order d 4602678819172646912=_ from hd _] at e
  rintro _ rfl
  refine Br.intro (fun f=>?_) fun f=>?_
  ·rw [show f64.format.order d 4602678819172646912=_ from hd _] at f
   refine ⟨by decide,?_⟩
   rintro _ rfl
   refine Br.intro (fun g=>?_) fun g=>?_
   ·rw [tm] at g
    exact congrArg r1 (by rw [hwp]; unfold Zlz; rw [if_pos (by rw [show fcmp .eql (Ieee.double.order (subQ a (Z1e a)) Z7t)=true from f,g,Bool.true_and,Bool.or_true])])
   ·rw [tm] at g
    exact congrArg r1 (by unfold Zlz; rw [if_neg (by rw [show fcmp .gtr (Ieee.double.order (subQ a (Z1e a)) Z7t)=false from e,g,Bool.and_false]; decide)])
  ·rw [show f64.format.order d 4602678819172646912=_ from hd _] at f
   exact congrArg r1 (by unfold Zlz; rw [if_neg (by rw [show fcmp .gtr (Ieee.double.order (subQ a (Z1e a)) Z7t)=false from e,show fcmp .eql (Ieee.double.order (subQ a (Z1e a)) Z7t)=false from f,Bool.false_and]; decide)])
def Zdh:=fun (a:Nat) (post:Int × Bool × Unit→Prop)=>∃ (h:W64 a),∀ (a_1:Bool),a_1=fcmp Go.BinOp.lss (f64.format.order (absR a).fst
 (4890909195324358656:Nat))→Br a_1 (∃ (h:Zrn (absR a).fst),∀ (a_2:Bool),a_2=fcmp Go.BinOp.lss (f64.format.order a (0:Nat))→Br a_2 (post
 (i64.wrap ((0:Int) - i64.wrap (Z16r (absR a).fst).fst),true,())) (post (i64.wrap (Z16r (absR a).fst).fst,true,()))) (∀ (a_2:Bool),a_2
 = fcmp Go.BinOp.eql (f64.format.order a (14114281232179134464:Nat))→Br a_2 (post ((-9223372036854775808:Int),true,())) (post ((0:Int),false,
 ())))
theorem Z160 (a:Nat) (h:W64 a):Zdh  a (fun r=>r=Zfe a):=by
 refine ⟨h,?_⟩
 rintro _ rfl
 refine Br.intro (fun e=>?_) fun e=>?_
 ·have e:fcmp .lss (Ieee.double.order (Z1 a) Z1n)=true:=e
  rw [Z182] at e
  have e:=of_decide_eq_true e
  have hn:isN a=false:=by unfold isN; rw [decide_eq_false_iff_not]; unfold Z1n at e; unfold infR; omega
  refine ⟨e,?_⟩
  rintro _ rfl
  refine Br.intro (fun f=>?_) fun f=>?_
  ·rw [show fcmp .lss (f64.format.order a 0)=_ from Zxu hn] at f
   unfold Zfe Z3x; rw [if_pos e,if_pos f]; rfl
  ·rw [show fcmp .lss (f64.format.order a 0)=_ from Zxu hn] at f
   unfold Zfe Z3x; rw [if_pos e,if_neg (by rw [f]; decide)]; rfl
 ·have e:fcmp .lss (Ieee.double.order (Z1 a) Z1n)=false:=e
  rw [Z182] at e
  have e:=of_decide_eq_false e
  rintro _ rfl
  refine Br.intro (fun f=>?_) fun f=>?_
  ·rw [show fcmp .eql (f64.format.order a 14114281232179134464)=_ from Z1b9 h] at f
   unfold Zfe Z3x; rw [if_neg e,if_pos (show a=Z1n+9223372036854775808 from of_decide_eq_true f)]
  ·rw [show fcmp .eql (f64.format.order a 14114281232179134464)=_ from Z1b9 h] at f
   unfold Zfe Z3x; rw [if_neg e,if_neg (show ¬ a=Z1n+9223372036854775808 from of_decide_eq_false f)]
end Go.Lift

namespace Go.Lift
open Go.Proofs
def Zg6:Con:=.det [.int .i64] [.snap (.flt .f64)] (fun _=>True) (fun x=>ofIR x.1)
def Zg7:Cx:=⟨Zf Zi,Zg [],RbG⟩
theorem Zo5:CxOk Tryz.prog Zg7:=⟨Z4 Z7,fun f c h=>by cases h⟩
theorem Zsi:FnAt Tryz.prog 89 Tryz.f89.ntmps Tryz.f89.results.toList (Tryz.f89.body.getD .skip):=⟨Tryz.f89,Tryz.func89,rfl,rfl,by simp,by decide⟩
theorem Zsj (a:Int) (post:Nat × Unit→Prop):Za Zg7 nHn Tryz.f89.ntmps Tryz.f89.results.toList (Tryz.f89.body.getD .skip) [.int .i64] [.snap (.flt .f64)] (a,()) post=Z9l  a post:=by kernel_rfl
theorem Zv8:Zg6.holds Tryz.prog RbG 89 :=
 detP Zo5 Z8 nHn Zsi (F:=fun x post=>Z9l  x.1 post) (fun x post=>Zsj x.1 post) fun x _ _=>Zzj  x.1
def Zi1:Con:=.det [.int .i64,.int .i64] [.snap (.flt .f64)] (fun x=>II x.1 x.2.1) (fun x=>Zxq x.1 x.2.1)
def Zi2:Cx:=⟨Zf Zi,Zg [(89,Zg6)],RbG⟩
theorem Zqh:CxOk Tryz.prog Zi2:=⟨Z4 Z7,Z6 ⟨Zv8,trivial⟩⟩
theorem Zv9:FnAt Tryz.prog 37 Tryz.f37.ntmps Tryz.f37.results.toList (Tryz.f37.body.getD .skip):=⟨Tryz.f37,Tryz.func37,rfl,rfl,by simp,by decide⟩
theorem Zva (a:Int) (b:Int) (post:Nat × Unit→Prop):Za Zi2 nHn Tryz.f37.ntmps Tryz.f37.results.toList (Tryz.f37.body.getD .skip) [.int .i64,.int .i64] [.snap (.flt .f64)] (a,b,()) post=Zb2  a b post:=by kernel_rfl
theorem Zzk:Zi1.holds Tryz.prog RbG 37 :=
 detP Zqh Z8 nHn Zv9 (F:=fun x post=>Zb2  x.1 x.2.1 post) (fun x post=>Zva x.1 x.2.1 post) fun x h _=>Z12s  x.1 x.2.1 h
def Zck:Con:=.det [.flt .f64] [.snap (.flt .f64)] (fun x=>WNum x.1) (fun x=>Zc7 x.1)
theorem Zqi:Zck.holds Tryz.prog RbG 183:=by
 refine Z1fy (fn:=Tryz.f183) Tryz.func183 (by decide) rfl rfl (by kernel_rfl)
def Zkj:Con:=.det [.flt .f64] [.snap (.flt .f64)] (fun x=>WNum x.1) (fun x=>Zc7 x.1)
def Zkk:Cx:=⟨Zf Zi,Zg [(183,Zck)],RbG⟩
theorem Zsk:CxOk Tryz.prog Zkk:=⟨Z4 Z7,Z6 ⟨Zqi,trivial⟩⟩
theorem Zzl:FnAt Tryz.prog 172 Tryz.f172.ntmps Tryz.f172.results.toList (Tryz.f172.body.getD .skip):=⟨Tryz.f172,Tryz.func172,rfl,rfl,by simp,by decide⟩
theorem Zzm (a:Nat) (post:Nat × Unit→Prop):Za Zkk nHn Tryz.f172.ntmps Tryz.f172.results.toList (Tryz.f172.body.getD .skip) [.flt .f64] [.snap (.flt .f64)] (a,()) post=Zdg  a post:=by kernel_rfl
theorem Z12t:Zkj.holds Tryz.prog RbG 172 :=
 detP Zsk Z8 nHn Zzl (F:=fun x post=>Zdg  x.1 post) (fun x post=>Zzm x.1 post) fun x h _=>Z15z  x.1 h
def Znk:Con:=.det [.flt .f64] [.snap (.int .u64)] (fun x=>Zrn x.1) (fun x=>Z16r x.1)
def Znl:Cx:=⟨Zf Zi,Zg [(172,Zkj)],RbG⟩
theorem Zvb:CxOk Tryz.prog Znl:=⟨Z4 Z7,Z6 ⟨Z12t,trivial⟩⟩
theorem Z12u:FnAt Tryz.prog 152 Tryz.f152.ntmps Tryz.f152.results.toList (Tryz.f152.body.getD .skip):=⟨Tryz.f152,Tryz.func152,rfl,rfl,by simp,by decide⟩
theorem Z12v (a:Nat) (post:Int × Unit→Prop):Za Znl nHn Tryz.f152.ntmps Tryz.f152.results.toList (Tryz.f152.body.getD .skip) [.flt .f64] [.snap (.int .u64)] (a,()) post=Zg5  a post:=by kernel_rfl
theorem Z161:Znk.holds Tryz.prog RbG 152 :=
 detP Zvb Z8 nHn Z12u (F:=fun x post=>Zg5  x.1 post) (fun x post=>Z12v x.1 post) fun x h _=>Z194  x.1 h
def Zkl:Con:=.det [.flt .f64] [.snap (.int .i64),.snap .bool] (fun x=>W64 x.1) (fun x=>Zfe x.1)
def Zkm:Cx:=⟨Zf Zi,Zg [(151,Zfw),(152,Znk)],RbG⟩
theorem Zsl:CxOk Tryz.prog Zkm:=⟨Z4 Z7,Z6 ⟨Zq7,Z161,trivial⟩⟩
theorem Zzn:FnAt Tryz.prog 126 Tryz.f126.ntmps Tryz.f126.results.toList (Tryz.f126.body.getD .skip):=⟨Tryz.f126,Tryz.func126,rfl,rfl,by simp,by decide⟩
theorem Zzo (a:Nat) (post:Int × Bool × Unit→Prop):Za Zkm nHn Tryz.f126.ntmps Tryz.f126.results.toList (Tryz.f126.body.getD .skip) [.flt .f64] [.snap (.int .i64),.snap .bool] (a,()) post=Zdh  a post:=by kernel_rfl
theorem Z12w:Zkl.holds Tryz.prog RbG 126 :=
 detP Zsl Z8 nHn Zzn (F:=fun x post=>Zdh  x.1 post) (fun x post=>Zzo x.1 post) fun x h _=>Z160  x.1 h
end Go.Lift

namespace Go.Lift
open Go.Proofs
def Zb3:Con:=.det [.int .i64,.int .i64] [.snap (.flt .f64)] (fun x=>Zff x.1 x.2.1) (fun x=>Z2u x.1 x.2.1)
def Zkn:Cx:=⟨Zf Zi,Zg [],RbG⟩
theorem Zsm:CxOk Tryz.prog Zkn:=⟨Z4 Z7,fun f c h=>by cases h⟩
theorem Zzp:FnAt Tryz.prog 129 Tryz.f129.ntmps Tryz.f129.results.toList (Tryz.f129.body.getD .skip):=⟨Tryz.f129,Tryz.func129,rfl,rfl,by simp,by decide⟩
theorem Zzq (a:Int) (b:Int) (post:Nat × Unit→Prop):Za Zkn nHn Tryz.f129.ntmps Tryz.f129.results.toList (Tryz.f129.body.getD .skip) [.int .i64,.int .i64] [.snap (.flt .f64)] (a,b,()) post=Zd1  a b post:=by kernel_rfl
theorem Zko:Zb3.holds Tryz.prog RbG 129 :=
 detP Zsm Z8 nHn Zzp (F:=fun x post=>Zd1  x.1 x.2.1 post) (fun x post=>Zzq x.1 x.2.1 post) fun x h _=>Z15a  x.1 x.2.1 h
def Zb4:Con:=.det [.int .i64,.flt .f64,.flt .f64] [.snap kVec] (fun x=>Zxr x.1 x.2.1 x.2.2.1) (fun x=>Zc8 x.1 x.2.1 x.2.2.1)
def Zi3:Hn:={ loops:=fun _=>none,joins:=Z2b [(13,{ ls:=[],os:=[(1,169,.flt .f64)] })],unroll:=fun _=>some 4 }
def Zkp:Cx:=⟨Zf Zi,Zg [(88,Z4i),(153,Zqf)],RbG⟩
theorem Zsn:CxOk Tryz.prog Zkp:=⟨Z4 Z7,Z6 ⟨Z76,Z193,trivial⟩⟩
theorem Zzr:FnAt Tryz.prog 128 Tryz.f128.ntmps Tryz.f128.results.toList (Tryz.f128.body.getD .skip):=⟨Tryz.f128,Tryz.func128,rfl,rfl,by simp,by decide⟩
theorem Zzs (f:Int) (s:Nat) (t:Nat) (post:(Nat × Nat × Nat) × Unit→Prop):Za Zkp Zi3 Tryz.f128.ntmps Tryz.f128.results.toList (Tryz.f128.body.getD .skip) [.int .i64,.flt .f64,.flt .f64] [.snap kVec] (f,s,t,()) post=Zd2 130 169 f s t post:=by kernel_rfl
theorem Zkq:Zb4.holds Tryz.prog RbG 128 :=
 detP Zsn Z8 Zi3 Zzr (F:=fun x post=>Zd2 130 169 x.1 x.2.1 x.2.2.1 post) (fun x post=>Zzs x.1 x.2.1 x.2.2.1 post) fun x h _=>Z15b 130 169 x.1 x.2.1 x.2.2.1 h
def Zi4:Con:=.det [.int .i64,.int .i64,.int .i64,.int .i64] [.snap kVec,.snap .bool] (fun x=>IIII x.1 x.2.1 x.2.2.1 x.2.2.2.1) (fun x=>Z13 x.1 x.2.1 x.2.2.1 x.2.2.2.1)
def Zi5:Cx:=⟨Zf Zi,Zg [(58,Z73),(129,Zb3),(128,Zb4)],RbG⟩
theorem Zqj:CxOk Tryz.prog Zi5:=⟨Z4 Z7,Z6 ⟨Zap,Zko,Zkq,trivial⟩⟩
theorem Zvc:FnAt Tryz.prog 127 Tryz.f127.ntmps Tryz.f127.results.toList (Tryz.f127.body.getD .skip):=⟨Tryz.f127,Tryz.func127,rfl,rfl,by simp,by decide⟩
theorem Zvd (n:Int) (f:Int) (i:Int) (j:Int) (post:(Nat × Nat × Nat) × Bool × Unit→Prop):Za Zi5 nHn Tryz.f127.ntmps Tryz.f127.results.toList (Tryz.f127.body.getD .skip) [.int .i64,.int .i64,.int .i64,.int .i64] [.snap kVec,.snap .bool] (n,f,i,j,()) post=Zav  n f i j post:=by kernel_rfl
theorem Zzt:Zi4.holds Tryz.prog RbG 127 :=
 detP Zqj Z8 nHn Zvc (F:=fun x post=>Zav  x.1 x.2.1 x.2.2.1 x.2.2.2.1 post) (fun x post=>Zvd x.1 x.2.1 x.2.2.1 x.2.2.2.1 post) fun x h _=>Z11z  x.1 x.2.1 x.2.2.1 x.2.2.2.1 h
def Z84:Con:=.det [.int .i64,.int .i64] [.snap (.arr 4 kVec),.snap .bool] (fun x=>II x.1 x.2.1) (fun x=>Zp x.1 x.2.1)
def Zdu:Hn:={ loops:=fun _=>none,joins:=fun _=>none,unroll:=fun _=>some 5 }
def Zg8:Cx:=⟨Zf Zi,Zg [(79,Z74),(127,Zi4)],RbG⟩
theorem Zo6:CxOk Tryz.prog Zg8:=⟨Z4 Z7,Z6 ⟨Zaq,Zzt,trivial⟩⟩
theorem Zso:FnAt Tryz.prog 99 Tryz.f99.ntmps Tryz.f99.results.toList (Tryz.f99.body.getD .skip):=⟨Tryz.f99,Tryz.func99,rfl,rfl,by simp,by decide⟩
theorem Zsp (n:Int) (c:Int) (post:(List (Nat × Nat × Nat)) × Bool × Unit→Prop):Za Zg8 Zdu Tryz.f99.ntmps Tryz.f99.results.toList (Tryz.f99.body.getD .skip) [.int .i64,.int .i64] [.snap (.arr 4 kVec),.snap .bool] (n,c,()) post=Z9g  n c post:=by kernel_rfl
theorem Zg9:Z84.holds Tryz.prog RbG 99 :=
 detP Zo6 Z8 Zdu Zso (F:=fun x post=>Z9g  x.1 x.2.1 post) (fun x post=>Zsp x.1 x.2.1 post) fun x h _=>Zyq  x.1 x.2.1 h
def Znm:Con:=.det [.int .i64,.int .i64] [.snap (.int .i64)] (fun x=>II x.1 x.2.1) (fun x=>Zxt x.1 x.2.1)
def Znn:Cx:=⟨Zf Zi,Zg [(99,Z84),(125,Zdf),(124,Zng),(123,Z77),(126,Zkl)],RbG⟩
theorem Zve:CxOk Tryz.prog Znn:=⟨Z4 Z7,Z6 ⟨Zg9,Znf,Z15v,Zb1,Z12w,trivial⟩⟩
theorem Z12x:FnAt Tryz.prog 98 Tryz.f98.ntmps Tryz.f98.results.toList (Tryz.f98.body.getD .skip):=⟨Tryz.f98,Tryz.func98,rfl,rfl,by simp,by decide⟩
theorem Z12y (n:Int) (c:Int) (post:Int × Unit→Prop):Za Znn nHn Tryz.f98.ntmps Tryz.f98.results.toList (Tryz.f98.body.getD .skip) [.int .i64,.int .i64] [.snap (.int .i64)] (n,c,()) post=Zfr  n c post:=by kernel_rfl
theorem Z162:Znm.holds Tryz.prog RbG 98 :=
 detP Zve Z8 nHn Z12x (F:=fun x post=>Zfr  x.1 x.2.1 post) (fun x post=>Z12y x.1 x.2.1 post) fun x h _=>Z18r  x.1 x.2.1 h
end Go.Lift

namespace Go.Lift
open Go.Proofs
def Zi6:Con:=Con.nam [.int .i64,.int .i64] [.snap kVec,.snap .bool] (fun x=>II x.1 x.2.1) (fun x=>Z6x x.1 x.2.1)
def Zi7:Cx:=⟨Zf Zi,Zg [(79,Z74),(129,Zb3),(128,Zb4)],RbG⟩
theorem Zqk:CxOk Tryz.prog Zi7:=⟨Z4 Z7,Z6 ⟨Zaq,Zko,Zkq,trivial⟩⟩
theorem Zvf:FnAt Tryz.prog 101 Tryz.f101.ntmps Tryz.f101.results.toList (Tryz.f101.body.getD .skip):=⟨Tryz.f101,Tryz.func101,rfl,rfl,by simp,by decide⟩
theorem Zvg (n:Int) (c:Int) (post:(Nat × Nat × Nat) × Bool × Unit→Prop):Za Zi7 nHn Tryz.f101.ntmps Tryz.f101.results.toList (Tryz.f101.body.getD .skip) [.int .i64,.int .i64] [.snap kVec,.snap .bool] (n,c,()) post=Zat  n c post:=by kernel_rfl
theorem Zzu:Zi6.holds Tryz.prog RbG 101 :=
 Zq (detP Zqk Z8 nHn Zvf (F:=fun x post=>Zat  x.1 x.2.1 post) (fun x post=>Zvg x.1 x.2.1 post) fun x h _=>Z11x  x.1 x.2.1 h)
def Zi8:Con:=Con.nam [.int .i64,.int .i64,.int .i64] [.snap (.flt .f64)] (fun x=>III x.1 x.2.1 x.2.2.1) (fun x=>Zfh x.1 x.2.1 x.2.2.1)
def Zga:Hn:=nHn
def Zi9:Cx:=⟨Zf Zi,Zg [(99,Z84),(100,Zj4)],RbG⟩
theorem Zql:CxOk Tryz.prog Zi9:=⟨Z4 Z7,Z6 ⟨Zg9,Ztv,trivial⟩⟩
theorem Zvh:FnAt Tryz.prog 61 Tryz.f61.ntmps Tryz.f61.results.toList (Tryz.f61.body.getD .skip):=⟨Tryz.f61,Tryz.func61,rfl,rfl,by simp,by decide⟩
theorem Zvi (n:Int) (c:Int) (o:Int) (post:Nat × Unit→Prop):Za Zi9 Zga Tryz.f61.ntmps Tryz.f61.results.toList (Tryz.f61.body.getD .skip) [.int .i64,.int .i64,.int .i64] [.snap (.flt .f64)] (n,c,o,()) post=Zau  n c o post:=by kernel_rfl
theorem Zzv:Zi8.holds Tryz.prog RbG 61 :=
 Zq (detP Zql Z8 Zga Zvh (F:=fun x post=>Zau  x.1 x.2.1 x.2.2.1 post) (fun x post=>Zvi x.1 x.2.1 x.2.2.1 post) fun x h _=>Z11y  x.1 x.2.1 x.2.2.1 h)
def Zqm:Con:=Con.nam [.int .i64,.int .i64,.int .i64] [.snap (.flt .f64)] (fun x=>III x.1 x.2.1 x.2.2.1) (fun x=>Z1cu x.1 x.2.1 x.2.2.1)
def Zno:Hn:=nHn
def Zqn:Cx:=⟨Zf Zi,Zg [(35,Z9f),(101,Zi6),(100,Zj4)],RbG⟩
theorem Zzw:CxOk Tryz.prog Zqn:=⟨Z4 Z7,Z6 ⟨Zhp,Zzu,Ztv,trivial⟩⟩
theorem Z163:FnAt Tryz.prog 62 Tryz.f62.ntmps Tryz.f62.results.toList (Tryz.f62.body.getD .skip):=⟨Tryz.f62,Tryz.func62,rfl,rfl,by simp,by decide⟩
theorem Z164 (n:Int) (c:Int) (o:Int) (post:Nat × Unit→Prop):Za Zqn Zno Tryz.f62.ntmps Tryz.f62.results.toList (Tryz.f62.body.getD .skip) [.int .i64,.int .i64,.int .i64] [.snap (.flt .f64)] (n,c,o,()) post=Ziz  n c o post:=by kernel_rfl
theorem Z195:Zqm.holds Tryz.prog RbG 62 :=
 Zq (detP Zzw Z8 Zno Z163 (F:=fun x post=>Ziz  x.1 x.2.1 x.2.2.1 post) (fun x post=>Z164 x.1 x.2.1 x.2.2.1 post) fun x h _=>Z1aa  x.1 x.2.1 x.2.2.1 h)
end Go.Lift

namespace Go.Lift
open Go.Proofs
def Zgb:Con:=.det [.int .i64] [.snap (.ptr Zx),.snap (.int .i64)] (fun x=>I64 x.1) (fun x=>newR x.1)
def Znp:Hn:={ loops:=Z2b [(9,{ ls:=[(.slot 36,.data (.int .i64)),(.cell 1 1,.row 91 Z1x),(.cell 1 4,.row 2 (.int .i64))],os:=[(0,83,.ent (.pair (.int .i64) (.int .i64)) (.int .i64))] }),(15,{ ls:=[(.slot 49,.data (.int .i64)),(.cell 1 3,.row 92 (.arr 2 (.int .i64))),(.cell 1 5,.row 59 (.flt .f64)),(.cell 1 6,.row 59 (.flt .f64))],os:=[] })],joins:=fun _=>none,inl:=inlL [59,60],unroll:=fun k=>if k=6 then some 3 else none }
def Zgc:Cx:=⟨Zf Zi,Zg [(58,Z73),(35,Z9f),(98,Znm),(61,Zi8),(62,Zqm)],RbG⟩
theorem Zia:CxOk Tryz.prog Zgc:=⟨Z4 Z7,Z6 ⟨Zap,Zhp,Z162,Zzv,Z195,trivial⟩⟩
theorem Z165:FnAt Tryz.prog 24 Tryz.f24.ntmps Tryz.f24.results.toList (Tryz.f24.body.getD .skip):=⟨Tryz.f24,Tryz.func24,rfl,rfl,by simp,by decide⟩
theorem Z166 (n:Int) (post:(Option (Int × (List (Int × Int × Int × Int)) × (List ((Int × Int) × Int)) × (List (List Int)) × (List Int) × (List Nat) × List Nat)) × Int × Unit→Prop):Z6u Zgc Znp (Zes Zgc Zm6 6) Tryz.f24.ntmps Tryz.f24.results.toList (Tryz.f24.body.getD .skip) [.int .i64] [.snap (.ptr Zx),.snap (.int .i64)] (n,()) post=Ziy 87 88 2 91 59 60 n post:=by kernel_rfl
theorem Zqo:Zgb.holds Tryz.prog RbG 24 :=
 Z16n Zia Z8 Znp (Zec Zia Z8 Z155 6) Z165 (F:=fun x post=>Ziy 87 88 2 91 59 60 x.1 post) (fun x post=>Z166 x.1 post) fun x h _=>Z1a9 87 88 2 91 59 60 x.1 h
end Go.Lift

namespace Go.Lift
def Zb5:=fun (s:List Nat × List Int × List Int × List Nat × Int × Int) (post:List Int × List Int × Int × Unit→Prop)=>post ([],[],(2:Int),())
theorem Z12z (s:(List Nat) × (List Int) × (List Int) × (List Nat) × Int × Int) (h:WRun none s) (w:KS.wf [.ptr Zx,kSea] (none,s,())):Zb5  s (fun r=>r=Z7w none s):=by
 exact rfl
def Zb6:=fun (ty39 ty2 ty3:Nat) (g:Int × List (Int × Int × Int × Int) × List ((Int × Int) × Int) × List (List Int) × List Int × List Nat × List Nat) (s:List Nat ×
 List Int × List Int × List Nat × Int × Int) (post:List Int × List Int × Int × Unit→Prop)=>∃ (h:True),∀ (a:Bool),a=((↑s.fst.length:Int) != (Zd (some
 g)).fst)→Br a (post ([],[],(1:Int),())) (∀ (a:Bool),a=((↑s.snd.fst.length:Int) != (Zd (some g)).fst)→Br a (post ([],[],(1:Int),())) (∀ (a:Bool),
 a=((↑s.snd.snd.fst.length:Int) != (Zd (some g)).fst)→Br a (post ([],[],(1:Int),())) (∃ (h:True),∀ (a:Bool),a=((↑s.snd.snd.snd.fst.length:Int) !=
 (Zak (some g)).fst)→Br a (post ([],[],(1:Int),())) (∃ (h:True),∀ (a:Bool × Unit),a=Z16z s.snd.fst→∀ (a_1:Bool),a_1=a.fst→Br (!a_1) (post ([],
 [],(1:Int),())) (∃ (h:True),∀ (a:Bool × Unit),a=Z16z s.snd.snd.fst→∀ (a_2:Bool),a_2=a.fst→Br (!a_2) (post ([],[],(1:Int),())) (∃ (h:Z170 s.snd.fst),
 ∀ (a:List Int × Unit),a=Zpt s.snd.fst→∃ (h:Z170 s.snd.snd.fst),∀ (a_3:List Int × Unit),a_3=Zpt s.snd.snd.fst→∃ (h:WOrd s.fst),∀ (a_4:List Int × Unit),
 a_4=Z9b s.fst→HIs [HObj.box Md.rw ty39 [SV.data (K.flt f64).slice s.fst,SV.data (K.int i64).slice s.snd.fst,SV.data (K.int i64).slice
 s.snd.snd.fst,SV.data (K.flt f64).slice s.snd.snd.snd.fst,SV.val (Go.Value.int i64 s.snd.snd.snd.snd.fst),SV.val (Go.Value.int i64
 s.snd.snd.snd.snd.snd)],HObj.row Md.rw ty2 (K.int i64) a.fst,HObj.row Md.rw ty2 (K.int i64) a_3.fst,HObj.row Md.rw ty3 (K.int i64) a_4.fst] [HObj.box
 Md.rw ty39 [SV.data (K.flt f64).slice s.fst,SV.data (K.int i64).slice s.snd.fst,SV.data (K.int i64).slice s.snd.snd.fst,SV.data (K.flt
 f64).slice s.snd.snd.snd.fst,SV.val (Go.Value.int i64 s.snd.snd.snd.snd.fst),SV.val (Go.Value.int i64 s.snd.snd.snd.snd.snd)],HObj.row Md.rw ty2
 (K.int i64) a.fst,HObj.row Md.rw ty2 (K.int i64) a_3.fst,HObj.row Md.rw ty3 (K.int i64) a_4.fst]∧∃ (I:Int × Unit→List Int × List Int × Unit →
 Prop),∃ (μ:Int × Unit→List Int × List Int × Unit→Nat),I ((0:Int),()) (a.fst,a_3.fst,())∧∀ (x:Int × Unit) (y:List Int × List Int × Unit),I x y→∀ (a_5:Bool),
 a_5=decide (x.fst<(↑a_4.fst.length:Int))→Br a_5 (∃ (h:(0:Int)≤x.fst∧x.fst<(↑a_4.fst.length:Int)),∃ (h:Z27 (some g) s.fst (a_4.fst.getD ((0:Nat)
 + x.fst.toNat) (0:Int))),∀ (a_6:Int × Unit),a_6=Z1m (some g) s.fst (a_4.fst.getD ((0:Nat)+x.fst.toNat) (0:Int))→∀ (a_7:Bool),a_7=decide (a_6.fst <
 (0:Int))→Br a_7 (HIs [HObj.box Md.rw ty39 [SV.data (K.flt f64).slice s.fst,SV.data (K.int i64).slice s.snd.fst,SV.data (K.int i64).slice
 s.snd.snd.fst,SV.data (K.flt f64).slice s.snd.snd.snd.fst,SV.val (Go.Value.int i64 s.snd.snd.snd.snd.fst),SV.val (Go.Value.int i64
 s.snd.snd.snd.snd.snd)],HObj.row Md.rw ty2 (K.int i64) y.fst,HObj.row Md.rw ty2 (K.int i64) y.snd.fst,HObj.row Md.rw ty3 (K.int i64) a_4.fst] [HObj.box
 Md.rw ty39 [SV.data (K.flt f64).slice s.fst,SV.data (K.int i64).slice s.snd.fst,SV.data (K.int i64).slice s.snd.snd.fst,SV.data (K.flt
 f64).slice s.snd.snd.snd.fst,SV.val (Go.Value.int i64 s.snd.snd.snd.snd.fst),SV.val (Go.Value.int i64 s.snd.snd.snd.snd.snd)],HObj.row Md.rw ty2
 (K.int i64) y.fst,HObj.row Md.rw ty2 (K.int i64) y.snd.fst,HObj.row Md.rw ty3 (K.int i64) a_4.fst]∧I (i64.wrap (x.fst+(1:Int)),()) (y.fst,
 y.snd.fst,())∧μ (i64.wrap (x.fst+(1:Int)),()) (y.fst,y.snd.fst,())<μ x y) (∃ (h:(0:Int)≤a_4.fst.getD ((0:Nat)+x.fst.toNat) (0:Int)∧a_4.fst.getD
 ((0:Nat)+x.fst.toNat) (0:Int)<(↑a.fst.length:Int)),∀ (a_8:Bool),a_8=decide (y.fst.getD ((0:Nat)+Int.toNat (a_4.fst.getD ((0:Nat)+x.fst.toNat) (0:Int)))
 (0:Int)≤(0:Int))→Br a_8 (HIs [HObj.box Md.rw ty39 [SV.data (K.flt f64).slice s.fst,SV.data (K.int i64).slice s.snd.fst,SV.data (K.int
 i64).slice s.snd.snd.fst,SV.data (K.flt f64).slice s.snd.snd.snd.fst,SV.val (Go.Value.int i64 s.snd.snd.snd.snd.fst),SV.val (Go.Value.int
 i64 s.snd.snd.snd.snd.snd)],HObj.row Md.rw ty2 (K.int i64) y.fst,HObj.row Md.rw ty2 (K.int i64) y.snd.fst,HObj.row Md.rw ty3 (K.int i64)
 a_4.fst] [HObj.box Md.rw ty39 [SV.data (K.flt f64).slice s.fst,SV.data (K.int i64).slice s.snd.fst,SV.data (K.int i64).slice s.snd.snd.fst,SV.data
 (K.flt f64).slice s.snd.snd.snd.fst,SV.val (Go.Value.int i64 s.snd.snd.snd.snd.fst),SV.val (Go.Value.int i64 s.snd.snd.snd.snd.snd)],HObj.row Md.rw
 ty2 (K.int i64) y.fst,HObj.row Md.rw ty2 (K.int i64) y.snd.fst,HObj.row Md.rw ty3 (K.int i64) a_4.fst]∧I (i64.wrap (x.fst+(1:Int)),())
 (y.fst,y.snd.fst,())∧μ (i64.wrap (x.fst+(1:Int)),()) (y.fst,y.snd.fst,())<μ x y) (∃ (h:(0:Int)≤a_4.fst.getD ((0:Nat)+x.fst.toNat) (0:Int) ∧
 a_4.fst.getD ((0:Nat)+x.fst.toNat) (0:Int)<(↑a.fst.length:Int)),∃ (h:True),∃ (h:II (y.fst.getD ((0:Nat)+Int.toNat (a_4.fst.getD ((0:Nat)+x.fst.toNat) (0 :
 Int))) (0:Int)) (Z2l (some g) (a_4.fst.getD ((0:Nat)+x.fst.toNat) (0:Int))).fst),∀ (a_9:Bool),a_9=fcmp Go.BinOp.lss (f64.format.order (Zxq
 (y.fst.getD ((0:Nat)+Int.toNat (a_4.fst.getD ((0:Nat)+x.fst.toNat) (0:Int))) (0:Int)) (Z2l (some g) (a_4.fst.getD ((0:Nat)+x.fst.toNat) (0 :
 Int))).fst).fst (4602678819172646912:Nat))→Br (!a_9) (HIs [HObj.box Md.rw ty39 [SV.data (K.flt f64).slice s.fst,SV.data (K.int i64).slice s.snd.fst,
 SV.data (K.int i64).slice s.snd.snd.fst,SV.data (K.flt f64).slice s.snd.snd.snd.fst,SV.val (Go.Value.int i64 s.snd.snd.snd.snd.fst),SV.val
 (Go.Value.int i64 s.snd.snd.snd.snd.snd)],HObj.row Md.rw ty2 (K.int i64) y.fst,HObj.row Md.rw ty2 (K.int i64) y.snd.fst,HObj.row Md.rw ty3 (K.int
 i64) a_4.fst] [HObj.box Md.rw ty39 [SV.data (K.flt f64).slice s.fst,SV.data (K.int i64).slice s.snd.fst,SV.data (K.int i64).slice
 s.snd.snd.fst,SV.data (K.flt f64).slice s.snd.snd.snd.fst,SV.val (Go.Value.int i64 s.snd.snd.snd.snd.fst),SV.val (Go.Value.int i64
 s.snd.snd.snd.snd.snd)],HObj.row Md.rw ty2 (K.int i64) y.fst,HObj.row Md.rw ty2 (K.int i64) y.snd.fst,HObj.row Md.rw ty3 (K.int i64) a_4.fst]∧I
 (i64.wrap (x.fst+(1:Int)),()) (y.fst,y.snd.fst,())∧μ (i64.wrap (x.fst+(1:Int)),()) (y.fst,y.snd.fst,())<μ x y) (∃ (h:(0:Int)≤a_4.fst.getD
 ((0:Nat)+x.fst.toNat) (0:Int)∧a_4.fst.getD ((0:Nat)+x.fst.toNat) (0:Int)<(↑a.fst.length:Int)),∃ (h:(4:Int)≠(0:Int)),∃ (h:(0:Int)≤a_4.fst.getD ((0
 : Nat)+x.fst.toNat) (0:Int)∧a_4.fst.getD ((0:Nat)+x.fst.toNat) (0:Int)<(↑a_3.fst.length:Int)),∃ (h:(0:Int)≤a_4.fst.getD ((0:Nat)+x.fst.toNat) (0:Int)
 ∧ a_4.fst.getD ((0:Nat)+x.fst.toNat) (0:Int)<(↑a.fst.length:Int)),∃ (h:III (y.snd.fst.getD ((0:Nat)+Int.toNat (a_4.fst.getD ((0:Nat)+x.fst.toNat) (0:Int)))
 (0:Int)) (i64.wrap (Int.tdiv (y.fst.getD ((0:Nat)+Int.toNat (a_4.fst.getD ((0:Nat)+x.fst.toNat) (0:Int))) (0:Int)) (4:Int))) (y.fst.getD ((0:Nat) +
 Int.toNat (a_4.fst.getD ((0:Nat)+x.fst.toNat) (0:Int))) (0:Int))),∃ (h:(0:Int)≤a_4.fst.getD ((0:Nat)+x.fst.toNat) (0:Int)∧a_4.fst.getD ((0:Nat) +
 x.fst.toNat) (0:Int)<(↑a.fst.length:Int)),∃ (h:(0:Int)≤a_4.fst.getD ((0:Nat)+x.fst.toNat) (0:Int)∧a_4.fst.getD ((0:Nat)+x.fst.toNat) (0:Int) <
 (↑a.fst.length:Int)),∃ (h:(0:Int)≤a_6.fst∧a_6.fst<(↑a.fst.length:Int)),∃ (h:(0:Int)≤a_6.fst∧a_6.fst<(↑a.fst.length:Int)),∃ (h:(0:Int) ≤
 a_4.fst.getD ((0:Nat)+x.fst.toNat) (0:Int)∧a_4.fst.getD ((0:Nat)+x.fst.toNat) (0:Int)<(↑a_3.fst.length:Int)),∃ (h:(0:Int)≤a_4.fst.getD ((0:Nat) +
 x.fst.toNat) (0:Int)∧a_4.fst.getD ((0:Nat)+x.fst.toNat) (0:Int)<(↑a_3.fst.length:Int)),∃ (h:(0:Int)≤a_6.fst∧a_6.fst<(↑a_3.fst.length:Int)),∃ (h:(0 :
 Int)≤a_6.fst∧a_6.fst<(↑a_3.fst.length:Int)),HIs [HObj.box Md.rw ty39 [SV.data (K.flt f64).slice s.fst,SV.data (K.int i64).slice s.snd.fst,SV.data
 (K.int i64).slice s.snd.snd.fst,SV.data (K.flt f64).slice s.snd.snd.snd.fst,SV.val (Go.Value.int i64 s.snd.snd.snd.snd.fst),SV.val (Go.Value.int
 i64 s.snd.snd.snd.snd.snd)],HObj.row Md.rw ty2 (K.int i64) ((y.fst.set ((0:Nat)+Int.toNat (a_4.fst.getD ((0:Nat)+x.fst.toNat) (0:Int)))
 (i64.wrap (y.fst.getD ((0:Nat)+Int.toNat (a_4.fst.getD ((0:Nat)+x.fst.toNat) (0:Int))) (0:Int) - i64.wrap (Int.tdiv (y.fst.getD ((0:Nat)+Int.toNat
 (a_4.fst.getD ((0:Nat)+x.fst.toNat) (0:Int))) (0:Int)) (4:Int))))).set ((0:Nat)+a_6.fst.toNat) (i64.wrap ((y.fst.set ((0:Nat)+Int.toNat (a_4.fst.getD ((0
 : Nat)+x.fst.toNat) (0:Int))) (i64.wrap (y.fst.getD ((0:Nat)+Int.toNat (a_4.fst.getD ((0:Nat)+x.fst.toNat) (0:Int))) (0:Int) - i64.wrap (Int.tdiv
 (y.fst.getD ((0:Nat)+Int.toNat (a_4.fst.getD ((0:Nat)+x.fst.toNat) (0:Int))) (0:Int)) (4:Int))))).getD ((0:Nat)+a_6.fst.toNat) (0:Int)+i64.wrap
 (Int.tdiv (y.fst.getD ((0:Nat)+Int.toNat (a_4.fst.getD ((0:Nat)+x.fst.toNat) (0:Int))) (0:Int)) (4:Int))))),HObj.row Md.rw ty2 (K.int i64) ((y.snd.fst.set
 ((0:Nat)+Int.toNat (a_4.fst.getD ((0:Nat)+x.fst.toNat) (0:Int))) (i64.wrap (y.snd.fst.getD ((0:Nat)+Int.toNat (a_4.fst.getD ((0:Nat)+x.fst.toNat) (0 :
 Int))) (0:Int) - (prtR (y.snd.fst.getD ((0:Nat)+Int.toNat (a_4.fst.getD ((0:Nat)+x.fst.toNat) (0:Int))) (0:Int)) (i64.wrap (Int.tdiv (y.fst.getD ((0:Nat) +
 Int.toNat (a_4.fst.getD ((0:Nat)+x.fst.toNat) (0:Int))) (0:Int)) (4:Int))) (y.fst.getD ((0:Nat)+Int.toNat (a_4.fst.getD ((0:Nat)+x.fst.toNat) (0:Int))) (0 :
 Int))).fst))).set ((0:Nat)+a_6.fst.toNat) (i64.wrap ((y.snd.fst.set ((0:Nat)+Int.toNat (a_4.fst.getD ((0:Nat)+x.fst.toNat) (0:Int))) (i64.wrap
 (y.snd.fst.getD ((0:Nat)+Int.toNat (a_4.fst.getD ((0:Nat)+x.fst.toNat) (0:Int))) (0:Int) - (prtR (y.snd.fst.getD ((0:Nat)+Int.toNat (a_4.fst.getD ((0:Nat) +
 x.fst.toNat) (0:Int))) (0:Int)) (i64.wrap (Int.tdiv (y.fst.getD ((0:Nat)+Int.toNat (a_4.fst.getD ((0:Nat)+x.fst.toNat) (0:Int))) (0:Int)) (4:Int)))
 (y.fst.getD ((0:Nat)+Int.toNat (a_4.fst.getD ((0:Nat)+x.fst.toNat) (0:Int))) (0:Int))).fst))).getD ((0:Nat)+a_6.fst.toNat) (0:Int)+(prtR (y.snd.fst.getD ((0 :
 Nat)+Int.toNat (a_4.fst.getD ((0:Nat)+x.fst.toNat) (0:Int))) (0:Int)) (i64.wrap (Int.tdiv (y.fst.getD ((0:Nat)+Int.toNat (a_4.fst.getD ((0:Nat) +
 x.fst.toNat) (0:Int))) (0:Int)) (4:Int))) (y.fst.getD ((0:Nat)+Int.toNat (a_4.fst.getD ((0:Nat)+x.fst.toNat) (0:Int))) (0:Int))).fst))),HObj.row Md.rw ty3
 (K.int i64) a_4.fst] [HObj.box Md.rw ty39 [SV.data (K.flt f64).slice s.fst,SV.data (K.int i64).slice s.snd.fst,SV.data (K.int i64).slice
 s.snd.snd.fst,SV.data (K.flt f64).slice s.snd.snd.snd.fst,SV.val (Go.Value.int i64 s.snd.snd.snd.snd.fst),SV.val (Go.Value.int i64
 s.snd.snd.snd.snd.snd)],HObj.row Md.rw ty2 (K.int i64) ((y.fst.set ((0:Nat)+Int.toNat (a_4.fst.getD ((0:Nat)+x.fst.toNat) (0:Int))) (i64.wrap
 (y.fst.getD ((0:Nat)+Int.toNat (a_4.fst.getD ((0:Nat)+x.fst.toNat) (0:Int))) (0:Int) - i64.wrap (Int.tdiv (y.fst.getD ((0:Nat)+Int.toNat (a_4.fst.getD ((0
 : Nat)+x.fst.toNat) (0:Int))) (0:Int)) (4:Int))))).set ((0:Nat)+a_6.fst.toNat) (i64.wrap ((y.fst.set ((0:Nat)+Int.toNat (a_4.fst.getD ((0:Nat) +
 x.fst.toNat) (0:Int))) (i64.wrap (y.fst.getD ((0:Nat)+Int.toNat (a_4.fst.getD ((0:Nat)+x.fst.toNat) (0:Int))) (0:Int) - i64.wrap (Int.tdiv
 (y.fst.getD ((0:Nat)+Int.toNat (a_4.fst.getD ((0:Nat)+x.fst.toNat) (0:Int))) (0:Int)) (4:Int))))).getD ((0:Nat)+a_6.fst.toNat) (0:Int)+i64.wrap
 (Int.tdiv (y.fst.getD ((0:Nat)+Int.toNat (a_4.fst.getD ((0:Nat)+x.fst.toNat) (0:Int))) (0:Int)) (4:Int))))),HObj.row Md.rw ty2 (K.int i64) ((y.snd.fst.set
 ((0:Nat)+Int.toNat (a_4.fst.getD ((0:Nat)+x.fst.toNat) (0:Int))) (i64.wrap (y.snd.fst.getD ((0:Nat)+Int.toNat (a_4.fst.getD ((0:Nat)+x.fst.toNat) (0 :
 Int))) (0:Int) - (prtR (y.snd.fst.getD ((0:Nat)+Int.toNat (a_4.fst.getD ((0:Nat)+x.fst.toNat) (0:Int))) (0:Int)) (i64.wrap (Int.tdiv (y.fst.getD ((0:Nat) +
 Int.toNat (a_4.fst.getD ((0:Nat)+x.fst.toNat) (0:Int))) (0:Int)) (4:Int))) (y.fst.getD ((0:Nat)+Int.toNat (a_4.fst.getD ((0:Nat)+x.fst.toNat) (0:Int))) (0 :
 Int))).fst))).set ((0:Nat)+a_6.fst.toNat) (i64.wrap ((y.snd.fst.set ((0:Nat)+Int.toNat (a_4.fst.getD ((0:Nat)+x.fst.toNat) (0:Int))) (i64.wrap
 (y.snd.fst.getD ((0:Nat)+Int.toNat (a_4.fst.getD ((0:Nat)+x.fst.toNat) (0:Int))) (0:Int) - (prtR (y.snd.fst.getD ((0:Nat)+Int.toNat (a_4.fst.getD ((0:Nat) +
 x.fst.toNat) (0:Int))) (0:Int)) (i64.wrap (Int.tdiv (y.fst.getD ((0:Nat)+Int.toNat (a_4.fst.getD ((0:Nat)+x.fst.toNat) (0:Int))) (0:Int)) (4:Int)))
 (y.fst.getD ((0:Nat)+Int.toNat (a_4.fst.getD ((0:Nat)+x.fst.toNat) (0:Int))) (0:Int))).fst))).getD ((0:Nat)+a_6.fst.toNat) (0:Int)+(prtR (y.snd.fst.getD ((0 :
 Nat)+Int.toNat (a_4.fst.getD ((0:Nat)+x.fst.toNat) (0:Int))) (0:Int)) (i64.wrap (Int.tdiv (y.fst.getD ((0:Nat)+Int.toNat (a_4.fst.getD ((0:Nat) +
 x.fst.toNat) (0:Int))) (0:Int)) (4:Int))) (y.fst.getD ((0:Nat)+Int.toNat (a_4.fst.getD ((0:Nat)+x.fst.toNat) (0:Int))) (0:Int))).fst))),HObj.row Md.rw ty3
 (K.int i64) a_4.fst]∧I (i64.wrap (x.fst+(1:Int)),()) ((y.fst.set ((0:Nat)+Int.toNat (a_4.fst.getD ((0:Nat)+x.fst.toNat) (0:Int)))
 (i64.wrap (y.fst.getD ((0:Nat)+Int.toNat (a_4.fst.getD ((0:Nat)+x.fst.toNat) (0:Int))) (0:Int) - i64.wrap (Int.tdiv (y.fst.getD ((0:Nat)+Int.toNat
 (a_4.fst.getD ((0:Nat)+x.fst.toNat) (0:Int))) (0:Int)) (4:Int))))).set ((0:Nat)+a_6.fst.toNat) (i64.wrap ((y.fst.set ((0:Nat)+Int.toNat (a_4.fst.getD ((0
 : Nat)+x.fst.toNat) (0:Int))) (i64.wrap (y.fst.getD ((0:Nat)+Int.toNat (a_4.fst.getD ((0:Nat)+x.fst.toNat) (0:Int))) (0:Int) - i64.wrap (Int.tdiv
 (y.fst.getD ((0:Nat)+Int.toNat (a_4.fst.getD ((0:Nat)+x.fst.toNat) (0:Int))) (0:Int)) (4:Int))))).getD ((0:Nat)+a_6.fst.toNat) (0:Int)+i64.wrap
 (Int.tdiv (y.fst.getD ((0:Nat)+Int.toNat (a_4.fst.getD ((0:Nat)+x.fst.toNat) (0:Int))) (0:Int)) (4:Int)))),(y.snd.fst.set ((0:Nat)+Int.toNat (a_4.fst.getD ((0 :
 Nat)+x.fst.toNat) (0:Int))) (i64.wrap (y.snd.fst.getD ((0:Nat)+Int.toNat (a_4.fst.getD ((0:Nat)+x.fst.toNat) (0:Int))) (0:Int) - (prtR (y.snd.fst.getD ((0
 : Nat)+Int.toNat (a_4.fst.getD ((0:Nat)+x.fst.toNat) (0:Int))) (0:Int)) (i64.wrap (Int.tdiv (y.fst.getD ((0:Nat)+Int.toNat (a_4.fst.getD ((0:Nat) +
 x.fst.toNat) (0:Int))) (0:Int)) (4:Int))) (y.fst.getD ((0:Nat)+Int.toNat (a_4.fst.getD ((0:Nat)+x.fst.toNat) (0:Int))) (0:Int))).fst))).set ((0:Nat) +
 a_6.fst.toNat) (i64.wrap ((y.snd.fst.set ((0:Nat)+Int.toNat (a_4.fst.getD ((0:Nat)+x.fst.toNat) (0:Int))) (i64.wrap (y.snd.fst.getD ((0:Nat) +
 Int.toNat (a_4.fst.getD ((0:Nat)+x.fst.toNat) (0:Int))) (0:Int) - (prtR (y.snd.fst.getD ((0:Nat)+Int.toNat (a_4.fst.getD ((0:Nat)+x.fst.toNat) (0:Int))) (0 :
 Int)) (i64.wrap (Int.tdiv (y.fst.getD ((0:Nat)+Int.toNat (a_4.fst.getD ((0:Nat)+x.fst.toNat) (0:Int))) (0:Int)) (4:Int))) (y.fst.getD ((0:Nat)+Int.toNat
 (a_4.fst.getD ((0:Nat)+x.fst.toNat) (0:Int))) (0:Int))).fst))).getD ((0:Nat)+a_6.fst.toNat) (0:Int)+(prtR (y.snd.fst.getD ((0:Nat)+Int.toNat (a_4.fst.getD ((0
 : Nat)+x.fst.toNat) (0:Int))) (0:Int)) (i64.wrap (Int.tdiv (y.fst.getD ((0:Nat)+Int.toNat (a_4.fst.getD ((0:Nat)+x.fst.toNat) (0:Int))) (0:Int)) (4 :
 Int))) (y.fst.getD ((0:Nat)+Int.toNat (a_4.fst.getD ((0:Nat)+x.fst.toNat) (0:Int))) (0:Int))).fst)),())∧μ (i64.wrap (x.fst+(1:Int)),()) ((y.fst.set ((0
 : Nat)+Int.toNat (a_4.fst.getD ((0:Nat)+x.fst.toNat) (0:Int))) (i64.wrap (y.fst.getD ((0:Nat)+Int.toNat (a_4.fst.getD ((0:Nat)+x.fst.toNat) (0:Int))) (0
 : Int) - i64.wrap (Int.tdiv (y.fst.getD ((0:Nat)+Int.toNat (a_4.fst.getD ((0:Nat)+x.fst.toNat) (0:Int))) (0:Int)) (4:Int))))).set ((0:Nat)+a_6.fst.toNat)
 (i64.wrap ((y.fst.set ((0:Nat)+Int.toNat (a_4.fst.getD ((0:Nat)+x.fst.toNat) (0:Int))) (i64.wrap (y.fst.getD ((0:Nat)+Int.toNat (a_4.fst.getD ((0 :
 Nat)+x.fst.toNat) (0:Int))) (0:Int) - i64.wrap (Int.tdiv (y.fst.getD ((0:Nat)+Int.toNat (a_4.fst.getD ((0:Nat)+x.fst.toNat) (0:Int))) (0:Int)) (4 :
 Int))))).getD ((0:Nat)+a_6.fst.toNat) (0:Int)+i64.wrap (Int.tdiv (y.fst.getD ((0:Nat)+Int.toNat (a_4.fst.getD ((0:Nat)+x.fst.toNat) (0:Int))) (0:Int))
 (4:Int)))),(y.snd.fst.set ((0:Nat)+Int.toNat (a_4.fst.getD ((0:Nat)+x.fst.toNat) (0:Int))) (i64.wrap (y.snd.fst.getD ((0:Nat)+Int.toNat (a_4.fst.getD ((0
 : Nat)+x.fst.toNat) (0:Int))) (0:Int) - (prtR (y.snd.fst.getD ((0:Nat)+Int.toNat (a_4.fst.getD ((0:Nat)+x.fst.toNat) (0:Int))) (0:Int)) (i64.wrap
 (Int.tdiv (y.fst.getD ((0:Nat)+Int.toNat (a_4.fst.getD ((0:Nat)+x.fst.toNat) (0:Int))) (0:Int)) (4:Int))) (y.fst.getD ((0:Nat)+Int.toNat (a_4.fst.getD ((0:Nat)
 + x.fst.toNat) (0:Int))) (0:Int))).fst))).set ((0:Nat)+a_6.fst.toNat) (i64.wrap ((y.snd.fst.set ((0:Nat)+Int.toNat (a_4.fst.getD ((0:Nat)+x.fst.toNat) (0 :
 Int))) (i64.wrap (y.snd.fst.getD ((0:Nat)+Int.toNat (a_4.fst.getD ((0:Nat)+x.fst.toNat) (0:Int))) (0:Int) - (prtR (y.snd.fst.getD ((0:Nat)+Int.toNat
 (a_4.fst.getD ((0:Nat)+x.fst.toNat) (0:Int))) (0:Int)) (i64.wrap (Int.tdiv (y.fst.getD ((0:Nat)+Int.toNat (a_4.fst.getD ((0:Nat)+x.fst.toNat) (0:Int)))
 (0:Int)) (4:Int))) (y.fst.getD ((0:Nat)+Int.toNat (a_4.fst.getD ((0:Nat)+x.fst.toNat) (0:Int))) (0:Int))).fst))).getD ((0:Nat)+a_6.fst.toNat) (0:Int)+(prtR
 (y.snd.fst.getD ((0:Nat)+Int.toNat (a_4.fst.getD ((0:Nat)+x.fst.toNat) (0:Int))) (0:Int)) (i64.wrap (Int.tdiv (y.fst.getD ((0:Nat)+Int.toNat (a_4.fst.getD
 ((0:Nat)+x.fst.toNat) (0:Int))) (0:Int)) (4:Int))) (y.fst.getD ((0:Nat)+Int.toNat (a_4.fst.getD ((0:Nat)+x.fst.toNat) (0:Int))) (0:Int))).fst)),())<μ x
 y)))) (((0:Nat)=(0:Nat)∧a.fst.length=y.fst.length)∧((0:Nat)=(0:Nat)∧a_3.fst.length=y.snd.fst.length)∧post (y.fst,y.snd.fst,(0:Int),()))))))))
theorem Z130 (ty0 ty1 ty2:Nat) (g:Int × (List (Int × Int × Int × Int)) × (List ((Int × Int) × Int)) × (List (List Int)) × (List Int) × (List Nat) × List Nat) (s:(List Nat) × (List Int) × (List Int) × (List Nat) × Int × Int) (h:WRun (some g) s) (w:KS.wf [.ptr Zx,kSea] ((some g),s,())):Zb6 ty0 ty1 ty2 g s (fun r=>r=Z7w (some g) s):=by
 obtain ⟨hg,hw,hi1,hi2⟩:=h
 obtain ⟨n,gn,rfl⟩:=Z14j hg
 obtain ⟨m,hm⟩:∃ m,(Zak (some (netG n))).1=m:=⟨_,rfl⟩
 have hC:(Zd (some (netG n))).1=Zb n:=Z3a n
 have hR:Z7w (some (netG n)) s=runF true (Zb n) m (Z1c n) (Z22 true (Zb n) n s.1) s:=by rw [← hm]; unfold Z7w; rw [Z3a]; rfl
 have cr:=Z6a n
 have hD:∀ c,(Z1m (some (netG n)) s.1 c).fst=Z22 true (Zb n) n s.1 c:=fun c=>by unfold Z1m; rw [Z3a]; rfl
 have bad:((Zei (Zb n) m s&&Z2c 0 s.2.1)&&Z2c 0 s.2.2.1)=false→([],[],1,())=Z7w (some (netG n)) s:=fun h=>by rw [hR,Z1ht h]
 have main:Zei (Zb n) m s=true→Z2c 0 s.2.1=true→Z2c 0 s.2.2.1=true→∀ area down,area=Z1c n→down=Z22 true (Zb n) n s.1→Z7w (some (netG n)) s=((runA area down (ordL s.1) (s.2.1,s.2.2.1)).1,(runA area down (ordL s.1) (s.2.1,s.2.2.1)).2,0,()):=by
  rintro h1 h2 h3 _ _ rfl rfl
  rw [hR,Z14n h1 h2 h3]
 refine ⟨trivial,?_⟩
 rw [hC,hm]
 have bad1:∀ {b:Bool},Zei (Zb n) m s=b→b=false→([],[],1,())=Z7w (some (netG n)) s:=fun {b} h1 h2=>bad (by rw [h1,h2]; rfl)
 have nofit:¬ ((s.1.length:Int)=Zb n∧(s.2.1.length:Int)=Zb n∧(s.2.2.1.length:Int)=Zb n∧(s.2.2.2.1.length:Int)=m)→([],[],1,())=Z7w (some (netG n)) s:=fun h=>bad1 rfl (by rw [Bool.eq_false_iff]; exact fun q=>h (Zpu.1 q))
 rintro _ rfl
 refine Br.intro (fun e=>nofit fun q=>absurd q.1 (bne_iff_ne.1 e)) fun f1=>?_
 have f1:(s.1.length:Int)=Zb n:=by simpa using f1
 rintro _ rfl
 refine Br.intro (fun e=>nofit fun q=>absurd q.2.1 (bne_iff_ne.1 e)) fun f2=>?_
 have f2:(s.2.1.length:Int)=Zb n:=by simpa using f2
 rintro _ rfl
 refine Br.intro (fun e=>nofit fun q=>absurd q.2.2.1 (bne_iff_ne.1 e)) fun f3=>?_
 have f3:(s.2.2.1.length:Int)=Zb n:=by simpa using f3
 refine ⟨trivial,?_⟩
 rintro _ rfl
 refine Br.intro (fun e=>nofit fun q=>absurd q.2.2.2 (bne_iff_ne.1 e)) fun f4=>?_
 have f4:(s.2.2.2.1.length:Int)=m:=by simpa using f4
 have hf:Zei (Zb n) m s=true:=Zpu.2 ⟨f1,f2,f3,f4⟩
 refine ⟨trivial,?_⟩
 rintro _ rfl
 rintro _ rfl
 refine Br.intro (fun e=>bad (by
  have e:(!Z2c 0 s.2.1)=true:=e
  have e:Z2c 0 s.2.1=false:=by simpa using e
  rw [hf,e]; rfl)) fun e=>?_
 have hk1:Z2c 0 s.2.1=true:=by
  have e:(!Z2c 0 s.2.1)=false:=e
  simpa using e
 refine ⟨trivial,?_⟩
 rintro _ rfl
 rintro _ rfl
 refine Br.intro (fun e=>bad (by
  have e:(!Z2c 0 s.2.2.1)=true:=e
  have e:Z2c 0 s.2.2.1=false:=by simpa using e
  rw [hf,hk1,e]; rfl)) fun e=>?_
 have hk2:Z2c 0 s.2.2.1=true:=by
  have e:(!Z2c 0 s.2.2.1)=false:=e
  simpa using e
 clear bad1 nofit
 have e1:=Zpu.1 hf
 have q1:=Zm8 hk1 (by decide)
 have q2:=Zm8 hk2 (by decide)
 have p1:Pool s.1.length s.2.1.sum s.2.1:=⟨by omega,q1.1,rfl⟩
 have p2:Pool s.1.length s.2.2.1.sum s.2.2.1:=⟨by omega,q2.1,rfl⟩
 refine ⟨by show s.2.1.length≤65536; omega,?_⟩
 rintro _ rfl
 refine ⟨by show s.2.2.1.length≤65536; omega,?_⟩
 rintro _ rfl
 refine ⟨⟨hw,by omega⟩,?_⟩
 rintro _ rfl
 have hm2:=main hf hk1 hk2 _ _ rfl rfl
 rw [hm2]
 clear hm2 main bad hR
 dsimp only [Z9b,Zpt]
 have lo:(ordL s.1).length=s.1.length:=by unfold ordL; rw [Zej]; simp
 have mo:∀ c ∈ ordL s.1,0≤c∧c<(s.1.length:Int):=fun c hc=>by have:=Z71 hc; simp at this; omega
 have hdr:=Z1g3 (n:=n) (bed:=s.1) e1.1
 simp only [hD]
 obtain ⟨down,hdn⟩:∃ down,Z22 true (Zb n) n s.1=down:=⟨_,rfl⟩
 rw [hdn] at hdr ⊢
 have pk:∀ k:Nat,Pool s.1.length s.2.1.sum (runA (Z1c n) down ((ordL s.1).take k) (s.2.1,s.2.2.1)).1∧Pool s.1.length s.2.2.1.sum (runA (Z1c n) down ((ordL s.1).take k) (s.2.1,s.2.2.1)).2:=fun k=>Z1bp hdr _ (fun c hc=>mo c (List.mem_of_mem_take hc)) p1 p2
 refine ⟨rfl,fun x y=>∃ k:Nat,x.1=k∧k≤(ordL s.1).length∧y.1=(runA (Z1c n) down ((ordL s.1).take k) (s.2.1,s.2.2.1)).1∧y.2.1=(runA (Z1c n) down ((ordL s.1).take k) (s.2.1,s.2.2.1)).2,fun x _=>(ordL s.1).length - x.1.toNat,⟨0,rfl,by omega,rfl,rfl⟩,?_⟩
 rintro ⟨_,⟨⟩⟩ ⟨_,_,⟨⟩⟩ ⟨k,rfl,hk,rfl,rfl⟩
 dsimp only
 obtain ⟨st,hst⟩:∃ st,runA (Z1c n) down ((ordL s.1).take k) (s.2.1,s.2.2.1)=st:=⟨_,rfl⟩
 have pst:=pk k
 rw [hst] at pst ⊢
 obtain ⟨pw,pt⟩:=pst
 have lw:=pw.len
 have lt:=pt.len
 rintro _ rfl
 refine Br.intro (fun d=>?_) fun d=>?_
 rotate_left
 ·have d:k=(ordL s.1).length:=by have d:¬ (k:Int)<(ordL s.1).length:=of_decide_eq_false d; omega
  rw [d,List.take_length] at hst
  rw [hst]
  exact ⟨⟨by trivial,by omega⟩,⟨by trivial,by omega⟩,rfl⟩
 have d:k<(ordL s.1).length:=by have d:(k:Int)<(ordL s.1).length:=of_decide_eq_true d; omega
 have hs1:=Z1g2 (area:=Z1c n) (down:=down) (st:=(s.2.1,s.2.2.1)) d
 rw [hst] at hs1
 have hcm:=mo _ (Z8m d)
 simp only [Int.toNat_natCast,Nat.zero_add]
 rw [Z26 d (by omega)]
 obtain ⟨c,hc⟩:∃ c,(ordL s.1).getD k 0=c:=⟨_,rfl⟩
 have hc':at0 (ordL s.1) k=c:=hc
 rw [hc'] at hs1 hcm
 simp only [hc]
 have hdc:=hdr c hcm.1 hcm.2
 have cw:0≤c∧c<(s.2.1.length:Int):=by omega
 have ct:0≤c∧c<(s.2.2.1.length:Int):=by omega
 have aw:=pw.at (i:=c.toNat) (by omega)
 have at_:=pt.at (i:=c.toNat) (by omega)
 have aw:0≤st.1.getD c.toNat 0∧st.1.getD c.toNat 0≤s.2.1.sum:=aw
 have at_:0≤st.2.getD c.toNat 0∧st.2.getD c.toNat 0≤s.2.2.1.sum:=at_
 have next:∀ w t:List Int,(w,t)=Z3i (Z1c n) down st c→(∃ j:Nat,((k+1:Nat):Int)=j∧j≤(ordL s.1).length∧w=(runA (Z1c n) down ((ordL s.1).take j) (s.2.1,s.2.2.1)).1∧t=(runA (Z1c n) down ((ordL s.1).take j) (s.2.1,s.2.2.1)).2)∧(ordL s.1).length - (((k+1:Nat):Int)).toNat<(ordL s.1).length - k:=fun w t h=>⟨⟨k+1,rfl,by omega,by rw [hs1,← h],by rw [hs1,← h]⟩,by omega⟩
 have skip:(down c<0∨st.1.getD c.toNat 0≤0∨Zfj (st.1.getD c.toNat 0) (Z1c n c)=false)→(st.1,st.2)=Z3i (Z1c n) down st c:=fun h=>by unfold Z3i; rw [if_pos h]
 refine ⟨⟨by omega,by omega⟩,⟨hg,hw⟩,?_⟩
 rintro _ rfl
 simp only [hD,hdn]
 rintro _ rfl
 refine Br.intro (fun e=>⟨rfl,next _ _ (skip (.inl (of_decide_eq_true e)))⟩) fun e=>?_
 have e:=of_decide_eq_false e
 refine ⟨cw,?_⟩
 rintro _ rfl
 refine Br.intro (fun f=>⟨rfl,next _ _ (skip (.inr (.inl (of_decide_eq_true f))))⟩) fun f=>?_
 have f:=of_decide_eq_false f
 have ar:=Z1h8 n c
 have hA:(Z2l (some (netG n)) c).fst=Z1c n c:=Z1g4 hcm.1 (by omega)
 rw [hA]
 refine ⟨cw,trivial,⟨⟨by omega,by omega⟩,ar.1⟩,?_⟩
 rintro _ rfl
 refine Br.intro (fun g=>⟨rfl,next _ _ (skip (.inr (.inr (by
  have g:(!Zfj (st.1.getD c.toNat 0) (Z1c n c))=true:=g
  simpa using g))))⟩) fun g=>?_
 have g:Zfj (st.1.getD c.toNat 0) (Z1c n c)=true:=by
  have g:(!Zfj (st.1.getD c.toNat 0) (Z1c n c))=false:=g
  simpa using g
 have w4:i64.wrap (Int.tdiv (st.1.getD c.toNat 0) 4)=st.1.getD c.toNat 0 / 4:=by
  rw [Int.tdiv_eq_ediv_of_nonneg aw.1]; exact Zt (by omega) (by omega)
 have pr:∀ a b c:Int,(prtR a b c).fst=part a b c:=fun _ _ _=>rfl
 simp only [w4,pr]
 have pin:=Z11l (a:=st.2.getD c.toNat 0) (b:=st.1.getD c.toNat 0 / 4) (c:=st.1.getD c.toNat 0) at_.1 (by omega) (by omega) (by omega)
 obtain ⟨_,m1,m2,m3,m4⟩:=pw.mv (i:=c) (j:=down c) (d:=st.1.getD c.toNat 0 / 4) hcm.1 hcm.2 (by omega) (by omega) (by omega) (by omega)
 obtain ⟨_,m5,m6,m7,m8⟩:=pt.mv (i:=c) (j:=down c) hcm.1 hcm.2 (by omega) (by omega) pin.1 pin.2
 have dw:0≤down c∧down c<(s.2.1.length:Int):=by omega
 have dt:0≤down c∧down c<(s.2.2.1.length:Int):=by omega
 rw [Zt (x:=st.1.getD c.toNat 0 - st.1.getD c.toNat 0 / 4) (by omega) (by omega),Zt (x:=st.2.getD c.toNat 0 - part (st.2.getD c.toNat 0) (st.1.getD c.toNat 0 / 4) (st.1.getD c.toNat 0)) (by omega) (by omega),
  Zt (x:=(st.1.set c.toNat (st.1.getD c.toNat 0 - st.1.getD c.toNat 0 / 4)).getD (down c).toNat 0+st.1.getD c.toNat 0 / 4) (by omega) (by omega),
  Zt (x:=(st.2.set c.toNat (st.2.getD c.toNat 0 - part (st.2.getD c.toNat 0) (st.1.getD c.toNat 0 / 4) (st.1.getD c.toNat 0))).getD (down c).toNat 0+part (st.2.getD c.toNat 0) (st.1.getD c.toNat 0 / 4) (st.1.getD c.toNat 0)) (by omega) (by omega)]
 refine ⟨cw,by decide,ct,cw,⟨⟨by omega,by omega⟩,⟨by omega,by omega⟩,by omega,by omega⟩,cw,cw,dw,dw,ct,ct,dt,dt,rfl,next _ _ ?_⟩
 unfold Z3i
 rw [if_neg (fun h=>by rcases h with h | h | h <;> first | omega | (rw [g] at h; cases h))]
 rfl
end Go.Lift

namespace Go.Lift
def Z53:=fun (post:Int × Unit→Prop)=>post ((0:Int),())
theorem Zmg  (w:KS.wf [.ptr Zx] (none,())):Z53   (fun r=>r=Zd none):=by
 exact rfl
def Z54:=fun (g:Int × List (Int × Int × Int × Int) × List ((Int × Int) × Int) × List (List Int) × List Int × List Nat × List Nat) (post:Int × Unit→Prop) =>
 ∃ (h:some g≠none),post ((↑g.snd.snd.snd.snd.fst.length:Int),())
theorem Zmh (g:Int × (List (Int × Int × Int × Int)) × (List ((Int × Int) × Int)) × (List (List Int)) × (List Int) × (List Nat) × List Nat) (w:KS.wf [.ptr Zx] ((some g),())):Z54  g (fun r=>r=Zd (some g)):=by
 exact ⟨by simp,rfl⟩
def Z55:=fun (post:Int × Unit→Prop)=>post ((0:Int),())
theorem Zmi  (w:KS.wf [.ptr Zx] (none,())):Z55   (fun r=>r=Zak none):=by
 exact rfl
def Z56:=fun (g:Int × List (Int × Int × Int × Int) × List ((Int × Int) × Int) × List (List Int) × List Int × List Nat × List Nat) (post:Int × Unit→Prop) =>
 ∃ (h:some g≠none),post ((↑g.snd.fst.length:Int),())
theorem Zmj (g:Int × (List (Int × Int × Int × Int)) × (List ((Int × Int) × Int)) × (List (List Int)) × (List Int) × (List Nat) × List Nat) (w:KS.wf [.ptr Zx] ((some g),())):Z56  g (fun r=>r=Zak (some g)):=by
 exact ⟨by simp,rfl⟩
def Z5n:=fun (c:Int) (post:Int × Unit→Prop)=>post ((0:Int),())
theorem Zo7 (c:Int) (w:KS.wf [.ptr Zx,.int .i64] (none,c,())):Z5n  c (fun r=>r=Z2l none c):=by
 exact rfl
def Z5o:=fun (g:Int × List (Int × Int × Int × Int) × List ((Int × Int) × Int) × List (List Int) × List Int × List Nat × List Nat) (c:Int) (post:Int × Unit →
 Prop)=>∀ (a:Bool),a=decide (c<(0:Int))→Br a (post ((0:Int),())) (∃ (h:some g≠none),∀ (a:Bool),a=decide (c≥(↑g.snd.snd.snd.snd.fst.length
 : Int))→Br a (post ((0:Int),())) (∃ (h:some g≠none),∃ (h:(0:Int)≤c∧c<(↑g.snd.snd.snd.snd.fst.length:Int)),post (g.snd.snd.snd.snd.fst.getD
 c.toNat (0:Int),())))
theorem Zo8 (g:Int × (List (Int × Int × Int × Int)) × (List ((Int × Int) × Int)) × (List (List Int)) × (List Int) × (List Nat) × List Nat) (c:Int) (w:KS.wf [.ptr Zx,.int .i64] ((some g),c,())):Z5o  g c (fun r=>r=Z2l (some g) c):=by
 rintro _ rfl
 refine Br.intro (fun e=>congrArg r1 ?_) fun e=>?_
 ·have e:=of_decide_eq_true e
  show (0:Int)=if 0≤c∧c<(g.2.2.2.2.1.length:Nat) then g.2.2.2.2.1.getD c.toNat 0 else 0
  rw [if_neg (by omega)]
 have e:=of_decide_eq_false e
 refine ⟨by simp,?_⟩
 rintro _ rfl
 refine Br.intro (fun f=>congrArg r1 ?_) fun f=>?_
 ·have f:=of_decide_eq_true f
  show (0:Int)=if 0≤c∧c<(g.2.2.2.2.1.length:Nat) then g.2.2.2.2.1.getD c.toNat 0 else 0
  rw [if_neg (by omega)]
 have f:=of_decide_eq_false f
 refine ⟨by simp,⟨by omega,by omega⟩,congrArg r1 ?_⟩
 show g.2.2.2.2.1.getD c.toNat 0=if 0≤c∧c<(g.2.2.2.2.1.length:Nat) then g.2.2.2.2.1.getD c.toNat 0 else 0
 rw [if_pos ⟨by omega,by omega⟩]
end Go.Lift

namespace Go.Lift
open Go.Proofs
def Z2v:Con:=.det [.ptr Zx] [.snap (.int .i64)] (fun _=>True) (fun x=>Zd x.1)
def Z5p:Cx:=⟨Zf Zi,Zg [],RbG⟩
theorem Zj5:CxOk Tryz.prog Z5p:=⟨Z4 Z7,fun f c h=>by cases h⟩
theorem Zmk:FnAt Tryz.prog 31 Tryz.f31.ntmps Tryz.f31.results.toList (Tryz.f31.body.getD .skip):=⟨Tryz.f31,Tryz.func31,rfl,rfl,by simp,by decide⟩
theorem Zj6  (post:Int × Unit→Prop):Za Z5p nHn Tryz.f31.ntmps Tryz.f31.results.toList (Tryz.f31.body.getD .skip) [.ptr Zx] [.snap (.int .i64)] (none,()) post=Z53   post:=by kernel_rfl
theorem Zj7 (g:Int × (List (Int × Int × Int × Int)) × (List ((Int × Int) × Int)) × (List (List Int)) × (List Int) × (List Nat) × List Nat) (post:Int × Unit→Prop):Za Z5p nHn Tryz.f31.ntmps Tryz.f31.results.toList (Tryz.f31.body.getD .skip) [.ptr Zx] [.snap (.int .i64)] ((some g),()) post=Z54  g post:=by kernel_rfl
def Zo9 (x:KS [.ptr Zx]) (post:RS [.snap (.int .i64)]→Prop):Prop:=match x with
 | (none,y)=>Z53   post
 | (some g,y)=>Z54  g post
theorem Z3p:Z2v.holds Tryz.prog RbG 31 :=
 detP Zj5 Z8 nHn Zmk (F:=Zo9) (fun x post=>match x with
  | (none,y)=>Zj6  post
  | (some g,y)=>Zj7 g post) fun x h w=>match x,h,w with
  | (none,y),h,w=>Zmg   w
  | (some g,y),h,w=>Zmh  g w
def Z5q:Con:=.det [.ptr Zx] [.snap (.int .i64)] (fun _=>True) (fun x=>Zak x.1)
def Z5r:Cx:=⟨Zf Zi,Zg [],RbG⟩
theorem Zj8:CxOk Tryz.prog Z5r:=⟨Z4 Z7,fun f c h=>by cases h⟩
theorem Zml:FnAt Tryz.prog 55 Tryz.f55.ntmps Tryz.f55.results.toList (Tryz.f55.body.getD .skip):=⟨Tryz.f55,Tryz.func55,rfl,rfl,by simp,by decide⟩
theorem Zj9  (post:Int × Unit→Prop):Za Z5r nHn Tryz.f55.ntmps Tryz.f55.results.toList (Tryz.f55.body.getD .skip) [.ptr Zx] [.snap (.int .i64)] (none,()) post=Z55   post:=by kernel_rfl
theorem Zja (g:Int × (List (Int × Int × Int × Int)) × (List ((Int × Int) × Int)) × (List (List Int)) × (List Int) × (List Nat) × List Nat) (post:Int × Unit→Prop):Za Z5r nHn Tryz.f55.ntmps Tryz.f55.results.toList (Tryz.f55.body.getD .skip) [.ptr Zx] [.snap (.int .i64)] ((some g),()) post=Z56  g post:=by kernel_rfl
def Zoa (x:KS [.ptr Zx]) (post:RS [.snap (.int .i64)]→Prop):Prop:=match x with
 | (none,y)=>Z55   post
 | (some g,y)=>Z56  g post
theorem Za6:Z5q.holds Tryz.prog RbG 55 :=
 detP Zj8 Z8 nHn Zml (F:=Zoa) (fun x post=>match x with
  | (none,y)=>Zj9  post
  | (some g,y)=>Zja g post) fun x h w=>match x,h,w with
  | (none,y),h,w=>Zmi   w
  | (some g,y),h,w=>Zmj  g w
def Z6k:Con:=.det [.ptr Zx,.int .i64] [.snap (.int .i64)] (fun _=>True) (fun x=>Z2l x.1 x.2.1)
def Z5s:Hn:=nHn
def Z6l:Cx:=⟨Zf Zi,Zg [],RbG⟩
theorem Zkr:CxOk Tryz.prog Z6l:=⟨Z4 Z7,fun f c h=>by cases h⟩
theorem Zob:FnAt Tryz.prog 38 Tryz.f38.ntmps Tryz.f38.results.toList (Tryz.f38.body.getD .skip):=⟨Tryz.f38,Tryz.func38,rfl,rfl,by simp,by decide⟩
theorem Zks (c:Int) (post:Int × Unit→Prop):Za Z6l Z5s Tryz.f38.ntmps Tryz.f38.results.toList (Tryz.f38.body.getD .skip) [.ptr Zx,.int .i64] [.snap (.int .i64)] (none,c,()) post=Z5n  c post:=by kernel_rfl
theorem Zkt (g:Int × (List (Int × Int × Int × Int)) × (List ((Int × Int) × Int)) × (List (List Int)) × (List Int) × (List Nat) × List Nat) (c:Int) (post:Int × Unit→Prop):Za Z6l Z5s Tryz.f38.ntmps Tryz.f38.results.toList (Tryz.f38.body.getD .skip) [.ptr Zx,.int .i64] [.snap (.int .i64)] ((some g),c,()) post=Z5o  g c post:=by kernel_rfl
def Zqp (x:KS [.ptr Zx,.int .i64]) (post:RS [.snap (.int .i64)]→Prop):Prop:=match x with
 | (none,y)=>Z5n  y.1 post
 | (some g,y)=>Z5o  g y.1 post
theorem Zcl:Z6k.holds Tryz.prog RbG 38 :=
 detP Zkr Z8 Z5s Zob (F:=Zqp) (fun x post=>match x with
  | (none,y)=>Zks y.1 post
  | (some g,y)=>Zkt g y.1 post) fun x h w=>match x,h,w with
  | (none,y),h,w=>Zo7  y.1 w
  | (some g,y),h,w=>Zo8  g y.1 w
end Go.Lift

namespace Go.Lift
def Zdi:=fun (l:List Int) (post:Bool × Unit→Prop)=>HIs [] []∧∃ (I:Int × Int × Unit→Unit→Prop),∃ (μ:Int × Int × Unit→Unit→Nat),I ((0:Int),(0 :
 Int),()) ()∧∀ (x:Int × Int × Unit) (y:Unit),I x y→∀ (a:Bool),a=decide (x.fst<(↑l.length:Int))→Br a (∃ (h:(0:Int)≤x.fst∧x.fst<(↑l.length:Int)),∀
 (a:Bool),a=decide (l.getD x.fst.toNat (0:Int)<(0:Int))→Br a (post (false,())) (∀ (a:Bool),a=decide (l.getD x.fst.toNat (0:Int) > i64.wrap
 ((4503599627370496:Int) - x.snd.fst))→Br a (post (false,())) (HIs [] []∧I (i64.wrap (x.fst+(1:Int)),i64.wrap (x.snd.fst+l.getD x.fst.toNat (0 :
 Int)),()) ()∧μ (i64.wrap (x.fst+(1:Int)),i64.wrap (x.snd.fst+l.getD x.fst.toNat (0:Int)),()) ()<μ x y))) (post (true,()))
theorem Z167 (l:List Int) (w:KS.wf [.slice (.int .i64)] (l,())):Zdi  l (fun r=>r=Z16z l):=by
 have hl:l.length≤281474976710656:=w.1.1
 refine ⟨rfl,fun x _=>∃ k:Nat,x.1=k∧k≤l.length∧0≤x.2.1∧x.2.1≤4503599627370496∧Z2c x.2.1 (l.drop k)=Z2c 0 l,fun x _=>l.length - x.1.toNat,⟨0,rfl,by omega,by decide,by decide,rfl⟩,?_⟩
 rintro ⟨_,s,⟨⟩⟩ _ ⟨k,rfl,hk,s0,s1,hs⟩
 dsimp only at s0 s1 hs ⊢
 rintro _ rfl
 refine Br.intro (fun d=>?_) fun d=>?_
 rotate_left
 ·have d:k=l.length:=by have d:¬ (k:Int)<l.length:=of_decide_eq_false d; omega
  rw [d,List.drop_length] at hs
  exact congrArg r1 hs
 have d:k<l.length:=by have d:(k:Int)<l.length:=of_decide_eq_true d; omega
 rw [Zao d,Zye] at hs
 rw [Int.toNat_natCast,Zt (x:=4503599627370496 - s) (by omega) (by omega),Z26 d (by omega)]
 refine ⟨⟨by omega,by omega⟩,?_⟩
 rintro _ rfl
 refine Br.intro (fun e=>?_) fun e=>?_
 ·have e:at0 l k<0:=of_decide_eq_true e
  rw [if_pos (.inl e)] at hs
  exact congrArg r1 hs
 have e:¬ at0 l k<0:=of_decide_eq_false e
 rintro _ rfl
 refine Br.intro (fun f=>?_) fun f=>?_
 ·have f:at0 l k > 4503599627370496 - s:=of_decide_eq_true f
  rw [if_pos (.inr f)] at hs
  exact congrArg r1 hs
 have f:¬ at0 l k > 4503599627370496 - s:=of_decide_eq_false f
 rw [if_neg (by omega)] at hs
 have ws:i64.wrap (s+l.getD k 0)=s+at0 l k:=Zt (by show _≤s+at0 l k; omega) (by show s+at0 l k<_; omega)
 rw [ws]
 exact ⟨rfl,⟨k+1,rfl,by omega,by omega,by omega,hs⟩,by omega⟩
def Z2z:=fun (l:List Int) (post:List Int × Unit→Prop)=>∀ (a:Bool),(a=true→l.length=(0:Nat))→∀ (a_1:Bool),(a_1=if false
 = true then !a else a)→Br a_1 (post ([],())) (∃ (h:(0:Nat)=(0:Nat)∧((0:Nat)+l.length)*(8:Nat)≤(140737488355328:Nat)),((0:Nat)=(0:Nat)∧(0 :
 Nat)+l.length=([]++l).length)∧post ([]++l,()))
theorem Zcm (l:List Int) (h:Z170 l):Z2z  l (fun r=>r=Zpt l):=by
 intro a ha a1 h1
 have h1:a1=a:=h1
 subst h1
 refine Br.intro (fun e=>?_) fun e=>?_
 ·have:=List.eq_nil_of_length_eq_zero (ha e)
  subst this; rfl
 ·have hl:l.length≤65536:=h
  exact ⟨⟨by trivial,by omega⟩,⟨by trivial,by rw [List.nil_append]; omega⟩,by rw [List.nil_append]; rfl⟩
def Z9m:=fun (bed:List Nat) (c:Int) (post:Int × Unit→Prop)=>post ((-1:Int),())
theorem Zzx (bed:List Nat) (c:Int) (h:Z27 none bed c) (w:KS.wf [.ptr Zx,.slice (.flt .f64),.int .i64] (none,bed,c,())):Z9m  bed c (fun r=>r=Z1m none bed c):=by
 exact rfl
def Z9n:=fun (g:Int × List (Int × Int × Int × Int) × List ((Int × Int) × Int) × List (List Int) × List Int × List Nat × List Nat) (bed:List Nat) (c:Int) (post :
 Int × Unit→Prop)=>∃ (h:True),∀ (a:Bool),a=((↑bed.length:Int) != (Zd (some g)).fst)→Br a (post ((-1:Int),())) (∀ (a:Bool),a=decide (c<(0 :
 Int))→Br a (post ((-1:Int),())) (∀ (a:Bool),a=decide (c≥(↑bed.length:Int))→Br a (post ((-1:Int),())) (HIs [] []∧∃ (I:Int × Int × Unit→Unit→Prop),∃ (μ :
 Int × Int × Unit→Unit→Nat),I ((0:Int),(-1:Int),()) ()∧∀ (x:Int × Int × Unit) (y:Unit),I x y→∀ (a:Bool),a=decide (x.fst<(4:Int))→Br a (∃ (h:WNet
 (some g) c x.fst),∀ (a:Int × Int × Unit),a=Z80 (some g) c x.fst→∃ (h:Zeg (some g) a.fst),∀ (a_1:Bool),a_1=decide (x.snd.fst≥(0 :
 Int))→Br a_1 (∃ (h:(0:Int)≤i64.wrap (i64.wrap ((Z1o (some g) a.fst).fst.fst+(Z1o (some g) a.fst).fst.snd.snd.fst) - c) ∧
 i64.wrap (i64.wrap ((Z1o (some g) a.fst).fst.fst+(Z1o (some g) a.fst).fst.snd.snd.fst) - c)<(↑bed.length:Int)),∃ (h:(0:Int) ≤
 x.snd.fst∧x.snd.fst<(↑bed.length:Int)),∃ (h:W2 (bed.getD (i64.wrap (i64.wrap ((Z1o (some g) a.fst).fst.fst+(Z1o (some g)
 a.fst).fst.snd.snd.fst) - c)).toNat (0:Nat)) (bed.getD x.snd.fst.toNat (0:Nat))),∀ (a_2:Int × Unit),a_2=Z70 (bed.getD (i64.wrap (i64.wrap ((Z1o
 (some g) a.fst).fst.fst+(Z1o (some g) a.fst).fst.snd.snd.fst) - c)).toNat (0:Nat)) (bed.getD x.snd.fst.toNat (0:Nat))→∀ (a_3:Bool),a_3=decide
 (a_2.fst > (0:Int))→Br a_3 (HIs [] []∧I (i64.wrap (x.fst+(1:Int)),x.snd.fst,()) ()∧μ (i64.wrap (x.fst+(1:Int)),x.snd.fst,()) ()<μ x y) (∀
 (a_4:Bool),a_4=(a_2.fst==(0:Int))→Br a_4 (∀ (a_5:Bool),a_5=decide (i64.wrap (i64.wrap ((Z1o (some g) a.fst).fst.fst+(Z1o
 (some g) a.fst).fst.snd.snd.fst) - c) > x.snd.fst)→Br a_5 (HIs [] []∧I (i64.wrap (x.fst+(1:Int)),x.snd.fst,()) ()∧μ (i64.wrap (x.fst+(1 :
 Int)),x.snd.fst,()) ()<μ x y) (HIs [] []∧I (i64.wrap (x.fst+(1:Int)),i64.wrap (i64.wrap ((Z1o (some g) a.fst).fst.fst+(Z1o
 (some g) a.fst).fst.snd.snd.fst) - c),()) ()∧μ (i64.wrap (x.fst+(1:Int)),i64.wrap (i64.wrap ((Z1o (some g) a.fst).fst.fst +
 (Z1o (some g) a.fst).fst.snd.snd.fst) - c),()) ()<μ x y)) (HIs [] []∧I (i64.wrap (x.fst+(1:Int)),i64.wrap (i64.wrap ((Z1o
 (some g) a.fst).fst.fst+(Z1o (some g) a.fst).fst.snd.snd.fst) - c),()) ()∧μ (i64.wrap (x.fst+(1:Int)),i64.wrap (i64.wrap
 ((Z1o (some g) a.fst).fst.fst+(Z1o (some g) a.fst).fst.snd.snd.fst) - c),()) ()<μ x y))) (HIs [] []∧I (i64.wrap (x.fst+(1:Int)),
 i64.wrap (i64.wrap ((Z1o (some g) a.fst).fst.fst+(Z1o (some g) a.fst).fst.snd.snd.fst) - c),()) ()∧μ (i64.wrap (x.fst+(1 :
 Int)),i64.wrap (i64.wrap ((Z1o (some g) a.fst).fst.fst+(Z1o (some g) a.fst).fst.snd.snd.fst) - c),()) ()<μ x y)) (∃ (h:(0:Int) ≤
 x.snd.fst∧x.snd.fst<(↑bed.length:Int)),∃ (h:(0:Int)≤c∧c<(↑bed.length:Int)),∃ (h:W2 (bed.getD x.snd.fst.toNat (0:Nat)) (bed.getD c.toNat (0:Nat))),∀ (a :
 Int × Unit),a=Z70 (bed.getD x.snd.fst.toNat (0:Nat)) (bed.getD c.toNat (0:Nat))→∀ (a_1:Bool),a_1=decide (a.fst≥(0:Int))→Br a_1 (post ((-1:Int),()))
 (post (x.snd.fst,()))))))
theorem Zzy (g:Int × (List (Int × Int × Int × Int)) × (List ((Int × Int) × Int)) × (List (List Int)) × (List Int) × (List Nat) × List Nat) (bed:List Nat) (c:Int) (h:Z27 (some g) bed c) (w:KS.wf [.ptr Zx,.slice (.flt .f64),.int .i64] ((some g),bed,c,())):Z9n  g bed c (fun r=>r=Z1m (some g) bed c):=by
 obtain ⟨hg,hw⟩:=h
 obtain ⟨n,gn,rfl⟩:=Z14j hg
 have hC:(Zd (some (netG n))).1=Zb n:=Z3a n
 have hR:Z1m (some (netG n)) bed c=r1 (Z22 true (Zb n) n bed c):=by unfold Z1m; rw [Z3a]; rfl
 have cr:=Z6a n
 refine ⟨trivial,?_⟩
 rw [hC,hR]
 rintro _ rfl
 refine Br.intro (fun e=>congrArg r1 (Z8o (.inl (bne_iff_ne.1 e))).symm) fun e=>?_
 have e1:(bed.length:Int)=Zb n:=by simpa using e
 rintro _ rfl
 refine Br.intro (fun e=>congrArg r1 (Z8o (.inr (.inl (of_decide_eq_true e)))).symm) fun e=>?_
 have e2:=of_decide_eq_false e
 rintro _ rfl
 refine Br.intro (fun e=>congrArg r1 (Z8o (.inr (.inr (of_decide_eq_true e)))).symm) fun e=>?_
 have e3:=of_decide_eq_false e
 rw [Zm7 e1 (by omega) (by omega)]
 have hp:Zh n c=true:=by
  obtain ⟨k,rfl⟩:∃ k:Nat,c=k:=⟨c.toNat,by omega⟩
  exact Zcd (by omega)
 refine ⟨rfl,fun x _=>∃ k:Nat,x.1=k∧k≤4∧x.2.1=Zv n bed c k,fun x _=>4 - x.1.toNat,⟨0,rfl,by omega,rfl⟩,?_⟩
 rintro ⟨_,_,⟨⟩⟩ _ ⟨k,rfl,hk,rfl⟩
 dsimp only
 have wg:∀ i:Int,0≤i→i<(bed.length:Int)→W64 (bed.getD i.toNat 0):=fun i h1 h2=>hw _ (Z2w (by omega) 0)
 rintro _ rfl
 refine Br.intro (fun d=>?_) fun d=>?_
 rotate_left
 ·have d:k=4:=by have d:¬ (k:Int)<4:=of_decide_eq_false d; omega
  subst d
  obtain ⟨b1,b2⟩:=Z1de (bed:=bed) hp
  refine ⟨⟨by omega,by omega⟩,⟨by omega,by omega⟩,⟨wg _ (by omega) (by omega),wg _ (by omega) (by omega)⟩,?_⟩
  rintro _ rfl
  rintro _ rfl
  refine Br.intro (fun q=>?_) fun q=>?_
  ·have q:¬ Zw bed (Zv n bed c 4)<Zw bed c:=fun w=>absurd (of_decide_eq_true q) (by
    have:(Z70 (bed.getD (Zv n bed c 4).toNat 0) (bed.getD c.toNat 0)).fst<0:=Z11j.2 w
    omega)
   show ((-1:Int),())=(Z48 n bed c,())
   unfold Z48
   rw [if_neg q]
  ·have q:Zw bed (Zv n bed c 4)<Zw bed c:=Z11j.1 (by
    have:¬ (Z70 (bed.getD (Zv n bed c 4).toNat 0) (bed.getD c.toNat 0)).fst≥0:=of_decide_eq_false q
    show (Z70 (bed.getD (Zv n bed c 4).toNat 0) (bed.getD c.toNat 0)).fst<0
    omega)
   show (Zv n bed c 4,())=(Z48 n bed c,())
   unfold Z48
   rw [if_pos q]
 have d:k<4:=by have d:(k:Int)<4:=of_decide_eq_true d; omega
 obtain ⟨f1,f2,f3,f4⟩:=Zbo (bed:=bed) hp k hk
 obtain ⟨t1,t2⟩:=Z6i hp d
 have hs:Zv n bed c (k+1)=Zhj bed (Zv n bed c k) (Z3 n c k).1:=rfl
 have wk:i64.wrap ((k:Int)+1)=((k+1:Nat):Int):=Z26 d (by omega)
 have ok:Zn n c (k:Int)=true:=Zy.2 ⟨hp,by omega,by omega⟩
 obtain ⟨q,hq,ha,ht⟩:=Z1jj ok
 have hE:=(Z11d n (Zb n).toNat (by omega)).2
 have hE:(netE n).1.length≤4*(Zb n).toNat:=hE
 have et:i64.wrap (i64.wrap ((Z7v (some (netG n)) q).1+(Z7v (some (netG n)) q).2.2.1) - c)=(Z3 n c k).1:=by
  rw [ht,Zt (x:=c+(Z3 n c k).1) (by omega) (by omega),Zt (by omega) (by omega)]; omega
 refine ⟨⟨hg,⟨by omega,by omega⟩,by omega,by omega⟩,?_⟩
 rintro _ rfl
 have hA:(Z80 (some (netG n)) c k).fst=q:=ha
 have hEd:(Z1o (some (netG n)) q).fst=Z7v (some (netG n)) q:=rfl
 rw [hA,hEd,et,wk]
 refine ⟨⟨hg,by omega,by omega⟩,?_⟩
 have nskip:Zv n bed c (k+1)=Zv n bed c k→HIs [] []∧(∃ j:Nat,((k+1:Nat):Int)=j∧j≤4∧Zv n bed c k=Zv n bed c j)∧4 - (((k+1:Nat):Int)).toNat<4 - ((k:Nat):Int).toNat:=fun h=>⟨rfl,⟨k+1,rfl,by omega,h.symm⟩,by omega⟩
 have ntake:Zv n bed c (k+1)=(Z3 n c k).1→HIs [] []∧(∃ j:Nat,((k+1:Nat):Int)=j∧j≤4∧(Z3 n c k).1=Zv n bed c j)∧4 - (((k+1:Nat):Int)).toNat<4 - ((k:Nat):Int).toNat:=fun h=>⟨rfl,⟨k+1,rfl,by omega,h.symm⟩,by omega⟩
 rintro _ rfl
 refine Br.intro (fun f=>?_) fun f=>ntake (by rw [hs]; exact Z52 (.inl (by have:=of_decide_eq_false f; omega)))
 have f:=of_decide_eq_true f
 refine ⟨⟨t1,by omega⟩,⟨by omega,by omega⟩,⟨wg _ t1 (by omega),wg _ (by omega) (by omega)⟩,?_⟩
 rintro _ rfl
 have hcm:(Z70 (bed.getD (Z3 n c k).1.toNat 0) (bed.getD (Zv n bed c k).toNat 0)).fst=cmpI (Zw bed (Z3 n c k).1) (Zw bed (Zv n bed c k)):=rfl
 rw [hcm]
 rintro _ rfl
 refine Br.intro (fun g1=>nskip (by rw [hs]; exact Z9d (by omega) (.inl (Z1bm.1 (of_decide_eq_true g1))))) fun g1=>?_
 have g1:¬ Zw bed (Z3 n c k).1 > Zw bed (Zv n bed c k):=fun w=>of_decide_eq_false g1 (Z1bm.2 w)
 rintro _ rfl
 refine Br.intro (fun g2=>?_) fun g2=>ntake (by
  rw [hs]
  have g2:¬ cmpI (Zw bed (Z3 n c k).1) (Zw bed (Zv n bed c k))=0:=by simpa using g2
  rw [Z1bn] at g2
  exact Z52 (.inr (.inl (by omega))))
 have g2:Zw bed (Z3 n c k).1=Zw bed (Zv n bed c k):=Z1bn.1 (by simpa using g2)
 rintro _ rfl
 exact Br.intro (fun g3=>nskip (by rw [hs]; exact Z9d (by omega) (.inr ⟨g2,by have:=of_decide_eq_true g3; omega⟩))) fun g3=>ntake (by rw [hs]; exact Z52 (.inr (.inr ⟨g2,by have:=of_decide_eq_false g3; omega⟩)))
def Z9o:=fun (bed:List Nat) (c:Int) (post:Int × Unit→Prop)=>post ((-1:Int),())
theorem Zzz (bed:List Nat) (c:Int) (h:Z3m none bed c) (w:KS.wf [.ptr Z2h,.slice (.flt .f64),.int .i64] (none,bed,c,())):Z9o  bed c (fun r=>r=Z3l none bed c):=by
 exact rfl
def Z9p:=fun (g:Int × List (Int × Int × Int × Int) × List Int) (bed:List Nat) (c:Int) (post:Int × Unit→Prop)=>∃ (h:Zrr (some g)),∀ (a:Bool),
 a=((↑bed.length:Int) != (Zjr (some g)).fst)→Br a (post ((-1:Int),())) (∀ (a:Bool),a=decide (c<(0:Int))→Br a (post ((-1:Int),())) (∀ (a:Bool),a
 = decide (c≥(↑bed.length:Int))→Br a (post ((-1:Int),())) (HIs [] []∧∃ (I:Int × Int × Unit→Unit→Prop),∃ (μ:Int × Int × Unit→Unit→Nat),I ((0:Int),(-1 :
 Int),()) ()∧∀ (x:Int × Int × Unit) (y:Unit),I x y→∀ (a:Bool),a=decide (x.fst<(4:Int))→Br a (∃ (h:True),∃ (h:III (Z7o (some g)).fst c x.fst),∀
 (a:Int × Int × Unit),a=Z1k (Z7o (some g)).fst c x.fst→∀ (a_1:Bool),a_1=decide (x.snd.fst<(0:Int))→Br a_1 (HIs [] []∧I (i64.wrap (x.fst +
 (1:Int)),a.fst,()) ()∧μ (i64.wrap (x.fst+(1:Int)),a.fst,()) ()<μ x y) (∃ (h:(0:Int)≤a.fst∧a.fst<(↑bed.length:Int)),∃ (h:(0:Int)≤x.snd.fst
 ∧ x.snd.fst<(↑bed.length:Int)),∃ (h:W2 (bed.getD a.fst.toNat (0:Nat)) (bed.getD x.snd.fst.toNat (0:Nat))),∀ (a_2:Bool × Unit),a_2=Zfi (bed.getD a.fst.toNat (0
 : Nat)) (bed.getD x.snd.fst.toNat (0:Nat))→∀ (a_3:Bool),a_3=a_2.fst→Br a_3 (HIs [] []∧I (i64.wrap (x.fst+(1:Int)),a.fst,()) ()∧μ (i64.wrap
 (x.fst+(1:Int)),a.fst,()) ()<μ x y) (∃ (h:(0:Int)≤x.snd.fst∧x.snd.fst<(↑bed.length:Int)),∃ (h:(0:Int)≤a.fst∧a.fst<(↑bed.length:Int)),∃ (h:W2
 (bed.getD x.snd.fst.toNat (0:Nat)) (bed.getD a.fst.toNat (0:Nat))),∀ (a_4:Bool × Unit),a_4=Zfi (bed.getD x.snd.fst.toNat (0:Nat)) (bed.getD a.fst.toNat (0:Nat)) →
 ∀ (a_5:Bool),a_5=a_4.fst→Br (!a_5) (∀ (a_6:Bool),a_6=decide (a.fst<x.snd.fst)→Br a_6 (HIs [] []∧I (i64.wrap (x.fst+(1:Int)),a.fst,()) ()∧μ
 (i64.wrap (x.fst+(1:Int)),a.fst,()) ()<μ x y) (HIs [] []∧I (i64.wrap (x.fst+(1:Int)),x.snd.fst,()) ()∧μ (i64.wrap (x.fst+(1:Int)),
 x.snd.fst,()) ()<μ x y)) (HIs [] []∧I (i64.wrap (x.fst+(1:Int)),x.snd.fst,()) ()∧μ (i64.wrap (x.fst+(1:Int)),x.snd.fst,()) ()<μ x y)))) (∀ (a
 : Bool),a=decide (x.snd.fst≥(0:Int))→Br a (∃ (h:(0:Int)≤x.snd.fst∧x.snd.fst<(↑bed.length:Int)),∃ (h:(0:Int)≤c∧c<(↑bed.length:Int)),∃ (h:W2
 (bed.getD x.snd.fst.toNat (0:Nat)) (bed.getD c.toNat (0:Nat))),∀ (a:Bool × Unit),a=Zfi (bed.getD x.snd.fst.toNat (0:Nat)) (bed.getD c.toNat (0:Nat))→∀ (a_1 :
 Bool),a_1=a.fst→Br a_1 (post (x.snd.fst,())) (post ((-1:Int),()))) (post ((-1:Int),()))))))
theorem Z100 (g:Int × (List (Int × Int × Int × Int)) × List Int) (bed:List Nat) (c:Int) (h:Z3m (some g) bed c) (w:KS.wf [.ptr Z2h,.slice (.flt .f64),.int .i64] ((some g),bed,c,())):Z9p  g bed c (fun r=>r=Z3l (some g) bed c):=by
 obtain ⟨hg,hw⟩:=h
 obtain ⟨n,gn,rfl⟩:=Z1d6 hg
 have hC:(Zjr (some (Z6z n))).1=Zb n:=rfl
 have hR:Z3l (some (Z6z n)) bed c=r1 (Z22 true (Zb n) n bed c):=rfl
 have cr:=Z6a n
 refine ⟨hg,?_⟩
 have hS:(Z7o (some (Z6z n))).1=n:=rfl
 rw [hC,hR,hS]
 rintro _ rfl
 refine Br.intro (fun e=>congrArg r1 (Z8o (.inl (bne_iff_ne.1 e))).symm) fun e=>?_
 have e1:(bed.length:Int)=Zb n:=by simpa using e
 rintro _ rfl
 refine Br.intro (fun e=>congrArg r1 (Z8o (.inr (.inl (of_decide_eq_true e)))).symm) fun e=>?_
 have e2:=of_decide_eq_false e
 rintro _ rfl
 refine Br.intro (fun e=>congrArg r1 (Z8o (.inr (.inr (of_decide_eq_true e)))).symm) fun e=>?_
 have e3:=of_decide_eq_false e
 rw [Zm7 e1 (by omega) (by omega)]
 have hp:Zh n c=true:=by
  obtain ⟨k,rfl⟩:∃ k:Nat,c=k:=⟨c.toNat,by omega⟩
  exact Zcd (by omega)
 refine ⟨rfl,fun x _=>∃ k:Nat,x.1=k∧k≤4∧x.2.1=Zv n bed c k,fun x _=>4 - x.1.toNat,⟨0,rfl,by omega,rfl⟩,?_⟩
 rintro ⟨_,_,⟨⟩⟩ _ ⟨k,rfl,hk,rfl⟩
 dsimp only
 have wg:∀ i:Int,0≤i→i<(bed.length:Int)→W64 (bed.getD i.toNat 0):=fun i h1 h2=>hw _ (Z2w (by omega) 0)
 rintro _ rfl
 refine Br.intro (fun d=>?_) fun d=>?_
 rotate_left
 ·have d:k=4:=by have d:¬ (k:Int)<4:=of_decide_eq_false d; omega
  subst d
  obtain ⟨b1,b2⟩:=Z1de (bed:=bed) hp
  rintro _ rfl
  refine Br.intro (fun _=>?_) fun q=>by
   have:=of_decide_eq_false q
   omega
  refine ⟨⟨by omega,by omega⟩,⟨by omega,by omega⟩,⟨wg _ (by omega) (by omega),wg _ (by omega) (by omega)⟩,?_⟩
  rintro _ rfl
  rintro _ rfl
  refine Br.intro (fun q=>?_) fun q=>?_
  ·have q:=(Z8n bed _ _).1 q
   show (Zv n bed c 4,())=(Z48 n bed c,())
   unfold Z48
   rw [if_pos q]
  ·have q:¬ Zw bed (Zv n bed c 4)<Zw bed c:=fun w=>by
    have q:Z3o (bed.getD (Zv n bed c 4).toNat 0) (bed.getD c.toNat 0)=false:=q
    rw [(Z8n bed _ _).2 w] at q; cases q
   show ((-1:Int),())=(Z48 n bed c,())
   unfold Z48
   rw [if_neg q]
 have d:k<4:=by have d:(k:Int)<4:=of_decide_eq_true d; omega
 obtain ⟨f1,f2,f3,f4⟩:=Zbo (bed:=bed) hp k hk
 obtain ⟨t1,t2⟩:=Z6i hp d
 have hs:Zv n bed c (k+1)=Zhj bed (Zv n bed c k) (Z3 n c k).1:=rfl
 have wk:i64.wrap ((k:Int)+1)=((k+1:Nat):Int):=Z26 d (by omega)
 have gr:=Z1r.1 gn
 refine ⟨trivial,⟨⟨by omega,by omega⟩,⟨by omega,by omega⟩,by omega,by omega⟩,?_⟩
 rintro _ rfl
 have hB:(Z1k n c k).fst=(Z3 n c k).1:=rfl
 rw [hB,wk]
 have nskip:Zv n bed c (k+1)=Zv n bed c k→HIs [] []∧(∃ j:Nat,((k+1:Nat):Int)=j∧j≤4∧Zv n bed c k=Zv n bed c j)∧4 - (((k+1:Nat):Int)).toNat<4 - ((k:Nat):Int).toNat:=fun h=>⟨rfl,⟨k+1,rfl,by omega,h.symm⟩,by omega⟩
 have ntake:Zv n bed c (k+1)=(Z3 n c k).1→HIs [] []∧(∃ j:Nat,((k+1:Nat):Int)=j∧j≤4∧(Z3 n c k).1=Zv n bed c j)∧4 - (((k+1:Nat):Int)).toNat<4 - ((k:Nat):Int).toNat:=fun h=>⟨rfl,⟨k+1,rfl,by omega,h.symm⟩,by omega⟩
 rintro _ rfl
 refine Br.intro (fun f=>ntake (by rw [hs]; exact Z52 (.inl (of_decide_eq_true f)))) fun f=>?_
 have f:=of_decide_eq_false f
 refine ⟨⟨t1,by omega⟩,⟨by omega,by omega⟩,⟨wg _ t1 (by omega),wg _ (by omega) (by omega)⟩,?_⟩
 rintro _ rfl
 rintro _ rfl
 refine Br.intro (fun g1=>ntake (by rw [hs]; exact Z52 (.inr (.inl ((Z8n bed _ _).1 g1))))) fun g1=>?_
 have g1:¬ Zw bed (Z3 n c k).1<Zw bed (Zv n bed c k):=fun w=>by
  have g1:Z3o (bed.getD (Z3 n c k).1.toNat 0) (bed.getD (Zv n bed c k).toNat 0)=false:=g1
  rw [(Z8n bed _ _).2 w] at g1; cases g1
 refine ⟨⟨by omega,by omega⟩,⟨t1,by omega⟩,⟨wg _ (by omega) (by omega),wg _ t1 (by omega)⟩,?_⟩
 rintro _ rfl
 rintro _ rfl
 refine Br.intro (fun g2=>?_) fun g2=>nskip (by
  rw [hs]
  have g2:Z3o (bed.getD (Zv n bed c k).toNat 0) (bed.getD (Z3 n c k).1.toNat 0)=true:=by
   have g2:(!Z3o (bed.getD (Zv n bed c k).toNat 0) (bed.getD (Z3 n c k).1.toNat 0))=false:=g2
   simpa using g2
  exact Z9d (by omega) (.inl ((Z8n bed _ _).1 g2)))
 have g2:¬ Zw bed (Zv n bed c k)<Zw bed (Z3 n c k).1:=fun w=>by
  have g2:(!Z3o (bed.getD (Zv n bed c k).toNat 0) (bed.getD (Z3 n c k).1.toNat 0))=true:=g2
  rw [(Z8n bed _ _).2 w] at g2; cases g2
 rintro _ rfl
 exact Br.intro (fun g3=>ntake (by rw [hs]; exact Z52 (.inr (.inr ⟨by omega,by have:=of_decide_eq_true g3; omega⟩)))) fun g3=>nskip (by rw [hs]; exact Z9d (by omega) (.inr ⟨by omega,by have:=of_decide_eq_false g3; omega⟩))
def Z85:=fun (a b:List Int) (post:Bool × Unit→Prop)=>∀ (a_1:Bool),a_1=((↑a.length:Int) != (↑b.length:Int))→Br a_1 (post (false,())) (HIs []
 []∧∃ (I:Int × Unit→Unit→Prop),∃ (μ:Int × Unit→Unit→Nat),I ((0:Int),()) ()∧∀ (x:Int × Unit) (y:Unit),I x y→∀ (a_2:Bool),a_2=decide (x.fst <
 (↑a.length:Int))→Br a_2 (∃ (h:(0:Int)≤x.fst∧x.fst<(↑a.length:Int)),∃ (h:(0:Int)≤x.fst∧x.fst<(↑b.length:Int)),∀ (a_3:Bool),a_3=(a.getD
 x.fst.toNat (0:Int) != b.getD x.fst.toNat (0:Int))→Br a_3 (post (false,())) (HIs [] []∧I (i64.wrap (x.fst+(1:Int)),()) ()∧μ (i64.wrap (x.fst +
 (1:Int)),()) ()<μ x y)) (post (true,())))
theorem Zvj (a:List Int) (b:List Int) (w:KS.wf [.slice (.int .i64),.slice (.int .i64)] (a,b,())):Z85  a b (fun r=>r=Zya a b):=by
 have ha:a.length≤maxN:=w.1.1
 have hm:maxN≤9223372036854775807:=by decide
 rintro _ rfl
 refine Br.intro (fun e=>congrArg r1 ?_) fun e=>?_
 ·have e:¬ a.length=b.length:=fun q=>by rw [q] at e; simp at e
  exact (beq_eq_false_iff_ne.2 fun q=>e (congrArg List.length q)).symm
 have e:a.length=b.length:=by
  have:((a.length:Int)==(b.length:Int))=true:=by
   have e:(!((a.length:Int)==(b.length:Int)))=false:=e
   simpa using e
  have:=beq_iff_eq.1 this
  omega
 refine ⟨rfl,fun x _=>∃ k:Nat,x.1=k∧k≤a.length∧a.take k=b.take k,fun x _=>a.length - x.1.toNat,⟨0,rfl,by omega,rfl⟩,?_⟩
 rintro ⟨_,⟨⟩⟩ _ ⟨k,rfl,hk,hq⟩
 dsimp only
 rintro _ rfl
 refine Br.intro (fun e1=>?_) fun e1=>?_
 ·have e1:k<a.length:=by have:=of_decide_eq_true e1; omega
  rw [Int.toNat_natCast,Z26 e1 (by omega)]
  have ta:=Zpm e1 0
  have tb:=Zpm (l:=b) (i:=k) (by omega) 0
  refine ⟨⟨by omega,by omega⟩,⟨by omega,by omega⟩,?_⟩
  rintro _ rfl
  refine Br.intro (fun e2=>congrArg r1 ?_) fun e2=>?_
  ·have e2:¬ a.getD k 0=b.getD k 0:=bne_iff_ne.1 e2
   refine (beq_eq_false_iff_ne.2 fun q=>e2 ?_).symm
   rw [q]
  ·have e2:a.getD k 0=b.getD k 0:=by
    have e2:(!(a.getD k 0==b.getD k 0))=false:=e2
    simpa using e2
   exact ⟨rfl,⟨k+1,rfl,by omega,by rw [ta,tb,hq,e2]⟩,by omega⟩
 ·have e1:k=a.length:=by have:=of_decide_eq_false e1; omega
  subst e1
  refine congrArg r1 (beq_iff_eq.2 ?_).symm
  rw [List.take_length] at hq
  rw [hq,e,List.take_length]
end Go.Lift

namespace Go.Lift
def Z9q:=fun (ty3 ty95:Nat) (n:Int) (post:Option (Int × List (Int × Int × Int × Int) × List Int) × Int × Unit→Prop)=>∃ (h:I64 n),∀ (a:Bool),a=((Z11
 n).fst==(0:Int))→Br a (post (none,(10:Int),())) (∃ (h:(0:Int)≤i64.wrap ((4:Int)*(Z11 n).fst)∧i64.wrap ((4:Int)*(Z11 n).fst)
 ≤ i64.wrap ((4:Int)*(Z11 n).fst)∧i64.wrap ((4:Int)*(Z11 n).fst)*(↑(8:Nat):Int)≤(281474976710656:Int)),HIs [HObj.row Md.rw ty3 (K.int
 i64) (List.replicate (i64.wrap ((4:Int)*(Z11 n).fst)).toNat (0:Int)),HObj.box Md.rw ty95 [SV.val (Go.Value.int i64 n),SV.junk,SV.osl (0:Nat)
 (0:Nat) (i64.wrap ((4:Int)*(Z11 n).fst)).toNat]] [HObj.row Md.rw ty3 (K.int i64) (List.replicate (i64.wrap ((4:Int)*(Z11 n).fst)).toNat (0
 : Int)),HObj.box Md.rw ty95 [SV.val (Go.Value.int i64 n),SV.junk,SV.osl (0:Nat) (0:Nat) (i64.wrap ((4:Int)*(Z11 n).fst)).toNat]]∧∃ (I:Int × List
 (Int × Int × Int × Int) × Unit→List Int × Unit→Prop),∃ (μ:Int × List (Int × Int × Int × Int) × Unit→List Int × Unit→Nat),I ((0:Int),[],()) (List.replicate
 (i64.wrap ((4:Int)*(Z11 n).fst)).toNat (0:Int),())∧∀ (x:Int × List (Int × Int × Int × Int) × Unit) (y:List Int × Unit),I x y→∀ (a:Bool),a=decide
 (x.fst<(Z11 n).fst)→Br a (((0:Nat)=(0:Nat)∧x.snd.fst.length=x.snd.fst.length)∧HIs [HObj.row Md.rw ty3 (K.int i64) y.fst,HObj.box Md.rw ty95 [SV.val
 (Go.Value.int i64 n),SV.junk,SV.osl (0:Nat) (0:Nat) (i64.wrap ((4:Int)*(Z11 n).fst)).toNat],HObj.dead] [HObj.row Md.rw ty3 (K.int i64) y.fst,
 HObj.box Md.rw ty95 [SV.val (Go.Value.int i64 n),SV.junk,SV.osl (0:Nat) (0:Nat) (i64.wrap ((4:Int)*(Z11 n).fst)).toNat],HObj.dead]∧∃ (I_1:Int ×
 List (Int × Int × Int × Int) × Unit→List Int × Unit→Prop),∃ (μ_1:Int × List (Int × Int × Int × Int) × Unit→List Int × Unit→Nat),I_1 ((0:Int),x.snd.fst,()) (y.fst,
 ())∧∀ (x_3:Int × List (Int × Int × Int × Int) × Unit) (y_1:List Int × Unit),I_1 x_3 y_1→∀ (a:Bool),a=decide (x_3.fst<(4:Int))→Br a (∃ (h:III n x.fst
 x_3.fst),∀ (a:Int × Int × Unit),a=Z1k n x.fst x_3.fst→∀ (a_1:Bool),a_1=decide (a.fst > x.fst)→Br a_1 (∃ (h:(0:Int)≤i64.wrap (i64.wrap ((4
 : Int)*x.fst)+x_3.fst)∧i64.wrap (i64.wrap ((4:Int)*x.fst)+x_3.fst)<(↑(i64.wrap ((4:Int)*(Z11 n).fst)).toNat:Int)),∃ (h:(0:Int)
 ≤ i64.wrap (i64.wrap ((4:Int)*a.fst)+a.snd.fst)∧i64.wrap (i64.wrap ((4:Int)*a.fst)+a.snd.fst)<(↑(i64.wrap ((4:Int) *
 (Z11 n).fst)).toNat:Int)),∃ (h:x_3.snd.fst.length=x_3.snd.fst.length∧(x_3.snd.fst.length+(1:Nat))*(32:Nat)≤(140737488355328:Nat)),((0:Nat)=(0:Nat) ∧
 x_3.snd.fst.length+(1:Nat)=(x_3.snd.fst++[(x.fst,x_3.fst,a.fst,a.snd.fst)]).length)∧HIs [HObj.row Md.rw ty3 (K.int i64) ((y_1.fst.set ((0:Nat) +
 (i64.wrap (i64.wrap ((4:Int)*x.fst)+x_3.fst)).toNat) (↑x_3.snd.fst.length:Int)).set ((0:Nat)+(i64.wrap (i64.wrap ((4:Int)*a.fst) +
 a.snd.fst)).toNat) (↑x_3.snd.fst.length:Int)),HObj.box Md.rw ty95 [SV.val (Go.Value.int i64 n),SV.junk,SV.osl (0:Nat) (0:Nat) (i64.wrap ((4:Int) *
 (Z11 n).fst)).toNat],HObj.dead] [HObj.row Md.rw ty3 (K.int i64) ((y_1.fst.set ((0:Nat)+(i64.wrap (i64.wrap ((4:Int)*x.fst)+x_3.fst)).toNat)
 (↑x_3.snd.fst.length:Int)).set ((0:Nat)+(i64.wrap (i64.wrap ((4:Int)*a.fst)+a.snd.fst)).toNat) (↑x_3.snd.fst.length:Int)),HObj.box Md.rw ty95
 [SV.val (Go.Value.int i64 n),SV.junk,SV.osl (0:Nat) (0:Nat) (i64.wrap ((4:Int)*(Z11 n).fst)).toNat],HObj.dead]∧I_1 (i64.wrap (x_3.fst+(1
 : Int)),x_3.snd.fst++[(x.fst,x_3.fst,a.fst,a.snd.fst)],()) ((y_1.fst.set ((0:Nat)+(i64.wrap (i64.wrap ((4:Int)*x.fst)+x_3.fst)).toNat)
 (↑x_3.snd.fst.length:Int)).set ((0:Nat)+(i64.wrap (i64.wrap ((4:Int)*a.fst)+a.snd.fst)).toNat) (↑x_3.snd.fst.length:Int),())∧μ_1 (i64.wrap
 (x_3.fst+(1:Int)),x_3.snd.fst++[(x.fst,x_3.fst,a.fst,a.snd.fst)],()) ((y_1.fst.set ((0:Nat)+(i64.wrap (i64.wrap ((4:Int)*x.fst) +
 x_3.fst)).toNat) (↑x_3.snd.fst.length:Int)).set ((0:Nat)+(i64.wrap (i64.wrap ((4:Int)*a.fst)+a.snd.fst)).toNat) (↑x_3.snd.fst.length:Int),())<μ_1
 x_3 y_1) (((0:Nat)=(0:Nat)∧x_3.snd.fst.length=x_3.snd.fst.length)∧HIs [HObj.row Md.rw ty3 (K.int i64) y_1.fst,HObj.box Md.rw ty95 [SV.val (Go.Value.int
 i64 n),SV.junk,SV.osl (0:Nat) (0:Nat) (i64.wrap ((4:Int)*(Z11 n).fst)).toNat],HObj.dead] [HObj.row Md.rw ty3 (K.int i64) y_1.fst,HObj.box
 Md.rw ty95 [SV.val (Go.Value.int i64 n),SV.junk,SV.osl (0:Nat) (0:Nat) (i64.wrap ((4:Int)*(Z11 n).fst)).toNat],HObj.dead]∧I_1 (i64.wrap
 (x_3.fst+(1:Int)),x_3.snd.fst,()) (y_1.fst,())∧μ_1 (i64.wrap (x_3.fst+(1:Int)),x_3.snd.fst,()) (y_1.fst,())<μ_1 x_3 y_1)) (((0:Nat)=(0:Nat) ∧
 x_3.snd.fst.length=x_3.snd.fst.length)∧HIs [HObj.row Md.rw ty3 (K.int i64) y_1.fst,HObj.box Md.rw ty95 [SV.val (Go.Value.int i64 n),SV.junk,SV.osl (0:Nat)
 (0:Nat) (i64.wrap ((4:Int)*(Z11 n).fst)).toNat]] [HObj.row Md.rw ty3 (K.int i64) y_1.fst,HObj.box Md.rw ty95 [SV.val (Go.Value.int i64 n),
 SV.junk,SV.osl (0:Nat) (0:Nat) (i64.wrap ((4:Int)*(Z11 n).fst)).toNat]]∧I (i64.wrap (x.fst+(1:Int)),x_3.snd.fst,()) (y_1.fst,())∧μ
 (i64.wrap (x.fst+(1:Int)),x_3.snd.fst,()) (y_1.fst,())<μ x y)) (post (some (n,List.take x.snd.fst.length (List.drop (0:Nat) x.snd.fst),List.take
 (i64.wrap ((4:Int)*(Z11 n).fst)).toNat (List.drop (0:Nat) y.fst)),(0:Int),())))
theorem Z196 (ty0 ty1:Nat) (n:Int) (h:I64 n):Z9q ty0 ty1 n (fun r=>r=Z7u n):=by
 have cr:=Z6a n
 obtain ⟨N,hN⟩:∃ N,(Zb n).toNat=N:=⟨_,rfl⟩
 have hc:Zb n=(N:Int):=by omega
 have hc':(Z11 n).fst=(N:Int):=hc
 have i6:∀ {z:Int},0≤z→z≤6144→I64 z:=fun {z} a b=>⟨by omega,by omega⟩
 have w4:i64.wrap ((4:Int)*(N:Int))=4*(N:Int):=wi ⟨by omega,by omega⟩
 unfold Z9q
 rw [hc',w4]
 refine ⟨h,?_⟩
 rintro _ rfl
 refine Br.intro (fun e=>?_) fun e=>?_
 ·have e:(N:Int)=0:=beq_iff_eq.1 e
  show _=Z7u n
  unfold Z7u; rw [if_pos (by omega)]
 have e:¬ (N:Int)=0:=fun q=>by rw [q] at e; cases e
 have hnew:Z7u n=(some (Z6z n),0,()):=by unfold Z7u; rw [if_neg (by omega)]
 refine ⟨⟨by omega,by omega,by omega⟩,rfl,fun x y=>∃ k:Nat,x.1=k∧k≤N∧x.2.1=(Z2s n k).1∧y.1=(Z2s n k).2,fun x _=>N - x.1.toNat,⟨0,rfl,by omega,rfl,by show _=List.replicate (4*Zb n).toNat 0; rw [hc]⟩,?_⟩
 rintro ⟨_,_,⟨⟩⟩ ⟨_,⟨⟩⟩ ⟨k,rfl,hk,rfl,rfl⟩
 dsimp only
 rintro _ rfl
 refine Br.intro (fun e1=>?_) fun e1=>?_
 ·have e1:k<N:=by have e1:(k:Int)<N:=of_decide_eq_true e1; omega
  have hp:Zh n (k:Int)=true:=Zcd (by omega)
  obtain ⟨lk,lk2⟩:=Zps n k
  refine ⟨⟨rfl,rfl⟩,rfl,fun x y=>∃ j:Nat,x.1=j∧j≤4∧x.2.1=(Z31 n k (Z2s n k) j).1∧y.1=(Z31 n k (Z2s n k) j).2,fun x _=>4 - x.1.toNat,⟨0,rfl,by omega,rfl,rfl⟩,?_⟩
  rintro ⟨_,_,⟨⟩⟩ ⟨_,⟨⟩⟩ ⟨j,rfl,hj,rfl,rfl⟩
  dsimp only
  obtain ⟨lj,lj2⟩:=Zpr n k (Z2s n k) j
  rintro _ rfl
  refine Br.intro (fun e2=>?_) fun e2=>?_
  ·have e2:j<4:=by have e2:(j:Int)<4:=of_decide_eq_true e2; omega
   have ok:Zn n k j=true:=Zy.2 ⟨hp,by omega,by omega⟩
   obtain ⟨b1,b2,b3,b4,b5⟩:=Z43 ok
   obtain ⟨d0,d1⟩:=Z21 b1
   refine ⟨⟨h,i6 (by omega) (by omega),i6 (by omega) (by omega)⟩,?_⟩
   rintro _ rfl
   rw [Z26 e2 (by omega)]
   have hst:Z31 n k (Z2s n k) (j+1)=Z99 n k j (Z31 n k (Z2s n k) j):=rfl
   rintro _ rfl
   refine Br.intro (fun g=>?_) fun g=>?_
   ·have g:(Z3 n k j).1 > k:=of_decide_eq_true g
    have w1:i64.wrap (i64.wrap (4*(k:Int))+j)=4*(k:Int)+j:=by rw [wi (x:=4*(k:Int)) ⟨by omega,by omega⟩,wi ⟨by omega,by omega⟩]
    have w2:i64.wrap (i64.wrap (4*(Z1k n k j).1)+(Z1k n k j).2.1)=4*(Z3 n k j).1+(Z3 n k j).2:=by
     show i64.wrap (i64.wrap (4*(Z3 n k j).1)+(Z3 n k j).2)=_
     rw [wi (x:=4*(Z3 n k j).1) ⟨by omega,by omega⟩,wi ⟨by omega,by omega⟩]
    rw [w1,w2]
    have hE:Z99 n k j (Z31 n k (Z2s n k) j)=((Z31 n k (Z2s n k) j).1++[((k:Int),(j:Int),(Z3 n k j).1,(Z3 n k j).2)],((Z31 n k (Z2s n k) j).2.set (4*(k:Int)+j).toNat (Z31 n k (Z2s n k) j).1.length).set (4*(Z3 n k j).1+(Z3 n k j).2).toNat (Z31 n k (Z2s n k) j).1.length):=if_pos g
    refine ⟨⟨by omega,by omega⟩,⟨by omega,by omega⟩,⟨rfl,by omega⟩,⟨rfl,by rw [List.length_append]; rfl⟩,rfl,⟨j+1,rfl,by omega,?_,?_⟩,by omega⟩
    ·rw [hst,hE]; rfl
    ·rw [hst,hE,Nat.zero_add,Nat.zero_add]
   ·have g:¬ (Z3 n k j).1 > k:=of_decide_eq_false g
    have hE:Z99 n k j (Z31 n k (Z2s n k) j)=Z31 n k (Z2s n k) j:=if_neg g
    exact ⟨⟨rfl,rfl⟩,rfl,⟨j+1,rfl,by omega,by rw [hst,hE],by rw [hst,hE]⟩,by omega⟩
  ·have e2:j=4:=by have e2:¬ (j:Int)<4:=of_decide_eq_false e2; omega
   subst e2
   rw [Z26 e1 (by omega)]
   exact ⟨⟨rfl,rfl⟩,rfl,⟨k+1,rfl,by omega,rfl,rfl⟩,by omega⟩
 have e1:k=N:=by have e1:¬ (k:Int)<N:=of_decide_eq_false e1; omega
 subst e1
 obtain ⟨_,l2⟩:=Zps n k
 rw [hnew]
 unfold Z6z Z9a
 rw [hN,List.drop_zero,List.drop_zero,List.take_length,List.take_of_length_le (by rw [l2,hc]; exact Nat.le_refl _)]
def Z57:=fun (post:Int × Unit→Prop)=>post ((0:Int),())
theorem Zmm  (w:KS.wf [.ptr Z2h] (none,())):Z57   (fun r=>r=Z7o none):=by
 exact rfl
def Z58:=fun (g:Int × List (Int × Int × Int × Int) × List Int) (post:Int × Unit→Prop)=>∃ (h:some g≠none),post (g.fst,())
theorem Zmn (g:Int × (List (Int × Int × Int × Int)) × List Int) (w:KS.wf [.ptr Z2h] ((some g),())):Z58  g (fun r=>r=Z7o (some g)):=by
 exact ⟨by simp,rfl⟩
def Z4j:=fun (post:Int × Unit→Prop)=>∃ (h:True),∃ (h:I64 (Z7o none).fst),post ((Z11 (Z7o none).fst).fst,())
theorem Zku  (h:Zrr none) (w:KS.wf [.ptr Z2h] (none,())):Z4j   (fun r=>r=Zjr none):=by
 exact ⟨trivial,⟨by decide,by decide⟩,rfl⟩
def Z4k:=fun (g:Int × List (Int × Int × Int × Int) × List Int) (post:Int × Unit→Prop)=>∃ (h:True),∃ (h:I64 (Z7o (some g)).fst),post
 ((Z11 (Z7o (some g)).fst).fst,())
theorem Zkv (g:Int × (List (Int × Int × Int × Int)) × List Int) (h:Zrr (some g)) (w:KS.wf [.ptr Z2h] ((some g),())):Z4k  g (fun r=>r=Zjr (some g)):=by
 rcases h with hg | ⟨n,gn,hg⟩
 ·cases hg
 ·obtain rfl:=Option.some.inj hg
  obtain ⟨n1,n2⟩:=Z1r.1 gn
  exact ⟨trivial,⟨by show _≤n; omega,by show n<_; omega⟩,rfl⟩
end Go.Lift

namespace Go.Lift
def Zb7:=fun (a:Int) (post:Int × Unit→Prop)=>∀ (a_1:Bool),a_1=decide (a<(1:Int))→Br a_1 (post ((0:Int),())) (∀ (a_2:Bool),a_2=decide (a > (32
 : Int))→Br a_2 (post ((0:Int),())) (post (i64.wrap (i64.wrap ((6:Int)*a)*a),())))
theorem Z131 (a:Int) (h:I64 a):Zb7  a (fun r=>r=Z11 a):=by
 rintro _ rfl
 refine Br.intro (fun e=>?_) fun e=>?_
 ·have e:=of_decide_eq_true e
  exact congrArg r1 (Z69 (Ztn.2 (.inl e))).symm
 have e:=of_decide_eq_false e
 rintro _ rfl
 refine Br.intro (fun f=>?_) fun f=>?_
 ·have f:=of_decide_eq_true f
  exact congrArg r1 (Z69 (Ztn.2 (.inr f))).symm
 ·have f:=of_decide_eq_false f
  exact congrArg r1 (Zxv (Z1r.2 ⟨by omega,by omega⟩))
def Zb8:=fun (n c:Int) (post:Int × Int × Int × Bool × Unit→Prop)=>∀ (a:Bool),a=decide (c<(0:Int))→Br a (post ((0:Int),(0:Int),(0:Int),
 false,())) (∃ (h:I64 n),∀ (a:Bool),a=decide (c≥(Z11 n).fst)→Br a (post ((0:Int),(0:Int),(0:Int),false,())) (∃ (h:i64.wrap (n*n) ≠
 (0:Int)),∃ (h:n≠(0:Int)),∃ (h:n≠(0:Int)),∃ (h:n≠(0:Int)),post (i64.wrap (c.tdiv (i64.wrap (n*n))),c.tmod n,(i64.wrap (c.tdiv
 n)).tmod n,true,())))
theorem Z132 (n:Int) (c:Int) (h:II n c):Zb8  n c (fun r=>r=Z2 n c):=by
 have bad:Zh n c=false→((0:Int),(0:Int),(0:Int),false,())=Z2 n c:=by
  intro e; unfold Z2; rw [if_neg (by rw [e]; decide)]
 rintro _ rfl
 refine Br.intro (fun e=>?_) fun e=>?_
 ·have e:=of_decide_eq_true e
  exact bad (by unfold Zh; rw [decide_eq_false (by omega),Bool.false_and])
 ·have e:=of_decide_eq_false e
  refine ⟨h.1,?_⟩
  rintro _ rfl
  refine Br.intro (fun f=>?_) fun f=>?_
  ·have f:Zb n≤c:=of_decide_eq_true f
   exact bad (by unfold Zh; rw [decide_eq_false (p:=c<Zb n) (by omega),Bool.and_false])
  ·have f:¬ c≥Zb n:=of_decide_eq_false f
   have ok:Zh n c=true:=by unfold Zh; rw [decide_eq_true (by omega),decide_eq_true (by omega)]; rfl
   obtain ⟨h1,h2,h3,h4,h5,h6⟩:=Z41 ok
   obtain ⟨r1,r2,r3,r4,r5,r6⟩:=Zhg ok
   have w1:i64.wrap (n*n)=n*n:=wi ⟨by omega,by omega⟩
   have d1:c.tdiv (n*n)=c / (n*n):=Int.tdiv_eq_ediv_of_nonneg h3
   have d2:c.tdiv n=c / n:=Int.tdiv_eq_ediv_of_nonneg h3
   have d3:0≤c / n∧c / n≤c:=⟨Int.ediv_nonneg h3 (by omega),Int.ediv_le_self _ h3⟩
   have w2:i64.wrap (c / n)=c / n:=wi ⟨by omega,by have:=h.2; unfold I64 at this; omega⟩
   have w3:i64.wrap (c / (n*n))=c / (n*n):=wi ⟨by omega,by omega⟩
   refine ⟨by rw [w1]; omega,by omega,by omega,by omega,?_⟩
   rw [w1,d1,w3,d2,w2,Int.tmod_eq_emod_of_nonneg h3,Int.tmod_eq_emod_of_nonneg d3.1]
   unfold Z2; rw [if_pos ok]
end Go.Lift

namespace Go.Lift
open Go.Proofs
def Z32:Con:=.det [.int .i64] [.snap (.int .i64)] (fun x=>I64 x.1) (fun x=>Z11 x.1)
def Zib:Cx:=⟨Zf Zi,Zg [],RbG⟩
theorem Zqq:CxOk Tryz.prog Zib:=⟨Z4 Z7,fun f c h=>by cases h⟩
theorem Zvk:FnAt Tryz.prog 63 Tryz.f63.ntmps Tryz.f63.results.toList (Tryz.f63.body.getD .skip):=⟨Tryz.f63,Tryz.func63,rfl,rfl,by simp,by decide⟩
theorem Zvl (a:Int) (post:Int × Unit→Prop):Za Zib nHn Tryz.f63.ntmps Tryz.f63.results.toList (Tryz.f63.body.getD .skip) [.int .i64] [.snap (.int .i64)] (a,()) post=Zb7  a post:=by kernel_rfl
theorem Z3z:Z32.holds Tryz.prog RbG 63 :=
 detP Zqq Z8 nHn Zvk (F:=fun x post=>Zb7  x.1 post) (fun x post=>Zvl x.1 post) fun x h _=>Z131  x.1 h
def Z9r:Con:=.det [.int .i64,.int .i64] [.snap (.int .i64),.snap (.int .i64),.snap (.int .i64),.snap .bool] (fun x=>II x.1 x.2.1) (fun x=>Z2 x.1 x.2.1)
def Zic:Cx:=⟨Zf Zi,Zg [(63,Z32)],RbG⟩
theorem Zqr:CxOk Tryz.prog Zic:=⟨Z4 Z7,Z6 ⟨Z3z,trivial⟩⟩
theorem Zvm:FnAt Tryz.prog 130 Tryz.f130.ntmps Tryz.f130.results.toList (Tryz.f130.body.getD .skip):=⟨Tryz.f130,Tryz.func130,rfl,rfl,by simp,by decide⟩
theorem Zvn (n:Int) (c:Int) (post:Int × Int × Int × Bool × Unit→Prop):Za Zic nHn Tryz.f130.ntmps Tryz.f130.results.toList (Tryz.f130.body.getD .skip) [.int .i64,.int .i64] [.snap (.int .i64),.snap (.int .i64),.snap (.int .i64),.snap .bool] (n,c,()) post=Zb8  n c post:=by kernel_rfl
theorem Zid:Z9r.holds Tryz.prog RbG 130 :=
 detP Zqr Z8 nHn Zvm (F:=fun x post=>Zb8  x.1 x.2.1 post) (fun x post=>Zvn x.1 x.2.1 post) fun x h _=>Z132  x.1 x.2.1 h
end Go.Lift
