/- A part of the proof of RiverKeepsCard: an own lifter of code into plain terms, and plain laws. -/
import Derived.Test.YtplhligfkbgllaaGreatDoorPtD
set_option linter.unusedVariables false
set_option linter.unusedSimpArgs false
set_option linter.unusedSectionVars false
open Go.IntKind (i64 u64 u32 u8)
open Go.FloatKind (f64 f32)
namespace Go.Lift
def Zbj:=fun (a b:Int) (post:Nat × Unit→Prop)=>∀ (a_1:Nat),FRes f64 (f64.format.div (f64.nearest a)
 (f64.nearest b)) a_1→post (a_1,())
theorem Zzw (a:Int) (b:Int) (h:Zdp a b):Zbj  a b (fun r=>r=Z2t a b):=by
 intro r hr
 exact congrArg r1 (Z15k h.1 h.2.1 h.2.2 hr)
def Zbk:=fun (ty72 ty98:Nat) (f:Int) (s t:Nat) (post:(Nat × Nat × Nat) × Unit→Prop)=>∃ (post_1:Unit→List Nat × Unit→Prop),(∃ (h:(0:Int)≤(0 :
 Int)∧(0:Int)<(↑(3:Nat):Int)),∃ (h:(0:Int)≤f∧f<(↑(6:Nat):Int)),∃ (h:(0:Int)≤(0:Int)∧(0:Int)<(↑(3:Nat):Int)),∃ (h:(0:Int)≤(0 :
 Int)∧(0:Int)<(↑(3:Nat):Int)),Br (List.getD (List.getD (Zv.getD f.toNat (K.arr (3:Nat) (K.arr (3:Nat) (K.int i64))).dflt) (Int.toNat (0:Int)) (K.arr
 (3:Nat) (K.int i64)).dflt) (Int.toNat (0:Int)) (0:Int)==(1:Int)) (∃ (h:True),∃ (h:(0:Int)≤(0:Int)∧(0:Int)<(↑(3:Nat):Int)∧(3:Nat) ≤
 (List.replicate (3:Nat) (0:Nat)).length),HIs [HObj.box Md.rw ty72 [SV.val (Go.Value.float f64 (0:Nat)),SV.val (Go.Value.float f64 (0:Nat)),
 SV.val (Go.Value.float f64 (0:Nat))],HObj.row Md.rw ty98 (K.flt f64) ((List.replicate (3:Nat) (0:Nat)).set (Int.toNat (0:Int)) (Zy
 ([(4607182418800017408:Nat),s,t].getD (Int.toNat (0:Int)) (0:Nat))).fst)] [HObj.box Md.rw ty72 [SV.val (Go.Value.float f64 (0:Nat)),SV.val (Go.Value.float
 f64 (0:Nat)),SV.val (Go.Value.float f64 (0:Nat))],HObj.row Md.rw ty98 (K.flt f64) ((List.replicate (3:Nat) (0:Nat)).set (Int.toNat
 (0:Int)) (Zy ([(4607182418800017408:Nat),s,t].getD (Int.toNat (0:Int)) (0:Nat))).fst)]∧post_1 () ((List.replicate (3:Nat) (0:Nat)).set (Int.toNat (0:Int))
 (Zy ([(4607182418800017408:Nat),s,t].getD (Int.toNat (0:Int)) (0:Nat))).fst,())) (Br (List.getD (List.getD (Zv.getD f.toNat (K.arr (3:Nat) (K.arr (3:Nat)
 (K.int i64))).dflt) (Int.toNat (0:Int)) (K.arr (3:Nat) (K.int i64)).dflt) (Int.toNat (0:Int)) (0:Int)==(-1:Int)) (∃ (h:True),∃ (h:(0:Int)≤(0 :
 Int)∧(0:Int)<(↑(3:Nat):Int)∧(3:Nat)≤(List.replicate (3:Nat) (0:Nat)).length),HIs [HObj.box Md.rw ty72 [SV.val (Go.Value.float f64 (0:Nat)),
 SV.val (Go.Value.float f64 (0:Nat)),SV.val (Go.Value.float f64 (0:Nat))],HObj.row Md.rw ty98 (K.flt f64) ((List.replicate (3:Nat) (0
 : Nat)).set (Int.toNat (0:Int)) (Zy (Go.Op.negFloat f64 ([(4607182418800017408:Nat),s,t].getD (Int.toNat (0:Int)) (0:Nat)))).fst)] [HObj.box Md.rw ty72
 [SV.val (Go.Value.float f64 (0:Nat)),SV.val (Go.Value.float f64 (0:Nat)),SV.val (Go.Value.float f64 (0:Nat))],HObj.row Md.rw ty98
 (K.flt f64) ((List.replicate (3:Nat) (0:Nat)).set (Int.toNat (0:Int)) (Zy (Go.Op.negFloat f64 ([(4607182418800017408:Nat),s,t].getD
 (Int.toNat (0:Int)) (0:Nat)))).fst)]∧post_1 () ((List.replicate (3:Nat) (0:Nat)).set (Int.toNat (0:Int)) (Zy (Go.Op.negFloat f64
 ([(4607182418800017408:Nat),s,t].getD (Int.toNat (0:Int)) (0:Nat)))).fst,())) (HIs [HObj.box Md.rw ty72 [SV.val (Go.Value.float f64 (0:Nat)),SV.val
 (Go.Value.float f64 (0:Nat)),SV.val (Go.Value.float f64 (0:Nat))],HObj.row Md.rw ty98 (K.flt f64) (List.replicate (3:Nat) (0 :
 Nat))] [HObj.box Md.rw ty72 [SV.val (Go.Value.float f64 (0:Nat)),SV.val (Go.Value.float f64 (0:Nat)),SV.val (Go.Value.float f64 (0 :
 Nat))],HObj.row Md.rw ty98 (K.flt f64) (List.replicate (3:Nat) (0:Nat))]∧post_1 () (List.replicate (3:Nat) (0:Nat),()))))∧∀ (x:Unit) (y:List Nat ×
 Unit),post_1 x y→∃ (post_2:Unit→List Nat × Unit→Prop),(∃ (h:(0:Int)≤i64.wrap ((0:Int)+(1:Int))∧i64.wrap ((0:Int)+(1:Int))<(↑(3 :
 Nat):Int)),∃ (h:(0:Int)≤f∧f<(↑(6:Nat):Int)),∃ (h:(0:Int)≤i64.wrap ((0:Int)+(1:Int))∧i64.wrap ((0:Int)+(1:Int))<(↑(3:Nat)
 : Int)),∃ (h:(0:Int)≤(0:Int)∧(0:Int)<(↑(3:Nat):Int)),Br (List.getD (List.getD (Zv.getD f.toNat (K.arr (3:Nat) (K.arr (3:Nat) (K.int
 i64))).dflt) (i64.wrap ((0:Int)+(1:Int))).toNat (K.arr (3:Nat) (K.int i64)).dflt) (Int.toNat (0:Int)) (0:Int)==(1:Int)) (∃ (h:True),∃ (h
 : (0:Int)≤(0:Int)∧(0:Int)<(↑(3:Nat):Int)∧(3:Nat)≤y.fst.length),HIs [HObj.box Md.rw ty72 [SV.val (Go.Value.float f64 (0:Nat)),SV.val
 (Go.Value.float f64 (0:Nat)),SV.val (Go.Value.float f64 (0:Nat))],HObj.row Md.rw ty98 (K.flt f64) (y.fst.set (Int.toNat (0:Int))
 (Zy ([(4607182418800017408:Nat),s,t].getD (i64.wrap ((0:Int)+(1:Int))).toNat (0:Nat))).fst)] [HObj.box Md.rw ty72 [SV.val (Go.Value.float f64
 (0:Nat)),SV.val (Go.Value.float f64 (0:Nat)),SV.val (Go.Value.float f64 (0:Nat))],HObj.row Md.rw ty98 (K.flt f64) (y.fst.set
 (Int.toNat (0:Int)) (Zy ([(4607182418800017408:Nat),s,t].getD (i64.wrap ((0:Int)+(1:Int))).toNat (0:Nat))).fst)]∧post_2 () (y.fst.set (Int.toNat (0 :
 Int)) (Zy ([(4607182418800017408:Nat),s,t].getD (i64.wrap ((0:Int)+(1:Int))).toNat (0:Nat))).fst,())) (Br (List.getD (List.getD (Zv.getD f.toNat
 (K.arr (3:Nat) (K.arr (3:Nat) (K.int i64))).dflt) (i64.wrap ((0:Int)+(1:Int))).toNat (K.arr (3:Nat) (K.int i64)).dflt) (Int.toNat (0:Int)) (0
 : Int)==(-1:Int)) (∃ (h:True),∃ (h:(0:Int)≤(0:Int)∧(0:Int)<(↑(3:Nat):Int)∧(3:Nat)≤y.fst.length),HIs [HObj.box Md.rw ty72 [SV.val (Go.Value.float
 f64 (0:Nat)),SV.val (Go.Value.float f64 (0:Nat)),SV.val (Go.Value.float f64 (0:Nat))],HObj.row Md.rw ty98 (K.flt f64)
 (y.fst.set (Int.toNat (0:Int)) (Zy (Go.Op.negFloat f64 ([(4607182418800017408:Nat),s,t].getD (i64.wrap ((0:Int)+(1:Int))).toNat (0 :
 Nat)))).fst)] [HObj.box Md.rw ty72 [SV.val (Go.Value.float f64 (0:Nat)),SV.val (Go.Value.float f64 (0:Nat)),SV.val (Go.Value.float f64
 (0:Nat))],HObj.row Md.rw ty98 (K.flt f64) (y.fst.set (Int.toNat (0:Int)) (Zy (Go.Op.negFloat f64 ([(4607182418800017408:Nat),s,t].getD
 (i64.wrap ((0:Int)+(1:Int))).toNat (0:Nat)))).fst)]∧post_2 () (y.fst.set (Int.toNat (0:Int)) (Zy (Go.Op.negFloat f64 ([(4607182418800017408 :
 Nat),s,t].getD (i64.wrap ((0:Int)+(1:Int))).toNat (0:Nat)))).fst,())) (HIs [HObj.box Md.rw ty72 [SV.val (Go.Value.float f64 (0:Nat)),SV.val
 (Go.Value.float f64 (0:Nat)),SV.val (Go.Value.float f64 (0:Nat))],HObj.row Md.rw ty98 (K.flt f64) y.fst] [HObj.box Md.rw ty72 [SV.val
 (Go.Value.float f64 (0:Nat)),SV.val (Go.Value.float f64 (0:Nat)),SV.val (Go.Value.float f64 (0:Nat))],HObj.row Md.rw ty98 (K.flt
 f64) y.fst]∧post_2 () (y.fst,()))))∧∀ (x:Unit) (y:List Nat × Unit),post_2 x y→∃ (post_3:Unit→List Nat × Unit→Prop),(∃ (h:(0:Int) ≤
 i64.wrap (i64.wrap ((0:Int)+(1:Int))+(1:Int))∧i64.wrap (i64.wrap ((0:Int)+(1:Int))+(1:Int))<(↑(3:Nat):Int)),∃ (h:(0
 : Int)≤f∧f<(↑(6:Nat):Int)),∃ (h:(0:Int)≤i64.wrap (i64.wrap ((0:Int)+(1:Int))+(1:Int))∧i64.wrap (i64.wrap ((0:Int) +
 (1:Int))+(1:Int))<(↑(3:Nat):Int)),∃ (h:(0:Int)≤(0:Int)∧(0:Int)<(↑(3:Nat):Int)),Br (List.getD (List.getD (Zv.getD f.toNat (K.arr (3:Nat)
 (K.arr (3:Nat) (K.int i64))).dflt) (i64.wrap (i64.wrap ((0:Int)+(1:Int))+(1:Int))).toNat (K.arr (3:Nat) (K.int i64)).dflt) (Int.toNat
 (0:Int)) (0:Int)==(1:Int)) (∃ (h:True),∃ (h:(0:Int)≤(0:Int)∧(0:Int)<(↑(3:Nat):Int)∧(3:Nat)≤y.fst.length),HIs [HObj.box Md.rw ty72 [SV.val
 (Go.Value.float f64 (0:Nat)),SV.val (Go.Value.float f64 (0:Nat)),SV.val (Go.Value.float f64 (0:Nat))],HObj.row Md.rw ty98 (K.flt
 f64) (y.fst.set (Int.toNat (0:Int)) (Zy ([(4607182418800017408:Nat),s,t].getD (i64.wrap (i64.wrap ((0:Int)+(1:Int))+(1 :
 Int))).toNat (0:Nat))).fst)] [HObj.box Md.rw ty72 [SV.val (Go.Value.float f64 (0:Nat)),SV.val (Go.Value.float f64 (0:Nat)),SV.val (Go.Value.float
 f64 (0:Nat))],HObj.row Md.rw ty98 (K.flt f64) (y.fst.set (Int.toNat (0:Int)) (Zy ([(4607182418800017408:Nat),s,t].getD (i64.wrap
 (i64.wrap ((0:Int)+(1:Int))+(1:Int))).toNat (0:Nat))).fst)]∧post_3 () (y.fst.set (Int.toNat (0:Int)) (Zy ([(4607182418800017408:Nat),s,t].getD
 (i64.wrap (i64.wrap ((0:Int)+(1:Int))+(1:Int))).toNat (0:Nat))).fst,())) (Br (List.getD (List.getD (Zv.getD f.toNat (K.arr (3:Nat) (K.arr (3 :
 Nat) (K.int i64))).dflt) (i64.wrap (i64.wrap ((0:Int)+(1:Int))+(1:Int))).toNat (K.arr (3:Nat) (K.int i64)).dflt) (Int.toNat (0:Int))
 (0:Int)==(-1:Int)) (∃ (h:True),∃ (h:(0:Int)≤(0:Int)∧(0:Int)<(↑(3:Nat):Int)∧(3:Nat)≤y.fst.length),HIs [HObj.box Md.rw ty72 [SV.val (Go.Value.float
 f64 (0:Nat)),SV.val (Go.Value.float f64 (0:Nat)),SV.val (Go.Value.float f64 (0:Nat))],HObj.row Md.rw ty98 (K.flt f64)
 (y.fst.set (Int.toNat (0:Int)) (Zy (Go.Op.negFloat f64 ([(4607182418800017408:Nat),s,t].getD (i64.wrap (i64.wrap ((0:Int)+(1:Int)) +
 (1:Int))).toNat (0:Nat)))).fst)] [HObj.box Md.rw ty72 [SV.val (Go.Value.float f64 (0:Nat)),SV.val (Go.Value.float f64 (0:Nat)),SV.val
 (Go.Value.float f64 (0:Nat))],HObj.row Md.rw ty98 (K.flt f64) (y.fst.set (Int.toNat (0:Int)) (Zy (Go.Op.negFloat f64
 ([(4607182418800017408:Nat),s,t].getD (i64.wrap (i64.wrap ((0:Int)+(1:Int))+(1:Int))).toNat (0:Nat)))).fst)]∧post_3 () (y.fst.set (Int.toNat (0 :
 Int)) (Zy (Go.Op.negFloat f64 ([(4607182418800017408:Nat),s,t].getD (i64.wrap (i64.wrap ((0:Int)+(1:Int))+(1:Int))).toNat (0 :
 Nat)))).fst,())) (HIs [HObj.box Md.rw ty72 [SV.val (Go.Value.float f64 (0:Nat)),SV.val (Go.Value.float f64 (0:Nat)),SV.val (Go.Value.float
 f64 (0:Nat))],HObj.row Md.rw ty98 (K.flt f64) y.fst] [HObj.box Md.rw ty72 [SV.val (Go.Value.float f64 (0:Nat)),SV.val (Go.Value.float
 f64 (0:Nat)),SV.val (Go.Value.float f64 (0:Nat))],HObj.row Md.rw ty98 (K.flt f64) y.fst]∧post_3 () (y.fst,()))))∧∀ (x:Unit) (y
 : List Nat × Unit),post_3 x y→∃ (post_4:Unit→List Nat × Unit→Prop),(∃ (h:(0:Int)≤(0:Int)∧(0:Int)<(↑(3:Nat):Int)),∃ (h:(0:Int)≤f∧f<(↑(6 :
 Nat):Int)),∃ (h:(0:Int)≤(0:Int)∧(0:Int)<(↑(3:Nat):Int)),∃ (h:(0:Int)≤i64.wrap ((0:Int)+(1:Int))∧i64.wrap ((0:Int)+(1 :
 Int))<(↑(3:Nat):Int)),Br (List.getD (List.getD (Zv.getD f.toNat (K.arr (3:Nat) (K.arr (3:Nat) (K.int i64))).dflt) (Int.toNat (0:Int)) (K.arr (3:Nat)
 (K.int i64)).dflt) (i64.wrap ((0:Int)+(1:Int))).toNat (0:Int)==(1:Int)) (∃ (h:True),∃ (h:(0:Int)≤i64.wrap ((0:Int)+(1:Int)) ∧
 i64.wrap ((0:Int)+(1:Int))<(↑(3:Nat):Int)∧(3:Nat)≤y.fst.length),HIs [HObj.box Md.rw ty72 [SV.val (Go.Value.float f64 (0:Nat)),SV.val
 (Go.Value.float f64 (0:Nat)),SV.val (Go.Value.float f64 (0:Nat))],HObj.row Md.rw ty98 (K.flt f64) (y.fst.set (i64.wrap ((0 :
 Int)+(1:Int))).toNat (Zy ([(4607182418800017408:Nat),s,t].getD (Int.toNat (0:Int)) (0:Nat))).fst)] [HObj.box Md.rw ty72 [SV.val (Go.Value.float f64 (0
 : Nat)),SV.val (Go.Value.float f64 (0:Nat)),SV.val (Go.Value.float f64 (0:Nat))],HObj.row Md.rw ty98 (K.flt f64) (y.fst.set
 (i64.wrap ((0:Int)+(1:Int))).toNat (Zy ([(4607182418800017408:Nat),s,t].getD (Int.toNat (0:Int)) (0:Nat))).fst)]∧post_4 () (y.fst.set (i64.wrap
 ((0:Int)+(1:Int))).toNat (Zy ([(4607182418800017408:Nat),s,t].getD (Int.toNat (0:Int)) (0:Nat))).fst,())) (Br (List.getD (List.getD (Zv.getD f.toNat (K.arr
 (3:Nat) (K.arr (3:Nat) (K.int i64))).dflt) (Int.toNat (0:Int)) (K.arr (3:Nat) (K.int i64)).dflt) (i64.wrap ((0:Int)+(1:Int))).toNat (0:Int)
 == (-1:Int)) (∃ (h:True),∃ (h:(0:Int)≤i64.wrap ((0:Int)+(1:Int))∧i64.wrap ((0:Int)+(1:Int))<(↑(3:Nat):Int)∧(3:Nat) ≤
 y.fst.length),HIs [HObj.box Md.rw ty72 [SV.val (Go.Value.float f64 (0:Nat)),SV.val (Go.Value.float f64 (0:Nat)),SV.val (Go.Value.float
 f64 (0:Nat))],HObj.row Md.rw ty98 (K.flt f64) (y.fst.set (i64.wrap ((0:Int)+(1:Int))).toNat (Zy (Go.Op.negFloat f64
 ([(4607182418800017408:Nat),s,t].getD (Int.toNat (0:Int)) (0:Nat)))).fst)] [HObj.box Md.rw ty72 [SV.val (Go.Value.float f64 (0:Nat)),SV.val (Go.Value.float
 f64 (0:Nat)),SV.val (Go.Value.float f64 (0:Nat))],HObj.row Md.rw ty98 (K.flt f64) (y.fst.set (i64.wrap ((0:Int)+(1 :
 Int))).toNat (Zy (Go.Op.negFloat f64 ([(4607182418800017408:Nat),s,t].getD (Int.toNat (0:Int)) (0:Nat)))).fst)]∧post_4 () (y.fst.set (i64.wrap
 ((0:Int)+(1:Int))).toNat (Zy (Go.Op.negFloat f64 ([(4607182418800017408:Nat),s,t].getD (Int.toNat (0:Int)) (0:Nat)))).fst,())) (HIs [HObj.box Md.rw
 ty72 [SV.val (Go.Value.float f64 (0:Nat)),SV.val (Go.Value.float f64 (0:Nat)),SV.val (Go.Value.float f64 (0:Nat))],HObj.row Md.rw
 ty98 (K.flt f64) y.fst] [HObj.box Md.rw ty72 [SV.val (Go.Value.float f64 (0:Nat)),SV.val (Go.Value.float f64 (0:Nat)),SV.val
 (Go.Value.float f64 (0:Nat))],HObj.row Md.rw ty98 (K.flt f64) y.fst]∧post_4 () (y.fst,()))))∧∀ (x:Unit) (y:List Nat × Unit),post_4 x y→∃
 (post_5:Unit→List Nat × Unit→Prop),(∃ (h:(0:Int)≤i64.wrap ((0:Int)+(1:Int))∧i64.wrap ((0:Int)+(1:Int))<(↑(3:Nat):Int)),∃ (h:(0
 : Int)≤f∧f<(↑(6:Nat):Int)),∃ (h:(0:Int)≤i64.wrap ((0:Int)+(1:Int))∧i64.wrap ((0:Int)+(1:Int))<(↑(3:Nat):Int)),∃ (h:(0 :
 Int)≤i64.wrap ((0:Int)+(1:Int))∧i64.wrap ((0:Int)+(1:Int))<(↑(3:Nat):Int)),Br (List.getD (List.getD (Zv.getD f.toNat (K.arr (3:Nat)
 (K.arr (3:Nat) (K.int i64))).dflt) (i64.wrap ((0:Int)+(1:Int))).toNat (K.arr (3:Nat) (K.int i64)).dflt) (i64.wrap ((0:Int)+(1 :
 Int))).toNat (0:Int)==(1:Int)) (∃ (h:True),∃ (h:(0:Int)≤i64.wrap ((0:Int)+(1:Int))∧i64.wrap ((0:Int)+(1:Int))<(↑(3:Nat):Int) ∧
 (3:Nat)≤y.fst.length),HIs [HObj.box Md.rw ty72 [SV.val (Go.Value.float f64 (0:Nat)),SV.val (Go.Value.float f64 (0:Nat)),SV.val (Go.Value.float
 f64 (0:Nat))],HObj.row Md.rw ty98 (K.flt f64) (y.fst.set (i64.wrap ((0:Int)+(1:Int))).toNat (Zy ([(4607182418800017408:Nat),s,
 t].getD (i64.wrap ((0:Int)+(1:Int))).toNat (0:Nat))).fst)] [HObj.box Md.rw ty72 [SV.val (Go.Value.float f64 (0:Nat)),SV.val (Go.Value.float
 f64 (0:Nat)),SV.val (Go.Value.float f64 (0:Nat))],HObj.row Md.rw ty98 (K.flt f64) (y.fst.set (i64.wrap ((0:Int)+(1 :
 Int))).toNat (Zy ([(4607182418800017408:Nat),s,t].getD (i64.wrap ((0:Int)+(1:Int))).toNat (0:Nat))).fst)]∧post_5 () (y.fst.set (i64.wrap ((0 :
 Int)+(1:Int))).toNat (Zy ([(4607182418800017408:Nat),s,t].getD (i64.wrap ((0:Int)+(1:Int))).toNat (0:Nat))).fst,())) (Br (List.getD (List.getD
 (Zv.getD f.toNat (K.arr (3:Nat) (K.arr (3:Nat) (K.int i64))).dflt) (i64.wrap ((0:Int)+(1:Int))).toNat (K.arr (3:Nat) (K.int i64)).dflt)
 (i64.wrap ((0:Int)+(1:Int))).toNat (0:Int)==(-1:Int)) (∃ (h:True),∃ (h:(0:Int)≤i64.wrap ((0:Int)+(1:Int))∧i64.wrap ((0:Int)
 + (1:Int))<(↑(3:Nat):Int)∧(3:Nat)≤y.fst.length),HIs [HObj.box Md.rw ty72 [SV.val (Go.Value.float f64 (0:Nat)),SV.val (Go.Value.float
 f64 (0:Nat)),SV.val (Go.Value.float f64 (0:Nat))],HObj.row Md.rw ty98 (K.flt f64) (y.fst.set (i64.wrap ((0:Int)+(1 :
 Int))).toNat (Zy (Go.Op.negFloat f64 ([(4607182418800017408:Nat),s,t].getD (i64.wrap ((0:Int)+(1:Int))).toNat (0:Nat)))).fst)] [HObj.box Md.rw
 ty72 [SV.val (Go.Value.float f64 (0:Nat)),SV.val (Go.Value.float f64 (0:Nat)),SV.val (Go.Value.float f64 (0:Nat))],HObj.row Md.rw
 ty98 (K.flt f64) (y.fst.set (i64.wrap ((0:Int)+(1:Int))).toNat (Zy (Go.Op.negFloat f64 ([(4607182418800017408:Nat),s,t].getD
 (i64.wrap ((0:Int)+(1:Int))).toNat (0:Nat)))).fst)]∧post_5 () (y.fst.set (i64.wrap ((0:Int)+(1:Int))).toNat (Zy (Go.Op.negFloat
 f64 ([(4607182418800017408:Nat),s,t].getD (i64.wrap ((0:Int)+(1:Int))).toNat (0:Nat)))).fst,())) (HIs [HObj.box Md.rw ty72 [SV.val
 (Go.Value.float f64 (0:Nat)),SV.val (Go.Value.float f64 (0:Nat)),SV.val (Go.Value.float f64 (0:Nat))],HObj.row Md.rw ty98 (K.flt
 f64) y.fst] [HObj.box Md.rw ty72 [SV.val (Go.Value.float f64 (0:Nat)),SV.val (Go.Value.float f64 (0:Nat)),SV.val (Go.Value.float
 f64 (0:Nat))],HObj.row Md.rw ty98 (K.flt f64) y.fst]∧post_5 () (y.fst,()))))∧∀ (x:Unit) (y:List Nat × Unit),post_5 x y→∃ (post_6:Unit →
 List Nat × Unit→Prop),(∃ (h:(0:Int)≤i64.wrap (i64.wrap ((0:Int)+(1:Int))+(1:Int))∧i64.wrap (i64.wrap ((0:Int)+(1:Int)) +
 (1:Int))<(↑(3:Nat):Int)),∃ (h:(0:Int)≤f∧f<(↑(6:Nat):Int)),∃ (h:(0:Int)≤i64.wrap (i64.wrap ((0:Int)+(1:Int))+(1:Int)) ∧
 i64.wrap (i64.wrap ((0:Int)+(1:Int))+(1:Int))<(↑(3:Nat):Int)),∃ (h:(0:Int)≤i64.wrap ((0:Int)+(1:Int))∧i64.wrap ((0 :
 Int)+(1:Int))<(↑(3:Nat):Int)),Br (List.getD (List.getD (Zv.getD f.toNat (K.arr (3:Nat) (K.arr (3:Nat) (K.int i64))).dflt) (i64.wrap
 (i64.wrap ((0:Int)+(1:Int))+(1:Int))).toNat (K.arr (3:Nat) (K.int i64)).dflt) (i64.wrap ((0:Int)+(1:Int))).toNat (0:Int)==(1:Int))
 (∃ (h:True),∃ (h:(0:Int)≤i64.wrap ((0:Int)+(1:Int))∧i64.wrap ((0:Int)+(1:Int))<(↑(3:Nat):Int)∧(3:Nat)≤y.fst.length),HIs
 [HObj.box Md.rw ty72 [SV.val (Go.Value.float f64 (0:Nat)),SV.val (Go.Value.float f64 (0:Nat)),SV.val (Go.Value.float f64 (0:Nat))],
 HObj.row Md.rw ty98 (K.flt f64) (y.fst.set (i64.wrap ((0:Int)+(1:Int))).toNat (Zy ([(4607182418800017408:Nat),s,t].getD (i64.wrap
 (i64.wrap ((0:Int)+(1:Int))+(1:Int))).toNat (0:Nat))).fst)] [HObj.box Md.rw ty72 [SV.val (Go.Value.float f64 (0:Nat)),SV.val (Go.Value.float
 f64 (0:Nat)),SV.val (Go.Value.float f64 (0:Nat))],HObj.row Md.rw ty98 (K.flt f64) (y.fst.set (i64.wrap ((0:Int)+(1 :
 Int))).toNat (Zy ([(4607182418800017408:Nat),s,t].getD (i64.wrap (i64.wrap ((0:Int)+(1:Int))+(1:Int))).toNat (0:Nat))).fst)]∧post_6 ()
 (y.fst.set (i64.wrap ((0:Int)+(1:Int))).toNat (Zy ([(4607182418800017408:Nat),s,t].getD (i64.wrap (i64.wrap ((0:Int)+(1:Int))+(1 :
 Int))).toNat (0:Nat))).fst,())) (Br (List.getD (List.getD (Zv.getD f.toNat (K.arr (3:Nat) (K.arr (3:Nat) (K.int i64))).dflt) (i64.wrap
 (i64.wrap ((0:Int)+(1:Int))+(1:Int))).toNat (K.arr (3:Nat) (K.int i64)).dflt) (i64.wrap ((0:Int)+(1:Int))).toNat (0:Int)==(-1:Int))
 (∃ (h:True),∃ (h:(0:Int)≤i64.wrap ((0:Int)+(1:Int))∧i64.wrap ((0:Int)+(1:Int))<(↑(3:Nat):Int)∧(3:Nat)≤y.fst.length),HIs
 [HObj.box Md.rw ty72 [SV.val (Go.Value.float f64 (0:Nat)),SV.val (Go.Value.float f64 (0:Nat)),SV.val (Go.Value.float f64 (0:Nat))],
 HObj.row Md.rw ty98 (K.flt f64) (y.fst.set (i64.wrap ((0:Int)+(1:Int))).toNat (Zy (Go.Op.negFloat f64 ([(4607182418800017408:Nat),s,
 t].getD (i64.wrap (i64.wrap ((0:Int)+(1:Int))+(1:Int))).toNat (0:Nat)))).fst)] [HObj.box Md.rw ty72 [SV.val (Go.Value.float f64 (0 :
 Nat)),SV.val (Go.Value.float f64 (0:Nat)),SV.val (Go.Value.float f64 (0:Nat))],HObj.row Md.rw ty98 (K.flt f64) (y.fst.set
 (i64.wrap ((0:Int)+(1:Int))).toNat (Zy (Go.Op.negFloat f64 ([(4607182418800017408:Nat),s,t].getD (i64.wrap (i64.wrap ((0:Int)
 + (1:Int))+(1:Int))).toNat (0:Nat)))).fst)]∧post_6 () (y.fst.set (i64.wrap ((0:Int)+(1:Int))).toNat (Zy (Go.Op.negFloat f64
 ([(4607182418800017408:Nat),s,t].getD (i64.wrap (i64.wrap ((0:Int)+(1:Int))+(1:Int))).toNat (0:Nat)))).fst,())) (HIs [HObj.box Md.rw ty72 [SV.val
 (Go.Value.float f64 (0:Nat)),SV.val (Go.Value.float f64 (0:Nat)),SV.val (Go.Value.float f64 (0:Nat))],HObj.row Md.rw ty98 (K.flt
 f64) y.fst] [HObj.box Md.rw ty72 [SV.val (Go.Value.float f64 (0:Nat)),SV.val (Go.Value.float f64 (0:Nat)),SV.val (Go.Value.float
 f64 (0:Nat))],HObj.row Md.rw ty98 (K.flt f64) y.fst]∧post_6 () (y.fst,()))))∧∀ (x:Unit) (y:List Nat × Unit),post_6 x y→∃ (post_7:Unit →
 List Nat × Unit→Prop),(∃ (h:(0:Int)≤(0:Int)∧(0:Int)<(↑(3:Nat):Int)),∃ (h:(0:Int)≤f∧f<(↑(6:Nat):Int)),∃ (h:(0:Int)≤(0:Int)∧(0:Int)
 < (↑(3:Nat):Int)),∃ (h:(0:Int)≤i64.wrap (i64.wrap ((0:Int)+(1:Int))+(1:Int))∧i64.wrap (i64.wrap ((0:Int)+(1:Int))+(1
 : Int))<(↑(3:Nat):Int)),Br (List.getD (List.getD (Zv.getD f.toNat (K.arr (3:Nat) (K.arr (3:Nat) (K.int i64))).dflt) (Int.toNat (0:Int)) (K.arr (3:Nat)
 (K.int i64)).dflt) (i64.wrap (i64.wrap ((0:Int)+(1:Int))+(1:Int))).toNat (0:Int)==(1:Int)) (∃ (h:True),∃ (h:(0:Int) ≤
 i64.wrap (i64.wrap ((0:Int)+(1:Int))+(1:Int))∧i64.wrap (i64.wrap ((0:Int)+(1:Int))+(1:Int))<(↑(3:Nat):Int)∧(3:Nat)
 ≤ y.fst.length),HIs [HObj.box Md.rw ty72 [SV.val (Go.Value.float f64 (0:Nat)),SV.val (Go.Value.float f64 (0:Nat)),SV.val (Go.Value.float
 f64 (0:Nat))],HObj.row Md.rw ty98 (K.flt f64) (y.fst.set (i64.wrap (i64.wrap ((0:Int)+(1:Int))+(1:Int))).toNat (Zy
 ([(4607182418800017408:Nat),s,t].getD (Int.toNat (0:Int)) (0:Nat))).fst)] [HObj.box Md.rw ty72 [SV.val (Go.Value.float f64 (0:Nat)),SV.val (Go.Value.float
 f64 (0:Nat)),SV.val (Go.Value.float f64 (0:Nat))],HObj.row Md.rw ty98 (K.flt f64) (y.fst.set (i64.wrap (i64.wrap ((0 :
 Int)+(1:Int))+(1:Int))).toNat (Zy ([(4607182418800017408:Nat),s,t].getD (Int.toNat (0:Int)) (0:Nat))).fst)]∧post_7 () (y.fst.set (i64.wrap
 (i64.wrap ((0:Int)+(1:Int))+(1:Int))).toNat (Zy ([(4607182418800017408:Nat),s,t].getD (Int.toNat (0:Int)) (0:Nat))).fst,())) (Br (List.getD
 (List.getD (Zv.getD f.toNat (K.arr (3:Nat) (K.arr (3:Nat) (K.int i64))).dflt) (Int.toNat (0:Int)) (K.arr (3:Nat) (K.int i64)).dflt) (i64.wrap
 (i64.wrap ((0:Int)+(1:Int))+(1:Int))).toNat (0:Int)==(-1:Int)) (∃ (h:True),∃ (h:(0:Int)≤i64.wrap (i64.wrap ((0:Int)+(1:Int))
 + (1:Int))∧i64.wrap (i64.wrap ((0:Int)+(1:Int))+(1:Int))<(↑(3:Nat):Int)∧(3:Nat)≤y.fst.length),HIs [HObj.box Md.rw ty72 [SV.val
 (Go.Value.float f64 (0:Nat)),SV.val (Go.Value.float f64 (0:Nat)),SV.val (Go.Value.float f64 (0:Nat))],HObj.row Md.rw ty98 (K.flt
 f64) (y.fst.set (i64.wrap (i64.wrap ((0:Int)+(1:Int))+(1:Int))).toNat (Zy (Go.Op.negFloat f64 ([(4607182418800017408 :
 Nat),s,t].getD (Int.toNat (0:Int)) (0:Nat)))).fst)] [HObj.box Md.rw ty72 [SV.val (Go.Value.float f64 (0:Nat)),SV.val (Go.Value.float f64 (0 :
 Nat)),SV.val (Go.Value.float f64 (0:Nat))],HObj.row Md.rw ty98 (K.flt f64) (y.fst.set (i64.wrap (i64.wrap ((0:Int)+(1:Int)) +
 (1:Int))).toNat (Zy (Go.Op.negFloat f64 ([(4607182418800017408:Nat),s,t].getD (Int.toNat (0:Int)) (0:Nat)))).fst)]∧post_7 () (y.fst.set
 (i64.wrap (i64.wrap ((0:Int)+(1:Int))+(1:Int))).toNat (Zy (Go.Op.negFloat f64 ([(4607182418800017408:Nat),s,t].getD (Int.toNat (0 :
 Int)) (0:Nat)))).fst,())) (HIs [HObj.box Md.rw ty72 [SV.val (Go.Value.float f64 (0:Nat)),SV.val (Go.Value.float f64 (0:Nat)),SV.val
 (Go.Value.float f64 (0:Nat))],HObj.row Md.rw ty98 (K.flt f64) y.fst] [HObj.box Md.rw ty72 [SV.val (Go.Value.float f64 (0:Nat)),SV.val
 (Go.Value.float f64 (0:Nat)),SV.val (Go.Value.float f64 (0:Nat))],HObj.row Md.rw ty98 (K.flt f64) y.fst]∧post_7 () (y.fst,())))) ∧
 ∀ (x:Unit) (y:List Nat × Unit),post_7 x y→∃ (post_8:Unit→List Nat × Unit→Prop),(∃ (h:(0:Int)≤i64.wrap ((0:Int)+(1:Int))∧i64.wrap ((0 :
 Int)+(1:Int))<(↑(3:Nat):Int)),∃ (h:(0:Int)≤f∧f<(↑(6:Nat):Int)),∃ (h:(0:Int)≤i64.wrap ((0:Int)+(1:Int))∧i64.wrap ((0:Int)
 + (1:Int))<(↑(3:Nat):Int)),∃ (h:(0:Int)≤i64.wrap (i64.wrap ((0:Int)+(1:Int))+(1:Int))∧i64.wrap (i64.wrap ((0:Int)+(1
 : Int))+(1:Int))<(↑(3:Nat):Int)),Br (List.getD (List.getD (Zv.getD f.toNat (K.arr (3:Nat) (K.arr (3:Nat) (K.int i64))).dflt) (i64.wrap ((0 :
 Int)+(1:Int))).toNat (K.arr (3:Nat) (K.int i64)).dflt) (i64.wrap (i64.wrap ((0:Int)+(1:Int))+(1:Int))).toNat (0:Int)==(1:Int)) (∃ (h
 : True),∃ (h:(0:Int)≤i64.wrap (i64.wrap ((0:Int)+(1:Int))+(1:Int))∧i64.wrap (i64.wrap ((0:Int)+(1:Int))+(1:Int)) <
 (↑(3:Nat):Int)∧(3:Nat)≤y.fst.length),HIs [HObj.box Md.rw ty72 [SV.val (Go.Value.float f64 (0:Nat)),SV.val (Go.Value.float f64 (0:Nat)),
 SV.val (Go.Value.float f64 (0:Nat))],HObj.row Md.rw ty98 (K.flt f64) (y.fst.set (i64.wrap (i64.wrap ((0:Int)+(1:Int))+(1 :
 Int))).toNat (Zy ([(4607182418800017408:Nat),s,t].getD (i64.wrap ((0:Int)+(1:Int))).toNat (0:Nat))).fst)] [HObj.box Md.rw ty72 [SV.val (Go.Value.float
 f64 (0:Nat)),SV.val (Go.Value.float f64 (0:Nat)),SV.val (Go.Value.float f64 (0:Nat))],HObj.row Md.rw ty98 (K.flt f64)
 (y.fst.set (i64.wrap (i64.wrap ((0:Int)+(1:Int))+(1:Int))).toNat (Zy ([(4607182418800017408:Nat),s,t].getD (i64.wrap ((0:Int)+(1 :
 Int))).toNat (0:Nat))).fst)]∧post_8 () (y.fst.set (i64.wrap (i64.wrap ((0:Int)+(1:Int))+(1:Int))).toNat (Zy ([(4607182418800017408:Nat),s,
 t].getD (i64.wrap ((0:Int)+(1:Int))).toNat (0:Nat))).fst,())) (Br (List.getD (List.getD (Zv.getD f.toNat (K.arr (3:Nat) (K.arr (3:Nat) (K.int
 i64))).dflt) (i64.wrap ((0:Int)+(1:Int))).toNat (K.arr (3:Nat) (K.int i64)).dflt) (i64.wrap (i64.wrap ((0:Int)+(1:Int))+(1
 : Int))).toNat (0:Int)==(-1:Int)) (∃ (h:True),∃ (h:(0:Int)≤i64.wrap (i64.wrap ((0:Int)+(1:Int))+(1:Int))∧i64.wrap
 (i64.wrap ((0:Int)+(1:Int))+(1:Int))<(↑(3:Nat):Int)∧(3:Nat)≤y.fst.length),HIs [HObj.box Md.rw ty72 [SV.val (Go.Value.float f64 (0 :
 Nat)),SV.val (Go.Value.float f64 (0:Nat)),SV.val (Go.Value.float f64 (0:Nat))],HObj.row Md.rw ty98 (K.flt f64) (y.fst.set
 (i64.wrap (i64.wrap ((0:Int)+(1:Int))+(1:Int))).toNat (Zy (Go.Op.negFloat f64 ([(4607182418800017408:Nat),s,t].getD
 (i64.wrap ((0:Int)+(1:Int))).toNat (0:Nat)))).fst)] [HObj.box Md.rw ty72 [SV.val (Go.Value.float f64 (0:Nat)),SV.val (Go.Value.float
 f64 (0:Nat)),SV.val (Go.Value.float f64 (0:Nat))],HObj.row Md.rw ty98 (K.flt f64) (y.fst.set (i64.wrap (i64.wrap ((0 :
 Int)+(1:Int))+(1:Int))).toNat (Zy (Go.Op.negFloat f64 ([(4607182418800017408:Nat),s,t].getD (i64.wrap ((0:Int)+(1:Int))).toNat (0 :
 Nat)))).fst)]∧post_8 () (y.fst.set (i64.wrap (i64.wrap ((0:Int)+(1:Int))+(1:Int))).toNat (Zy (Go.Op.negFloat f64
 ([(4607182418800017408:Nat),s,t].getD (i64.wrap ((0:Int)+(1:Int))).toNat (0:Nat)))).fst,())) (HIs [HObj.box Md.rw ty72 [SV.val (Go.Value.float
 f64 (0:Nat)),SV.val (Go.Value.float f64 (0:Nat)),SV.val (Go.Value.float f64 (0:Nat))],HObj.row Md.rw ty98 (K.flt f64)
 y.fst] [HObj.box Md.rw ty72 [SV.val (Go.Value.float f64 (0:Nat)),SV.val (Go.Value.float f64 (0:Nat)),SV.val (Go.Value.float f64 (0 :
 Nat))],HObj.row Md.rw ty98 (K.flt f64) y.fst]∧post_8 () (y.fst,()))))∧∀ (x:Unit) (y:List Nat × Unit),post_8 x y→∃ (post_9:Unit→List Nat × Unit →
 Prop),(∃ (h:(0:Int)≤i64.wrap (i64.wrap ((0:Int)+(1:Int))+(1:Int))∧i64.wrap (i64.wrap ((0:Int)+(1:Int))+(1:Int))<(↑(3
 : Nat):Int)),∃ (h:(0:Int)≤f∧f<(↑(6:Nat):Int)),∃ (h:(0:Int)≤i64.wrap (i64.wrap ((0:Int)+(1:Int))+(1:Int))∧i64.wrap
 (i64.wrap ((0:Int)+(1:Int))+(1:Int))<(↑(3:Nat):Int)),∃ (h:(0:Int)≤i64.wrap (i64.wrap ((0:Int)+(1:Int))+(1:Int)) ∧
 i64.wrap (i64.wrap ((0:Int)+(1:Int))+(1:Int))<(↑(3:Nat):Int)),Br (List.getD (List.getD (Zv.getD f.toNat (K.arr (3:Nat) (K.arr (3:Nat)
 (K.int i64))).dflt) (i64.wrap (i64.wrap ((0:Int)+(1:Int))+(1:Int))).toNat (K.arr (3:Nat) (K.int i64)).dflt) (i64.wrap
 (i64.wrap ((0:Int)+(1:Int))+(1:Int))).toNat (0:Int)==(1:Int)) (∃ (h:True),∃ (h:(0:Int)≤i64.wrap (i64.wrap ((0:Int)+(1:Int))
 + (1:Int))∧i64.wrap (i64.wrap ((0:Int)+(1:Int))+(1:Int))<(↑(3:Nat):Int)∧(3:Nat)≤y.fst.length),HIs [HObj.box Md.rw ty72 [SV.val
 (Go.Value.float f64 (0:Nat)),SV.val (Go.Value.float f64 (0:Nat)),SV.val (Go.Value.float f64 (0:Nat))],HObj.row Md.rw ty98 (K.flt
 f64) (y.fst.set (i64.wrap (i64.wrap ((0:Int)+(1:Int))+(1:Int))).toNat (Zy ([(4607182418800017408:Nat),s,t].getD (i64.wrap
 (i64.wrap ((0:Int)+(1:Int))+(1:Int))).toNat (0:Nat))).fst)] [HObj.box Md.rw ty72 [SV.val (Go.Value.float f64 (0:Nat)),SV.val (Go.Value.float
 f64 (0:Nat)),SV.val (Go.Value.float f64 (0:Nat))],HObj.row Md.rw ty98 (K.flt f64) (y.fst.set (i64.wrap (i64.wrap ((0 :
 Int)+(1:Int))+(1:Int))).toNat (Zy ([(4607182418800017408:Nat),s,t].getD (i64.wrap (i64.wrap ((0:Int)+(1:Int))+(1:Int))).toNat (0 :
 Nat))).fst)]∧post_9 () (y.fst.set (i64.wrap (i64.wrap ((0:Int)+(1:Int))+(1:Int))).toNat (Zy ([(4607182418800017408:Nat),s,t].getD
 (i64.wrap (i64.wrap ((0:Int)+(1:Int))+(1:Int))).toNat (0:Nat))).fst,())) (Br (List.getD (List.getD (Zv.getD f.toNat (K.arr (3:Nat) (K.arr (3 :
 Nat) (K.int i64))).dflt) (i64.wrap (i64.wrap ((0:Int)+(1:Int))+(1:Int))).toNat (K.arr (3:Nat) (K.int i64)).dflt) (i64.wrap
 (i64.wrap ((0:Int)+(1:Int))+(1:Int))).toNat (0:Int)==(-1:Int)) (∃ (h:True),∃ (h:(0:Int)≤i64.wrap (i64.wrap ((0:Int)+(1:Int))
 + (1:Int))∧i64.wrap (i64.wrap ((0:Int)+(1:Int))+(1:Int))<(↑(3:Nat):Int)∧(3:Nat)≤y.fst.length),HIs [HObj.box Md.rw ty72 [SV.val
 (Go.Value.float f64 (0:Nat)),SV.val (Go.Value.float f64 (0:Nat)),SV.val (Go.Value.float f64 (0:Nat))],HObj.row Md.rw ty98 (K.flt
 f64) (y.fst.set (i64.wrap (i64.wrap ((0:Int)+(1:Int))+(1:Int))).toNat (Zy (Go.Op.negFloat f64 ([(4607182418800017408 :
 Nat),s,t].getD (i64.wrap (i64.wrap ((0:Int)+(1:Int))+(1:Int))).toNat (0:Nat)))).fst)] [HObj.box Md.rw ty72 [SV.val (Go.Value.float f64
 (0:Nat)),SV.val (Go.Value.float f64 (0:Nat)),SV.val (Go.Value.float f64 (0:Nat))],HObj.row Md.rw ty98 (K.flt f64) (y.fst.set
 (i64.wrap (i64.wrap ((0:Int)+(1:Int))+(1:Int))).toNat (Zy (Go.Op.negFloat f64 ([(4607182418800017408:Nat),s,t].getD
 (i64.wrap (i64.wrap ((0:Int)+(1:Int))+(1:Int))).toNat (0:Nat)))).fst)]∧post_9 () (y.fst.set (i64.wrap (i64.wrap ((0:Int)+(1 :
 Int))+(1:Int))).toNat (Zy (Go.Op.negFloat f64 ([(4607182418800017408:Nat),s,t].getD (i64.wrap (i64.wrap ((0:Int)+(1:Int))+(1 :
 Int))).toNat (0:Nat)))).fst,())) (HIs [HObj.box Md.rw ty72 [SV.val (Go.Value.float f64 (0:Nat)),SV.val (Go.Value.float f64 (0:Nat)),SV.val
 (Go.Value.float f64 (0:Nat))],HObj.row Md.rw ty98 (K.flt f64) y.fst] [HObj.box Md.rw ty72 [SV.val (Go.Value.float f64 (0:Nat)),SV.val
 (Go.Value.float f64 (0:Nat)),SV.val (Go.Value.float f64 (0:Nat))],HObj.row Md.rw ty98 (K.flt f64) y.fst]∧post_9 () (y.fst,())))) ∧
 ∀ (x:Unit) (y:List Nat × Unit),post_9 x y→∃ (h:(0:Int)≤(0:Int)∧(0:Int)<(↑(3:Nat):Int)∧(3:Nat)≤y.fst.length),∃ (h:(0:Int)≤(1:Int)∧(1 :
 Int)<(↑(3:Nat):Int)∧(3:Nat)≤y.fst.length),∃ (h:(0:Int)≤(2:Int)∧(2:Int)<(↑(3:Nat):Int)∧(3:Nat)≤y.fst.length),∃ (h:WV (y.fst.getD (Int.toNat
 (0:Int)) (0:Nat),y.fst.getD (Int.toNat (1:Int)) (0:Nat),y.fst.getD (Int.toNat (2:Int)) (0:Nat))),post (((Zt8 (y.fst.getD (Int.toNat (0:Int)) (0:Nat),
 y.fst.getD (Int.toNat (1:Int)) (0:Nat),y.fst.getD (Int.toNat (2:Int)) (0:Nat))).fst.fst,(Zt8 (y.fst.getD (Int.toNat (0:Int)) (0:Nat),y.fst.getD (Int.toNat (1 :
 Int)) (0:Nat),y.fst.getD (Int.toNat (2:Int)) (0:Nat))).fst.snd.fst,(Zt8 (y.fst.getD (Int.toNat (0:Int)) (0:Nat),y.fst.getD (Int.toNat (1:Int)) (0:Nat),
 y.fst.getD (Int.toNat (2:Int)) (0:Nat))).fst.snd.snd),())
theorem Zzx (ty0 ty1:Nat) (f:Int) (s:Nat) (t:Nat) (h:Ztc f s t):Zbk ty0 ty1 f s t (fun r=>r=Zar f s t):=by
 obtain ⟨f0,f5,hs,ht⟩:=h
 have hfb:0≤f∧f<((6:Nat):Int):=⟨f0,by omega⟩
 refine ⟨fun _ y=>y.1=[(Z9 (Z4 f 0 0) (List.getD [(4607182418800017408:Nat),s,t] (Int.toNat (0:Int)) (0:Nat)) 0),0,0],⟨by decide,hfb,by decide,by decide,Z6d (m:=(Z4 f 0 0)) (v:=(List.getD [(4607182418800017408:Nat),s,t] (Int.toNat (0:Int)) (0:Nat))) (c:=0) (P:=fun z=>[z,0,0]=[(Z9 (Z4 f 0 0) (List.getD [(4607182418800017408:Nat),s,t] (Int.toNat (0:Int)) (0:Nat)) 0),0,0]) rfl (fun e=>⟨trivial,⟨by decide,by decide,Nat.le_refl 3⟩,rfl,e⟩) (fun e=>⟨trivial,⟨by decide,by decide,Nat.le_refl 3⟩,rfl,e⟩) (fun e=>⟨rfl,e⟩)⟩,?_⟩
 rintro ⟨⟩ ⟨_,⟨⟩⟩ rfl
 refine ⟨fun _ y=>y.1=[(Z9 (Z4 f 1 0) s (Z9 (Z4 f 0 0) (List.getD [(4607182418800017408:Nat),s,t] (Int.toNat (0:Int)) (0:Nat)) 0)),0,0],⟨by decide,hfb,by decide,by decide,Z6d (m:=(Z4 f 1 0)) (v:=s) (c:=(Z9 (Z4 f 0 0) (List.getD [(4607182418800017408:Nat),s,t] (Int.toNat (0:Int)) (0:Nat)) 0)) (P:=fun z=>[z,0,0]=[(Z9 (Z4 f 1 0) s (Z9 (Z4 f 0 0) (List.getD [(4607182418800017408:Nat),s,t] (Int.toNat (0:Int)) (0:Nat)) 0)),0,0]) rfl (fun e=>⟨trivial,⟨by decide,by decide,Nat.le_refl 3⟩,rfl,e⟩) (fun e=>⟨trivial,⟨by decide,by decide,Nat.le_refl 3⟩,rfl,e⟩) (fun e=>⟨rfl,e⟩)⟩,?_⟩
 rintro ⟨⟩ ⟨_,⟨⟩⟩ rfl
 refine ⟨fun _ y=>y.1=[(Z9 (Z4 f 2 0) t (Z9 (Z4 f 1 0) s (Z9 (Z4 f 0 0) (List.getD [(4607182418800017408:Nat),s,t] (Int.toNat (0:Int)) (0:Nat)) 0))),0,0],⟨by decide,hfb,by decide,by decide,Z6d (m:=(Z4 f 2 0)) (v:=t) (c:=(Z9 (Z4 f 1 0) s (Z9 (Z4 f 0 0) (List.getD [(4607182418800017408:Nat),s,t] (Int.toNat (0:Int)) (0:Nat)) 0))) (P:=fun z=>[z,0,0]=[(Z9 (Z4 f 2 0) t (Z9 (Z4 f 1 0) s (Z9 (Z4 f 0 0) (List.getD [(4607182418800017408:Nat),s,t] (Int.toNat (0:Int)) (0:Nat)) 0))),0,0]) rfl (fun e=>⟨trivial,⟨by decide,by decide,Nat.le_refl 3⟩,rfl,e⟩) (fun e=>⟨trivial,⟨by decide,by decide,Nat.le_refl 3⟩,rfl,e⟩) (fun e=>⟨rfl,e⟩)⟩,?_⟩
 rintro ⟨⟩ ⟨_,⟨⟩⟩ rfl
 refine ⟨fun _ y=>y.1=[(Z9 (Z4 f 2 0) t (Z9 (Z4 f 1 0) s (Z9 (Z4 f 0 0) (List.getD [(4607182418800017408:Nat),s,t] (Int.toNat (0:Int)) (0:Nat)) 0))),(Z9 (Z4 f 0 1) (List.getD [(4607182418800017408:Nat),s,t] (Int.toNat (0:Int)) (0:Nat)) 0),0],⟨by decide,hfb,by decide,by decide,Z6d (m:=(Z4 f 0 1)) (v:=(List.getD [(4607182418800017408:Nat),s,t] (Int.toNat (0:Int)) (0:Nat))) (c:=0) (P:=fun z=>[(Z9 (Z4 f 2 0) t (Z9 (Z4 f 1 0) s (Z9 (Z4 f 0 0) (List.getD [(4607182418800017408:Nat),s,t] (Int.toNat (0:Int)) (0:Nat)) 0))),z,0]=[(Z9 (Z4 f 2 0) t (Z9 (Z4 f 1 0) s (Z9 (Z4 f 0 0) (List.getD [(4607182418800017408:Nat),s,t] (Int.toNat (0:Int)) (0:Nat)) 0))),(Z9 (Z4 f 0 1) (List.getD [(4607182418800017408:Nat),s,t] (Int.toNat (0:Int)) (0:Nat)) 0),0]) rfl (fun e=>⟨trivial,⟨by decide,by decide,Nat.le_refl 3⟩,rfl,e⟩) (fun e=>⟨trivial,⟨by decide,by decide,Nat.le_refl 3⟩,rfl,e⟩) (fun e=>⟨rfl,e⟩)⟩,?_⟩
 rintro ⟨⟩ ⟨_,⟨⟩⟩ rfl
 refine ⟨fun _ y=>y.1=[(Z9 (Z4 f 2 0) t (Z9 (Z4 f 1 0) s (Z9 (Z4 f 0 0) (List.getD [(4607182418800017408:Nat),s,t] (Int.toNat (0:Int)) (0:Nat)) 0))),(Z9 (Z4 f 1 1) s (Z9 (Z4 f 0 1) (List.getD [(4607182418800017408:Nat),s,t] (Int.toNat (0:Int)) (0:Nat)) 0)),0],⟨by decide,hfb,by decide,by decide,Z6d (m:=(Z4 f 1 1)) (v:=s) (c:=(Z9 (Z4 f 0 1) (List.getD [(4607182418800017408:Nat),s,t] (Int.toNat (0:Int)) (0:Nat)) 0)) (P:=fun z=>[(Z9 (Z4 f 2 0) t (Z9 (Z4 f 1 0) s (Z9 (Z4 f 0 0) (List.getD [(4607182418800017408:Nat),s,t] (Int.toNat (0:Int)) (0:Nat)) 0))),z,0]=[(Z9 (Z4 f 2 0) t (Z9 (Z4 f 1 0) s (Z9 (Z4 f 0 0) (List.getD [(4607182418800017408:Nat),s,t] (Int.toNat (0:Int)) (0:Nat)) 0))),(Z9 (Z4 f 1 1) s (Z9 (Z4 f 0 1) (List.getD [(4607182418800017408:Nat),s,t] (Int.toNat (0:Int)) (0:Nat)) 0)),0]) rfl (fun e=>⟨trivial,⟨by decide,by decide,Nat.le_refl 3⟩,rfl,e⟩) (fun e=>⟨trivial,⟨by decide,by decide,Nat.le_refl 3⟩,rfl,e⟩) (fun e=>⟨rfl,e⟩)⟩,?_⟩
 rintro ⟨⟩ ⟨_,⟨⟩⟩ rfl
 refine ⟨fun _ y=>y.1=[(Z9 (Z4 f 2 0) t (Z9 (Z4 f 1 0) s (Z9 (Z4 f 0 0) (List.getD [(4607182418800017408:Nat),s,t] (Int.toNat (0:Int)) (0:Nat)) 0))),(Z9 (Z4 f 2 1) t (Z9 (Z4 f 1 1) s (Z9 (Z4 f 0 1) (List.getD [(4607182418800017408:Nat),s,t] (Int.toNat (0:Int)) (0:Nat)) 0))),0],⟨by decide,hfb,by decide,by decide,Z6d (m:=(Z4 f 2 1)) (v:=t) (c:=(Z9 (Z4 f 1 1) s (Z9 (Z4 f 0 1) (List.getD [(4607182418800017408:Nat),s,t] (Int.toNat (0:Int)) (0:Nat)) 0))) (P:=fun z=>[(Z9 (Z4 f 2 0) t (Z9 (Z4 f 1 0) s (Z9 (Z4 f 0 0) (List.getD [(4607182418800017408:Nat),s,t] (Int.toNat (0:Int)) (0:Nat)) 0))),z,0]=[(Z9 (Z4 f 2 0) t (Z9 (Z4 f 1 0) s (Z9 (Z4 f 0 0) (List.getD [(4607182418800017408:Nat),s,t] (Int.toNat (0:Int)) (0:Nat)) 0))),(Z9 (Z4 f 2 1) t (Z9 (Z4 f 1 1) s (Z9 (Z4 f 0 1) (List.getD [(4607182418800017408:Nat),s,t] (Int.toNat (0:Int)) (0:Nat)) 0))),0]) rfl (fun e=>⟨trivial,⟨by decide,by decide,Nat.le_refl 3⟩,rfl,e⟩) (fun e=>⟨trivial,⟨by decide,by decide,Nat.le_refl 3⟩,rfl,e⟩) (fun e=>⟨rfl,e⟩)⟩,?_⟩
 rintro ⟨⟩ ⟨_,⟨⟩⟩ rfl
 refine ⟨fun _ y=>y.1=[(Z9 (Z4 f 2 0) t (Z9 (Z4 f 1 0) s (Z9 (Z4 f 0 0) (List.getD [(4607182418800017408:Nat),s,t] (Int.toNat (0:Int)) (0:Nat)) 0))),(Z9 (Z4 f 2 1) t (Z9 (Z4 f 1 1) s (Z9 (Z4 f 0 1) (List.getD [(4607182418800017408:Nat),s,t] (Int.toNat (0:Int)) (0:Nat)) 0))),(Z9 (Z4 f 0 2) (List.getD [(4607182418800017408:Nat),s,t] (Int.toNat (0:Int)) (0:Nat)) 0)],⟨by decide,hfb,by decide,by decide,Z6d (m:=(Z4 f 0 2)) (v:=(List.getD [(4607182418800017408:Nat),s,t] (Int.toNat (0:Int)) (0:Nat))) (c:=0) (P:=fun z=>[(Z9 (Z4 f 2 0) t (Z9 (Z4 f 1 0) s (Z9 (Z4 f 0 0) (List.getD [(4607182418800017408:Nat),s,t] (Int.toNat (0:Int)) (0:Nat)) 0))),(Z9 (Z4 f 2 1) t (Z9 (Z4 f 1 1) s (Z9 (Z4 f 0 1) (List.getD [(4607182418800017408:Nat),s,t] (Int.toNat (0:Int)) (0:Nat)) 0))),z]=[(Z9 (Z4 f 2 0) t (Z9 (Z4 f 1 0) s (Z9 (Z4 f 0 0) (List.getD [(4607182418800017408:Nat),s,t] (Int.toNat (0:Int)) (0:Nat)) 0))),(Z9 (Z4 f 2 1) t (Z9 (Z4 f 1 1) s (Z9 (Z4 f 0 1) (List.getD [(4607182418800017408:Nat),s,t] (Int.toNat (0:Int)) (0:Nat)) 0))),(Z9 (Z4 f 0 2) (List.getD [(4607182418800017408:Nat),s,t] (Int.toNat (0:Int)) (0:Nat)) 0)]) rfl (fun e=>⟨trivial,⟨by decide,by decide,Nat.le_refl 3⟩,rfl,e⟩) (fun e=>⟨trivial,⟨by decide,by decide,Nat.le_refl 3⟩,rfl,e⟩) (fun e=>⟨rfl,e⟩)⟩,?_⟩
 rintro ⟨⟩ ⟨_,⟨⟩⟩ rfl
 refine ⟨fun _ y=>y.1=[(Z9 (Z4 f 2 0) t (Z9 (Z4 f 1 0) s (Z9 (Z4 f 0 0) (List.getD [(4607182418800017408:Nat),s,t] (Int.toNat (0:Int)) (0:Nat)) 0))),(Z9 (Z4 f 2 1) t (Z9 (Z4 f 1 1) s (Z9 (Z4 f 0 1) (List.getD [(4607182418800017408:Nat),s,t] (Int.toNat (0:Int)) (0:Nat)) 0))),(Z9 (Z4 f 1 2) s (Z9 (Z4 f 0 2) (List.getD [(4607182418800017408:Nat),s,t] (Int.toNat (0:Int)) (0:Nat)) 0))],⟨by decide,hfb,by decide,by decide,Z6d (m:=(Z4 f 1 2)) (v:=s) (c:=(Z9 (Z4 f 0 2) (List.getD [(4607182418800017408:Nat),s,t] (Int.toNat (0:Int)) (0:Nat)) 0)) (P:=fun z=>[(Z9 (Z4 f 2 0) t (Z9 (Z4 f 1 0) s (Z9 (Z4 f 0 0) (List.getD [(4607182418800017408:Nat),s,t] (Int.toNat (0:Int)) (0:Nat)) 0))),(Z9 (Z4 f 2 1) t (Z9 (Z4 f 1 1) s (Z9 (Z4 f 0 1) (List.getD [(4607182418800017408:Nat),s,t] (Int.toNat (0:Int)) (0:Nat)) 0))),z]=[(Z9 (Z4 f 2 0) t (Z9 (Z4 f 1 0) s (Z9 (Z4 f 0 0) (List.getD [(4607182418800017408:Nat),s,t] (Int.toNat (0:Int)) (0:Nat)) 0))),(Z9 (Z4 f 2 1) t (Z9 (Z4 f 1 1) s (Z9 (Z4 f 0 1) (List.getD [(4607182418800017408:Nat),s,t] (Int.toNat (0:Int)) (0:Nat)) 0))),(Z9 (Z4 f 1 2) s (Z9 (Z4 f 0 2) (List.getD [(4607182418800017408:Nat),s,t] (Int.toNat (0:Int)) (0:Nat)) 0))]) rfl (fun e=>⟨trivial,⟨by decide,by decide,Nat.le_refl 3⟩,rfl,e⟩) (fun e=>⟨trivial,⟨by decide,by decide,Nat.le_refl 3⟩,rfl,e⟩) (fun e=>⟨rfl,e⟩)⟩,?_⟩
 rintro ⟨⟩ ⟨_,⟨⟩⟩ rfl
 refine ⟨fun _ y=>y.1=[(Z9 (Z4 f 2 0) t (Z9 (Z4 f 1 0) s (Z9 (Z4 f 0 0) (List.getD [(4607182418800017408:Nat),s,t] (Int.toNat (0:Int)) (0:Nat)) 0))),(Z9 (Z4 f 2 1) t (Z9 (Z4 f 1 1) s (Z9 (Z4 f 0 1) (List.getD [(4607182418800017408:Nat),s,t] (Int.toNat (0:Int)) (0:Nat)) 0))),(Z9 (Z4 f 2 2) t (Z9 (Z4 f 1 2) s (Z9 (Z4 f 0 2) (List.getD [(4607182418800017408:Nat),s,t] (Int.toNat (0:Int)) (0:Nat)) 0)))],⟨by decide,hfb,by decide,by decide,Z6d (m:=(Z4 f 2 2)) (v:=t) (c:=(Z9 (Z4 f 1 2) s (Z9 (Z4 f 0 2) (List.getD [(4607182418800017408:Nat),s,t] (Int.toNat (0:Int)) (0:Nat)) 0))) (P:=fun z=>[(Z9 (Z4 f 2 0) t (Z9 (Z4 f 1 0) s (Z9 (Z4 f 0 0) (List.getD [(4607182418800017408:Nat),s,t] (Int.toNat (0:Int)) (0:Nat)) 0))),(Z9 (Z4 f 2 1) t (Z9 (Z4 f 1 1) s (Z9 (Z4 f 0 1) (List.getD [(4607182418800017408:Nat),s,t] (Int.toNat (0:Int)) (0:Nat)) 0))),z]=[(Z9 (Z4 f 2 0) t (Z9 (Z4 f 1 0) s (Z9 (Z4 f 0 0) (List.getD [(4607182418800017408:Nat),s,t] (Int.toNat (0:Int)) (0:Nat)) 0))),(Z9 (Z4 f 2 1) t (Z9 (Z4 f 1 1) s (Z9 (Z4 f 0 1) (List.getD [(4607182418800017408:Nat),s,t] (Int.toNat (0:Int)) (0:Nat)) 0))),(Z9 (Z4 f 2 2) t (Z9 (Z4 f 1 2) s (Z9 (Z4 f 0 2) (List.getD [(4607182418800017408:Nat),s,t] (Int.toNat (0:Int)) (0:Nat)) 0)))]) rfl (fun e=>⟨trivial,⟨by decide,by decide,Nat.le_refl 3⟩,rfl,e⟩) (fun e=>⟨trivial,⟨by decide,by decide,Nat.le_refl 3⟩,rfl,e⟩) (fun e=>⟨rfl,e⟩)⟩,?_⟩
 rintro ⟨⟩ ⟨_,⟨⟩⟩ rfl
 refine ⟨⟨by decide,by decide,Nat.le_refl 3⟩,⟨by decide,by decide,Nat.le_refl 3⟩,⟨by decide,by decide,Nat.le_refl 3⟩,⟨Zw8 f hs ht 0,Zw8 f hs ht 1,Zw8 f hs ht 2⟩,rfl⟩
def Z9l:=fun (n f i j:Int) (post:(Nat × Nat × Nat) × Bool × Unit→Prop)=>∃ (h:I64 n),∀ (a:Bool),a=((Zap n).fst==(0:Int))→Br a (post (((0:Nat),
 (0:Nat),(0:Nat)),false,())) (∀ (a:Bool),a=decide (f<(0:Int))→Br a (post (((0:Nat),(0:Nat),(0:Nat)),false,())) (∀ (a:Bool),a=decide (f >
 (5:Int))→Br a (post (((0:Nat),(0:Nat),(0:Nat)),false,())) (∀ (a:Bool),a=decide (i<(0:Int))→Br a (post (((0:Nat),(0:Nat),(0:Nat)),false,
 ())) (∀ (a:Bool),a=decide (i > n)→Br a (post (((0:Nat),(0:Nat),(0:Nat)),false,())) (∀ (a:Bool),a=decide (j<(0:Int))→Br a (post (((0:Nat),(0 :
 Nat),(0:Nat)),false,())) (∀ (a:Bool),a=decide (j > n)→Br a (post (((0:Nat),(0:Nat),(0:Nat)),false,())) (∃ (h:Zdp (i64.wrap
 (i64.wrap ((2:Int)*i) - n)) n),∃ (h:Zdp (i64.wrap (i64.wrap ((2:Int)*j) - n)) n),∃ (h:Ztc f (Z2t (i64.wrap (i64.wrap
 ((2:Int)*i) - n)) n).fst (Z2t (i64.wrap (i64.wrap ((2:Int)*j) - n)) n).fst),post (((Zar f (Z2t (i64.wrap (i64.wrap ((2:Int) *
 i) - n)) n).fst (Z2t (i64.wrap (i64.wrap ((2:Int)*j) - n)) n).fst).fst.fst,(Zar f (Z2t (i64.wrap (i64.wrap ((2:Int)*i) - n))
 n).fst (Z2t (i64.wrap (i64.wrap ((2:Int)*j) - n)) n).fst).fst.snd.fst,(Zar f (Z2t (i64.wrap (i64.wrap ((2:Int)*i) - n)) n).fst
 (Z2t (i64.wrap (i64.wrap ((2:Int)*j) - n)) n).fst).fst.snd.snd),true,()))))))))
theorem Zwx (n:Int) (f:Int) (i:Int) (j:Int) (h:IIII n f i j):Z9l  n f i j (fun r=>r=Z1c n f i j):=by
 obtain ⟨hn,hf,hi,hj⟩:=h
 have bad:Z5v n f i j=false→(((0:Nat),(0:Nat),(0:Nat)),false,())=Z1c n f i j:=by
  intro e; unfold Z1c; rw [if_neg (by rw [e]; decide)]
 refine ⟨hn,?_⟩
 rintro _ rfl
 refine Br.intro (fun e=>?_) fun e0=>?_
 ·have e:Zh n=0:=by have e:(Zh n==0)=true:=e; simpa using e
  refine bad ?_
  cases hg:Z1z n with
  | false=>unfold Z5v; rw [hg]; rfl
  | true=>rw [Zcr hg] at e; have:=Zo5 (Z2r.1 hg).1 (Z2r.1 hg).2; omega
 have e0:¬ Zh n=0:=by have e:(Zh n==0)=false:=e0; simpa using e
 have hg:Z1z n=true:=by
  cases hg:Z1z n with
  | false=>exact absurd (Zfb hg) e0
  | true=>rfl
 obtain ⟨n1,n2⟩:=Z2r.1 hg
 have no:¬ (0≤f∧f≤5∧0≤i∧i≤n∧0≤j∧j≤n)→Z5v n f i j=false:=by
  intro q
  rw [Bool.eq_false_iff]
  intro w
  unfold Z5v at w
  simp only [Bool.and_eq_true,decide_eq_true_eq] at w
  omega
 rintro _ rfl
 refine Br.intro (fun e=>bad (no (by have e:=of_decide_eq_true e; omega))) fun e1=>?_
 have e1:=of_decide_eq_false e1
 rintro _ rfl
 refine Br.intro (fun e=>bad (no (by have e:=of_decide_eq_true e; omega))) fun e2=>?_
 have e2:=of_decide_eq_false e2
 rintro _ rfl
 refine Br.intro (fun e=>bad (no (by have e:=of_decide_eq_true e; omega))) fun e3=>?_
 have e3:=of_decide_eq_false e3
 rintro _ rfl
 refine Br.intro (fun e=>bad (no (by have e:=of_decide_eq_true e; omega))) fun e4=>?_
 have e4:=of_decide_eq_false e4
 rintro _ rfl
 refine Br.intro (fun e=>bad (no (by have e:=of_decide_eq_true e; omega))) fun e5=>?_
 have e5:=of_decide_eq_false e5
 rintro _ rfl
 refine Br.intro (fun e=>bad (no (by have e:=of_decide_eq_true e; omega))) fun e6=>?_
 have e6:=of_decide_eq_false e6
 obtain ⟨w1,w2⟩:=Zth n1 n2 (i:=i) (by omega) (by omega)
 obtain ⟨w3,w4⟩:=Zth n1 n2 (i:=j) (by omega) (by omega)
 rw [w1,w3]
 refine ⟨w2,w4,⟨by omega,by omega,Z8z _ _,Z8z _ _⟩,?_⟩
 have ok:Z5v n f i j=true:=by
  unfold Z5v
  rw [hg,decide_eq_true (by omega),decide_eq_true (by omega),decide_eq_true (by omega),decide_eq_true (by omega),decide_eq_true (by omega),decide_eq_true (by omega)]
  rfl
 unfold Z1c; rw [if_pos ok]; rfl
def Z8k:=fun (n c:Int) (post:List (Nat × Nat × Nat) × Bool × Unit→Prop)=>∃ (h:II n c),Br (!(Z3 n c).snd.snd.snd.fst) (∃ (h:(List.replicate (4:Nat)
 ((K.flt f64).pair ((K.flt f64).pair (K.flt f64))).dflt).length=(4:Nat)∧(4:Nat)=(4:Nat)),∃ (h:(4:Nat)=(4:Nat)),post
 ([((0:Nat),(0:Nat),(0:Nat)),((0:Nat),(0:Nat),(0:Nat)),((0:Nat),(0:Nat),(0:Nat)),((0:Nat),(0:Nat),(0:Nat))],false,())) (∃ (h:(0:Int) ≤
 (0:Int)∧(0:Int)<(↑(4:Nat):Int)),∃ (h:(List.replicate (2:Nat) (0:Int)).length=(2:Nat)∧List.length ([[(0:Int),(0:Int)],[(1:Int),(0:Int)],[(1 :
 Int),(1:Int)],[(0:Int),(1:Int)]].getD (Int.toNat (0:Int)) (K.arr (2:Nat) (K.int i64)).dflt)=(2:Nat)),∃ (h:(0:Int)≤(0:Int)∧(0:Int)<(↑(2 :
 Nat):Int)∧(2:Nat)≤List.length ([[(0:Int),(0:Int)],[(1:Int),(0:Int)],[(1:Int),(1:Int)],[(0:Int),(1:Int)]].getD (Int.toNat (0:Int)) (K.arr (2:Nat)
 (K.int i64)).dflt)),∃ (h:(0:Int)≤(1:Int)∧(1:Int)<(↑(2:Nat):Int)∧(2:Nat)≤List.length ([[(0:Int),(0:Int)],[(1:Int),(0:Int)],[(1:Int),
 (1:Int)],[(0:Int),(1:Int)]].getD (Int.toNat (0:Int)) (K.arr (2:Nat) (K.int i64)).dflt)),∃ (h:IIII n (Z3 n c).fst (i64.wrap ((Z3 n
 c).snd.fst+List.getD ([[(0:Int),(0:Int)],[(1:Int),(0:Int)],[(1:Int),(1:Int)],[(0:Int),(1:Int)]].getD (Int.toNat (0:Int)) (K.arr (2:Nat) (K.int
 i64)).dflt) (Int.toNat (0:Int)) (0:Int))) (i64.wrap ((Z3 n c).snd.snd.fst+List.getD ([[(0:Int),(0:Int)],[(1:Int),(0:Int)],[(1:Int),(1 :
 Int)],[(0:Int),(1:Int)]].getD (Int.toNat (0:Int)) (K.arr (2:Nat) (K.int i64)).dflt) (Int.toNat (1:Int)) (0:Int)))),∃ (h:(0:Int)≤(0:Int)∧(0:Int)
 < (↑(4:Nat):Int)∧(4:Nat)≤(List.replicate (4:Nat) ((K.flt f64).pair ((K.flt f64).pair (K.flt f64))).dflt).length),∃ (h:(0 :
 Int)≤i64.wrap ((0:Int)+(1:Int))∧i64.wrap ((0:Int)+(1:Int))<(↑(4:Nat):Int)),∃ (h:(List.replicate (2:Nat) (0:Int)).length=(2:Nat) ∧
 List.length ([[(0:Int),(0:Int)],[(1:Int),(0:Int)],[(1:Int),(1:Int)],[(0:Int),(1:Int)]].getD (i64.wrap ((0:Int)+(1:Int))).toNat (K.arr (2 :
 Nat) (K.int i64)).dflt)=(2:Nat)),∃ (h:(0:Int)≤(0:Int)∧(0:Int)<(↑(2:Nat):Int)∧(2:Nat)≤List.length ([[(0:Int),(0:Int)],[(1:Int),(0 :
 Int)],[(1:Int),(1:Int)],[(0:Int),(1:Int)]].getD (i64.wrap ((0:Int)+(1:Int))).toNat (K.arr (2:Nat) (K.int i64)).dflt)),∃ (h:(0:Int)≤(1 :
 Int)∧(1:Int)<(↑(2:Nat):Int)∧(2:Nat)≤List.length ([[(0:Int),(0:Int)],[(1:Int),(0:Int)],[(1:Int),(1:Int)],[(0:Int),(1:Int)]].getD
 (i64.wrap ((0:Int)+(1:Int))).toNat (K.arr (2:Nat) (K.int i64)).dflt)),∃ (h:IIII n (Z3 n c).fst (i64.wrap ((Z3 n c).snd.fst+List.getD
 ([[(0:Int),(0:Int)],[(1:Int),(0:Int)],[(1:Int),(1:Int)],[(0:Int),(1:Int)]].getD (i64.wrap ((0:Int)+(1:Int))).toNat (K.arr (2:Nat) (K.int
 i64)).dflt) (Int.toNat (0:Int)) (0:Int))) (i64.wrap ((Z3 n c).snd.snd.fst+List.getD ([[(0:Int),(0:Int)],[(1:Int),(0:Int)],[(1:Int),(1 :
 Int)],[(0:Int),(1:Int)]].getD (i64.wrap ((0:Int)+(1:Int))).toNat (K.arr (2:Nat) (K.int i64)).dflt) (Int.toNat (1:Int)) (0:Int)))),∃ (h:(0 :
 Int)≤i64.wrap ((0:Int)+(1:Int))∧i64.wrap ((0:Int)+(1:Int))<(↑(4:Nat):Int)∧(4:Nat)≤((List.replicate (4:Nat) ((K.flt
 f64).pair ((K.flt f64).pair (K.flt f64))).dflt).set (Int.toNat (0:Int)) (Z1c n (Z3 n c).fst (i64.wrap ((Z3 n
 c).snd.fst+List.getD ([[(0:Int),(0:Int)],[(1:Int),(0:Int)],[(1:Int),(1:Int)],[(0:Int),(1:Int)]].getD (Int.toNat (0:Int)) (K.arr (2:Nat) (K.int
 i64)).dflt) (Int.toNat (0:Int)) (0:Int))) (i64.wrap ((Z3 n c).snd.snd.fst+List.getD ([[(0:Int),(0:Int)],[(1:Int),(0:Int)],[(1:Int),(1 :
 Int)],[(0:Int),(1:Int)]].getD (Int.toNat (0:Int)) (K.arr (2:Nat) (K.int i64)).dflt) (Int.toNat (1:Int)) (0:Int)))).fst).length),∃ (h:(0:Int) ≤
 i64.wrap (i64.wrap ((0:Int)+(1:Int))+(1:Int))∧i64.wrap (i64.wrap ((0:Int)+(1:Int))+(1:Int))<(↑(4:Nat):Int)),∃ (h :
 (List.replicate (2:Nat) (0:Int)).length=(2:Nat)∧List.length ([[(0:Int),(0:Int)],[(1:Int),(0:Int)],[(1:Int),(1:Int)],[(0:Int),(1:Int)]].getD
 (i64.wrap (i64.wrap ((0:Int)+(1:Int))+(1:Int))).toNat (K.arr (2:Nat) (K.int i64)).dflt)=(2:Nat)),∃ (h:(0:Int)≤(0:Int)∧(0:Int)
 < (↑(2:Nat):Int)∧(2:Nat)≤List.length ([[(0:Int),(0:Int)],[(1:Int),(0:Int)],[(1:Int),(1:Int)],[(0:Int),(1:Int)]].getD (i64.wrap
 (i64.wrap ((0:Int)+(1:Int))+(1:Int))).toNat (K.arr (2:Nat) (K.int i64)).dflt)),∃ (h:(0:Int)≤(1:Int)∧(1:Int)<(↑(2:Nat):Int)∧(2 :
 Nat)≤List.length ([[(0:Int),(0:Int)],[(1:Int),(0:Int)],[(1:Int),(1:Int)],[(0:Int),(1:Int)]].getD (i64.wrap (i64.wrap ((0:Int)+(1 :
 Int))+(1:Int))).toNat (K.arr (2:Nat) (K.int i64)).dflt)),∃ (h:IIII n (Z3 n c).fst (i64.wrap ((Z3 n c).snd.fst+List.getD ([[(0:Int),(0 :
 Int)],[(1:Int),(0:Int)],[(1:Int),(1:Int)],[(0:Int),(1:Int)]].getD (i64.wrap (i64.wrap ((0:Int)+(1:Int))+(1:Int))).toNat (K.arr (2 :
 Nat) (K.int i64)).dflt) (Int.toNat (0:Int)) (0:Int))) (i64.wrap ((Z3 n c).snd.snd.fst+List.getD ([[(0:Int),(0:Int)],[(1:Int),(0:Int)],[(1 :
 Int),(1:Int)],[(0:Int),(1:Int)]].getD (i64.wrap (i64.wrap ((0:Int)+(1:Int))+(1:Int))).toNat (K.arr (2:Nat) (K.int i64)).dflt)
 (Int.toNat (1:Int)) (0:Int)))),∃ (h:(0:Int)≤i64.wrap (i64.wrap ((0:Int)+(1:Int))+(1:Int))∧i64.wrap (i64.wrap ((0:Int)+(1
 : Int))+(1:Int))<(↑(4:Nat):Int)∧(4:Nat)≤(((List.replicate (4:Nat) ((K.flt f64).pair ((K.flt f64).pair (K.flt
 f64))).dflt).set (Int.toNat (0:Int)) (Z1c n (Z3 n c).fst (i64.wrap ((Z3 n c).snd.fst+List.getD ([[(0:Int),(0:Int)],[(1:Int),(0 :
 Int)],[(1:Int),(1:Int)],[(0:Int),(1:Int)]].getD (Int.toNat (0:Int)) (K.arr (2:Nat) (K.int i64)).dflt) (Int.toNat (0:Int)) (0:Int))) (i64.wrap
 ((Z3 n c).snd.snd.fst+List.getD ([[(0:Int),(0:Int)],[(1:Int),(0:Int)],[(1:Int),(1:Int)],[(0:Int),(1:Int)]].getD (Int.toNat (0:Int)) (K.arr (2 :
 Nat) (K.int i64)).dflt) (Int.toNat (1:Int)) (0:Int)))).fst).set (i64.wrap ((0:Int)+(1:Int))).toNat (Z1c n (Z3 n c).fst (i64.wrap
 ((Z3 n c).snd.fst+List.getD ([[(0:Int),(0:Int)],[(1:Int),(0:Int)],[(1:Int),(1:Int)],[(0:Int),(1:Int)]].getD (i64.wrap ((0:Int)+(1 :
 Int))).toNat (K.arr (2:Nat) (K.int i64)).dflt) (Int.toNat (0:Int)) (0:Int))) (i64.wrap ((Z3 n c).snd.snd.fst+List.getD ([[(0:Int),(0:Int)],[(1 :
 Int),(0:Int)],[(1:Int),(1:Int)],[(0:Int),(1:Int)]].getD (i64.wrap ((0:Int)+(1:Int))).toNat (K.arr (2:Nat) (K.int i64)).dflt) (Int.toNat (1 :
 Int)) (0:Int)))).fst).length),∃ (h:(0:Int)≤i64.wrap (i64.wrap (i64.wrap ((0:Int)+(1:Int))+(1:Int))+(1:Int))∧i64.wrap
 (i64.wrap (i64.wrap ((0:Int)+(1:Int))+(1:Int))+(1:Int))<(↑(4:Nat):Int)),∃ (h:(List.replicate (2:Nat) (0:Int)).length=(2:Nat) ∧
 List.length ([[(0:Int),(0:Int)],[(1:Int),(0:Int)],[(1:Int),(1:Int)],[(0:Int),(1:Int)]].getD (i64.wrap (i64.wrap (i64.wrap ((0:Int)
 + (1:Int))+(1:Int))+(1:Int))).toNat (K.arr (2:Nat) (K.int i64)).dflt)=(2:Nat)),∃ (h:(0:Int)≤(0:Int)∧(0:Int)<(↑(2:Nat):Int)∧(2:Nat) ≤
 List.length ([[(0:Int),(0:Int)],[(1:Int),(0:Int)],[(1:Int),(1:Int)],[(0:Int),(1:Int)]].getD (i64.wrap (i64.wrap (i64.wrap ((0:Int)
 + (1:Int))+(1:Int))+(1:Int))).toNat (K.arr (2:Nat) (K.int i64)).dflt)),∃ (h:(0:Int)≤(1:Int)∧(1:Int)<(↑(2:Nat):Int)∧(2:Nat)≤List.length
 ([[(0:Int),(0:Int)],[(1:Int),(0:Int)],[(1:Int),(1:Int)],[(0:Int),(1:Int)]].getD (i64.wrap (i64.wrap (i64.wrap ((0:Int)+(1 :
 Int))+(1:Int))+(1:Int))).toNat (K.arr (2:Nat) (K.int i64)).dflt)),∃ (h:IIII n (Z3 n c).fst (i64.wrap ((Z3 n c).snd.fst+List.getD ([[(0 :
 Int),(0:Int)],[(1:Int),(0:Int)],[(1:Int),(1:Int)],[(0:Int),(1:Int)]].getD (i64.wrap (i64.wrap (i64.wrap ((0:Int)+(1:Int))+(1 :
 Int))+(1:Int))).toNat (K.arr (2:Nat) (K.int i64)).dflt) (Int.toNat (0:Int)) (0:Int))) (i64.wrap ((Z3 n c).snd.snd.fst+List.getD ([[(0:Int),(0 :
 Int)],[(1:Int),(0:Int)],[(1:Int),(1:Int)],[(0:Int),(1:Int)]].getD (i64.wrap (i64.wrap (i64.wrap ((0:Int)+(1:Int))+(1:Int))+(1
 : Int))).toNat (K.arr (2:Nat) (K.int i64)).dflt) (Int.toNat (1:Int)) (0:Int)))),∃ (h:(0:Int)≤i64.wrap (i64.wrap (i64.wrap ((0:Int) +
 (1:Int))+(1:Int))+(1:Int))∧i64.wrap (i64.wrap (i64.wrap ((0:Int)+(1:Int))+(1:Int))+(1:Int))<(↑(4:Nat):Int)∧(4:Nat) ≤
 ((((List.replicate (4:Nat) ((K.flt f64).pair ((K.flt f64).pair (K.flt f64))).dflt).set (Int.toNat (0:Int)) (Z1c n (Z3 n c).fst
 (i64.wrap ((Z3 n c).snd.fst+List.getD ([[(0:Int),(0:Int)],[(1:Int),(0:Int)],[(1:Int),(1:Int)],[(0:Int),(1:Int)]].getD (Int.toNat (0:Int))
 (K.arr (2:Nat) (K.int i64)).dflt) (Int.toNat (0:Int)) (0:Int))) (i64.wrap ((Z3 n c).snd.snd.fst+List.getD ([[(0:Int),(0:Int)],[(1:Int),(0 :
 Int)],[(1:Int),(1:Int)],[(0:Int),(1:Int)]].getD (Int.toNat (0:Int)) (K.arr (2:Nat) (K.int i64)).dflt) (Int.toNat (1:Int)) (0:Int)))).fst).set
 (i64.wrap ((0:Int)+(1:Int))).toNat (Z1c n (Z3 n c).fst (i64.wrap ((Z3 n c).snd.fst+List.getD ([[(0:Int),(0:Int)],[(1:Int),(0 :
 Int)],[(1:Int),(1:Int)],[(0:Int),(1:Int)]].getD (i64.wrap ((0:Int)+(1:Int))).toNat (K.arr (2:Nat) (K.int i64)).dflt) (Int.toNat (0:Int)) (0 :
 Int))) (i64.wrap ((Z3 n c).snd.snd.fst+List.getD ([[(0:Int),(0:Int)],[(1:Int),(0:Int)],[(1:Int),(1:Int)],[(0:Int),(1:Int)]].getD
 (i64.wrap ((0:Int)+(1:Int))).toNat (K.arr (2:Nat) (K.int i64)).dflt) (Int.toNat (1:Int)) (0:Int)))).fst).set (i64.wrap (i64.wrap ((0 :
 Int)+(1:Int))+(1:Int))).toNat (Z1c n (Z3 n c).fst (i64.wrap ((Z3 n c).snd.fst+List.getD ([[(0:Int),(0:Int)],[(1:Int),(0:Int)],[(1 :
 Int),(1:Int)],[(0:Int),(1:Int)]].getD (i64.wrap (i64.wrap ((0:Int)+(1:Int))+(1:Int))).toNat (K.arr (2:Nat) (K.int i64)).dflt)
 (Int.toNat (0:Int)) (0:Int))) (i64.wrap ((Z3 n c).snd.snd.fst+List.getD ([[(0:Int),(0:Int)],[(1:Int),(0:Int)],[(1:Int),(1:Int)],[(0:Int),(1
 : Int)]].getD (i64.wrap (i64.wrap ((0:Int)+(1:Int))+(1:Int))).toNat (K.arr (2:Nat) (K.int i64)).dflt) (Int.toNat (1:Int)) (0 :
 Int)))).fst).length),∃ (h:(((((List.replicate (4:Nat) ((K.flt f64).pair ((K.flt f64).pair (K.flt f64))).dflt).set (Int.toNat (0:Int))
 (Z1c n (Z3 n c).fst (i64.wrap ((Z3 n c).snd.fst+List.getD ([[(0:Int),(0:Int)],[(1:Int),(0:Int)],[(1:Int),(1:Int)],[(0:Int),(1 :
 Int)]].getD (Int.toNat (0:Int)) (K.arr (2:Nat) (K.int i64)).dflt) (Int.toNat (0:Int)) (0:Int))) (i64.wrap ((Z3 n c).snd.snd.fst+List.getD ([[(0 :
 Int),(0:Int)],[(1:Int),(0:Int)],[(1:Int),(1:Int)],[(0:Int),(1:Int)]].getD (Int.toNat (0:Int)) (K.arr (2:Nat) (K.int i64)).dflt) (Int.toNat (1 :
 Int)) (0:Int)))).fst).set (i64.wrap ((0:Int)+(1:Int))).toNat (Z1c n (Z3 n c).fst (i64.wrap ((Z3 n c).snd.fst+List.getD ([[(0:Int),(0 :
 Int)],[(1:Int),(0:Int)],[(1:Int),(1:Int)],[(0:Int),(1:Int)]].getD (i64.wrap ((0:Int)+(1:Int))).toNat (K.arr (2:Nat) (K.int i64)).dflt)
 (Int.toNat (0:Int)) (0:Int))) (i64.wrap ((Z3 n c).snd.snd.fst+List.getD ([[(0:Int),(0:Int)],[(1:Int),(0:Int)],[(1:Int),(1:Int)],[(0:Int),(1
 : Int)]].getD (i64.wrap ((0:Int)+(1:Int))).toNat (K.arr (2:Nat) (K.int i64)).dflt) (Int.toNat (1:Int)) (0:Int)))).fst).set (i64.wrap
 (i64.wrap ((0:Int)+(1:Int))+(1:Int))).toNat (Z1c n (Z3 n c).fst (i64.wrap ((Z3 n c).snd.fst+List.getD ([[(0:Int),(0:Int)],[(1 :
 Int),(0:Int)],[(1:Int),(1:Int)],[(0:Int),(1:Int)]].getD (i64.wrap (i64.wrap ((0:Int)+(1:Int))+(1:Int))).toNat (K.arr (2:Nat) (K.int
 i64)).dflt) (Int.toNat (0:Int)) (0:Int))) (i64.wrap ((Z3 n c).snd.snd.fst+List.getD ([[(0:Int),(0:Int)],[(1:Int),(0:Int)],[(1:Int),(1 :
 Int)],[(0:Int),(1:Int)]].getD (i64.wrap (i64.wrap ((0:Int)+(1:Int))+(1:Int))).toNat (K.arr (2:Nat) (K.int i64)).dflt) (Int.toNat (1 :
 Int)) (0:Int)))).fst).set (i64.wrap (i64.wrap (i64.wrap ((0:Int)+(1:Int))+(1:Int))+(1:Int))).toNat (Z1c n (Z3 n c).fst
 (i64.wrap ((Z3 n c).snd.fst+List.getD ([[(0:Int),(0:Int)],[(1:Int),(0:Int)],[(1:Int),(1:Int)],[(0:Int),(1:Int)]].getD (i64.wrap
 (i64.wrap (i64.wrap ((0:Int)+(1:Int))+(1:Int))+(1:Int))).toNat (K.arr (2:Nat) (K.int i64)).dflt) (Int.toNat (0:Int)) (0:Int)))
 (i64.wrap ((Z3 n c).snd.snd.fst+List.getD ([[(0:Int),(0:Int)],[(1:Int),(0:Int)],[(1:Int),(1:Int)],[(0:Int),(1:Int)]].getD (i64.wrap
 (i64.wrap (i64.wrap ((0:Int)+(1:Int))+(1:Int))+(1:Int))).toNat (K.arr (2:Nat) (K.int i64)).dflt) (Int.toNat (1:Int)) (0 :
 Int)))).fst).length=(4:Nat)),∃ (h:(List.replicate (4:Nat) ((K.flt f64).pair ((K.flt f64).pair (K.flt f64))).dflt).length=(4 :
 Nat)∧(((((List.replicate (4:Nat) ((K.flt f64).pair ((K.flt f64).pair (K.flt f64))).dflt).set (Int.toNat (0:Int)) (Z1c n (Z3 n
 c).fst (i64.wrap ((Z3 n c).snd.fst+List.getD ([[(0:Int),(0:Int)],[(1:Int),(0:Int)],[(1:Int),(1:Int)],[(0:Int),(1:Int)]].getD (Int.toNat (0 :
 Int)) (K.arr (2:Nat) (K.int i64)).dflt) (Int.toNat (0:Int)) (0:Int))) (i64.wrap ((Z3 n c).snd.snd.fst+List.getD ([[(0:Int),(0:Int)],[(1:Int),
 (0:Int)],[(1:Int),(1:Int)],[(0:Int),(1:Int)]].getD (Int.toNat (0:Int)) (K.arr (2:Nat) (K.int i64)).dflt) (Int.toNat (1:Int)) (0:Int)))).fst).set
 (i64.wrap ((0:Int)+(1:Int))).toNat (Z1c n (Z3 n c).fst (i64.wrap ((Z3 n c).snd.fst+List.getD ([[(0:Int),(0:Int)],[(1:Int),(0 :
 Int)],[(1:Int),(1:Int)],[(0:Int),(1:Int)]].getD (i64.wrap ((0:Int)+(1:Int))).toNat (K.arr (2:Nat) (K.int i64)).dflt) (Int.toNat (0:Int)) (0 :
 Int))) (i64.wrap ((Z3 n c).snd.snd.fst+List.getD ([[(0:Int),(0:Int)],[(1:Int),(0:Int)],[(1:Int),(1:Int)],[(0:Int),(1:Int)]].getD
 (i64.wrap ((0:Int)+(1:Int))).toNat (K.arr (2:Nat) (K.int i64)).dflt) (Int.toNat (1:Int)) (0:Int)))).fst).set (i64.wrap (i64.wrap ((0 :
 Int)+(1:Int))+(1:Int))).toNat (Z1c n (Z3 n c).fst (i64.wrap ((Z3 n c).snd.fst+List.getD ([[(0:Int),(0:Int)],[(1:Int),(0:Int)],[(1 :
 Int),(1:Int)],[(0:Int),(1:Int)]].getD (i64.wrap (i64.wrap ((0:Int)+(1:Int))+(1:Int))).toNat (K.arr (2:Nat) (K.int i64)).dflt)
 (Int.toNat (0:Int)) (0:Int))) (i64.wrap ((Z3 n c).snd.snd.fst+List.getD ([[(0:Int),(0:Int)],[(1:Int),(0:Int)],[(1:Int),(1:Int)],[(0:Int),(1
 : Int)]].getD (i64.wrap (i64.wrap ((0:Int)+(1:Int))+(1:Int))).toNat (K.arr (2:Nat) (K.int i64)).dflt) (Int.toNat (1:Int)) (0 :
 Int)))).fst).set (i64.wrap (i64.wrap (i64.wrap ((0:Int)+(1:Int))+(1:Int))+(1:Int))).toNat (Z1c n (Z3 n c).fst (i64.wrap
 ((Z3 n c).snd.fst+List.getD ([[(0:Int),(0:Int)],[(1:Int),(0:Int)],[(1:Int),(1:Int)],[(0:Int),(1:Int)]].getD (i64.wrap (i64.wrap
 (i64.wrap ((0:Int)+(1:Int))+(1:Int))+(1:Int))).toNat (K.arr (2:Nat) (K.int i64)).dflt) (Int.toNat (0:Int)) (0:Int))) (i64.wrap
 ((Z3 n c).snd.snd.fst+List.getD ([[(0:Int),(0:Int)],[(1:Int),(0:Int)],[(1:Int),(1:Int)],[(0:Int),(1:Int)]].getD (i64.wrap (i64.wrap
 (i64.wrap ((0:Int)+(1:Int))+(1:Int))+(1:Int))).toNat (K.arr (2:Nat) (K.int i64)).dflt) (Int.toNat (1:Int)) (0:Int)))).fst).length=(4:Nat)),
 ∃ (h:(((((List.replicate (4:Nat) ((K.flt f64).pair ((K.flt f64).pair (K.flt f64))).dflt).set (Int.toNat (0:Int)) (Z1c n (Z3 n
 c).fst (i64.wrap ((Z3 n c).snd.fst+List.getD ([[(0:Int),(0:Int)],[(1:Int),(0:Int)],[(1:Int),(1:Int)],[(0:Int),(1:Int)]].getD (Int.toNat (0 :
 Int)) (K.arr (2:Nat) (K.int i64)).dflt) (Int.toNat (0:Int)) (0:Int))) (i64.wrap ((Z3 n c).snd.snd.fst+List.getD ([[(0:Int),(0:Int)],[(1:Int),
 (0:Int)],[(1:Int),(1:Int)],[(0:Int),(1:Int)]].getD (Int.toNat (0:Int)) (K.arr (2:Nat) (K.int i64)).dflt) (Int.toNat (1:Int)) (0:Int)))).fst).set
 (i64.wrap ((0:Int)+(1:Int))).toNat (Z1c n (Z3 n c).fst (i64.wrap ((Z3 n c).snd.fst+List.getD ([[(0:Int),(0:Int)],[(1:Int),(0 :
 Int)],[(1:Int),(1:Int)],[(0:Int),(1:Int)]].getD (i64.wrap ((0:Int)+(1:Int))).toNat (K.arr (2:Nat) (K.int i64)).dflt) (Int.toNat (0:Int)) (0 :
 Int))) (i64.wrap ((Z3 n c).snd.snd.fst+List.getD ([[(0:Int),(0:Int)],[(1:Int),(0:Int)],[(1:Int),(1:Int)],[(0:Int),(1:Int)]].getD
 (i64.wrap ((0:Int)+(1:Int))).toNat (K.arr (2:Nat) (K.int i64)).dflt) (Int.toNat (1:Int)) (0:Int)))).fst).set (i64.wrap (i64.wrap ((0 :
 Int)+(1:Int))+(1:Int))).toNat (Z1c n (Z3 n c).fst (i64.wrap ((Z3 n c).snd.fst+List.getD ([[(0:Int),(0:Int)],[(1:Int),(0:Int)],[(1 :
 Int),(1:Int)],[(0:Int),(1:Int)]].getD (i64.wrap (i64.wrap ((0:Int)+(1:Int))+(1:Int))).toNat (K.arr (2:Nat) (K.int i64)).dflt)
 (Int.toNat (0:Int)) (0:Int))) (i64.wrap ((Z3 n c).snd.snd.fst+List.getD ([[(0:Int),(0:Int)],[(1:Int),(0:Int)],[(1:Int),(1:Int)],[(0:Int),(1
 : Int)]].getD (i64.wrap (i64.wrap ((0:Int)+(1:Int))+(1:Int))).toNat (K.arr (2:Nat) (K.int i64)).dflt) (Int.toNat (1:Int)) (0 :
 Int)))).fst).set (i64.wrap (i64.wrap (i64.wrap ((0:Int)+(1:Int))+(1:Int))+(1:Int))).toNat (Z1c n (Z3 n c).fst (i64.wrap
 ((Z3 n c).snd.fst+List.getD ([[(0:Int),(0:Int)],[(1:Int),(0:Int)],[(1:Int),(1:Int)],[(0:Int),(1:Int)]].getD (i64.wrap (i64.wrap
 (i64.wrap ((0:Int)+(1:Int))+(1:Int))+(1:Int))).toNat (K.arr (2:Nat) (K.int i64)).dflt) (Int.toNat (0:Int)) (0:Int))) (i64.wrap
 ((Z3 n c).snd.snd.fst+List.getD ([[(0:Int),(0:Int)],[(1:Int),(0:Int)],[(1:Int),(1:Int)],[(0:Int),(1:Int)]].getD (i64.wrap (i64.wrap
 (i64.wrap ((0:Int)+(1:Int))+(1:Int))+(1:Int))).toNat (K.arr (2:Nat) (K.int i64)).dflt) (Int.toNat (1:Int)) (0:Int)))).fst).length=(4:Nat)),
 post (((((List.replicate (4:Nat) ((K.flt f64).pair ((K.flt f64).pair (K.flt f64))).dflt).set (Int.toNat (0:Int)) (Z1c n (Z3 n
 c).fst (i64.wrap ((Z3 n c).snd.fst+List.getD ([[(0:Int),(0:Int)],[(1:Int),(0:Int)],[(1:Int),(1:Int)],[(0:Int),(1:Int)]].getD (Int.toNat (0 :
 Int)) (K.arr (2:Nat) (K.int i64)).dflt) (Int.toNat (0:Int)) (0:Int))) (i64.wrap ((Z3 n c).snd.snd.fst+List.getD ([[(0:Int),(0:Int)],[(1:Int),
 (0:Int)],[(1:Int),(1:Int)],[(0:Int),(1:Int)]].getD (Int.toNat (0:Int)) (K.arr (2:Nat) (K.int i64)).dflt) (Int.toNat (1:Int)) (0:Int)))).fst).set
 (i64.wrap ((0:Int)+(1:Int))).toNat (Z1c n (Z3 n c).fst (i64.wrap ((Z3 n c).snd.fst+List.getD ([[(0:Int),(0:Int)],[(1:Int),(0 :
 Int)],[(1:Int),(1:Int)],[(0:Int),(1:Int)]].getD (i64.wrap ((0:Int)+(1:Int))).toNat (K.arr (2:Nat) (K.int i64)).dflt) (Int.toNat (0:Int)) (0 :
 Int))) (i64.wrap ((Z3 n c).snd.snd.fst+List.getD ([[(0:Int),(0:Int)],[(1:Int),(0:Int)],[(1:Int),(1:Int)],[(0:Int),(1:Int)]].getD
 (i64.wrap ((0:Int)+(1:Int))).toNat (K.arr (2:Nat) (K.int i64)).dflt) (Int.toNat (1:Int)) (0:Int)))).fst).set (i64.wrap (i64.wrap ((0 :
 Int)+(1:Int))+(1:Int))).toNat (Z1c n (Z3 n c).fst (i64.wrap ((Z3 n c).snd.fst+List.getD ([[(0:Int),(0:Int)],[(1:Int),(0:Int)],[(1 :
 Int),(1:Int)],[(0:Int),(1:Int)]].getD (i64.wrap (i64.wrap ((0:Int)+(1:Int))+(1:Int))).toNat (K.arr (2:Nat) (K.int i64)).dflt)
 (Int.toNat (0:Int)) (0:Int))) (i64.wrap ((Z3 n c).snd.snd.fst+List.getD ([[(0:Int),(0:Int)],[(1:Int),(0:Int)],[(1:Int),(1:Int)],[(0:Int),(1
 : Int)]].getD (i64.wrap (i64.wrap ((0:Int)+(1:Int))+(1:Int))).toNat (K.arr (2:Nat) (K.int i64)).dflt) (Int.toNat (1:Int)) (0 :
 Int)))).fst).set (i64.wrap (i64.wrap (i64.wrap ((0:Int)+(1:Int))+(1:Int))+(1:Int))).toNat (Z1c n (Z3 n c).fst (i64.wrap
 ((Z3 n c).snd.fst+List.getD ([[(0:Int),(0:Int)],[(1:Int),(0:Int)],[(1:Int),(1:Int)],[(0:Int),(1:Int)]].getD (i64.wrap (i64.wrap
 (i64.wrap ((0:Int)+(1:Int))+(1:Int))+(1:Int))).toNat (K.arr (2:Nat) (K.int i64)).dflt) (Int.toNat (0:Int)) (0:Int))) (i64.wrap
 ((Z3 n c).snd.snd.fst+List.getD ([[(0:Int),(0:Int)],[(1:Int),(0:Int)],[(1:Int),(1:Int)],[(0:Int),(1:Int)]].getD (i64.wrap (i64.wrap
 (i64.wrap ((0:Int)+(1:Int))+(1:Int))+(1:Int))).toNat (K.arr (2:Nat) (K.int i64)).dflt) (Int.toNat (1:Int)) (0:Int)))).fst,true,()))
theorem Zu7 (n:Int) (c:Int) (h:II n c):Z8k  n c (fun r=>r=Z12 n c):=by
 obtain ⟨hn,hc⟩:=h
 refine ⟨⟨hn,hc⟩,Br.intro (fun e=>?_) fun e=>?_⟩
 ·refine ⟨⟨by decide,by decide⟩,by decide,?_⟩
  have ok:Zw n c=false:=by
   cases q:Zw n c with
   | false=>rfl
   | true=>unfold Z3 at e; rw [if_pos q] at e; cases e
  unfold Z12; rw [if_neg (by rw [ok]; decide)]
 have ok:Zw n c=true:=by
  cases q:Zw n c with
  | true=>rfl
  | false=>unfold Z3 at e; rw [if_neg (by rw [q]; decide)] at e; cases e
 obtain ⟨h1,h2,h3,h4,h5,h6⟩:=Za2 ok
 obtain ⟨r1,r2,r3,r4,r5,r6⟩:=Zmd ok
 have hp:Z3 n c=(c / (n*n),c % n,c / n % n,true,()):=by unfold Z3; rw [if_pos ok]
 have hf:I64 (c / (n*n)):=⟨by omega,by omega⟩
 have ho:∀ x,0≤x→x≤33→I64 x:=fun x a b=>⟨by omega,by omega⟩
 have w0:∀ x,0≤x→x≤33→i64.wrap (x+0)=x:=fun x a b=>by rw [Int.add_zero,wi (ho x a b)]
 have w1:∀ x,0≤x→x≤32→i64.wrap (x+1)=x+1:=fun x a b=>wi (ho _ (by omega) (by omega))
 have hC:∀ i j,0≤i→i≤n→0≤j→j≤n→Z1c n (c / (n*n)) i j=(Z7t n (c / (n*n)) i j,true,()):=by
  intro i j a1 a2 a3 a4
  unfold Z1c
  rw [if_pos]
  unfold Z5v
  rw [Z2r.2 ⟨h1,h2⟩,decide_eq_true (by omega),decide_eq_true (by omega),decide_eq_true (by omega),decide_eq_true (by omega),decide_eq_true (by omega),decide_eq_true (by omega)]
  rfl
 have a0:=w0 (c % n) (by omega) (by omega)
 have a1:=w1 (c % n) (by omega) (by omega)
 have b0:=w0 (c / n % n) (by omega) (by omega)
 have b1:=w1 (c / n % n) (by omega) (by omega)
 have A0:I64 (i64.wrap (c % n+0)):=by rw [a0]; exact ho _ (by omega) (by omega)
 have A1:I64 (i64.wrap (c % n+1)):=by rw [a1]; exact ho _ (by omega) (by omega)
 have B0:I64 (i64.wrap (c / n % n+0)):=by rw [b0]; exact ho _ (by omega) (by omega)
 have B1:I64 (i64.wrap (c / n % n+1)):=by rw [b1]; exact ho _ (by omega) (by omega)
 rw [hp]
 refine ⟨by decide,⟨by decide,by decide⟩,⟨by decide,by decide,by decide⟩,⟨by decide,by decide,by decide⟩,⟨hn,hf,A0,B0⟩,⟨by decide,by decide,Nat.le_refl 4⟩,
  by decide,⟨by decide,by decide⟩,⟨by decide,by decide,by decide⟩,⟨by decide,by decide,by decide⟩,⟨hn,hf,A1,B0⟩,⟨by decide,by decide,Nat.le_refl 4⟩,
  by decide,⟨by decide,by decide⟩,⟨by decide,by decide,by decide⟩,⟨by decide,by decide,by decide⟩,⟨hn,hf,A1,B1⟩,⟨by decide,by decide,Nat.le_refl 4⟩,
  by decide,⟨by decide,by decide⟩,⟨by decide,by decide,by decide⟩,⟨by decide,by decide,by decide⟩,⟨hn,hf,A0,B1⟩,⟨by decide,by decide,Nat.le_refl 4⟩,rfl,⟨rfl,rfl⟩,rfl,?_⟩
 show ([(Z1c n (c / (n*n)) (i64.wrap (c % n+0)) (i64.wrap (c / n % n+0))).1,(Z1c n (c / (n*n)) (i64.wrap (c % n+1)) (i64.wrap (c / n % n+0))).1,(Z1c n (c / (n*n)) (i64.wrap (c % n+1)) (i64.wrap (c / n % n+1))).1,(Z1c n (c / (n*n)) (i64.wrap (c % n+0)) (i64.wrap (c / n % n+1))).1],true,())=_
 rw [a0,a1,b0,b1,hC _ _ (by omega) (by omega) (by omega) (by omega),hC _ _ (by omega) (by omega) (by omega) (by omega),hC _ _ (by omega) (by omega) (by omega) (by omega),hC _ _ (by omega) (by omega) (by omega) (by omega)]
 unfold Z12; rw [if_pos ok]
def Ze0:=fun (n c:Int) (post:Int × Unit→Prop)=>∃ (h:II n c),∃ (h:(List.replicate (4:Nat) ((K.flt f64).pair ((K.flt f64).pair
 (K.flt f64))).dflt).length=(4:Nat)∧(Z12 n c).fst.length=(4:Nat)),Br (!(Z12 n c).snd.fst) (post ((0:Int),())) (∃ (h:(0:Int)≤(2:Int) ∧
 (2:Int)<(↑(4:Nat):Int)∧(4:Nat)≤(Z12 n c).fst.length),∃ (h:(0:Int)≤(0:Int)∧(0:Int)<(↑(4:Nat):Int)∧(4:Nat)≤(Z12 n c).fst.length),∃
 (h:WV2 ((Z12 n c).fst.getD (Int.toNat (2:Int)) ((K.flt f64).pair ((K.flt f64).pair (K.flt f64))).dflt) ((Z12 n c).fst.getD
 (Int.toNat (0:Int)) ((K.flt f64).pair ((K.flt f64).pair (K.flt f64))).dflt)),∃ (h:(0:Int)≤(3:Int)∧(3:Int)<(↑(4:Nat) :
 Int)∧(4:Nat)≤(Z12 n c).fst.length),∃ (h:(0:Int)≤(1:Int)∧(1:Int)<(↑(4:Nat):Int)∧(4:Nat)≤(Z12 n c).fst.length),∃ (h:WV2 ((Z12 n
 c).fst.getD (Int.toNat (3:Int)) ((K.flt f64).pair ((K.flt f64).pair (K.flt f64))).dflt) ((Z12 n c).fst.getD (Int.toNat (1:Int))
 ((K.flt f64).pair ((K.flt f64).pair (K.flt f64))).dflt)),∃ (h:True),∃ (h:WV (Zma (Z71 ((Z12 n c).fst.getD (Int.toNat (2 :
 Int)) ((K.flt f64).pair ((K.flt f64).pair (K.flt f64))).dflt) ((Z12 n c).fst.getD (Int.toNat (0:Int)) ((K.flt f64).pair
 ((K.flt f64).pair (K.flt f64))).dflt)).fst (Z71 ((Z12 n c).fst.getD (Int.toNat (3:Int)) ((K.flt f64).pair ((K.flt
 f64).pair (K.flt f64))).dflt) ((Z12 n c).fst.getD (Int.toNat (1:Int)) ((K.flt f64).pair ((K.flt f64).pair (K.flt
 f64))).dflt)).fst).fst),∀ (a:Nat),FRes f64 (f64.format.mul (Z49 (Zma (Z71 ((Z12 n c).fst.getD (Int.toNat (2:Int))
 ((K.flt f64).pair ((K.flt f64).pair (K.flt f64))).dflt) ((Z12 n c).fst.getD (Int.toNat (0:Int)) ((K.flt f64).pair
 ((K.flt f64).pair (K.flt f64))).dflt)).fst (Z71 ((Z12 n c).fst.getD (Int.toNat (3:Int)) ((K.flt f64).pair ((K.flt
 f64).pair (K.flt f64))).dflt) ((Z12 n c).fst.getD (Int.toNat (1:Int)) ((K.flt f64).pair ((K.flt f64).pair (K.flt
 f64))).dflt)).fst).fst).fst (4602678819172646912:Nat)) a→∀ (a_1:Nat),FRes f64 (f64.format.mul a (4742290407621132288:Nat)) a_1→∃
 (h:W64 a_1),post (imax (Zdo a_1).fst (1:Int),()))
theorem Z132 (n:Int) (c:Int) (h:II n c):Ze0  n c (fun r=>r=Zte n c):=by
 have g0:∀ i:Nat,WV ((Z12 n c).fst.getD i ((K.flt f64).pair ((K.flt f64).pair (K.flt f64))).dflt):=Z19i n c
 have hl:=Zpu n c
 refine ⟨h,⟨by decide,hl⟩,?_⟩
 rw [hl]
 refine Br.intro (fun e=>?_) fun e=>?_
 ·rw [Zj6] at e
  exact congrArg r1 (by unfold Z1j; rw [if_neg (by intro q; rw [q] at e; cases e)])
 rw [Zj6] at e
 have ok:Zw n c=true:=by simpa using e
 refine ⟨⟨by decide,by decide,Nat.le_refl 4⟩,⟨by decide,by decide,Nat.le_refl 4⟩,⟨g0 2,g0 0⟩,⟨by decide,by decide,Nat.le_refl 4⟩,⟨by decide,by decide,Nat.le_refl 4⟩,⟨g0 3,g0 1⟩,trivial,Z1bb _ _,?_⟩
 intro x hx y hy
 obtain ⟨x1,x2⟩:=fmul hx
 obtain ⟨y1,y2⟩:=fmul hy
 refine ⟨y2,congrArg r1 ?_⟩
 have hs:Z12 n c=([Z1x n c 0 0,Z1x n c 1 0,Z1x n c 1 1,Z1x n c 0 1],true,()):=by
  unfold Z12; rw [if_pos ok]; unfold Z1x; rw [Int.add_zero,Int.add_zero]
 have hq:[Z1x n c 0 0,Z1x n c 1 0,Z1x n c 1 1,Z1x n c 0 1]=(Z12 n c).1:=by rw [hs]
 have hx1:Zf x=mulQ (Ztd n c) Z78:=by
  rw [x1]
  exact congrArg (fun z=>mulQ z 4602678819172646912) (Z1du (z:=(0,0,0)) hq.symm)
 have hy1:Zf y=mulQ (mulQ (Ztd n c) Z78) Zqg:=by
  rw [y1]
  have u:Zf x=Zf (mulQ (Ztd n c) Z78):=by rw [hx1,Zgu]
  exact Z16b u rfl
 show imax (Z3t y).1 1=Z1j n c
 unfold Z1j
 rw [if_pos ok,Z14f y2,hy1]
end Go.Lift

namespace Go.Lift
def Zgj:=fun (a b:Nat) (post:Bool × Unit→Prop)=>∃ (h:True),∃ (h:True),∀ (a_1:Bool),a_1=((Z77 a).fst==(Z77 b).fst)→post (a_1,())
theorem Z14l (a:Nat) (b:Nat):Zgj  a b (fun r=>r=Z16w a b):=by
 refine ⟨trivial,trivial,?_⟩
 rintro _ rfl
 exact congrArg r1 (Z1cn a b)
def Zbl:=fun (post:Nat × Unit→Prop)=>∃ (h:True),post ((Zo1 (9221120237041090561:Int)).fst,())
theorem Zzy  : Zbl   (fun r=>r=qnR):=by
 exact ⟨trivial,rfl⟩
def Zgk:=fun (a:Nat) (post:Nat × Unit→Prop)=>∃ (h:True),∃ (h:True),post ((Zo1 (Go.bits Go.BinOp.andNot u64 (Z77 a).fst (9223372036854775808 :
 Int))).fst,())
theorem Z14m (a:Nat) (h:W64 a):Zgk  a (fun r=>r=absR a):=by
 refine ⟨trivial,trivial,?_⟩
 show r1 (Go.bits .andNot .u64 (a:Int) 9223372036854775808).toNat=_
 rw [Z14a h]; rfl
def Zbm:=fun (a:Nat) (post:Bool × Unit→Prop)=>∀ (a_1:Bool),a_1=fcmp Go.BinOp.neq (f64.format.order a a)→post (a_1,())
theorem Zzz (a:Nat):Zbm  a (fun r=>r=nanR a):=by
 rintro _ rfl
 exact congrArg r1 (Zit a)
def Zbn:=fun (a:Nat) (post:Nat × Unit→Prop)=>∀ (a_1:Bool),a_1=fcmp Go.BinOp.neq (f64.format.order a a)→Br a_1 (∃ (h:True),post (qnR.fst,
 ())) (∀ (a_2:Bool),a_2=fcmp Go.BinOp.eql (f64.format.order a (0:Nat))→Br a_2 (post ((0:Nat),())) (post (a,())))
theorem Z100 (a:Nat):Zbn  a (fun r=>r=Zy a):=by
 rintro _ rfl
 refine Br.intro (fun e=>⟨trivial,?_⟩) fun e=>?_
 ·have e:isN a=true:=(Zit a).symm.trans e
  exact congrArg r1 (by unfold Z21; rw [if_pos e]; rfl)
 ·have e:isN a=false:=(Zit a).symm.trans e
  rintro _ rfl
  refine Br.intro (fun z=>?_) fun z=>?_
  ·have z:=(Z11j a).symm.trans z
   rw [e] at z
   exact congrArg r1 (by unfold Z21; rw [e,if_neg (by simp),if_pos (by simpa using z)])
  ·have z:=(Z11j a).symm.trans z
   rw [e] at z
   exact congrArg r1 (by unfold Z21; rw [e,if_neg (by simp),if_neg (by simpa using z)])
def Ze1:=fun (a:Nat) (post:Nat × Unit→Prop)=>∃ (h:True),∀ (a_1:Bool),a_1=(nanR a).fst→Br a_1 (∃ (h:True),post ((Zo1 (9221120237041090561 :
 Int)).fst,())) (post (a,()))
theorem Z133 (a:Nat):Ze1  a (fun r=>r=Z128 a):=by
 refine ⟨trivial,?_⟩
 rintro _ rfl
 refine Br.intro (fun e=>⟨trivial,?_⟩) fun e=>?_
 ·have e:isN a=true:=e
  exact congrArg r1 (by unfold Zf; rw [if_pos e]; rfl)
 ·have e:isN a=false:=e
  exact congrArg r1 (by unfold Zf; rw [e]; rfl)
def Z7g:=fun (a:Nat) (post:Int × Unit→Prop)=>∃ (h:True),∃ (h:(0:Int)≤(1:Int)),post (u64.wrap ((Z77 a).fst*(2:Int) ^ Min.min
 (Int.toNat (1:Int)) u64.bits),())
theorem Zqv (a:Nat) (h:W64 a):Z7g  a (fun r=>r=Z110 a):=by
 refine ⟨trivial,by decide,?_⟩
 refine congrArg r1 ?_
 show u64.wrap ((a:Int)*2 ^ 1)=_
 rw [IntKind.wrap_u64]; unfold mag2 magI Z2 sw; omega
def Zbo:=fun (a:Nat) (post:Int × Unit→Prop)=>∃ (h:True),∀ (a_1:Bool),a_1=decide ((Z77 a).fst≥(9223372036854775808:Int))→Br a_1 (post (Go.bits
 Go.BinOp.xor u64 (if u64.signed=true then (-1:Int) else u64.max) (Z77 a).fst,())) (post (Go.bits Go.BinOp.or u64 (Z77 a).fst
 (9223372036854775808:Int),()))
theorem Z101 (a:Nat) (h:W64 a):Zbo  a (fun r=>r=Zt5 a):=by
 refine ⟨trivial,?_⟩
 rintro _ rfl
 refine Br.intro (fun e=>?_) fun e=>?_
 ·have e:9223372036854775808≤a:=by have:=of_decide_eq_true e; dsimp only [Z77,r1] at this; omega
  refine congrArg r1 ?_
  show Go.bits .xor .u64 _ (a:Int)=_
  unfold Zh2; rw [if_pos ((Zo2 h).2 e)]
  exact Z1b4 h
 ·have e:a<9223372036854775808:=by have:=of_decide_eq_false e; dsimp only [Z77,r1] at this; omega
  refine congrArg r1 ?_
  show Go.bits .or .u64 (a:Int) 9223372036854775808=_
  unfold Zh2; rw [if_neg (by rw [Zo2 h]; omega)]
  exact Z1co e
def Z59:=fun (a:Int) (post:Bool × Unit→Prop)=>∀ (a_1:Bool),a_1=(a != a)→post (a_1,())
theorem Zky (a:Int):Z59  a (fun r=>r=noR a):=by
 rintro _ rfl
 exact congrArg r1 (by simp)
def Z4b:=fun (a b:Int) (post:Int × Unit→Prop)=>∃ (h:True),∀ (a_1:Bool),a_1=(noR a).fst→∃ (h:True),∀ (a_2:Bool),a_2=(noR b).fst→Br a_1
 (Br a_2 (post ((0:Int),())) (post ((-1:Int),()))) (Br a_2 (post ((1:Int),())) (∀ (a_3:Bool),a_3=decide (a<b)→Br a_3 (post ((-1:Int),())) (∀ (a_4:Bool),a_4
 = decide (a > b)→Br a_4 (post ((1:Int),())) (post ((0:Int),())))))
theorem Zhd (a:Int) (b:Int):Z4b  a b (fun r=>r=cmpR a b):=by
 refine ⟨trivial,?_⟩
 rintro _ rfl
 refine ⟨trivial,?_⟩
 rintro _ rfl
 refine Br.intro (fun e=>by cases e) fun _=>Br.intro (fun e=>by cases e) fun _=>?_
 rintro _ rfl
 refine Br.intro (fun e=>?_) fun e=>?_
 ·exact congrArg r1 (by unfold cmpI; rw [if_pos (of_decide_eq_true e)])
 ·rintro _ rfl
  refine Br.intro (fun f=>?_) fun f=>?_
  ·exact congrArg r1 (by unfold cmpI; rw [if_neg (of_decide_eq_false e),if_pos (of_decide_eq_true f)])
  ·exact congrArg r1 (by unfold cmpI; rw [if_neg (of_decide_eq_false e),if_neg (of_decide_eq_false f)])
def Zbp:=fun (a b:Nat) (post:Int × Unit→Prop)=>∃ (h:W64 a),∃ (h:W64 b),∃ (h:True),post ((cmpR (Zt5 a).fst (Zt5 b).fst).fst,())
theorem Z102 (a:Nat) (b:Nat) (h:W2 a b):Zbp  a b (fun r=>r=ordR a b):=by
 exact ⟨h.1,h.2,trivial,rfl⟩
def Zbq:=fun (a:List Int) (post:Int × Unit→Prop)=>HIs [] []∧∃ (I:Int × Unit→Unit→Prop),∃ (μ:Int × Unit→Unit→Nat),I ((0:Int),()) ()∧∀ (x :
 Int × Unit) (y:Unit),I x y→∀ (a_1:Bool),a_1=decide (x.fst<(↑a.length:Int))→Br a_1 (∃ (h:(0:Int)≤x.fst∧x.fst<(↑a.length:Int)),∀ (a_2:Bool),a_2 =
 (a.getD x.fst.toNat (0:Int) != (0:Int))→Br a_2 (post (a.getD x.fst.toNat (0:Int),())) (HIs [] []∧I (i64.wrap (x.fst+(1:Int)),()) ()∧μ (i64.wrap
 (x.fst+(1:Int)),()) ()<μ x y)) (post ((0:Int),()))
theorem Z103 (a:List Int) (w:KS.wf [.slice (.int .i64)] (a,())):Zbq  a (fun r=>r=orR a):=by
 have hl:a.length≤maxN:=w.1.1
 unfold maxN at hl
 refine ⟨rfl,fun x _=>∃ i:Nat,x.1=i∧i≤a.length∧Z97 (a.drop i)=Z97 a,fun x _=>a.length - x.1.toNat,⟨0,rfl,by omega,rfl⟩,?_⟩
 rintro ⟨_,⟨⟩⟩ _ ⟨i,hi,hil,hn⟩
 dsimp only at hi
 subst hi
 rintro _ rfl
 refine Br.intro (fun e=>?_) fun e=>?_
 ·have e:i<a.length:=by have:=of_decide_eq_true e; dsimp only at this; omega
  have hd:a.drop i=a.getD i 0 :: a.drop (i+1):=by
   rw [List.drop_eq_getElem_cons e,List.getD_eq_getElem?_getD,List.getElem?_eq_getElem e]; rfl
  rw [hd] at hn
  simp only [Int.toNat_natCast]
  refine ⟨⟨by omega,by omega⟩,?_⟩
  rintro _ rfl
  refine Br.intro (fun z=>?_) fun z=>⟨rfl,⟨i+1,?_,by omega,?_⟩,?_⟩
  ·have z:a.getD i 0≠0:=by simpa using z
   refine congrArg r1 ?_
   rw [← hn]; unfold Z97; rw [if_pos z]
  ·rw [wi ⟨by omega,by omega⟩]; omega
  ·have z:a.getD i 0=0:=by simpa using z
   rw [← hn,z]; rfl
  ·rw [wi ⟨by omega,by omega⟩]; omega
 ·have e:a.length≤i:=by have:=of_decide_eq_false e; dsimp only at this; omega
  refine congrArg r1 ?_
  rw [← hn,List.drop_eq_nil_of_le e]; rfl
def Z8l:=fun (a b:Nat) (post:Int × Unit→Prop)=>∃ (h:W64 a),∃ (h:W64 b),∃ (h:True),∃ (h:W2 a b),∃ (h:True),post ((orR [(cmpR (Z110 a).fst (Z110
 b).fst).fst,(ordR a b).fst]).fst,())
theorem Zu8 (a:Nat) (b:Nat) (h:W2 a b):Z8l  a b (fun r=>r=Zj3 a b):=by
 refine ⟨h.1,h.2,trivial,h,trivial,?_⟩
 refine congrArg r1 ?_
 unfold cmpM
 show Z97 [cmpI (mag2 a) (mag2 b),ordF a b]=_
 simp only [Z97]
 split
 ·rfl
 ·split
  ·rfl
  ·rename_i z; simpa using (by simpa using z:ordF a b=0).symm
def Zbr:=fun (a:Nat) (b:Int) (post:Bool × Unit→Prop)=>∀ (a_1:Bool),a_1=(b==(0:Int))→Br a_1 (∃ (h:W64 a),∀ (a_2:Bool),a_2=fcmp Go.BinOp.gtr
 (f64.format.order (absR a).fst (9218868437227405311:Nat))→post (a_2,())) (∀ (a_2:Bool),a_2=decide (b<(0:Int))→Br a_2 (∀ (a_3:Bool),a_3=fcmp
 Go.BinOp.gtr (f64.format.order (Go.Op.negFloat f64 a) (9218868437227405311:Nat))→post (a_3,())) (∀ (a_3:Bool),a_3=fcmp Go.BinOp.gtr
 (f64.format.order a (9218868437227405311:Nat))→post (a_3,())))
theorem Z104 (a:Nat) (b:Int) (h:WI a b):Zbr  a b (fun r=>r=Z16x a b):=by
 have h:W64 a:=h
 rintro _ rfl
 refine Br.intro (fun e=>⟨h,?_⟩) fun e=>?_
 ·have e:b=0:=by simpa using e
  rintro _ rfl
  refine congrArg r1 ?_
  show fcmp .gtr (Ieee.double.order (Z2 a) 9218868437227405311)=_
  unfold infS; rw [if_pos e,Z12a]
  have:=Z15h a
  have e1:Z2 (Z2 a)=Z2 a:=Zw3 this
  have e2:sgn (Z2 a)=false:=by rw [Z15g (by unfold W64; omega)]; simp; omega
  rw [e1,e2]; simp
 ·have e:b≠0:=by simpa using e
  rintro _ rfl
  refine Br.intro (fun f=>?_) fun f=>?_
  ·have f:b<0:=of_decide_eq_true f
   rintro _ rfl
   refine congrArg r1 ?_
   show fcmp .gtr (Ieee.double.order (negF a) 9218868437227405311)=_
   unfold infS; rw [if_neg e,if_pos f,Z12a,(Zyu h).1,Z129 h]; simp
  ·have f:¬ b<0:=of_decide_eq_false f
   rintro _ rfl
   refine congrArg r1 ?_
   show fcmp .gtr (Ieee.double.order a 9218868437227405311)=_
   unfold infS; rw [if_neg e,if_neg f,Z12a]
end Go.Lift

namespace Go.Lift
open Go.Proofs
def Z2p:Con:=.det [.flt .f64] [.snap (.int .u64)] (fun _=>True) (fun x=>Z77 x.1)
theorem Z36:Z2p.holds Tryz.prog RbG 120:=by
 refine Z17f (fn:=Tryz.f120) Tryz.func120 (by decide) rfl rfl (by kernel_rfl)
def Z2q:Con:=.det [.int .u64] [.snap (.flt .f64)] (fun _=>True) (fun x=>Zo1 x.1)
theorem Z3h:Z2q.holds Tryz.prog RbG 146:=by
 refine Z17g (fn:=Tryz.f146) Tryz.func146 (by decide) rfl rfl (by kernel_rfl)
def Zk8:Con:=.rel [.flt .f64] [.snap (.flt .f64)] (fun _=>True) (fun x r=>Zf6 x.1 r) (fun x h=>Z15f (Z155 _) (Zvr _))
theorem Z105:Zk8.holds Tryz.prog RbG 166:=by
 refine Z1bs (fn:=Tryz.f166) Tryz.func166 (by decide) rfl rfl (by kernel_rfl)
def Zmr:Con:=.det [.flt .f64,.flt .f64] [.snap .bool] (fun _=>True) (fun x=>Z16w x.1 x.2.1)
def Zms:Cx:=⟨Zx Z10,Zz [(120,Z2p)],RbG⟩
theorem Zu9:CxOk Tryz.prog Zms:=⟨Z8 Zb,Zd ⟨Z36,trivial⟩⟩
theorem Z106:FnAt Tryz.prog 90 Tryz.f90.ntmps Tryz.f90.results.toList (Tryz.f90.body.getD .skip):=⟨Tryz.f90,Tryz.func90,rfl,rfl,by simp,by decide⟩
theorem Z107 (a:Nat) (b:Nat) (post:Bool × Unit→Prop):Zi Zms nHn Tryz.f90.ntmps Tryz.f90.results.toList (Tryz.f90.body.getD .skip) [.flt .f64,.flt .f64] [.snap .bool] (a,b,()) post=Zgj  a b post:=by kernel_rfl
theorem Z134:Zmr.holds Tryz.prog RbG 90 :=
 detP Zu9 Zc nHn Z106 (F:=fun x post=>Zgj  x.1 x.2.1 post) (fun x post=>Z107 x.1 x.2.1 post) fun x _ _=>Z14l  x.1 x.2.1
def Zhe:Con:=.det [] [.snap (.flt .f64)] (fun _=>True) (fun x=>qnR)
def Zhf:Cx:=⟨Zx Z10,Zz [(146,Z2q)],RbG⟩
theorem Zop:CxOk Tryz.prog Zhf:=⟨Z8 Zb,Zd ⟨Z3h,trivial⟩⟩
theorem Zua:FnAt Tryz.prog 119 Tryz.f119.ntmps Tryz.f119.results.toList (Tryz.f119.body.getD .skip):=⟨Tryz.f119,Tryz.func119,rfl,rfl,by simp,by decide⟩
theorem Zub  (post:Nat × Unit→Prop):Zi Zhf nHn Tryz.f119.ntmps Tryz.f119.results.toList (Tryz.f119.body.getD .skip) [] [.snap (.flt .f64)] (()) post=Zbl   post:=by kernel_rfl
theorem Zwy:Zhe.holds Tryz.prog RbG 119 :=
 detP Zop Zc nHn Zua (F:=fun x post=>Zbl   post) (fun x post=>Zub  post) fun x _ _=>Zzy
def Ze2:Con:=.det [.flt .f64] [.snap (.flt .f64)] (fun x=>W64 x.1) (fun x=>absR x.1)
def Zmt:Cx:=⟨Zx Z10,Zz [(120,Z2p),(146,Z2q)],RbG⟩
theorem Zuc:CxOk Tryz.prog Zmt:=⟨Z8 Zb,Zd ⟨Z36,Z3h,trivial⟩⟩
theorem Z108:FnAt Tryz.prog 151 Tryz.f151.ntmps Tryz.f151.results.toList (Tryz.f151.body.getD .skip):=⟨Tryz.f151,Tryz.func151,rfl,rfl,by simp,by decide⟩
theorem Z109 (a:Nat) (post:Nat × Unit→Prop):Zi Zmt nHn Tryz.f151.ntmps Tryz.f151.results.toList (Tryz.f151.body.getD .skip) [.flt .f64] [.snap (.flt .f64)] (a,()) post=Zgk  a post:=by kernel_rfl
theorem Zmu:Ze2.holds Tryz.prog RbG 151 :=
 detP Zuc Zc nHn Z108 (F:=fun x post=>Zgk  x.1 post) (fun x post=>Z109 x.1 post) fun x h _=>Z14m  x.1 h
def Zhg:Con:=.det [.flt .f64] [.snap .bool] (fun _=>True) (fun x=>nanR x.1)
def Zhh:Cx:=⟨Zx Z10,Zz [],RbG⟩
theorem Zoq:CxOk Tryz.prog Zhh:=⟨Z8 Zb,fun f c h=>by cases h⟩
theorem Zud:FnAt Tryz.prog 197 Tryz.f197.ntmps Tryz.f197.results.toList (Tryz.f197.body.getD .skip):=⟨Tryz.f197,Tryz.func197,rfl,rfl,by simp,by decide⟩
theorem Zue (a:Nat) (post:Bool × Unit→Prop):Zi Zhh nHn Tryz.f197.ntmps Tryz.f197.results.toList (Tryz.f197.body.getD .skip) [.flt .f64] [.snap .bool] (a,()) post=Zbm  a post:=by kernel_rfl
theorem Zwz:Zhg.holds Tryz.prog RbG 197 :=
 detP Zoq Zc nHn Zud (F:=fun x post=>Zbm  x.1 post) (fun x post=>Zue x.1 post) fun x _ _=>Zzz  x.1
def Z4c:Con:=.det [.flt .f64] [.snap (.flt .f64)] (fun _=>True) (fun x=>Zy x.1)
def Zhi:Cx:=⟨Zx Z10,Zz [(119,Zhe)],RbG⟩
theorem Zor:CxOk Tryz.prog Zhi:=⟨Z8 Zb,Zd ⟨Zwy,trivial⟩⟩
theorem Zuf:FnAt Tryz.prog 88 Tryz.f88.ntmps Tryz.f88.results.toList (Tryz.f88.body.getD .skip):=⟨Tryz.f88,Tryz.func88,rfl,rfl,by simp,by decide⟩
theorem Zug (a:Nat) (post:Nat × Unit→Prop):Zi Zhi nHn Tryz.f88.ntmps Tryz.f88.results.toList (Tryz.f88.body.getD .skip) [.flt .f64] [.snap (.flt .f64)] (a,()) post=Zbn  a post:=by kernel_rfl
theorem Z6l:Z4c.holds Tryz.prog RbG 88 :=
 detP Zor Zc nHn Zuf (F:=fun x post=>Zbn  x.1 post) (fun x post=>Zug x.1 post) fun x _ _=>Z100  x.1
def Zk9:Con:=.det [.flt .f64] [.snap (.flt .f64)] (fun _=>True) (fun x=>Z128 x.1)
def Zka:Cx:=⟨Zx Z10,Zz [(197,Zhg),(146,Z2q)],RbG⟩
theorem Zqw:CxOk Tryz.prog Zka:=⟨Z8 Zb,Zd ⟨Zwz,Z3h,trivial⟩⟩
theorem Zx0:FnAt Tryz.prog 182 Tryz.f182.ntmps Tryz.f182.results.toList (Tryz.f182.body.getD .skip):=⟨Tryz.f182,Tryz.func182,rfl,rfl,by simp,by decide⟩
theorem Zx1 (a:Nat) (post:Nat × Unit→Prop):Zi Zka nHn Tryz.f182.ntmps Tryz.f182.results.toList (Tryz.f182.body.getD .skip) [.flt .f64] [.snap (.flt .f64)] (a,()) post=Ze1  a post:=by kernel_rfl
theorem Z10a:Zk9.holds Tryz.prog RbG 182 :=
 detP Zqw Zc nHn Zx0 (F:=fun x post=>Ze1  x.1 post) (fun x post=>Zx1 x.1 post) fun x _ _=>Z133  x.1
def Zc8:Con:=.det [.flt .f64] [.snap (.int .u64)] (fun x=>W64 x.1) (fun x=>Z110 x.1)
def Zc9:Cx:=⟨Zx Z10,Zz [(120,Z2p)],RbG⟩
theorem Zjj:CxOk Tryz.prog Zc9:=⟨Z8 Zb,Zd ⟨Z36,trivial⟩⟩
theorem Zmv:FnAt Tryz.prog 170 Tryz.f170.ntmps Tryz.f170.results.toList (Tryz.f170.body.getD .skip):=⟨Tryz.f170,Tryz.func170,rfl,rfl,by simp,by decide⟩
theorem Zmw (a:Nat) (post:Int × Unit→Prop):Zi Zc9 nHn Tryz.f170.ntmps Tryz.f170.results.toList (Tryz.f170.body.getD .skip) [.flt .f64] [.snap (.int .u64)] (a,()) post=Z7g  a post:=by kernel_rfl
theorem Zos:Zc8.holds Tryz.prog RbG 170 :=
 detP Zjj Zc nHn Zmv (F:=fun x post=>Z7g  x.1 post) (fun x post=>Zmw x.1 post) fun x h _=>Zqv  x.1 h
def Zhj:Con:=.det [.flt .f64] [.snap (.int .u64)] (fun x=>W64 x.1) (fun x=>Zt5 x.1)
def Zhk:Cx:=⟨Zx Z10,Zz [(120,Z2p)],RbG⟩
theorem Zot:CxOk Tryz.prog Zhk:=⟨Z8 Zb,Zd ⟨Z36,trivial⟩⟩
theorem Zuh:FnAt Tryz.prog 118 Tryz.f118.ntmps Tryz.f118.results.toList (Tryz.f118.body.getD .skip):=⟨Tryz.f118,Tryz.func118,rfl,rfl,by simp,by decide⟩
theorem Zui (a:Nat) (post:Int × Unit→Prop):Zi Zhk nHn Tryz.f118.ntmps Tryz.f118.results.toList (Tryz.f118.body.getD .skip) [.flt .f64] [.snap (.int .u64)] (a,()) post=Zbo  a post:=by kernel_rfl
theorem Zx2:Zhj.holds Tryz.prog RbG 118 :=
 detP Zot Zc nHn Zuh (F:=fun x post=>Zbo  x.1 post) (fun x post=>Zui x.1 post) fun x h _=>Z101  x.1 h
def Z8m:Con:=.det [.int .u64] [.snap .bool] (fun _=>True) (fun x=>noR x.1)
def Z8n:Cx:=⟨Zx Z10,Zz [],RbG⟩
theorem Zeo:CxOk Tryz.prog Z8n:=⟨Z8 Zb,fun f c h=>by cases h⟩
theorem Zhl:FnAt Tryz.prog 145 Tryz.f145.ntmps Tryz.f145.results.toList (Tryz.f145.body.getD .skip):=⟨Tryz.f145,Tryz.func145,rfl,rfl,by simp,by decide⟩
theorem Zhm (a:Int) (post:Bool × Unit→Prop):Zi Z8n nHn Tryz.f145.ntmps Tryz.f145.results.toList (Tryz.f145.body.getD .skip) [.int .u64] [.snap .bool] (a,()) post=Z59  a post:=by kernel_rfl
theorem Zjk:Z8m.holds Tryz.prog RbG 145 :=
 detP Zeo Zc nHn Zhl (F:=fun x post=>Z59  x.1 post) (fun x post=>Zhm x.1 post) fun x _ _=>Zky  x.1
def Z3y:Con:=.det [.int .u64,.int .u64] [.snap (.int .i64)] (fun _=>True) (fun x=>cmpR x.1 x.2.1)
def Z73:Cx:=⟨Zx Z10,Zz [(145,Z8m)],RbG⟩
theorem Zcx:CxOk Tryz.prog Z73:=⟨Z8 Zb,Zd ⟨Zjk,trivial⟩⟩
theorem Zep:FnAt Tryz.prog 117 Tryz.f117.ntmps Tryz.f117.results.toList (Tryz.f117.body.getD .skip):=⟨Tryz.f117,Tryz.func117,rfl,rfl,by simp,by decide⟩
theorem Zeq (a:Int) (b:Int) (post:Int × Unit→Prop):Zi Z73 nHn Tryz.f117.ntmps Tryz.f117.results.toList (Tryz.f117.body.getD .skip) [.int .u64,.int .u64] [.snap (.int .i64)] (a,b,()) post=Z4b  a b post:=by kernel_rfl
theorem Z74:Z3y.holds Tryz.prog RbG 117 :=
 detP Zcx Zc nHn Zep (F:=fun x post=>Z4b  x.1 x.2.1 post) (fun x post=>Zeq x.1 x.2.1 post) fun x _ _=>Zhd  x.1 x.2.1
def Z9m:Con:=.det [.flt .f64,.flt .f64] [.snap (.int .i64)] (fun x=>W2 x.1 x.2.1) (fun x=>ordR x.1 x.2.1)
def Zhn:Cx:=⟨Zx Z10,Zz [(118,Zhj),(117,Z3y)],RbG⟩
theorem Zou:CxOk Tryz.prog Zhn:=⟨Z8 Zb,Zd ⟨Zx2,Z74,trivial⟩⟩
theorem Zuj:FnAt Tryz.prog 87 Tryz.f87.ntmps Tryz.f87.results.toList (Tryz.f87.body.getD .skip):=⟨Tryz.f87,Tryz.func87,rfl,rfl,by simp,by decide⟩
theorem Zuk (a:Nat) (b:Nat) (post:Int × Unit→Prop):Zi Zhn nHn Tryz.f87.ntmps Tryz.f87.results.toList (Tryz.f87.body.getD .skip) [.flt .f64,.flt .f64] [.snap (.int .i64)] (a,b,()) post=Zbp  a b post:=by kernel_rfl
theorem Zho:Z9m.holds Tryz.prog RbG 87 :=
 detP Zou Zc nHn Zuj (F:=fun x post=>Zbp  x.1 x.2.1 post) (fun x post=>Zuk x.1 x.2.1 post) fun x h _=>Z102  x.1 x.2.1 h
def Zhp:Con:=.det [.slice (.int .i64)] [.snap (.int .i64)] (fun _=>True) (fun x=>orR x.1)
def Zfl:Hn:={ loops:=fun k=>match k with | 3=>some { ls:=[(.slot 8,.data (.int .i64))],os:=[] } | _=>none,joins:=fun _=>none,named:=true }
def Zhq:Cx:=⟨Zx Z10,Zz [],RbG⟩
theorem Zov:CxOk Tryz.prog Zhq:=⟨Z8 Zb,fun f c h=>by cases h⟩
theorem Zul:FnAt Tryz.prog 169 Tryz.f169.ntmps Tryz.f169.results.toList (Tryz.f169.body.getD .skip):=⟨Tryz.f169,Tryz.func169,rfl,rfl,by simp,by decide⟩
theorem Zum (a:List Int) (post:Int × Unit→Prop):Zi Zhq Zfl Tryz.f169.ntmps Tryz.f169.results.toList (Tryz.f169.body.getD .skip) [.slice (.int .i64)] [.snap (.int .i64)] (a,()) post=Zbq  a post:=by kernel_rfl
theorem Zx3:Zhp.holds Tryz.prog RbG 169 :=
 detP Zov Zc Zfl Zul (F:=fun x post=>Zbq  x.1 post) (fun x post=>Zum x.1 post) fun x _ w=>Z103  x.1 w
def Ze3:Con:=.det [.flt .f64,.flt .f64] [.snap (.int .i64)] (fun x=>W2 x.1 x.2.1) (fun x=>Zj3 x.1 x.2.1)
def Ze4:Cx:=⟨Zx Z10,Zz [(170,Zc8),(117,Z3y),(87,Z9m),(169,Zhp)],RbG⟩
theorem Zkz:CxOk Tryz.prog Ze4:=⟨Z8 Zb,Zd ⟨Zos,Z74,Zho,Zx3,trivial⟩⟩
theorem Zow:FnAt Tryz.prog 168 Tryz.f168.ntmps Tryz.f168.results.toList (Tryz.f168.body.getD .skip):=⟨Tryz.f168,Tryz.func168,rfl,rfl,by simp,by decide⟩
theorem Zox (a:Nat) (b:Nat) (post:Int × Unit→Prop):Zi Ze4 nHn Tryz.f168.ntmps Tryz.f168.results.toList (Tryz.f168.body.getD .skip) [.flt .f64,.flt .f64] [.snap (.int .i64)] (a,b,()) post=Z8l  a b post:=by kernel_rfl
theorem Zqx:Ze3.holds Tryz.prog RbG 168 :=
 detP Zkz Zc nHn Zow (F:=fun x post=>Z8l  x.1 x.2.1 post) (fun x post=>Zox x.1 x.2.1 post) fun x h _=>Zu8  x.1 x.2.1 h
def Zhr:Con:=.det [.flt .f64,.int .i64] [.snap .bool] (fun x=>WI x.1 x.2.1) (fun x=>Z16x x.1 x.2.1)
def Zhs:Cx:=⟨Zx Z10,Zz [(151,Ze2)],RbG⟩
theorem Zoy:CxOk Tryz.prog Zhs:=⟨Z8 Zb,Zd ⟨Zmu,trivial⟩⟩
theorem Zun:FnAt Tryz.prog 173 Tryz.f173.ntmps Tryz.f173.results.toList (Tryz.f173.body.getD .skip):=⟨Tryz.f173,Tryz.func173,rfl,rfl,by simp,by decide⟩
theorem Zuo (a:Nat) (b:Int) (post:Bool × Unit→Prop):Zi Zhs nHn Tryz.f173.ntmps Tryz.f173.results.toList (Tryz.f173.body.getD .skip) [.flt .f64,.int .i64] [.snap .bool] (a,b,()) post=Zbr  a b post:=by kernel_rfl
theorem Zx4:Zhr.holds Tryz.prog RbG 173 :=
 detP Zoy Zc nHn Zun (F:=fun x post=>Zbr  x.1 x.2.1 post) (fun x post=>Zuo x.1 x.2.1 post) fun x h _=>Z104  x.1 x.2.1 h
end Go.Lift

namespace Go.Lift
def Ze5:=fun (a b c:Nat) (post:(Nat × Nat × Nat) × Unit→Prop)=>∃ (h:True),∃ (h:True),∃ (h:True),post (((Zy a).fst,(Zy b).fst,(Zy c).fst),
 ())
theorem Z135 (a:Nat) (b:Nat) (c:Nat):Ze5  a b c (fun r=>r=Z48 a b c):=by
 exact ⟨trivial,trivial,trivial,rfl⟩
def Ze6:=fun (a b:Nat × Nat × Nat) (post:(Nat × Nat × Nat) × Unit→Prop)=>∀ (a_1:Nat),FRes f64 (f64.format.sub a.fst b.fst) a_1→∀
 (a_2:Nat),FRes f64 (f64.format.sub a.snd.fst b.snd.fst) a_2→∀ (a_3:Nat),FRes f64 (f64.format.sub a.snd.snd b.snd.snd)
 a_3→∃ (h:True),post (((Z48 a_1 a_2 a_3).fst.fst,(Z48 a_1 a_2 a_3).fst.snd.fst,(Z48 a_1 a_2 a_3).fst.snd.snd),())
theorem Z136 (a:Nat × Nat × Nat) (b:Nat × Nat × Nat) (h:WV2 a b):Ze6  a b (fun r=>r=Z71 a b):=by
 intro x hx y hy z hz
 exact ⟨trivial,congrArg r1 (Zdn (fsub hx).1 (fsub hy).1 (fsub hz).1)⟩
def Ze7:=fun (a b:Nat × Nat × Nat) (post:(Nat × Nat × Nat) × Unit→Prop)=>∀ (a_1:Nat),FRes f64 (f64.format.mul a.snd.fst b.snd.snd)
 a_1→∀ (a_2:Nat),FRes f64 (f64.format.mul a.snd.snd b.snd.fst) a_2→∀ (a_3:Nat),FRes f64 (f64.format.sub a_1 a_2) a_3 →
 ∀ (a_4:Nat),FRes f64 (f64.format.mul a.snd.snd b.fst) a_4→∀ (a_5:Nat),FRes f64 (f64.format.mul a.fst b.snd.snd) a_5→∀
 (a_6:Nat),FRes f64 (f64.format.sub a_4 a_5) a_6→∀ (a_7:Nat),FRes f64 (f64.format.mul a.fst b.snd.fst) a_7→∀ (a_8 :
 Nat),FRes f64 (f64.format.mul a.snd.fst b.fst) a_8→∀ (a:Nat),FRes f64 (f64.format.sub a_7 a_8) a→∃ (h:True),post
 (((Z48 a_3 a_6 a).fst.fst,(Z48 a_3 a_6 a).fst.snd.fst,(Z48 a_3 a_6 a).fst.snd.snd),())
theorem Z137 (a:Nat × Nat × Nat) (b:Nat × Nat × Nat):Ze7  a b (fun r=>r=Zma a b):=by
 intro x1 h1 x2 h2 x3 h3 x4 h4 x5 h5 x6 h6 x7 h7 x8 h8 x9 h9
 exact ⟨trivial,congrArg r1 (Zdn (Zw5 (fmul h1).1 (fmul h2).1 (fsub h3).1) (Zw5 (fmul h4).1 (fmul h5).1 (fsub h6).1) (Zw5 (fmul h7).1 (fmul h8).1 (fsub h9).1))⟩
def Ze8:=fun (a:Nat) (post:Nat × Unit→Prop)=>∃ (h:True),∀ (a_1:Nat × Unit),Zf6 a a_1→post (a_1.fst,())
theorem Z138 (a:Nat):Ze8  a (fun r=>Zf6 a r):=by
 exact ⟨trivial,fun x hx=>hx⟩
def Zbs:=fun (a:Nat × Nat × Nat) (post:Nat × Unit→Prop)=>∀ (a_1:Nat),FRes f64 (f64.format.mul a.fst a.fst) a_1→∀ (a_2:Nat),FRes
 f64 (f64.format.mul a.snd.fst a.snd.fst) a_2→∀ (a_3:Nat),FRes f64 (f64.format.mul a.snd.snd a.snd.snd) a_3→∃ (h:W3 a_1
 a_2 a_3),∃ (h:True),∀ (a:Nat × Unit),Zf6 (Zt6 a_1 a_2 a_3).fst a→∃ (h:True),post ((Zy a.fst).fst,())
theorem Z10b (a:Nat × Nat × Nat) (h:WV a):Zbs  a (fun r=>r=Z49 a):=by
 intro x hx y hy z hz
 exact ⟨⟨(fmul hx).2,(fmul hy).2,(fmul hz).2⟩,trivial,fun w hw=>⟨trivial,congrArg r1 (length_eq (fmul hx).1 (fmul hy).1 (fmul hz).1 hw.1)⟩⟩
def Zjl:=fun (a b:Nat × Nat × Nat) (post:Nat × Unit→Prop)=>∃ (h:WV2 (a.fst,a.snd.fst,a.snd.snd) (b.fst,b.snd.fst,b.snd.snd)),∃ (h:WV (Z71 (a.fst,
 a.snd.fst,a.snd.snd) (b.fst,b.snd.fst,b.snd.snd)).fst),post ((Z49 (Z71 (a.fst,a.snd.fst,a.snd.snd) (b.fst,b.snd.fst,b.snd.snd)).fst).fst,())
theorem Z17n (a:Nat × Nat × Nat) (b:Nat × Nat × Nat) (h:WV2 a b):Zjl  a b (fun r=>r=gapR a b):=by
 exact ⟨h,Z1b7 _ _,rfl⟩
def Zgl:=fun (a:Nat × Nat × Nat) (post:(Nat × Nat × Nat) × Unit→Prop)=>∃ (h:WV (a.fst,a.snd.fst,a.snd.snd)),∀ (a_1:Bool),a_1=fcmp Go.BinOp.gtr
 (f64.format.order (Z49 (a.fst,a.snd.fst,a.snd.snd)).fst (0:Nat))→Br (!a_1) (post (((0:Nat),(0:Nat),(0:Nat)),())) (∃ (h:WI (Z49 (a.fst,
 a.snd.fst,a.snd.snd)).fst (1:Int)),∀ (a_2:Bool),a_2=(Z16x (Z49 (a.fst,a.snd.fst,a.snd.snd)).fst (1:Int)).fst→Br a_2 (post (((0:Nat),(0:Nat),(0:Nat)),
 ())) (∀ (a_3:Nat),FRes f64 (f64.format.div a.fst (Z49 (a.fst,a.snd.fst,a.snd.snd)).fst) a_3→∀ (a_4:Nat),FRes f64
 (f64.format.div a.snd.fst (Z49 (a.fst,a.snd.fst,a.snd.snd)).fst) a_4→∀ (a_5:Nat),FRes f64 (f64.format.div a.snd.snd (Z49
 (a.fst,a.snd.fst,a.snd.snd)).fst) a_5→∃ (h:True),post (((Z48 a_3 a_4 a_5).fst.fst,(Z48 a_3 a_4 a_5).fst.snd.fst,(Z48 a_3 a_4 a_5).fst.snd.snd),())))
theorem Z14n (a:Nat × Nat × Nat) (h:WV a):Zgl  a (fun r=>r=Zt8 a):=by
 refine ⟨h,?_⟩
 have hs:=Z14c a
 have hg:=Z1cr hs
 rintro _ rfl
 refine Br.intro (fun e=>?_) fun e=>⟨Z199 a,?_⟩
 ·have e:(!fcmp .gtr (Ieee.double.order (Z1g a) 0))=true:=e
  rw [hg] at e
  refine (congrArg r1 (Zyv ?_)).symm
  rw [Zw6]
  rintro ⟨h1,h2⟩
  have:isN (Z1g a)=false:=by unfold isN; simp; omega
  rw [this] at e
  simp [h1] at e
 ·have e:(!fcmp .gtr (Ieee.double.order (Z1g a) 0))=false:=e
  rw [hg] at e
  have e:isN (Z1g a)=false∧Z2 (Z1g a)≠0:=by simpa using e
  have hi:infS (Z1g a) 1=decide (Z2 (Z1g a)=infR):=by unfold infS; rw [if_neg (by decide),if_neg (by decide),hs]; simp
  rintro _ rfl
  refine Br.intro (fun f=>?_) fun f=>?_
  ·have f:infS (Z1g a) 1=true:=f
   rw [hi] at f
   have f:=of_decide_eq_true f
   exact (congrArg r1 (Zyv (by rw [Zw6]; rintro ⟨h1,h2⟩; omega))).symm
  ·have f:infS (Z1g a) 1=false:=f
   rw [hi] at f
   have f:=of_decide_eq_false f
   have g:Z2 (Z1g a)≤infR:=by have:=e.1; unfold isN at this; simpa using this
   intro x hx y hy z hz
   exact ⟨trivial,congrArg r1 (Z19a ((Zw6 _).2 ⟨e.2,by omega⟩) (fdiv hx).1 (fdiv hy).1 (fdiv hz).1)⟩
end Go.Lift

namespace Go.Lift
def Zjm:=fun (a:List Nat) (post:Nat × Unit→Prop)=>∀ (a_1:Bool),a_1=((↑a.length:Int)==(0:Int))→Br a_1 (post ((0:Nat),())) (∃ (h:(0:Int)≤(0 :
 Int)∧(0:Int)<(↑a.length:Int)),∃ (h:(0:Int)≤(1:Int)∧(1:Int)≤(↑a.length:Int)∧(↑a.length:Int)≤(↑a.length:Int)),HIs [] []∧∃ (I:Nat × Int × Unit →
 Unit→Prop),∃ (μ:Nat × Int × Unit→Unit→Nat),I (a.getD (Int.toNat (0:Int)) (0:Nat),(0:Int),()) ()∧∀ (x:Nat × Int × Unit) (y:Unit),I x y→∀ (a_2:Bool),
 a_2=decide (x.snd.fst<(↑(List.take ((↑a.length:Int) - (1:Int)).toNat (List.drop (Int.toNat (1:Int)) a)).length:Int))→Br a_2 (∃ (h:(0:Int)≤x.snd.fst∧x.snd.fst
 < (↑(List.take ((↑a.length:Int) - (1:Int)).toNat (List.drop (Int.toNat (1:Int)) a)).length:Int)),∀ (a_3:Nat),FRes f64 (f64.format.add x.fst
 ((List.take ((↑a.length:Int) - (1:Int)).toNat (List.drop (Int.toNat (1:Int)) a)).getD x.snd.fst.toNat (0:Nat))) a_3→HIs [] []∧I (a_3,i64.wrap (x.snd.fst+(1
 : Int)),()) ()∧μ (a_3,i64.wrap (x.snd.fst+(1:Int)),()) ()<μ x y) (∃ (h:True),post ((Z128 x.fst).fst,())))
theorem Z17o (a:List Nat) (h:WL a) (w:KS.wf [.slice (.flt .f64)] (a,())):Zjm  a (fun r=>r=rowR a):=by
 have hl:a.length≤maxN:=w.1.1
 unfold maxN at hl
 rintro _ rfl
 refine Br.intro (fun e=>?_) fun e=>?_
 ·have e:a.length=0:=by have:=eq_of_beq e; omega
  have:a=[]:=List.eq_nil_of_length_eq_zero e
  subst this; rfl
 ·have e:0<a.length:=by
   rcases Nat.eq_zero_or_pos a.length with z | z
   ·rw [z] at e; cases e
   ·exact z
  refine ⟨⟨by omega,by omega⟩,⟨by omega,by omega,by omega⟩,rfl,fun x _=>∃ i:Nat,x.2.1=i∧i+1≤a.length∧W64 x.1∧Zf x.1=rowQ (a.take (i+1)),fun x _=>a.length - x.2.1.toNat,⟨0,rfl,by omega,Z1cq h 0,(Z1b5 e).symm⟩,?_⟩
  have ht:List.take ((a.length:Int) - 1).toNat (List.drop (Int.toNat 1) a)=a.drop 1:=by
   show List.take ((a.length:Int) - 1).toNat (List.drop 1 a)=a.drop 1
   apply List.take_of_length_le; rw [List.length_drop]; omega
  rw [ht]
  have hd:∀ i,(a.drop 1).getD i 0=a.getD (i+1) 0:=by
   intro i; rw [List.getD_eq_getElem?_getD,List.getD_eq_getElem?_getD,List.getElem?_drop,Nat.add_comm]
  rintro ⟨acc,_,⟨⟩⟩ _ ⟨i,hi,hil,hw,hq⟩
  dsimp only at hi hw hq
  subst hi
  dsimp only
  rintro _ rfl
  refine Br.intro (fun f=>?_) fun f=>?_
  ·have f:i+1<a.length:=by have:=of_decide_eq_true f; rw [List.length_drop] at this; omega
   refine ⟨⟨by omega,by rw [List.length_drop]; omega⟩,fun r hr=>?_⟩
   rw [Int.toNat_natCast,hd] at hr
   obtain ⟨q1,q2⟩:=fadd hr
   refine ⟨rfl,⟨i+1,?_,by omega,q2,?_⟩,?_⟩
   ·rw [wi ⟨by omega,by omega⟩]; omega
   ·show Zf r=_
    rw [q1,Z1cp f (by omega),Z169 (x':=rowQ (a.take (i+1))) (by rw [hq,Z1do]) rfl]
   ·rw [wi ⟨by omega,by omega⟩]; omega
  ·have f:a.length≤i+1:=by have:=of_decide_eq_false f; rw [List.length_drop] at this; omega
   refine ⟨trivial,congrArg r1 ?_⟩
   show Zf acc=_
   rw [hq,List.take_of_length_le f]
def Ze9:=fun (a b c:Nat) (post:Nat × Unit→Prop)=>∃ (h:(List.replicate (3:Nat) (0:Nat)).length=(3:Nat)∧(3:Nat)=(3:Nat)),∃ (h:(0:Int)≤(0 :
 Int)∧(0:Int)≤(3:Int)∧(3:Int)≤(3:Int)∧(3:Nat)=(3:Nat)),∃ (h:Zo3 (3:Int)),∃ (h:(0:Int)≤(1:Int)∧(1:Int)<(3:Int)),∃ (h:(0:Int) ≤
 (0:Int)∧(0:Int)<(3:Int)),∃ (h:W2 b a),Br (decide ((Zj3 b a).fst<(0:Int))) (∃ (h:(0:Int)≤(0:Int)∧(0:Int)<(3:Int)),∃ (h:(0:Int)≤(1:Int)
 ∧ (1:Int)<(3:Int)),∃ (h:(0:Int)≤(1:Int)∧(1:Int)<(3:Int)),∃ (h:(0:Int)≤(0:Int)∧(0:Int)<(3:Int)),∃ (h:(0:Int)≤(2:Int)∧(2:Int) <
 (3:Int)),∃ (h:(0:Int)≤(1:Int)∧(1:Int)<(3:Int)),∃ (h:W2 c a),Br (decide ((Zj3 c a).fst<(0:Int))) (∃ (h:(0:Int)≤(1:Int)∧(1:Int)<(3 :
 Int)),∃ (h:(0:Int)≤(2:Int)∧(2:Int)<(3:Int)),∃ (h:(0:Int)≤(2:Int)∧(2:Int)<(3:Int)),∃ (h:(0:Int)≤(1:Int)∧(1:Int)<(3:Int)),∃ (h :
 (0:Int)≤(1:Int)∧(1:Int)<(3:Int)),∃ (h:(0:Int)≤(0:Int)∧(0:Int)<(3:Int)),∃ (h:W2 c b),Br (decide ((Zj3 c b).fst<(0:Int))) (∃ (h:(0:Int)
 ≤ (0:Int)∧(0:Int)<(3:Int)),∃ (h:(0:Int)≤(1:Int)∧(1:Int)<(3:Int)),∃ (h:(0:Int)≤(1:Int)∧(1:Int)<(3:Int)),∃ (h:(0:Int)≤(0:Int) ∧
 (0:Int)<(3:Int)),∃ (h:(0:Int)≤(0:Int)∧(0:Int)≤(3:Int)∧(3:Int)≤(3:Int)∧(3:Nat)=[c,b,a].length),∃ (h:WL [c,b,a]),post ((rowR [c,b,
 a]).fst,())) (∃ (h:(0:Int)≤(0:Int)∧(0:Int)≤(3:Int)∧(3:Int)≤(3:Int)∧(3:Nat)=[b,c,a].length),∃ (h:WL [b,c,a]),post ((rowR [b,c,a]).fst,
 ()))) (∃ (h:(0:Int)≤(0:Int)∧(0:Int)≤(3:Int)∧(3:Int)≤(3:Int)∧(3:Nat)=[b,a,c].length),∃ (h:WL [b,a,c]),post ((rowR [b,a,c]).fst,()))) (∃ (h
 : (0:Int)≤(2:Int)∧(2:Int)<(3:Int)),∃ (h:(0:Int)≤(1:Int)∧(1:Int)<(3:Int)),∃ (h:W2 c b),Br (decide ((Zj3 c b).fst<(0:Int))) (∃ (h:(0 :
 Int)≤(1:Int)∧(1:Int)<(3:Int)),∃ (h:(0:Int)≤(2:Int)∧(2:Int)<(3:Int)),∃ (h:(0:Int)≤(2:Int)∧(2:Int)<(3:Int)),∃ (h:(0:Int)≤(1 :
 Int)∧(1:Int)<(3:Int)),∃ (h:(0:Int)≤(1:Int)∧(1:Int)<(3:Int)),∃ (h:(0:Int)≤(0:Int)∧(0:Int)<(3:Int)),∃ (h:W2 c a),Br (decide ((Zj3 c
 a).fst<(0:Int))) (∃ (h:(0:Int)≤(0:Int)∧(0:Int)<(3:Int)),∃ (h:(0:Int)≤(1:Int)∧(1:Int)<(3:Int)),∃ (h:(0:Int)≤(1:Int)∧(1:Int)<(3 :
 Int)),∃ (h:(0:Int)≤(0:Int)∧(0:Int)<(3:Int)),∃ (h:(0:Int)≤(0:Int)∧(0:Int)≤(3:Int)∧(3:Int)≤(3:Int)∧(3:Nat)=[c,a,b].length),∃ (h :
 WL [c,a,b]),post ((rowR [c,a,b]).fst,())) (∃ (h:(0:Int)≤(0:Int)∧(0:Int)≤(3:Int)∧(3:Int)≤(3:Int)∧(3:Nat)=[a,c,b].length),∃ (h:WL [a,c,
 b]),post ((rowR [a,c,b]).fst,()))) (∃ (h:(0:Int)≤(0:Int)∧(0:Int)≤(3:Int)∧(3:Int)≤(3:Int)∧(3:Nat)=(3:Nat)),∃ (h:WL [a,b,c]),post ((rowR
 [a,b,c]).fst,())))
theorem Z139 (a:Nat) (b:Nat) (c:Nat) (h:W3 a b c):Ze9  a b c (fun r=>r=Zt6 a b c):=by
 obtain ⟨ha,hb,hc⟩:=h
 have leaf:∀ l,Zcq a b c=l→((rowR l).fst,())=Zt6 a b c:=by rintro _ rfl; rfl
 refine ⟨⟨rfl,rfl⟩,⟨by decide,by decide,by decide,rfl⟩,rfl,by decide,by decide,⟨hb,ha⟩,Br.intro (fun e=>⟨by decide,by decide,by decide,by decide,by decide,by decide,⟨hc,ha⟩,Br.intro (fun f=>⟨by decide,by decide,by decide,by decide,by decide,by decide,⟨hc,hb⟩,Br.intro (fun g=>⟨by decide,by decide,by decide,by decide,⟨by decide,by decide,by decide,rfl⟩,WL3 hc hb ha,leaf _ ?_⟩) fun g=>⟨⟨by decide,by decide,by decide,rfl⟩,WL3 hb hc ha,leaf _ ?_⟩⟩) fun f=>⟨⟨by decide,by decide,by decide,rfl⟩,WL3 hb ha hc,leaf _ ?_⟩⟩) fun e=>⟨by decide,by decide,⟨hc,hb⟩,Br.intro (fun f=>⟨by decide,by decide,by decide,by decide,by decide,by decide,⟨hc,ha⟩,Br.intro (fun g=>⟨by decide,by decide,by decide,by decide,⟨by decide,by decide,by decide,rfl⟩,WL3 hc ha hb,leaf _ ?_⟩) fun g=>⟨⟨by decide,by decide,by decide,rfl⟩,WL3 ha hc hb,leaf _ ?_⟩⟩) fun f=>⟨⟨by decide,by decide,by decide,rfl⟩,WL3 ha hb hc,leaf _ ?_⟩⟩⟩
 ·have e:ltM b a=true:=e
  have f:ltM c a=true:=f
  have g:ltM c b=true:=g
  unfold Zcq; rw [e,f,g]; rfl
 ·have e:ltM b a=true:=e
  have f:ltM c a=true:=f
  have g:ltM c b=false:=g
  unfold Zcq; rw [e,f,g]; rfl
 ·have e:ltM b a=true:=e
  have f:ltM c a=false:=f
  unfold Zcq; rw [e,f]; rfl
 ·have e:ltM b a=false:=e
  have f:ltM c b=true:=f
  have g:ltM c a=true:=g
  unfold Zcq; rw [e,f,g]; rfl
 ·have e:ltM b a=false:=e
  have f:ltM c b=true:=f
  have g:ltM c a=false:=g
  unfold Zcq; rw [e,f,g]; rfl
 ·have e:ltM b a=false:=e
  have f:ltM c b=false:=f
  unfold Zcq; rw [e,f]; rfl
end Go.Lift

namespace Go.Lift
open Go.Proofs
def Zpx:Con:=.det [.slice (.flt .f64)] [.snap (.flt .f64)] (fun x=>WL x.1) (fun x=>rowR x.1)
def Zmx:Hn:={ loops:=fun k=>match k with | 5=>some { ls:=[(.slot 3,.data (.flt .f64)),(.slot 15,.data (.int .i64))],os:=[] } | _=>none,joins:=fun _=>none,named:=true }
def Zpy:Cx:=⟨Zx Z10,Zz [(182,Zk9)],RbG⟩
theorem Zx5:CxOk Tryz.prog Zpy:=⟨Z8 Zb,Zd ⟨Z10a,trivial⟩⟩
theorem Z13a:FnAt Tryz.prog 171 Tryz.f171.ntmps Tryz.f171.results.toList (Tryz.f171.body.getD .skip):=⟨Tryz.f171,Tryz.func171,rfl,rfl,by simp,by decide⟩
theorem Z13b (a:List Nat) (post:Nat × Unit→Prop):Zi Zpy Zmx Tryz.f171.ntmps Tryz.f171.results.toList (Tryz.f171.body.getD .skip) [.slice (.flt .f64)] [.snap (.flt .f64)] (a,()) post=Zjm  a post:=by kernel_rfl
theorem Z14o:Zpx.holds Tryz.prog RbG 171 :=
 detP Zx5 Zc Zmx Z13a (F:=fun x post=>Zjm  x.1 post) (fun x post=>Z13b x.1 post) fun x h w=>Z17o  x.1 h w
def Zfm:Con:=.det [.int .u64] [.snap (.int .i64)] (fun x=>Zo3 x.1) (fun x=>twoR x.1)
def Zfn:Cx:=⟨Zx Z10,fun _=>none,RbG⟩
theorem Zmy:CxOk Tryz.prog Zfn:=⟨Z8 Zb,fun f c h=>by cases h⟩
theorem Zqy:FnAt Tryz.prog 147 Tryz.f147.ntmps Tryz.f147.results.toList (Tryz.f147.body.getD .skip):=⟨Tryz.f147,Tryz.func147,rfl,rfl,by simp,by decide⟩
theorem Zqz (post:Int × Unit→Prop):Zi Zfn noHn Tryz.f147.ntmps Tryz.f147.results.toList (Tryz.f147.body.getD .skip) [.int .u64] [.snap (.int .i64)] ((3:Int),()) post=(∃ (h:(0:Int)≤(3:Int)∧(3:Int)<(256:Int)),post ((2:Int),())):=by kernel_rfl
theorem Zup:Zfm.holds Tryz.prog RbG 147:=by
 refine Zys Zmy Zc noHn Zqy ?_
 rintro ⟨a,⟨⟩⟩ h
 have h:a=(3:Int):=h
 subst h
 exact (Zqz _).mpr ⟨by decide,rfl⟩
def Zkb:Con:=.det [.int .u64] [.snap (.int .i64)] (fun x=>Zo3 x.1) (fun x=>twoR x.1)
def Zkc:Cx:=⟨Zx Z10,Zz [(147,Zfm)],RbG⟩
theorem Zr0:CxOk Tryz.prog Zkc:=⟨Z8 Zb,Zd ⟨Zup,trivial⟩⟩
theorem Zx6:FnAt Tryz.prog 181 Tryz.f181.ntmps Tryz.f181.results.toList (Tryz.f181.body.getD .skip):=⟨Tryz.f181,Tryz.func181,rfl,rfl,by simp,by decide⟩
theorem Zx7 (post:Int × Unit→Prop):Zi Zkc noHn Tryz.f181.ntmps Tryz.f181.results.toList (Tryz.f181.body.getD .skip) [.int .u64] [.snap (.int .i64)] ((3:Int),()) post=(∃ (h:Zo3 3),post ((2:Int),())):=by kernel_rfl
theorem Z10c:Zkb.holds Tryz.prog RbG 181:=by
 refine Zys Zr0 Zc noHn Zx6 ?_
 rintro ⟨a,⟨⟩⟩ h
 have h:a=(3:Int):=h
 subst h
 exact (Zx7 _).mpr ⟨rfl,rfl⟩
def Zkd:Con:=.det [.flt .f64,.flt .f64,.flt .f64] [.snap (.flt .f64)] (fun x=>W3 x.1 x.2.1 x.2.2.1) (fun x=>Zt6 x.1 x.2.1 x.2.2.1)
def Zht:Hn:={ loops:=fun _=>none,joins:=fun _=>none,inl:=inlL [167] }
def Zbt:Cx:=⟨Zx Z10,Zz [(168,Ze3),(171,Zpx),(181,Zkb)],RbG⟩
theorem Zea:CxOk Tryz.prog Zbt:=⟨Z8 Zb,Zd ⟨Zqx,Z14o,Z10c,trivial⟩⟩
theorem Zx8:FnAt Tryz.prog 149 Tryz.f149.ntmps Tryz.f149.results.toList (Tryz.f149.body.getD .skip):=⟨Tryz.f149,Tryz.func149,rfl,rfl,by simp,by decide⟩
theorem Zx9 (a:Nat) (b:Nat) (c:Nat) (post:Nat × Unit→Prop):Z56 Zbt Zht (Z95 Zbt Zge 5) Tryz.f149.ntmps Tryz.f149.results.toList (Tryz.f149.body.getD .skip) [.flt .f64,.flt .f64,.flt .f64] [.snap (.flt .f64)] (a,b,c,()) post=Ze9  a b c post:=by kernel_rfl
theorem Z10d:Zkd.holds Tryz.prog RbG 149 :=
 Zt2 Zea Zc Zht (Z89 Zea Zc Zwf 5) Zx8 (F:=fun x post=>Ze9  x.1 x.2.1 x.2.2.1 post) (fun x post=>Zx9 x.1 x.2.1 x.2.2.1 post) fun x h _=>Z139  x.1 x.2.1 x.2.2.1 h
end Go.Lift

namespace Go.Lift
open Go.Proofs
def Z7b:Con:=.det [.flt .f64,.flt .f64,.flt .f64] [.snap kVec] (fun _=>True) (fun x=>Z48 x.1 x.2.1 x.2.2.1)
def Zke:Cx:=⟨Zx Z10,Zz [(88,Z4c)],RbG⟩
theorem Zr1:CxOk Tryz.prog Zke:=⟨Z8 Zb,Zd ⟨Z6l,trivial⟩⟩
theorem Zxa:FnAt Tryz.prog 150 Tryz.f150.ntmps Tryz.f150.results.toList (Tryz.f150.body.getD .skip):=⟨Tryz.f150,Tryz.func150,rfl,rfl,by simp,by decide⟩
theorem Zxb (a:Nat) (b:Nat) (c:Nat) (post:(Nat × Nat × Nat) × Unit→Prop):Zi Zke nHn Tryz.f150.ntmps Tryz.f150.results.toList (Tryz.f150.body.getD .skip) [.flt .f64,.flt .f64,.flt .f64] [.snap kVec] (a,b,c,()) post=Ze5  a b c post:=by kernel_rfl
theorem Zbu:Z7b.holds Tryz.prog RbG 150 :=
 detP Zr1 Zc nHn Zxa (F:=fun x post=>Ze5  x.1 x.2.1 x.2.2.1 post) (fun x post=>Zxb x.1 x.2.1 x.2.2.1 post) fun x _ _=>Z135  x.1 x.2.1 x.2.2.1
def Zbv:Con:=.det [kVec,kVec] [.snap kVec] (fun x=>WV2 x.1 x.2.1) (fun x=>Z71 x.1 x.2.1)
def Zkf:Cx:=⟨Zx Z10,Zz [(150,Z7b)],RbG⟩
theorem Zr2:CxOk Tryz.prog Zkf:=⟨Z8 Zb,Zd ⟨Zbu,trivial⟩⟩
theorem Zxc:FnAt Tryz.prog 125 Tryz.f125.ntmps Tryz.f125.results.toList (Tryz.f125.body.getD .skip):=⟨Tryz.f125,Tryz.func125,rfl,rfl,by simp,by decide⟩
theorem Zxd (a:Nat × Nat × Nat) (b:Nat × Nat × Nat) (post:(Nat × Nat × Nat) × Unit→Prop):Zi Zkf nHn Tryz.f125.ntmps Tryz.f125.results.toList (Tryz.f125.body.getD .skip) [kVec,kVec] [.snap kVec] (a,b,()) post=Ze6  a b post:=by kernel_rfl
theorem Zkg:Zbv.holds Tryz.prog RbG 125 :=
 detP Zr2 Zc nHn Zxc (F:=fun x post=>Ze6  x.1 x.2.1 post) (fun x post=>Zxd x.1 x.2.1 post) fun x h _=>Z136  x.1 x.2.1 h
def Zkh:Con:=.det [kVec,kVec] [.snap kVec] (fun _=>True) (fun x=>Zma x.1 x.2.1)
def Zki:Cx:=⟨Zx Z10,Zz [(150,Z7b)],RbG⟩
theorem Zr3:CxOk Tryz.prog Zki:=⟨Z8 Zb,Zd ⟨Zbu,trivial⟩⟩
theorem Zxe:FnAt Tryz.prog 124 Tryz.f124.ntmps Tryz.f124.results.toList (Tryz.f124.body.getD .skip):=⟨Tryz.f124,Tryz.func124,rfl,rfl,by simp,by decide⟩
theorem Zxf (a:Nat × Nat × Nat) (b:Nat × Nat × Nat) (post:(Nat × Nat × Nat) × Unit→Prop):Zi Zki nHn Tryz.f124.ntmps Tryz.f124.results.toList (Tryz.f124.body.getD .skip) [kVec,kVec] [.snap kVec] (a,b,()) post=Ze7  a b post:=by kernel_rfl
theorem Z10e:Zkh.holds Tryz.prog RbG 124 :=
 detP Zr3 Zc nHn Zxe (F:=fun x post=>Ze7  x.1 x.2.1 post) (fun x post=>Zxf x.1 x.2.1 post) fun x _ _=>Z137  x.1 x.2.1
def Zkj:Con:=.rel [.flt .f64] [.snap (.flt .f64)] (fun _=>True) (fun x r=>Zf6 x.1 r) (fun x h=>Z15f (Z155 _) (Zvr _))
def Zkk:Cx:=⟨Zx Z10,Zz [(166,Zk8)],RbG⟩
theorem Zr4:CxOk Tryz.prog Zkk:=⟨Z8 Zb,Zd ⟨Z105,trivial⟩⟩
theorem Zxg:FnAt Tryz.prog 148 Tryz.f148.ntmps Tryz.f148.results.toList (Tryz.f148.body.getD .skip):=⟨Tryz.f148,Tryz.func148,rfl,rfl,by simp,by decide⟩
theorem Zxh (a:Nat) (post:Nat × Unit→Prop):Zi Zkk nHn Tryz.f148.ntmps Tryz.f148.results.toList (Tryz.f148.body.getD .skip) [.flt .f64] [.snap (.flt .f64)] (a,()) post=Ze8  a post:=by kernel_rfl
theorem Z10f:Zkj.holds Tryz.prog RbG 148 :=
 relP Zr4 Zc nHn Zxg (F:=fun x post=>Ze8  x.1 post) (fun x post=>Zxh x.1 post) fun x _ _=>Z138  x.1
def Z6m:Con:=.det [kVec] [.snap (.flt .f64)] (fun x=>WV x.1) (fun x=>Z49 x.1)
def Zhu:Cx:=⟨Zx Z10,Zz [(149,Zkd),(148,Zkj),(88,Z4c)],RbG⟩
theorem Zoz:CxOk Tryz.prog Zhu:=⟨Z8 Zb,Zd ⟨Z10d,Z10f,Z6l,trivial⟩⟩
theorem Zuq:FnAt Tryz.prog 123 Tryz.f123.ntmps Tryz.f123.results.toList (Tryz.f123.body.getD .skip):=⟨Tryz.f123,Tryz.func123,rfl,rfl,by simp,by decide⟩
theorem Zur (a:Nat × Nat × Nat) (post:Nat × Unit→Prop):Zi Zhu nHn Tryz.f123.ntmps Tryz.f123.results.toList (Tryz.f123.body.getD .skip) [kVec] [.snap (.flt .f64)] (a,()) post=Zbs  a post:=by kernel_rfl
theorem Z9n:Z6m.holds Tryz.prog RbG 123 :=
 detP Zoz Zc nHn Zuq (F:=fun x post=>Zbs  x.1 post) (fun x post=>Zur x.1 post) fun x h _=>Z10b  x.1 h
def Zgm:Con:=.det [kVec,kVec] [.snap (.flt .f64)] (fun x=>WV2 x.1 x.2.1) (fun x=>gapR x.1 x.2.1)
def Zpz:Cx:=⟨Zx Z10,Zz [(125,Zbv),(123,Z6m)],RbG⟩
theorem Zxi:CxOk Tryz.prog Zpz:=⟨Z8 Zb,Zd ⟨Zkg,Z9n,trivial⟩⟩
theorem Z13c:FnAt Tryz.prog 100 Tryz.f100.ntmps Tryz.f100.results.toList (Tryz.f100.body.getD .skip):=⟨Tryz.f100,Tryz.func100,rfl,rfl,by simp,by decide⟩
theorem Z13d (a:Nat × Nat × Nat) (b:Nat × Nat × Nat) (post:Nat × Unit→Prop):Zi Zpz nHn Tryz.f100.ntmps Tryz.f100.results.toList (Tryz.f100.body.getD .skip) [kVec,kVec] [.snap (.flt .f64)] (a,b,()) post=Zjl  a b post:=by kernel_rfl
theorem Zq0:Zgm.holds Tryz.prog RbG 100 :=
 detP Zxi Zc nHn Z13c (F:=fun x post=>Zjl  x.1 x.2.1 post) (fun x post=>Z13d x.1 x.2.1 post) fun x h _=>Z17n  x.1 x.2.1 h
def Zmz:Con:=.det [kVec] [.snap kVec] (fun x=>WV x.1) (fun x=>Zt8 x.1)
def Zn0:Cx:=⟨Zx Z10,Zz [(123,Z6m),(173,Zhr),(150,Z7b)],RbG⟩
theorem Zus:CxOk Tryz.prog Zn0:=⟨Z8 Zb,Zd ⟨Z9n,Zx4,Zbu,trivial⟩⟩
theorem Z10g:FnAt Tryz.prog 153 Tryz.f153.ntmps Tryz.f153.results.toList (Tryz.f153.body.getD .skip):=⟨Tryz.f153,Tryz.func153,rfl,rfl,by simp,by decide⟩
theorem Z10h (a:Nat × Nat × Nat) (post:(Nat × Nat × Nat) × Unit→Prop):Zi Zn0 nHn Tryz.f153.ntmps Tryz.f153.results.toList (Tryz.f153.body.getD .skip) [kVec] [.snap kVec] (a,()) post=Zgl  a post:=by kernel_rfl
theorem Z13e:Zmz.holds Tryz.prog RbG 153 :=
 detP Zus Zc nHn Z10g (F:=fun x post=>Zgl  x.1 post) (fun x post=>Z10h x.1 post) fun x h _=>Z14n  x.1 h
end Go.Lift

namespace Go.Lift
def Z8o:=fun (a:Int) (post:Nat × Unit→Prop)=>post (f64.nearest a,())
theorem Zut (a:Int):Z8o  a (fun r=>r=ofIR a):=by
 exact rfl
def Z9o:=fun (a b:Int) (post:Nat × Unit→Prop)=>∀ (a_1:Bool),a_1=decide (a<(1:Int))→Br a_1 (post ((0:Nat),())) (∀ (a_2:Bool),a_2=decide (b <
 (1:Int))→Br a_2 (post ((0:Nat),())) (∃ (h:True),∃ (h:True),∀ (a_3:Nat),FRes f64 (f64.format.div (ofIR a).fst (ofIR b).fst) a_3→post
 (a_3,())))
theorem Zxj (a:Int) (b:Int) (h:II a b):Z9o  a b (fun r=>r=Ztb a b):=by
 rintro _ rfl
 refine Br.intro (fun e=>?_) fun e=>?_
 ·exact congrArg r1 (by unfold Zta; rw [if_pos (.inl (of_decide_eq_true e))])
 ·rintro _ rfl
  refine Br.intro (fun f=>?_) fun f=>?_
  ·exact congrArg r1 (by unfold Zta; rw [if_pos (.inr (of_decide_eq_true f))])
  ·have e:=of_decide_eq_false e
   have f:=of_decide_eq_false f
   refine ⟨trivial,trivial,fun r hr=>congrArg r1 ?_⟩
   rw [Z15k h.1 (by omega) h.2 hr]
   unfold Zta; rw [if_neg (by omega)]
def Zbw:=fun (a:Nat) (post:Nat × Unit→Prop)=>∃ (h:WNum a),post ((Zaq a).fst,())
theorem Z10i (a:Nat) (h:WNum a):Zbw  a (fun r=>r=Zaq a):=by
 exact ⟨h,rfl⟩
def Zeb:=fun (a:Nat) (post:Int × Unit→Prop)=>∃ (h:WNum a),∀ (a_1:Int),F2I f64 (Zaq a).fst u64 a_1→∀ (a_2:Nat),FRes
 f64 (f64.format.sub a (Zaq a).fst) a_2→∀ (a:Bool),a=fcmp Go.BinOp.gtr (f64.format.order a_2 (4602678819172646912:Nat))→Br a
 (post (u64.wrap (a_1+(1:Int)),())) (∀ (a:Bool),a=fcmp Go.BinOp.eql (f64.format.order a_2 (4602678819172646912:Nat))→Br a (∃ (h:(2:Int)≠(0
 : Int)),∀ (a:Bool),a=(a_1.tmod (2:Int)==(1:Int))→Br a (post (u64.wrap (a_1+(1:Int)),())) (post (a_1,()))) (post (a_1,())))
theorem Z13f (a:Nat) (h:Zo4 a):Zeb  a (fun r=>r=Z112 a):=by
 have hw:W64 a:=by unfold Zo4 Z1v at h; unfold W64; omega
 have hn:isN a=false:=by
  have:=(Zfa (r:=a) (by unfold Zo4 Z1v at h; omega)).2.1
  unfold isN; rw [this,decide_eq_false_iff_not]; unfold Zo4 Z1v at h; unfold infR; omega
 refine ⟨⟨hw,hn⟩,?_⟩
 intro n hn2
 have hn2:=Z19g h hn2
 subst hn2
 intro d hd
 have hd:∀ z,Ieee.double.order d z=Ieee.double.order (subQ a (Z1l a)) z:=Ztg hd
 obtain ⟨_,r1',r2'⟩:=Zyw h
 have hwp:u64.wrap (Z4a (Z1l a)+1)=Z4a (Z1l a)+1:=wu1 ⟨by omega,by omega⟩
 have tm:(Z4a (Z1l a)).tmod 2=Z4a (Z1l a) % 2:=Int.tmod_eq_emod_of_nonneg r1'
 rintro _ rfl
 refine Br.intro (fun e=>?_) fun e=>?_
 ·rw [show f64.format.order d 4602678819172646912=_ from hd _] at e
  exact congrArg r1 (by rw [hwp]; unfold Zj5; rw [if_pos (by rw [show fcmp .gtr (Ieee.double.order (subQ a (Z1l a)) Z78)=true from e]; rfl)])
 ·rw [show f64.format.order d 4602678819172646912=_ from hd _] at e
  rintro _ rfl
  refine Br.intro (fun f=>?_) fun f=>?_
  ·rw [show f64.format.order d 4602678819172646912=_ from hd _] at f
   refine ⟨by decide,?_⟩
   rintro _ rfl
   refine Br.intro (fun g=>?_) fun g=>?_
   ·rw [tm] at g
    exact congrArg r1 (by rw [hwp]; unfold Zj5; rw [if_pos (by rw [show fcmp .eql (Ieee.double.order (subQ a (Z1l a)) Z78)=true from f,g,Bool.true_and,Bool.or_true])])
   ·rw [tm] at g
    exact congrArg r1 (by unfold Zj5; rw [if_neg (by rw [show fcmp .gtr (Ieee.double.order (subQ a (Z1l a)) Z78)=false from e,g,Bool.and_false]; decide)])
  ·rw [show f64.format.order d 4602678819172646912=_ from hd _] at f
   exact congrArg r1 (by unfold Zj5; rw [if_neg (by rw [show fcmp .gtr (Ieee.double.order (subQ a (Z1l a)) Z78)=false from e,show fcmp .eql (Ieee.double.order (subQ a (Z1l a)) Z78)=false from f,Bool.false_and]; decide)])
def Zbx:=fun (a:Nat) (post:Int × Bool × Unit→Prop)=>∃ (h:W64 a),∀ (a_1:Bool),a_1=fcmp Go.BinOp.lss (f64.format.order (absR a).fst
 (4890909195324358656:Nat))→Br a_1 (∃ (h:Zo4 (absR a).fst),∀ (a_2:Bool),a_2=fcmp Go.BinOp.lss (f64.format.order a (0:Nat))→Br a_2 (post
 (i64.wrap ((0:Int) - i64.wrap (Z112 (absR a).fst).fst),true,())) (post (i64.wrap (Z112 (absR a).fst).fst,true,()))) (∀ (a_2:Bool),a_2
 = fcmp Go.BinOp.eql (f64.format.order a (14114281232179134464:Nat))→Br a_2 (post ((-9223372036854775808:Int),true,())) (post ((0:Int),false,
 ())))
theorem Z10j (a:Nat) (h:W64 a):Zbx  a (fun r=>r=Zdo a):=by
 refine ⟨h,?_⟩
 rintro _ rfl
 refine Br.intro (fun e=>?_) fun e=>?_
 ·have e:fcmp .lss (Ieee.double.order (Z2 a) Z1v)=true:=e
  rw [Z12f] at e
  have e:=of_decide_eq_true e
  have hn:isN a=false:=by unfold isN; rw [decide_eq_false_iff_not]; unfold Z1v at e; unfold infR; omega
  refine ⟨e,?_⟩
  rintro _ rfl
  refine Br.intro (fun f=>?_) fun f=>?_
  ·rw [show fcmp .lss (f64.format.order a 0)=_ from Ztf hn] at f
   unfold Zdo Z3t; rw [if_pos e,if_pos f]; rfl
  ·rw [show fcmp .lss (f64.format.order a 0)=_ from Ztf hn] at f
   unfold Zdo Z3t; rw [if_pos e,if_neg (by rw [f]; decide)]; rfl
 ·have e:fcmp .lss (Ieee.double.order (Z2 a) Z1v)=false:=e
  rw [Z12f] at e
  have e:=of_decide_eq_false e
  rintro _ rfl
  refine Br.intro (fun f=>?_) fun f=>?_
  ·rw [show fcmp .eql (f64.format.order a 14114281232179134464)=_ from Z15i h] at f
   unfold Zdo Z3t; rw [if_neg e,if_pos (show a=Z1v+9223372036854775808 from of_decide_eq_true f)]
  ·rw [show fcmp .eql (f64.format.order a 14114281232179134464)=_ from Z15i h] at f
   unfold Zdo Z3t; rw [if_neg e,if_neg (show ¬ a=Z1v+9223372036854775808 from of_decide_eq_false f)]
end Go.Lift

namespace Go.Lift
open Go.Proofs
def Zec:Con:=.det [.int .i64] [.snap (.flt .f64)] (fun _=>True) (fun x=>ofIR x.1)
def Zed:Cx:=⟨Zx Z10,Zz [],RbG⟩
theorem Zl0:CxOk Tryz.prog Zed:=⟨Z8 Zb,fun f c h=>by cases h⟩
theorem Zp0:FnAt Tryz.prog 89 Tryz.f89.ntmps Tryz.f89.results.toList (Tryz.f89.body.getD .skip):=⟨Tryz.f89,Tryz.func89,rfl,rfl,by simp,by decide⟩
theorem Zp1 (a:Int) (post:Nat × Unit→Prop):Zi Zed nHn Tryz.f89.ntmps Tryz.f89.results.toList (Tryz.f89.body.getD .skip) [.int .i64] [.snap (.flt .f64)] (a,()) post=Z8o  a post:=by kernel_rfl
theorem Zr5:Zec.holds Tryz.prog RbG 89 :=
 detP Zl0 Zc nHn Zp0 (F:=fun x post=>Z8o  x.1 post) (fun x post=>Zp1 x.1 post) fun x _ _=>Zut  x.1
def Zfo:Con:=.det [.int .i64,.int .i64] [.snap (.flt .f64)] (fun x=>II x.1 x.2.1) (fun x=>Ztb x.1 x.2.1)
def Zfp:Cx:=⟨Zx Z10,Zz [(89,Zec)],RbG⟩
theorem Zn1:CxOk Tryz.prog Zfp:=⟨Z8 Zb,Zd ⟨Zr5,trivial⟩⟩
theorem Zr6:FnAt Tryz.prog 37 Tryz.f37.ntmps Tryz.f37.results.toList (Tryz.f37.body.getD .skip):=⟨Tryz.f37,Tryz.func37,rfl,rfl,by simp,by decide⟩
theorem Zr7 (a:Int) (b:Int) (post:Nat × Unit→Prop):Zi Zfp nHn Tryz.f37.ntmps Tryz.f37.results.toList (Tryz.f37.body.getD .skip) [.int .i64,.int .i64] [.snap (.flt .f64)] (a,b,()) post=Z9o  a b post:=by kernel_rfl
theorem Zuu:Zfo.holds Tryz.prog RbG 37 :=
 detP Zn1 Zc nHn Zr6 (F:=fun x post=>Z9o  x.1 x.2.1 post) (fun x post=>Zr7 x.1 x.2.1 post) fun x h _=>Zxj  x.1 x.2.1 h
def Zb4:Con:=.det [.flt .f64] [.snap (.flt .f64)] (fun x=>WNum x.1) (fun x=>Zaq x.1)
theorem Zn2:Zb4.holds Tryz.prog RbG 183:=by
 refine Z1a1 (fn:=Tryz.f183) Tryz.func183 (by decide) rfl rfl (by kernel_rfl)
def Zhv:Con:=.det [.flt .f64] [.snap (.flt .f64)] (fun x=>WNum x.1) (fun x=>Zaq x.1)
def Zhw:Cx:=⟨Zx Z10,Zz [(183,Zb4)],RbG⟩
theorem Zp2:CxOk Tryz.prog Zhw:=⟨Z8 Zb,Zd ⟨Zn2,trivial⟩⟩
theorem Zuv:FnAt Tryz.prog 172 Tryz.f172.ntmps Tryz.f172.results.toList (Tryz.f172.body.getD .skip):=⟨Tryz.f172,Tryz.func172,rfl,rfl,by simp,by decide⟩
theorem Zuw (a:Nat) (post:Nat × Unit→Prop):Zi Zhw nHn Tryz.f172.ntmps Tryz.f172.results.toList (Tryz.f172.body.getD .skip) [.flt .f64] [.snap (.flt .f64)] (a,()) post=Zbw  a post:=by kernel_rfl
theorem Zxk:Zhv.holds Tryz.prog RbG 172 :=
 detP Zp2 Zc nHn Zuv (F:=fun x post=>Zbw  x.1 post) (fun x post=>Zuw x.1 post) fun x h _=>Z10i  x.1 h
def Zkl:Con:=.det [.flt .f64] [.snap (.int .u64)] (fun x=>Zo4 x.1) (fun x=>Z112 x.1)
def Zkm:Cx:=⟨Zx Z10,Zz [(172,Zhv)],RbG⟩
theorem Zr8:CxOk Tryz.prog Zkm:=⟨Z8 Zb,Zd ⟨Zxk,trivial⟩⟩
theorem Zxl:FnAt Tryz.prog 152 Tryz.f152.ntmps Tryz.f152.results.toList (Tryz.f152.body.getD .skip):=⟨Tryz.f152,Tryz.func152,rfl,rfl,by simp,by decide⟩
theorem Zxm (a:Nat) (post:Int × Unit→Prop):Zi Zkm nHn Tryz.f152.ntmps Tryz.f152.results.toList (Tryz.f152.body.getD .skip) [.flt .f64] [.snap (.int .u64)] (a,()) post=Zeb  a post:=by kernel_rfl
theorem Z10k:Zkl.holds Tryz.prog RbG 152 :=
 detP Zr8 Zc nHn Zxl (F:=fun x post=>Zeb  x.1 post) (fun x post=>Zxm x.1 post) fun x h _=>Z13f  x.1 h
def Zhx:Con:=.det [.flt .f64] [.snap (.int .i64),.snap .bool] (fun x=>W64 x.1) (fun x=>Zdo x.1)
def Zhy:Cx:=⟨Zx Z10,Zz [(151,Ze2),(152,Zkl)],RbG⟩
theorem Zp3:CxOk Tryz.prog Zhy:=⟨Z8 Zb,Zd ⟨Zmu,Z10k,trivial⟩⟩
theorem Zux:FnAt Tryz.prog 126 Tryz.f126.ntmps Tryz.f126.results.toList (Tryz.f126.body.getD .skip):=⟨Tryz.f126,Tryz.func126,rfl,rfl,by simp,by decide⟩
theorem Zuy (a:Nat) (post:Int × Bool × Unit→Prop):Zi Zhy nHn Tryz.f126.ntmps Tryz.f126.results.toList (Tryz.f126.body.getD .skip) [.flt .f64] [.snap (.int .i64),.snap .bool] (a,()) post=Zbx  a post:=by kernel_rfl
theorem Zxn:Zhx.holds Tryz.prog RbG 126 :=
 detP Zp3 Zc nHn Zux (F:=fun x post=>Zbx  x.1 post) (fun x post=>Zuy x.1 post) fun x h _=>Z10j  x.1 h
end Go.Lift

namespace Go.Lift
open Go.Proofs
def Z9p:Con:=.det [.int .i64,.int .i64] [.snap (.flt .f64)] (fun x=>Zdp x.1 x.2.1) (fun x=>Z2t x.1 x.2.1)
def Zhz:Cx:=⟨Zx Z10,Zz [],RbG⟩
theorem Zp4:CxOk Tryz.prog Zhz:=⟨Z8 Zb,fun f c h=>by cases h⟩
theorem Zuz:FnAt Tryz.prog 129 Tryz.f129.ntmps Tryz.f129.results.toList (Tryz.f129.body.getD .skip):=⟨Tryz.f129,Tryz.func129,rfl,rfl,by simp,by decide⟩
theorem Zv0 (a:Int) (b:Int) (post:Nat × Unit→Prop):Zi Zhz nHn Tryz.f129.ntmps Tryz.f129.results.toList (Tryz.f129.body.getD .skip) [.int .i64,.int .i64] [.snap (.flt .f64)] (a,b,()) post=Zbj  a b post:=by kernel_rfl
theorem Zi0:Z9p.holds Tryz.prog RbG 129 :=
 detP Zp4 Zc nHn Zuz (F:=fun x post=>Zbj  x.1 x.2.1 post) (fun x post=>Zv0 x.1 x.2.1 post) fun x h _=>Zzw  x.1 x.2.1 h
def Z9q:Con:=.det [.int .i64,.flt .f64,.flt .f64] [.snap kVec] (fun x=>Ztc x.1 x.2.1 x.2.2.1) (fun x=>Zar x.1 x.2.1 x.2.2.1)
def Zfq:Hn:={ loops:=fun _=>none,joins:=Z2n [(13,{ ls:=[],os:=[(1,169,.flt .f64)] })],unroll:=fun _=>some 4 }
def Zi1:Cx:=⟨Zx Z10,Zz [(88,Z4c),(153,Zmz)],RbG⟩
theorem Zp5:CxOk Tryz.prog Zi1:=⟨Z8 Zb,Zd ⟨Z6l,Z13e,trivial⟩⟩
theorem Zv1:FnAt Tryz.prog 128 Tryz.f128.ntmps Tryz.f128.results.toList (Tryz.f128.body.getD .skip):=⟨Tryz.f128,Tryz.func128,rfl,rfl,by simp,by decide⟩
theorem Zv2 (f:Int) (s:Nat) (t:Nat) (post:(Nat × Nat × Nat) × Unit→Prop):Zi Zi1 Zfq Tryz.f128.ntmps Tryz.f128.results.toList (Tryz.f128.body.getD .skip) [.int .i64,.flt .f64,.flt .f64] [.snap kVec] (f,s,t,()) post=Zbk 130 169 f s t post:=by kernel_rfl
theorem Zi2:Z9q.holds Tryz.prog RbG 128 :=
 detP Zp5 Zc Zfq Zv1 (F:=fun x post=>Zbk 130 169 x.1 x.2.1 x.2.2.1 post) (fun x post=>Zv2 x.1 x.2.1 x.2.2.1 post) fun x h _=>Zzx 130 169 x.1 x.2.1 x.2.2.1 h
def Zfr:Con:=.det [.int .i64,.int .i64,.int .i64,.int .i64] [.snap kVec,.snap .bool] (fun x=>IIII x.1 x.2.1 x.2.2.1 x.2.2.2.1) (fun x=>Z1c x.1 x.2.1 x.2.2.1 x.2.2.2.1)
def Zfs:Cx:=⟨Zx Z10,Zz [(58,Z6i),(129,Z9p),(128,Z9q)],RbG⟩
theorem Zn3:CxOk Tryz.prog Zfs:=⟨Z8 Zb,Zd ⟨Z9f,Zi0,Zi2,trivial⟩⟩
theorem Zr9:FnAt Tryz.prog 127 Tryz.f127.ntmps Tryz.f127.results.toList (Tryz.f127.body.getD .skip):=⟨Tryz.f127,Tryz.func127,rfl,rfl,by simp,by decide⟩
theorem Zra (n:Int) (f:Int) (i:Int) (j:Int) (post:(Nat × Nat × Nat) × Bool × Unit→Prop):Zi Zfs nHn Tryz.f127.ntmps Tryz.f127.results.toList (Tryz.f127.body.getD .skip) [.int .i64,.int .i64,.int .i64,.int .i64] [.snap kVec,.snap .bool] (n,f,i,j,()) post=Z9l  n f i j post:=by kernel_rfl
theorem Zv3:Zfr.holds Tryz.prog RbG 127 :=
 detP Zn3 Zc nHn Zr9 (F:=fun x post=>Z9l  x.1 x.2.1 x.2.2.1 x.2.2.2.1 post) (fun x post=>Zra x.1 x.2.1 x.2.2.1 x.2.2.2.1 post) fun x h _=>Zwx  x.1 x.2.1 x.2.2.1 x.2.2.2.1 h
def Z7h:Con:=.det [.int .i64,.int .i64] [.snap (.arr 4 kVec),.snap .bool] (fun x=>II x.1 x.2.1) (fun x=>Z12 x.1 x.2.1)
def Zca:Hn:={ loops:=fun _=>none,joins:=fun _=>none,unroll:=fun _=>some 5 }
def Zee:Cx:=⟨Zx Z10,Zz [(79,Z6j),(127,Zfr)],RbG⟩
theorem Zl1:CxOk Tryz.prog Zee:=⟨Z8 Zb,Zd ⟨Z9g,Zv3,trivial⟩⟩
theorem Zp6:FnAt Tryz.prog 99 Tryz.f99.ntmps Tryz.f99.results.toList (Tryz.f99.body.getD .skip):=⟨Tryz.f99,Tryz.func99,rfl,rfl,by simp,by decide⟩
theorem Zp7 (n:Int) (c:Int) (post:(List (Nat × Nat × Nat)) × Bool × Unit→Prop):Zi Zee Zca Tryz.f99.ntmps Tryz.f99.results.toList (Tryz.f99.body.getD .skip) [.int .i64,.int .i64] [.snap (.arr 4 kVec),.snap .bool] (n,c,()) post=Z8k  n c post:=by kernel_rfl
theorem Zef:Z7h.holds Tryz.prog RbG 99 :=
 detP Zl1 Zc Zca Zp6 (F:=fun x post=>Z8k  x.1 x.2.1 post) (fun x post=>Zp7 x.1 x.2.1 post) fun x h _=>Zu7  x.1 x.2.1 h
def Zkn:Con:=.det [.int .i64,.int .i64] [.snap (.int .i64)] (fun x=>II x.1 x.2.1) (fun x=>Zte x.1 x.2.1)
def Zko:Cx:=⟨Zx Z10,Zz [(99,Z7h),(125,Zbv),(124,Zkh),(123,Z6m),(126,Zhx)],RbG⟩
theorem Zrb:CxOk Tryz.prog Zko:=⟨Z8 Zb,Zd ⟨Zef,Zkg,Z10e,Z9n,Zxn,trivial⟩⟩
theorem Zxo:FnAt Tryz.prog 98 Tryz.f98.ntmps Tryz.f98.results.toList (Tryz.f98.body.getD .skip):=⟨Tryz.f98,Tryz.func98,rfl,rfl,by simp,by decide⟩
theorem Zxp (n:Int) (c:Int) (post:Int × Unit→Prop):Zi Zko nHn Tryz.f98.ntmps Tryz.f98.results.toList (Tryz.f98.body.getD .skip) [.int .i64,.int .i64] [.snap (.int .i64)] (n,c,()) post=Ze0  n c post:=by kernel_rfl
theorem Z10l:Zkn.holds Tryz.prog RbG 98 :=
 detP Zrb Zc nHn Zxo (F:=fun x post=>Ze0  x.1 x.2.1 post) (fun x post=>Zxp x.1 x.2.1 post) fun x h _=>Z132  x.1 x.2.1 h
end Go.Lift

namespace Go.Lift
open Go.Proofs
def Zft:Con:=Con.nam [.int .i64,.int .i64] [.snap kVec,.snap .bool] (fun x=>II x.1 x.2.1) (fun x=>Z6f x.1 x.2.1)
def Zfu:Cx:=⟨Zx Z10,Zz [(79,Z6j),(129,Z9p),(128,Z9q)],RbG⟩
theorem Zn4:CxOk Tryz.prog Zfu:=⟨Z8 Zb,Zd ⟨Z9g,Zi0,Zi2,trivial⟩⟩
theorem Zrc:FnAt Tryz.prog 101 Tryz.f101.ntmps Tryz.f101.results.toList (Tryz.f101.body.getD .skip):=⟨Tryz.f101,Tryz.func101,rfl,rfl,by simp,by decide⟩
theorem Zrd (n:Int) (c:Int) (post:(Nat × Nat × Nat) × Bool × Unit→Prop):Zi Zfu nHn Tryz.f101.ntmps Tryz.f101.results.toList (Tryz.f101.body.getD .skip) [.int .i64,.int .i64] [.snap kVec,.snap .bool] (n,c,()) post=Z9j  n c post:=by kernel_rfl
theorem Zv4:Zft.holds Tryz.prog RbG 101 :=
 Z19 (detP Zn4 Zc nHn Zrc (F:=fun x post=>Z9j  x.1 x.2.1 post) (fun x post=>Zrd x.1 x.2.1 post) fun x h _=>Zwv  x.1 x.2.1 h)
def Zfv:Con:=Con.nam [.int .i64,.int .i64,.int .i64] [.snap (.flt .f64)] (fun x=>III x.1 x.2.1 x.2.2.1) (fun x=>Zdr x.1 x.2.1 x.2.2.1)
def Zeg:Hn:=nHn
def Zfw:Cx:=⟨Zx Z10,Zz [(99,Z7h),(100,Zgm)],RbG⟩
theorem Zn5:CxOk Tryz.prog Zfw:=⟨Z8 Zb,Zd ⟨Zef,Zq0,trivial⟩⟩
theorem Zre:FnAt Tryz.prog 61 Tryz.f61.ntmps Tryz.f61.results.toList (Tryz.f61.body.getD .skip):=⟨Tryz.f61,Tryz.func61,rfl,rfl,by simp,by decide⟩
theorem Zrf (n:Int) (c:Int) (o:Int) (post:Nat × Unit→Prop):Zi Zfw Zeg Tryz.f61.ntmps Tryz.f61.results.toList (Tryz.f61.body.getD .skip) [.int .i64,.int .i64,.int .i64] [.snap (.flt .f64)] (n,c,o,()) post=Z9k  n c o post:=by kernel_rfl
theorem Zv5:Zfv.holds Tryz.prog RbG 61 :=
 Z19 (detP Zn5 Zc Zeg Zre (F:=fun x post=>Z9k  x.1 x.2.1 x.2.2.1 post) (fun x post=>Zrf x.1 x.2.1 x.2.2.1 post) fun x h _=>Zww  x.1 x.2.1 x.2.2.1 h)
def Zn6:Con:=Con.nam [.int .i64,.int .i64,.int .i64] [.snap (.flt .f64)] (fun x=>III x.1 x.2.1 x.2.2.1) (fun x=>Z173 x.1 x.2.1 x.2.2.1)
def Zkp:Hn:=nHn
def Zn7:Cx:=⟨Zx Z10,Zz [(35,Z8j),(101,Zft),(100,Zgm)],RbG⟩
theorem Zv6:CxOk Tryz.prog Zn7:=⟨Z8 Zb,Zd ⟨Zfk,Zv4,Zq0,trivial⟩⟩
theorem Z10m:FnAt Tryz.prog 62 Tryz.f62.ntmps Tryz.f62.results.toList (Tryz.f62.body.getD .skip):=⟨Tryz.f62,Tryz.func62,rfl,rfl,by simp,by decide⟩
theorem Z10n (n:Int) (c:Int) (o:Int) (post:Nat × Unit→Prop):Zi Zn7 Zkp Tryz.f62.ntmps Tryz.f62.results.toList (Tryz.f62.body.getD .skip) [.int .i64,.int .i64,.int .i64] [.snap (.flt .f64)] (n,c,o,()) post=Zgi  n c o post:=by kernel_rfl
theorem Z13g:Zn6.holds Tryz.prog RbG 62 :=
 Z19 (detP Zv6 Zc Zkp Z10m (F:=fun x post=>Zgi  x.1 x.2.1 x.2.2.1 post) (fun x post=>Z10n x.1 x.2.1 x.2.2.1 post) fun x h _=>Z14k  x.1 x.2.1 x.2.2.1 h)
end Go.Lift

namespace Go.Lift
open Go.Proofs
def Zeh:Con:=.det [.int .i64] [.snap (.ptr Z1a),.snap (.int .i64)] (fun x=>I64 x.1) (fun x=>newR x.1)
def Zkq:Hn:={ loops:=Z2n [(9,{ ls:=[(.slot 36,.data (.int .i64)),(.cell 1 1,.row 91 Z2g),(.cell 1 4,.row 2 (.int .i64))],os:=[(0,83,.ent (.pair (.int .i64) (.int .i64)) (.int .i64))] }),(15,{ ls:=[(.slot 49,.data (.int .i64)),(.cell 1 3,.row 92 (.arr 2 (.int .i64))),(.cell 1 5,.row 59 (.flt .f64)),(.cell 1 6,.row 59 (.flt .f64))],os:=[] })],joins:=fun _=>none,inl:=inlL [59,60],unroll:=fun k=>if k=6 then some 3 else none }
def Zei:Cx:=⟨Zx Z10,Zz [(58,Z6i),(35,Z8j),(98,Zkn),(61,Zfv),(62,Zn6)],RbG⟩
theorem Zfx:CxOk Tryz.prog Zei:=⟨Z8 Zb,Zd ⟨Z9f,Zfk,Z10l,Zv5,Z13g,trivial⟩⟩
theorem Z10o:FnAt Tryz.prog 24 Tryz.f24.ntmps Tryz.f24.results.toList (Tryz.f24.body.getD .skip):=⟨Tryz.f24,Tryz.func24,rfl,rfl,by simp,by decide⟩
theorem Z10p (n:Int) (post:(Option (Int × (List (Int × Int × Int × Int)) × (List ((Int × Int) × Int)) × (List (List Int)) × (List Int) × (List Nat) × List Nat)) × Int × Unit→Prop):Z56 Zei Zkq (Z95 Zei Zjd 6) Tryz.f24.ntmps Tryz.f24.results.toList (Tryz.f24.body.getD .skip) [.int .i64] [.snap (.ptr Z1a),.snap (.int .i64)] (n,()) post=Zgh 87 88 2 91 59 60 n post:=by kernel_rfl
theorem Zn8:Zeh.holds Tryz.prog RbG 24 :=
 Zt2 Zfx Zc Zkq (Z89 Zfx Zc Zzo 6) Z10o (F:=fun x post=>Zgh 87 88 2 91 59 60 x.1 post) (fun x post=>Z10p x.1 post) fun x h _=>Z14j 87 88 2 91 59 60 x.1 h
end Go.Lift

namespace Go.Lift
def Z9r:=fun (s:List Nat × List Int × List Int × List Nat × Int × Int) (post:List Int × List Int × Int × Unit→Prop)=>post ([],[],(2:Int),())
theorem Zxq (s:(List Nat) × (List Int) × (List Int) × (List Nat) × Int × Int) (h:WRun none s) (w:KS.wf [.ptr Z1a,kSea] (none,s,())):Z9r  s (fun r=>r=Z3j none s):=by
 exact rfl
def Z9s:=fun (ty39 ty2 ty3:Nat) (g:Int × List (Int × Int × Int × Int) × List ((Int × Int) × Int) × List (List Int) × List Int × List Nat × List Nat) (s:List Nat ×
 List Int × List Int × List Nat × Int × Int) (post:List Int × List Int × Int × Unit→Prop)=>∃ (h:True),∀ (a:Bool),a=((↑s.fst.length:Int) != (Ze (some
 g)).fst)→Br a (post ([],[],(1:Int),())) (∀ (a:Bool),a=((↑s.snd.fst.length:Int) != (Ze (some g)).fst)→Br a (post ([],[],(1:Int),())) (∀ (a:Bool),
 a=((↑s.snd.snd.fst.length:Int) != (Ze (some g)).fst)→Br a (post ([],[],(1:Int),())) (∃ (h:True),∀ (a:Bool),a=((↑s.snd.snd.snd.fst.length:Int) !=
 (Z99 (some g)).fst)→Br a (post ([],[],(1:Int),())) (∃ (h:True),∀ (a:Bool × Unit),a=Z11a s.snd.fst→∀ (a_1:Bool),a_1=a.fst→Br (!a_1) (post ([],
 [],(1:Int),())) (∃ (h:True),∀ (a:Bool × Unit),a=Z11a s.snd.snd.fst→∀ (a_2:Bool),a_2=a.fst→Br (!a_2) (post ([],[],(1:Int),())) (∃ (h:Z11b s.snd.fst),
 ∀ (a:List Int × Unit),a=Zmh s.snd.fst→∃ (h:Z11b s.snd.snd.fst),∀ (a_3:List Int × Unit),a_3=Zmh s.snd.snd.fst→∃ (h:WOrd s.fst),∀ (a_4:List Int × Unit),
 a_4=Za6 s.fst→HIs [HObj.box Md.rw ty39 [SV.data (K.flt f64).slice s.fst,SV.data (K.int i64).slice s.snd.fst,SV.data (K.int i64).slice
 s.snd.snd.fst,SV.data (K.flt f64).slice s.snd.snd.snd.fst,SV.val (Go.Value.int i64 s.snd.snd.snd.snd.fst),SV.val (Go.Value.int i64
 s.snd.snd.snd.snd.snd)],HObj.row Md.rw ty2 (K.int i64) a.fst,HObj.row Md.rw ty2 (K.int i64) a_3.fst,HObj.row Md.rw ty3 (K.int i64) a_4.fst] [HObj.box
 Md.rw ty39 [SV.data (K.flt f64).slice s.fst,SV.data (K.int i64).slice s.snd.fst,SV.data (K.int i64).slice s.snd.snd.fst,SV.data (K.flt
 f64).slice s.snd.snd.snd.fst,SV.val (Go.Value.int i64 s.snd.snd.snd.snd.fst),SV.val (Go.Value.int i64 s.snd.snd.snd.snd.snd)],HObj.row Md.rw ty2
 (K.int i64) a.fst,HObj.row Md.rw ty2 (K.int i64) a_3.fst,HObj.row Md.rw ty3 (K.int i64) a_4.fst]∧∃ (I:Int × Unit→List Int × List Int × Unit →
 Prop),∃ (μ:Int × Unit→List Int × List Int × Unit→Nat),I ((0:Int),()) (a.fst,a_3.fst,())∧∀ (x:Int × Unit) (y:List Int × List Int × Unit),I x y→∀ (a_5:Bool),
 a_5=decide (x.fst<(↑a_4.fst.length:Int))→Br a_5 (∃ (h:(0:Int)≤x.fst∧x.fst<(↑a_4.fst.length:Int)),∃ (h:Z9e (some g) s.fst (a_4.fst.getD ((0:Nat)
 + x.fst.toNat) (0:Int))),∀ (a_6:Int × Unit),a_6=Z3d (some g) s.fst (a_4.fst.getD ((0:Nat)+x.fst.toNat) (0:Int))→∀ (a_7:Bool),a_7=decide (a_6.fst <
 (0:Int))→Br a_7 (HIs [HObj.box Md.rw ty39 [SV.data (K.flt f64).slice s.fst,SV.data (K.int i64).slice s.snd.fst,SV.data (K.int i64).slice
 s.snd.snd.fst,SV.data (K.flt f64).slice s.snd.snd.snd.fst,SV.val (Go.Value.int i64 s.snd.snd.snd.snd.fst),SV.val (Go.Value.int i64
 s.snd.snd.snd.snd.snd)],HObj.row Md.rw ty2 (K.int i64) y.fst,HObj.row Md.rw ty2 (K.int i64) y.snd.fst,HObj.row Md.rw ty3 (K.int i64) a_4.fst] [HObj.box
 Md.rw ty39 [SV.data (K.flt f64).slice s.fst,SV.data (K.int i64).slice s.snd.fst,SV.data (K.int i64).slice s.snd.snd.fst,SV.data (K.flt
 f64).slice s.snd.snd.snd.fst,SV.val (Go.Value.int i64 s.snd.snd.snd.snd.fst),SV.val (Go.Value.int i64 s.snd.snd.snd.snd.snd)],HObj.row Md.rw ty2
 (K.int i64) y.fst,HObj.row Md.rw ty2 (K.int i64) y.snd.fst,HObj.row Md.rw ty3 (K.int i64) a_4.fst]∧I (i64.wrap (x.fst+(1:Int)),()) (y.fst,
 y.snd.fst,())∧μ (i64.wrap (x.fst+(1:Int)),()) (y.fst,y.snd.fst,())<μ x y) (∃ (h:(0:Int)≤a_4.fst.getD ((0:Nat)+x.fst.toNat) (0:Int)∧a_4.fst.getD
 ((0:Nat)+x.fst.toNat) (0:Int)<(↑a.fst.length:Int)),∀ (a_8:Bool),a_8=decide (y.fst.getD ((0:Nat)+Int.toNat (a_4.fst.getD ((0:Nat)+x.fst.toNat) (0:Int)))
 (0:Int)≤(0:Int))→Br a_8 (HIs [HObj.box Md.rw ty39 [SV.data (K.flt f64).slice s.fst,SV.data (K.int i64).slice s.snd.fst,SV.data (K.int
 i64).slice s.snd.snd.fst,SV.data (K.flt f64).slice s.snd.snd.snd.fst,SV.val (Go.Value.int i64 s.snd.snd.snd.snd.fst),SV.val (Go.Value.int
 i64 s.snd.snd.snd.snd.snd)],HObj.row Md.rw ty2 (K.int i64) y.fst,HObj.row Md.rw ty2 (K.int i64) y.snd.fst,HObj.row Md.rw ty3 (K.int i64)
 a_4.fst] [HObj.box Md.rw ty39 [SV.data (K.flt f64).slice s.fst,SV.data (K.int i64).slice s.snd.fst,SV.data (K.int i64).slice s.snd.snd.fst,SV.data
 (K.flt f64).slice s.snd.snd.snd.fst,SV.val (Go.Value.int i64 s.snd.snd.snd.snd.fst),SV.val (Go.Value.int i64 s.snd.snd.snd.snd.snd)],HObj.row Md.rw
 ty2 (K.int i64) y.fst,HObj.row Md.rw ty2 (K.int i64) y.snd.fst,HObj.row Md.rw ty3 (K.int i64) a_4.fst]∧I (i64.wrap (x.fst+(1:Int)),())
 (y.fst,y.snd.fst,())∧μ (i64.wrap (x.fst+(1:Int)),()) (y.fst,y.snd.fst,())<μ x y) (∃ (h:(0:Int)≤a_4.fst.getD ((0:Nat)+x.fst.toNat) (0:Int) ∧
 a_4.fst.getD ((0:Nat)+x.fst.toNat) (0:Int)<(↑a.fst.length:Int)),∃ (h:True),∃ (h:II (y.fst.getD ((0:Nat)+Int.toNat (a_4.fst.getD ((0:Nat)+x.fst.toNat) (0 :
 Int))) (0:Int)) (Z2o (some g) (a_4.fst.getD ((0:Nat)+x.fst.toNat) (0:Int))).fst),∀ (a_9:Bool),a_9=fcmp Go.BinOp.lss (f64.format.order (Ztb
 (y.fst.getD ((0:Nat)+Int.toNat (a_4.fst.getD ((0:Nat)+x.fst.toNat) (0:Int))) (0:Int)) (Z2o (some g) (a_4.fst.getD ((0:Nat)+x.fst.toNat) (0 :
 Int))).fst).fst (4602678819172646912:Nat))→Br (!a_9) (HIs [HObj.box Md.rw ty39 [SV.data (K.flt f64).slice s.fst,SV.data (K.int i64).slice s.snd.fst,
 SV.data (K.int i64).slice s.snd.snd.fst,SV.data (K.flt f64).slice s.snd.snd.snd.fst,SV.val (Go.Value.int i64 s.snd.snd.snd.snd.fst),SV.val
 (Go.Value.int i64 s.snd.snd.snd.snd.snd)],HObj.row Md.rw ty2 (K.int i64) y.fst,HObj.row Md.rw ty2 (K.int i64) y.snd.fst,HObj.row Md.rw ty3 (K.int
 i64) a_4.fst] [HObj.box Md.rw ty39 [SV.data (K.flt f64).slice s.fst,SV.data (K.int i64).slice s.snd.fst,SV.data (K.int i64).slice
 s.snd.snd.fst,SV.data (K.flt f64).slice s.snd.snd.snd.fst,SV.val (Go.Value.int i64 s.snd.snd.snd.snd.fst),SV.val (Go.Value.int i64
 s.snd.snd.snd.snd.snd)],HObj.row Md.rw ty2 (K.int i64) y.fst,HObj.row Md.rw ty2 (K.int i64) y.snd.fst,HObj.row Md.rw ty3 (K.int i64) a_4.fst]∧I
 (i64.wrap (x.fst+(1:Int)),()) (y.fst,y.snd.fst,())∧μ (i64.wrap (x.fst+(1:Int)),()) (y.fst,y.snd.fst,())<μ x y) (∃ (h:(0:Int)≤a_4.fst.getD
 ((0:Nat)+x.fst.toNat) (0:Int)∧a_4.fst.getD ((0:Nat)+x.fst.toNat) (0:Int)<(↑a.fst.length:Int)),∃ (h:(4:Int)≠(0:Int)),∃ (h:(0:Int)≤a_4.fst.getD ((0
 : Nat)+x.fst.toNat) (0:Int)∧a_4.fst.getD ((0:Nat)+x.fst.toNat) (0:Int)<(↑a_3.fst.length:Int)),∃ (h:(0:Int)≤a_4.fst.getD ((0:Nat)+x.fst.toNat) (0:Int)
 ∧ a_4.fst.getD ((0:Nat)+x.fst.toNat) (0:Int)<(↑a.fst.length:Int)),∃ (h:III (y.snd.fst.getD ((0:Nat)+Int.toNat (a_4.fst.getD ((0:Nat)+x.fst.toNat) (0:Int)))
 (0:Int)) (i64.wrap (Int.tdiv (y.fst.getD ((0:Nat)+Int.toNat (a_4.fst.getD ((0:Nat)+x.fst.toNat) (0:Int))) (0:Int)) (4:Int))) (y.fst.getD ((0:Nat) +
 Int.toNat (a_4.fst.getD ((0:Nat)+x.fst.toNat) (0:Int))) (0:Int))),∃ (h:(0:Int)≤a_4.fst.getD ((0:Nat)+x.fst.toNat) (0:Int)∧a_4.fst.getD ((0:Nat) +
 x.fst.toNat) (0:Int)<(↑a.fst.length:Int)),∃ (h:(0:Int)≤a_4.fst.getD ((0:Nat)+x.fst.toNat) (0:Int)∧a_4.fst.getD ((0:Nat)+x.fst.toNat) (0:Int) <
 (↑a.fst.length:Int)),∃ (h:(0:Int)≤a_6.fst∧a_6.fst<(↑a.fst.length:Int)),∃ (h:(0:Int)≤a_6.fst∧a_6.fst<(↑a.fst.length:Int)),∃ (h:(0:Int) ≤
 a_4.fst.getD ((0:Nat)+x.fst.toNat) (0:Int)∧a_4.fst.getD ((0:Nat)+x.fst.toNat) (0:Int)<(↑a_3.fst.length:Int)),∃ (h:(0:Int)≤a_4.fst.getD ((0:Nat) +
 x.fst.toNat) (0:Int)∧a_4.fst.getD ((0:Nat)+x.fst.toNat) (0:Int)<(↑a_3.fst.length:Int)),∃ (h:(0:Int)≤a_6.fst∧a_6.fst<(↑a_3.fst.length:Int)),∃ (h:(0 :
 Int)≤a_6.fst∧a_6.fst<(↑a_3.fst.length:Int)),HIs [HObj.box Md.rw ty39 [SV.data (K.flt f64).slice s.fst,SV.data (K.int i64).slice s.snd.fst,SV.data
 (K.int i64).slice s.snd.snd.fst,SV.data (K.flt f64).slice s.snd.snd.snd.fst,SV.val (Go.Value.int i64 s.snd.snd.snd.snd.fst),SV.val (Go.Value.int
 i64 s.snd.snd.snd.snd.snd)],HObj.row Md.rw ty2 (K.int i64) ((y.fst.set ((0:Nat)+Int.toNat (a_4.fst.getD ((0:Nat)+x.fst.toNat) (0:Int)))
 (i64.wrap (y.fst.getD ((0:Nat)+Int.toNat (a_4.fst.getD ((0:Nat)+x.fst.toNat) (0:Int))) (0:Int) - i64.wrap (Int.tdiv (y.fst.getD ((0:Nat)+Int.toNat
 (a_4.fst.getD ((0:Nat)+x.fst.toNat) (0:Int))) (0:Int)) (4:Int))))).set ((0:Nat)+a_6.fst.toNat) (i64.wrap ((y.fst.set ((0:Nat)+Int.toNat (a_4.fst.getD ((0
 : Nat)+x.fst.toNat) (0:Int))) (i64.wrap (y.fst.getD ((0:Nat)+Int.toNat (a_4.fst.getD ((0:Nat)+x.fst.toNat) (0:Int))) (0:Int) - i64.wrap (Int.tdiv
 (y.fst.getD ((0:Nat)+Int.toNat (a_4.fst.getD ((0:Nat)+x.fst.toNat) (0:Int))) (0:Int)) (4:Int))))).getD ((0:Nat)+a_6.fst.toNat) (0:Int)+i64.wrap
 (Int.tdiv (y.fst.getD ((0:Nat)+Int.toNat (a_4.fst.getD ((0:Nat)+x.fst.toNat) (0:Int))) (0:Int)) (4:Int))))),HObj.row Md.rw ty2 (K.int i64) ((y.snd.fst.set
 ((0:Nat)+Int.toNat (a_4.fst.getD ((0:Nat)+x.fst.toNat) (0:Int))) (i64.wrap (y.snd.fst.getD ((0:Nat)+Int.toNat (a_4.fst.getD ((0:Nat)+x.fst.toNat) (0 :
 Int))) (0:Int) - (prtR (y.snd.fst.getD ((0:Nat)+Int.toNat (a_4.fst.getD ((0:Nat)+x.fst.toNat) (0:Int))) (0:Int)) (i64.wrap (Int.tdiv (y.fst.getD ((0:Nat) +
 Int.toNat (a_4.fst.getD ((0:Nat)+x.fst.toNat) (0:Int))) (0:Int)) (4:Int))) (y.fst.getD ((0:Nat)+Int.toNat (a_4.fst.getD ((0:Nat)+x.fst.toNat) (0:Int))) (0 :
 Int))).fst))).set ((0:Nat)+a_6.fst.toNat) (i64.wrap ((y.snd.fst.set ((0:Nat)+Int.toNat (a_4.fst.getD ((0:Nat)+x.fst.toNat) (0:Int))) (i64.wrap
 (y.snd.fst.getD ((0:Nat)+Int.toNat (a_4.fst.getD ((0:Nat)+x.fst.toNat) (0:Int))) (0:Int) - (prtR (y.snd.fst.getD ((0:Nat)+Int.toNat (a_4.fst.getD ((0:Nat) +
 x.fst.toNat) (0:Int))) (0:Int)) (i64.wrap (Int.tdiv (y.fst.getD ((0:Nat)+Int.toNat (a_4.fst.getD ((0:Nat)+x.fst.toNat) (0:Int))) (0:Int)) (4:Int)))
 (y.fst.getD ((0:Nat)+Int.toNat (a_4.fst.getD ((0:Nat)+x.fst.toNat) (0:Int))) (0:Int))).fst))).getD ((0:Nat)+a_6.fst.toNat) (0:Int)+(prtR (y.snd.fst.getD ((0 :
 Nat)+Int.toNat (a_4.fst.getD ((0:Nat)+x.fst.toNat) (0:Int))) (0:Int)) (i64.wrap (Int.tdiv (y.fst.getD ((0:Nat)+Int.toNat (a_4.fst.getD ((0:Nat) +
 x.fst.toNat) (0:Int))) (0:Int)) (4:Int))) (y.fst.getD ((0:Nat)+Int.toNat (a_4.fst.getD ((0:Nat)+x.fst.toNat) (0:Int))) (0:Int))).fst))),HObj.row Md.rw ty3
 (K.int i64) a_4.fst] [HObj.box Md.rw ty39 [SV.data (K.flt f64).slice s.fst,SV.data (K.int i64).slice s.snd.fst,SV.data (K.int i64).slice
 s.snd.snd.fst,SV.data (K.flt f64).slice s.snd.snd.snd.fst,SV.val (Go.Value.int i64 s.snd.snd.snd.snd.fst),SV.val (Go.Value.int i64
 s.snd.snd.snd.snd.snd)],HObj.row Md.rw ty2 (K.int i64) ((y.fst.set ((0:Nat)+Int.toNat (a_4.fst.getD ((0:Nat)+x.fst.toNat) (0:Int))) (i64.wrap
 (y.fst.getD ((0:Nat)+Int.toNat (a_4.fst.getD ((0:Nat)+x.fst.toNat) (0:Int))) (0:Int) - i64.wrap (Int.tdiv (y.fst.getD ((0:Nat)+Int.toNat (a_4.fst.getD ((0
 : Nat)+x.fst.toNat) (0:Int))) (0:Int)) (4:Int))))).set ((0:Nat)+a_6.fst.toNat) (i64.wrap ((y.fst.set ((0:Nat)+Int.toNat (a_4.fst.getD ((0:Nat) +
 x.fst.toNat) (0:Int))) (i64.wrap (y.fst.getD ((0:Nat)+Int.toNat (a_4.fst.getD ((0:Nat)+x.fst.toNat) (0:Int))) (0:Int) - i64.wrap (Int.tdiv
 (y.fst.getD ((0:Nat)+Int.toNat (a_4.fst.getD ((0:Nat)+x.fst.toNat) (0:Int))) (0:Int)) (4:Int))))).getD ((0:Nat)+a_6.fst.toNat) (0:Int)+i64.wrap
 (Int.tdiv (y.fst.getD ((0:Nat)+Int.toNat (a_4.fst.getD ((0:Nat)+x.fst.toNat) (0:Int))) (0:Int)) (4:Int))))),HObj.row Md.rw ty2 (K.int i64) ((y.snd.fst.set
 ((0:Nat)+Int.toNat (a_4.fst.getD ((0:Nat)+x.fst.toNat) (0:Int))) (i64.wrap (y.snd.fst.getD ((0:Nat)+Int.toNat (a_4.fst.getD ((0:Nat)+x.fst.toNat) (0 :
 Int))) (0:Int) - (prtR (y.snd.fst.getD ((0:Nat)+Int.toNat (a_4.fst.getD ((0:Nat)+x.fst.toNat) (0:Int))) (0:Int)) (i64.wrap (Int.tdiv (y.fst.getD ((0:Nat) +
 Int.toNat (a_4.fst.getD ((0:Nat)+x.fst.toNat) (0:Int))) (0:Int)) (4:Int))) (y.fst.getD ((0:Nat)+Int.toNat (a_4.fst.getD ((0:Nat)+x.fst.toNat) (0:Int))) (0 :
 Int))).fst))).set ((0:Nat)+a_6.fst.toNat) (i64.wrap ((y.snd.fst.set ((0:Nat)+Int.toNat (a_4.fst.getD ((0:Nat)+x.fst.toNat) (0:Int))) (i64.wrap
 (y.snd.fst.getD ((0:Nat)+Int.toNat (a_4.fst.getD ((0:Nat)+x.fst.toNat) (0:Int))) (0:Int) - (prtR (y.snd.fst.getD ((0:Nat)+Int.toNat (a_4.fst.getD ((0:Nat) +
 x.fst.toNat) (0:Int))) (0:Int)) (i64.wrap (Int.tdiv (y.fst.getD ((0:Nat)+Int.toNat (a_4.fst.getD ((0:Nat)+x.fst.toNat) (0:Int))) (0:Int)) (4:Int)))
 (y.fst.getD ((0:Nat)+Int.toNat (a_4.fst.getD ((0:Nat)+x.fst.toNat) (0:Int))) (0:Int))).fst))).getD ((0:Nat)+a_6.fst.toNat) (0:Int)+(prtR (y.snd.fst.getD ((0 :
 Nat)+Int.toNat (a_4.fst.getD ((0:Nat)+x.fst.toNat) (0:Int))) (0:Int)) (i64.wrap (Int.tdiv (y.fst.getD ((0:Nat)+Int.toNat (a_4.fst.getD ((0:Nat) +
 x.fst.toNat) (0:Int))) (0:Int)) (4:Int))) (y.fst.getD ((0:Nat)+Int.toNat (a_4.fst.getD ((0:Nat)+x.fst.toNat) (0:Int))) (0:Int))).fst))),HObj.row Md.rw ty3
 (K.int i64) a_4.fst]∧I (i64.wrap (x.fst+(1:Int)),()) ((y.fst.set ((0:Nat)+Int.toNat (a_4.fst.getD ((0:Nat)+x.fst.toNat) (0:Int)))
 (i64.wrap (y.fst.getD ((0:Nat)+Int.toNat (a_4.fst.getD ((0:Nat)+x.fst.toNat) (0:Int))) (0:Int) - i64.wrap (Int.tdiv (y.fst.getD ((0:Nat)+Int.toNat
 (a_4.fst.getD ((0:Nat)+x.fst.toNat) (0:Int))) (0:Int)) (4:Int))))).set ((0:Nat)+a_6.fst.toNat) (i64.wrap ((y.fst.set ((0:Nat)+Int.toNat (a_4.fst.getD ((0
 : Nat)+x.fst.toNat) (0:Int))) (i64.wrap (y.fst.getD ((0:Nat)+Int.toNat (a_4.fst.getD ((0:Nat)+x.fst.toNat) (0:Int))) (0:Int) - i64.wrap (Int.tdiv
 (y.fst.getD ((0:Nat)+Int.toNat (a_4.fst.getD ((0:Nat)+x.fst.toNat) (0:Int))) (0:Int)) (4:Int))))).getD ((0:Nat)+a_6.fst.toNat) (0:Int)+i64.wrap
 (Int.tdiv (y.fst.getD ((0:Nat)+Int.toNat (a_4.fst.getD ((0:Nat)+x.fst.toNat) (0:Int))) (0:Int)) (4:Int)))),(y.snd.fst.set ((0:Nat)+Int.toNat (a_4.fst.getD ((0 :
 Nat)+x.fst.toNat) (0:Int))) (i64.wrap (y.snd.fst.getD ((0:Nat)+Int.toNat (a_4.fst.getD ((0:Nat)+x.fst.toNat) (0:Int))) (0:Int) - (prtR (y.snd.fst.getD ((0
 : Nat)+Int.toNat (a_4.fst.getD ((0:Nat)+x.fst.toNat) (0:Int))) (0:Int)) (i64.wrap (Int.tdiv (y.fst.getD ((0:Nat)+Int.toNat (a_4.fst.getD ((0:Nat) +
 x.fst.toNat) (0:Int))) (0:Int)) (4:Int))) (y.fst.getD ((0:Nat)+Int.toNat (a_4.fst.getD ((0:Nat)+x.fst.toNat) (0:Int))) (0:Int))).fst))).set ((0:Nat) +
 a_6.fst.toNat) (i64.wrap ((y.snd.fst.set ((0:Nat)+Int.toNat (a_4.fst.getD ((0:Nat)+x.fst.toNat) (0:Int))) (i64.wrap (y.snd.fst.getD ((0:Nat) +
 Int.toNat (a_4.fst.getD ((0:Nat)+x.fst.toNat) (0:Int))) (0:Int) - (prtR (y.snd.fst.getD ((0:Nat)+Int.toNat (a_4.fst.getD ((0:Nat)+x.fst.toNat) (0:Int))) (0 :
 Int)) (i64.wrap (Int.tdiv (y.fst.getD ((0:Nat)+Int.toNat (a_4.fst.getD ((0:Nat)+x.fst.toNat) (0:Int))) (0:Int)) (4:Int))) (y.fst.getD ((0:Nat)+Int.toNat
 (a_4.fst.getD ((0:Nat)+x.fst.toNat) (0:Int))) (0:Int))).fst))).getD ((0:Nat)+a_6.fst.toNat) (0:Int)+(prtR (y.snd.fst.getD ((0:Nat)+Int.toNat (a_4.fst.getD ((0
 : Nat)+x.fst.toNat) (0:Int))) (0:Int)) (i64.wrap (Int.tdiv (y.fst.getD ((0:Nat)+Int.toNat (a_4.fst.getD ((0:Nat)+x.fst.toNat) (0:Int))) (0:Int)) (4 :
 Int))) (y.fst.getD ((0:Nat)+Int.toNat (a_4.fst.getD ((0:Nat)+x.fst.toNat) (0:Int))) (0:Int))).fst)),())∧μ (i64.wrap (x.fst+(1:Int)),()) ((y.fst.set ((0
 : Nat)+Int.toNat (a_4.fst.getD ((0:Nat)+x.fst.toNat) (0:Int))) (i64.wrap (y.fst.getD ((0:Nat)+Int.toNat (a_4.fst.getD ((0:Nat)+x.fst.toNat) (0:Int))) (0
 : Int) - i64.wrap (Int.tdiv (y.fst.getD ((0:Nat)+Int.toNat (a_4.fst.getD ((0:Nat)+x.fst.toNat) (0:Int))) (0:Int)) (4:Int))))).set ((0:Nat)+a_6.fst.toNat)
 (i64.wrap ((y.fst.set ((0:Nat)+Int.toNat (a_4.fst.getD ((0:Nat)+x.fst.toNat) (0:Int))) (i64.wrap (y.fst.getD ((0:Nat)+Int.toNat (a_4.fst.getD ((0 :
 Nat)+x.fst.toNat) (0:Int))) (0:Int) - i64.wrap (Int.tdiv (y.fst.getD ((0:Nat)+Int.toNat (a_4.fst.getD ((0:Nat)+x.fst.toNat) (0:Int))) (0:Int)) (4 :
 Int))))).getD ((0:Nat)+a_6.fst.toNat) (0:Int)+i64.wrap (Int.tdiv (y.fst.getD ((0:Nat)+Int.toNat (a_4.fst.getD ((0:Nat)+x.fst.toNat) (0:Int))) (0:Int))
 (4:Int)))),(y.snd.fst.set ((0:Nat)+Int.toNat (a_4.fst.getD ((0:Nat)+x.fst.toNat) (0:Int))) (i64.wrap (y.snd.fst.getD ((0:Nat)+Int.toNat (a_4.fst.getD ((0
 : Nat)+x.fst.toNat) (0:Int))) (0:Int) - (prtR (y.snd.fst.getD ((0:Nat)+Int.toNat (a_4.fst.getD ((0:Nat)+x.fst.toNat) (0:Int))) (0:Int)) (i64.wrap
 (Int.tdiv (y.fst.getD ((0:Nat)+Int.toNat (a_4.fst.getD ((0:Nat)+x.fst.toNat) (0:Int))) (0:Int)) (4:Int))) (y.fst.getD ((0:Nat)+Int.toNat (a_4.fst.getD ((0:Nat)
 + x.fst.toNat) (0:Int))) (0:Int))).fst))).set ((0:Nat)+a_6.fst.toNat) (i64.wrap ((y.snd.fst.set ((0:Nat)+Int.toNat (a_4.fst.getD ((0:Nat)+x.fst.toNat) (0 :
 Int))) (i64.wrap (y.snd.fst.getD ((0:Nat)+Int.toNat (a_4.fst.getD ((0:Nat)+x.fst.toNat) (0:Int))) (0:Int) - (prtR (y.snd.fst.getD ((0:Nat)+Int.toNat
 (a_4.fst.getD ((0:Nat)+x.fst.toNat) (0:Int))) (0:Int)) (i64.wrap (Int.tdiv (y.fst.getD ((0:Nat)+Int.toNat (a_4.fst.getD ((0:Nat)+x.fst.toNat) (0:Int)))
 (0:Int)) (4:Int))) (y.fst.getD ((0:Nat)+Int.toNat (a_4.fst.getD ((0:Nat)+x.fst.toNat) (0:Int))) (0:Int))).fst))).getD ((0:Nat)+a_6.fst.toNat) (0:Int)+(prtR
 (y.snd.fst.getD ((0:Nat)+Int.toNat (a_4.fst.getD ((0:Nat)+x.fst.toNat) (0:Int))) (0:Int)) (i64.wrap (Int.tdiv (y.fst.getD ((0:Nat)+Int.toNat (a_4.fst.getD
 ((0:Nat)+x.fst.toNat) (0:Int))) (0:Int)) (4:Int))) (y.fst.getD ((0:Nat)+Int.toNat (a_4.fst.getD ((0:Nat)+x.fst.toNat) (0:Int))) (0:Int))).fst)),())<μ x
 y)))) (((0:Nat)=(0:Nat)∧a.fst.length=y.fst.length)∧((0:Nat)=(0:Nat)∧a_3.fst.length=y.snd.fst.length)∧post (y.fst,y.snd.fst,(0:Int),()))))))))
theorem Zxr (ty0 ty1 ty2:Nat) (g:Int × (List (Int × Int × Int × Int)) × (List ((Int × Int) × Int)) × (List (List Int)) × (List Int) × (List Nat) × List Nat) (s:(List Nat) × (List Int) × (List Int) × (List Nat) × Int × Int) (h:WRun (some g) s) (w:KS.wf [.ptr Z1a,kSea] ((some g),s,())):Z9s ty0 ty1 ty2 g s (fun r=>r=Z3j (some g) s):=by
 obtain ⟨hg,hw,hi1,hi2⟩:=h
 obtain ⟨n,gn,rfl⟩:=Zz3 hg
 obtain ⟨m,hm⟩:∃ m,(Z99 (some (netG n))).1=m:=⟨_,rfl⟩
 have hC:(Ze (some (netG n))).1=Zh n:=Z4t n
 have hR:Z3j (some (netG n)) s=runF true (Zh n) m (Z1j n) (Z2h true (Zh n) n s.1) s:=by rw [← hm]; unfold Z3j; rw [Z4t]; rfl
 have cr:=Zat n
 have hD:∀ c,(Z3d (some (netG n)) s.1 c).fst=Z2h true (Zh n) n s.1 c:=fun c=>by unfold Z3d; rw [Z4t]; rfl
 have bad:((Za7 (Zh n) m s&&Z28 0 s.2.1)&&Z28 0 s.2.2.1)=false→([],[],1,())=Z3j (some (netG n)) s:=fun h=>by rw [hR,Z12z h]
 have main:Za7 (Zh n) m s=true→Z28 0 s.2.1=true→Z28 0 s.2.2.1=true→∀ area down,area=Z1j n→down=Z2h true (Zh n) n s.1→Z3j (some (netG n)) s=((runA area down (ordL s.1) (s.2.1,s.2.2.1)).1,(runA area down (ordL s.1) (s.2.1,s.2.2.1)).2,0,()):=by
  rintro h1 h2 h3 _ _ rfl rfl
  rw [hR,Zmj h1 h2 h3]
 refine ⟨trivial,?_⟩
 rw [hC,hm]
 have bad1:∀ {b:Bool},Za7 (Zh n) m s=b→b=false→([],[],1,())=Z3j (some (netG n)) s:=fun {b} h1 h2=>bad (by rw [h1,h2]; rfl)
 have nofit:¬ ((s.1.length:Int)=Zh n∧(s.2.1.length:Int)=Zh n∧(s.2.2.1.length:Int)=Zh n∧(s.2.2.2.1.length:Int)=m)→([],[],1,())=Z3j (some (netG n)) s:=fun h=>bad1 rfl (by rw [Bool.eq_false_iff]; exact fun q=>h (Zfe.1 q))
 rintro _ rfl
 refine Br.intro (fun e=>nofit fun q=>absurd q.1 (bne_iff_ne.1 e)) fun f1=>?_
 have f1:(s.1.length:Int)=Zh n:=by simpa using f1
 rintro _ rfl
 refine Br.intro (fun e=>nofit fun q=>absurd q.2.1 (bne_iff_ne.1 e)) fun f2=>?_
 have f2:(s.2.1.length:Int)=Zh n:=by simpa using f2
 rintro _ rfl
 refine Br.intro (fun e=>nofit fun q=>absurd q.2.2.1 (bne_iff_ne.1 e)) fun f3=>?_
 have f3:(s.2.2.1.length:Int)=Zh n:=by simpa using f3
 refine ⟨trivial,?_⟩
 rintro _ rfl
 refine Br.intro (fun e=>nofit fun q=>absurd q.2.2.2 (bne_iff_ne.1 e)) fun f4=>?_
 have f4:(s.2.2.2.1.length:Int)=m:=by simpa using f4
 have hf:Za7 (Zh n) m s=true:=Zfe.2 ⟨f1,f2,f3,f4⟩
 refine ⟨trivial,?_⟩
 rintro _ rfl
 rintro _ rfl
 refine Br.intro (fun e=>bad (by
  have e:(!Z28 0 s.2.1)=true:=e
  have e:Z28 0 s.2.1=false:=by simpa using e
  rw [hf,e]; rfl)) fun e=>?_
 have hk1:Z28 0 s.2.1=true:=by
  have e:(!Z28 0 s.2.1)=false:=e
  simpa using e
 refine ⟨trivial,?_⟩
 rintro _ rfl
 rintro _ rfl
 refine Br.intro (fun e=>bad (by
  have e:(!Z28 0 s.2.2.1)=true:=e
  have e:Z28 0 s.2.2.1=false:=by simpa using e
  rw [hf,hk1,e]; rfl)) fun e=>?_
 have hk2:Z28 0 s.2.2.1=true:=by
  have e:(!Z28 0 s.2.2.1)=false:=e
  simpa using e
 clear bad1 nofit
 have e1:=Zfe.1 hf
 have q1:=Z8g hk1 (by decide)
 have q2:=Z8g hk2 (by decide)
 have p1:Pool s.1.length s.2.1.sum s.2.1:=⟨by omega,q1.1,rfl⟩
 have p2:Pool s.1.length s.2.2.1.sum s.2.2.1:=⟨by omega,q2.1,rfl⟩
 refine ⟨by show s.2.1.length≤65536; omega,?_⟩
 rintro _ rfl
 refine ⟨by show s.2.2.1.length≤65536; omega,?_⟩
 rintro _ rfl
 refine ⟨⟨hw,by omega⟩,?_⟩
 rintro _ rfl
 have hm2:=main hf hk1 hk2 _ _ rfl rfl
 rw [hm2]
 clear hm2 main bad hR
 dsimp only [Za6,Zmh]
 have lo:(ordL s.1).length=s.1.length:=by unfold ordL; rw [Ztt]; simp
 have mo:∀ c ∈ ordL s.1,0≤c∧c<(s.1.length:Int):=fun c hc=>by have:=Zts hc; simp at this; omega
 have hdr:=Z1a7 (n:=n) (bed:=s.1) e1.1
 simp only [hD]
 obtain ⟨down,hdn⟩:∃ down,Z2h true (Zh n) n s.1=down:=⟨_,rfl⟩
 rw [hdn] at hdr ⊢
 have pk:∀ k:Nat,Pool s.1.length s.2.1.sum (runA (Z1j n) down ((ordL s.1).take k) (s.2.1,s.2.2.1)).1∧Pool s.1.length s.2.2.1.sum (runA (Z1j n) down ((ordL s.1).take k) (s.2.1,s.2.2.1)).2:=fun k=>Zwk hdr _ (fun c hc=>mo c (List.mem_of_mem_take hc)) p1 p2
 refine ⟨rfl,fun x y=>∃ k:Nat,x.1=k∧k≤(ordL s.1).length∧y.1=(runA (Z1j n) down ((ordL s.1).take k) (s.2.1,s.2.2.1)).1∧y.2.1=(runA (Z1j n) down ((ordL s.1).take k) (s.2.1,s.2.2.1)).2,fun x _=>(ordL s.1).length - x.1.toNat,⟨0,rfl,by omega,rfl,rfl⟩,?_⟩
 rintro ⟨_,⟨⟩⟩ ⟨_,_,⟨⟩⟩ ⟨k,rfl,hk,rfl,rfl⟩
 dsimp only
 obtain ⟨st,hst⟩:∃ st,runA (Z1j n) down ((ordL s.1).take k) (s.2.1,s.2.2.1)=st:=⟨_,rfl⟩
 have pst:=pk k
 rw [hst] at pst ⊢
 obtain ⟨pw,pt⟩:=pst
 have lw:=pw.len
 have lt:=pt.len
 rintro _ rfl
 refine Br.intro (fun d=>?_) fun d=>?_
 rotate_left
 ·have d:k=(ordL s.1).length:=by have d:¬ (k:Int)<(ordL s.1).length:=of_decide_eq_false d; omega
  rw [d,List.take_length] at hst
  rw [hst]
  exact ⟨⟨by trivial,by omega⟩,⟨by trivial,by omega⟩,rfl⟩
 have d:k<(ordL s.1).length:=by have d:(k:Int)<(ordL s.1).length:=of_decide_eq_true d; omega
 have hs1:=Z1a6 (area:=Z1j n) (down:=down) (st:=(s.2.1,s.2.2.1)) d
 rw [hst] at hs1
 have hcm:=mo _ (Zob d)
 simp only [Int.toNat_natCast,Nat.zero_add]
 rw [Z24 d (by omega)]
 obtain ⟨c,hc⟩:∃ c,(ordL s.1).getD k 0=c:=⟨_,rfl⟩
 have hc':at0 (ordL s.1) k=c:=hc
 rw [hc'] at hs1 hcm
 simp only [hc]
 have hdc:=hdr c hcm.1 hcm.2
 have cw:0≤c∧c<(s.2.1.length:Int):=by omega
 have ct:0≤c∧c<(s.2.2.1.length:Int):=by omega
 have aw:=pw.at (i:=c.toNat) (by omega)
 have at_:=pt.at (i:=c.toNat) (by omega)
 have aw:0≤st.1.getD c.toNat 0∧st.1.getD c.toNat 0≤s.2.1.sum:=aw
 have at_:0≤st.2.getD c.toNat 0∧st.2.getD c.toNat 0≤s.2.2.1.sum:=at_
 have next:∀ w t:List Int,(w,t)=Z3e (Z1j n) down st c→(∃ j:Nat,((k+1:Nat):Int)=j∧j≤(ordL s.1).length∧w=(runA (Z1j n) down ((ordL s.1).take j) (s.2.1,s.2.2.1)).1∧t=(runA (Z1j n) down ((ordL s.1).take j) (s.2.1,s.2.2.1)).2)∧(ordL s.1).length - (((k+1:Nat):Int)).toNat<(ordL s.1).length - k:=fun w t h=>⟨⟨k+1,rfl,by omega,by rw [hs1,← h],by rw [hs1,← h]⟩,by omega⟩
 have skip:(down c<0∨st.1.getD c.toNat 0≤0∨Zds (st.1.getD c.toNat 0) (Z1j n c)=false)→(st.1,st.2)=Z3e (Z1j n) down st c:=fun h=>by unfold Z3e; rw [if_pos h]
 refine ⟨⟨by omega,by omega⟩,⟨hg,hw⟩,?_⟩
 rintro _ rfl
 simp only [hD,hdn]
 rintro _ rfl
 refine Br.intro (fun e=>⟨rfl,next _ _ (skip (.inl (of_decide_eq_true e)))⟩) fun e=>?_
 have e:=of_decide_eq_false e
 refine ⟨cw,?_⟩
 rintro _ rfl
 refine Br.intro (fun f=>⟨rfl,next _ _ (skip (.inr (.inl (of_decide_eq_true f))))⟩) fun f=>?_
 have f:=of_decide_eq_false f
 have ar:=Z1bc n c
 have hA:(Z2o (some (netG n)) c).fst=Z1j n c:=Z1a8 hcm.1 (by omega)
 rw [hA]
 refine ⟨cw,trivial,⟨⟨by omega,by omega⟩,ar.1⟩,?_⟩
 rintro _ rfl
 refine Br.intro (fun g=>⟨rfl,next _ _ (skip (.inr (.inr (by
  have g:(!Zds (st.1.getD c.toNat 0) (Z1j n c))=true:=g
  simpa using g))))⟩) fun g=>?_
 have g:Zds (st.1.getD c.toNat 0) (Z1j n c)=true:=by
  have g:(!Zds (st.1.getD c.toNat 0) (Z1j n c))=false:=g
  simpa using g
 have w4:i64.wrap (Int.tdiv (st.1.getD c.toNat 0) 4)=st.1.getD c.toNat 0 / 4:=by
  rw [Int.tdiv_eq_ediv_of_nonneg aw.1]; exact Z16 (by omega) (by omega)
 have pr:∀ a b c:Int,(prtR a b c).fst=part a b c:=fun _ _ _=>rfl
 simp only [w4,pr]
 have pin:=Zwj (a:=st.2.getD c.toNat 0) (b:=st.1.getD c.toNat 0 / 4) (c:=st.1.getD c.toNat 0) at_.1 (by omega) (by omega) (by omega)
 obtain ⟨_,m1,m2,m3,m4⟩:=pw.mv (i:=c) (j:=down c) (d:=st.1.getD c.toNat 0 / 4) hcm.1 hcm.2 (by omega) (by omega) (by omega) (by omega)
 obtain ⟨_,m5,m6,m7,m8⟩:=pt.mv (i:=c) (j:=down c) hcm.1 hcm.2 (by omega) (by omega) pin.1 pin.2
 have dw:0≤down c∧down c<(s.2.1.length:Int):=by omega
 have dt:0≤down c∧down c<(s.2.2.1.length:Int):=by omega
 rw [Z16 (x:=st.1.getD c.toNat 0 - st.1.getD c.toNat 0 / 4) (by omega) (by omega),Z16 (x:=st.2.getD c.toNat 0 - part (st.2.getD c.toNat 0) (st.1.getD c.toNat 0 / 4) (st.1.getD c.toNat 0)) (by omega) (by omega),
  Z16 (x:=(st.1.set c.toNat (st.1.getD c.toNat 0 - st.1.getD c.toNat 0 / 4)).getD (down c).toNat 0+st.1.getD c.toNat 0 / 4) (by omega) (by omega),
  Z16 (x:=(st.2.set c.toNat (st.2.getD c.toNat 0 - part (st.2.getD c.toNat 0) (st.1.getD c.toNat 0 / 4) (st.1.getD c.toNat 0))).getD (down c).toNat 0+part (st.2.getD c.toNat 0) (st.1.getD c.toNat 0 / 4) (st.1.getD c.toNat 0)) (by omega) (by omega)]
 refine ⟨cw,by decide,ct,cw,⟨⟨by omega,by omega⟩,⟨by omega,by omega⟩,by omega,by omega⟩,cw,cw,dw,dw,ct,ct,dt,dt,rfl,next _ _ ?_⟩
 unfold Z3e
 rw [if_neg (fun h=>by rcases h with h | h | h <;> first | omega | (rw [g] at h; cases h))]
 rfl
end Go.Lift

namespace Go.Lift
def Z4u:=fun (post:Int × Unit→Prop)=>post ((0:Int),())
theorem Zjn  (w:KS.wf [.ptr Z1a] (none,())):Z4u   (fun r=>r=Ze none):=by
 exact rfl
def Z4v:=fun (g:Int × List (Int × Int × Int × Int) × List ((Int × Int) × Int) × List (List Int) × List Int × List Nat × List Nat) (post:Int × Unit→Prop) =>
 ∃ (h:some g≠none),post ((↑g.snd.snd.snd.snd.fst.length:Int),())
theorem Zjo (g:Int × (List (Int × Int × Int × Int)) × (List ((Int × Int) × Int)) × (List (List Int)) × (List Int) × (List Nat) × List Nat) (w:KS.wf [.ptr Z1a] ((some g),())):Z4v  g (fun r=>r=Ze (some g)):=by
 exact ⟨by simp,rfl⟩
def Z4w:=fun (post:Int × Unit→Prop)=>post ((0:Int),())
theorem Zjp  (w:KS.wf [.ptr Z1a] (none,())):Z4w   (fun r=>r=Z99 none):=by
 exact rfl
def Z4x:=fun (g:Int × List (Int × Int × Int × Int) × List ((Int × Int) × Int) × List (List Int) × List Int × List Nat × List Nat) (post:Int × Unit→Prop) =>
 ∃ (h:some g≠none),post ((↑g.snd.fst.length:Int),())
theorem Zjq (g:Int × (List (Int × Int × Int × Int)) × (List ((Int × Int) × Int)) × (List (List Int)) × (List Int) × (List Nat) × List Nat) (w:KS.wf [.ptr Z1a] ((some g),())):Z4x  g (fun r=>r=Z99 (some g)):=by
 exact ⟨by simp,rfl⟩
def Z5a:=fun (c:Int) (post:Int × Unit→Prop)=>post ((0:Int),())
theorem Zl2 (c:Int) (w:KS.wf [.ptr Z1a,.int .i64] (none,c,())):Z5a  c (fun r=>r=Z2o none c):=by
 exact rfl
def Z5b:=fun (g:Int × List (Int × Int × Int × Int) × List ((Int × Int) × Int) × List (List Int) × List Int × List Nat × List Nat) (c:Int) (post:Int × Unit →
 Prop)=>∀ (a:Bool),a=decide (c<(0:Int))→Br a (post ((0:Int),())) (∃ (h:some g≠none),∀ (a:Bool),a=decide (c≥(↑g.snd.snd.snd.snd.fst.length
 : Int))→Br a (post ((0:Int),())) (∃ (h:some g≠none),∃ (h:(0:Int)≤c∧c<(↑g.snd.snd.snd.snd.fst.length:Int)),post (g.snd.snd.snd.snd.fst.getD
 c.toNat (0:Int),())))
theorem Zl3 (g:Int × (List (Int × Int × Int × Int)) × (List ((Int × Int) × Int)) × (List (List Int)) × (List Int) × (List Nat) × List Nat) (c:Int) (w:KS.wf [.ptr Z1a,.int .i64] ((some g),c,())):Z5b  g c (fun r=>r=Z2o (some g) c):=by
 rintro _ rfl
 refine Br.intro (fun e=>congrArg r1 ?_) fun e=>?_
 ·have e:=of_decide_eq_true e
  show (0:Int)=if 0≤c∧c<(g.2.2.2.2.1.length:Nat) then g.2.2.2.2.1.getD c.toNat 0 else 0
  rw [if_neg (by omega)]
 have e:=of_decide_eq_false e
 refine ⟨by simp,?_⟩
 rintro _ rfl
 refine Br.intro (fun f=>congrArg r1 ?_) fun f=>?_
 ·have f:=of_decide_eq_true f
  show (0:Int)=if 0≤c∧c<(g.2.2.2.2.1.length:Nat) then g.2.2.2.2.1.getD c.toNat 0 else 0
  rw [if_neg (by omega)]
 have f:=of_decide_eq_false f
 refine ⟨by simp,⟨by omega,by omega⟩,congrArg r1 ?_⟩
 show g.2.2.2.2.1.getD c.toNat 0=if 0≤c∧c<(g.2.2.2.2.1.length:Nat) then g.2.2.2.2.1.getD c.toNat 0 else 0
 rw [if_pos ⟨by omega,by omega⟩]
end Go.Lift

namespace Go.Lift
open Go.Proofs
def Z3k:Con:=.det [.ptr Z1a] [.snap (.int .i64)] (fun _=>True) (fun x=>Ze x.1)
def Z5c:Cx:=⟨Zx Z10,Zz [],RbG⟩
theorem Zgn:CxOk Tryz.prog Z5c:=⟨Z8 Zb,fun f c h=>by cases h⟩
theorem Zjr:FnAt Tryz.prog 31 Tryz.f31.ntmps Tryz.f31.results.toList (Tryz.f31.body.getD .skip):=⟨Tryz.f31,Tryz.func31,rfl,rfl,by simp,by decide⟩
theorem Zgo  (post:Int × Unit→Prop):Zi Z5c nHn Tryz.f31.ntmps Tryz.f31.results.toList (Tryz.f31.body.getD .skip) [.ptr Z1a] [.snap (.int .i64)] (none,()) post=Z4u   post:=by kernel_rfl
theorem Zgp (g:Int × (List (Int × Int × Int × Int)) × (List ((Int × Int) × Int)) × (List (List Int)) × (List Int) × (List Nat) × List Nat) (post:Int × Unit→Prop):Zi Z5c nHn Tryz.f31.ntmps Tryz.f31.results.toList (Tryz.f31.body.getD .skip) [.ptr Z1a] [.snap (.int .i64)] ((some g),()) post=Z4v  g post:=by kernel_rfl
def Zl4 (x:KS [.ptr Z1a]) (post:RS [.snap (.int .i64)]→Prop):Prop:=match x with
 | (none,y)=>Z4u   post
 | (some g,y)=>Z4v  g post
theorem Z5d:Z3k.holds Tryz.prog RbG 31 :=
 detP Zgn Zc nHn Zjr (F:=Zl4) (fun x post=>match x with
  | (none,y)=>Zgo  post
  | (some g,y)=>Zgp g post) fun x h w=>match x,h,w with
  | (none,y),h,w=>Zjn   w
  | (some g,y),h,w=>Zjo  g w
def Z5e:Con:=.det [.ptr Z1a] [.snap (.int .i64)] (fun _=>True) (fun x=>Z99 x.1)
def Z5f:Cx:=⟨Zx Z10,Zz [],RbG⟩
theorem Zgq:CxOk Tryz.prog Z5f:=⟨Z8 Zb,fun f c h=>by cases h⟩
theorem Zjs:FnAt Tryz.prog 55 Tryz.f55.ntmps Tryz.f55.results.toList (Tryz.f55.body.getD .skip):=⟨Tryz.f55,Tryz.func55,rfl,rfl,by simp,by decide⟩
theorem Zgr  (post:Int × Unit→Prop):Zi Z5f nHn Tryz.f55.ntmps Tryz.f55.results.toList (Tryz.f55.body.getD .skip) [.ptr Z1a] [.snap (.int .i64)] (none,()) post=Z4w   post:=by kernel_rfl
theorem Zgs (g:Int × (List (Int × Int × Int × Int)) × (List ((Int × Int) × Int)) × (List (List Int)) × (List Int) × (List Nat) × List Nat) (post:Int × Unit→Prop):Zi Z5f nHn Tryz.f55.ntmps Tryz.f55.results.toList (Tryz.f55.body.getD .skip) [.ptr Z1a] [.snap (.int .i64)] ((some g),()) post=Z4x  g post:=by kernel_rfl
def Zl5 (x:KS [.ptr Z1a]) (post:RS [.snap (.int .i64)]→Prop):Prop:=match x with
 | (none,y)=>Z4w   post
 | (some g,y)=>Z4x  g post
theorem Z8x:Z5e.holds Tryz.prog RbG 55 :=
 detP Zgq Zc nHn Zjs (F:=Zl5) (fun x post=>match x with
  | (none,y)=>Zgr  post
  | (some g,y)=>Zgs g post) fun x h w=>match x,h,w with
  | (none,y),h,w=>Zjp   w
  | (some g,y),h,w=>Zjq  g w
def Z63:Con:=.det [.ptr Z1a,.int .i64] [.snap (.int .i64)] (fun _=>True) (fun x=>Z2o x.1 x.2.1)
def Z5g:Hn:=nHn
def Z64:Cx:=⟨Zx Z10,Zz [],RbG⟩
theorem Zi3:CxOk Tryz.prog Z64:=⟨Z8 Zb,fun f c h=>by cases h⟩
theorem Zl6:FnAt Tryz.prog 38 Tryz.f38.ntmps Tryz.f38.results.toList (Tryz.f38.body.getD .skip):=⟨Tryz.f38,Tryz.func38,rfl,rfl,by simp,by decide⟩
theorem Zi4 (c:Int) (post:Int × Unit→Prop):Zi Z64 Z5g Tryz.f38.ntmps Tryz.f38.results.toList (Tryz.f38.body.getD .skip) [.ptr Z1a,.int .i64] [.snap (.int .i64)] (none,c,()) post=Z5a  c post:=by kernel_rfl
theorem Zi5 (g:Int × (List (Int × Int × Int × Int)) × (List ((Int × Int) × Int)) × (List (List Int)) × (List Int) × (List Nat) × List Nat) (c:Int) (post:Int × Unit→Prop):Zi Z64 Z5g Tryz.f38.ntmps Tryz.f38.results.toList (Tryz.f38.body.getD .skip) [.ptr Z1a,.int .i64] [.snap (.int .i64)] ((some g),c,()) post=Z5b  g c post:=by kernel_rfl
def Zn9 (x:KS [.ptr Z1a,.int .i64]) (post:RS [.snap (.int .i64)]→Prop):Prop:=match x with
 | (none,y)=>Z5a  y.1 post
 | (some g,y)=>Z5b  g y.1 post
theorem Zb5:Z63.holds Tryz.prog RbG 38 :=
 detP Zi3 Zc Z5g Zl6 (F:=Zn9) (fun x post=>match x with
  | (none,y)=>Zi4 y.1 post
  | (some g,y)=>Zi5 g y.1 post) fun x h w=>match x,h,w with
  | (none,y),h,w=>Zl2  y.1 w
  | (some g,y),h,w=>Zl3  g y.1 w
end Go.Lift

namespace Go.Lift
def Zby:=fun (l:List Int) (post:Bool × Unit→Prop)=>HIs [] []∧∃ (I:Int × Int × Unit→Unit→Prop),∃ (μ:Int × Int × Unit→Unit→Nat),I ((0:Int),(0 :
 Int),()) ()∧∀ (x:Int × Int × Unit) (y:Unit),I x y→∀ (a:Bool),a=decide (x.fst<(↑l.length:Int))→Br a (∃ (h:(0:Int)≤x.fst∧x.fst<(↑l.length:Int)),∀
 (a:Bool),a=decide (l.getD x.fst.toNat (0:Int)<(0:Int))→Br a (post (false,())) (∀ (a:Bool),a=decide (l.getD x.fst.toNat (0:Int) > i64.wrap
 ((4503599627370496:Int) - x.snd.fst))→Br a (post (false,())) (HIs [] []∧I (i64.wrap (x.fst+(1:Int)),i64.wrap (x.snd.fst+l.getD x.fst.toNat (0 :
 Int)),()) ()∧μ (i64.wrap (x.fst+(1:Int)),i64.wrap (x.snd.fst+l.getD x.fst.toNat (0:Int)),()) ()<μ x y))) (post (true,()))
theorem Z10q (l:List Int) (w:KS.wf [.slice (.int .i64)] (l,())):Zby  l (fun r=>r=Z11a l):=by
 have hl:l.length≤281474976710656:=w.1.1
 refine ⟨rfl,fun x _=>∃ k:Nat,x.1=k∧k≤l.length∧0≤x.2.1∧x.2.1≤4503599627370496∧Z28 x.2.1 (l.drop k)=Z28 0 l,fun x _=>l.length - x.1.toNat,⟨0,rfl,by omega,by decide,by decide,rfl⟩,?_⟩
 rintro ⟨_,s,⟨⟩⟩ _ ⟨k,rfl,hk,s0,s1,hs⟩
 dsimp only at s0 s1 hs ⊢
 rintro _ rfl
 refine Br.intro (fun d=>?_) fun d=>?_
 rotate_left
 ·have d:k=l.length:=by have d:¬ (k:Int)<l.length:=of_decide_eq_false d; omega
  rw [d,List.drop_length] at hs
  exact congrArg r1 hs
 have d:k<l.length:=by have d:(k:Int)<l.length:=of_decide_eq_true d; omega
 rw [Z1db d,Ztu] at hs
 rw [Int.toNat_natCast,Z16 (x:=4503599627370496 - s) (by omega) (by omega),Z24 d (by omega)]
 refine ⟨⟨by omega,by omega⟩,?_⟩
 rintro _ rfl
 refine Br.intro (fun e=>?_) fun e=>?_
 ·have e:at0 l k<0:=of_decide_eq_true e
  rw [if_pos (.inl e)] at hs
  exact congrArg r1 hs
 have e:¬ at0 l k<0:=of_decide_eq_false e
 rintro _ rfl
 refine Br.intro (fun f=>?_) fun f=>?_
 ·have f:at0 l k > 4503599627370496 - s:=of_decide_eq_true f
  rw [if_pos (.inr f)] at hs
  exact congrArg r1 hs
 have f:¬ at0 l k > 4503599627370496 - s:=of_decide_eq_false f
 rw [if_neg (by omega)] at hs
 have ws:i64.wrap (s+l.getD k 0)=s+at0 l k:=Z16 (by show _≤s+at0 l k; omega) (by show s+at0 l k<_; omega)
 rw [ws]
 exact ⟨rfl,⟨k+1,rfl,by omega,by omega,by omega,hs⟩,by omega⟩
def Z2x:=fun (l:List Int) (post:List Int × Unit→Prop)=>∀ (a:Bool),(a=true→l.length=(0:Nat))→∀ (a_1:Bool),(a_1=if false
 = true then !a else a)→Br a_1 (post ([],())) (∃ (h:(0:Nat)=(0:Nat)∧((0:Nat)+l.length)*(8:Nat)≤(140737488355328:Nat)),((0:Nat)=(0:Nat)∧(0 :
 Nat)+l.length=([]++l).length)∧post ([]++l,()))
theorem Zb6 (l:List Int) (h:Z11b l):Z2x  l (fun r=>r=Zmh l):=by
 intro a ha a1 h1
 have h1:a1=a:=h1
 subst h1
 refine Br.intro (fun e=>?_) fun e=>?_
 ·have:=List.eq_nil_of_length_eq_zero (ha e)
  subst this; rfl
 ·have hl:l.length≤65536:=h
  exact ⟨⟨by trivial,by omega⟩,⟨by trivial,by rw [List.nil_append]; omega⟩,by rw [List.nil_append]; rfl⟩
def Z8p:=fun (bed:List Nat) (c:Int) (post:Int × Unit→Prop)=>post ((-1:Int),())
theorem Zv7 (bed:List Nat) (c:Int) (h:Z9e none bed c) (w:KS.wf [.ptr Z1a,.slice (.flt .f64),.int .i64] (none,bed,c,())):Z8p  bed c (fun r=>r=Z3d none bed c):=by
 exact rfl
def Z8q:=fun (g:Int × List (Int × Int × Int × Int) × List ((Int × Int) × Int) × List (List Int) × List Int × List Nat × List Nat) (bed:List Nat) (c:Int) (post :
 Int × Unit→Prop)=>∃ (h:True),∀ (a:Bool),a=((↑bed.length:Int) != (Ze (some g)).fst)→Br a (post ((-1:Int),())) (∀ (a:Bool),a=decide (c<(0 :
 Int))→Br a (post ((-1:Int),())) (∀ (a:Bool),a=decide (c≥(↑bed.length:Int))→Br a (post ((-1:Int),())) (HIs [] []∧∃ (I:Int × Int × Unit→Unit→Prop),∃ (μ :
 Int × Int × Unit→Unit→Nat),I ((0:Int),(-1:Int),()) ()∧∀ (x:Int × Int × Unit) (y:Unit),I x y→∀ (a:Bool),a=decide (x.fst<(4:Int))→Br a (∃ (h:WNet
 (some g) c x.fst),∀ (a:Int × Int × Unit),a=Z7d (some g) c x.fst→∃ (h:Zct (some g) a.fst),∀ (a_1:Bool),a_1=decide (x.snd.fst≥(0 :
 Int))→Br a_1 (∃ (h:(0:Int)≤i64.wrap (i64.wrap ((Z1w (some g) a.fst).fst.fst+(Z1w (some g) a.fst).fst.snd.snd.fst) - c) ∧
 i64.wrap (i64.wrap ((Z1w (some g) a.fst).fst.fst+(Z1w (some g) a.fst).fst.snd.snd.fst) - c)<(↑bed.length:Int)),∃ (h:(0:Int) ≤
 x.snd.fst∧x.snd.fst<(↑bed.length:Int)),∃ (h:W2 (bed.getD (i64.wrap (i64.wrap ((Z1w (some g) a.fst).fst.fst+(Z1w (some g)
 a.fst).fst.snd.snd.fst) - c)).toNat (0:Nat)) (bed.getD x.snd.fst.toNat (0:Nat))),∀ (a_2:Int × Unit),a_2=Z6g (bed.getD (i64.wrap (i64.wrap ((Z1w
 (some g) a.fst).fst.fst+(Z1w (some g) a.fst).fst.snd.snd.fst) - c)).toNat (0:Nat)) (bed.getD x.snd.fst.toNat (0:Nat))→∀ (a_3:Bool),a_3=decide
 (a_2.fst > (0:Int))→Br a_3 (HIs [] []∧I (i64.wrap (x.fst+(1:Int)),x.snd.fst,()) ()∧μ (i64.wrap (x.fst+(1:Int)),x.snd.fst,()) ()<μ x y) (∀
 (a_4:Bool),a_4=(a_2.fst==(0:Int))→Br a_4 (∀ (a_5:Bool),a_5=decide (i64.wrap (i64.wrap ((Z1w (some g) a.fst).fst.fst+(Z1w
 (some g) a.fst).fst.snd.snd.fst) - c) > x.snd.fst)→Br a_5 (HIs [] []∧I (i64.wrap (x.fst+(1:Int)),x.snd.fst,()) ()∧μ (i64.wrap (x.fst+(1 :
 Int)),x.snd.fst,()) ()<μ x y) (HIs [] []∧I (i64.wrap (x.fst+(1:Int)),i64.wrap (i64.wrap ((Z1w (some g) a.fst).fst.fst+(Z1w
 (some g) a.fst).fst.snd.snd.fst) - c),()) ()∧μ (i64.wrap (x.fst+(1:Int)),i64.wrap (i64.wrap ((Z1w (some g) a.fst).fst.fst +
 (Z1w (some g) a.fst).fst.snd.snd.fst) - c),()) ()<μ x y)) (HIs [] []∧I (i64.wrap (x.fst+(1:Int)),i64.wrap (i64.wrap ((Z1w
 (some g) a.fst).fst.fst+(Z1w (some g) a.fst).fst.snd.snd.fst) - c),()) ()∧μ (i64.wrap (x.fst+(1:Int)),i64.wrap (i64.wrap
 ((Z1w (some g) a.fst).fst.fst+(Z1w (some g) a.fst).fst.snd.snd.fst) - c),()) ()<μ x y))) (HIs [] []∧I (i64.wrap (x.fst+(1:Int)),
 i64.wrap (i64.wrap ((Z1w (some g) a.fst).fst.fst+(Z1w (some g) a.fst).fst.snd.snd.fst) - c),()) ()∧μ (i64.wrap (x.fst+(1 :
 Int)),i64.wrap (i64.wrap ((Z1w (some g) a.fst).fst.fst+(Z1w (some g) a.fst).fst.snd.snd.fst) - c),()) ()<μ x y)) (∃ (h:(0:Int) ≤
 x.snd.fst∧x.snd.fst<(↑bed.length:Int)),∃ (h:(0:Int)≤c∧c<(↑bed.length:Int)),∃ (h:W2 (bed.getD x.snd.fst.toNat (0:Nat)) (bed.getD c.toNat (0:Nat))),∀ (a :
 Int × Unit),a=Z6g (bed.getD x.snd.fst.toNat (0:Nat)) (bed.getD c.toNat (0:Nat))→∀ (a_1:Bool),a_1=decide (a.fst≥(0:Int))→Br a_1 (post ((-1:Int),()))
 (post (x.snd.fst,()))))))
theorem Zv8 (g:Int × (List (Int × Int × Int × Int)) × (List ((Int × Int) × Int)) × (List (List Int)) × (List Int) × (List Nat) × List Nat) (bed:List Nat) (c:Int) (h:Z9e (some g) bed c) (w:KS.wf [.ptr Z1a,.slice (.flt .f64),.int .i64] ((some g),bed,c,())):Z8q  g bed c (fun r=>r=Z3d (some g) bed c):=by
 obtain ⟨hg,hw⟩:=h
 obtain ⟨n,gn,rfl⟩:=Zz3 hg
 have hC:(Ze (some (netG n))).1=Zh n:=Z4t n
 have hR:Z3d (some (netG n)) bed c=r1 (Z2h true (Zh n) n bed c):=by unfold Z3d; rw [Z4t]; rfl
 have cr:=Zat n
 refine ⟨trivial,?_⟩
 rw [hC,hR]
 rintro _ rfl
 refine Br.intro (fun e=>congrArg r1 (Zmi (.inl (bne_iff_ne.1 e))).symm) fun e=>?_
 have e1:(bed.length:Int)=Zh n:=by simpa using e
 rintro _ rfl
 refine Br.intro (fun e=>congrArg r1 (Zmi (.inr (.inl (of_decide_eq_true e)))).symm) fun e=>?_
 have e2:=of_decide_eq_false e
 rintro _ rfl
 refine Br.intro (fun e=>congrArg r1 (Zmi (.inr (.inr (of_decide_eq_true e)))).symm) fun e=>?_
 have e3:=of_decide_eq_false e
 rw [Zqj e1 (by omega) (by omega)]
 have hp:Zw n c=true:=by
  obtain ⟨k,rfl⟩:∃ k:Nat,c=k:=⟨c.toNat,by omega⟩
  exact Zmg (by omega)
 refine ⟨rfl,fun x _=>∃ k:Nat,x.1=k∧k≤4∧x.2.1=Z1k n bed c k,fun x _=>4 - x.1.toNat,⟨0,rfl,by omega,rfl⟩,?_⟩
 rintro ⟨_,_,⟨⟩⟩ _ ⟨k,rfl,hk,rfl⟩
 dsimp only
 have wg:∀ i:Int,0≤i→i<(bed.length:Int)→W64 (bed.getD i.toNat 0):=fun i h1 h2=>hw _ (Z5w (by omega) 0)
 rintro _ rfl
 refine Br.intro (fun d=>?_) fun d=>?_
 rotate_left
 ·have d:k=4:=by have d:¬ (k:Int)<4:=of_decide_eq_false d; omega
  subst d
  obtain ⟨b1,b2⟩:=Z1ca (bed:=bed) hp
  refine ⟨⟨by omega,by omega⟩,⟨by omega,by omega⟩,⟨wg _ (by omega) (by omega),wg _ (by omega) (by omega)⟩,?_⟩
  rintro _ rfl
  rintro _ rfl
  refine Br.intro (fun q=>?_) fun q=>?_
  ·have q:¬ Z1h bed (Z1k n bed c 4)<Z1h bed c:=fun w=>absurd (of_decide_eq_true q) (by
    have:(Z6g (bed.getD (Z1k n bed c 4).toNat 0) (bed.getD c.toNat 0)).fst<0:=Z15t.2 w
    omega)
   show ((-1:Int),())=(Z7a n bed c,())
   unfold Z7a
   rw [if_neg q]
  ·have q:Z1h bed (Z1k n bed c 4)<Z1h bed c:=Z15t.1 (by
    have:¬ (Z6g (bed.getD (Z1k n bed c 4).toNat 0) (bed.getD c.toNat 0)).fst≥0:=of_decide_eq_false q
    show (Z6g (bed.getD (Z1k n bed c 4).toNat 0) (bed.getD c.toNat 0)).fst<0
    omega)
   show (Z1k n bed c 4,())=(Z7a n bed c,())
   unfold Z7a
   rw [if_pos q]
 have d:k<4:=by have d:(k:Int)<4:=of_decide_eq_true d; omega
 obtain ⟨f1,f2,f3,f4⟩:=Zgg (bed:=bed) hp k hk
 obtain ⟨t1,t2⟩:=Z8f hp d
 have hs:Z1k n bed c (k+1)=Zjc bed (Z1k n bed c k) (Z7 n c k).1:=rfl
 have wk:i64.wrap ((k:Int)+1)=((k+1:Nat):Int):=Z24 d (by omega)
 have ok:Z14 n c (k:Int)=true:=Z1q.2 ⟨hp,by omega,by omega⟩
 obtain ⟨q,hq,ha,ht⟩:=Z1dc ok
 have hE:=(Zwd n (Zh n).toNat (by omega)).2
 have hE:(netE n).1.length≤4*(Zh n).toNat:=hE
 have et:i64.wrap (i64.wrap ((Z79 (some (netG n)) q).1+(Z79 (some (netG n)) q).2.2.1) - c)=(Z7 n c k).1:=by
  rw [ht,Z16 (x:=c+(Z7 n c k).1) (by omega) (by omega),Z16 (by omega) (by omega)]; omega
 refine ⟨⟨hg,⟨by omega,by omega⟩,by omega,by omega⟩,?_⟩
 rintro _ rfl
 have hA:(Z7d (some (netG n)) c k).fst=q:=ha
 have hEd:(Z1w (some (netG n)) q).fst=Z79 (some (netG n)) q:=rfl
 rw [hA,hEd,et,wk]
 refine ⟨⟨hg,by omega,by omega⟩,?_⟩
 have nskip:Z1k n bed c (k+1)=Z1k n bed c k→HIs [] []∧(∃ j:Nat,((k+1:Nat):Int)=j∧j≤4∧Z1k n bed c k=Z1k n bed c j)∧4 - (((k+1:Nat):Int)).toNat<4 - ((k:Nat):Int).toNat:=fun h=>⟨rfl,⟨k+1,rfl,by omega,h.symm⟩,by omega⟩
 have ntake:Z1k n bed c (k+1)=(Z7 n c k).1→HIs [] []∧(∃ j:Nat,((k+1:Nat):Int)=j∧j≤4∧(Z7 n c k).1=Z1k n bed c j)∧4 - (((k+1:Nat):Int)).toNat<4 - ((k:Nat):Int).toNat:=fun h=>⟨rfl,⟨k+1,rfl,by omega,h.symm⟩,by omega⟩
 rintro _ rfl
 refine Br.intro (fun f=>?_) fun f=>ntake (by rw [hs]; exact Zcv (.inl (by have:=of_decide_eq_false f; omega)))
 have f:=of_decide_eq_true f
 refine ⟨⟨t1,by omega⟩,⟨by omega,by omega⟩,⟨wg _ t1 (by omega),wg _ (by omega) (by omega)⟩,?_⟩
 rintro _ rfl
 have hcm:(Z6g (bed.getD (Z7 n c k).1.toNat 0) (bed.getD (Z1k n bed c k).toNat 0)).fst=cmpI (Z1h bed (Z7 n c k).1) (Z1h bed (Z1k n bed c k)):=rfl
 rw [hcm]
 rintro _ rfl
 refine Br.intro (fun g1=>nskip (by rw [hs]; exact Zje (by omega) (.inl (Z15u.1 (of_decide_eq_true g1))))) fun g1=>?_
 have g1:¬ Z1h bed (Z7 n c k).1 > Z1h bed (Z1k n bed c k):=fun w=>of_decide_eq_false g1 (Z15u.2 w)
 rintro _ rfl
 refine Br.intro (fun g2=>?_) fun g2=>ntake (by
  rw [hs]
  have g2:¬ cmpI (Z1h bed (Z7 n c k).1) (Z1h bed (Z1k n bed c k))=0:=by simpa using g2
  rw [Z15v] at g2
  exact Zcv (.inr (.inl (by omega))))
 have g2:Z1h bed (Z7 n c k).1=Z1h bed (Z1k n bed c k):=Z15v.1 (by simpa using g2)
 rintro _ rfl
 exact Br.intro (fun g3=>nskip (by rw [hs]; exact Zje (by omega) (.inr ⟨g2,by have:=of_decide_eq_true g3; omega⟩))) fun g3=>ntake (by rw [hs]; exact Zcv (.inr (.inr ⟨g2,by have:=of_decide_eq_false g3; omega⟩)))
def Zbz:=fun (a b:List Int) (post:Bool × Unit→Prop)=>∀ (a_1:Bool),a_1=((↑a.length:Int) != (↑b.length:Int))→Br a_1 (post (false,())) (HIs [] [] ∧
 ∃ (I:Int × Unit→Unit→Prop),∃ (μ:Int × Unit→Unit→Nat),I ((0:Int),()) ()∧∀ (x:Int × Unit) (y:Unit),I x y→∀ (a_2:Bool),a_2=decide (x.fst<(↑a.length :
 Int))→Br a_2 (∃ (h:(0:Int)≤x.fst∧x.fst<(↑a.length:Int)),∃ (h:(0:Int)≤x.fst∧x.fst<(↑b.length:Int)),∀ (a_3:Bool),a_3=(a.getD x.fst.toNat (0:Int)
 != b.getD x.fst.toNat (0:Int))→Br a_3 (post (false,())) (HIs [] []∧I (i64.wrap (x.fst+(1:Int)),()) ()∧μ (i64.wrap (x.fst+(1:Int)),()) () <
 μ x y)) (post (true,())))
theorem Z10r (a:List Int) (b:List Int) (w:KS.wf [.slice (.int .i64),.slice (.int .i64)] (a,b,())):Zbz  a b (fun r=>r=Z5n a b):=by
 have ha:a.length≤maxN:=w.1.1
 have hm:maxN≤9223372036854775807:=by decide
 rintro _ rfl
 refine Br.intro (fun e=>congrArg r1 ?_) fun e=>?_
 ·have e:¬ a.length=b.length:=fun q=>by rw [q] at e; simp at e
  exact (beq_eq_false_iff_ne.2 fun q=>e (congrArg List.length q)).symm
 have e:a.length=b.length:=by
  have:((a.length:Int)==(b.length:Int))=true:=by
   have e:(!((a.length:Int)==(b.length:Int)))=false:=e
   simpa using e
  have:=beq_iff_eq.1 this
  omega
 refine ⟨rfl,fun x _=>∃ k:Nat,x.1=k∧k≤a.length∧a.take k=b.take k,fun x _=>a.length - x.1.toNat,⟨0,rfl,by omega,rfl⟩,?_⟩
 rintro ⟨_,⟨⟩⟩ _ ⟨k,rfl,hk,hq⟩
 dsimp only
 rintro _ rfl
 refine Br.intro (fun e1=>?_) fun e1=>?_
 ·have e1:k<a.length:=by have:=of_decide_eq_true e1; omega
  rw [Int.toNat_natCast,Z24 e1 (by omega)]
  have ta:=Z5x e1 0
  have tb:=Z5x (l:=b) (i:=k) (by omega) 0
  refine ⟨⟨by omega,by omega⟩,⟨by omega,by omega⟩,?_⟩
  rintro _ rfl
  refine Br.intro (fun e2=>congrArg r1 ?_) fun e2=>?_
  ·have e2:¬ a.getD k 0=b.getD k 0:=bne_iff_ne.1 e2
   refine (beq_eq_false_iff_ne.2 fun q=>e2 ?_).symm
   rw [q]
  ·have e2:a.getD k 0=b.getD k 0:=by
    have e2:(!(a.getD k 0==b.getD k 0))=false:=e2
    simpa using e2
   exact ⟨rfl,⟨k+1,rfl,by omega,by rw [ta,tb,hq,e2]⟩,by omega⟩
 ·have e1:k=a.length:=by have:=of_decide_eq_false e1; omega
  subst e1
  refine congrArg r1 (beq_iff_eq.2 ?_).symm
  rw [List.take_length] at hq
  rw [hq,e,List.take_length]
def Z7i:=fun (a b:List Int) (post:Bool × Unit→Prop)=>∀ (a_1:Bool),a_1=((↑a.length:Int) != (↑b.length:Int))→Br a_1 (post (false,())) (HIs []
 []∧∃ (I:Int × Unit→Unit→Prop),∃ (μ:Int × Unit→Unit→Nat),I ((0:Int),()) ()∧∀ (x:Int × Unit) (y:Unit),I x y→∀ (a_2:Bool),a_2=decide (x.fst <
 (↑a.length:Int))→Br a_2 (∃ (h:(0:Int)≤x.fst∧x.fst<(↑a.length:Int)),∃ (h:(0:Int)≤x.fst∧x.fst<(↑b.length:Int)),∀ (a_3:Bool),a_3=(a.getD
 x.fst.toNat (0:Int) != b.getD x.fst.toNat (0:Int))→Br a_3 (post (false,())) (HIs [] []∧I (i64.wrap (x.fst+(1:Int)),()) ()∧μ (i64.wrap (x.fst +
 (1:Int)),()) ()<μ x y)) (post (true,())))
theorem Zrg (a:List Int) (b:List Int) (w:KS.wf [.slice (.int .i64),.slice (.int .i64)] (a,b,())):Z7i  a b (fun r=>r=Z5n a b):=by
 have ha:a.length≤maxN:=w.1.1
 have hm:maxN≤9223372036854775807:=by decide
 rintro _ rfl
 refine Br.intro (fun e=>congrArg r1 ?_) fun e=>?_
 ·have e:¬ a.length=b.length:=fun q=>by rw [q] at e; simp at e
  exact (beq_eq_false_iff_ne.2 fun q=>e (congrArg List.length q)).symm
 have e:a.length=b.length:=by
  have:((a.length:Int)==(b.length:Int))=true:=by
   have e:(!((a.length:Int)==(b.length:Int)))=false:=e
   simpa using e
  have:=beq_iff_eq.1 this
  omega
 refine ⟨rfl,fun x _=>∃ k:Nat,x.1=k∧k≤a.length∧a.take k=b.take k,fun x _=>a.length - x.1.toNat,⟨0,rfl,by omega,rfl⟩,?_⟩
 rintro ⟨_,⟨⟩⟩ _ ⟨k,rfl,hk,hq⟩
 dsimp only
 rintro _ rfl
 refine Br.intro (fun e1=>?_) fun e1=>?_
 ·have e1:k<a.length:=by have:=of_decide_eq_true e1; omega
  rw [Int.toNat_natCast,Z24 e1 (by omega)]
  have ta:=Z5x e1 0
  have tb:=Z5x (l:=b) (i:=k) (by omega) 0
  refine ⟨⟨by omega,by omega⟩,⟨by omega,by omega⟩,?_⟩
  rintro _ rfl
  refine Br.intro (fun e2=>congrArg r1 ?_) fun e2=>?_
  ·have e2:¬ a.getD k 0=b.getD k 0:=bne_iff_ne.1 e2
   refine (beq_eq_false_iff_ne.2 fun q=>e2 ?_).symm
   rw [q]
  ·have e2:a.getD k 0=b.getD k 0:=by
    have e2:(!(a.getD k 0==b.getD k 0))=false:=e2
    simpa using e2
   exact ⟨rfl,⟨k+1,rfl,by omega,by rw [ta,tb,hq,e2]⟩,by omega⟩
 ·have e1:k=a.length:=by have:=of_decide_eq_false e1; omega
  subst e1
  refine congrArg r1 (beq_iff_eq.2 ?_).symm
  rw [List.take_length] at hq
  rw [hq,e,List.take_length]
end Go.Lift

namespace Go.Lift
end Go.Lift

namespace Go.Lift
end Go.Lift

namespace Go.Lift
open Go.Proofs
end Go.Lift

namespace Go.Lift
end Go.Lift

namespace Go.Lift
open Go.Proofs
end Go.Lift

namespace Go.Lift
open Go.Proofs
end Go.Lift

namespace Go.Lift
end Go.Lift

namespace Go.Lift
end Go.Lift

namespace Go.Lift
end Go.Lift

namespace Go.Lift
open Go.Proofs
end Go.Lift

namespace Go.Lift
open Go.Proofs
end Go.Lift

namespace Go.Lift
open Ieee
end Go.Lift

namespace Go.Lift
end Go.Lift

namespace Go.Lift
end Go.Lift

namespace Go.Lift
open Go.Proofs
end Go.Lift

namespace Go.Lift
open Go.Proofs
end Go.Lift

namespace Go.Lift
open Go.Proofs
end Go.Lift

namespace Go.Lift
def Z6s:=fun (e:Int) (post:Bool × Unit→Prop)=>post (false,())
theorem Zp8 (e:Int) (h:Zct none e) (w:KS.wf [.ptr Z1a,.int .i64] (none,e,())):Z6s  e (fun r=>r=nIsR none e):=by
 exact rfl
def Z6t:=fun (g:Int × List (Int × Int × Int × Int) × List ((Int × Int) × Int) × List (List Int) × List Int × List Nat × List Nat) (e:Int) (post:Bool × Unit →
 Prop)=>∀ (a:Bool),a=decide (e≥(0:Int))→Br a (∃ (h:some g≠none),∀ (a:Bool),a=decide (e<(↑g.snd.fst.length:Int))→post (a,())) (post
 (false,()))
theorem Zp9 (g:Int × (List (Int × Int × Int × Int)) × (List ((Int × Int) × Int)) × (List (List Int)) × (List Int) × (List Nat) × List Nat) (e:Int) (h:Zct (some g) e) (w:KS.wf [.ptr Z1a,.int .i64] ((some g),e,())):Z6t  g e (fun r=>r=nIsR (some g) e):=by
 rintro _ rfl
 refine Br.intro (fun e1=>?_) fun e1=>?_
 ·refine ⟨by simp,?_⟩
  rintro _ rfl
  show _=(decide (0≤e)&&decide (e<(g.2.1.length:Nat)),())
  rw [decide_eq_true (p:=0≤e) (of_decide_eq_true e1)]; rfl
 ·show _=(decide (0≤e)&&decide (e<(g.2.1.length:Nat)),())
  rw [decide_eq_false (p:=0≤e) (of_decide_eq_false e1)]; rfl
def Z5h:=fun (e:Int) (post:(Int × Int × Int × Int) × Bool × Unit→Prop)=>∃ (h:Zct none e),∀ (a:Bool),a=(nIsR none e).fst→Br (!a)
 (post (((0:Int),(0:Int),(0:Int),(0:Int)),false,())) (∃ (h:(none:Option (Int × (List (Int × Int × Int × Int)) × (List ((Int × Int) × Int)) × (List
 (List Int)) × (List Int) × (List Nat) × List Nat))≠none),False)
theorem Zl7 (e:Int) (h:Zct none e) (w:KS.wf [.ptr Z1a,.int .i64] (none,e,())):Z5h  e (fun r=>r=Z1w none e):=by
 refine ⟨h,?_⟩
 rintro _ rfl
 exact Br.intro (fun _=>rfl) fun q=>by cases q
def Z5i:=fun (g:Int × List (Int × Int × Int × Int) × List ((Int × Int) × Int) × List (List Int) × List Int × List Nat × List Nat) (e:Int) (post:(Int × Int ×
 Int × Int) × Bool × Unit→Prop)=>∃ (h:Zct (some g) e),∀ (a:Bool),a=(nIsR (some g) e).fst→Br (!a) (post (((0:Int),(0:Int),(0:Int),(0:Int)),
 false,())) (∃ (h:some g≠none),∃ (h:(0:Int)≤e∧e<(↑g.snd.fst.length:Int)),post (((g.snd.fst.getD e.toNat ((K.int i64).pair ((K.int
 i64).pair ((K.int i64).pair (K.int i64)))).dflt).fst,(g.snd.fst.getD e.toNat ((K.int i64).pair ((K.int i64).pair ((K.int i64).pair
 (K.int i64)))).dflt).snd.fst,(g.snd.fst.getD e.toNat ((K.int i64).pair ((K.int i64).pair ((K.int i64).pair (K.int
 i64)))).dflt).snd.snd.fst,(g.snd.fst.getD e.toNat ((K.int i64).pair ((K.int i64).pair ((K.int i64).pair (K.int i64)))).dflt).snd.snd.snd),
 true,()))
theorem Zl8 (g:Int × (List (Int × Int × Int × Int)) × (List ((Int × Int) × Int)) × (List (List Int)) × (List Int) × (List Nat) × List Nat) (e:Int) (h:Zct (some g) e) (w:KS.wf [.ptr Z1a,.int .i64] ((some g),e,())):Z5i  g e (fun r=>r=Z1w (some g) e):=by
 refine ⟨h,?_⟩
 rintro _ rfl
 have hi:(nIsR (some g) e).1=(decide (0≤e)&&decide (e<(g.2.1.length:Nat))):=rfl
 refine Br.intro (fun q=>?_) fun q=>?_
 ·have q:(nIsR (some g) e).1=false:=by simpa using q
  have hn:¬ (0≤e∧e<(g.2.1.length:Nat)):=fun z=>by rw [hi,decide_eq_true z.1,decide_eq_true z.2] at q; cases q
  show _=(Z79 (some g) e,nIs (some g) e,())
  have q2:nIs (some g) e=false:=q
  unfold Z79
  dsimp only
  rw [q2,if_neg hn]; rfl
 ·have q:(nIsR (some g) e).1=true:=by simpa using q
  have hy:0≤e∧e<(g.2.1.length:Nat):=by
   rw [hi] at q
   simpa using q
  refine ⟨by simp,hy,?_⟩
  show _=(Z79 (some g) e,nIs (some g) e,())
  have q2:nIs (some g) e=true:=q
  unfold Z79
  dsimp only
  rw [q2,if_pos hy]; rfl
def Z4d:=fun (c o:Int) (post:Int × Int × Unit→Prop)=>post ((0:Int),(0:Int),())
theorem Zi6 (c:Int) (o:Int) (h:WNet none c o) (w:KS.wf [.ptr Z1a,.int .i64,.int .i64] (none,c,o,())):Z4d  c o (fun r=>r=Z7d none c o):=by
 exact rfl
def Z4e:=fun (g:Int × List (Int × Int × Int × Int) × List ((Int × Int) × Int) × List (List Int) × List Int × List Nat × List Nat) (c o:Int) (post:Int × Int
 × Unit→Prop)=>∃ (h:some g≠none),Br (!(mget (c,o) g.snd.snd.fst).isSome) (post ((0:Int),(0:Int),())) (∃ (h:some g≠none),∃ (h:(0 :
 Int)≤(mget (c,o) g.snd.snd.fst).getD (0:Int)∧(mget (c,o) g.snd.snd.fst).getD (0:Int)<(↑g.snd.fst.length:Int)),∀ (a:Bool),a=((g.snd.fst.getD ((mget (c,o)
 g.snd.snd.fst).getD (0:Int)).toNat ((K.int i64).pair ((K.int i64).pair ((K.int i64).pair (K.int i64)))).dflt).fst==c)→Br a (post ((mget (c,
 o) g.snd.snd.fst).getD (0:Int),(1:Int),())) (post ((mget (c,o) g.snd.snd.fst).getD (0:Int),(-1:Int),())))
theorem Zi7 (g:Int × (List (Int × Int × Int × Int)) × (List ((Int × Int) × Int)) × (List (List Int)) × (List Int) × (List Nat) × List Nat) (c:Int) (o:Int) (h:WNet (some g) c o) (w:KS.wf [.ptr Z1a,.int .i64,.int .i64] ((some g),c,o,())):Z4e  g c o (fun r=>r=Z7d (some g) c o):=by
 obtain ⟨hg,hc,ho⟩:=h
 obtain ⟨n,gn,hgn⟩:∃ n,Z1z n=true∧g=netG n:=by
  rcases hg with hg | ⟨n,gn,hg⟩
  ·cases hg
  ·exact ⟨n,gn,Option.some.inj hg⟩
 subst hgn
 refine ⟨by simp,?_⟩
 have hr:Z7d (some (netG n)) c o=match mget (c,o) (netE n).2 with
   | none=>((0:Int),(0:Int),())
   | some e=>if ((netE n).1.getD e.toNat dEd).1=c then (e,(1:Int),()) else (e,(-1:Int),()):=by
  unfold Z7d Z9b netG
  dsimp only
  cases mget (c,o) (netE n).2 with
  | none=>rfl
  | some e=>dsimp only; split <;> rfl
 rw [hr]
 by_cases ok:Z14 n c o=true
 ·obtain ⟨k,hk,k1,_,_⟩:=Z12r ok
  have k1':mget (c,o) (netG n).2.2.1=some (k:Int):=k1
  rw [k1',k1]
  refine Br.intro (fun q=>by cases q) fun _=>?_
  refine ⟨by simp,⟨by show (0:Int)≤k; omega,by show (k:Int)<((netE n).1.length:Nat); omega⟩,?_⟩
  intro a ha
  have ha:a=decide (((netE n).1.getD (k:Int).toNat dEd).1=c):=ha
  rw [ha]
  dsimp only
  refine Br.intro (fun q=>?_) fun q=>?_
  ·rw [if_pos (of_decide_eq_true q)]; rfl
  ·rw [if_neg (of_decide_eq_false q)]; rfl
 ·have k1:=Z1bn ok
  have k1':mget (c,o) (netG n).2.2.1=none:=k1
  rw [k1',k1]
  exact Br.intro (fun _=>rfl) fun q=>by cases q
end Go.Lift

namespace Go.Lift
open Go.Proofs
def Zej:Con:=.det [.ptr Z1a,.int .i64] [.snap .bool] (fun x=>Zct x.1 x.2.1) (fun x=>nIsR x.1 x.2.1)
def Z6u:Hn:=nHn
def Z7j:Cx:=⟨Zx Z10,Zz [],RbG⟩
theorem Zl9:CxOk Tryz.prog Z7j:=⟨Z8 Zb,fun f c h=>by cases h⟩
theorem Zpa:FnAt Tryz.prog 113 Tryz.f113.ntmps Tryz.f113.results.toList (Tryz.f113.body.getD .skip):=⟨Tryz.f113,Tryz.func113,rfl,rfl,by simp,by decide⟩
theorem Zla (e:Int) (post:Bool × Unit→Prop):Zi Z7j Z6u Tryz.f113.ntmps Tryz.f113.results.toList (Tryz.f113.body.getD .skip) [.ptr Z1a,.int .i64] [.snap .bool] (none,e,()) post=Z6s  e post:=by kernel_rfl
theorem Zlb (g:Int × (List (Int × Int × Int × Int)) × (List ((Int × Int) × Int)) × (List (List Int)) × (List Int) × (List Nat) × List Nat) (e:Int) (post:Bool × Unit→Prop):Zi Z7j Z6u Tryz.f113.ntmps Tryz.f113.results.toList (Tryz.f113.body.getD .skip) [.ptr Z1a,.int .i64] [.snap .bool] ((some g),e,()) post=Z6t  g e post:=by kernel_rfl
def Zrh (x:KS [.ptr Z1a,.int .i64]) (post:RS [.snap .bool]→Prop):Prop:=match x with
 | (none,y)=>Z6s  y.1 post
 | (some g,y)=>Z6t  g y.1 post
theorem Zri:Zej.holds Tryz.prog RbG 113 :=
 detP Zl9 Zc Z6u Zpa (F:=Zrh) (fun x post=>match x with
  | (none,y)=>Zla y.1 post
  | (some g,y)=>Zlb g y.1 post) fun x h w=>match x,h,w with
  | (none,y),h,w=>Zp8  y.1 h w
  | (some g,y),h,w=>Zp9  g y.1 h w
def Zb7:Con:=.det [.ptr Z1a,.int .i64] [.snap Z2g,.snap .bool] (fun x=>Zct x.1 x.2.1) (fun x=>Z1w x.1 x.2.1)
def Z5j:Hn:=nHn
def Z65:Cx:=⟨Zx Z10,Zz [(113,Zej)],RbG⟩
theorem Zi8:CxOk Tryz.prog Z65:=⟨Z8 Zb,Zd ⟨Zri,trivial⟩⟩
theorem Zlc:FnAt Tryz.prog 75 Tryz.f75.ntmps Tryz.f75.results.toList (Tryz.f75.body.getD .skip):=⟨Tryz.f75,Tryz.func75,rfl,rfl,by simp,by decide⟩
theorem Zi9 (e:Int) (post:(Int × Int × Int × Int) × Bool × Unit→Prop):Zi Z65 Z5j Tryz.f75.ntmps Tryz.f75.results.toList (Tryz.f75.body.getD .skip) [.ptr Z1a,.int .i64] [.snap Z2g,.snap .bool] (none,e,()) post=Z5h  e post:=by kernel_rfl
theorem Zia (g:Int × (List (Int × Int × Int × Int)) × (List ((Int × Int) × Int)) × (List (List Int)) × (List Int) × (List Nat) × List Nat) (e:Int) (post:(Int × Int × Int × Int) × Bool × Unit→Prop):Zi Z65 Z5j Tryz.f75.ntmps Tryz.f75.results.toList (Tryz.f75.body.getD .skip) [.ptr Z1a,.int .i64] [.snap Z2g,.snap .bool] ((some g),e,()) post=Z5i  g e post:=by kernel_rfl
def Zna (x:KS [.ptr Z1a,.int .i64]) (post:RS [.snap Z2g,.snap .bool]→Prop):Prop:=match x with
 | (none,y)=>Z5h  y.1 post
 | (some g,y)=>Z5i  g y.1 post
theorem Znb:Zb7.holds Tryz.prog RbG 75 :=
 detP Zi8 Zc Z5j Zlc (F:=Zna) (fun x post=>match x with
  | (none,y)=>Zi9 y.1 post
  | (some g,y)=>Zia g y.1 post) fun x h w=>match x,h,w with
  | (none,y),h,w=>Zl7  y.1 h w
  | (some g,y),h,w=>Zl8  g y.1 h w
def Z8r:Con:=Con.nam [.ptr Z1a,.int .i64,.int .i64] [.snap (.int .i64),.snap (.int .i64)] (fun x=>WNet x.1 x.2.1 x.2.2.1) (fun x=>Z7d x.1 x.2.1 x.2.2.1)
def Z4f:Hn:=nHn
def Z4y:Cx:=⟨Zx Z10,Zz [],RbG⟩
theorem Zer:CxOk Tryz.prog Z4y:=⟨Z8 Zb,fun f c h=>by cases h⟩
theorem Zib:FnAt Tryz.prog 46 Tryz.f46.ntmps Tryz.f46.results.toList (Tryz.f46.body.getD .skip):=⟨Tryz.f46,Tryz.func46,rfl,rfl,by simp,by decide⟩
theorem Zes (c:Int) (o:Int) (post:Int × Int × Unit→Prop):Zi Z4y Z4f Tryz.f46.ntmps Tryz.f46.results.toList (Tryz.f46.body.getD .skip) [.ptr Z1a,.int .i64,.int .i64] [.snap (.int .i64),.snap (.int .i64)] (none,c,o,()) post=Z4d  c o post:=by kernel_rfl
theorem Zet (g:Int × (List (Int × Int × Int × Int)) × (List ((Int × Int) × Int)) × (List (List Int)) × (List Int) × (List Nat) × List Nat) (c:Int) (o:Int) (post:Int × Int × Unit→Prop):Zi Z4y Z4f Tryz.f46.ntmps Tryz.f46.results.toList (Tryz.f46.body.getD .skip) [.ptr Z1a,.int .i64,.int .i64] [.snap (.int .i64),.snap (.int .i64)] ((some g),c,o,()) post=Z4e  g c o post:=by kernel_rfl
def Zjt (x:KS [.ptr Z1a,.int .i64,.int .i64]) (post:RS [.snap (.int .i64),.snap (.int .i64)]→Prop):Prop:=match x with
 | (none,y)=>Z4d  y.1 y.2.1 post
 | (some g,y)=>Z4e  g y.1 y.2.1 post
theorem Zju:Z8r.holds Tryz.prog RbG 46 :=
 Z19 (detP Zer Zc Z4f Zib (F:=Zjt) (fun x post=>match x with
  | (none,y)=>Zes y.1 y.2.1 post
  | (some g,y)=>Zet g y.1 y.2.1 post) fun x h w=>match x,h,w with
  | (none,y),h,w=>Zi6  y.1 y.2.1 h w
  | (some g,y),h,w=>Zi7  g y.1 y.2.1 h w)
end Go.Lift

namespace Go.Lift
def Z7k:=fun (a b:Nat) (post:Int × Unit→Prop)=>∃ (h:True),∃ (h:True),∃ (h:W2 (Zy a).fst (Zy b).fst),post ((ordR (Zy a).fst (Zy
 b).fst).fst,())
theorem Zrj (a:Nat) (b:Nat) (h:W2 a b):Z7k  a b (fun r=>r=Z6g a b):=by
 exact ⟨trivial,trivial,⟨Z5q h.1,Z5q h.2⟩,rfl⟩
def Z5k:=fun (x y:Int) (post:Int × Unit→Prop)=>False
theorem Zld (x:Int) (y:Int) (h:WCmp x y none):Z5k  x y (fun r=>r=Z8e x y none):=by
 obtain ⟨_,e,_⟩:=h
 cases e
def Z5l:=fun (x y:Int) (p:List Nat) (post:Int × Unit→Prop)=>∃ (h:(0:Int)≤y∧y<(↑p.length:Int)),∃ (h:(0:Int)≤x∧x<(↑p.length:Int)),
 ∃ (h:W2 (p.getD y.toNat (0:Nat)) (p.getD x.toNat (0:Nat))),∀ (a:Int × Unit),a=Z6g (p.getD y.toNat (0:Nat)) (p.getD x.toNat (0:Nat))→post (a.fst,())
theorem Zle (x:Int) (y:Int) (p:List Nat) (h:WCmp x y (some p)):Z5l  x y p (fun r=>r=Z8e x y (some p)):=by
 obtain ⟨bed,e,hx,hy,hw⟩:=h
 cases e
 refine ⟨hy,hx,⟨hw _ (Z5w (by omega) 0),hw _ (Z5w (by omega) 0)⟩,?_⟩
 rintro _ rfl
 rfl
end Go.Lift

namespace Go.Lift
open Go.Proofs
def Z6v:Con:=Con.nam [.flt .f64,.flt .f64] [.snap (.int .i64)] (fun x=>W2 x.1 x.2.1) (fun x=>Z6g x.1 x.2.1)
def Zcb:Cx:=⟨Zx Z10,Zz [(88,Z4c),(87,Z9m)],RbG⟩
theorem Zjv:CxOk Tryz.prog Zcb:=⟨Z8 Zb,Zd ⟨Z6l,Zho,trivial⟩⟩
theorem Znc:FnAt Tryz.prog 73 Tryz.f73.ntmps Tryz.f73.results.toList (Tryz.f73.body.getD .skip):=⟨Tryz.f73,Tryz.func73,rfl,rfl,by simp,by decide⟩
theorem Znd (a:Nat) (b:Nat) (post:Int × Unit→Prop):Zi Zcb nHn Tryz.f73.ntmps Tryz.f73.results.toList (Tryz.f73.body.getD .skip) [.flt .f64,.flt .f64] [.snap (.int .i64)] (a,b,()) post=Z7k  a b post:=by kernel_rfl
theorem Zcc:Z6v.holds Tryz.prog RbG 73 :=
 Z19 (detP Zjv Zc nHn Znc (F:=fun x post=>Z7k  x.1 x.2.1 post) (fun x post=>Znd x.1 x.2.1 post) fun x h _=>Zrj  x.1 x.2.1 h)
def Zb8:Con:=Con.nam [.int .i64,.int .i64,.ptr (.slice (.flt .f64))] [.snap (.int .i64)] (fun x=>WCmp x.1 x.2.1 x.2.2.1) (fun x=>Z8e x.1 x.2.1 x.2.2.1)
def Z5m:Hn:=nHn
def Z66:Cx:=⟨Zx Z10,Zz [(73,Z6v)],RbG⟩
theorem Zic:CxOk Tryz.prog Z66:=⟨Z8 Zb,Zd ⟨Zcc,trivial⟩⟩
theorem Zlf:FnAt Tryz.prog 72 Tryz.f72.ntmps Tryz.f72.results.toList (Tryz.f72.body.getD .skip):=⟨Tryz.f72,Tryz.func72,rfl,rfl,by simp,by decide⟩
theorem Zid (x:Int) (y:Int) (post:Int × Unit→Prop):Zi Z66 Z5m Tryz.f72.ntmps Tryz.f72.results.toList (Tryz.f72.body.getD .skip) [.int .i64,.int .i64,.ptr (.slice (.flt .f64))] [.snap (.int .i64)] (x,y,none,()) post=Z5k  x y post:=by kernel_rfl
theorem Zie (x:Int) (y:Int) (p:List Nat) (post:Int × Unit→Prop):Zi Z66 Z5m Tryz.f72.ntmps Tryz.f72.results.toList (Tryz.f72.body.getD .skip) [.int .i64,.int .i64,.ptr (.slice (.flt .f64))] [.snap (.int .i64)] (x,y,(some p),()) post=Z5l  x y p post:=by kernel_rfl
def Zne (x:KS [.int .i64,.int .i64,.ptr (.slice (.flt .f64))]) (post:RS [.snap (.int .i64)]→Prop):Prop:=match x with
 | (z0,z1,none,y)=>Z5k  z0 z1 post
 | (z0,z1,some g,y)=>Z5l  z0 z1 g post
theorem Znf:Zb8.holds Tryz.prog RbG 72 :=
 Z19 (detP Zic Zc Z5m Zlf (F:=Zne) (fun x post=>match x with
  | (z0,z1,none,y)=>Zid z0 z1 post
  | (z0,z1,some g,y)=>Zie z0 z1 g post) fun x h w=>match x,h,w with
  | (z0,z1,none,y),h,w=>Zld  z0 z1 h
  | (z0,z1,some g,y),h,w=>Zle  z0 z1 g h )
end Go.Lift

namespace Go.Lift
open Go.Proofs
def Zif:Con:=Con.nam [.slice (.int .i64)] [.snap .bool] (fun _=>True) (fun x=>Z11a x.1)
def Zfy:Hn:={ loops:=Z2n [(3,{ ls:=[(.slot 8,.data (.int .i64)),(.slot 3,.data (.int .i64))],os:=[] })],joins:=fun _=>none,named:=true }
def Zig:Cx:=⟨Zx Z10,Zz [],RbG⟩
theorem Zpb:CxOk Tryz.prog Zig:=⟨Z8 Zb,fun f c h=>by cases h⟩
theorem Zv9:FnAt Tryz.prog 56 Tryz.f56.ntmps Tryz.f56.results.toList (Tryz.f56.body.getD .skip):=⟨Tryz.f56,Tryz.func56,rfl,rfl,by simp,by decide⟩
theorem Zva (l:List Int) (post:Bool × Unit→Prop):Zi Zig Zfy Tryz.f56.ntmps Tryz.f56.results.toList (Tryz.f56.body.getD .skip) [.slice (.int .i64)] [.snap .bool] (l,()) post=Zby  l post:=by kernel_rfl
theorem Zxs:Zif.holds Tryz.prog RbG 56 :=
 Z19 (detP Zpb Zc Zfy Zv9 (F:=fun x post=>Zby  x.1 post) (fun x post=>Zva x.1 post) fun x _ w=>Z10q  x.1 w)
def Z4g:Con:=Con.nam [.slice (.int .i64)] [.own 2 (.int .i64)] (fun x=>Z11b x.1) (fun x=>Zmh x.1)
def Z3z:Hn:={ loops:=fun _=>none,joins:=fun _=>none,named:=true }
def Z4h:Cx:=⟨Zx Z10,Zz [],RbG⟩
theorem Z80:CxOk Tryz.prog Z4h:=⟨Z8 Zb,fun f c h=>by cases h⟩
theorem Z8v:FnAt Tryz.prog 57 Tryz.f57.ntmps Tryz.f57.results.toList (Tryz.f57.body.getD .skip):=⟨Tryz.f57,Tryz.func57,rfl,rfl,by simp,by decide⟩
theorem Z8w (l:List Int) (post:(List Int) × Unit→Prop):Zi Z4h Z3z Tryz.f57.ntmps Tryz.f57.results.toList (Tryz.f57.body.getD .skip) [.slice (.int .i64)] [.own 2 (.int .i64)] (l,()) post=Z2x  l post:=by kernel_rfl
theorem Z9t:Z4g.holds Tryz.prog RbG 57 :=
 Z19 (detP Z80 Zc Z3z Z8v (F:=fun x post=>Z2x  x.1 post) (fun x post=>Z8w x.1 post) fun x h _=>Zb6  x.1 h)
def Z6n:Con:=Con.nam [.ptr Z1a,.slice (.flt .f64),.int .i64] [.snap (.int .i64)] (fun x=>Z9e x.1 x.2.1 x.2.2.1) (fun x=>Z3d x.1 x.2.1 x.2.2.1)
def Z8s:Hn:={ loops:=Z2n [(5,{ ls:=[(.slot 34,.data (.int .i64)),(.slot 7,.data (.int .i64))],os:=[] })],joins:=fun _=>none,named:=true }
def Z9u:Cx:=⟨Zx Z10,Zz [(31,Z3k),(46,Z8r),(75,Zb7),(73,Z6v)],RbG⟩
theorem Zpc:CxOk Tryz.prog Z9u:=⟨Z8 Zb,Zd ⟨Z5d,Zju,Znb,Zcc,trivial⟩⟩
theorem Zvb:FnAt Tryz.prog 32 Tryz.f32.ntmps Tryz.f32.results.toList (Tryz.f32.body.getD .skip):=⟨Tryz.f32,Tryz.func32,rfl,rfl,by simp,by decide⟩
theorem Zpd (bed:List Nat) (c:Int) (post:Int × Unit→Prop):Zi Z9u Z8s Tryz.f32.ntmps Tryz.f32.results.toList (Tryz.f32.body.getD .skip) [.ptr Z1a,.slice (.flt .f64),.int .i64] [.snap (.int .i64)] (none,bed,c,()) post=Z8p  bed c post:=by kernel_rfl
theorem Zpe (g:Int × (List (Int × Int × Int × Int)) × (List ((Int × Int) × Int)) × (List (List Int)) × (List Int) × (List Nat) × List Nat) (bed:List Nat) (c:Int) (post:Int × Unit→Prop):Zi Z9u Z8s Tryz.f32.ntmps Tryz.f32.results.toList (Tryz.f32.body.getD .skip) [.ptr Z1a,.slice (.flt .f64),.int .i64] [.snap (.int .i64)] ((some g),bed,c,()) post=Z8q  g bed c post:=by kernel_rfl
def Zxt (x:KS [.ptr Z1a,.slice (.flt .f64),.int .i64]) (post:RS [.snap (.int .i64)]→Prop):Prop:=match x with
 | (none,y)=>Z8p  y.1 y.2.1 post
 | (some g,y)=>Z8q  g y.1 y.2.1 post
theorem Z9v:Z6n.holds Tryz.prog RbG 32 :=
 Z19 (detP Zpc Zc Z8s Zvb (F:=Zxt) (fun x post=>match x with
  | (none,y)=>Zpd y.1 y.2.1 post
  | (some g,y)=>Zpe g y.1 y.2.1 post) fun x h w=>match x,h,w with
  | (none,y),h,w=>Zv7  y.1 y.2.1 h w
  | (some g,y),h,w=>Zv8  g y.1 y.2.1 h w)
def Zih:Con:=Con.nam [.slice (.int .i64),.slice (.int .i64)] [.snap .bool] (fun _=>True) (fun x=>Z5n x.1 x.2.1)
def Zfz:Hn:={ loops:=Z2n [(4,{ ls:=[(.slot 5,.data (.int .i64))],os:=[] })],joins:=fun _=>none,named:=true }
def Zii:Cx:=⟨Zx Z10,Zz [],RbG⟩
theorem Zpf:CxOk Tryz.prog Zii:=⟨Z8 Zb,fun f c h=>by cases h⟩
theorem Zvc:FnAt Tryz.prog 27 Tryz.f27.ntmps Tryz.f27.results.toList (Tryz.f27.body.getD .skip):=⟨Tryz.f27,Tryz.func27,rfl,rfl,by simp,by decide⟩
theorem Zvd (a:List Int) (b:List Int) (post:Bool × Unit→Prop):Zi Zii Zfz Tryz.f27.ntmps Tryz.f27.results.toList (Tryz.f27.body.getD .skip) [.slice (.int .i64),.slice (.int .i64)] [.snap .bool] (a,b,()) post=Zbz  a b post:=by kernel_rfl
theorem Zxu:Zih.holds Tryz.prog RbG 27 :=
 Z19 (detP Zpf Zc Zfz Zvc (F:=fun x post=>Zbz  x.1 x.2.1 post) (fun x post=>Zvd x.1 x.2.1 post) fun x _ w=>Z10r  x.1 x.2.1 w)
def Z6w:Con:=Con.nam [.slice (.int .i64),.slice (.int .i64)] [.snap .bool] (fun _=>True) (fun x=>Z5n x.1 x.2.1)
def Zb9:Hn:={ loops:=Z2n [(4,{ ls:=[(.slot 5,.data (.int .i64))],os:=[] })],joins:=fun _=>none,named:=true }
def Zcd:Cx:=⟨Zx Z10,Zz [],RbG⟩
theorem Zjw:CxOk Tryz.prog Zcd:=⟨Z8 Zb,fun f c h=>by cases h⟩
theorem Zng:FnAt Tryz.prog 28 Tryz.f28.ntmps Tryz.f28.results.toList (Tryz.f28.body.getD .skip):=⟨Tryz.f28,Tryz.func28,rfl,rfl,by simp,by decide⟩
theorem Znh (a:List Int) (b:List Int) (post:Bool × Unit→Prop):Zi Zcd Zb9 Tryz.f28.ntmps Tryz.f28.results.toList (Tryz.f28.body.getD .skip) [.slice (.int .i64),.slice (.int .i64)] [.snap .bool] (a,b,()) post=Z7i  a b post:=by kernel_rfl
theorem Zce:Z6w.holds Tryz.prog RbG 28 :=
 Z19 (detP Zjw Zc Zb9 Zng (F:=fun x post=>Z7i  x.1 x.2.1 post) (fun x post=>Znh x.1 x.2.1 post) fun x _ w=>Zrg  x.1 x.2.1 w)
end Go.Lift

namespace Go.Lift
end Go.Lift

namespace Go.Lift
def Z9w:=fun (ty37 ty3:Nat) (bed:List Nat) (post:List Int × Unit→Prop)=>∃ (h:(0:Int)≤(↑bed.length:Int)∧(↑bed.length:Int)≤(↑bed.length:Int) ∧
 (↑bed.length:Int)*(↑(8:Nat):Int)≤(281474976710656:Int)),HIs [HObj.box Md.rw ty37 [SV.data (K.flt f64).slice bed],HObj.row Md.rw ty3 (K.int i64)
 (List.replicate bed.length (0:Int))] [HObj.box Md.rw ty37 [SV.data (K.flt f64).slice bed],HObj.row Md.rw ty3 (K.int i64) (List.replicate bed.length (0 :
 Int))]∧∃ (I:Int × Unit→List Int × Unit→Prop),∃ (μ:Int × Unit→List Int × Unit→Nat),I ((0:Int),()) (List.replicate bed.length (0:Int),())∧∀ (x:Int × Unit)
 (y:List Int × Unit),I x y→∀ (a:Bool),a=decide (x.fst<(↑bed.length:Int))→Br a (∃ (h:(0:Int)≤x.fst∧x.fst<(↑bed.length:Int)),HIs [HObj.box Md.rw ty37
 [SV.data (K.flt f64).slice bed],HObj.row Md.rw ty3 (K.int i64) (y.fst.set ((0:Nat)+x.fst.toNat) x.fst)] [HObj.box Md.rw ty37 [SV.data (K.flt
 f64).slice bed],HObj.row Md.rw ty3 (K.int i64) (y.fst.set ((0:Nat)+x.fst.toNat) x.fst)]∧I (i64.wrap (x.fst+(1:Int)),()) (y.fst.set ((0 :
 Nat)+x.fst.toNat) x.fst,())∧μ (i64.wrap (x.fst+(1:Int)),()) (y.fst.set ((0:Nat)+x.fst.toNat) x.fst,())<μ x y) (∃ (x:(ty3=ty3)∧(72:Nat)=(72 :
 Nat)∧bed.length=y.fst.length∧Z2w bed y.fst),∀ (ys:List Int),Rr (keyB bed) (0:Nat) y.fst.length y.fst ys∧Sgm (keyB bed) ys (0:Nat) y.fst.length→((0:Nat)=(0
 : Nat)∧bed.length=ys.length)∧post (ys,()))
theorem Zxv (ty0 ty1:Nat) (bed:List Nat) (h:WOrd bed):Z9w ty0 ty1 bed (fun r=>r=Za6 bed):=by
 obtain ⟨hw,hb⟩:=h
 have mx:maxN=281474976710656:=rfl
 refine ⟨⟨by omega,by omega,by omega⟩,rfl,fun x y=>∃ k:Nat,x.1=k∧k≤bed.length∧y.1.length=bed.length∧∀ j,j<k→at0 y.1 j=j,fun x _=>bed.length - x.1.toNat,⟨0,rfl,by omega,List.length_replicate,fun j h=>by omega⟩,?_⟩
 rintro ⟨_,⟨⟩⟩ ⟨y,⟨⟩⟩ ⟨k,rfl,hk,ly,hy⟩
 dsimp only at ly hy ⊢
 rintro _ rfl
 refine Br.intro (fun d=>?_) fun d=>?_
 ·have d:k<bed.length:=by have d:(k:Int)<bed.length:=of_decide_eq_true d; omega
  rw [Int.toNat_natCast,Nat.zero_add,Z24 d (by omega)]
  refine ⟨⟨by omega,by omega⟩,rfl,⟨k+1,rfl,by omega,by rw [List.length_set]; exact ly,fun j hj=>?_⟩,by omega⟩
  rw [Z9c (by omega)]
  split
  ·rename_i e; rw [e]
  ·exact hy j (by omega)
 have d:k=bed.length:=by have d:¬ (k:Int)<bed.length:=of_decide_eq_false d; omega
 have e:y=seg 0 bed.length:=Z1e1 ly fun j hj=>hy j (by omega)
 refine ⟨⟨by trivial,by trivial,ly.symm,hw,fun x hx=>?_,by omega⟩,?_⟩
 ·rw [e] at hx
  have:=Z15s hx
  omega
 rintro ys ⟨h1,h2⟩
 have q:=Z17j (n:=bed.length) e h1 h2
 exact ⟨⟨by trivial,by rw [h1.len]; exact ly.symm⟩,by rw [q]; rfl⟩
end Go.Lift
