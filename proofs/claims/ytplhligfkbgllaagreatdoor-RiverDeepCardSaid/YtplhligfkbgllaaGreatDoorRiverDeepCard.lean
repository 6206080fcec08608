/- tarnlaw19.RiverDeep: at every input it returns true and leaves the arguments as they were; cube.frames and geom.frames read as the program's text lays them. -/
import Derived.Test.YtplhligfkbgllaaGreatDoorTie
import Derived.Test.YtplhligfkbgllaaGreatDoorCards
import Derived.Test.YtplhligfkbgllaaGreatDoorPtF
set_option linter.unusedVariables false
set_option linter.unusedSimpArgs false
set_option linter.unusedSectionVars false
set_option linter.unusedVariables false
set_option linter.unusedSimpArgs false
namespace Go.Lift
open Go.Proofs
def Rbq_grid_Grid_is : Con := .det [.ptr kGrid, .int .i64] [.snap .bool] (fun x => WNet1 x.1 x.2.1) (fun x => nIsR x.1 x.2.1)
def Rbhn_grid_Grid_is : Hn := nHn
def Rbx_grid_Grid_is : Cx := ⟨tabOf Rbtab, conOf [], RbG⟩
theorem Rbx_grid_Grid_is_ok : CxOk Tryz.prog Rbx_grid_Grid_is := ⟨tabB_sound Rbtab_ok, fun f c h => by cases h⟩
theorem Rbat_grid_Grid_is : FnAt Tryz.prog 113 Tryz.f113.ntmps Tryz.f113.results.toList (Tryz.f113.body.getD .skip) := ⟨Tryz.f113, Tryz.func113, rfl, rfl, by simp, by decide⟩
theorem Rbeq_grid_Grid_is_0 (e : Int) (post : Bool × Unit → Prop) : fnEval Rbx_grid_Grid_is Rbhn_grid_Grid_is Tryz.f113.ntmps Tryz.f113.results.toList (Tryz.f113.body.getD .skip) [.ptr kGrid, .int .i64] [.snap .bool] (none, e, ()) post = Fx_grid_Grid_is_0  e post := by kernel_rfl
theorem Rbeq_grid_Grid_is_1 (g : Int × (List (Int × Int × Int × Int)) × (List ((Int × Int) × Int)) × (List (List Int)) × (List Int) × (List Nat) × List Nat) (e : Int) (post : Bool × Unit → Prop) : fnEval Rbx_grid_Grid_is Rbhn_grid_Grid_is Tryz.f113.ntmps Tryz.f113.results.toList (Tryz.f113.body.getD .skip) [.ptr kGrid, .int .i64] [.snap .bool] ((some g), e, ()) post = Fx_grid_Grid_is_1  g e post := by kernel_rfl
def RbF_grid_Grid_is (x : KS [.ptr kGrid, .int .i64]) (post : RS [.snap .bool] → Prop) : Prop := match x with
  | (none, y) => Fx_grid_Grid_is_0  y.1 post
  | (some g, y) => Fx_grid_Grid_is_1  g y.1 post
theorem Rbh_grid_Grid_is : Rbq_grid_Grid_is.holds Tryz.prog RbG 113 :=
  detP Rbx_grid_Grid_is_ok Rbmixed Rbhn_grid_Grid_is Rbat_grid_Grid_is (F := RbF_grid_Grid_is) (fun x post => match x with
    | (none, y) => Rbeq_grid_Grid_is_0 y.1 post
    | (some g, y) => Rbeq_grid_Grid_is_1 g y.1 post) fun x h w => match x, h, w with
    | (none, y), h, w => Lx_grid_Grid_is_0  y.1 h w
    | (some g, y), h, w => Lx_grid_Grid_is_1  g y.1 h w
def Rbq_grid_Grid_Edge : Con := .det [.ptr kGrid, .int .i64] [.snap kEdge, .snap .bool] (fun x => WNet1 x.1 x.2.1) (fun x => nEdgeR x.1 x.2.1)
def Rbhn_grid_Grid_Edge : Hn := nHn
def Rbx_grid_Grid_Edge : Cx := ⟨tabOf Rbtab, conOf [(113, Rbq_grid_Grid_is)], RbG⟩
theorem Rbx_grid_Grid_Edge_ok : CxOk Tryz.prog Rbx_grid_Grid_Edge := ⟨tabB_sound Rbtab_ok, conOf_sound ⟨Rbh_grid_Grid_is, trivial⟩⟩
theorem Rbat_grid_Grid_Edge : FnAt Tryz.prog 75 Tryz.f75.ntmps Tryz.f75.results.toList (Tryz.f75.body.getD .skip) := ⟨Tryz.f75, Tryz.func75, rfl, rfl, by simp, by decide⟩
theorem Rbeq_grid_Grid_Edge_0 (e : Int) (post : (Int × Int × Int × Int) × Bool × Unit → Prop) : fnEval Rbx_grid_Grid_Edge Rbhn_grid_Grid_Edge Tryz.f75.ntmps Tryz.f75.results.toList (Tryz.f75.body.getD .skip) [.ptr kGrid, .int .i64] [.snap kEdge, .snap .bool] (none, e, ()) post = Fx_grid_Grid_Edge_0  e post := by kernel_rfl
theorem Rbeq_grid_Grid_Edge_1 (g : Int × (List (Int × Int × Int × Int)) × (List ((Int × Int) × Int)) × (List (List Int)) × (List Int) × (List Nat) × List Nat) (e : Int) (post : (Int × Int × Int × Int) × Bool × Unit → Prop) : fnEval Rbx_grid_Grid_Edge Rbhn_grid_Grid_Edge Tryz.f75.ntmps Tryz.f75.results.toList (Tryz.f75.body.getD .skip) [.ptr kGrid, .int .i64] [.snap kEdge, .snap .bool] ((some g), e, ()) post = Fx_grid_Grid_Edge_1  g e post := by kernel_rfl
def RbF_grid_Grid_Edge (x : KS [.ptr kGrid, .int .i64]) (post : RS [.snap kEdge, .snap .bool] → Prop) : Prop := match x with
  | (none, y) => Fx_grid_Grid_Edge_0  y.1 post
  | (some g, y) => Fx_grid_Grid_Edge_1  g y.1 post
theorem Rbh_grid_Grid_Edge : Rbq_grid_Grid_Edge.holds Tryz.prog RbG 75 :=
  detP Rbx_grid_Grid_Edge_ok Rbmixed Rbhn_grid_Grid_Edge Rbat_grid_Grid_Edge (F := RbF_grid_Grid_Edge) (fun x post => match x with
    | (none, y) => Rbeq_grid_Grid_Edge_0 y.1 post
    | (some g, y) => Rbeq_grid_Grid_Edge_1 g y.1 post) fun x h w => match x, h, w with
    | (none, y), h, w => Lx_grid_Grid_Edge_0  y.1 h w
    | (some g, y), h, w => Lx_grid_Grid_Edge_1  g y.1 h w
def Rbq_grid_Grid_Around : Con := Con.nam [.ptr kGrid, .int .i64, .int .i64] [.snap (.int .i64), .snap (.int .i64)] (fun x => WNet x.1 x.2.1 x.2.2.1) (fun x => nAroundR x.1 x.2.1 x.2.2.1)
def Rbhn_grid_Grid_Around : Hn := nHn
def Rbx_grid_Grid_Around : Cx := ⟨tabOf Rbtab, conOf [], RbG⟩
theorem Rbx_grid_Grid_Around_ok : CxOk Tryz.prog Rbx_grid_Grid_Around := ⟨tabB_sound Rbtab_ok, fun f c h => by cases h⟩
theorem Rbat_grid_Grid_Around : FnAt Tryz.prog 46 Tryz.f46.ntmps Tryz.f46.results.toList (Tryz.f46.body.getD .skip) := ⟨Tryz.f46, Tryz.func46, rfl, rfl, by simp, by decide⟩
theorem Rbeq_grid_Grid_Around_0 (c : Int) (o : Int) (post : Int × Int × Unit → Prop) : fnEval Rbx_grid_Grid_Around Rbhn_grid_Grid_Around Tryz.f46.ntmps Tryz.f46.results.toList (Tryz.f46.body.getD .skip) [.ptr kGrid, .int .i64, .int .i64] [.snap (.int .i64), .snap (.int .i64)] (none, c, o, ()) post = Fx_grid_Grid_Around_0  c o post := by kernel_rfl
theorem Rbeq_grid_Grid_Around_1 (g : Int × (List (Int × Int × Int × Int)) × (List ((Int × Int) × Int)) × (List (List Int)) × (List Int) × (List Nat) × List Nat) (c : Int) (o : Int) (post : Int × Int × Unit → Prop) : fnEval Rbx_grid_Grid_Around Rbhn_grid_Grid_Around Tryz.f46.ntmps Tryz.f46.results.toList (Tryz.f46.body.getD .skip) [.ptr kGrid, .int .i64, .int .i64] [.snap (.int .i64), .snap (.int .i64)] ((some g), c, o, ()) post = Fx_grid_Grid_Around_1  g c o post := by kernel_rfl
def RbF_grid_Grid_Around (x : KS [.ptr kGrid, .int .i64, .int .i64]) (post : RS [.snap (.int .i64), .snap (.int .i64)] → Prop) : Prop := match x with
  | (none, y) => Fx_grid_Grid_Around_0  y.1 y.2.1 post
  | (some g, y) => Fx_grid_Grid_Around_1  g y.1 y.2.1 post
theorem Rbh_grid_Grid_Around : Rbq_grid_Grid_Around.holds Tryz.prog RbG 46 :=
  nam_of_det (detP Rbx_grid_Grid_Around_ok Rbmixed Rbhn_grid_Grid_Around Rbat_grid_Grid_Around (F := RbF_grid_Grid_Around) (fun x post => match x with
    | (none, y) => Rbeq_grid_Grid_Around_0 y.1 y.2.1 post
    | (some g, y) => Rbeq_grid_Grid_Around_1 g y.1 y.2.1 post) fun x h w => match x, h, w with
    | (none, y), h, w => Lx_grid_Grid_Around_0  y.1 y.2.1 h w
    | (some g, y), h, w => Lx_grid_Grid_Around_1  g y.1 y.2.1 h w)
end Go.Lift

set_option linter.unusedVariables false
set_option linter.unusedSimpArgs false
namespace Go.Lift
def Fx_river_compare := fun (a b : Nat) (post : Int × Unit → Prop) => ∃ (h : True), ∃ (h : True), ∃ (h : W2 (canonR a).fst (canonR b).fst), post ((ordR (canonR a).fst (canonR
  b).fst).fst, ())
theorem Lx_river_compare (a : Nat) (b : Nat) (h : W2 a b) : Fx_river_compare  a b (fun r => r = comparR a b) := by
  exact ⟨trivial, trivial, ⟨canonF_w h.1, canonF_w h.2⟩, rfl⟩
def Fx_river_Order_c1_0 := fun (x y : Int) (post : Int × Unit → Prop) => False
theorem Lx_river_Order_c1_0 (x : Int) (y : Int) (h : WCmp x y none) : Fx_river_Order_c1_0  x y (fun r => r = cmpBR x y none) := by
  obtain ⟨_, e, _⟩ := h
  cases e
def Fx_river_Order_c1_1 := fun (x y : Int) (p : List Nat) (post : Int × Unit → Prop) => ∃ (h : (0 : Int) ≤ y ∧ y < (↑p.length : Int)), ∃ (h : (0 : Int) ≤ x ∧ x < (↑p.length : Int)),
  ∃ (h : W2 (p.getD y.toNat (0 : Nat)) (p.getD x.toNat (0 : Nat))), ∀ (a : Int × Unit), a = comparR (p.getD y.toNat (0 : Nat)) (p.getD x.toNat (0 : Nat)) → post (a.fst, ())
theorem Lx_river_Order_c1_1 (x : Int) (y : Int) (p : List Nat) (h : WCmp x y (some p)) : Fx_river_Order_c1_1  x y p (fun r => r = cmpBR x y (some p)) := by
  obtain ⟨bed, e, hx, hy, hw⟩ := h
  cases e
  refine ⟨hy, hx, ⟨hw _ (getD_mem (by omega) 0), hw _ (getD_mem (by omega) 0)⟩, ?_⟩
  rintro _ rfl
  rfl
end Go.Lift

set_option linter.unusedVariables false
set_option linter.unusedSimpArgs false
namespace Go.Lift
open Go.Proofs
def Rbq_river_compare : Con := Con.nam [.flt .f64, .flt .f64] [.snap (.int .i64)] (fun x => W2 x.1 x.2.1) (fun x => comparR x.1 x.2.1)
def Rbx_river_compare : Cx := ⟨tabOf Rbtab, conOf [(88, Rbq_bits_Canon), (87, Rbq_bits_Order)], RbG⟩
theorem Rbx_river_compare_ok : CxOk Tryz.prog Rbx_river_compare := ⟨tabB_sound Rbtab_ok, conOf_sound ⟨Rbh_bits_Canon, Rbh_bits_Order, trivial⟩⟩
theorem Rbat_river_compare : FnAt Tryz.prog 73 Tryz.f73.ntmps Tryz.f73.results.toList (Tryz.f73.body.getD .skip) := ⟨Tryz.f73, Tryz.func73, rfl, rfl, by simp, by decide⟩
theorem Rbeq_river_compare (a : Nat) (b : Nat) (post : Int × Unit → Prop) : fnEval Rbx_river_compare nHn Tryz.f73.ntmps Tryz.f73.results.toList (Tryz.f73.body.getD .skip) [.flt .f64, .flt .f64] [.snap (.int .i64)] (a, b, ()) post = Fx_river_compare  a b post := by kernel_rfl
theorem Rbh_river_compare : Rbq_river_compare.holds Tryz.prog RbG 73 :=
  nam_of_det (detP Rbx_river_compare_ok Rbmixed nHn Rbat_river_compare (F := fun x post => Fx_river_compare  x.1 x.2.1 post) (fun x post => Rbeq_river_compare x.1 x.2.1 post) fun x h _ => Lx_river_compare  x.1 x.2.1 h)
def Rbq_river_Order_c1 : Con := Con.nam [.int .i64, .int .i64, .ptr (.slice (.flt .f64))] [.snap (.int .i64)] (fun x => WCmp x.1 x.2.1 x.2.2.1) (fun x => cmpBR x.1 x.2.1 x.2.2.1)
def Rbhn_river_Order_c1 : Hn := nHn
def Rbx_river_Order_c1 : Cx := ⟨tabOf Rbtab, conOf [(73, Rbq_river_compare)], RbG⟩
theorem Rbx_river_Order_c1_ok : CxOk Tryz.prog Rbx_river_Order_c1 := ⟨tabB_sound Rbtab_ok, conOf_sound ⟨Rbh_river_compare, trivial⟩⟩
theorem Rbat_river_Order_c1 : FnAt Tryz.prog 72 Tryz.f72.ntmps Tryz.f72.results.toList (Tryz.f72.body.getD .skip) := ⟨Tryz.f72, Tryz.func72, rfl, rfl, by simp, by decide⟩
theorem Rbeq_river_Order_c1_0 (x : Int) (y : Int) (post : Int × Unit → Prop) : fnEval Rbx_river_Order_c1 Rbhn_river_Order_c1 Tryz.f72.ntmps Tryz.f72.results.toList (Tryz.f72.body.getD .skip) [.int .i64, .int .i64, .ptr (.slice (.flt .f64))] [.snap (.int .i64)] (x, y, none, ()) post = Fx_river_Order_c1_0  x y post := by kernel_rfl
theorem Rbeq_river_Order_c1_1 (x : Int) (y : Int) (p : List Nat) (post : Int × Unit → Prop) : fnEval Rbx_river_Order_c1 Rbhn_river_Order_c1 Tryz.f72.ntmps Tryz.f72.results.toList (Tryz.f72.body.getD .skip) [.int .i64, .int .i64, .ptr (.slice (.flt .f64))] [.snap (.int .i64)] (x, y, (some p), ()) post = Fx_river_Order_c1_1  x y p post := by kernel_rfl
def RbF_river_Order_c1 (x : KS [.int .i64, .int .i64, .ptr (.slice (.flt .f64))]) (post : RS [.snap (.int .i64)] → Prop) : Prop := match x with
  | (z0, z1, none, y) => Fx_river_Order_c1_0  z0 z1 post
  | (z0, z1, some g, y) => Fx_river_Order_c1_1  z0 z1 g post
theorem Rbh_river_Order_c1 : Rbq_river_Order_c1.holds Tryz.prog RbG 72 :=
  nam_of_det (detP Rbx_river_Order_c1_ok Rbmixed Rbhn_river_Order_c1 Rbat_river_Order_c1 (F := RbF_river_Order_c1) (fun x post => match x with
    | (z0, z1, none, y) => Rbeq_river_Order_c1_0 z0 z1 post
    | (z0, z1, some g, y) => Rbeq_river_Order_c1_1 z0 z1 g post) fun x h w => match x, h, w with
    | (z0, z1, none, y), h, w => Lx_river_Order_c1_0  z0 z1 h
    | (z0, z1, some g, y), h, w => Lx_river_Order_c1_1  z0 z1 g h )
end Go.Lift

set_option linter.unusedVariables false
set_option linter.unusedSimpArgs false
namespace Go.Lift
open Go.Proofs
def Rbq_river_kept : Con := Con.nam [.slice (.int .i64)] [.snap .bool] (fun _ => True) (fun x => keptR x.1)
def Rbhn_river_kept : Hn := { loops := hintH [(3, { ls := [(.slot 8, .data (.int .i64)), (.slot 3, .data (.int .i64))], os := [] })], joins := fun _ => none, named := true }
def Rbx_river_kept : Cx := ⟨tabOf Rbtab, conOf [], RbG⟩
theorem Rbx_river_kept_ok : CxOk Tryz.prog Rbx_river_kept := ⟨tabB_sound Rbtab_ok, fun f c h => by cases h⟩
theorem Rbat_river_kept : FnAt Tryz.prog 56 Tryz.f56.ntmps Tryz.f56.results.toList (Tryz.f56.body.getD .skip) := ⟨Tryz.f56, Tryz.func56, rfl, rfl, by simp, by decide⟩
theorem Rbeq_river_kept (l : List Int) (post : Bool × Unit → Prop) : fnEval Rbx_river_kept Rbhn_river_kept Tryz.f56.ntmps Tryz.f56.results.toList (Tryz.f56.body.getD .skip) [.slice (.int .i64)] [.snap .bool] (l, ()) post = Fx_river_kept  l post := by kernel_rfl
theorem Rbh_river_kept : Rbq_river_kept.holds Tryz.prog RbG 56 :=
  nam_of_det (detP Rbx_river_kept_ok Rbmixed Rbhn_river_kept Rbat_river_kept (F := fun x post => Fx_river_kept  x.1 post) (fun x post => Rbeq_river_kept x.1 post) fun x _ w => Lx_river_kept  x.1 w)
def Rbq_slices_Clone_int64_int64 : Con := Con.nam [.slice (.int .i64)] [.own 2 (.int .i64)] (fun x => WSame x.1) (fun x => sameLR x.1)
def Rbhn_slices_Clone_int64_int64 : Hn := { loops := fun _ => none, joins := fun _ => none, named := true }
def Rbx_slices_Clone_int64_int64 : Cx := ⟨tabOf Rbtab, conOf [], RbG⟩
theorem Rbx_slices_Clone_int64_int64_ok : CxOk Tryz.prog Rbx_slices_Clone_int64_int64 := ⟨tabB_sound Rbtab_ok, fun f c h => by cases h⟩
theorem Rbat_slices_Clone_int64_int64 : FnAt Tryz.prog 57 Tryz.f57.ntmps Tryz.f57.results.toList (Tryz.f57.body.getD .skip) := ⟨Tryz.f57, Tryz.func57, rfl, rfl, by simp, by decide⟩
theorem Rbeq_slices_Clone_int64_int64 (l : List Int) (post : (List Int) × Unit → Prop) : fnEval Rbx_slices_Clone_int64_int64 Rbhn_slices_Clone_int64_int64 Tryz.f57.ntmps Tryz.f57.results.toList (Tryz.f57.body.getD .skip) [.slice (.int .i64)] [.own 2 (.int .i64)] (l, ()) post = Fx_slices_Clone_int64_int64  l post := by kernel_rfl
theorem Rbh_slices_Clone_int64_int64 : Rbq_slices_Clone_int64_int64.holds Tryz.prog RbG 57 :=
  nam_of_det (detP Rbx_slices_Clone_int64_int64_ok Rbmixed Rbhn_slices_Clone_int64_int64 Rbat_slices_Clone_int64_int64 (F := fun x post => Fx_slices_Clone_int64_int64  x.1 post) (fun x post => Rbeq_slices_Clone_int64_int64 x.1 post) fun x h _ => Lx_slices_Clone_int64_int64  x.1 h)
def Rbq_river_Down : Con := Con.nam [.ptr kGrid, .slice (.flt .f64), .int .i64] [.snap (.int .i64)] (fun x => WRvDown x.1 x.2.1 x.2.2.1) (fun x => rvDownR x.1 x.2.1 x.2.2.1)
def Rbhn_river_Down : Hn := { loops := hintH [(5, { ls := [(.slot 34, .data (.int .i64)), (.slot 7, .data (.int .i64))], os := [] })], joins := fun _ => none, named := true }
def Rbx_river_Down : Cx := ⟨tabOf Rbtab, conOf [(31, Rbq_grid_Grid_Cells), (46, Rbq_grid_Grid_Around), (75, Rbq_grid_Grid_Edge), (73, Rbq_river_compare)], RbG⟩
theorem Rbx_river_Down_ok : CxOk Tryz.prog Rbx_river_Down := ⟨tabB_sound Rbtab_ok, conOf_sound ⟨Rbh_grid_Grid_Cells, Rbh_grid_Grid_Around, Rbh_grid_Grid_Edge, Rbh_river_compare, trivial⟩⟩
theorem Rbat_river_Down : FnAt Tryz.prog 32 Tryz.f32.ntmps Tryz.f32.results.toList (Tryz.f32.body.getD .skip) := ⟨Tryz.f32, Tryz.func32, rfl, rfl, by simp, by decide⟩
theorem Rbeq_river_Down_0 (bed : List Nat) (c : Int) (post : Int × Unit → Prop) : fnEval Rbx_river_Down Rbhn_river_Down Tryz.f32.ntmps Tryz.f32.results.toList (Tryz.f32.body.getD .skip) [.ptr kGrid, .slice (.flt .f64), .int .i64] [.snap (.int .i64)] (none, bed, c, ()) post = Fx_river_Down_0  bed c post := by kernel_rfl
theorem Rbeq_river_Down_1 (g : Int × (List (Int × Int × Int × Int)) × (List ((Int × Int) × Int)) × (List (List Int)) × (List Int) × (List Nat) × List Nat) (bed : List Nat) (c : Int) (post : Int × Unit → Prop) : fnEval Rbx_river_Down Rbhn_river_Down Tryz.f32.ntmps Tryz.f32.results.toList (Tryz.f32.body.getD .skip) [.ptr kGrid, .slice (.flt .f64), .int .i64] [.snap (.int .i64)] ((some g), bed, c, ()) post = Fx_river_Down_1  g bed c post := by kernel_rfl
def RbF_river_Down (x : KS [.ptr kGrid, .slice (.flt .f64), .int .i64]) (post : RS [.snap (.int .i64)] → Prop) : Prop := match x with
  | (none, y) => Fx_river_Down_0  y.1 y.2.1 post
  | (some g, y) => Fx_river_Down_1  g y.1 y.2.1 post
theorem Rbh_river_Down : Rbq_river_Down.holds Tryz.prog RbG 32 :=
  nam_of_det (detP Rbx_river_Down_ok Rbmixed Rbhn_river_Down Rbat_river_Down (F := RbF_river_Down) (fun x post => match x with
    | (none, y) => Rbeq_river_Down_0 y.1 y.2.1 post
    | (some g, y) => Rbeq_river_Down_1 g y.1 y.2.1 post) fun x h w => match x, h, w with
    | (none, y), h, w => Lx_river_Down_0  y.1 y.2.1 h w
    | (some g, y), h, w => Lx_river_Down_1  g y.1 y.2.1 h w)
def Rbq_law19_ints : Con := Con.nam [.slice (.int .i64), .slice (.int .i64)] [.snap .bool] (fun _ => True) (fun x => intsR x.1 x.2.1)
def Rbhn_law19_ints : Hn := { loops := hintH [(4, { ls := [(.slot 5, .data (.int .i64))], os := [] })], joins := fun _ => none, named := true }
def Rbx_law19_ints : Cx := ⟨tabOf Rbtab, conOf [], RbG⟩
theorem Rbx_law19_ints_ok : CxOk Tryz.prog Rbx_law19_ints := ⟨tabB_sound Rbtab_ok, fun f c h => by cases h⟩
theorem Rbat_law19_ints : FnAt Tryz.prog 27 Tryz.f27.ntmps Tryz.f27.results.toList (Tryz.f27.body.getD .skip) := ⟨Tryz.f27, Tryz.func27, rfl, rfl, by simp, by decide⟩
theorem Rbeq_law19_ints (a : List Int) (b : List Int) (post : Bool × Unit → Prop) : fnEval Rbx_law19_ints Rbhn_law19_ints Tryz.f27.ntmps Tryz.f27.results.toList (Tryz.f27.body.getD .skip) [.slice (.int .i64), .slice (.int .i64)] [.snap .bool] (a, b, ()) post = Fx_law19_ints  a b post := by kernel_rfl
theorem Rbh_law19_ints : Rbq_law19_ints.holds Tryz.prog RbG 27 :=
  nam_of_det (detP Rbx_law19_ints_ok Rbmixed Rbhn_law19_ints Rbat_law19_ints (F := fun x post => Fx_law19_ints  x.1 x.2.1 post) (fun x post => Rbeq_law19_ints x.1 x.2.1 post) fun x _ w => Lx_law19_ints  x.1 x.2.1 w)
def Rbq_law19_numbers : Con := Con.nam [.slice (.int .i64), .slice (.int .i64)] [.snap .bool] (fun _ => True) (fun x => intsR x.1 x.2.1)
def Rbhn_law19_numbers : Hn := { loops := hintH [(4, { ls := [(.slot 5, .data (.int .i64))], os := [] })], joins := fun _ => none, named := true }
def Rbx_law19_numbers : Cx := ⟨tabOf Rbtab, conOf [], RbG⟩
theorem Rbx_law19_numbers_ok : CxOk Tryz.prog Rbx_law19_numbers := ⟨tabB_sound Rbtab_ok, fun f c h => by cases h⟩
theorem Rbat_law19_numbers : FnAt Tryz.prog 28 Tryz.f28.ntmps Tryz.f28.results.toList (Tryz.f28.body.getD .skip) := ⟨Tryz.f28, Tryz.func28, rfl, rfl, by simp, by decide⟩
theorem Rbeq_law19_numbers (a : List Int) (b : List Int) (post : Bool × Unit → Prop) : fnEval Rbx_law19_numbers Rbhn_law19_numbers Tryz.f28.ntmps Tryz.f28.results.toList (Tryz.f28.body.getD .skip) [.slice (.int .i64), .slice (.int .i64)] [.snap .bool] (a, b, ()) post = Fx_law19_numbers  a b post := by kernel_rfl
theorem Rbh_law19_numbers : Rbq_law19_numbers.holds Tryz.prog RbG 28 :=
  nam_of_det (detP Rbx_law19_numbers_ok Rbmixed Rbhn_law19_numbers Rbat_law19_numbers (F := fun x post => Fx_law19_numbers  x.1 x.2.1 post) (fun x post => Rbeq_law19_numbers x.1 x.2.1 post) fun x _ w => Lx_law19_numbers  x.1 x.2.1 w)
end Go.Lift

set_option linter.unusedVariables false
set_option linter.unusedSimpArgs false
namespace Go.Lift
end Go.Lift

set_option linter.unusedVariables false
set_option linter.unusedSimpArgs false
namespace Go.Lift
def Fx_river_Order := fun (ty37 ty3 : Nat) (bed : List Nat) (post : List Int × Unit → Prop) => ∃ (h : (0 : Int) ≤ (↑bed.length : Int) ∧ (↑bed.length : Int) ≤ (↑bed.length : Int) ∧
  (↑bed.length : Int) * (↑(8 : Nat) : Int) ≤ (281474976710656 : Int)), HIs [HObj.box Md.rw ty37 [SV.data (K.flt Go.FloatKind.f64).slice bed], HObj.row Md.rw ty3 (K.int IntKind.i64)
  (List.replicate bed.length (0 : Int))] [HObj.box Md.rw ty37 [SV.data (K.flt Go.FloatKind.f64).slice bed], HObj.row Md.rw ty3 (K.int IntKind.i64) (List.replicate bed.length (0 :
  Int))] ∧ ∃ (I : Int × Unit → List Int × Unit → Prop), ∃ (μ : Int × Unit → List Int × Unit → Nat), I ((0 : Int), ()) (List.replicate bed.length (0 : Int), ()) ∧ ∀ (x : Int × Unit)
  (y : List Int × Unit), I x y → ∀ (a : Bool), a = decide (x.fst < (↑bed.length : Int)) → Br a (∃ (h : (0 : Int) ≤ x.fst ∧ x.fst < (↑bed.length : Int)), HIs [HObj.box Md.rw ty37
  [SV.data (K.flt Go.FloatKind.f64).slice bed], HObj.row Md.rw ty3 (K.int IntKind.i64) (y.fst.set ((0 : Nat) + x.fst.toNat) x.fst)] [HObj.box Md.rw ty37 [SV.data (K.flt
  Go.FloatKind.f64).slice bed], HObj.row Md.rw ty3 (K.int IntKind.i64) (y.fst.set ((0 : Nat) + x.fst.toNat) x.fst)] ∧ I (IntKind.i64.wrap (x.fst + (1 : Int)), ()) (y.fst.set ((0 :
  Nat) + x.fst.toNat) x.fst, ()) ∧ μ (IntKind.i64.wrap (x.fst + (1 : Int)), ()) (y.fst.set ((0 : Nat) + x.fst.toNat) x.fst, ()) < μ x y) (∃ (x : (ty3 = ty3) ∧ (72 : Nat) = (72 :
  Nat) ∧ bed.length = y.fst.length ∧ BedOk bed y.fst), ∀ (ys : List Int), Rr (keyB bed) (0 : Nat) y.fst.length y.fst ys ∧ Sgm (keyB bed) ys (0 : Nat) y.fst.length → ((0 : Nat) = (0
  : Nat) ∧ bed.length = ys.length) ∧ post (ys, ()))
theorem Lx_river_Order (ty0 ty1 : Nat) (bed : List Nat) (h : WOrd bed) : Fx_river_Order ty0 ty1 bed (fun r => r = ordLR bed) := by
  obtain ⟨hw, hb⟩ := h
  have mx : maxN = 281474976710656 := rfl
  refine ⟨⟨by omega, by omega, by omega⟩, rfl, fun x y => ∃ k : Nat, x.1 = k ∧ k ≤ bed.length ∧ y.1.length = bed.length ∧ ∀ j, j < k → at0 y.1 j = j, fun x _ => bed.length - x.1.toNat, ⟨0, rfl, by omega, List.length_replicate, fun j h => by omega⟩, ?_⟩
  rintro ⟨_, ⟨⟩⟩ ⟨y, ⟨⟩⟩ ⟨k, rfl, hk, ly, hy⟩
  dsimp only at ly hy ⊢
  rintro _ rfl
  refine Br.intro (fun d => ?_) fun d => ?_
  · have d : k < bed.length := by have d : (k : Int) < bed.length := of_decide_eq_true d; omega
    rw [Int.toNat_natCast, Nat.zero_add, wi_succ d (by omega)]
    refine ⟨⟨by omega, by omega⟩, rfl, ⟨k + 1, rfl, by omega, by rw [List.length_set]; exact ly, fun j hj => ?_⟩, by omega⟩
    rw [at0_set (by omega)]
    split
    · rename_i e; rw [e]
    · exact hy j (by omega)
  have d : k = bed.length := by have d : ¬ (k : Int) < bed.length := of_decide_eq_false d; omega
  have e : y = seg 0 bed.length := seg_at ly fun j hj => hy j (by omega)
  refine ⟨⟨by trivial, by trivial, ly.symm, hw, fun x hx => ?_, by omega⟩, ?_⟩
  · rw [e] at hx
    have := seg_mem hx
    omega
  rintro ys ⟨h1, h2⟩
  have q := stable_ord (n := bed.length) e h1 h2
  exact ⟨⟨by trivial, by rw [h1.len]; exact ly.symm⟩, by rw [q]; rfl⟩
end Go.Lift

set_option linter.unusedVariables false
set_option linter.unusedSimpArgs false
namespace Go.Lift
def Fx_st_swap := fun (ty3 : Nat) (m : Md) (tb : Nat) (cs : List SV) (xs : List Int) (a b n : Int) (fv : EV) (k : EV → List HObj → Prop) => HIs [HObj.box m tb cs, HObj.row Md.rw ty3
  (K.int IntKind.i64) xs] [HObj.box m tb cs, HObj.row Md.rw ty3 (K.int IntKind.i64) xs] ∧ ∃ (I : Int × Unit → List Int × Unit → Prop), ∃ (μ : Int × Unit → List Int × Unit → Nat), I
  ((0 : Int), ()) (xs, ()) ∧ ∀ (x : Int × Unit) (y : List Int × Unit), I x y → ∀ (a_1 : Bool), a_1 = decide (x.fst < n) → Br a_1 (∃ (h : (0 : Int) ≤ IntKind.i64.wrap (b + x.fst) ∧
  IntKind.i64.wrap (b + x.fst) < (↑xs.length : Int)), ∃ (h : (0 : Int) ≤ IntKind.i64.wrap (a + x.fst) ∧ IntKind.i64.wrap (a + x.fst) < (↑xs.length : Int)), ∃ (h : (0 : Int) ≤
  IntKind.i64.wrap (a + x.fst) ∧ IntKind.i64.wrap (a + x.fst) < (↑xs.length : Int)), ∃ (h : (0 : Int) ≤ IntKind.i64.wrap (b + x.fst) ∧ IntKind.i64.wrap (b + x.fst) < (↑xs.length :
  Int)), HIs [HObj.box m tb cs, HObj.row Md.rw ty3 (K.int IntKind.i64) ((y.fst.set ((0 : Nat) + (IntKind.i64.wrap (a + x.fst)).toNat) (y.fst.getD ((0 : Nat) + (IntKind.i64.wrap (b +
  x.fst)).toNat) (0 : Int))).set ((0 : Nat) + (IntKind.i64.wrap (b + x.fst)).toNat) (y.fst.getD ((0 : Nat) + (IntKind.i64.wrap (a + x.fst)).toNat) (0 : Int)))] [HObj.box m tb cs,
  HObj.row Md.rw ty3 (K.int IntKind.i64) ((y.fst.set ((0 : Nat) + (IntKind.i64.wrap (a + x.fst)).toNat) (y.fst.getD ((0 : Nat) + (IntKind.i64.wrap (b + x.fst)).toNat) (0 :
  Int))).set ((0 : Nat) + (IntKind.i64.wrap (b + x.fst)).toNat) (y.fst.getD ((0 : Nat) + (IntKind.i64.wrap (a + x.fst)).toNat) (0 : Int)))] ∧ I (IntKind.i64.wrap (x.fst + (1 :
  Int)), ()) ((y.fst.set ((0 : Nat) + (IntKind.i64.wrap (a + x.fst)).toNat) (y.fst.getD ((0 : Nat) + (IntKind.i64.wrap (b + x.fst)).toNat) (0 : Int))).set ((0 : Nat) +
  (IntKind.i64.wrap (b + x.fst)).toNat) (y.fst.getD ((0 : Nat) + (IntKind.i64.wrap (a + x.fst)).toNat) (0 : Int)), ()) ∧ μ (IntKind.i64.wrap (x.fst + (1 : Int)), ()) ((y.fst.set ((0
  : Nat) + (IntKind.i64.wrap (a + x.fst)).toNat) (y.fst.getD ((0 : Nat) + (IntKind.i64.wrap (b + x.fst)).toNat) (0 : Int))).set ((0 : Nat) + (IntKind.i64.wrap (b + x.fst)).toNat)
  (y.fst.getD ((0 : Nat) + (IntKind.i64.wrap (a + x.fst)).toNat) (0 : Int)), ()) < μ x y) (k (EV.tup []) [HObj.box m tb cs, HObj.row Md.rw ty3 (K.int IntKind.i64) y.fst])
theorem Lx_st_swap (ty0 : Nat) (m : Md) (tb : Nat) (cs : List SV) (xs : List Int) (a b n : Int) (fv : EV) (k : EV → List HObj → Prop) (h : List.length xs ≤ maxN ∧ 0 ≤ a ∧ 0 ≤ n ∧ a + n ≤ b ∧ b + n ≤ (List.length xs : Int)) (hk : ∀ ys : List Int, ys = remap xs (swI a.toNat b.toNat n.toNat) ∧ ys.Perm xs → k (.tup []) [.box m tb cs, .row .rw ty0 (.int .i64) ys]) : Fx_st_swap ty0 m tb cs xs a b n fv k := by
  obtain ⟨hl, ha, hn, hab, hb⟩ := h
  have mx : maxN = 281474976710656 := rfl
  obtain ⟨A, rfl⟩ : ∃ q : Nat, a = (q : Int) := ⟨a.toNat, by omega⟩
  obtain ⟨B, rfl⟩ : ∃ q : Nat, b = (q : Int) := ⟨b.toNat, by omega⟩
  obtain ⟨N, rfl⟩ : ∃ q : Nat, n = (q : Int) := ⟨n.toNat, by omega⟩
  simp only [Int.toNat_natCast] at hk
  refine ⟨rfl, fun x y => ∃ j : Nat, x.1 = j ∧ j ≤ N ∧ y.1 = remap xs (swI A B j) ∧ y.1.Perm xs, fun x _ => N - x.1.toNat, ⟨0, rfl, by omega, (remap_id fun p _ => swI_zero A B p).symm, .refl _⟩, ?_⟩
  rintro ⟨_, ⟨⟩⟩ ⟨y, ⟨⟩⟩ ⟨j, rfl, hj, hy, hp⟩
  dsimp only at hy hp ⊢
  have ly : y.length = xs.length := by rw [hy, remap_len]
  rintro _ rfl
  refine Br.intro (fun d => ?_) fun d => ?_
  · have d : j < N := by have d : (j : Int) < N := of_decide_eq_true d; omega
    rw [wi_small (x := (B : Int) + j) (by omega) (by omega), wi_small (x := (A : Int) + j) (by omega) (by omega), wi_small (x := (j : Int) + 1) (by omega) (by omega), show ((B : Int) + j).toNat = B + j by omega, show ((A : Int) + j).toNat = A + j by omega, Nat.zero_add, Nat.zero_add]
    refine ⟨⟨by omega, by omega⟩, ⟨by omega, by omega⟩, ⟨by omega, by omega⟩, ⟨by omega, by omega⟩, rfl, ⟨j + 1, by omega, by omega, ?_, ?_⟩, by omega⟩
    · show swp y (A + j) (B + j) = _
      rw [hy]; exact swap_step (by omega) (by omega)
    · exact (swp_perm (by omega) (by omega)).trans hp
  have d : j = N := by have d : ¬ (j : Int) < N := of_decide_eq_false d; omega
  subst d
  exact hk _ ⟨hy, hp⟩
def Fx_st_rot := fun (ty3 : Nat) (md : Md) (tb : Nat) (cs : List SV) (xs : List Int) (a m b : Int) (fv : EV) (k : EV → List HObj → Prop) => HIs [HObj.box md tb cs, HObj.row Md.rw
  ty3 (K.int IntKind.i64) xs] [HObj.box md tb cs, HObj.row Md.rw ty3 (K.int IntKind.i64) xs] ∧ ∃ (I : Int × Int × Unit → List Int × Unit → Prop), ∃ (μ : Int × Int × Unit → List Int
  × Unit → Nat), I (IntKind.i64.wrap (m - a), IntKind.i64.wrap (b - m), ()) (xs, ()) ∧ ∀ (x : Int × Int × Unit) (y : List Int × Unit), I x y → ∀ (a : Bool), a = (x.fst != x.snd.fst)
  → Br a (∀ (a : Bool), a = decide (x.fst > x.snd.fst) → Br a (∃ (x_4 : (ty3 = ty3) ∧ xs.length = y.fst.length ∧ y.fst.length ≤ maxN ∧ (0 : Int) ≤ IntKind.i64.wrap (m - x.fst) ∧ (0
  : Int) ≤ x.snd.fst ∧ IntKind.i64.wrap (m - x.fst) + x.snd.fst ≤ m ∧ m + x.snd.fst ≤ (↑y.fst.length : Int)), ∀ (ys : List Int), ys = remap y.fst (swI (IntKind.i64.wrap (m -
  x.fst)).toNat m.toNat x.snd.fst.toNat) ∧ ys.Perm y.fst → HIs [HObj.box md tb cs, HObj.row Md.rw ty3 (K.int IntKind.i64) ys] [HObj.box md tb cs, HObj.row Md.rw ty3 (K.int
  IntKind.i64) ys] ∧ I (IntKind.i64.wrap (x.fst - x.snd.fst), x.snd.fst, ()) (ys, ()) ∧ μ (IntKind.i64.wrap (x.fst - x.snd.fst), x.snd.fst, ()) (ys, ()) < μ x y) (∃ (x_4 : (ty3 =
  ty3) ∧ xs.length = y.fst.length ∧ y.fst.length ≤ maxN ∧ (0 : Int) ≤ IntKind.i64.wrap (m - x.fst) ∧ (0 : Int) ≤ x.fst ∧ IntKind.i64.wrap (m - x.fst) + x.fst ≤ IntKind.i64.wrap
  (IntKind.i64.wrap (m + x.snd.fst) - x.fst) ∧ IntKind.i64.wrap (IntKind.i64.wrap (m + x.snd.fst) - x.fst) + x.fst ≤ (↑y.fst.length : Int)), ∀ (ys : List Int), ys = remap y.fst (swI
  (IntKind.i64.wrap (m - x.fst)).toNat (IntKind.i64.wrap (IntKind.i64.wrap (m + x.snd.fst) - x.fst)).toNat x.fst.toNat) ∧ ys.Perm y.fst → HIs [HObj.box md tb cs, HObj.row Md.rw ty3
  (K.int IntKind.i64) ys] [HObj.box md tb cs, HObj.row Md.rw ty3 (K.int IntKind.i64) ys] ∧ I (x.fst, IntKind.i64.wrap (x.snd.fst - x.fst), ()) (ys, ()) ∧ μ (x.fst, IntKind.i64.wrap
  (x.snd.fst - x.fst), ()) (ys, ()) < μ x y)) (∃ (x_3 : (ty3 = ty3) ∧ xs.length = y.fst.length ∧ y.fst.length ≤ maxN ∧ (0 : Int) ≤ IntKind.i64.wrap (m - x.fst) ∧ (0 : Int) ≤ x.fst ∧
  IntKind.i64.wrap (m - x.fst) + x.fst ≤ m ∧ m + x.fst ≤ (↑y.fst.length : Int)), ∀ (ys : List Int), ys = remap y.fst (swI (IntKind.i64.wrap (m - x.fst)).toNat m.toNat x.fst.toNat) ∧
  ys.Perm y.fst → k (EV.tup []) [HObj.box md tb cs, HObj.row Md.rw ty3 (K.int IntKind.i64) ys])
theorem Lx_st_rot (ty0 : Nat) (md : Md) (tb : Nat) (cs : List SV) (xs : List Int) (a m b : Int) (fv : EV) (k : EV → List HObj → Prop) (h : List.length xs ≤ maxN ∧ 0 ≤ a ∧ a < m ∧ m < b ∧ b ≤ (List.length xs : Int)) (hk : ∀ ys : List Int, ys = remap xs (rotI a.toNat m.toNat b.toNat) ∧ ys.Perm xs → k (.tup []) [.box md tb cs, .row .rw ty0 (.int .i64) ys]) : Fx_st_rot ty0 md tb cs xs a m b fv k := by
  unfold Fx_st_rot
  obtain ⟨hl, ha, ham, hmb, hb⟩ := h
  have mx : maxN = 281474976710656 := rfl
  obtain ⟨A, rfl⟩ : ∃ q : Nat, a = (q : Int) := ⟨a.toNat, by omega⟩
  obtain ⟨M, rfl⟩ : ∃ q : Nat, m = (q : Int) := ⟨m.toNat, by omega⟩
  obtain ⟨B, rfl⟩ : ∃ q : Nat, b = (q : Int) := ⟨b.toNat, by omega⟩
  simp only [Int.toNat_natCast] at hk
  have wsub : ∀ u v : Nat, v ≤ u → u ≤ xs.length → IntKind.i64.wrap ((u : Int) - v) = ((u - v : Nat) : Int) := fun u v h1 h2 => by rw [wi_small (by omega) (by omega)]; omega
  rw [wsub M A (by omega) (by omega), wsub B M (by omega) (by omega)]
  refine ⟨rfl, fun x y => ∃ i j : Nat, x.1 = i ∧ x.2.1 = j ∧ 0 < i ∧ 0 < j ∧ i ≤ M ∧ M + j ≤ xs.length ∧ y.1.length = xs.length ∧ remap y.1 (rotI (M - i) M (M + j)) = remap xs (rotI A M B) ∧ y.1.Perm xs, fun x _ => (x.1 + x.2.1).toNat, ⟨M - A, B - M, rfl, rfl, by omega, by omega, by omega, by omega, rfl, by rw [show M - (M - A) = A by omega, show M + (B - M) = B by omega], .refl _⟩, ?_⟩
  rintro ⟨_, _, ⟨⟩⟩ ⟨y, ⟨⟩⟩ ⟨i, j, rfl, rfl, hi, hj, hiM, hMj, ly, hy, hp⟩
  dsimp only at ly hy hp ⊢
  rintro _ rfl
  refine Br.intro (fun d => ?_) fun d => ?_
  · have d : i ≠ j := fun e => by subst e; simp at d
    rintro _ rfl
    refine Br.intro (fun e => ?_) fun e => ?_
    · have e : j < i := by have e : (j : Int) < i := of_decide_eq_true e; omega
      rw [wsub M i (by omega) (by omega), Int.toNat_natCast, Int.toNat_natCast, Int.toNat_natCast, wi_small (x := (i : Int) - j) (by omega) (by omega)]
      refine ⟨⟨rfl, ly.symm, by omega, by omega, by omega, by omega, by omega⟩, ?_⟩
      rintro ys ⟨rfl, hps⟩
      refine ⟨rfl, ⟨i - j, j, by omega, rfl, by omega, hj, by omega, hMj, by rw [remap_len]; exact ly, ?_, hps.trans hp⟩, by omega⟩
      rw [remap_remap (υ := rotI (M - i) M (M + j)) (fun p hp => rotI_lt (by omega) (by omega) (by omega) hp) fun p _ => rot_more hj e hiM p]
      exact hy
    · have e : i < j := by have e : ¬ (j : Int) < i := of_decide_eq_false e; omega
      have w2 : IntKind.i64.wrap (IntKind.i64.wrap ((M : Int) + j) - i) = ((M + j - i : Nat) : Int) := by rw [wi_small (x := (M : Int) + j) (by omega) (by omega), wi_small (by omega) (by omega)]; omega
      rw [w2, wsub M i (by omega) (by omega), Int.toNat_natCast, Int.toNat_natCast, Int.toNat_natCast, wi_small (x := (j : Int) - i) (by omega) (by omega)]
      refine ⟨⟨rfl, ly.symm, by omega, by omega, by omega, by omega, by omega⟩, ?_⟩
      rintro ys ⟨rfl, hps⟩
      refine ⟨rfl, ⟨i, j - i, rfl, by omega, hi, by omega, by omega, by omega, by rw [remap_len]; exact ly, ?_, hps.trans hp⟩, by omega⟩
      rw [remap_remap (υ := rotI (M - i) M (M + j)) (fun p hp => rotI_lt (by omega) (by omega) (by omega) hp) fun p _ => rot_less hi e hiM p]
      exact hy
  have d : i = j := by
    have d : (i : Int) = j := by simpa using d
    omega
  subst d
  rw [wsub M i (by omega) (by omega), Int.toNat_natCast, Int.toNat_natCast, Int.toNat_natCast]
  refine ⟨⟨rfl, ly.symm, by omega, by omega, by omega, by omega, by omega⟩, ?_⟩
  rintro ys ⟨hys, hps⟩
  refine hk _ ⟨?_, hps.trans hp⟩
  rw [← hy, hys]
  congr 1
  funext p
  exact rot_same hi hiM p
def Fx_st_ins := fun (ty3 : Nat) (m : Md) (tb : Nat) (bed : List Nat) (xs : List Int) (a b : Int) (k : EV → List HObj → Prop) => HIs [HObj.box m tb [SV.data (K.flt
  Go.FloatKind.f64).slice bed], HObj.row Md.rw ty3 (K.int IntKind.i64) xs] [HObj.box m tb [SV.data (K.flt Go.FloatKind.f64).slice bed], HObj.row Md.rw ty3 (K.int IntKind.i64) xs] ∧
  ∃ (I : Int × Unit → List Int × Unit → Prop), ∃ (μ : Int × Unit → List Int × Unit → Nat), I (IntKind.i64.wrap (a + (1 : Int)), ()) (xs, ()) ∧ ∀ (x : Int × Unit) (y : List Int ×
  Unit), I x y → ∀ (a_1 : Bool), a_1 = decide (x.fst < b) → Br a_1 (HIs [HObj.box m tb [SV.data (K.flt Go.FloatKind.f64).slice bed], HObj.row Md.rw ty3 (K.int IntKind.i64) y.fst]
  [HObj.box m tb [SV.data (K.flt Go.FloatKind.f64).slice bed], HObj.row Md.rw ty3 (K.int IntKind.i64) y.fst] ∧ ∃ (I_1 : Int × Unit → List Int × Unit → Prop), ∃ (μ_1 : Int × Unit →
  List Int × Unit → Nat), I_1 (x.fst, ()) (y.fst, ()) ∧ ∀ (x_3 : Int × Unit) (y_1 : List Int × Unit), I_1 x_3 y_1 → ∀ (a_2 : Bool), a_2 = decide (x_3.fst > a) → Br a_2 (∃ (h : (0 :
  Int) ≤ x_3.fst ∧ x_3.fst < (↑xs.length : Int)), ∃ (h : (0 : Int) ≤ IntKind.i64.wrap (x_3.fst - (1 : Int)) ∧ IntKind.i64.wrap (x_3.fst - (1 : Int)) < (↑xs.length : Int)), ∃ (h :
  WCmp (y_1.fst.getD ((0 : Nat) + x_3.fst.toNat) (0 : Int)) (y_1.fst.getD ((0 : Nat) + (IntKind.i64.wrap (x_3.fst - (1 : Int))).toNat) (0 : Int)) (Option.some bed)), ∀ (a : Int ×
  Unit), a = cmpBR (y_1.fst.getD ((0 : Nat) + x_3.fst.toNat) (0 : Int)) (y_1.fst.getD ((0 : Nat) + (IntKind.i64.wrap (x_3.fst - (1 : Int))).toNat) (0 : Int)) (Option.some bed) → ∀
  (a_3 : Bool), a_3 = decide (a.fst < (0 : Int)) → Br a_3 (∃ (h : (0 : Int) ≤ IntKind.i64.wrap (x_3.fst - (1 : Int)) ∧ IntKind.i64.wrap (x_3.fst - (1 : Int)) < (↑xs.length : Int)),
  ∃ (h : (0 : Int) ≤ x_3.fst ∧ x_3.fst < (↑xs.length : Int)), ∃ (h : (0 : Int) ≤ x_3.fst ∧ x_3.fst < (↑xs.length : Int)), ∃ (h : (0 : Int) ≤ IntKind.i64.wrap (x_3.fst - (1 : Int)) ∧
  IntKind.i64.wrap (x_3.fst - (1 : Int)) < (↑xs.length : Int)), HIs [HObj.box m tb [SV.data (K.flt Go.FloatKind.f64).slice bed], HObj.row Md.rw ty3 (K.int IntKind.i64) ((y_1.fst.set
  ((0 : Nat) + x_3.fst.toNat) (y_1.fst.getD ((0 : Nat) + (IntKind.i64.wrap (x_3.fst - (1 : Int))).toNat) (0 : Int))).set ((0 : Nat) + (IntKind.i64.wrap (x_3.fst - (1 : Int))).toNat)
  (y_1.fst.getD ((0 : Nat) + x_3.fst.toNat) (0 : Int)))] [HObj.box m tb [SV.data (K.flt Go.FloatKind.f64).slice bed], HObj.row Md.rw ty3 (K.int IntKind.i64) ((y_1.fst.set ((0 : Nat)
  + x_3.fst.toNat) (y_1.fst.getD ((0 : Nat) + (IntKind.i64.wrap (x_3.fst - (1 : Int))).toNat) (0 : Int))).set ((0 : Nat) + (IntKind.i64.wrap (x_3.fst - (1 : Int))).toNat)
  (y_1.fst.getD ((0 : Nat) + x_3.fst.toNat) (0 : Int)))] ∧ I_1 (IntKind.i64.wrap (x_3.fst - (1 : Int)), ()) ((y_1.fst.set ((0 : Nat) + x_3.fst.toNat) (y_1.fst.getD ((0 : Nat) +
  (IntKind.i64.wrap (x_3.fst - (1 : Int))).toNat) (0 : Int))).set ((0 : Nat) + (IntKind.i64.wrap (x_3.fst - (1 : Int))).toNat) (y_1.fst.getD ((0 : Nat) + x_3.fst.toNat) (0 : Int)),
  ()) ∧ μ_1 (IntKind.i64.wrap (x_3.fst - (1 : Int)), ()) ((y_1.fst.set ((0 : Nat) + x_3.fst.toNat) (y_1.fst.getD ((0 : Nat) + (IntKind.i64.wrap (x_3.fst - (1 : Int))).toNat) (0 :
  Int))).set ((0 : Nat) + (IntKind.i64.wrap (x_3.fst - (1 : Int))).toNat) (y_1.fst.getD ((0 : Nat) + x_3.fst.toNat) (0 : Int)), ()) < μ_1 x_3 y_1) (HIs [HObj.box m tb [SV.data
  (K.flt Go.FloatKind.f64).slice bed], HObj.row Md.rw ty3 (K.int IntKind.i64) y_1.fst] [HObj.box m tb [SV.data (K.flt Go.FloatKind.f64).slice bed], HObj.row Md.rw ty3 (K.int
  IntKind.i64) y_1.fst] ∧ I (IntKind.i64.wrap (x.fst + (1 : Int)), ()) (y_1.fst, ()) ∧ μ (IntKind.i64.wrap (x.fst + (1 : Int)), ()) (y_1.fst, ()) < μ x y)) (HIs [HObj.box m tb
  [SV.data (K.flt Go.FloatKind.f64).slice bed], HObj.row Md.rw ty3 (K.int IntKind.i64) y_1.fst] [HObj.box m tb [SV.data (K.flt Go.FloatKind.f64).slice bed], HObj.row Md.rw ty3
  (K.int IntKind.i64) y_1.fst] ∧ I (IntKind.i64.wrap (x.fst + (1 : Int)), ()) (y_1.fst, ()) ∧ μ (IntKind.i64.wrap (x.fst + (1 : Int)), ()) (y_1.fst, ()) < μ x y)) (k (EV.tup [])
  [HObj.box m tb [SV.data (K.flt Go.FloatKind.f64).slice bed], HObj.row Md.rw ty3 (K.int IntKind.i64) y.fst])
theorem Lx_st_ins (ty0 : Nat) (m : Md) (tb : Nat) (bed : List Nat) (xs : List Int) (a b : Int) (k : EV → List HObj → Prop) (h : BedOk bed xs ∧ 0 ≤ a ∧ a ≤ b ∧ b ≤ (List.length xs : Int)) (hk : ∀ ys : List Int, Rr (keyB bed) a.toNat b.toNat xs ys ∧ Sgm (keyB bed) ys a.toNat b.toNat → k (.tup []) [.box m tb [.data (.slice (.flt .f64)) bed], .row .rw ty0 (.int .i64) ys]) : Fx_st_ins ty0 m tb bed xs a b k := by
  unfold Fx_st_ins
  obtain ⟨bo, ha, hab, hb⟩ := h
  have mx : maxN = 281474976710656 := rfl
  have hmx := bo.2.2
  obtain ⟨A, rfl⟩ : ∃ q : Nat, a = (q : Int) := ⟨a.toNat, by omega⟩
  obtain ⟨B, rfl⟩ : ∃ q : Nat, b = (q : Int) := ⟨b.toNat, by omega⟩
  simp only [Int.toNat_natCast] at hk
  rw [wi_small (x := (A : Int) + 1) (by omega) (by omega)]
  refine ⟨rfl, fun x y => ∃ i : Nat, x.1 = i ∧ A < i ∧ Rr (keyB bed) A B xs y.1 ∧ Sgm (keyB bed) y.1 A i, fun x _ => B - x.1.toNat, ⟨A + 1, by omega, by omega, .refl _ _ _, .one (by omega)⟩, ?_⟩
  rintro ⟨_, ⟨⟩⟩ ⟨y, ⟨⟩⟩ ⟨i, rfl, hi, hr, hs⟩
  dsimp only at hr hs ⊢
  rintro _ rfl
  refine Br.intro (fun d => ?_) fun d => ?_
  rotate_left
  · have d : B ≤ i := by have d : ¬ (i : Int) < B := of_decide_eq_false d; omega
    exact hk _ ⟨hr, hs.sub (Nat.le_refl _) d⟩
  have d : i < B := by have d : (i : Int) < B := of_decide_eq_true d; omega
  rw [wi_small (x := (i : Int) + 1) (by omega) (by omega)]
  refine ⟨rfl, fun x y => ∃ j : Nat, x.1 = j ∧ A ≤ j ∧ j ≤ i ∧ Rr (keyB bed) A B xs y.1 ∧ InsI (keyB bed) y.1 A i j, fun x _ => x.1.toNat, ⟨i, rfl, by omega, by omega, hr, .start hs⟩, ?_⟩
  rintro ⟨_, ⟨⟩⟩ ⟨z, ⟨⟩⟩ ⟨j, rfl, hj1, hj2, hz, hI⟩
  dsimp only at hz hI ⊢
  have lz := hz.len
  have bz := bo.perm hz.perm
  rintro _ rfl
  refine Br.intro (fun e => ?_) fun e => ?_
  rotate_left
  · have e : j = A := by have e : ¬ (A : Int) < j := of_decide_eq_false e; omega
    exact ⟨rfl, ⟨i + 1, by omega, by omega, hz, hI.done hj2 (.inl e)⟩, by omega⟩
  have e : A < j := by have e : (A : Int) < j := of_decide_eq_true e; omega
  obtain ⟨j', rfl⟩ : ∃ j', j = j' + 1 := ⟨j - 1, by omega⟩
  have w1 : IntKind.i64.wrap (((j' + 1 : Nat) : Int) - 1) = (j' : Int) := by rw [wi_small (by omega) (by omega)]; omega
  rw [w1, Int.toNat_natCast, Int.toNat_natCast, Nat.zero_add, Nat.zero_add]
  refine ⟨⟨by omega, by omega⟩, ⟨by omega, by omega⟩, bz.cmp (by omega) (by omega), ?_⟩
  rintro _ rfl
  rintro _ rfl
  refine Br.intro (fun c => ?_) fun c => ?_
  · have c : keyB bed (at0 z (j' + 1)) < keyB bed (at0 z j') := (cmpB_neg _ _ _).1 (of_decide_eq_true c)
    exact ⟨⟨by omega, by omega⟩, ⟨by omega, by omega⟩, ⟨by omega, by omega⟩, ⟨by omega, by omega⟩, rfl, ⟨j', rfl, by omega, by omega, hz.trans (swp_rr (i := j') (by omega) (by omega) (by omega) c), hI.step hj2 (by omega) (by omega) c⟩, by omega⟩
  · have c : ¬ keyB bed (at0 z (j' + 1)) < keyB bed (at0 z j') := fun q => of_decide_eq_false c ((cmpB_neg _ _ _).2 q)
    exact ⟨rfl, ⟨i + 1, by omega, by omega, hz, hI.done hj2 (.inr ⟨e, by show keyB bed (at0 z (j' + 1 - 1)) ≤ _; rw [show j' + 1 - 1 = j' by omega]; omega⟩)⟩, by omega⟩
def Fx_st_sym := fun (ty3 fn72 : Nat) (md : Md) (tb N : Nat) (bed : List Nat) (xs : List Int) (a m b : Int) (k : EV → List HObj → Prop) => ∀ (a_1 : Bool), a_1 = (IntKind.i64.wrap (m
  - a) == (1 : Int)) → Br a_1 (HIs [HObj.box md tb [SV.data (K.flt Go.FloatKind.f64).slice bed], HObj.row Md.rw ty3 (K.int IntKind.i64) xs] [HObj.box md tb [SV.data (K.flt
  Go.FloatKind.f64).slice bed], HObj.row Md.rw ty3 (K.int IntKind.i64) xs] ∧ ∃ (I : Int × Int × Unit → Unit → Prop), ∃ (μ : Int × Int × Unit → Unit → Nat), I (m, b, ()) () ∧ ∀ (x :
  Int × Int × Unit) (y : Unit), I x y → ∀ (a_2 : Bool), a_2 = decide (x.fst < x.snd.fst) → Br a_2 (∃ (h : (0 : Int) ≤ (1 : Int)), ∃ (h : (0 : Int) ≤ IntKind.i64.wrap
  ((IntKind.u64.wrap (IntKind.i64.wrap (x.fst + x.snd.fst))).fdiv ((2 : Int) ^ Min.min (Int.toNat (1 : Int)) IntKind.u64.bits)) ∧ IntKind.i64.wrap ((IntKind.u64.wrap
  (IntKind.i64.wrap (x.fst + x.snd.fst))).fdiv ((2 : Int) ^ Min.min (Int.toNat (1 : Int)) IntKind.u64.bits)) < (↑xs.length : Int)), ∃ (h : (0 : Int) ≤ a ∧ a < (↑xs.length : Int)), ∃
  (h : WCmp (xs.getD ((0 : Nat) + (IntKind.i64.wrap ((IntKind.u64.wrap (IntKind.i64.wrap (x.fst + x.snd.fst))).fdiv ((2 : Int) ^ Min.min (Int.toNat (1 : Int))
  IntKind.u64.bits))).toNat) (0 : Int)) (xs.getD ((0 : Nat) + a.toNat) (0 : Int)) (Option.some bed)), ∀ (a_3 : Int × Unit), a_3 = cmpBR (xs.getD ((0 : Nat) + (IntKind.i64.wrap
  ((IntKind.u64.wrap (IntKind.i64.wrap (x.fst + x.snd.fst))).fdiv ((2 : Int) ^ Min.min (Int.toNat (1 : Int)) IntKind.u64.bits))).toNat) (0 : Int)) (xs.getD ((0 : Nat) + a.toNat) (0
  : Int)) (Option.some bed) → ∀ (a : Bool), a = decide (a_3.fst < (0 : Int)) → Br a (HIs [HObj.box md tb [SV.data (K.flt Go.FloatKind.f64).slice bed], HObj.row Md.rw ty3 (K.int
  IntKind.i64) xs] [HObj.box md tb [SV.data (K.flt Go.FloatKind.f64).slice bed], HObj.row Md.rw ty3 (K.int IntKind.i64) xs] ∧ I (IntKind.i64.wrap (IntKind.i64.wrap
  ((IntKind.u64.wrap (IntKind.i64.wrap (x.fst + x.snd.fst))).fdiv ((2 : Int) ^ Min.min (Int.toNat (1 : Int)) IntKind.u64.bits)) + (1 : Int)), x.snd.fst, ()) () ∧ μ (IntKind.i64.wrap
  (IntKind.i64.wrap ((IntKind.u64.wrap (IntKind.i64.wrap (x.fst + x.snd.fst))).fdiv ((2 : Int) ^ Min.min (Int.toNat (1 : Int)) IntKind.u64.bits)) + (1 : Int)), x.snd.fst, ()) () < μ
  x y) (HIs [HObj.box md tb [SV.data (K.flt Go.FloatKind.f64).slice bed], HObj.row Md.rw ty3 (K.int IntKind.i64) xs] [HObj.box md tb [SV.data (K.flt Go.FloatKind.f64).slice bed],
  HObj.row Md.rw ty3 (K.int IntKind.i64) xs] ∧ I (x.fst, IntKind.i64.wrap ((IntKind.u64.wrap (IntKind.i64.wrap (x.fst + x.snd.fst))).fdiv ((2 : Int) ^ Min.min (Int.toNat (1 : Int))
  IntKind.u64.bits)), ()) () ∧ μ (x.fst, IntKind.i64.wrap ((IntKind.u64.wrap (IntKind.i64.wrap (x.fst + x.snd.fst))).fdiv ((2 : Int) ^ Min.min (Int.toNat (1 : Int))
  IntKind.u64.bits)), ()) () < μ x y)) (HIs [HObj.box md tb [SV.data (K.flt Go.FloatKind.f64).slice bed], HObj.row Md.rw ty3 (K.int IntKind.i64) xs] [HObj.box md tb [SV.data (K.flt
  Go.FloatKind.f64).slice bed], HObj.row Md.rw ty3 (K.int IntKind.i64) xs] ∧ ∃ (I : Int × Unit → List Int × Unit → Prop), ∃ (μ : Int × Unit → List Int × Unit → Nat), I (a, ()) (xs,
  ()) ∧ ∀ (x_3 : Int × Unit) (y : List Int × Unit), I x_3 y → ∀ (a : Bool), a = decide (x_3.fst < IntKind.i64.wrap (x.fst - (1 : Int))) → Br a (∃ (h : (0 : Int) ≤ IntKind.i64.wrap
  (x_3.fst + (1 : Int)) ∧ IntKind.i64.wrap (x_3.fst + (1 : Int)) < (↑xs.length : Int)), ∃ (h : (0 : Int) ≤ x_3.fst ∧ x_3.fst < (↑xs.length : Int)), ∃ (h : (0 : Int) ≤ x_3.fst ∧
  x_3.fst < (↑xs.length : Int)), ∃ (h : (0 : Int) ≤ IntKind.i64.wrap (x_3.fst + (1 : Int)) ∧ IntKind.i64.wrap (x_3.fst + (1 : Int)) < (↑xs.length : Int)), HIs [HObj.box md tb
  [SV.data (K.flt Go.FloatKind.f64).slice bed], HObj.row Md.rw ty3 (K.int IntKind.i64) ((y.fst.set ((0 : Nat) + x_3.fst.toNat) (y.fst.getD ((0 : Nat) + (IntKind.i64.wrap (x_3.fst +
  (1 : Int))).toNat) (0 : Int))).set ((0 : Nat) + (IntKind.i64.wrap (x_3.fst + (1 : Int))).toNat) (y.fst.getD ((0 : Nat) + x_3.fst.toNat) (0 : Int)))] [HObj.box md tb [SV.data
  (K.flt Go.FloatKind.f64).slice bed], HObj.row Md.rw ty3 (K.int IntKind.i64) ((y.fst.set ((0 : Nat) + x_3.fst.toNat) (y.fst.getD ((0 : Nat) + (IntKind.i64.wrap (x_3.fst + (1 :
  Int))).toNat) (0 : Int))).set ((0 : Nat) + (IntKind.i64.wrap (x_3.fst + (1 : Int))).toNat) (y.fst.getD ((0 : Nat) + x_3.fst.toNat) (0 : Int)))] ∧ I (IntKind.i64.wrap (x_3.fst + (1
  : Int)), ()) ((y.fst.set ((0 : Nat) + x_3.fst.toNat) (y.fst.getD ((0 : Nat) + (IntKind.i64.wrap (x_3.fst + (1 : Int))).toNat) (0 : Int))).set ((0 : Nat) + (IntKind.i64.wrap
  (x_3.fst + (1 : Int))).toNat) (y.fst.getD ((0 : Nat) + x_3.fst.toNat) (0 : Int)), ()) ∧ μ (IntKind.i64.wrap (x_3.fst + (1 : Int)), ()) ((y.fst.set ((0 : Nat) + x_3.fst.toNat)
  (y.fst.getD ((0 : Nat) + (IntKind.i64.wrap (x_3.fst + (1 : Int))).toNat) (0 : Int))).set ((0 : Nat) + (IntKind.i64.wrap (x_3.fst + (1 : Int))).toNat) (y.fst.getD ((0 : Nat) +
  x_3.fst.toNat) (0 : Int)), ()) < μ x_3 y) (k (EV.tup []) [HObj.box md tb [SV.data (K.flt Go.FloatKind.f64).slice bed], HObj.row Md.rw ty3 (K.int IntKind.i64) y.fst]))) (∀ (a_2 :
  Bool), a_2 = (IntKind.i64.wrap (b - m) == (1 : Int)) → Br a_2 (HIs [HObj.box md tb [SV.data (K.flt Go.FloatKind.f64).slice bed], HObj.row Md.rw ty3 (K.int IntKind.i64) xs]
  [HObj.box md tb [SV.data (K.flt Go.FloatKind.f64).slice bed], HObj.row Md.rw ty3 (K.int IntKind.i64) xs] ∧ ∃ (I : Int × Int × Unit → Unit → Prop), ∃ (μ : Int × Int × Unit → Unit →
  Nat), I (a, m, ()) () ∧ ∀ (x : Int × Int × Unit) (y : Unit), I x y → ∀ (a : Bool), a = decide (x.fst < x.snd.fst) → Br a (∃ (h : (0 : Int) ≤ (1 : Int)), ∃ (h : (0 : Int) ≤ m ∧ m <
  (↑xs.length : Int)), ∃ (h : (0 : Int) ≤ IntKind.i64.wrap ((IntKind.u64.wrap (IntKind.i64.wrap (x.fst + x.snd.fst))).fdiv ((2 : Int) ^ Min.min (Int.toNat (1 : Int))
  IntKind.u64.bits)) ∧ IntKind.i64.wrap ((IntKind.u64.wrap (IntKind.i64.wrap (x.fst + x.snd.fst))).fdiv ((2 : Int) ^ Min.min (Int.toNat (1 : Int)) IntKind.u64.bits)) < (↑xs.length :
  Int)), ∃ (h : WCmp (xs.getD ((0 : Nat) + m.toNat) (0 : Int)) (xs.getD ((0 : Nat) + (IntKind.i64.wrap ((IntKind.u64.wrap (IntKind.i64.wrap (x.fst + x.snd.fst))).fdiv ((2 : Int) ^
  Min.min (Int.toNat (1 : Int)) IntKind.u64.bits))).toNat) (0 : Int)) (Option.some bed)), ∀ (a : Int × Unit), a = cmpBR (xs.getD ((0 : Nat) + m.toNat) (0 : Int)) (xs.getD ((0 : Nat)
  + (IntKind.i64.wrap ((IntKind.u64.wrap (IntKind.i64.wrap (x.fst + x.snd.fst))).fdiv ((2 : Int) ^ Min.min (Int.toNat (1 : Int)) IntKind.u64.bits))).toNat) (0 : Int)) (Option.some
  bed) → ∀ (a_3 : Bool), a_3 = decide (a.fst < (0 : Int)) → Br (!a_3) (HIs [HObj.box md tb [SV.data (K.flt Go.FloatKind.f64).slice bed], HObj.row Md.rw ty3 (K.int IntKind.i64) xs]
  [HObj.box md tb [SV.data (K.flt Go.FloatKind.f64).slice bed], HObj.row Md.rw ty3 (K.int IntKind.i64) xs] ∧ I (IntKind.i64.wrap (IntKind.i64.wrap ((IntKind.u64.wrap
  (IntKind.i64.wrap (x.fst + x.snd.fst))).fdiv ((2 : Int) ^ Min.min (Int.toNat (1 : Int)) IntKind.u64.bits)) + (1 : Int)), x.snd.fst, ()) () ∧ μ (IntKind.i64.wrap (IntKind.i64.wrap
  ((IntKind.u64.wrap (IntKind.i64.wrap (x.fst + x.snd.fst))).fdiv ((2 : Int) ^ Min.min (Int.toNat (1 : Int)) IntKind.u64.bits)) + (1 : Int)), x.snd.fst, ()) () < μ x y) (HIs
  [HObj.box md tb [SV.data (K.flt Go.FloatKind.f64).slice bed], HObj.row Md.rw ty3 (K.int IntKind.i64) xs] [HObj.box md tb [SV.data (K.flt Go.FloatKind.f64).slice bed], HObj.row
  Md.rw ty3 (K.int IntKind.i64) xs] ∧ I (x.fst, IntKind.i64.wrap ((IntKind.u64.wrap (IntKind.i64.wrap (x.fst + x.snd.fst))).fdiv ((2 : Int) ^ Min.min (Int.toNat (1 : Int))
  IntKind.u64.bits)), ()) () ∧ μ (x.fst, IntKind.i64.wrap ((IntKind.u64.wrap (IntKind.i64.wrap (x.fst + x.snd.fst))).fdiv ((2 : Int) ^ Min.min (Int.toNat (1 : Int))
  IntKind.u64.bits)), ()) () < μ x y)) (HIs [HObj.box md tb [SV.data (K.flt Go.FloatKind.f64).slice bed], HObj.row Md.rw ty3 (K.int IntKind.i64) xs] [HObj.box md tb [SV.data (K.flt
  Go.FloatKind.f64).slice bed], HObj.row Md.rw ty3 (K.int IntKind.i64) xs] ∧ ∃ (I : Int × Unit → List Int × Unit → Prop), ∃ (μ : Int × Unit → List Int × Unit → Nat), I (m, ()) (xs,
  ()) ∧ ∀ (x_3 : Int × Unit) (y : List Int × Unit), I x_3 y → ∀ (a : Bool), a = decide (x_3.fst > x.fst) → Br a (∃ (h : (0 : Int) ≤ IntKind.i64.wrap (x_3.fst - (1 : Int)) ∧
  IntKind.i64.wrap (x_3.fst - (1 : Int)) < (↑xs.length : Int)), ∃ (h : (0 : Int) ≤ x_3.fst ∧ x_3.fst < (↑xs.length : Int)), ∃ (h : (0 : Int) ≤ x_3.fst ∧ x_3.fst < (↑xs.length :
  Int)), ∃ (h : (0 : Int) ≤ IntKind.i64.wrap (x_3.fst - (1 : Int)) ∧ IntKind.i64.wrap (x_3.fst - (1 : Int)) < (↑xs.length : Int)), HIs [HObj.box md tb [SV.data (K.flt
  Go.FloatKind.f64).slice bed], HObj.row Md.rw ty3 (K.int IntKind.i64) ((y.fst.set ((0 : Nat) + x_3.fst.toNat) (y.fst.getD ((0 : Nat) + (IntKind.i64.wrap (x_3.fst - (1 :
  Int))).toNat) (0 : Int))).set ((0 : Nat) + (IntKind.i64.wrap (x_3.fst - (1 : Int))).toNat) (y.fst.getD ((0 : Nat) + x_3.fst.toNat) (0 : Int)))] [HObj.box md tb [SV.data (K.flt
  Go.FloatKind.f64).slice bed], HObj.row Md.rw ty3 (K.int IntKind.i64) ((y.fst.set ((0 : Nat) + x_3.fst.toNat) (y.fst.getD ((0 : Nat) + (IntKind.i64.wrap (x_3.fst - (1 :
  Int))).toNat) (0 : Int))).set ((0 : Nat) + (IntKind.i64.wrap (x_3.fst - (1 : Int))).toNat) (y.fst.getD ((0 : Nat) + x_3.fst.toNat) (0 : Int)))] ∧ I (IntKind.i64.wrap (x_3.fst - (1
  : Int)), ()) ((y.fst.set ((0 : Nat) + x_3.fst.toNat) (y.fst.getD ((0 : Nat) + (IntKind.i64.wrap (x_3.fst - (1 : Int))).toNat) (0 : Int))).set ((0 : Nat) + (IntKind.i64.wrap
  (x_3.fst - (1 : Int))).toNat) (y.fst.getD ((0 : Nat) + x_3.fst.toNat) (0 : Int)), ()) ∧ μ (IntKind.i64.wrap (x_3.fst - (1 : Int)), ()) ((y.fst.set ((0 : Nat) + x_3.fst.toNat)
  (y.fst.getD ((0 : Nat) + (IntKind.i64.wrap (x_3.fst - (1 : Int))).toNat) (0 : Int))).set ((0 : Nat) + (IntKind.i64.wrap (x_3.fst - (1 : Int))).toNat) (y.fst.getD ((0 : Nat) +
  x_3.fst.toNat) (0 : Int)), ()) < μ x_3 y) (k (EV.tup []) [HObj.box md tb [SV.data (K.flt Go.FloatKind.f64).slice bed], HObj.row Md.rw ty3 (K.int IntKind.i64) y.fst]))) (∃ (h : (0
  : Int) ≤ (1 : Int)), ∃ (post : Int × Int × Unit → Unit → Prop), (∀ (a_3 : Bool), a_3 = decide (m > IntKind.i64.wrap ((IntKind.u64.wrap (IntKind.i64.wrap (a + b))).fdiv ((2 : Int)
  ^ Min.min (Int.toNat (1 : Int)) IntKind.u64.bits))) → Br a_3 (HIs [HObj.box md tb [SV.data (K.flt Go.FloatKind.f64).slice bed], HObj.row Md.rw ty3 (K.int IntKind.i64) xs]
  [HObj.box md tb [SV.data (K.flt Go.FloatKind.f64).slice bed], HObj.row Md.rw ty3 (K.int IntKind.i64) xs] ∧ post (IntKind.i64.wrap (IntKind.i64.wrap (IntKind.i64.wrap
  ((IntKind.u64.wrap (IntKind.i64.wrap (a + b))).fdiv ((2 : Int) ^ Min.min (Int.toNat (1 : Int)) IntKind.u64.bits)) + m) - b), IntKind.i64.wrap ((IntKind.u64.wrap (IntKind.i64.wrap
  (a + b))).fdiv ((2 : Int) ^ Min.min (Int.toNat (1 : Int)) IntKind.u64.bits)), ()) ()) (HIs [HObj.box md tb [SV.data (K.flt Go.FloatKind.f64).slice bed], HObj.row Md.rw ty3 (K.int
  IntKind.i64) xs] [HObj.box md tb [SV.data (K.flt Go.FloatKind.f64).slice bed], HObj.row Md.rw ty3 (K.int IntKind.i64) xs] ∧ post (a, m, ()) ())) ∧ ∀ (x : Int × Int × Unit) (y :
  Unit), post x y → HIs [HObj.box md tb [SV.data (K.flt Go.FloatKind.f64).slice bed], HObj.row Md.rw ty3 (K.int IntKind.i64) xs] [HObj.box md tb [SV.data (K.flt
  Go.FloatKind.f64).slice bed], HObj.row Md.rw ty3 (K.int IntKind.i64) xs] ∧ ∃ (I : Int × Int × Unit → Unit → Prop), ∃ (μ : Int × Int × Unit → Unit → Nat), I (x.fst, x.snd.fst, ())
  () ∧ ∀ (x : Int × Int × Unit) (y : Unit), I x y → ∀ (a_3 : Bool), a_3 = decide (x.fst < x.snd.fst) → Br a_3 (∃ (h : (0 : Int) ≤ (1 : Int)), ∃ (h : (0 : Int) ≤ IntKind.i64.wrap
  (IntKind.i64.wrap (IntKind.i64.wrap (IntKind.i64.wrap ((IntKind.u64.wrap (IntKind.i64.wrap (a + b))).fdiv ((2 : Int) ^ Min.min (Int.toNat (1 : Int)) IntKind.u64.bits)) + m) - (1 :
  Int)) - IntKind.i64.wrap ((IntKind.u64.wrap (IntKind.i64.wrap (x.fst + x.snd.fst))).fdiv ((2 : Int) ^ Min.min (Int.toNat (1 : Int)) IntKind.u64.bits))) ∧ IntKind.i64.wrap
  (IntKind.i64.wrap (IntKind.i64.wrap (IntKind.i64.wrap ((IntKind.u64.wrap (IntKind.i64.wrap (a + b))).fdiv ((2 : Int) ^ Min.min (Int.toNat (1 : Int)) IntKind.u64.bits)) + m) - (1 :
  Int)) - IntKind.i64.wrap ((IntKind.u64.wrap (IntKind.i64.wrap (x.fst + x.snd.fst))).fdiv ((2 : Int) ^ Min.min (Int.toNat (1 : Int)) IntKind.u64.bits))) < (↑xs.length : Int)), ∃ (h
  : (0 : Int) ≤ IntKind.i64.wrap ((IntKind.u64.wrap (IntKind.i64.wrap (x.fst + x.snd.fst))).fdiv ((2 : Int) ^ Min.min (Int.toNat (1 : Int)) IntKind.u64.bits)) ∧ IntKind.i64.wrap
  ((IntKind.u64.wrap (IntKind.i64.wrap (x.fst + x.snd.fst))).fdiv ((2 : Int) ^ Min.min (Int.toNat (1 : Int)) IntKind.u64.bits)) < (↑xs.length : Int)), ∃ (h : WCmp (xs.getD ((0 :
  Nat) + (IntKind.i64.wrap (IntKind.i64.wrap (IntKind.i64.wrap (IntKind.i64.wrap ((IntKind.u64.wrap (IntKind.i64.wrap (a + b))).fdiv ((2 : Int) ^ Min.min (Int.toNat (1 : Int))
  IntKind.u64.bits)) + m) - (1 : Int)) - IntKind.i64.wrap ((IntKind.u64.wrap (IntKind.i64.wrap (x.fst + x.snd.fst))).fdiv ((2 : Int) ^ Min.min (Int.toNat (1 : Int))
  IntKind.u64.bits)))).toNat) (0 : Int)) (xs.getD ((0 : Nat) + (IntKind.i64.wrap ((IntKind.u64.wrap (IntKind.i64.wrap (x.fst + x.snd.fst))).fdiv ((2 : Int) ^ Min.min (Int.toNat (1 :
  Int)) IntKind.u64.bits))).toNat) (0 : Int)) (Option.some bed)), ∀ (a_4 : Int × Unit), a_4 = cmpBR (xs.getD ((0 : Nat) + (IntKind.i64.wrap (IntKind.i64.wrap (IntKind.i64.wrap
  (IntKind.i64.wrap ((IntKind.u64.wrap (IntKind.i64.wrap (a + b))).fdiv ((2 : Int) ^ Min.min (Int.toNat (1 : Int)) IntKind.u64.bits)) + m) - (1 : Int)) - IntKind.i64.wrap
  ((IntKind.u64.wrap (IntKind.i64.wrap (x.fst + x.snd.fst))).fdiv ((2 : Int) ^ Min.min (Int.toNat (1 : Int)) IntKind.u64.bits)))).toNat) (0 : Int)) (xs.getD ((0 : Nat) +
  (IntKind.i64.wrap ((IntKind.u64.wrap (IntKind.i64.wrap (x.fst + x.snd.fst))).fdiv ((2 : Int) ^ Min.min (Int.toNat (1 : Int)) IntKind.u64.bits))).toNat) (0 : Int)) (Option.some
  bed) → ∀ (a : Bool), a = decide (a_4.fst < (0 : Int)) → Br (!a) (HIs [HObj.box md tb [SV.data (K.flt Go.FloatKind.f64).slice bed], HObj.row Md.rw ty3 (K.int IntKind.i64) xs]
  [HObj.box md tb [SV.data (K.flt Go.FloatKind.f64).slice bed], HObj.row Md.rw ty3 (K.int IntKind.i64) xs] ∧ I (IntKind.i64.wrap (IntKind.i64.wrap ((IntKind.u64.wrap
  (IntKind.i64.wrap (x.fst + x.snd.fst))).fdiv ((2 : Int) ^ Min.min (Int.toNat (1 : Int)) IntKind.u64.bits)) + (1 : Int)), x.snd.fst, ()) () ∧ μ (IntKind.i64.wrap (IntKind.i64.wrap
  ((IntKind.u64.wrap (IntKind.i64.wrap (x.fst + x.snd.fst))).fdiv ((2 : Int) ^ Min.min (Int.toNat (1 : Int)) IntKind.u64.bits)) + (1 : Int)), x.snd.fst, ()) () < μ x y) (HIs
  [HObj.box md tb [SV.data (K.flt Go.FloatKind.f64).slice bed], HObj.row Md.rw ty3 (K.int IntKind.i64) xs] [HObj.box md tb [SV.data (K.flt Go.FloatKind.f64).slice bed], HObj.row
  Md.rw ty3 (K.int IntKind.i64) xs] ∧ I (x.fst, IntKind.i64.wrap ((IntKind.u64.wrap (IntKind.i64.wrap (x.fst + x.snd.fst))).fdiv ((2 : Int) ^ Min.min (Int.toNat (1 : Int))
  IntKind.u64.bits)), ()) () ∧ μ (x.fst, IntKind.i64.wrap ((IntKind.u64.wrap (IntKind.i64.wrap (x.fst + x.snd.fst))).fdiv ((2 : Int) ^ Min.min (Int.toNat (1 : Int))
  IntKind.u64.bits)), ()) () < μ x y)) (∃ (post : Unit → List Int × Unit → Prop), (∀ (a_4 : Bool), a_4 = decide (x.fst < m) → Br a_4 (∀ (a_5 : Bool), a_5 = decide (m <
  IntKind.i64.wrap (IntKind.i64.wrap (IntKind.i64.wrap ((IntKind.u64.wrap (IntKind.i64.wrap (a + b))).fdiv ((2 : Int) ^ Min.min (Int.toNat (1 : Int)) IntKind.u64.bits)) + m) -
  x.fst)) → Br a_5 (∃ (x_6 : (ty3 = ty3) ∧ xs.length = xs.length ∧ xs.length ≤ maxN ∧ (0 : Int) ≤ x.fst ∧ x.fst < m ∧ m < IntKind.i64.wrap (IntKind.i64.wrap (IntKind.i64.wrap
  ((IntKind.u64.wrap (IntKind.i64.wrap (a + b))).fdiv ((2 : Int) ^ Min.min (Int.toNat (1 : Int)) IntKind.u64.bits)) + m) - x.fst) ∧ IntKind.i64.wrap (IntKind.i64.wrap
  (IntKind.i64.wrap ((IntKind.u64.wrap (IntKind.i64.wrap (a + b))).fdiv ((2 : Int) ^ Min.min (Int.toNat (1 : Int)) IntKind.u64.bits)) + m) - x.fst) ≤ (↑xs.length : Int)), ∀ (ys :
  List Int), ys = remap xs (rotI x.fst.toNat m.toNat (IntKind.i64.wrap (IntKind.i64.wrap (IntKind.i64.wrap ((IntKind.u64.wrap (IntKind.i64.wrap (a + b))).fdiv ((2 : Int) ^ Min.min
  (Int.toNat (1 : Int)) IntKind.u64.bits)) + m) - x.fst)).toNat) ∧ ys.Perm xs → HIs [HObj.box md tb [SV.data (K.flt Go.FloatKind.f64).slice bed], HObj.row Md.rw ty3 (K.int
  IntKind.i64) ys] [HObj.box md tb [SV.data (K.flt Go.FloatKind.f64).slice bed], HObj.row Md.rw ty3 (K.int IntKind.i64) ys] ∧ post () (ys, ())) (HIs [HObj.box md tb [SV.data (K.flt
  Go.FloatKind.f64).slice bed], HObj.row Md.rw ty3 (K.int IntKind.i64) xs] [HObj.box md tb [SV.data (K.flt Go.FloatKind.f64).slice bed], HObj.row Md.rw ty3 (K.int IntKind.i64) xs] ∧
  post () (xs, ()))) (HIs [HObj.box md tb [SV.data (K.flt Go.FloatKind.f64).slice bed], HObj.row Md.rw ty3 (K.int IntKind.i64) xs] [HObj.box md tb [SV.data (K.flt
  Go.FloatKind.f64).slice bed], HObj.row Md.rw ty3 (K.int IntKind.i64) xs] ∧ post () (xs, ()))) ∧ ∀ (x_4 : Unit) (y : List Int × Unit), post x_4 y → ∃ (post : Unit → List Int × Unit
  → Prop), (∀ (a_4 : Bool), a_4 = decide (a < x.fst) → Br a_4 (∀ (a_5 : Bool), a_5 = decide (x.fst < IntKind.i64.wrap ((IntKind.u64.wrap (IntKind.i64.wrap (a + b))).fdiv ((2 : Int)
  ^ Min.min (Int.toNat (1 : Int)) IntKind.u64.bits))) → Br a_5 (∃ (x : (ty3 = ty3) ∧ (fn72 = fn72) ∧ xs.length = y.fst.length ∧ BedOk bed y.fst ∧ (0 : Int) ≤ a ∧ a < x.fst ∧ x.fst <
  IntKind.i64.wrap ((IntKind.u64.wrap (IntKind.i64.wrap (a + b))).fdiv ((2 : Int) ^ Min.min (Int.toNat (1 : Int)) IntKind.u64.bits)) ∧ IntKind.i64.wrap ((IntKind.u64.wrap
  (IntKind.i64.wrap (a + b))).fdiv ((2 : Int) ^ Min.min (Int.toNat (1 : Int)) IntKind.u64.bits)) ≤ (↑y.fst.length : Int) ∧ (IntKind.i64.wrap ((IntKind.u64.wrap (IntKind.i64.wrap (a
  + b))).fdiv ((2 : Int) ^ Min.min (Int.toNat (1 : Int)) IntKind.u64.bits)) - a).toNat < N ∧ Sgm (keyB bed) y.fst a.toNat x.fst.toNat ∧ Sgm (keyB bed) y.fst x.fst.toNat
  (IntKind.i64.wrap ((IntKind.u64.wrap (IntKind.i64.wrap (a + b))).fdiv ((2 : Int) ^ Min.min (Int.toNat (1 : Int)) IntKind.u64.bits))).toNat), ∀ (ys : List Int), Rr (keyB bed)
  a.toNat (IntKind.i64.wrap ((IntKind.u64.wrap (IntKind.i64.wrap (a + b))).fdiv ((2 : Int) ^ Min.min (Int.toNat (1 : Int)) IntKind.u64.bits))).toNat y.fst ys ∧ Sgm (keyB bed) ys
  a.toNat (IntKind.i64.wrap ((IntKind.u64.wrap (IntKind.i64.wrap (a + b))).fdiv ((2 : Int) ^ Min.min (Int.toNat (1 : Int)) IntKind.u64.bits))).toNat → HIs [HObj.box md tb [SV.data
  (K.flt Go.FloatKind.f64).slice bed], HObj.row Md.rw ty3 (K.int IntKind.i64) ys] [HObj.box md tb [SV.data (K.flt Go.FloatKind.f64).slice bed], HObj.row Md.rw ty3 (K.int
  IntKind.i64) ys] ∧ post () (ys, ())) (HIs [HObj.box md tb [SV.data (K.flt Go.FloatKind.f64).slice bed], HObj.row Md.rw ty3 (K.int IntKind.i64) y.fst] [HObj.box md tb [SV.data
  (K.flt Go.FloatKind.f64).slice bed], HObj.row Md.rw ty3 (K.int IntKind.i64) y.fst] ∧ post () (y.fst, ()))) (HIs [HObj.box md tb [SV.data (K.flt Go.FloatKind.f64).slice bed],
  HObj.row Md.rw ty3 (K.int IntKind.i64) y.fst] [HObj.box md tb [SV.data (K.flt Go.FloatKind.f64).slice bed], HObj.row Md.rw ty3 (K.int IntKind.i64) y.fst] ∧ post () (y.fst, ()))) ∧
  ∀ (x_6 : Unit) (y : List Int × Unit), post x_6 y → ∀ (a_4 : Bool), a_4 = decide (IntKind.i64.wrap ((IntKind.u64.wrap (IntKind.i64.wrap (a + b))).fdiv ((2 : Int) ^ Min.min
  (Int.toNat (1 : Int)) IntKind.u64.bits)) < IntKind.i64.wrap (IntKind.i64.wrap (IntKind.i64.wrap ((IntKind.u64.wrap (IntKind.i64.wrap (a + b))).fdiv ((2 : Int) ^ Min.min (Int.toNat
  (1 : Int)) IntKind.u64.bits)) + m) - x.fst)) → Br a_4 (∀ (a_5 : Bool), a_5 = decide (IntKind.i64.wrap (IntKind.i64.wrap (IntKind.i64.wrap ((IntKind.u64.wrap (IntKind.i64.wrap (a +
  b))).fdiv ((2 : Int) ^ Min.min (Int.toNat (1 : Int)) IntKind.u64.bits)) + m) - x.fst) < b) → Br a_5 (∃ (x : (ty3 = ty3) ∧ (fn72 = fn72) ∧ xs.length = y.fst.length ∧ BedOk bed
  y.fst ∧ (0 : Int) ≤ IntKind.i64.wrap ((IntKind.u64.wrap (IntKind.i64.wrap (a + b))).fdiv ((2 : Int) ^ Min.min (Int.toNat (1 : Int)) IntKind.u64.bits)) ∧ IntKind.i64.wrap
  ((IntKind.u64.wrap (IntKind.i64.wrap (a + b))).fdiv ((2 : Int) ^ Min.min (Int.toNat (1 : Int)) IntKind.u64.bits)) < IntKind.i64.wrap (IntKind.i64.wrap (IntKind.i64.wrap
  ((IntKind.u64.wrap (IntKind.i64.wrap (a + b))).fdiv ((2 : Int) ^ Min.min (Int.toNat (1 : Int)) IntKind.u64.bits)) + m) - x.fst) ∧ IntKind.i64.wrap (IntKind.i64.wrap
  (IntKind.i64.wrap ((IntKind.u64.wrap (IntKind.i64.wrap (a + b))).fdiv ((2 : Int) ^ Min.min (Int.toNat (1 : Int)) IntKind.u64.bits)) + m) - x.fst) < b ∧ b ≤ (↑y.fst.length : Int) ∧
  (b - IntKind.i64.wrap ((IntKind.u64.wrap (IntKind.i64.wrap (a + b))).fdiv ((2 : Int) ^ Min.min (Int.toNat (1 : Int)) IntKind.u64.bits))).toNat < N ∧ Sgm (keyB bed) y.fst
  (IntKind.i64.wrap ((IntKind.u64.wrap (IntKind.i64.wrap (a + b))).fdiv ((2 : Int) ^ Min.min (Int.toNat (1 : Int)) IntKind.u64.bits))).toNat (IntKind.i64.wrap (IntKind.i64.wrap
  (IntKind.i64.wrap ((IntKind.u64.wrap (IntKind.i64.wrap (a + b))).fdiv ((2 : Int) ^ Min.min (Int.toNat (1 : Int)) IntKind.u64.bits)) + m) - x.fst)).toNat ∧ Sgm (keyB bed) y.fst
  (IntKind.i64.wrap (IntKind.i64.wrap (IntKind.i64.wrap ((IntKind.u64.wrap (IntKind.i64.wrap (a + b))).fdiv ((2 : Int) ^ Min.min (Int.toNat (1 : Int)) IntKind.u64.bits)) + m) -
  x.fst)).toNat b.toNat), ∀ (ys : List Int), Rr (keyB bed) (IntKind.i64.wrap ((IntKind.u64.wrap (IntKind.i64.wrap (a + b))).fdiv ((2 : Int) ^ Min.min (Int.toNat (1 : Int))
  IntKind.u64.bits))).toNat b.toNat y.fst ys ∧ Sgm (keyB bed) ys (IntKind.i64.wrap ((IntKind.u64.wrap (IntKind.i64.wrap (a + b))).fdiv ((2 : Int) ^ Min.min (Int.toNat (1 : Int))
  IntKind.u64.bits))).toNat b.toNat → k (EV.tup []) [HObj.box md tb [SV.data (K.flt Go.FloatKind.f64).slice bed], HObj.row Md.rw ty3 (K.int IntKind.i64) ys]) (k (EV.tup [])
  [HObj.box md tb [SV.data (K.flt Go.FloatKind.f64).slice bed], HObj.row Md.rw ty3 (K.int IntKind.i64) y.fst])) (k (EV.tup []) [HObj.box md tb [SV.data (K.flt
  Go.FloatKind.f64).slice bed], HObj.row Md.rw ty3 (K.int IntKind.i64) y.fst]))))
theorem Lx_st_sym (ty0 ty1 : Nat) (md : Md) (tb N : Nat) (bed : List Nat) (xs : List Int) (a m b : Int) (k : EV → List HObj → Prop) (h : BedOk bed xs ∧ 0 ≤ a ∧ a < m ∧ m < b ∧ b ≤ (List.length xs : Int) ∧ (b - a).toNat < N + 1 ∧ Sgm (keyB bed) xs a.toNat m.toNat ∧ Sgm (keyB bed) xs m.toNat b.toNat) (hk : ∀ ys : List Int, Rr (keyB bed) a.toNat b.toNat xs ys ∧ Sgm (keyB bed) ys a.toNat b.toNat → k (.tup []) [.box md tb [.data (.slice (.flt .f64)) bed], .row .rw ty0 (.int .i64) ys]) : Fx_st_sym ty0 ty1 md tb N bed xs a m b k := by
  unfold Fx_st_sym
  obtain ⟨bo, ha, ham, hmb, hb, hN, hs1, hs2⟩ := h
  have mx : maxN = 281474976710656 := rfl
  have hmx := bo.2.2
  obtain ⟨A, rfl⟩ : ∃ q : Nat, a = (q : Int) := ⟨a.toNat, by omega⟩
  obtain ⟨M, rfl⟩ : ∃ q : Nat, m = (q : Int) := ⟨m.toNat, by omega⟩
  obtain ⟨B, rfl⟩ : ∃ q : Nat, b = (q : Int) := ⟨b.toNat, by omega⟩
  simp only [Int.toNat_natCast] at hk hs1 hs2
  have ham : A < M := by omega
  have hmb : M < B := by omega
  have hb : B ≤ xs.length := by omega
  have wsub : ∀ u v : Nat, v ≤ u → u ≤ 2 * xs.length → IntKind.i64.wrap ((u : Int) - v) = ((u - v : Nat) : Int) := fun u v h1 h2 => by rw [wi_small (by omega) (by omega)]; omega
  have whalf : ∀ u v : Nat, u ≤ xs.length → v ≤ xs.length → IntKind.i64.wrap ((IntKind.u64.wrap (IntKind.i64.wrap ((u : Int) + v))).fdiv (2 ^ Min.min (Int.toNat 1) IntKind.u64.bits)) = (((u + v) / 2 : Nat) : Int) := fun u v h1 h2 => by
    rw [wrap_half (by omega) (by omega)]; omega
  have wadd : ∀ u : Nat, u ≤ xs.length → IntKind.i64.wrap ((u : Int) + 1) = ((u + 1 : Nat) : Int) := fun u h1 => by rw [wi_small (by omega) (by omega)]; omega
  rw [wsub M A (by omega) (by omega), wsub B M (by omega) (by omega), whalf A B (by omega) (by omega)]
  have wdec : ∀ u : Nat, 1 ≤ u → u ≤ 2 * xs.length → IntKind.i64.wrap ((u : Int) - 1) = ((u - 1 : Nat) : Int) := fun u h1 h2 => by rw [wi_small (by omega) (by omega)]; omega
  have dle : ∀ u v : Nat, decide ((u : Int) < v) = true → u < v := fun u v d => by have d : (u : Int) < v := of_decide_eq_true d; omega
  have dge : ∀ u v : Nat, decide ((u : Int) < v) = false → v ≤ u := fun u v d => by have d : ¬ (u : Int) < v := of_decide_eq_false d; omega
  rintro _ rfl
  refine Br.intro (fun e => ?_) fun e => ?_
  · have e : M = A + 1 := by
      have e : ((M - A : Nat) : Int) = 1 := by simpa using e
      omega
    refine ⟨rfl, fun x _ => ∃ i j : Nat, x.1 = i ∧ x.2.1 = j ∧ M ≤ i ∧ i ≤ j ∧ j ≤ B ∧ (∀ p, M ≤ p → p < i → keyB bed (at0 xs p) < keyB bed (at0 xs A)) ∧ (∀ p, j ≤ p → p < B → keyB bed (at0 xs A) ≤ keyB bed (at0 xs p)), fun x _ => (x.2.1 - x.1).toNat, ⟨M, B, rfl, rfl, by omega, by omega, by omega, fun p h1 h2 => by omega, fun p h1 h2 => by omega⟩, ?_⟩
    rintro ⟨_, _, ⟨⟩⟩ _ ⟨i, j, rfl, rfl, h1, h2, h3, hlo, hhi⟩
    dsimp only
    rintro _ rfl
    refine Br.intro (fun d => ?_) fun d => ?_
    · have d := dle _ _ d
      obtain ⟨c, hc⟩ : ∃ c, (i + j) / 2 = c := ⟨_, rfl⟩
      rw [whalf i j (by omega) (by omega), hc, Int.toNat_natCast, Int.toNat_natCast, Nat.zero_add, Nat.zero_add, wadd c (by omega)]
      refine ⟨by decide, ⟨by omega, by omega⟩, ⟨by omega, by omega⟩, bo.cmp (by omega) (by omega), ?_⟩
      rintro _ rfl
      rintro _ rfl
      refine Br.intro (fun q => ?_) fun q => ?_
      · have q : keyB bed (at0 xs c) < keyB bed (at0 xs A) := (cmpB_neg _ _ _).1 (of_decide_eq_true q)
        refine ⟨rfl, ⟨c + 1, j, rfl, rfl, by omega, by omega, h3, fun p h1 h2 => ?_, hhi⟩, by omega⟩
        have := sgm_le hs2 (i := p) (j := c) h1 (by omega) (by omega)
        omega
      · have q : ¬ keyB bed (at0 xs c) < keyB bed (at0 xs A) := fun w => of_decide_eq_false q ((cmpB_neg _ _ _).2 w)
        refine ⟨rfl, ⟨i, c, rfl, rfl, h1, by omega, by omega, hlo, fun p h1 h2 => ?_⟩, by omega⟩
        have := sgm_le hs2 (i := c) (j := p) (by omega) (by omega) (by omega)
        omega
    have d := dge _ _ d
    have ij : i = j := by omega
    subst ij
    refine ⟨rfl, fun x y => ∃ k : Nat, x.1 = k ∧ A ≤ k ∧ k ≤ i - 1 ∧ Rr (keyB bed) A B xs y.1 ∧ ShU xs y.1 A k, fun x _ => i - 1 - x.1.toNat, ⟨A, rfl, by omega, by omega, .refl _ _ _, .start _ _⟩, ?_⟩
    rintro ⟨_, ⟨⟩⟩ ⟨y, ⟨⟩⟩ ⟨k, rfl, k1, k2, hr, hu⟩
    dsimp only at hr hu ⊢
    have ly := hr.len
    rw [wdec i (by omega) (by omega)]
    rintro _ rfl
    refine Br.intro (fun d => ?_) fun d => ?_
    · have d := dle _ _ d
      rw [wadd k (by omega), Int.toNat_natCast, Int.toNat_natCast, Nat.zero_add, Nat.zero_add]
      have q : keyB bed (at0 y (k + 1)) < keyB bed (at0 y k) := by
        rw [hu (k + 1), hu k, if_neg (by omega), if_neg (by omega), if_neg (by omega), if_pos rfl]
        exact hlo _ (by omega) (by omega)
      have hst : (y.set k (at0 y (k + 1))).set (k + 1) (at0 y k) = swp y (k + 1) k := swp_comm (by omega)
      refine ⟨⟨by omega, by omega⟩, ⟨by omega, by omega⟩, ⟨by omega, by omega⟩, ⟨by omega, by omega⟩, rfl, ⟨k + 1, rfl, by omega, by omega, ?_, ?_⟩, by omega⟩
      · show Rr (keyB bed) A B xs ((y.set k (at0 y (k + 1))).set (k + 1) (at0 y k))
        rw [hst]; exact hr.trans (swp_rr (by omega) (by omega) (by omega) q)
      · show ShU xs ((y.set k (at0 y (k + 1))).set (k + 1) (at0 y k)) A (k + 1)
        rw [hst]; exact hu.step ly (by omega) (by omega)
    have d := dge _ _ d
    have ek : k = i - 1 := by omega
    subst ek
    exact hk _ ⟨hr, hu.done (by omega) h3 (by rw [← e]; exact hs2) (fun p h1 h2 => hlo p (by omega) h2) hhi⟩
  rintro _ rfl
  refine Br.intro (fun e2 => ?_) fun e2 => ?_
  · have e2 : B = M + 1 := by
      have e2 : ((B - M : Nat) : Int) = 1 := by simpa using e2
      omega
    refine ⟨rfl, fun x _ => ∃ i j : Nat, x.1 = i ∧ x.2.1 = j ∧ A ≤ i ∧ i ≤ j ∧ j ≤ M ∧ (∀ p, A ≤ p → p < i → keyB bed (at0 xs p) ≤ keyB bed (at0 xs M)) ∧ (∀ p, j ≤ p → p < M → keyB bed (at0 xs M) < keyB bed (at0 xs p)), fun x _ => (x.2.1 - x.1).toNat, ⟨A, M, rfl, rfl, by omega, by omega, by omega, fun p h1 h2 => by omega, fun p h1 h2 => by omega⟩, ?_⟩
    rintro ⟨_, _, ⟨⟩⟩ _ ⟨i, j, rfl, rfl, h1, h2, h3, hlo, hhi⟩
    dsimp only
    rintro _ rfl
    refine Br.intro (fun d => ?_) fun d => ?_
    · have d := dle _ _ d
      obtain ⟨c, hc⟩ : ∃ c, (i + j) / 2 = c := ⟨_, rfl⟩
      rw [whalf i j (by omega) (by omega), hc, Int.toNat_natCast, Int.toNat_natCast, Nat.zero_add, Nat.zero_add, wadd c (by omega)]
      refine ⟨by decide, ⟨by omega, by omega⟩, ⟨by omega, by omega⟩, bo.cmp (by omega) (by omega), ?_⟩
      rintro _ rfl
      rintro _ rfl
      refine Br.intro (fun q => ?_) fun q => ?_
      · have q : ¬ keyB bed (at0 xs M) < keyB bed (at0 xs c) := fun w => by
          have : decide ((cmpBR (at0 xs M) (at0 xs c) (some bed)).fst < 0) = true := decide_eq_true ((cmpB_neg _ _ _).2 w)
          unfold at0 at this
          rw [this] at q; exact absurd q (by decide)
        refine ⟨rfl, ⟨c + 1, j, rfl, rfl, by omega, by omega, h3, fun p h1 h2 => ?_, hhi⟩, by omega⟩
        have := sgm_le hs1 (i := p) (j := c) h1 (by omega) (by omega)
        omega
      · have q : keyB bed (at0 xs M) < keyB bed (at0 xs c) := (cmpB_neg _ _ _).1 (by
          have q : decide ((cmpBR (at0 xs M) (at0 xs c) (some bed)).fst < 0) = true := by simpa using q
          exact of_decide_eq_true q)
        refine ⟨rfl, ⟨i, c, rfl, rfl, h1, by omega, by omega, hlo, fun p h1 h2 => ?_⟩, by omega⟩
        have := sgm_le hs1 (i := c) (j := p) (by omega) (by omega) (by omega)
        omega
    have d := dge _ _ d
    have ij : i = j := by omega
    subst ij
    refine ⟨rfl, fun x y => ∃ k : Nat, x.1 = k ∧ i ≤ k ∧ k ≤ M ∧ Rr (keyB bed) A B xs y.1 ∧ ShD xs y.1 M k, fun x _ => x.1.toNat, ⟨M, rfl, by omega, by omega, .refl _ _ _, .start _ _⟩, ?_⟩
    rintro ⟨_, ⟨⟩⟩ ⟨y, ⟨⟩⟩ ⟨k, rfl, k1, k2, hr, hu⟩
    dsimp only at hr hu ⊢
    have ly := hr.len
    rintro _ rfl
    refine Br.intro (fun d => ?_) fun d => ?_
    · have d := dle _ _ d
      obtain ⟨k', rfl⟩ : ∃ k', k = k' + 1 := ⟨k - 1, by omega⟩
      rw [wdec (k' + 1) (by omega) (by omega), show k' + 1 - 1 = k' by omega, Int.toNat_natCast, Int.toNat_natCast, Nat.zero_add, Nat.zero_add]
      have q : keyB bed (at0 y (k' + 1)) < keyB bed (at0 y k') := by
        rw [hu (k' + 1), hu k', if_neg (by omega), if_pos rfl, if_neg (by omega), if_neg (by omega)]
        exact hhi _ (by omega) (by omega)
      exact ⟨⟨by omega, by omega⟩, ⟨by omega, by omega⟩, ⟨by omega, by omega⟩, ⟨by omega, by omega⟩, rfl, ⟨k', rfl, by omega, by omega, hr.trans (swp_rr (by omega) (by omega) (by omega) q), hu.step ly (by omega) (by omega)⟩, by omega⟩
    have d := dge _ _ d
    have ek : k = i := by omega
    subst ek
    rw [e2] at hk
    rw [e2] at hr
    exact hk _ ⟨hr, hu.done h1 h3 hs1 hlo hhi⟩
  obtain ⟨mid, hm⟩ : ∃ mid, mid = (A + B) / 2 := ⟨_, rfl⟩
  rw [← hm]
  refine ⟨by decide, fun x _ => ∃ s0 r0 : Nat, x.1 = s0 ∧ x.2.1 = r0 ∧ ((M > mid ∧ s0 + B = mid + M ∧ r0 = mid) ∨ (M ≤ mid ∧ s0 = A ∧ r0 = M)), ?_, ?_⟩
  · have wn : IntKind.i64.wrap (IntKind.i64.wrap ((mid : Int) + M) - B) = ((mid + M - B : Nat) : Int) ∨ M ≤ mid := by
      by_cases q : M ≤ mid
      · exact .inr q
      · exact .inl (by rw [wi_small (x := (mid : Int) + M) (by omega) (by omega), wi_small (by omega) (by omega)]; omega)
    rintro _ rfl
    refine Br.intro (fun d => ?_) fun d => ?_
    · have d := dle _ _ d
      rcases wn with wn | wn
      · rw [wn]; exact ⟨rfl, _, _, rfl, rfl, .inl ⟨d, by omega, rfl⟩⟩
      · omega
    · have d := dge _ _ d
      exact ⟨rfl, _, _, rfl, rfl, .inr ⟨d, rfl, rfl⟩⟩
  rintro ⟨_, _, ⟨⟩⟩ _ ⟨s0, r0, rfl, rfl, h0⟩
  dsimp only
  have h00 : A ≤ s0 ∧ s0 ≤ r0 ∧ r0 ≤ M ∧ ∀ q, s0 ≤ q → q < r0 → M ≤ mid + M - 1 - q ∧ mid + M - 1 - q < B ∧ q ≤ mid + M - 1 := by
    rcases h0 with h0 | h0
    · exact ⟨by omega, by omega, by omega, fun q q1 q2 => by omega⟩
    · exact ⟨by omega, by omega, by omega, fun q q1 q2 => by omega⟩
  obtain ⟨h01, h02, h03, h04⟩ := h00
  refine ⟨rfl, fun x _ => ∃ s r : Nat, x.1 = s ∧ x.2.1 = r ∧ s0 ≤ s ∧ s ≤ r ∧ r ≤ r0 ∧ (∀ q, s0 ≤ q → q < s → keyB bed (at0 xs q) ≤ keyB bed (at0 xs (mid + M - 1 - q))) ∧ (∀ q, r ≤ q → q < r0 → keyB bed (at0 xs (mid + M - 1 - q)) < keyB bed (at0 xs q)), fun x _ => (x.2.1 - x.1).toNat, ⟨s0, r0, rfl, rfl, by omega, by omega, by omega, fun q q1 q2 => by omega, fun q q1 q2 => by omega⟩, ?_⟩
  rintro ⟨_, _, ⟨⟩⟩ _ ⟨s, r, rfl, rfl, h1, h2, h3, hlo, hhi⟩
  dsimp only
  rintro _ rfl
  refine Br.intro (fun d => ?_) fun d => ?_
  · have d := dle _ _ d
    obtain ⟨c, hc⟩ : ∃ c, (s + r) / 2 = c := ⟨_, rfl⟩
    obtain ⟨c1, c2, c3⟩ := h04 c (by omega) (by omega)
    have w3 : IntKind.i64.wrap (IntKind.i64.wrap (IntKind.i64.wrap ((mid : Int) + M) - 1) - c) = ((mid + M - 1 - c : Nat) : Int) := by
      rw [wi_small (x := (mid : Int) + M) (by omega) (by omega), wi_small (x := (mid : Int) + M - 1) (by omega) (by omega), wi_small (by omega) (by omega)]; omega
    rw [whalf s r (by omega) (by omega), hc, w3, Int.toNat_natCast, Int.toNat_natCast, Nat.zero_add, Nat.zero_add, wadd c (by omega)]
    refine ⟨by decide, ⟨by omega, by omega⟩, ⟨by omega, by omega⟩, bo.cmp (by omega) (by omega), ?_⟩
    rintro _ rfl
    rintro _ rfl
    refine Br.intro (fun q => ?_) fun q => ?_
    · have q : ¬ keyB bed (at0 xs (mid + M - 1 - c)) < keyB bed (at0 xs c) := fun w => by
        have : decide ((cmpBR (at0 xs (mid + M - 1 - c)) (at0 xs c) (some bed)).fst < 0) = true := decide_eq_true ((cmpB_neg _ _ _).2 w)
        unfold at0 at this
        rw [this] at q; exact absurd q (by decide)
      refine ⟨rfl, ⟨c + 1, r, rfl, rfl, by omega, by omega, h3, fun p p1 p2 => ?_, hhi⟩, by omega⟩
      have := sgm_le hs1 (i := p) (j := c) (by omega) (by omega) (by omega)
      have := sgm_le hs2 (i := mid + M - 1 - c) (j := mid + M - 1 - p) (by omega) (by omega) (h04 p p1 (by omega)).2.1
      omega
    · have q : keyB bed (at0 xs (mid + M - 1 - c)) < keyB bed (at0 xs c) := (cmpB_neg _ _ _).1 (by
        have q : decide ((cmpBR (at0 xs (mid + M - 1 - c)) (at0 xs c) (some bed)).fst < 0) = true := by simpa using q
        exact of_decide_eq_true q)
      refine ⟨rfl, ⟨s, c, rfl, rfl, h1, by omega, by omega, hlo, fun p p1 p2 => ?_⟩, by omega⟩
      have := sgm_le hs1 (i := c) (j := p) (by omega) (by omega) (by omega)
      have := sgm_le hs2 (i := mid + M - 1 - p) (j := mid + M - 1 - c) (h04 p (by omega) p2).1 (by omega) (by omega)
      omega
  have d := dge _ _ d
  have sr : s = r := by omega
  subst sr
  have cd := cutd hm ham hmb h0 hs1 hs2 h1 h3 hlo hhi
  obtain ⟨l1, l2, l3, l4⟩ := cd.le
  have we : IntKind.i64.wrap (IntKind.i64.wrap ((mid : Int) + M) - s) = ((mid + M - s : Nat) : Int) := by rw [wi_small (x := (mid : Int) + M) (by omega) (by omega), wi_small (by omega) (by omega)]; omega
  rw [we]
  have smid : A ≤ s ∧ s ≤ mid ∧ mid < B ∧ A < mid ∧ mid ≤ mid + M - s := by omega
  refine ⟨fun _ y => Trnd (keyB bed) xs y.1 A M B s (mid + M - s) mid, ?_, ?_⟩
  · have same : s = M ∨ M = mid + M - s → Trnd (keyB bed) xs xs A M B s (mid + M - s) mid := fun q => trnd cd hm ham hmb hb hs1 hs2 (.refl _) (cutd_same l2 l3 q).symm
    rintro _ rfl
    refine Br.intro (fun d => ?_) fun d => ⟨rfl, same (.inl (by have := dge _ _ d; omega))⟩
    have d := dle _ _ d
    rintro _ rfl
    refine Br.intro (fun d2 => ?_) fun d2 => ⟨rfl, same (.inr (by have := dge _ _ d2; omega))⟩
    have d2 := dle _ _ d2
    refine ⟨⟨rfl, rfl, hmx, by omega, by omega, by omega, by omega⟩, ?_⟩
    simp only [Int.toNat_natCast]
    rintro ys ⟨q1, q2⟩
    exact ⟨rfl, trnd cd hm ham hmb hb hs1 hs2 q2 q1⟩
  rintro _ ⟨y, ⟨⟩⟩ ⟨hr, g1, g2, g3, g4, cr⟩
  dsimp only at hr g1 g2 g3 g4 cr ⊢
  have ly := hr.len
  simp only [Int.toNat_natCast]
  have gA : s = A → Sgm (keyB bed) y A mid := fun e => by rw [← e]; exact g2
  have gM : s = mid → Sgm (keyB bed) y A mid := fun e => by rw [← e]; exact g1
  refine ⟨fun _ y => Rr (keyB bed) A B xs y.1 ∧ Sgm (keyB bed) y.1 A mid ∧ Sgm (keyB bed) y.1 mid (mid + M - s) ∧ Sgm (keyB bed) y.1 (mid + M - s) B ∧ Crs (keyB bed) y.1 A mid B, ?_, ?_⟩
  · rintro _ rfl
    refine Br.intro (fun d => ?_) fun d => ⟨rfl, hr, gA (by have := dge _ _ d; omega), g3, g4, cr⟩
    have d := dle _ _ d
    rintro _ rfl
    refine Br.intro (fun d2 => ?_) fun d2 => ⟨rfl, hr, gM (by have := dge _ _ d2; omega), g3, g4, cr⟩
    have d2 := dle _ _ d2
    refine ⟨⟨by trivial, by trivial, ly.symm, bo.perm hr.perm, by omega, by omega, by omega, by omega, by omega, g1, g2⟩, ?_⟩
    rintro ys ⟨q1, q2⟩
    exact ⟨rfl, hr.trans (q1.wide (Nat.le_refl _) (by omega)), q2, q1.sgm g3 (.inr (Nat.le_refl _)), q1.sgm g4 (.inr (by omega)), cr.left q1⟩
  clear gA gM hr g1 g2 g3 g4 cr ly
  rintro _ ⟨y, ⟨⟩⟩ ⟨hr, g1, g3, g4, cr⟩
  dsimp only at hr g1 g3 g4 cr ⊢
  have ly := hr.len
  rintro _ rfl
  refine Br.intro (fun d => ?_) fun d => hk _ ⟨hr, by
    have := dge _ _ d
    have e : mid + M - s = mid := by omega
    rw [e] at g4
    exact cr.join g1 g4⟩
  have d := dle _ _ d
  rintro _ rfl
  refine Br.intro (fun d2 => ?_) fun d2 => hk _ ⟨hr, by
    have := dge _ _ d2
    have e : mid + M - s = B := by omega
    rw [e] at g3
    exact cr.join g1 g3⟩
  have d2 := dle _ _ d2
  refine ⟨⟨by trivial, by trivial, ly.symm, bo.perm hr.perm, by omega, by omega, by omega, by omega, by omega, g3, g4⟩, ?_⟩
  rintro ys ⟨q1, q2⟩
  exact hk _ ⟨hr.trans (q1.wide (by omega) (Nat.le_refl _)), (cr.right q1).join (q1.sgm g1 (.inl (Nat.le_refl _))) q2⟩
def Fx_st_stb := fun (ty3 fn72 : Nat) (m : Md) (tb N : Nat) (bed : List Nat) (xs : List Int) (n : Int) (k : EV → List HObj → Prop) => HIs [HObj.box m tb [SV.data (K.flt
  Go.FloatKind.f64).slice bed], HObj.row Md.rw ty3 (K.int IntKind.i64) xs] [HObj.box m tb [SV.data (K.flt Go.FloatKind.f64).slice bed], HObj.row Md.rw ty3 (K.int IntKind.i64) xs] ∧
  ∃ (I : Int × Int × Unit → List Int × Unit → Prop), ∃ (μ : Int × Int × Unit → List Int × Unit → Nat), I ((0 : Int), (20 : Int), ()) (xs, ()) ∧ ∀ (x : Int × Int × Unit) (y : List
  Int × Unit), I x y → ∀ (a : Bool), a = decide (x.snd.fst ≤ n) → Br a (∃ (x_3 : (ty3 = ty3) ∧ (fn72 = fn72) ∧ xs.length = y.fst.length ∧ BedOk bed y.fst ∧ (0 : Int) ≤ x.fst ∧ x.fst
  ≤ x.snd.fst ∧ x.snd.fst ≤ (↑y.fst.length : Int)), ∀ (ys : List Int), Rr (keyB bed) x.fst.toNat x.snd.fst.toNat y.fst ys ∧ Sgm (keyB bed) ys x.fst.toNat x.snd.fst.toNat → HIs
  [HObj.box m tb [SV.data (K.flt Go.FloatKind.f64).slice bed], HObj.row Md.rw ty3 (K.int IntKind.i64) ys] [HObj.box m tb [SV.data (K.flt Go.FloatKind.f64).slice bed], HObj.row Md.rw
  ty3 (K.int IntKind.i64) ys] ∧ I (x.snd.fst, IntKind.i64.wrap (x.snd.fst + (20 : Int)), ()) (ys, ()) ∧ μ (x.snd.fst, IntKind.i64.wrap (x.snd.fst + (20 : Int)), ()) (ys, ()) < μ x
  y) (∃ (x_3 : (ty3 = ty3) ∧ (fn72 = fn72) ∧ xs.length = y.fst.length ∧ BedOk bed y.fst ∧ (0 : Int) ≤ x.fst ∧ x.fst ≤ n ∧ n ≤ (↑y.fst.length : Int)), ∀ (ys : List Int), Rr (keyB
  bed) x.fst.toNat n.toNat y.fst ys ∧ Sgm (keyB bed) ys x.fst.toNat n.toNat → HIs [HObj.box m tb [SV.data (K.flt Go.FloatKind.f64).slice bed], HObj.row Md.rw ty3 (K.int IntKind.i64)
  ys] [HObj.box m tb [SV.data (K.flt Go.FloatKind.f64).slice bed], HObj.row Md.rw ty3 (K.int IntKind.i64) ys] ∧ ∃ (I : Int × Unit → List Int × Unit → Prop), ∃ (μ : Int × Unit → List
  Int × Unit → Nat), I ((20 : Int), ()) (ys, ()) ∧ ∀ (x : Int × Unit) (y : List Int × Unit), I x y → ∀ (a : Bool), a = decide (x.fst < n) → Br a (HIs [HObj.box m tb [SV.data (K.flt
  Go.FloatKind.f64).slice bed], HObj.row Md.rw ty3 (K.int IntKind.i64) y.fst] [HObj.box m tb [SV.data (K.flt Go.FloatKind.f64).slice bed], HObj.row Md.rw ty3 (K.int IntKind.i64)
  y.fst] ∧ ∃ (I_1 : Int × Int × Unit → List Int × Unit → Prop), ∃ (μ_1 : Int × Int × Unit → List Int × Unit → Nat), I_1 ((0 : Int), IntKind.i64.wrap ((2 : Int) * x.fst), ()) (y.fst,
  ()) ∧ ∀ (x_6 : Int × Int × Unit) (y_1 : List Int × Unit), I_1 x_6 y_1 → ∀ (a : Bool), a = decide (x_6.snd.fst ≤ n) → Br a (∃ (x_9 : (ty3 = ty3) ∧ (fn72 = fn72) ∧ xs.length =
  y_1.fst.length ∧ BedOk bed y_1.fst ∧ (0 : Int) ≤ x_6.fst ∧ x_6.fst < IntKind.i64.wrap (x_6.fst + x.fst) ∧ IntKind.i64.wrap (x_6.fst + x.fst) < x_6.snd.fst ∧ x_6.snd.fst ≤
  (↑y_1.fst.length : Int) ∧ (x_6.snd.fst - x_6.fst).toNat < N ∧ Sgm (keyB bed) y_1.fst x_6.fst.toNat (IntKind.i64.wrap (x_6.fst + x.fst)).toNat ∧ Sgm (keyB bed) y_1.fst
  (IntKind.i64.wrap (x_6.fst + x.fst)).toNat x_6.snd.fst.toNat), ∀ (ys : List Int), Rr (keyB bed) x_6.fst.toNat x_6.snd.fst.toNat y_1.fst ys ∧ Sgm (keyB bed) ys x_6.fst.toNat
  x_6.snd.fst.toNat → HIs [HObj.box m tb [SV.data (K.flt Go.FloatKind.f64).slice bed], HObj.row Md.rw ty3 (K.int IntKind.i64) ys] [HObj.box m tb [SV.data (K.flt
  Go.FloatKind.f64).slice bed], HObj.row Md.rw ty3 (K.int IntKind.i64) ys] ∧ I_1 (x_6.snd.fst, IntKind.i64.wrap (x_6.snd.fst + IntKind.i64.wrap ((2 : Int) * x.fst)), ()) (ys, ()) ∧
  μ_1 (x_6.snd.fst, IntKind.i64.wrap (x_6.snd.fst + IntKind.i64.wrap ((2 : Int) * x.fst)), ()) (ys, ()) < μ_1 x_6 y_1) (∃ (post : Int × Unit → List Int × Unit → Prop), (∀ (a :
  Bool), a = decide (IntKind.i64.wrap (x_6.fst + x.fst) < n) → Br a (∃ (x_10 : (ty3 = ty3) ∧ (fn72 = fn72) ∧ xs.length = y_1.fst.length ∧ BedOk bed y_1.fst ∧ (0 : Int) ≤ x_6.fst ∧
  x_6.fst < IntKind.i64.wrap (x_6.fst + x.fst) ∧ IntKind.i64.wrap (x_6.fst + x.fst) < n ∧ n ≤ (↑y_1.fst.length : Int) ∧ (n - x_6.fst).toNat < N ∧ Sgm (keyB bed) y_1.fst
  x_6.fst.toNat (IntKind.i64.wrap (x_6.fst + x.fst)).toNat ∧ Sgm (keyB bed) y_1.fst (IntKind.i64.wrap (x_6.fst + x.fst)).toNat n.toNat), ∀ (ys : List Int), Rr (keyB bed)
  x_6.fst.toNat n.toNat y_1.fst ys ∧ Sgm (keyB bed) ys x_6.fst.toNat n.toNat → HIs [HObj.box m tb [SV.data (K.flt Go.FloatKind.f64).slice bed], HObj.row Md.rw ty3 (K.int
  IntKind.i64) ys] [HObj.box m tb [SV.data (K.flt Go.FloatKind.f64).slice bed], HObj.row Md.rw ty3 (K.int IntKind.i64) ys] ∧ post (x.fst, ()) (ys, ())) (HIs [HObj.box m tb [SV.data
  (K.flt Go.FloatKind.f64).slice bed], HObj.row Md.rw ty3 (K.int IntKind.i64) y_1.fst] [HObj.box m tb [SV.data (K.flt Go.FloatKind.f64).slice bed], HObj.row Md.rw ty3 (K.int
  IntKind.i64) y_1.fst] ∧ post (x.fst, ()) (y_1.fst, ()))) ∧ ∀ (x_9 : Int × Unit) (y_2 : List Int × Unit), post x_9 y_2 → HIs [HObj.box m tb [SV.data (K.flt Go.FloatKind.f64).slice
  bed], HObj.row Md.rw ty3 (K.int IntKind.i64) y_2.fst] [HObj.box m tb [SV.data (K.flt Go.FloatKind.f64).slice bed], HObj.row Md.rw ty3 (K.int IntKind.i64) y_2.fst] ∧ I
  (IntKind.i64.wrap (x_9.fst * (2 : Int)), ()) (y_2.fst, ()) ∧ μ (IntKind.i64.wrap (x_9.fst * (2 : Int)), ()) (y_2.fst, ()) < μ x y)) (k (EV.tup []) [HObj.box m tb [SV.data (K.flt
  Go.FloatKind.f64).slice bed], HObj.row Md.rw ty3 (K.int IntKind.i64) y.fst]))
theorem Lx_st_stb (ty0 ty1 : Nat) (m : Md) (tb N : Nat) (bed : List Nat) (xs : List Int) (n : Int) (k : EV → List HObj → Prop) (h : BedOk bed xs ∧ n = (List.length xs : Int) ∧ List.length xs < N) (hk : ∀ ys : List Int, Rr (keyB bed) 0 n.toNat xs ys ∧ Sgm (keyB bed) ys 0 n.toNat → k (.tup []) [.box m tb [.data (.slice (.flt .f64)) bed], .row .rw ty0 (.int .i64) ys]) : Fx_st_stb ty0 ty1 m tb N bed xs n k := by
  unfold Fx_st_stb
  obtain ⟨bo, hn, hN⟩ := h
  have mx : maxN = 281474976710656 := rfl
  have hmx := bo.2.2
  obtain ⟨n0, hn0⟩ : ∃ n0, xs.length = n0 := ⟨_, rfl⟩
  rw [hn0] at hn hN hmx
  subst hn
  simp only [Int.toNat_natCast] at hk
  have dle : ∀ u v : Nat, decide ((u : Int) < v) = true → u < v := fun u v d => by have d : (u : Int) < v := of_decide_eq_true d; omega
  have dge : ∀ u v : Nat, decide ((u : Int) < v) = false → v ≤ u := fun u v d => by have d : ¬ (u : Int) < v := of_decide_eq_false d; omega
  have ele : ∀ u v : Nat, decide ((u : Int) ≤ v) = true → u ≤ v := fun u v d => by have d : (u : Int) ≤ v := of_decide_eq_true d; omega
  have ege : ∀ u v : Nat, decide ((u : Int) ≤ v) = false → v < u := fun u v d => by have d : ¬ (u : Int) ≤ v := of_decide_eq_false d; omega
  have wadd : ∀ u v : Nat, u ≤ 4 * n0 + 40 → v ≤ 4 * n0 + 40 → IntKind.i64.wrap ((u : Int) + v) = ((u + v : Nat) : Int) := fun u v h1 h2 => by rw [wi_small (by omega) (by omega)]; omega
  refine ⟨rfl, fun x y => ∃ q : Nat, x.1 = (q * 20 : Nat) ∧ x.2.1 = (q * 20 + 20 : Nat) ∧ q * 20 ≤ n0 ∧ Rr (keyB bed) 0 n0 xs y.1 ∧ ∀ q', q' < q → Sgm (keyB bed) y.1 (q' * 20) (q' * 20 + 20), fun x _ => n0 + 20 - x.1.toNat, ⟨0, rfl, rfl, by omega, .refl _ _ _, fun q' h => by omega⟩, ?_⟩
  rintro ⟨_, _, ⟨⟩⟩ ⟨y, ⟨⟩⟩ ⟨q, rfl, rfl, hq, hr, hs⟩
  dsimp only at hr hs ⊢
  have ly := hr.len
  rintro _ rfl
  refine Br.intro (fun d => ?_) fun d => ?_
  · have d := ele _ _ d
    rw [show IntKind.i64.wrap (((q * 20 + 20 : Nat) : Int) + 20) = ((q * 20 + 20 + 20 : Nat) : Int) from wadd (q * 20 + 20) 20 (by omega) (by omega)]
    refine ⟨⟨by trivial, by trivial, ly.symm, bo.perm hr.perm, by omega, by omega, by omega⟩, ?_⟩
    simp only [Int.toNat_natCast]
    rintro ys ⟨r1, r2⟩
    refine ⟨rfl, ⟨q + 1, by omega, by omega, by omega, hr.trans (r1.wide (by omega) d), fun q' h => ?_⟩, by omega⟩
    by_cases e : q' = q
    · subst e; exact r2
    · exact r1.sgm (hs q' (by omega)) (.inl (by omega))
  have d := ege _ _ d
  refine ⟨⟨by trivial, by trivial, ly.symm, bo.perm hr.perm, by omega, by omega, by omega⟩, ?_⟩
  simp only [Int.toNat_natCast]
  rintro ys ⟨r1, r2⟩
  have hr1 := hr.trans (r1.wide (Nat.zero_le _) (Nat.le_refl _))
  have hb0 : ∀ q', Sgm (keyB bed) ys (q' * 20) (min (q' * 20 + 20) n0) := fun q' => by
    by_cases e : q' = q
    · subst e; exact r2.sub (Nat.le_refl _) (by omega)
    · by_cases e2 : q' < q
      · exact (r1.sgm (hs q' e2) (.inl (by omega))).sub (Nat.le_refl _) (by omega)
      · exact .one (by omega)
  clear hr hs r1 r2 ly d hq
  refine ⟨rfl, fun x y => ∃ s : Nat, x.1 = s ∧ 0 < s ∧ s ≤ 2 * n0 + 20 ∧ Rr (keyB bed) 0 n0 xs y.1 ∧ ∀ q', Sgm (keyB bed) y.1 (q' * s) (min (q' * s + s) n0), fun x _ => n0 - x.1.toNat, ⟨20, rfl, by decide, by omega, hr1, hb0⟩, ?_⟩
  rintro ⟨_, ⟨⟩⟩ ⟨y, ⟨⟩⟩ ⟨s, rfl, hs0, hsn, hr, hb⟩
  dsimp only at hr hb ⊢
  clear hr1 hb0
  have ly := hr.len
  rintro _ rfl
  refine Br.intro (fun d => ?_) fun d => ?_
  rotate_left
  · have d := dge _ _ d
    have := hb 0
    rw [Nat.zero_mul, Nat.zero_add, Nat.min_eq_right d] at this
    exact hk _ ⟨hr, this⟩
  have d := dle _ _ d
  have w2 : IntKind.i64.wrap (2 * (s : Int)) = ((2 * s : Nat) : Int) := by rw [wi_small (by omega) (by omega)]; omega
  rw [w2]
  refine ⟨rfl, fun x y => ∃ q : Nat, x.1 = (q * (2 * s) : Nat) ∧ x.2.1 = (q * (2 * s) + 2 * s : Nat) ∧ q * (2 * s) ≤ n0 ∧ Rr (keyB bed) 0 n0 xs y.1 ∧ (∀ q', q' < q → Sgm (keyB bed) y.1 (q' * (2 * s)) (q' * (2 * s) + 2 * s)) ∧ ∀ q', 2 * q ≤ q' → Sgm (keyB bed) y.1 (q' * s) (min (q' * s + s) n0), fun x _ => n0 + 2 * s - x.1.toNat, ⟨0, by simp, by simp, by omega, hr, fun q' h => by omega, fun q' _ => hb q'⟩, ?_⟩
  rintro ⟨_, _, ⟨⟩⟩ ⟨z, ⟨⟩⟩ ⟨q, rfl, rfl, hq, hz, hd, ht⟩
  dsimp only at hz hd ht ⊢
  have lz := hz.len
  have ht0 := ht (2 * q) (Nat.le_refl _)
  have ht1 := ht (2 * q + 1) (by omega)
  have e0 : 2 * q * s = q * (2 * s) := by rw [Nat.mul_comm 2 q, Nat.mul_assoc]
  have e1 : (2 * q + 1) * s = q * (2 * s) + s := by rw [Nat.add_mul, e0, Nat.one_mul]
  have ep : ∀ q', q' * (2 * s) = 2 * q' * s := fun q' => by rw [Nat.mul_comm 2 q', Nat.mul_assoc]
  have en : (q + 1) * (2 * s) = q * (2 * s) + 2 * s := by rw [Nat.add_mul, Nat.one_mul]
  have lt : ∀ q', q' < q → q' * (2 * s) + 2 * s ≤ q * (2 * s) := fun q' h => by
    have := Nat.mul_le_mul_right (2 * s) (show q' + 1 ≤ q from h)
    rw [Nat.add_mul, Nat.one_mul] at this; exact this
  have gt : ∀ q', 2 * (q + 1) ≤ q' → q * (2 * s) + 2 * s ≤ q' * s := fun q' h => by
    have := Nat.mul_le_mul_right s h
    rw [← ep, en] at this; exact this
  rw [e0] at ht0
  rw [e1] at ht1
  obtain ⟨A, hA⟩ : ∃ A, q * (2 * s) = A := ⟨_, rfl⟩
  rw [hA] at ht0 ht1 hq en lt gt ⊢
  rw [wadd A s (by omega) (by omega)]
  rintro _ rfl
  refine Br.intro (fun d2 => ?_) fun d2 => ?_
  · have d2 := ele _ _ d2
    rw [wadd (A + 2 * s) (2 * s) (by omega) (by omega)]
    simp only [Int.toNat_natCast]
    rw [Nat.min_eq_left (by omega)] at ht0 ht1
    have f1 : A + s + s = A + 2 * s := by omega
    rw [f1] at ht1
    refine ⟨⟨by trivial, by trivial, lz.symm, bo.perm hz.perm, by omega, by omega, by omega, by omega, by omega, ht0, ht1⟩, ?_⟩
    rintro ys ⟨r1, r2⟩
    refine ⟨rfl, ⟨q + 1, by rw [en], by rw [en], by omega, hz.trans (r1.wide (Nat.zero_le _) d2), fun q' h => ?_, fun q' h => ?_⟩, by omega⟩
    · by_cases e : q' = q
      · subst e; rw [hA]; exact r2
      · have := lt q' (by omega)
        exact r1.sgm (hd q' (by omega)) (.inl (by omega))
    · have := gt q' h
      exact r1.sgm (ht q' (by omega)) (.inr (by omega))
  have d2 := ege _ _ d2
  have fin : ∀ ys, Rr (keyB bed) A n0 z ys → Sgm (keyB bed) ys A n0 → Rr (keyB bed) 0 n0 xs ys ∧ ∀ q', Sgm (keyB bed) ys (q' * (2 * s)) (min (q' * (2 * s) + 2 * s) n0) := fun ys r1 r2 => ⟨hz.trans (r1.wide (Nat.zero_le _) (Nat.le_refl _)), fun q' => by
    by_cases e : q' = q
    · subst e; rw [hA]; exact r2.sub (Nat.le_refl _) (by omega)
    · by_cases e2 : q' < q
      · have := lt q' e2
        exact (r1.sgm (hd q' e2) (.inl (by omega))).sub (Nat.le_refl _) (by omega)
      · have := lt
        have h3 := Nat.mul_le_mul_right (2 * s) (show q + 1 ≤ q' by omega)
        rw [en] at h3
        exact .one (by omega)⟩
  refine ⟨fun x y => x.1 = (s : Int) ∧ Rr (keyB bed) 0 n0 xs y.1 ∧ ∀ q', Sgm (keyB bed) y.1 (q' * (2 * s)) (min (q' * (2 * s) + 2 * s) n0), ?_, ?_⟩
  · rintro _ rfl
    refine Br.intro (fun d3 => ?_) fun d3 => ?_
    · have d3 := dle _ _ d3
      simp only [Int.toNat_natCast]
      rw [Nat.min_eq_left (by omega)] at ht0
      rw [Nat.min_eq_right (by omega)] at ht1
      refine ⟨⟨by trivial, by trivial, lz.symm, bo.perm hz.perm, by omega, by omega, by omega, by omega, by omega, ht0, ht1⟩, ?_⟩
      rintro ys ⟨r1, r2⟩
      exact ⟨rfl, by trivial, fin ys r1 r2⟩
    · have d3 := dge _ _ d3
      rw [Nat.min_eq_right (by omega)] at ht0
      exact ⟨rfl, by trivial, fin z (.refl _ _ _) ht0⟩
  rintro ⟨_, ⟨⟩⟩ ⟨w, ⟨⟩⟩ ⟨rfl, h1, h2⟩
  dsimp only at h1 h2 ⊢
  have w3 : IntKind.i64.wrap ((s : Int) * 2) = ((2 * s : Nat) : Int) := by rw [wi_small (by omega) (by omega)]; omega
  rw [w3]
  exact ⟨rfl, ⟨2 * s, rfl, by omega, by omega, h1, h2⟩, by omega⟩
def Fx_st_sort := fun (ty3 fn72 : Nat) (m : Md) (tb N : Nat) (bed : List Nat) (xs : List Int) (k : EV → List HObj → Prop) => ∃ (x : (ty3 = ty3) ∧ (fn72 = fn72) ∧ xs.length =
  xs.length ∧ BedOk bed xs ∧ (↑xs.length : Int) = (↑xs.length : Int)), ∀ (ys : List Int), Rr (keyB bed) (0 : Nat) xs.length xs ys ∧ Sgm (keyB bed) ys (0 : Nat) xs.length → k (EV.tup
  []) [HObj.box m tb [SV.data (K.flt Go.FloatKind.f64).slice bed], HObj.row Md.rw ty3 (K.int IntKind.i64) ys]
theorem Lx_st_sort (ty0 ty1 : Nat) (m : Md) (tb N : Nat) (bed : List Nat) (xs : List Int) (k : EV → List HObj → Prop) (h : BedOk bed xs) (hk : ∀ ys : List Int, Rr (keyB bed) 0 xs.length xs ys ∧ Sgm (keyB bed) ys 0 xs.length → k (.tup []) [.box m tb [.data (.slice (.flt .f64)) bed], .row .rw ty0 (.int .i64) ys]) : Fx_st_sort ty0 ty1 m tb N bed xs k := by
  refine ⟨⟨rfl, rfl, rfl, h, rfl⟩, ?_⟩
  rintro ys ⟨h1, h2⟩
  exact hk ys ⟨by simpa using h1, by simpa using h2⟩
end Go.Lift

set_option linter.unusedVariables false
namespace Go.Lift
open Go.Proofs
def Rbx_st : Cx := ⟨tabOf Rbtab, conOf [(72, Rbq_river_Order_c1)], RbG⟩
theorem Rbx_st_ok : CxOk Tryz.prog Rbx_st := ⟨tabB_sound Rbtab_ok, conOf_sound ⟨Rbh_river_Order_c1, trivial⟩⟩
def Rbhn_st_swap : Hn := { loops := hintH [(1, { ls := [(.slot 10, .data (.int .i64))], os := [(1, 3, .int .i64)] })], joins := fun _ => none, named := true }
theorem Rbat_st_swap : FnAt Tryz.prog 179 Tryz.f179.ntmps Tryz.f179.results.toList (Tryz.f179.body.getD .skip) := ⟨Tryz.f179, Tryz.func179, rfl, rfl, by simp, by decide⟩
theorem Rbeq_st_swap (m : Md) (tb : Nat) (cs : List SV) (xs : List Int) (a b n : Int) (fv : EV) (k : EV → List HObj → Prop) : enterE Rbx_st Rbhn_st_swap (noCall) Tryz.f179.ntmps Tryz.f179.results.toList (Tryz.f179.body.getD .skip) [.x (.one (.osl 1 0 (List.length xs))), .x (.one (.val (.int .i64 a))), .x (.one (.val (.int .i64 b))), .x (.one (.val (.int .i64 n))), fv] [.box m tb cs, .row .rw 3 (.int .i64) xs] k = Fx_st_swap 3 m tb cs xs a b n fv k := by kernel_rfl
theorem Rbev_st_swap : EvOk Tryz.prog Rbx_st 179 (swapEv 3) := (enterE_ok Rbx_st_ok Rbmixed noCall_ok Rbat_st_swap Rbhn_st_swap).of fun args hp k q => by
  unfold swapEv at q
  split at q
  · rename_i len a b n fv m tb cs t xs
    obtain ⟨⟨rfl, rfl, h⟩, hk⟩ := q
    have e := Rbeq_st_swap m tb cs xs a b n fv k
    have f := Lx_st_swap 3 m tb cs xs a b n fv k h hk
    first | (rw [e]; exact f) | exact Eq.mpr e f
  · exact q.elim
theorem Rbc2_ok : CallOk Tryz.prog Rbx_st (addEv 179 (swapEv 3) (noCall)) := addEv_ok Rbev_st_swap noCall_ok
def Rbhn_st_rot : Hn := { loops := hintH [(2, { ls := [(.slot 10, .data (.int .i64)), (.slot 11, .data (.int .i64))], os := [(1, 3, .int .i64)] })], joins := fun _ => none, named := true, inl := inlL [179] }
theorem Rbat_st_rot : FnAt Tryz.prog 165 Tryz.f165.ntmps Tryz.f165.results.toList (Tryz.f165.body.getD .skip) := ⟨Tryz.f165, Tryz.func165, rfl, rfl, by simp, by decide⟩
theorem Rbeq_st_rot (md : Md) (tb : Nat) (cs : List SV) (xs : List Int) (a m b : Int) (fv : EV) (k : EV → List HObj → Prop) : enterE Rbx_st Rbhn_st_rot (addEv 179 (swapEv 3) (noCall)) Tryz.f165.ntmps Tryz.f165.results.toList (Tryz.f165.body.getD .skip) [.x (.one (.osl 1 0 (List.length xs))), .x (.one (.val (.int .i64 a))), .x (.one (.val (.int .i64 m))), .x (.one (.val (.int .i64 b))), fv] [.box md tb cs, .row .rw 3 (.int .i64) xs] k = Fx_st_rot 3 md tb cs xs a m b fv k := by kernel_rfl
theorem Rbev_st_rot : EvOk Tryz.prog Rbx_st 165 (rotEv 3) := (enterE_ok Rbx_st_ok Rbmixed Rbc2_ok Rbat_st_rot Rbhn_st_rot).of fun args hp k q => by
  unfold rotEv at q
  split at q
  · rename_i len a m b fv md tb cs t xs
    obtain ⟨⟨rfl, rfl, h⟩, hk⟩ := q
    have e := Rbeq_st_rot md tb cs xs a m b fv k
    have f := Lx_st_rot 3 md tb cs xs a m b fv k h hk
    first | (rw [e]; exact f) | exact Eq.mpr e f
  · exact q.elim
theorem Rbc3_ok : CallOk Tryz.prog Rbx_st (addEv 165 (rotEv 3) (addEv 179 (swapEv 3) (noCall))) := addEv_ok Rbev_st_rot Rbc2_ok
def Rbhn_st_ins : Hn := { loops := hintH [(1, { ls := [(.slot 8, .data (.int .i64))], os := [(1, 3, .int .i64)] }), (4, { ls := [(.slot 9, .data (.int .i64))], os := [(1, 3, .int .i64)] })], joins := fun _ => none, named := true, inl := fun _ => false }
theorem Rbat_st_ins : FnAt Tryz.prog 138 Tryz.f138.ntmps Tryz.f138.results.toList (Tryz.f138.body.getD .skip) := ⟨Tryz.f138, Tryz.func138, rfl, rfl, by simp, by decide⟩
theorem Rbeq_st_ins (m : Md) (tb : Nat) (bed : List Nat) (xs : List Int) (a b : Int) (k : EV → List HObj → Prop) : enterE Rbx_st Rbhn_st_ins (noCall) Tryz.f138.ntmps Tryz.f138.results.toList (Tryz.f138.body.getD .skip) [.x (.one (.osl 1 0 (List.length xs))), .x (.one (.val (.int .i64 a))), .x (.one (.val (.int .i64 b))), .x (.one (.clo 72 [] [.ref 0 0]))] [.box m tb [.data (.slice (.flt .f64)) bed], .row .rw 3 (.int .i64) xs] k = Fx_st_ins 3 m tb bed xs a b k := by kernel_rfl
theorem Rbev_st_ins : EvOk Tryz.prog Rbx_st 138 (insEv 3 72) := (enterE_ok Rbx_st_ok Rbmixed noCall_ok Rbat_st_ins Rbhn_st_ins).of fun args hp k q => by
  unfold insEv at q
  split at q
  · rename_i len a b f m tb bed t xs
    obtain ⟨⟨rfl, rfl, rfl, h⟩, hk⟩ := q
    have e := Rbeq_st_ins m tb bed xs a b k
    have f := Lx_st_ins 3 m tb bed xs a b k h hk
    first | (rw [e]; exact f) | exact Eq.mpr e f
  · exact q.elim
theorem Rbc4_ok : CallOk Tryz.prog Rbx_st (addEv 138 (insEv 3 72) (addEv 165 (rotEv 3) (addEv 179 (swapEv 3) (noCall)))) := addEv_ok Rbev_st_ins Rbc3_ok
def Rbhn_st_sym : Hn := { loops := hintH [(3, { ls := [(.slot 10, .data (.int .i64)), (.slot 11, .data (.int .i64))], os := [] }), (9, { ls := [(.slot 13, .data (.int .i64))], os := [(1, 3, .int .i64)] }), (15, { ls := [(.slot 14, .data (.int .i64)), (.slot 15, .data (.int .i64))], os := [] }), (21, { ls := [(.slot 17, .data (.int .i64))], os := [(1, 3, .int .i64)] }), (33, { ls := [(.slot 20, .data (.int .i64)), (.slot 21, .data (.int .i64))], os := [] })], joins := hintH [(32, { ls := [(.slot 20, .data (.int .i64)), (.slot 21, .data (.int .i64))], os := [] }), (41, { ls := [], os := [(1, 3, .int .i64)] }), (43, { ls := [], os := [(1, 3, .int .i64)] })], named := true, inl := inlL [165, 139] }
theorem Rbat_st_sym : FnAt Tryz.prog 139 Tryz.f139.ntmps Tryz.f139.results.toList (Tryz.f139.body.getD .skip) := ⟨Tryz.f139, Tryz.func139, rfl, rfl, by simp, by decide⟩
theorem Rbeq_st_sym (md : Md) (tb N : Nat) (bed : List Nat) (xs : List Int) (a m b : Int) (k : EV → List HObj → Prop) : enterE Rbx_st Rbhn_st_sym (addEv 139 (symEv 3 72 N) (addEv 138 (insEv 3 72) (addEv 165 (rotEv 3) (addEv 179 (swapEv 3) (noCall))))) Tryz.f139.ntmps Tryz.f139.results.toList (Tryz.f139.body.getD .skip) [.x (.one (.osl 1 0 (List.length xs))), .x (.one (.val (.int .i64 a))), .x (.one (.val (.int .i64 m))), .x (.one (.val (.int .i64 b))), .x (.one (.clo 72 [] [.ref 0 0]))] [.box md tb [.data (.slice (.flt .f64)) bed], .row .rw 3 (.int .i64) xs] k = Fx_st_sym 3 72 md tb N bed xs a m b k := by kernel_rfl
theorem Rbev_st_sym : ∀ N, EvOk Tryz.prog Rbx_st 139 (symEv 3 72 N)
  | 0 => fun c hi hg args vs k hall q => by
    unfold symEv at q
    split at q
    · obtain ⟨⟨_, _, _, _, _, _, _, _, hN, _⟩, _⟩ := q
      exact absurd hN (Nat.not_lt_zero _)
    · exact q.elim
  | N + 1 => (enterE_ok Rbx_st_ok Rbmixed (addEv_ok (Rbev_st_sym N) Rbc4_ok) Rbat_st_sym Rbhn_st_sym).of fun args hp k q => by
    unfold symEv at q
    split at q
    · rename_i len a m b f md tb bed t xs
      obtain ⟨⟨rfl, rfl, rfl, h⟩, hk⟩ := q
      have e := Rbeq_st_sym md tb N bed xs a m b k
      have f := Lx_st_sym 3 72 md tb N bed xs a m b k h hk
      first | (rw [e]; exact f) | exact Eq.mpr e f
    · exact q.elim
theorem Rbc5_ok (N : Nat) : CallOk Tryz.prog Rbx_st (addEv 139 (symEv 3 72 N) (addEv 138 (insEv 3 72) (addEv 165 (rotEv 3) (addEv 179 (swapEv 3) (noCall))))) := addEv_ok (Rbev_st_sym N) Rbc4_ok
def Rbhn_st_stb : Hn := { loops := hintH [(2, { ls := [(.slot 7, .data (.int .i64)), (.slot 8, .data (.int .i64))], os := [(1, 3, .int .i64)] }), (7, { ls := [(.slot 6, .data (.int .i64))], os := [(1, 3, .int .i64)] }), (9, { ls := [(.slot 7, .data (.int .i64)), (.slot 8, .data (.int .i64))], os := [(1, 3, .int .i64)] })], joins := hintH [(16, { ls := [(.slot 6, .data (.int .i64))], os := [(1, 3, .int .i64)] })], named := true, inl := inlL [138, 139] }
theorem Rbat_st_stb : FnAt Tryz.prog 111 Tryz.f111.ntmps Tryz.f111.results.toList (Tryz.f111.body.getD .skip) := ⟨Tryz.f111, Tryz.func111, rfl, rfl, by simp, by decide⟩
theorem Rbeq_st_stb (m : Md) (tb N : Nat) (bed : List Nat) (xs : List Int) (n : Int) (k : EV → List HObj → Prop) : enterE Rbx_st Rbhn_st_stb (addEv 139 (symEv 3 72 N) (addEv 138 (insEv 3 72) (addEv 165 (rotEv 3) (addEv 179 (swapEv 3) (noCall))))) Tryz.f111.ntmps Tryz.f111.results.toList (Tryz.f111.body.getD .skip) [.x (.one (.osl 1 0 (List.length xs))), .x (.one (.val (.int .i64 n))), .x (.one (.clo 72 [] [.ref 0 0]))] [.box m tb [.data (.slice (.flt .f64)) bed], .row .rw 3 (.int .i64) xs] k = Fx_st_stb 3 72 m tb N bed xs n k := by kernel_rfl
theorem Rbev_st_stb : EvOk Tryz.prog Rbx_st 111 (stbEv 3 72) := .ofN (fun N => enterE_ok Rbx_st_ok Rbmixed (Rbc5_ok N) Rbat_st_stb Rbhn_st_stb) fun args hp k q => by
  unfold stbEv at q
  split at q
  · rename_i len n f m tb bed t xs
    obtain ⟨⟨rfl, rfl, rfl, h1, h2⟩, hk⟩ := q
    refine ⟨List.length xs + 1, ?_⟩
    have e := Rbeq_st_stb m tb (List.length xs + 1) bed xs n k
    have f := Lx_st_stb 3 72 m tb (List.length xs + 1) bed xs n k ⟨h1, h2, Nat.lt_succ_self _⟩ hk
    first | (rw [e]; exact f) | exact Eq.mpr e f
  · exact q.elim
theorem Rbc6_ok (N : Nat) : CallOk Tryz.prog Rbx_st (addEv 111 (stbEv 3 72) (addEv 139 (symEv 3 72 N) (addEv 138 (insEv 3 72) (addEv 165 (rotEv 3) (addEv 179 (swapEv 3) (noCall)))))) := addEv_ok Rbev_st_stb (Rbc5_ok N)
def Rbhn_st_sort : Hn := { loops := fun _ => none, joins := fun _ => none, named := true, inl := inlL [111] }
theorem Rbat_st_sort : FnAt Tryz.prog 71 Tryz.f71.ntmps Tryz.f71.results.toList (Tryz.f71.body.getD .skip) := ⟨Tryz.f71, Tryz.func71, rfl, rfl, by simp, by decide⟩
theorem Rbeq_st_sort (m : Md) (tb N : Nat) (bed : List Nat) (xs : List Int) (k : EV → List HObj → Prop) : enterE Rbx_st Rbhn_st_sort (addEv 111 (stbEv 3 72) (addEv 139 (symEv 3 72 N) (addEv 138 (insEv 3 72) (addEv 165 (rotEv 3) (addEv 179 (swapEv 3) (noCall)))))) Tryz.f71.ntmps Tryz.f71.results.toList (Tryz.f71.body.getD .skip) [.x (.one (.osl 1 0 (List.length xs))), .x (.one (.clo 72 [] [.ref 0 0]))] [.box m tb [.data (.slice (.flt .f64)) bed], .row .rw 3 (.int .i64) xs] k = Fx_st_sort 3 72 m tb N bed xs k := by kernel_rfl
theorem Rbev_st_sort : EvOk Tryz.prog Rbx_st 71 (sortEv 3 72) := (enterE_ok Rbx_st_ok Rbmixed (Rbc6_ok 0) Rbat_st_sort Rbhn_st_sort).of fun args hp k q => by
  unfold sortEv at q
  split at q
  · rename_i len f m tb bed t xs
    obtain ⟨⟨rfl, rfl, rfl, h⟩, hk⟩ := q
    have e := Rbeq_st_sort m tb 0 bed xs k
    have f := Lx_st_sort 3 72 m tb 0 bed xs k h hk
    first | (rw [e]; exact f) | exact Eq.mpr e f
  · exact q.elim
theorem Rbc7_ok : CallOk Tryz.prog Rbx_st (addEv 71 (sortEv 3 72) noCall) := addEv_ok Rbev_st_sort noCall_ok
end Go.Lift

set_option linter.unusedVariables false
set_option linter.unusedSimpArgs false
namespace Go.Lift
open Go.Proofs
def Rbq_river_Order : Con := Con.nam [.slice (.flt .f64)] [.own 3 (.int .i64)] (fun x => WOrd x.1) (fun x => ordLR x.1)
def Rbhn_river_Order : Hn := { loops := hintH [(3, { ls := [(.slot 10, .data (.int .i64))], os := [(1, 3, .int .i64)] })], joins := fun _ => none, named := true, inl := inlL [71] }
abbrev Rbx_river_Order : Cx := Rbx_st
theorem Rbx_river_Order_ok : CxOk Tryz.prog Rbx_river_Order := Rbx_st_ok
theorem Rbat_river_Order : FnAt Tryz.prog 29 Tryz.f29.ntmps Tryz.f29.results.toList (Tryz.f29.body.getD .skip) := ⟨Tryz.f29, Tryz.func29, rfl, rfl, by simp, by decide⟩
theorem Rbeq_river_Order (bed : List Nat) (post : (List Int) × Unit → Prop) : fnEvalI Rbx_st Rbhn_river_Order (addEv 71 (sortEv 3 72) noCall) Tryz.f29.ntmps Tryz.f29.results.toList (Tryz.f29.body.getD .skip) [.slice (.flt .f64)] [.own 3 (.int .i64)] (bed, ()) post = Fx_river_Order 37 3 bed post := by kernel_rfl
theorem Rbh_river_Order : Rbq_river_Order.holds Tryz.prog RbG 29 :=
  nam_of_det (detPI Rbx_river_Order_ok Rbmixed Rbhn_river_Order Rbc7_ok Rbat_river_Order (F := fun x post => Fx_river_Order 37 3 x.1 post) (fun x post => Rbeq_river_Order x.1 post) fun x h _ => Lx_river_Order 37 3 x.1 h)
end Go.Lift

set_option linter.unusedVariables false
set_option linter.unusedSimpArgs false
namespace Go.Lift
def Fx_mbits_Mul64 := F18
theorem Lx_mbits_Mul64 (a : Int) (b : Int) (h : WU2 a b) : Fx_mbits_Mul64  a b (fun r => r = mulR2 a b) := by
  exact mul64_eval h.1.1 h.1.2 h.2.1 h.2.2 rfl
def Fx_mbits_Div64 := F19
theorem Lx_mbits_Div64 (a : Int) (b : Int) (c : Int) (h : WDiv a b c) : Fx_mbits_Div64  a b c (fun r => r = divR2 a b c) := by
  obtain ⟨ha, hb, hc, hac⟩ := h
  have hc0 : (0 : Int) < c := Int.lt_of_le_of_lt ha.1 hac
  obtain ⟨s0, s1, s2, s3⟩ := lz_norm hc0 hc.2
  exact div64_eval (a := a) (b := b) (c := c) rfl hc s0 s1 s2 s3 ha.1 hac hb.1 hb.2 rfl
def Fx_share_Part := F12
theorem Lx_share_Part (a : Int) (b : Int) (c : Int) (h : III a b c) : Fx_share_Part  a b c (fun r => r = prtR a b c) := by
  exact part_eval h.1 h.2.1 h.2.2 rfl
end Go.Lift

set_option linter.unusedVariables false
set_option linter.unusedSimpArgs false
namespace Go.Lift
open Go.Proofs
def Rbq_mbits_Mul64 : Con := .det [.int .u64, .int .u64] [.snap (.int .u64), .snap (.int .u64)] (fun x => WU2 x.1 x.2.1) (fun x => mulR2 x.1 x.2.1)
def Rbx_mbits_Mul64 : Cx := ⟨tabOf Rbtab, conOf [], RbG⟩
theorem Rbx_mbits_Mul64_ok : CxOk Tryz.prog Rbx_mbits_Mul64 := ⟨tabB_sound Rbtab_ok, fun f c h => by cases h⟩
theorem Rbat_mbits_Mul64 : FnAt Tryz.prog 91 Tryz.f91.ntmps Tryz.f91.results.toList (Tryz.f91.body.getD .skip) := ⟨Tryz.f91, Tryz.func91, rfl, rfl, by simp, by decide⟩
theorem Rbeq_mbits_Mul64 (a : Int) (b : Int) (post : Int × Int × Unit → Prop) : fnEval Rbx_mbits_Mul64 nHn Tryz.f91.ntmps Tryz.f91.results.toList (Tryz.f91.body.getD .skip) [.int .u64, .int .u64] [.snap (.int .u64), .snap (.int .u64)] (a, b, ()) post = Fx_mbits_Mul64  a b post := by kernel_rfl
theorem Rbh_mbits_Mul64 : Rbq_mbits_Mul64.holds Tryz.prog RbG 91 :=
  detP Rbx_mbits_Mul64_ok Rbmixed nHn Rbat_mbits_Mul64 (F := fun x post => Fx_mbits_Mul64  x.1 x.2.1 post) (fun x post => Rbeq_mbits_Mul64 x.1 x.2.1 post) fun x h _ => Lx_mbits_Mul64  x.1 x.2.1 h
def Rbq_mbits_LeadingZeros64 : Con := .det [.int .u64] [.snap (.int .i64)] (fun x => U64 x.1) (fun x => lzR x.1)
def Rby_len : Cx := ⟨tabOf Rbtab, fun _ => none, RbG⟩
theorem Rby_len_ok : CxOk Tryz.prog Rby_len := ⟨tabB_sound Rbtab_ok, fun f c h => by cases h⟩
def Rbq_len64 : Con := .det [.int .u64] [.snap (.int .i64)] (fun x => U64 x.1) (fun x => (len64 x.1, ()))
theorem Rbat_len64 : FnAt Tryz.prog 147 Tryz.f147.ntmps Tryz.f147.results.toList (Tryz.f147.body.getD .skip) := ⟨Tryz.f147, Tryz.func147, rfl, rfl, by simp, by decide⟩
theorem Rbeq_len64 (a : Int) (post : Int × Unit → Prop) : fnEval Rby_len noHnP Tryz.f147.ntmps Tryz.f147.results.toList (Tryz.f147.body.getD .skip) [.int .u64] [.snap (.int .i64)] (a, ()) post = F22 a post := by kernel_rfl
theorem Rbh_len64 : Rbq_len64.holds Tryz.prog RbG 147 := detP Rby_len_ok Rbmixed noHnP Rbat_len64 (F := fun x post => F22 x.1 post) (fun x post => Rbeq_len64 x.1 post) fun x h _ => len64_eval h.1 h.2 rfl
def Rbx_mbits_LeadingZeros64 : Cx := ⟨tabOf Rbtab, conOf [(147, Rbq_len64)], RbG⟩
theorem Rbx_mbits_LeadingZeros64_ok : CxOk Tryz.prog Rbx_mbits_LeadingZeros64 := ⟨tabB_sound Rbtab_ok, conOf_sound ⟨Rbh_len64, trivial⟩⟩
theorem Rbat_mbits_LeadingZeros64 : FnAt Tryz.prog 121 Tryz.f121.ntmps Tryz.f121.results.toList (Tryz.f121.body.getD .skip) := ⟨Tryz.f121, Tryz.func121, rfl, rfl, by simp, by decide⟩
theorem Rbeq_mbits_LeadingZeros64 (a : Int) (post : Int × Unit → Prop) : fnEval Rbx_mbits_LeadingZeros64 noHnP Tryz.f121.ntmps Tryz.f121.results.toList (Tryz.f121.body.getD .skip) [.int .u64] [.snap (.int .i64)] (a, ()) post = F21 a post := by kernel_rfl
theorem Rbh_mbits_LeadingZeros64 : Rbq_mbits_LeadingZeros64.holds Tryz.prog RbG 121 := detP Rbx_mbits_LeadingZeros64_ok Rbmixed noHnP Rbat_mbits_LeadingZeros64 (F := fun x post => F21 x.1 post) (fun x post => Rbeq_mbits_LeadingZeros64 x.1 post) fun x h _ => lz_eval h
def Rbq_mbits_Div64 : Con := .det [.int .u64, .int .u64, .int .u64] [.snap (.int .u64), .snap (.int .u64)] (fun x => WDiv x.1 x.2.1 x.2.2.1) (fun x => divR2 x.1 x.2.1 x.2.2.1)
def Rbhn_mbits_Div64 : Hn := hn19
def Rbx_mbits_Div64 : Cx := ⟨tabOf Rbtab, conOf [(121, Rbq_mbits_LeadingZeros64)], RbG⟩
theorem Rbx_mbits_Div64_ok : CxOk Tryz.prog Rbx_mbits_Div64 := ⟨tabB_sound Rbtab_ok, conOf_sound ⟨Rbh_mbits_LeadingZeros64, trivial⟩⟩
theorem Rbat_mbits_Div64 : FnAt Tryz.prog 92 Tryz.f92.ntmps Tryz.f92.results.toList (Tryz.f92.body.getD .skip) := ⟨Tryz.f92, Tryz.func92, rfl, rfl, by simp, by decide⟩
theorem Rbeq_mbits_Div64 (a : Int) (b : Int) (c : Int) (post : Int × Int × Unit → Prop) : fnEval Rbx_mbits_Div64 Rbhn_mbits_Div64 Tryz.f92.ntmps Tryz.f92.results.toList (Tryz.f92.body.getD .skip) [.int .u64, .int .u64, .int .u64] [.snap (.int .u64), .snap (.int .u64)] (a, b, c, ()) post = Fx_mbits_Div64  a b c post := by kernel_rfl
theorem Rbh_mbits_Div64 : Rbq_mbits_Div64.holds Tryz.prog RbG 92 :=
  detP Rbx_mbits_Div64_ok Rbmixed Rbhn_mbits_Div64 Rbat_mbits_Div64 (F := fun x post => Fx_mbits_Div64  x.1 x.2.1 x.2.2.1 post) (fun x post => Rbeq_mbits_Div64 x.1 x.2.1 x.2.2.1 post) fun x h _ => Lx_mbits_Div64  x.1 x.2.1 x.2.2.1 h
def Rbq_share_Part : Con := .det [.int .i64, .int .i64, .int .i64] [.snap (.int .i64)] (fun x => III x.1 x.2.1 x.2.2.1) (fun x => prtR x.1 x.2.1 x.2.2.1)
def Rbhn_share_Part : Hn := { loops := fun _ => none, joins := fun _ => none }
def Rbx_share_Part : Cx := ⟨tabOf Rbtab, conOf [(91, Rbq_mbits_Mul64), (92, Rbq_mbits_Div64)], RbG⟩
theorem Rbx_share_Part_ok : CxOk Tryz.prog Rbx_share_Part := ⟨tabB_sound Rbtab_ok, conOf_sound ⟨Rbh_mbits_Mul64, Rbh_mbits_Div64, trivial⟩⟩
theorem Rbat_share_Part : FnAt Tryz.prog 44 Tryz.f44.ntmps Tryz.f44.results.toList (Tryz.f44.body.getD .skip) := ⟨Tryz.f44, Tryz.func44, rfl, rfl, by simp, by decide⟩
theorem Rbeq_share_Part (a : Int) (b : Int) (c : Int) (post : Int × Unit → Prop) : fnEval Rbx_share_Part Rbhn_share_Part Tryz.f44.ntmps Tryz.f44.results.toList (Tryz.f44.body.getD .skip) [.int .i64, .int .i64, .int .i64] [.snap (.int .i64)] (a, b, c, ()) post = Fx_share_Part  a b c post := by kernel_rfl
theorem Rbh_share_Part : Rbq_share_Part.holds Tryz.prog RbG 44 :=
  detP Rbx_share_Part_ok Rbmixed Rbhn_share_Part Rbat_share_Part (F := fun x post => Fx_share_Part  x.1 x.2.1 x.2.2.1 post) (fun x post => Rbeq_share_Part x.1 x.2.1 x.2.2.1 post) fun x h _ => Lx_share_Part  x.1 x.2.1 x.2.2.1 h
end Go.Lift

set_option linter.unusedVariables false
set_option linter.unusedSimpArgs false
namespace Go.Lift
open Go.Proofs
def Rbq_river_Run : Con := Con.nam [.ptr kGrid, kSea] [.own 2 (.int .i64), .own 2 (.int .i64), .snap (.int .i64)] (fun x => WRun x.1 x.2.1) (fun x => runFR x.1 x.2.1)
def Rbhn_river_Run : Hn := { loops := hintH [(8, { ls := [(.slot 68, .data (.int .i64))], os := [(1, 2, .int .i64), (2, 2, .int .i64)] })], joins := fun _ => none, named := true }
def Rbx_river_Run : Cx := ⟨tabOf Rbtab, conOf [(31, Rbq_grid_Grid_Cells), (55, Rbq_grid_Grid_Edges), (56, Rbq_river_kept), (57, Rbq_slices_Clone_int64_int64), (29, Rbq_river_Order), (32, Rbq_river_Down), (38, Rbq_grid_Grid_Area), (37, Rbq_level_Depth), (44, Rbq_share_Part)], RbG⟩
theorem Rbx_river_Run_ok : CxOk Tryz.prog Rbx_river_Run := ⟨tabB_sound Rbtab_ok, conOf_sound ⟨Rbh_grid_Grid_Cells, Rbh_grid_Grid_Edges, Rbh_river_kept, Rbh_slices_Clone_int64_int64, Rbh_river_Order, Rbh_river_Down, Rbh_grid_Grid_Area, Rbh_level_Depth, Rbh_share_Part, trivial⟩⟩
theorem Rbat_river_Run : FnAt Tryz.prog 23 Tryz.f23.ntmps Tryz.f23.results.toList (Tryz.f23.body.getD .skip) := ⟨Tryz.f23, Tryz.func23, rfl, rfl, by simp, by decide⟩
theorem Rbeq_river_Run_0 (s : (List Nat) × (List Int) × (List Int) × (List Nat) × Int × Int) (post : (List Int) × (List Int) × Int × Unit → Prop) : fnEval Rbx_river_Run Rbhn_river_Run Tryz.f23.ntmps Tryz.f23.results.toList (Tryz.f23.body.getD .skip) [.ptr kGrid, kSea] [.own 2 (.int .i64), .own 2 (.int .i64), .snap (.int .i64)] (none, s, ()) post = Fx_river_Run_0  s post := by kernel_rfl
theorem Rbeq_river_Run_1 (g : Int × (List (Int × Int × Int × Int)) × (List ((Int × Int) × Int)) × (List (List Int)) × (List Int) × (List Nat) × List Nat) (s : (List Nat) × (List Int) × (List Int) × (List Nat) × Int × Int) (post : (List Int) × (List Int) × Int × Unit → Prop) : fnEval Rbx_river_Run Rbhn_river_Run Tryz.f23.ntmps Tryz.f23.results.toList (Tryz.f23.body.getD .skip) [.ptr kGrid, kSea] [.own 2 (.int .i64), .own 2 (.int .i64), .snap (.int .i64)] ((some g), s, ()) post = Fx_river_Run_1 39 2 3 g s post := by kernel_rfl
def RbF_river_Run (x : KS [.ptr kGrid, kSea]) (post : RS [.own 2 (.int .i64), .own 2 (.int .i64), .snap (.int .i64)] → Prop) : Prop := match x with
  | (none, y) => Fx_river_Run_0  y.1 post
  | (some g, y) => Fx_river_Run_1 39 2 3 g y.1 post
theorem Rbh_river_Run : Rbq_river_Run.holds Tryz.prog RbG 23 :=
  nam_of_det (detP Rbx_river_Run_ok Rbmixed Rbhn_river_Run Rbat_river_Run (F := RbF_river_Run) (fun x post => match x with
    | (none, y) => Rbeq_river_Run_0 y.1 post
    | (some g, y) => Rbeq_river_Run_1 g y.1 post) fun x h w => match x, h, w with
    | (none, y), h, w => Lx_river_Run_0  y.1 h w
    | (some g, y), h, w => Lx_river_Run_1 39 2 3 g y.1 h w)
end Go.Lift

set_option linter.unusedVariables false
set_option linter.unusedSimpArgs false
namespace Go.Lift
open Go.Proofs
def Rbq_law19_lives : Con := Con.nam [] [.snap .bool] (fun _ => True) (fun x => yesR)
def Rbhn_law19_lives : Hn := { loops := hintH [(8, { ls := [(.slot 4, .data (.int .i64))], os := [(2, 59, .flt .f64), (3, 2, .int .i64)] })], joins := fun _ => none, named := true, inl := inlL [54] }
def Rbx_law19_lives : Cx := ⟨tabOf Rbtab, conOf [(24, Rbq_grid_New), (31, Rbq_grid_Grid_Cells), (55, Rbq_grid_Grid_Edges), (38, Rbq_grid_Grid_Area), (23, Rbq_river_Run), (32, Rbq_river_Down), (29, Rbq_river_Order), (28, Rbq_law19_numbers)], RbG⟩
theorem Rbx_law19_lives_ok : CxOk Tryz.prog Rbx_law19_lives := ⟨tabB_sound Rbtab_ok, conOf_sound ⟨Rbh_grid_New, Rbh_grid_Grid_Cells, Rbh_grid_Grid_Edges, Rbh_grid_Grid_Area, Rbh_river_Run, Rbh_river_Down, Rbh_river_Order, Rbh_law19_numbers, trivial⟩⟩
theorem Rbat_law19_lives : FnAt Tryz.prog 22 Tryz.f22.ntmps Tryz.f22.results.toList (Tryz.f22.body.getD .skip) := ⟨Tryz.f22, Tryz.func22, rfl, rfl, by simp, by decide⟩
theorem Rbeq_law19_lives  (post : Bool × Unit → Prop) : fnEvalI Rbx_law19_lives Rbhn_law19_lives (callLvl Rbx_law19_lives Rbfns_lake19 6) Tryz.f22.ntmps Tryz.f22.results.toList (Tryz.f22.body.getD .skip) [] [.snap .bool] (()) post = Fx_law19_lives 39 59 2  post := by kernel_rfl
theorem Rbh_law19_lives : Rbq_law19_lives.holds Tryz.prog RbG 22 :=
  nam_of_det (detPI Rbx_law19_lives_ok Rbmixed Rbhn_law19_lives (callLvl_ok Rbx_law19_lives_ok Rbmixed Rbfns_lake19_ok 6) Rbat_law19_lives (F := fun x post => Fx_law19_lives 39 59 2  post) (fun x post => Rbeq_law19_lives  post) fun x _ _ => Lx_law19_lives 39 59 2 )
end Go.Lift

set_option linter.unusedVariables false
set_option linter.unusedSimpArgs false
namespace Go.Lift
open Go.Proofs
def Rbq_law19_RiverDeep : Con := .det [.int .i64, kSea] [.snap .bool] (fun x => WCheck x.1 x.2.1) (fun x => yesS x.1 x.2.1)
def Rbhn_law19_RiverDeep : Hn := { loops := hintH [(11, { ls := [(.slot 9, .data (.bool)), (.slot 10, .data (.int .i64))], os := [] }), (15, { ls := [(.slot 11, .data (.int .i64))], os := [] })], joins := fun _ => none, named := true }
def Rbx_law19_RiverDeep : Cx := ⟨tabOf Rbtab, conOf [(22, Rbq_law19_lives), (24, Rbq_grid_New), (23, Rbq_river_Run), (32, Rbq_river_Down), (38, Rbq_grid_Grid_Area), (37, Rbq_level_Depth), (27, Rbq_law19_ints)], RbG⟩
theorem Rbx_law19_RiverDeep_ok : CxOk Tryz.prog Rbx_law19_RiverDeep := ⟨tabB_sound Rbtab_ok, conOf_sound ⟨Rbh_law19_lives, Rbh_grid_New, Rbh_river_Run, Rbh_river_Down, Rbh_grid_Grid_Area, Rbh_level_Depth, Rbh_law19_ints, trivial⟩⟩
theorem Rbat_law19_RiverDeep : FnAt Tryz.prog 10 Tryz.f10.ntmps Tryz.f10.results.toList (Tryz.f10.body.getD .skip) := ⟨Tryz.f10, Tryz.func10, rfl, rfl, by simp, by decide⟩
theorem Rbeq_law19_RiverDeep (n : Int) (s : (List Nat) × (List Int) × (List Int) × (List Nat) × Int × Int) (post : Bool × Unit → Prop) : fnEval Rbx_law19_RiverDeep Rbhn_law19_RiverDeep Tryz.f10.ntmps Tryz.f10.results.toList (Tryz.f10.body.getD .skip) [.int .i64, kSea] [.snap .bool] (n, s, ()) post = Fx_law19_RiverDeep 39 2 n s post := by kernel_rfl
theorem Rbh_law19_RiverDeep : Rbq_law19_RiverDeep.holds Tryz.prog RbG 10 :=
  detP Rbx_law19_RiverDeep_ok Rbmixed Rbhn_law19_RiverDeep Rbat_law19_RiverDeep (F := fun x post => Fx_law19_RiverDeep 39 2 x.1 x.2.1 post) (fun x post => Rbeq_law19_RiverDeep x.1 x.2.1 post) fun x h w => Lx_law19_RiverDeep 39 2 x.1 x.2.1 h w
end Go.Lift

namespace Go.Proofs.YtplhligfkbgllaaGreatDoor
open Go.Lift
theorem riverDeep_law : LawSpec Rows.riverDeepSpec 2 := ⟨rfl, fun H ds h => by
  match ds, h with
  | [d1, d2], _ => rfl⟩
set_option maxRecDepth 100000 in
theorem riverDeep_lifted (os : Os) (started : os.Started) (H : Type) (enc : TypeId × Value → H) :
    ReturnsInHanded {} Tryz.checked os 10 .any (fun w args => (Rows.riverDeepSpec.pre enc Tryz.prog Tryz.f10 [] false w args ∧ laidMetH Tryz.prog laidL w) ∧ sizedMet enc Tryz.prog Tryz.f10 (OpenSpec.ofChange Rows.riverDeepSpec) false w args) (Rows.riverDeepSpec.post enc Tryz.prog Tryz.f10 false true false false) :=
  law_laid (C := Tryz.checked) (X := fun w _ => laidMetH Tryz.prog laidL w) (fun _ _ _ hh h => h.of_heap hh) (fun w _ h => laid_globs w h) own started (by kernel_rfl) Tryz.func10 rfl (by decide)
    (ChangeSpec.witness_shaped (enc := enc) (C := Tryz.checked) (os := os) (X := fun w _ => laidMetH Tryz.prog laidL w) false (World.doorLaid Tryz.prog 400 os) #[.int .i64 0, .agg #[.slice none 0 0, .slice none 0 0, .slice none 0 0, .slice none 0 0, .int .i64 0, .int .i64 0]] 12 rfl (World.shaped_of_RefB (by kernel_rfl) (by kernel_rfl)) (by kernel_rfl) (by kernel_rfl) (by kernel_rfl) (door_met os _))
    laidOut (ktsB_sound _ [.int .i64, kSea] (by kernel_rfl)) (by decide +kernel) rfl (by kernel_rfl) riverDeep_law Rbh_law19_RiverDeep (fun x h w => ⟨rngI h.1, rngSe h.2.1⟩)
theorem riverDeep_holds : Rows.RiverDeepSaid :=
  OpenClaim.holds_of_wide 10 Tryz.f10 rfl rfl rfl rfl rfl rfl rfl ⟨rfl, rfl, rfl, rfl, rfl⟩ rfl rfl rfl rfl rfl (by kernel_rfl) Tryz.func10 (by kernel_rfl)
    (of_decide_eq_true (by kernel_rfl)) (by unfold Func.isWrapper; first | (rw [if_pos (by decide +kernel)]; kernel_rfl) | (rw [if_neg (by decide +kernel)]; exact ⟨rfl, rfl⟩))
    (fun os started H enc _ => riverDeep_lifted os started H enc)
theorem riverDeep_card : Rows.RiverDeepCardSaid :=
  Claim7.holds_tied_plain_at .later [] [.wider, .data] true (true, "78fee6c63abe0f1848884245aa960bf780b6b198ac179e9f617ebec8ad318169") false
    riverDeep_holds (fun _ h => by cases h) (by kernel_rfl) (fun _ h => by cases h) riverDeep_row_tie rfl ⟨rfl, rfl⟩ (by kernel_rfl) rfl
    (fun f fn hf hfn => by
      obtain rfl : f = 10 := Option.some.inj ((show Tryz.prog.funcNamed "tarn/tarnlaw19.RiverDeep" = some 10 by kernel_rfl).symm.trans hf) |>.symm
      obtain rfl : fn = Tryz.f10 := (Option.some.inj (Tryz.func10.symm.trans hfn)).symm
      exact ⟨by kernel_rfl, fun j t ht => by
        rw [Tryz.params10] at ht
        have hm : t ∈ [3, 39] := by simpa using Array.mem_of_getElem? ht
        have hall : ([3, 39].all fun u => !Tryz.prog.wantsStandIn u) = true := by kernel_rfl
        exact (show Tryz.prog.wantsStandIn t = false by simpa using List.all_eq_true.1 hall t hm)⟩)
    (by kernel_rfl)
end Go.Proofs.YtplhligfkbgllaaGreatDoor
