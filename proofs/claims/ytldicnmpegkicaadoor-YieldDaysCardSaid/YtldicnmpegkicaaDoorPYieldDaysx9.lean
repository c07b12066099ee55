-- Printed by a wrapper of this session's round the kit's print.py; Lean checks it.
import Derived.Test.YtldicnmpegkicaaDoorPYieldDaysx0
import Derived.Test.YtldicnmpegkicaaDoorPYieldDaysx4
import Derived.Test.YtldicnmpegkicaaDoorPYieldDaysx6
import Derived.Test.YtldicnmpegkicaaDoorPYieldDaysx7
import Derived.Test.YtldicnmpegkicaaDoorPYieldDaysx8
namespace Go.Proofs.YtldicnmpegkicaaDoor.PYieldDays
open Go.RowKit Go.Proofs.YtldicnmpegkicaaDoorW.PrintWords Go.Proofs.YtldicnmpegkicaaDoorW.PrintLast Go.Proofs.YtldicnmpegkicaaDoorW.PrintMore
attribute [local go_sem] max2_int min2_int max_two min_two max_three min_three max_four min_four   -- for this text's walks alone
set_option linter.unusedVariables false
set_option linter.unusedSimpArgs false

/-! ### arrearsref09_Days: function 13 -/
def arrearsref09_Days.f (a0_0 : Int) (a0_1 : Bool) (a1 : Int) (a2 : Int) (a3 : Int) : Option (Int × Int) := (arrearsref03_Mul.f (IntKind.u64.wrap (a1)) (IntKind.u64.wrap ((IntKind.u64.wrap (a0_0)) * (IntKind.u64.wrap (a2))))).bind fun bt250 => ((arrearsref03_Of.f 0 a3).bind fun bt258 => ((arrearsref03_Add.f bt250.1 bt250.2.1 bt250.2.2.1 bt250.2.2.2.1 bt250.2.2.2.2.1 bt250.2.2.2.2.2.1 bt250.2.2.2.2.2.2.1 bt250.2.2.2.2.2.2.2 bt258.1 bt258.2.1 bt258.2.2.1 bt258.2.2.2.1 bt258.2.2.2.2.1 bt258.2.2.2.2.2.1 bt258.2.2.2.2.2.2.1 bt258.2.2.2.2.2.2.2).bind fun bt266 => ((arrearsref09_Unit.f a0_0 a0_1).bind fun t276 => ((arrearsref03_Div.f bt266.1 bt266.2.1 bt266.2.2.1 bt266.2.2.2.1 bt266.2.2.2.2.1 bt266.2.2.2.2.2.1 bt266.2.2.2.2.2.2.1 bt266.2.2.2.2.2.2.2.1 t276).bind fun bt277 => ((arrearsref03_Word.f bt277.1 bt277.2.1 bt277.2.2.1 bt277.2.2.2.1 bt277.2.2.2.2.1 bt277.2.2.2.2.2.1 bt277.2.2.2.2.2.2.1 bt277.2.2.2.2.2.2.2.1 false).bind fun t287 => (some (wrap64 (t287), bt277.2.2.2.2.2.2.2.2)))))))
def arrearsref09_Days.T2 : Bool × List (List Nat × List Nat) := (true, [([], []), ([], []), ([1], [1]), ([0, 2, 2], [0, 2]), ([3], [3]), ([4], [4]), ([4], [4]), ([], []), ([7, 5, 3, 0, 1, 2, 3, 4, 5, 7], [5, 7]), ([6, 8, 0, 1, 2, 3, 4, 5, 6, 7, 8], [6])])
def arrearsref09_Days.B2 : List Nat := [0, 0, 2, 7, 15, 31, 31, 0, 191, 511]
theorem arrearsref09_Days.tab2 : rtab .any (opsOf Tryd.f13 2) = arrearsref09_Days.T2 := by kernel_rfl
theorem arrearsref09_Days.bits2 : waitsOk arrearsref09_Days.T2.2 arrearsref09_Days.B2 = true := by kernel_rfl
set_option maxHeartbeats 8000000 in
set_option maxRecDepth 100000 in
theorem arrearsref09_Days.calls (a0_0 : Int) (a0_1 : Bool) (a1 : Int) (a2 : Int) (a3 : Int) (r1 : Int) (r2 : Int) (w : World) (h : arrearsref09_Days.f a0_0 a0_1 a1 a2 a3 = some (r1, r2)) :
  Calls Tryd.prog 13 #[.agg #[.int .u32 a0_0, .bool a0_1], .int .i64 a1, .int .i64 a2, .int .u64 a3] w fun e w' => e = .returned (.tuple #[.int .i64 r1, .int .u64 r2]) ∧ Below w.heap.size w w' := by
 have hu34 := Tryd.underlying34
 have hu61 := Tryd.underlying61
 have HB := Aside0.mk (Below.refl w.heap.size w)
 have H : ((arrearsref03_Mul.f (IntKind.u64.wrap (a1)) (IntKind.u64.wrap ((IntKind.u64.wrap (a0_0)) * (IntKind.u64.wrap (a2))))).bind fun bt250 => ((arrearsref03_Of.f 0 a3).bind fun bt258 => ((arrearsref03_Add.f bt250.1 bt250.2.1 bt250.2.2.1 bt250.2.2.2.1 bt250.2.2.2.2.1 bt250.2.2.2.2.2.1 bt250.2.2.2.2.2.2.1 bt250.2.2.2.2.2.2.2 bt258.1 bt258.2.1 bt258.2.2.1 bt258.2.2.2.1 bt258.2.2.2.2.1 bt258.2.2.2.2.2.1 bt258.2.2.2.2.2.2.1 bt258.2.2.2.2.2.2.2).bind fun bt266 => ((arrearsref09_Unit.f a0_0 a0_1).bind fun t276 => ((arrearsref03_Div.f bt266.1 bt266.2.1 bt266.2.2.1 bt266.2.2.2.1 bt266.2.2.2.2.1 bt266.2.2.2.2.2.1 bt266.2.2.2.2.2.2.1 bt266.2.2.2.2.2.2.2.1 t276).bind fun bt277 => ((arrearsref03_Word.f bt277.1 bt277.2.1 bt277.2.2.1 bt277.2.2.2.1 bt277.2.2.2.2.1 bt277.2.2.2.2.2.1 bt277.2.2.2.2.2.2.1 bt277.2.2.2.2.2.2.2.1 false).bind fun t287 => (some (wrap64 (t287), bt277.2.2.2.2.2.2.2.2)))))))) = some (r1, r2) := h
 clear h
 replace H := Option.bind_eq_some_iff.mp H
 obtain ⟨⟨t250, t251, t252, t253, t254, t255, t256, t257⟩, A50, H⟩ := H
 replace H : ((arrearsref03_Of.f 0 a3).bind fun bt258 => ((arrearsref03_Add.f t250 t251 t252 t253 t254 t255 t256 t257 bt258.1 bt258.2.1 bt258.2.2.1 bt258.2.2.2.1 bt258.2.2.2.2.1 bt258.2.2.2.2.2.1 bt258.2.2.2.2.2.2.1 bt258.2.2.2.2.2.2.2).bind fun bt266 => ((arrearsref09_Unit.f a0_0 a0_1).bind fun t276 => ((arrearsref03_Div.f bt266.1 bt266.2.1 bt266.2.2.1 bt266.2.2.2.1 bt266.2.2.2.2.1 bt266.2.2.2.2.2.1 bt266.2.2.2.2.2.2.1 bt266.2.2.2.2.2.2.2.1 t276).bind fun bt277 => ((arrearsref03_Word.f bt277.1 bt277.2.1 bt277.2.2.1 bt277.2.2.2.1 bt277.2.2.2.2.1 bt277.2.2.2.2.2.1 bt277.2.2.2.2.2.2.1 bt277.2.2.2.2.2.2.2.1 false).bind fun t287 => (some (wrap64 (t287), bt277.2.2.2.2.2.2.2.2))))))) = some (r1, r2) := H
 have A5 := Aside0.mk A50
 clear A50
 replace H := Option.bind_eq_some_iff.mp H
 obtain ⟨⟨t258, t259, t260, t261, t262, t263, t264, t265⟩, A60, H⟩ := H
 replace H : ((arrearsref03_Add.f t250 t251 t252 t253 t254 t255 t256 t257 t258 t259 t260 t261 t262 t263 t264 t265).bind fun bt266 => ((arrearsref09_Unit.f a0_0 a0_1).bind fun t276 => ((arrearsref03_Div.f bt266.1 bt266.2.1 bt266.2.2.1 bt266.2.2.2.1 bt266.2.2.2.2.1 bt266.2.2.2.2.2.1 bt266.2.2.2.2.2.2.1 bt266.2.2.2.2.2.2.2.1 t276).bind fun bt277 => ((arrearsref03_Word.f bt277.1 bt277.2.1 bt277.2.2.1 bt277.2.2.2.1 bt277.2.2.2.2.1 bt277.2.2.2.2.2.1 bt277.2.2.2.2.2.2.1 bt277.2.2.2.2.2.2.2.1 false).bind fun t287 => (some (wrap64 (t287), bt277.2.2.2.2.2.2.2.2)))))) = some (r1, r2) := H
 have A6 := Aside0.mk A60
 clear A60
 replace H := Option.bind_eq_some_iff.mp H
 obtain ⟨⟨t266, t267, t268, t269, t270, t271, t272, t273, t274⟩, A70, H⟩ := H
 replace H : ((arrearsref09_Unit.f a0_0 a0_1).bind fun t276 => ((arrearsref03_Div.f t266 t267 t268 t269 t270 t271 t272 t273 t276).bind fun bt277 => ((arrearsref03_Word.f bt277.1 bt277.2.1 bt277.2.2.1 bt277.2.2.2.1 bt277.2.2.2.2.1 bt277.2.2.2.2.2.1 bt277.2.2.2.2.2.2.1 bt277.2.2.2.2.2.2.2.1 false).bind fun t287 => (some (wrap64 (t287), bt277.2.2.2.2.2.2.2.2))))) = some (r1, r2) := H
 have A7 := Aside0.mk A70
 clear A70
 replace H := Option.bind_eq_some_iff.mp H
 obtain ⟨t276, A80, H⟩ := H
 replace H : ((arrearsref03_Div.f t266 t267 t268 t269 t270 t271 t272 t273 t276).bind fun bt277 => ((arrearsref03_Word.f bt277.1 bt277.2.1 bt277.2.2.1 bt277.2.2.2.1 bt277.2.2.2.2.1 bt277.2.2.2.2.2.1 bt277.2.2.2.2.2.2.1 bt277.2.2.2.2.2.2.2.1 false).bind fun t287 => (some (wrap64 (t287), bt277.2.2.2.2.2.2.2.2)))) = some (r1, r2) := H
 have A8 := Aside0.mk A80
 clear A80
 replace H := Option.bind_eq_some_iff.mp H
 obtain ⟨⟨t277, t278, t279, t280, t281, t282, t283, t284, t285⟩, A90, H⟩ := H
 replace H : ((arrearsref03_Word.f t277 t278 t279 t280 t281 t282 t283 t284 false).bind fun t287 => (some (wrap64 (t287), t285))) = some (r1, r2) := H
 have A9 := Aside0.mk A90
 clear A90
 replace H := Option.bind_eq_some_iff.mp H
 obtain ⟨t287, A100, H⟩ := H
 replace H : (some (wrap64 (t287), t285)) = some (r1, r2) := H
 have A10 := Aside0.mk A100
 clear A100
 simp only [Option.some.injEq, Prod.mk.injEq] at H
 obtain ⟨rfl, rfl⟩ := H
 go_enter Tryd.func13, Tryd.ntmps13
 try go_wp2_with (first | ((with_reducible refine gate_dst (N := 4) rfl ?_); refine box_event ?hg (N := 4) ?hd (cs := #[.int .u32 a0_0, .bool a0_1]) (t := 34) ?hr ?_; (case hd => rfl); (case hg => rfl); (case hr => first | (go_simp; done) | (go_simp; rfl)); intro gb249 hg w11 hbox hb; have n0_ := Aside0.mk (below_step (by repeat (first | (with_reducible first | exact HB.out | apply below_alloc | apply pw_below_drewN | apply below_drew1) | exact HB.out)) hb); have n1_ := Aside0.mk (hbox); have n2_ := Aside0.mk ((by rw [hg]; exact (below_size (by repeat (first | (with_reducible first | exact HB.out | apply below_alloc | apply pw_below_drewN | apply below_drew1) | exact HB.out))) : w.heap.size ≤ gb249)); have n3_ := Aside0.mk ((by rw [hg]; exact (below_size (by repeat (first | (with_reducible first | exact HB.out | apply below_alloc | apply pw_below_drewN | apply below_drew1) | exact HB.out))) : w.heap.size ≤ gb249)); clear HB; have HB := n0_; have BK249 := n1_; have GW249 := n2_; have GE249 := n3_; clear n0_ n1_ n2_ n3_; clear hb hbox hg; have hcz12_0 : w11.cell? ⟨gb249, 0, none⟩ = some (.int .u32 a0_0) := (blk_cell BK249.out 0).trans rfl; have hcz12_1 : w11.cell? ⟨gb249, 1, none⟩ = some (.bool a0_1) := (blk_cell BK249.out 1).trans rfl; have hfz12_0 := blk_frozen BK249.out 0; have hfz12_1 := blk_frozen BK249.out 1) | ((with_reducible refine gate_callee (f := 26) rfl ?_); refine goesL_ (some 23) rfl rfl Tryd.func26 (by kernel_rfl) rfl #[.int .u64 (IntKind.u64.wrap (a1)), .int .u64 (IntKind.u64.wrap ((IntKind.u64.wrap (a0_0)) * (IntKind.u64.wrap (a2))))] rfl (by (try simp only [List.map_toArray, List.map_cons, List.map_nil]); first | done | rfl | (simp only [List.length_drop, List.length_take]; rfl)) ?_; (with_reducible refine (arrearsref03_Mul.calls (IntKind.u64.wrap (a1)) (IntKind.u64.wrap ((IntKind.u64.wrap (a0_0)) * (IntKind.u64.wrap (a2)))) t250 t251 t252 t253 t254 t255 t256 t257 _ A5.out).mono ?_); rintro e w13 ⟨rfl, hb⟩; refine ⟨_, rfl, ?_⟩; have n0_ := Aside0.mk (blk_below (g := gb249) (o := .cells #[.int .u32 a0_0, .bool a0_1] 34 (0, 0)) (by (with_reducible repeat (first | refine blk_drewN ?_ _ | refine blk_drew ?_ | refine blk_alloc ?_ _)); exact BK249.out) hb); have n1_ := Aside0.mk (below_step (by repeat (first | (with_reducible first | exact HB.out | apply below_alloc | apply pw_below_drewN | apply below_drew1 | refine below_set ?_ GE249.out) | exact HB.out)) hb); clear BK249; clear HB; have BK249 := n0_; have HB := n1_; clear n0_ n1_; (try clear hb); (try clear hb2); (try clear hk); (try clear hi)) | ((with_reducible refine gate_callee (f := 27) rfl ?_); refine goesL_ (some 25) rfl rfl Tryd.func27 (by kernel_rfl) rfl #[.int .u64 0, .int .u64 a3] rfl (by (try simp only [List.map_toArray, List.map_cons, List.map_nil]); first | done | rfl | (simp only [List.length_drop, List.length_take]; rfl)) ?_; (with_reducible refine (arrearsref03_Of.calls 0 a3 t258 t259 t260 t261 t262 t263 t264 t265 _ A6.out).mono ?_); rintro e w14 ⟨rfl, hb⟩; refine ⟨_, rfl, ?_⟩; have n0_ := Aside0.mk (blk_below (g := gb249) (o := .cells #[.int .u32 a0_0, .bool a0_1] 34 (0, 0)) (by (with_reducible repeat (first | refine blk_drewN ?_ _ | refine blk_drew ?_ | refine blk_alloc ?_ _)); exact BK249.out) hb); have n1_ := Aside0.mk (below_step (by repeat (first | (with_reducible first | exact HB.out | apply below_alloc | apply pw_below_drewN | apply below_drew1 | refine below_set ?_ GE249.out) | exact HB.out)) hb); clear BK249; clear HB; have BK249 := n0_; have HB := n1_; clear n0_ n1_; (try clear hb); (try clear hb2); (try clear hk); (try clear hi)) | ((with_reducible refine gate_callee (f := 25) rfl ?_); refine goesL_ (some 26) rfl rfl Tryd.func25 (by kernel_rfl) rfl #[.agg #[.int .u32 t250, .int .u32 t251, .int .u32 t252, .int .u32 t253, .int .u32 t254, .int .u32 t255, .int .u32 t256, .int .u32 t257], .agg #[.int .u32 t258, .int .u32 t259, .int .u32 t260, .int .u32 t261, .int .u32 t262, .int .u32 t263, .int .u32 t264, .int .u32 t265]] rfl (by (try simp only [List.map_toArray, List.map_cons, List.map_nil]); first | done | rfl | (simp only [List.length_drop, List.length_take]; rfl)) ?_; (with_reducible refine (arrearsref03_Add.calls t250 t251 t252 t253 t254 t255 t256 t257 t258 t259 t260 t261 t262 t263 t264 t265 t266 t267 t268 t269 t270 t271 t272 t273 t274 _ A7.out).mono ?_); rintro e w15 ⟨rfl, hb⟩; refine ⟨_, rfl, ?_⟩; have n0_ := Aside0.mk (blk_below (g := gb249) (o := .cells #[.int .u32 a0_0, .bool a0_1] 34 (0, 0)) (by (with_reducible repeat (first | refine blk_drewN ?_ _ | refine blk_drew ?_ | refine blk_alloc ?_ _)); exact BK249.out) hb); have n1_ := Aside0.mk (below_step (by repeat (first | (with_reducible first | exact HB.out | apply below_alloc | apply pw_below_drewN | apply below_drew1 | refine below_set ?_ GE249.out) | exact HB.out)) hb); clear BK249; clear HB; have BK249 := n0_; have HB := n1_; clear n0_ n1_; (try clear hb); (try clear hb2); (try clear hk); (try clear hi)) | ((with_reducible refine gate_dst (N := 10) rfl ?_); refine box_event ?hg (N := 10) ?hd (cs := #[.int .u32 0, .int .u32 0, .int .u32 0, .int .u32 0, .int .u32 0, .int .u32 0, .int .u32 0, .int .u32 0]) (t := 61) ?hr ?_; (case hd => rfl); (case hg => rfl); (case hr => first | (go_simp; done) | (go_simp; rfl)); intro gb275 hg w16 hbox hb; have n0_ := Aside0.mk (blk_below (g := gb249) (o := .cells #[.int .u32 a0_0, .bool a0_1] 34 (0, 0)) (by (with_reducible repeat (first | refine blk_drewN ?_ _ | refine blk_drew ?_ | refine blk_alloc ?_ _)); exact BK249.out) hb); have n1_ := Aside0.mk (below_step (by repeat (first | (with_reducible first | exact HB.out | apply below_alloc | apply pw_below_drewN | apply below_drew1 | refine below_set ?_ GE249.out) | exact HB.out)) hb); have n2_ := Aside0.mk (hbox); have n3_ := Aside0.mk ((by rw [hg]; exact (below_size (by repeat (first | (with_reducible first | exact HB.out | apply below_alloc | apply pw_below_drewN | apply below_drew1 | refine below_set ?_ GE249.out) | exact HB.out))) : w.heap.size ≤ gb275)); have n4_ := Aside0.mk ((by rw [hg]; exact (below_size (by repeat (first | (with_reducible first | exact HB.out | apply below_alloc | apply pw_below_drewN | apply below_drew1 | refine below_set ?_ GE249.out) | exact HB.out))) : w.heap.size ≤ gb275)); have n5_ := Aside0.mk ((by rw [hg]; exact Nat.ne_of_lt (blk_lt (g := gb249) (o := .cells #[.int .u32 a0_0, .bool a0_1] 34 (0, 0)) (by (with_reducible repeat (first | refine blk_drewN ?_ _ | refine blk_drew ?_ | refine blk_alloc ?_ _)); exact BK249.out)) : gb249 ≠ gb275)); have n6_ := Aside0.mk ((by rw [hg]; exact Nat.ne_of_gt (blk_lt (g := gb249) (o := .cells #[.int .u32 a0_0, .bool a0_1] 34 (0, 0)) (by (with_reducible repeat (first | refine blk_drewN ?_ _ | refine blk_drew ?_ | refine blk_alloc ?_ _)); exact BK249.out)) : gb275 ≠ gb249)); clear BK249; clear HB; have BK249 := n0_; have HB := n1_; have BK275 := n2_; have GW275 := n3_; have GE275 := n4_; have NB249_275 := n5_; have NB275_249 := n6_; clear n0_ n1_ n2_ n3_ n4_ n5_ n6_; clear hb hbox hg; have hnb17 := NB275_249.out; have hnc17 := NB249_275.out; have hcz18_0 : w16.cell? ⟨gb275, 0, none⟩ = some (.int .u32 0) := (blk_cell BK275.out 0).trans rfl; have hcz18_1 : w16.cell? ⟨gb275, 1, none⟩ = some (.int .u32 0) := (blk_cell BK275.out 1).trans rfl; have hcz18_2 : w16.cell? ⟨gb275, 2, none⟩ = some (.int .u32 0) := (blk_cell BK275.out 2).trans rfl; have hcz18_3 : w16.cell? ⟨gb275, 3, none⟩ = some (.int .u32 0) := (blk_cell BK275.out 3).trans rfl; have hcz18_4 : w16.cell? ⟨gb275, 4, none⟩ = some (.int .u32 0) := (blk_cell BK275.out 4).trans rfl; have hcz18_5 : w16.cell? ⟨gb275, 5, none⟩ = some (.int .u32 0) := (blk_cell BK275.out 5).trans rfl; have hcz18_6 : w16.cell? ⟨gb275, 6, none⟩ = some (.int .u32 0) := (blk_cell BK275.out 6).trans rfl; have hcz18_7 : w16.cell? ⟨gb275, 7, none⟩ = some (.int .u32 0) := (blk_cell BK275.out 7).trans rfl; have hfz18_0 := blk_frozen BK275.out 0; have hfz18_1 := blk_frozen BK275.out 1; have hfz18_2 := blk_frozen BK275.out 2; have hfz18_3 := blk_frozen BK275.out 3; have hfz18_4 := blk_frozen BK275.out 4; have hfz18_5 := blk_frozen BK275.out 5; have hfz18_6 := blk_frozen BK275.out 6; have hfz18_7 := blk_frozen BK275.out 7))
 have n0_ : Aside0 (((((((((w16.setCell ⟨gb275, 0, none⟩ (.int .u32 t266)).setCell ⟨gb275, 1, none⟩ (.int .u32 t267)).setCell ⟨gb275, 2, none⟩ (.int .u32 t268)).setCell ⟨gb275, 3, none⟩ (.int .u32 t269)).setCell ⟨gb275, 4, none⟩ (.int .u32 t270)).setCell ⟨gb275, 5, none⟩ (.int .u32 t271)).setCell ⟨gb275, 6, none⟩ (.int .u32 t272)).setCell ⟨gb275, 7, none⟩ (.int .u32 t273)).heap[gb249]? = some (.cells #[.int .u32 a0_0, .bool a0_1] 34 (0, 0))) := ⟨by (repeat (first | (with_reducible first | refine blk_drewN ?_ _ | refine blk_drew ?_ | refine blk_alloc ?_ _) | refine blk_far ?_ NB249_275.out _)); exact BK249.out⟩
 have n1_ : Aside0 (((((((((w16.setCell ⟨gb275, 0, none⟩ (.int .u32 t266)).setCell ⟨gb275, 1, none⟩ (.int .u32 t267)).setCell ⟨gb275, 2, none⟩ (.int .u32 t268)).setCell ⟨gb275, 3, none⟩ (.int .u32 t269)).setCell ⟨gb275, 4, none⟩ (.int .u32 t270)).setCell ⟨gb275, 5, none⟩ (.int .u32 t271)).setCell ⟨gb275, 6, none⟩ (.int .u32 t272)).setCell ⟨gb275, 7, none⟩ (.int .u32 t273)).heap[gb275]? = some (.cells #[.int .u32 t266, .int .u32 t267, .int .u32 t268, .int .u32 t269, .int .u32 t270, .int .u32 t271, .int .u32 t272, .int .u32 t273] 61 (0, 0))) := ⟨by (with_reducible repeat (first | refine blk_drewN ?_ _ | refine blk_drew ?_ | refine blk_alloc ?_ _)); refine blk_put (cs := #[.int .u32 t266, .int .u32 t267, .int .u32 t268, .int .u32 t269, .int .u32 t270, .int .u32 t271, .int .u32 t272, .int .u32 0]) ?_ 7 _ rfl; (with_reducible repeat (first | refine blk_drewN ?_ _ | refine blk_drew ?_ | refine blk_alloc ?_ _)); refine blk_put (cs := #[.int .u32 t266, .int .u32 t267, .int .u32 t268, .int .u32 t269, .int .u32 t270, .int .u32 t271, .int .u32 0, .int .u32 0]) ?_ 6 _ rfl; (with_reducible repeat (first | refine blk_drewN ?_ _ | refine blk_drew ?_ | refine blk_alloc ?_ _)); refine blk_put (cs := #[.int .u32 t266, .int .u32 t267, .int .u32 t268, .int .u32 t269, .int .u32 t270, .int .u32 0, .int .u32 0, .int .u32 0]) ?_ 5 _ rfl; (with_reducible repeat (first | refine blk_drewN ?_ _ | refine blk_drew ?_ | refine blk_alloc ?_ _)); refine blk_put (cs := #[.int .u32 t266, .int .u32 t267, .int .u32 t268, .int .u32 t269, .int .u32 0, .int .u32 0, .int .u32 0, .int .u32 0]) ?_ 4 _ rfl; (with_reducible repeat (first | refine blk_drewN ?_ _ | refine blk_drew ?_ | refine blk_alloc ?_ _)); refine blk_put (cs := #[.int .u32 t266, .int .u32 t267, .int .u32 t268, .int .u32 0, .int .u32 0, .int .u32 0, .int .u32 0, .int .u32 0]) ?_ 3 _ rfl; (with_reducible repeat (first | refine blk_drewN ?_ _ | refine blk_drew ?_ | refine blk_alloc ?_ _)); refine blk_put (cs := #[.int .u32 t266, .int .u32 t267, .int .u32 0, .int .u32 0, .int .u32 0, .int .u32 0, .int .u32 0, .int .u32 0]) ?_ 2 _ rfl; (with_reducible repeat (first | refine blk_drewN ?_ _ | refine blk_drew ?_ | refine blk_alloc ?_ _)); refine blk_put (cs := #[.int .u32 t266, .int .u32 0, .int .u32 0, .int .u32 0, .int .u32 0, .int .u32 0, .int .u32 0, .int .u32 0]) ?_ 1 _ rfl; (with_reducible repeat (first | refine blk_drewN ?_ _ | refine blk_drew ?_ | refine blk_alloc ?_ _)); refine blk_put (cs := #[.int .u32 0, .int .u32 0, .int .u32 0, .int .u32 0, .int .u32 0, .int .u32 0, .int .u32 0, .int .u32 0]) ?_ 0 _ rfl; (with_reducible repeat (first | refine blk_drewN ?_ _ | refine blk_drew ?_ | refine blk_alloc ?_ _)); exact BK275.out⟩
 have n2_ : Aside0 (Below w.heap.size w ((((((((w16.setCell ⟨gb275, 0, none⟩ (.int .u32 t266)).setCell ⟨gb275, 1, none⟩ (.int .u32 t267)).setCell ⟨gb275, 2, none⟩ (.int .u32 t268)).setCell ⟨gb275, 3, none⟩ (.int .u32 t269)).setCell ⟨gb275, 4, none⟩ (.int .u32 t270)).setCell ⟨gb275, 5, none⟩ (.int .u32 t271)).setCell ⟨gb275, 6, none⟩ (.int .u32 t272)).setCell ⟨gb275, 7, none⟩ (.int .u32 t273))) := ⟨by repeat (first | (with_reducible first | exact HB.out | apply below_alloc | apply pw_below_drewN | apply below_drew1 | refine below_set ?_ GE249.out | refine below_set ?_ GE275.out) | exact HB.out)⟩
 (try clear BK249)
 (try clear BK275)
 (try clear HB)
 generalize ((((((((w16.setCell ⟨gb275, 0, none⟩ (.int .u32 t266)).setCell ⟨gb275, 1, none⟩ (.int .u32 t267)).setCell ⟨gb275, 2, none⟩ (.int .u32 t268)).setCell ⟨gb275, 3, none⟩ (.int .u32 t269)).setCell ⟨gb275, 4, none⟩ (.int .u32 t270)).setCell ⟨gb275, 5, none⟩ (.int .u32 t271)).setCell ⟨gb275, 6, none⟩ (.int .u32 t272)).setCell ⟨gb275, 7, none⟩ (.int .u32 t273)) = w19 at n0_ n1_ n2_ ⊢
 have BK249 := n0_
 have BK275 := n1_
 have HB := n2_
 clear n0_ n1_ n2_
 have n0_ := Aside0.mk (blk_drew BK249.out)
 have n1_ := Aside0.mk (blk_drew BK275.out)
 have n2_ := Aside0.mk (below_drew1 HB.out)
 clear BK249
 clear BK275
 clear HB
 have BK249 := n0_
 have BK275 := n1_
 have HB := n2_
 clear n0_ n1_ n2_
 refine start_ (n := 10) (S := fun w' => w'.cell? ⟨gb275, 0, none⟩ = some (.int .u32 t266) ∧ w'.cell? ⟨gb275, 1, none⟩ = some (.int .u32 t267) ∧ w'.cell? ⟨gb275, 2, none⟩ = some (.int .u32 t268) ∧ w'.cell? ⟨gb275, 3, none⟩ = some (.int .u32 t269) ∧ w'.cell? ⟨gb275, 4, none⟩ = some (.int .u32 t270) ∧ w'.cell? ⟨gb275, 5, none⟩ = some (.int .u32 t271) ∧ w'.cell? ⟨gb275, 6, none⟩ = some (.int .u32 t272) ∧ w'.cell? ⟨gb275, 7, none⟩ = some (.int .u32 t273) ∧ w'.cell? ⟨gb249, 0, none⟩ = some (.int .u32 a0_0) ∧ w'.cell? ⟨gb249, 1, none⟩ = some (.bool a0_1)) (ds := []) #[false, false, false, false, false, false, false, false, false, false] (by kernel_rfl) rfl rfl ⟨(blk_cell BK275.out 0).trans rfl, (blk_cell BK275.out 1).trans rfl, (blk_cell BK275.out 2).trans rfl, (blk_cell BK275.out 3).trans rfl, (blk_cell BK275.out 4).trans rfl, (blk_cell BK275.out 5).trans rfl, (blk_cell BK275.out 6).trans rfl, (blk_cell BK275.out 7).trans rfl, (blk_cell BK249.out 0).trans rfl, (blk_cell BK249.out 1).trans rfl⟩ (fun hHeld => ?_); refine with_tabW arrearsref09_Days.tab2 arrearsref09_Days.bits2 (fun HT_ HW_ => ?_)
 generalize w19.drew = w20 at BK249 BK275 HB hHeld ⊢
 refine take_ (i := 0) (N := some 30) (v := ?_) (a' := ?_) #[true, false, false, false, false, false, false, false, false, false] rfl rfl (take_ofW HT_.out HW_.out (by kernel_rfl)) (fun _ _ _ h => h) (Or.inl ⟨by rfl, ?_⟩) hHeld ?_ ?_
 rotate_left
 ·
  rintro w' ⟨s0, s1, s2, s3, s4, s5, s6, s7, s8, s9⟩
  go_simp
  with_reducible rfl
 rotate_left
 ·
  simp only [Act.put, List.setIfInBounds_toArray, List.set_cons_zero, List.set_cons_succ, i64_w, i32_w]
  rfl
 refine take_ (i := 1) (N := some 31) (v := ?_) (a' := ?_) #[true, true, false, false, false, false, false, false, false, false] rfl rfl (take_ofW HT_.out HW_.out (by kernel_rfl)) (fun _ _ _ h => h) (Or.inl ⟨by rfl, ?_⟩) hHeld ?_ ?_
 rotate_left
 ·
  rintro w' ⟨s0, s1, s2, s3, s4, s5, s6, s7, s8, s9⟩
  go_simp
  with_reducible rfl
 rotate_left
 ·
  simp only [Act.put, List.setIfInBounds_toArray, List.set_cons_zero, List.set_cons_succ, i64_w, i32_w]
  rfl
 refine join_ (σ := Nat) 2 #[true, true, true, true, true, true, true, true, false, false] (fun s_ => [(32, .int .u64 t276), (33, .tuple #[.agg #[.int .u32 t277, .int .u32 t278, .int .u32 t279, .int .u32 t280, .int .u32 t281, .int .u32 t282, .int .u32 t283, .int .u32 t284], .int .u64 t285]), (12, .pointer (some ⟨s_, 0, none⟩)), (29, .tuple #[.agg #[.int .u32 t277, .int .u32 t278, .int .u32 t279, .int .u32 t280, .int .u32 t281, .int .u32 t282, .int .u32 t283, .int .u32 t284], .int .u64 t285]), (34, .agg #[.int .u32 t277, .int .u32 t278, .int .u32 t279, .int .u32 t280, .int .u32 t281, .int .u32 t282, .int .u32 t283, .int .u32 t284]), (35, .int .u64 t285)]) (fun s_ w' => (w'.cell? ⟨gb275, 0, none⟩ = some (.int .u32 t266) ∧ w'.cell? ⟨gb275, 1, none⟩ = some (.int .u32 t267) ∧ w'.cell? ⟨gb275, 2, none⟩ = some (.int .u32 t268) ∧ w'.cell? ⟨gb275, 3, none⟩ = some (.int .u32 t269) ∧ w'.cell? ⟨gb275, 4, none⟩ = some (.int .u32 t270) ∧ w'.cell? ⟨gb275, 5, none⟩ = some (.int .u32 t271) ∧ w'.cell? ⟨gb275, 6, none⟩ = some (.int .u32 t272) ∧ w'.cell? ⟨gb275, 7, none⟩ = some (.int .u32 t273) ∧ w'.cell? ⟨gb249, 0, none⟩ = some (.int .u32 a0_0) ∧ w'.cell? ⟨gb249, 1, none⟩ = some (.bool a0_1)) ∧ (w'.heap[gb249]? = some (.cells #[.int .u32 a0_0, .bool a0_1] 34 (0, 0))) ∧ (w'.heap[gb275]? = some (.cells #[.int .u32 t266, .int .u32 t267, .int .u32 t268, .int .u32 t269, .int .u32 t270, .int .u32 t271, .int .u32 t272, .int .u32 t273] 61 (0, 0))) ∧ (w'.heap[s_]? = some (.cells #[.int .u32 0, .int .u32 0, .int .u32 0, .int .u32 0, .int .u32 0, .int .u32 0, .int .u32 0, .int .u32 0] 61 (0, 0))) ∧ (w.heap.size ≤ s_) ∧ (w.heap.size ≤ s_) ∧ (gb249 ≠ s_) ∧ (s_ ≠ gb249) ∧ (gb275 ≠ s_) ∧ (s_ ≠ gb275) ∧ (Below w.heap.size w w')) ?_ ?_
 rotate_left
 ·
  intro hCont
  refine two_ (i := 2) (j := 7) (Ni := some 32) (Nj := some 12) #[true, true, true, false, false, false, false, false, false, false] #[true, true, false, false, false, false, false, true, false, false] rfl rfl rfl rfl (two_of HT_.out (by kernel_rfl)) (by decide) (by decide) (fun K hK => ?_) (fun K hK => ?_)
  ·
   skip
   refine goes_ Tryd.func7 (by kernel_rfl) rfl #[.agg #[.int .u32 a0_0, .bool a0_1]] (by rfl) rfl rfl (by (try simp only [List.map_toArray, List.map_cons, List.map_nil]); first | done | rfl | (simp only [List.length_drop, List.length_take]; rfl)) ?_
   with_reducible refine (arrearsref09_Unit.calls a0_0 a0_1 t276 _ A8.out).mono ?_
   rintro e w21 ⟨rfl, hb⟩
   refine ⟨_, rfl, ?_⟩
   have n0_ := Aside0.mk (blk_below (g := gb249) (o := .cells #[.int .u32 a0_0, .bool a0_1] 34 (0, 0)) (by (with_reducible repeat (first | refine blk_drewN ?_ _ | refine blk_drew ?_ | refine blk_alloc ?_ _)); exact BK249.out) hb)
   have n1_ := Aside0.mk (blk_below (g := gb275) (o := .cells #[.int .u32 t266, .int .u32 t267, .int .u32 t268, .int .u32 t269, .int .u32 t270, .int .u32 t271, .int .u32 t272, .int .u32 t273] 61 (0, 0)) (by (with_reducible repeat (first | refine blk_drewN ?_ _ | refine blk_drew ?_ | refine blk_alloc ?_ _)); exact BK275.out) hb)
   have n2_ := Aside0.mk (below_step (by repeat (first | (with_reducible first | exact HB.out | apply below_alloc | apply pw_below_drewN | apply below_drew1 | refine below_set ?_ GE249.out | refine below_set ?_ GE275.out) | exact HB.out)) hb)
   clear BK249
   clear BK275
   clear HB
   have BK249 := n0_
   have BK275 := n1_
   have HB := n2_
   clear n0_ n1_ n2_
   (try clear hb)
   (try clear hb2)
   (try clear hk)
   (try clear hi)
   refine hK.out _ _ ⟨(blk_cell BK275.out 0).trans rfl, (blk_cell BK275.out 1).trans rfl, (blk_cell BK275.out 2).trans rfl, (blk_cell BK275.out 3).trans rfl, (blk_cell BK275.out 4).trans rfl, (blk_cell BK275.out 5).trans rfl, (blk_cell BK275.out 6).trans rfl, (blk_cell BK275.out 7).trans rfl, (blk_cell BK249.out 0).trans rfl, (blk_cell BK249.out 1).trans rfl⟩ (fun hHeld => ?_)
   clear hK K
   refine norm_ (a' := ?_) ?_ ?_
   rotate_left
   ·
    show Act.put _ (some 32) _ = _
    simp only [Act.put, List.setIfInBounds_toArray, List.set_cons_zero, List.set_cons_succ, i64_w, i32_w]
    rfl
   refine two_ (i := 3) (j := 7) (Ni := some 33) (Nj := some 12) #[true, true, true, true, false, false, false, false, false, false] #[true, true, true, false, false, false, false, true, false, false] rfl rfl rfl rfl (two_of HT_.out (by kernel_rfl)) (by decide) (by decide) (fun K hK => ?_) (fun K hK => ?_)
   ·
    skip
    refine goes_ Tryd.func28 (by kernel_rfl) rfl #[.agg #[.int .u32 t266, .int .u32 t267, .int .u32 t268, .int .u32 t269, .int .u32 t270, .int .u32 t271, .int .u32 t272, .int .u32 t273], .int .u64 t276] (by rfl) rfl rfl (by (try simp only [List.map_toArray, List.map_cons, List.map_nil]); first | done | rfl | (simp only [List.length_drop, List.length_take]; rfl)) ?_
    with_reducible refine (arrearsref03_Div.calls t266 t267 t268 t269 t270 t271 t272 t273 t276 t277 t278 t279 t280 t281 t282 t283 t284 t285 _ A9.out).mono ?_
    rintro e w22 ⟨rfl, hb⟩
    refine ⟨_, rfl, ?_⟩
    have n0_ := Aside0.mk (blk_below (g := gb249) (o := .cells #[.int .u32 a0_0, .bool a0_1] 34 (0, 0)) (by (with_reducible repeat (first | refine blk_drewN ?_ _ | refine blk_drew ?_ | refine blk_alloc ?_ _)); exact BK249.out) hb)
    have n1_ := Aside0.mk (blk_below (g := gb275) (o := .cells #[.int .u32 t266, .int .u32 t267, .int .u32 t268, .int .u32 t269, .int .u32 t270, .int .u32 t271, .int .u32 t272, .int .u32 t273] 61 (0, 0)) (by (with_reducible repeat (first | refine blk_drewN ?_ _ | refine blk_drew ?_ | refine blk_alloc ?_ _)); exact BK275.out) hb)
    have n2_ := Aside0.mk (below_step (by repeat (first | (with_reducible first | exact HB.out | apply below_alloc | apply pw_below_drewN | apply below_drew1 | refine below_set ?_ GE249.out | refine below_set ?_ GE275.out) | exact HB.out)) hb)
    clear BK249
    clear BK275
    clear HB
    have BK249 := n0_
    have BK275 := n1_
    have HB := n2_
    clear n0_ n1_ n2_
    (try clear hb)
    (try clear hb2)
    (try clear hk)
    (try clear hi)
    refine hK.out _ _ ⟨(blk_cell BK275.out 0).trans rfl, (blk_cell BK275.out 1).trans rfl, (blk_cell BK275.out 2).trans rfl, (blk_cell BK275.out 3).trans rfl, (blk_cell BK275.out 4).trans rfl, (blk_cell BK275.out 5).trans rfl, (blk_cell BK275.out 6).trans rfl, (blk_cell BK275.out 7).trans rfl, (blk_cell BK249.out 0).trans rfl, (blk_cell BK249.out 1).trans rfl⟩ (fun hHeld => ?_)
    clear hK K
    refine norm_ (a' := ?_) ?_ ?_
    rotate_left
    ·
     show Act.put _ (some 33) _ = _
     simp only [Act.put, List.setIfInBounds_toArray, List.set_cons_zero, List.set_cons_succ, i64_w, i32_w]
     rfl
    refine pure_ (i := 4) (N := some 29) (v := ?_) (a' := ?_) #[true, true, true, true, true, false, false, false, false, false] rfl rfl (any_of HT_.out (by kernel_rfl)) (fun _ _ _ h => h) (Or.inl ⟨by rfl, ?_⟩) ?_ ?_
    rotate_left
    ·
     intro w'
     go_simp
     with_reducible rfl
    rotate_left
    ·
     simp only [Act.put, List.setIfInBounds_toArray, List.set_cons_zero, List.set_cons_succ, i64_w, i32_w]
     rfl
    refine pure_ (i := 5) (N := some 34) (v := ?_) (a' := ?_) #[true, true, true, true, true, true, false, false, false, false] rfl rfl (any_of HT_.out (by kernel_rfl)) (fun _ _ _ h => h) (Or.inl ⟨by rfl, ?_⟩) ?_ ?_
    rotate_left
    ·
     intro w'
     go_simp
     with_reducible rfl
    rotate_left
    ·
     simp only [Act.put, List.setIfInBounds_toArray, List.set_cons_zero, List.set_cons_succ, i64_w, i32_w]
     rfl
    refine pure_ (i := 6) (N := some 35) (v := ?_) (a' := ?_) #[true, true, true, true, true, true, true, false, false, false] rfl rfl (any_of HT_.out (by kernel_rfl)) (fun _ _ _ h => h) (Or.inl ⟨by rfl, ?_⟩) ?_ ?_
    rotate_left
    ·
     intro w'
     go_simp
     with_reducible rfl
    rotate_left
    ·
     simp only [Act.put, List.setIfInBounds_toArray, List.set_cons_zero, List.set_cons_succ, i64_w, i32_w]
     rfl
    refine one_ (i := 7) (N := some 12) #[true, true, true, true, true, true, true, true, false, false] rfl rfl (one_of HT_.out (by kernel_rfl)) (by decide) (fun K hK => ?_)
    refine box_step ?hg (N := 12) ?hd (cs := #[.int .u32 0, .int .u32 0, .int .u32 0, .int .u32 0, .int .u32 0, .int .u32 0, .int .u32 0, .int .u32 0]) (t := 61) ?hr ?_; (case hd => rfl); (case hg => rfl); (case hr => first | (go_simp; done) | (go_simp; rfl))
    intro gb286 hg w23 hbox hb
    have n0_ := Aside0.mk (blk_below (g := gb249) (o := .cells #[.int .u32 a0_0, .bool a0_1] 34 (0, 0)) (by (with_reducible repeat (first | refine blk_drewN ?_ _ | refine blk_drew ?_ | refine blk_alloc ?_ _)); exact BK249.out) hb)
    have n1_ := Aside0.mk (blk_below (g := gb275) (o := .cells #[.int .u32 t266, .int .u32 t267, .int .u32 t268, .int .u32 t269, .int .u32 t270, .int .u32 t271, .int .u32 t272, .int .u32 t273] 61 (0, 0)) (by (with_reducible repeat (first | refine blk_drewN ?_ _ | refine blk_drew ?_ | refine blk_alloc ?_ _)); exact BK275.out) hb)
    have n2_ := Aside0.mk (below_step (by repeat (first | (with_reducible first | exact HB.out | apply below_alloc | apply pw_below_drewN | apply below_drew1 | refine below_set ?_ GE249.out | refine below_set ?_ GE275.out) | exact HB.out)) hb)
    have n3_ := Aside0.mk (hbox)
    have n4_ := Aside0.mk ((by rw [hg]; exact (below_size (by repeat (first | (with_reducible first | exact HB.out | apply below_alloc | apply pw_below_drewN | apply below_drew1 | refine below_set ?_ GE249.out | refine below_set ?_ GE275.out) | exact HB.out))) : w.heap.size ≤ gb286))
    have n5_ := Aside0.mk ((by rw [hg]; exact (below_size (by repeat (first | (with_reducible first | exact HB.out | apply below_alloc | apply pw_below_drewN | apply below_drew1 | refine below_set ?_ GE249.out | refine below_set ?_ GE275.out) | exact HB.out))) : w.heap.size ≤ gb286))
    have n6_ := Aside0.mk ((by rw [hg]; exact Nat.ne_of_lt (blk_lt (g := gb249) (o := .cells #[.int .u32 a0_0, .bool a0_1] 34 (0, 0)) (by (with_reducible repeat (first | refine blk_drewN ?_ _ | refine blk_drew ?_ | refine blk_alloc ?_ _)); exact BK249.out)) : gb249 ≠ gb286))
    have n7_ := Aside0.mk ((by rw [hg]; exact Nat.ne_of_gt (blk_lt (g := gb249) (o := .cells #[.int .u32 a0_0, .bool a0_1] 34 (0, 0)) (by (with_reducible repeat (first | refine blk_drewN ?_ _ | refine blk_drew ?_ | refine blk_alloc ?_ _)); exact BK249.out)) : gb286 ≠ gb249))
    have n8_ := Aside0.mk ((by rw [hg]; exact Nat.ne_of_lt (blk_lt (g := gb275) (o := .cells #[.int .u32 t266, .int .u32 t267, .int .u32 t268, .int .u32 t269, .int .u32 t270, .int .u32 t271, .int .u32 t272, .int .u32 t273] 61 (0, 0)) (by (with_reducible repeat (first | refine blk_drewN ?_ _ | refine blk_drew ?_ | refine blk_alloc ?_ _)); exact BK275.out)) : gb275 ≠ gb286))
    have n9_ := Aside0.mk ((by rw [hg]; exact Nat.ne_of_gt (blk_lt (g := gb275) (o := .cells #[.int .u32 t266, .int .u32 t267, .int .u32 t268, .int .u32 t269, .int .u32 t270, .int .u32 t271, .int .u32 t272, .int .u32 t273] 61 (0, 0)) (by (with_reducible repeat (first | refine blk_drewN ?_ _ | refine blk_drew ?_ | refine blk_alloc ?_ _)); exact BK275.out)) : gb286 ≠ gb275))
    clear BK249
    clear BK275
    clear HB
    have BK249 := n0_
    have BK275 := n1_
    have HB := n2_
    have BK286 := n3_
    have GW286 := n4_
    have GE286 := n5_
    have NB249_286 := n6_
    have NB286_249 := n7_
    have NB275_286 := n8_
    have NB286_275 := n9_
    clear n0_ n1_ n2_ n3_ n4_ n5_ n6_ n7_ n8_ n9_
    clear hb hbox hg
    refine hK.out _ _ ⟨(blk_cell BK275.out 0).trans rfl, (blk_cell BK275.out 1).trans rfl, (blk_cell BK275.out 2).trans rfl, (blk_cell BK275.out 3).trans rfl, (blk_cell BK275.out 4).trans rfl, (blk_cell BK275.out 5).trans rfl, (blk_cell BK275.out 6).trans rfl, (blk_cell BK275.out 7).trans rfl, (blk_cell BK249.out 0).trans rfl, (blk_cell BK249.out 1).trans rfl⟩ (fun hHeld => ?_)
    clear hK K
    refine norm_ (a' := ?_) ?_ ?_
    rotate_left
    ·
     show Act.put _ (some 12) _ = _
     simp only [Act.put, List.setIfInBounds_toArray, List.set_cons_zero, List.set_cons_succ, i64_w, i32_w]
     rfl
    exact norm_ (by first | (simp only [putAll, Act.put, List.setIfInBounds_toArray, List.set_cons_zero, List.set_cons_succ]; done) | (simp only [putAll, Act.put, List.setIfInBounds_toArray, List.set_cons_zero, List.set_cons_succ, i64_w, i32_w]; done) | (simp only [putAll, Act.put, List.setIfInBounds_toArray, List.set_cons_zero, List.set_cons_succ, i64_w, i32_w]; rfl)) (hCont (gb286) _ ⟨hHeld, (by (with_reducible repeat (first | refine blk_drewN ?_ _ | refine blk_drew ?_ | refine blk_alloc ?_ _)); exact BK249.out), (by (with_reducible repeat (first | refine blk_drewN ?_ _ | refine blk_drew ?_ | refine blk_alloc ?_ _)); exact BK275.out), (by (with_reducible repeat (first | refine blk_drewN ?_ _ | refine blk_drew ?_ | refine blk_alloc ?_ _)); exact BK286.out), GW286.out, GE286.out, NB249_286.out, NB286_249.out, NB275_286.out, NB286_275.out, (by repeat (first | (with_reducible first | exact HB.out | apply below_alloc | apply pw_below_drewN | apply below_drew1 | refine below_set ?_ GE249.out | refine below_set ?_ GE275.out | refine below_set ?_ GE286.out) | exact HB.out))⟩)
   ·
    skip
    refine box_step ?hg (N := 12) ?hd (cs := #[.int .u32 0, .int .u32 0, .int .u32 0, .int .u32 0, .int .u32 0, .int .u32 0, .int .u32 0, .int .u32 0]) (t := 61) ?hr ?_; (case hd => rfl); (case hg => rfl); (case hr => first | (go_simp; done) | (go_simp; rfl))
    intro gb286 hg w22 hbox hb
    have n0_ := Aside0.mk (blk_below (g := gb249) (o := .cells #[.int .u32 a0_0, .bool a0_1] 34 (0, 0)) (by (with_reducible repeat (first | refine blk_drewN ?_ _ | refine blk_drew ?_ | refine blk_alloc ?_ _)); exact BK249.out) hb)
    have n1_ := Aside0.mk (blk_below (g := gb275) (o := .cells #[.int .u32 t266, .int .u32 t267, .int .u32 t268, .int .u32 t269, .int .u32 t270, .int .u32 t271, .int .u32 t272, .int .u32 t273] 61 (0, 0)) (by (with_reducible repeat (first | refine blk_drewN ?_ _ | refine blk_drew ?_ | refine blk_alloc ?_ _)); exact BK275.out) hb)
    have n2_ := Aside0.mk (below_step (by repeat (first | (with_reducible first | exact HB.out | apply below_alloc | apply pw_below_drewN | apply below_drew1 | refine below_set ?_ GE249.out | refine below_set ?_ GE275.out) | exact HB.out)) hb)
    have n3_ := Aside0.mk (hbox)
    have n4_ := Aside0.mk ((by rw [hg]; exact (below_size (by repeat (first | (with_reducible first | exact HB.out | apply below_alloc | apply pw_below_drewN | apply below_drew1 | refine below_set ?_ GE249.out | refine below_set ?_ GE275.out) | exact HB.out))) : w.heap.size ≤ gb286))
    have n5_ := Aside0.mk ((by rw [hg]; exact (below_size (by repeat (first | (with_reducible first | exact HB.out | apply below_alloc | apply pw_below_drewN | apply below_drew1 | refine below_set ?_ GE249.out | refine below_set ?_ GE275.out) | exact HB.out))) : w.heap.size ≤ gb286))
    have n6_ := Aside0.mk ((by rw [hg]; exact Nat.ne_of_lt (blk_lt (g := gb249) (o := .cells #[.int .u32 a0_0, .bool a0_1] 34 (0, 0)) (by (with_reducible repeat (first | refine blk_drewN ?_ _ | refine blk_drew ?_ | refine blk_alloc ?_ _)); exact BK249.out)) : gb249 ≠ gb286))
    have n7_ := Aside0.mk ((by rw [hg]; exact Nat.ne_of_gt (blk_lt (g := gb249) (o := .cells #[.int .u32 a0_0, .bool a0_1] 34 (0, 0)) (by (with_reducible repeat (first | refine blk_drewN ?_ _ | refine blk_drew ?_ | refine blk_alloc ?_ _)); exact BK249.out)) : gb286 ≠ gb249))
    have n8_ := Aside0.mk ((by rw [hg]; exact Nat.ne_of_lt (blk_lt (g := gb275) (o := .cells #[.int .u32 t266, .int .u32 t267, .int .u32 t268, .int .u32 t269, .int .u32 t270, .int .u32 t271, .int .u32 t272, .int .u32 t273] 61 (0, 0)) (by (with_reducible repeat (first | refine blk_drewN ?_ _ | refine blk_drew ?_ | refine blk_alloc ?_ _)); exact BK275.out)) : gb275 ≠ gb286))
    have n9_ := Aside0.mk ((by rw [hg]; exact Nat.ne_of_gt (blk_lt (g := gb275) (o := .cells #[.int .u32 t266, .int .u32 t267, .int .u32 t268, .int .u32 t269, .int .u32 t270, .int .u32 t271, .int .u32 t272, .int .u32 t273] 61 (0, 0)) (by (with_reducible repeat (first | refine blk_drewN ?_ _ | refine blk_drew ?_ | refine blk_alloc ?_ _)); exact BK275.out)) : gb286 ≠ gb275))
    clear BK249
    clear BK275
    clear HB
    have BK249 := n0_
    have BK275 := n1_
    have HB := n2_
    have BK286 := n3_
    have GW286 := n4_
    have GE286 := n5_
    have NB249_286 := n6_
    have NB286_249 := n7_
    have NB275_286 := n8_
    have NB286_275 := n9_
    clear n0_ n1_ n2_ n3_ n4_ n5_ n6_ n7_ n8_ n9_
    clear hb hbox hg
    refine hK.out _ _ ⟨(blk_cell BK275.out 0).trans rfl, (blk_cell BK275.out 1).trans rfl, (blk_cell BK275.out 2).trans rfl, (blk_cell BK275.out 3).trans rfl, (blk_cell BK275.out 4).trans rfl, (blk_cell BK275.out 5).trans rfl, (blk_cell BK275.out 6).trans rfl, (blk_cell BK275.out 7).trans rfl, (blk_cell BK249.out 0).trans rfl, (blk_cell BK249.out 1).trans rfl⟩ (fun hHeld => ?_)
    clear hK K
    refine norm_ (a' := ?_) ?_ ?_
    rotate_left
    ·
     show Act.put _ (some 12) _ = _
     simp only [Act.put, List.setIfInBounds_toArray, List.set_cons_zero, List.set_cons_succ, i64_w, i32_w]
     rfl
    refine one_ (i := 3) (N := some 33) #[true, true, true, true, false, false, false, true, false, false] rfl rfl (one_of HT_.out (by kernel_rfl)) (by decide) (fun K hK => ?_)
    refine goes_ Tryd.func28 (by kernel_rfl) rfl #[.agg #[.int .u32 t266, .int .u32 t267, .int .u32 t268, .int .u32 t269, .int .u32 t270, .int .u32 t271, .int .u32 t272, .int .u32 t273], .int .u64 t276] (by rfl) rfl rfl (by (try simp only [List.map_toArray, List.map_cons, List.map_nil]); first | done | rfl | (simp only [List.length_drop, List.length_take]; rfl)) ?_
    with_reducible refine (arrearsref03_Div.calls t266 t267 t268 t269 t270 t271 t272 t273 t276 t277 t278 t279 t280 t281 t282 t283 t284 t285 _ A9.out).mono ?_
    rintro e w23 ⟨rfl, hb⟩
    refine ⟨_, rfl, ?_⟩
    have n0_ := Aside0.mk (blk_below (g := gb249) (o := .cells #[.int .u32 a0_0, .bool a0_1] 34 (0, 0)) (by (with_reducible repeat (first | refine blk_drewN ?_ _ | refine blk_drew ?_ | refine blk_alloc ?_ _)); exact BK249.out) hb)
    have n1_ := Aside0.mk (blk_below (g := gb275) (o := .cells #[.int .u32 t266, .int .u32 t267, .int .u32 t268, .int .u32 t269, .int .u32 t270, .int .u32 t271, .int .u32 t272, .int .u32 t273] 61 (0, 0)) (by (with_reducible repeat (first | refine blk_drewN ?_ _ | refine blk_drew ?_ | refine blk_alloc ?_ _)); exact BK275.out) hb)
    have n2_ := Aside0.mk (blk_below (g := gb286) (o := .cells #[.int .u32 0, .int .u32 0, .int .u32 0, .int .u32 0, .int .u32 0, .int .u32 0, .int .u32 0, .int .u32 0] 61 (0, 0)) (by (with_reducible repeat (first | refine blk_drewN ?_ _ | refine blk_drew ?_ | refine blk_alloc ?_ _)); exact BK286.out) hb)
    have n3_ := Aside0.mk (below_step (by repeat (first | (with_reducible first | exact HB.out | apply below_alloc | apply pw_below_drewN | apply below_drew1 | refine below_set ?_ GE249.out | refine below_set ?_ GE275.out | refine below_set ?_ GE286.out) | exact HB.out)) hb)
    clear BK249
    clear BK275
    clear BK286
    clear HB
    have BK249 := n0_
    have BK275 := n1_
    have BK286 := n2_
    have HB := n3_
    clear n0_ n1_ n2_ n3_
    (try clear hb)
    (try clear hb2)
    (try clear hk)
    (try clear hi)
    refine hK.out _ _ ⟨(blk_cell BK275.out 0).trans rfl, (blk_cell BK275.out 1).trans rfl, (blk_cell BK275.out 2).trans rfl, (blk_cell BK275.out 3).trans rfl, (blk_cell BK275.out 4).trans rfl, (blk_cell BK275.out 5).trans rfl, (blk_cell BK275.out 6).trans rfl, (blk_cell BK275.out 7).trans rfl, (blk_cell BK249.out 0).trans rfl, (blk_cell BK249.out 1).trans rfl⟩ (fun hHeld => ?_)
    clear hK K
    refine norm_ (a' := ?_) ?_ ?_
    rotate_left
    ·
     show Act.put _ (some 33) _ = _
     simp only [Act.put, List.setIfInBounds_toArray, List.set_cons_zero, List.set_cons_succ, i64_w, i32_w]
     rfl
    refine pure_ (i := 4) (N := some 29) (v := ?_) (a' := ?_) #[true, true, true, true, true, false, false, true, false, false] rfl rfl (any_of HT_.out (by kernel_rfl)) (fun _ _ _ h => h) (Or.inl ⟨by rfl, ?_⟩) ?_ ?_
    rotate_left
    ·
     intro w'
     go_simp
     with_reducible rfl
    rotate_left
    ·
     simp only [Act.put, List.setIfInBounds_toArray, List.set_cons_zero, List.set_cons_succ, i64_w, i32_w]
     rfl
    refine pure_ (i := 5) (N := some 34) (v := ?_) (a' := ?_) #[true, true, true, true, true, true, false, true, false, false] rfl rfl (any_of HT_.out (by kernel_rfl)) (fun _ _ _ h => h) (Or.inl ⟨by rfl, ?_⟩) ?_ ?_
    rotate_left
    ·
     intro w'
     go_simp
     with_reducible rfl
    rotate_left
    ·
     simp only [Act.put, List.setIfInBounds_toArray, List.set_cons_zero, List.set_cons_succ, i64_w, i32_w]
     rfl
    refine pure_ (i := 6) (N := some 35) (v := ?_) (a' := ?_) #[true, true, true, true, true, true, true, true, false, false] rfl rfl (any_of HT_.out (by kernel_rfl)) (fun _ _ _ h => h) (Or.inl ⟨by rfl, ?_⟩) ?_ ?_
    rotate_left
    ·
     intro w'
     go_simp
     with_reducible rfl
    rotate_left
    ·
     simp only [Act.put, List.setIfInBounds_toArray, List.set_cons_zero, List.set_cons_succ, i64_w, i32_w]
     rfl
    exact norm_ (by first | (simp only [putAll, Act.put, List.setIfInBounds_toArray, List.set_cons_zero, List.set_cons_succ]; done) | (simp only [putAll, Act.put, List.setIfInBounds_toArray, List.set_cons_zero, List.set_cons_succ, i64_w, i32_w]; done) | (simp only [putAll, Act.put, List.setIfInBounds_toArray, List.set_cons_zero, List.set_cons_succ, i64_w, i32_w]; rfl)) (hCont (gb286) _ ⟨hHeld, (by (with_reducible repeat (first | refine blk_drewN ?_ _ | refine blk_drew ?_ | refine blk_alloc ?_ _)); exact BK249.out), (by (with_reducible repeat (first | refine blk_drewN ?_ _ | refine blk_drew ?_ | refine blk_alloc ?_ _)); exact BK275.out), (by (with_reducible repeat (first | refine blk_drewN ?_ _ | refine blk_drew ?_ | refine blk_alloc ?_ _)); exact BK286.out), GW286.out, GE286.out, NB249_286.out, NB286_249.out, NB275_286.out, NB286_275.out, (by repeat (first | (with_reducible first | exact HB.out | apply below_alloc | apply pw_below_drewN | apply below_drew1 | refine below_set ?_ GE249.out | refine below_set ?_ GE275.out | refine below_set ?_ GE286.out) | exact HB.out))⟩)
  ·
   skip
   refine box_step ?hg (N := 12) ?hd (cs := #[.int .u32 0, .int .u32 0, .int .u32 0, .int .u32 0, .int .u32 0, .int .u32 0, .int .u32 0, .int .u32 0]) (t := 61) ?hr ?_; (case hd => rfl); (case hg => rfl); (case hr => first | (go_simp; done) | (go_simp; rfl))
   intro gb286 hg w21 hbox hb
   have n0_ := Aside0.mk (blk_below (g := gb249) (o := .cells #[.int .u32 a0_0, .bool a0_1] 34 (0, 0)) (by (with_reducible repeat (first | refine blk_drewN ?_ _ | refine blk_drew ?_ | refine blk_alloc ?_ _)); exact BK249.out) hb)
   have n1_ := Aside0.mk (blk_below (g := gb275) (o := .cells #[.int .u32 t266, .int .u32 t267, .int .u32 t268, .int .u32 t269, .int .u32 t270, .int .u32 t271, .int .u32 t272, .int .u32 t273] 61 (0, 0)) (by (with_reducible repeat (first | refine blk_drewN ?_ _ | refine blk_drew ?_ | refine blk_alloc ?_ _)); exact BK275.out) hb)
   have n2_ := Aside0.mk (below_step (by repeat (first | (with_reducible first | exact HB.out | apply below_alloc | apply pw_below_drewN | apply below_drew1 | refine below_set ?_ GE249.out | refine below_set ?_ GE275.out) | exact HB.out)) hb)
   have n3_ := Aside0.mk (hbox)
   have n4_ := Aside0.mk ((by rw [hg]; exact (below_size (by repeat (first | (with_reducible first | exact HB.out | apply below_alloc | apply pw_below_drewN | apply below_drew1 | refine below_set ?_ GE249.out | refine below_set ?_ GE275.out) | exact HB.out))) : w.heap.size ≤ gb286))
   have n5_ := Aside0.mk ((by rw [hg]; exact (below_size (by repeat (first | (with_reducible first | exact HB.out | apply below_alloc | apply pw_below_drewN | apply below_drew1 | refine below_set ?_ GE249.out | refine below_set ?_ GE275.out) | exact HB.out))) : w.heap.size ≤ gb286))
   have n6_ := Aside0.mk ((by rw [hg]; exact Nat.ne_of_lt (blk_lt (g := gb249) (o := .cells #[.int .u32 a0_0, .bool a0_1] 34 (0, 0)) (by (with_reducible repeat (first | refine blk_drewN ?_ _ | refine blk_drew ?_ | refine blk_alloc ?_ _)); exact BK249.out)) : gb249 ≠ gb286))
   have n7_ := Aside0.mk ((by rw [hg]; exact Nat.ne_of_gt (blk_lt (g := gb249) (o := .cells #[.int .u32 a0_0, .bool a0_1] 34 (0, 0)) (by (with_reducible repeat (first | refine blk_drewN ?_ _ | refine blk_drew ?_ | refine blk_alloc ?_ _)); exact BK249.out)) : gb286 ≠ gb249))
   have n8_ := Aside0.mk ((by rw [hg]; exact Nat.ne_of_lt (blk_lt (g := gb275) (o := .cells #[.int .u32 t266, .int .u32 t267, .int .u32 t268, .int .u32 t269, .int .u32 t270, .int .u32 t271, .int .u32 t272, .int .u32 t273] 61 (0, 0)) (by (with_reducible repeat (first | refine blk_drewN ?_ _ | refine blk_drew ?_ | refine blk_alloc ?_ _)); exact BK275.out)) : gb275 ≠ gb286))
   have n9_ := Aside0.mk ((by rw [hg]; exact Nat.ne_of_gt (blk_lt (g := gb275) (o := .cells #[.int .u32 t266, .int .u32 t267, .int .u32 t268, .int .u32 t269, .int .u32 t270, .int .u32 t271, .int .u32 t272, .int .u32 t273] 61 (0, 0)) (by (with_reducible repeat (first | refine blk_drewN ?_ _ | refine blk_drew ?_ | refine blk_alloc ?_ _)); exact BK275.out)) : gb286 ≠ gb275))
   clear BK249
   clear BK275
   clear HB
   have BK249 := n0_
   have BK275 := n1_
   have HB := n2_
   have BK286 := n3_
   have GW286 := n4_
   have GE286 := n5_
   have NB249_286 := n6_
   have NB286_249 := n7_
   have NB275_286 := n8_
   have NB286_275 := n9_
   clear n0_ n1_ n2_ n3_ n4_ n5_ n6_ n7_ n8_ n9_
   clear hb hbox hg
   refine hK.out _ _ ⟨(blk_cell BK275.out 0).trans rfl, (blk_cell BK275.out 1).trans rfl, (blk_cell BK275.out 2).trans rfl, (blk_cell BK275.out 3).trans rfl, (blk_cell BK275.out 4).trans rfl, (blk_cell BK275.out 5).trans rfl, (blk_cell BK275.out 6).trans rfl, (blk_cell BK275.out 7).trans rfl, (blk_cell BK249.out 0).trans rfl, (blk_cell BK249.out 1).trans rfl⟩ (fun hHeld => ?_)
   clear hK K
   refine norm_ (a' := ?_) ?_ ?_
   rotate_left
   ·
    show Act.put _ (some 12) _ = _
    simp only [Act.put, List.setIfInBounds_toArray, List.set_cons_zero, List.set_cons_succ, i64_w, i32_w]
    rfl
   refine one_ (i := 2) (N := some 32) #[true, true, true, false, false, false, false, true, false, false] rfl rfl (one_of HT_.out (by kernel_rfl)) (by decide) (fun K hK => ?_)
   refine goes_ Tryd.func7 (by kernel_rfl) rfl #[.agg #[.int .u32 a0_0, .bool a0_1]] (by rfl) rfl rfl (by (try simp only [List.map_toArray, List.map_cons, List.map_nil]); first | done | rfl | (simp only [List.length_drop, List.length_take]; rfl)) ?_
   with_reducible refine (arrearsref09_Unit.calls a0_0 a0_1 t276 _ A8.out).mono ?_
   rintro e w22 ⟨rfl, hb⟩
   refine ⟨_, rfl, ?_⟩
   have n0_ := Aside0.mk (blk_below (g := gb249) (o := .cells #[.int .u32 a0_0, .bool a0_1] 34 (0, 0)) (by (with_reducible repeat (first | refine blk_drewN ?_ _ | refine blk_drew ?_ | refine blk_alloc ?_ _)); exact BK249.out) hb)
   have n1_ := Aside0.mk (blk_below (g := gb275) (o := .cells #[.int .u32 t266, .int .u32 t267, .int .u32 t268, .int .u32 t269, .int .u32 t270, .int .u32 t271, .int .u32 t272, .int .u32 t273] 61 (0, 0)) (by (with_reducible repeat (first | refine blk_drewN ?_ _ | refine blk_drew ?_ | refine blk_alloc ?_ _)); exact BK275.out) hb)
   have n2_ := Aside0.mk (blk_below (g := gb286) (o := .cells #[.int .u32 0, .int .u32 0, .int .u32 0, .int .u32 0, .int .u32 0, .int .u32 0, .int .u32 0, .int .u32 0] 61 (0, 0)) (by (with_reducible repeat (first | refine blk_drewN ?_ _ | refine blk_drew ?_ | refine blk_alloc ?_ _)); exact BK286.out) hb)
   have n3_ := Aside0.mk (below_step (by repeat (first | (with_reducible first | exact HB.out | apply below_alloc | apply pw_below_drewN | apply below_drew1 | refine below_set ?_ GE249.out | refine below_set ?_ GE275.out | refine below_set ?_ GE286.out) | exact HB.out)) hb)
   clear BK249
   clear BK275
   clear BK286
   clear HB
   have BK249 := n0_
   have BK275 := n1_
   have BK286 := n2_
   have HB := n3_
   clear n0_ n1_ n2_ n3_
   (try clear hb)
   (try clear hb2)
   (try clear hk)
   (try clear hi)
   refine hK.out _ _ ⟨(blk_cell BK275.out 0).trans rfl, (blk_cell BK275.out 1).trans rfl, (blk_cell BK275.out 2).trans rfl, (blk_cell BK275.out 3).trans rfl, (blk_cell BK275.out 4).trans rfl, (blk_cell BK275.out 5).trans rfl, (blk_cell BK275.out 6).trans rfl, (blk_cell BK275.out 7).trans rfl, (blk_cell BK249.out 0).trans rfl, (blk_cell BK249.out 1).trans rfl⟩ (fun hHeld => ?_)
   clear hK K
   refine norm_ (a' := ?_) ?_ ?_
   rotate_left
   ·
    show Act.put _ (some 32) _ = _
    simp only [Act.put, List.setIfInBounds_toArray, List.set_cons_zero, List.set_cons_succ, i64_w, i32_w]
    rfl
   refine one_ (i := 3) (N := some 33) #[true, true, true, true, false, false, false, true, false, false] rfl rfl (one_of HT_.out (by kernel_rfl)) (by decide) (fun K hK => ?_)
   refine goes_ Tryd.func28 (by kernel_rfl) rfl #[.agg #[.int .u32 t266, .int .u32 t267, .int .u32 t268, .int .u32 t269, .int .u32 t270, .int .u32 t271, .int .u32 t272, .int .u32 t273], .int .u64 t276] (by rfl) rfl rfl (by (try simp only [List.map_toArray, List.map_cons, List.map_nil]); first | done | rfl | (simp only [List.length_drop, List.length_take]; rfl)) ?_
   with_reducible refine (arrearsref03_Div.calls t266 t267 t268 t269 t270 t271 t272 t273 t276 t277 t278 t279 t280 t281 t282 t283 t284 t285 _ A9.out).mono ?_
   rintro e w23 ⟨rfl, hb⟩
   refine ⟨_, rfl, ?_⟩
   have n0_ := Aside0.mk (blk_below (g := gb249) (o := .cells #[.int .u32 a0_0, .bool a0_1] 34 (0, 0)) (by (with_reducible repeat (first | refine blk_drewN ?_ _ | refine blk_drew ?_ | refine blk_alloc ?_ _)); exact BK249.out) hb)
   have n1_ := Aside0.mk (blk_below (g := gb275) (o := .cells #[.int .u32 t266, .int .u32 t267, .int .u32 t268, .int .u32 t269, .int .u32 t270, .int .u32 t271, .int .u32 t272, .int .u32 t273] 61 (0, 0)) (by (with_reducible repeat (first | refine blk_drewN ?_ _ | refine blk_drew ?_ | refine blk_alloc ?_ _)); exact BK275.out) hb)
   have n2_ := Aside0.mk (blk_below (g := gb286) (o := .cells #[.int .u32 0, .int .u32 0, .int .u32 0, .int .u32 0, .int .u32 0, .int .u32 0, .int .u32 0, .int .u32 0] 61 (0, 0)) (by (with_reducible repeat (first | refine blk_drewN ?_ _ | refine blk_drew ?_ | refine blk_alloc ?_ _)); exact BK286.out) hb)
   have n3_ := Aside0.mk (below_step (by repeat (first | (with_reducible first | exact HB.out | apply below_alloc | apply pw_below_drewN | apply below_drew1 | refine below_set ?_ GE249.out | refine below_set ?_ GE275.out | refine below_set ?_ GE286.out) | exact HB.out)) hb)
   clear BK249
   clear BK275
   clear BK286
   clear HB
   have BK249 := n0_
   have BK275 := n1_
   have BK286 := n2_
   have HB := n3_
   clear n0_ n1_ n2_ n3_
   (try clear hb)
   (try clear hb2)
   (try clear hk)
   (try clear hi)
   refine hK.out _ _ ⟨(blk_cell BK275.out 0).trans rfl, (blk_cell BK275.out 1).trans rfl, (blk_cell BK275.out 2).trans rfl, (blk_cell BK275.out 3).trans rfl, (blk_cell BK275.out 4).trans rfl, (blk_cell BK275.out 5).trans rfl, (blk_cell BK275.out 6).trans rfl, (blk_cell BK275.out 7).trans rfl, (blk_cell BK249.out 0).trans rfl, (blk_cell BK249.out 1).trans rfl⟩ (fun hHeld => ?_)
   clear hK K
   refine norm_ (a' := ?_) ?_ ?_
   rotate_left
   ·
    show Act.put _ (some 33) _ = _
    simp only [Act.put, List.setIfInBounds_toArray, List.set_cons_zero, List.set_cons_succ, i64_w, i32_w]
    rfl
   refine pure_ (i := 4) (N := some 29) (v := ?_) (a' := ?_) #[true, true, true, true, true, false, false, true, false, false] rfl rfl (any_of HT_.out (by kernel_rfl)) (fun _ _ _ h => h) (Or.inl ⟨by rfl, ?_⟩) ?_ ?_
   rotate_left
   ·
    intro w'
    go_simp
    with_reducible rfl
   rotate_left
   ·
    simp only [Act.put, List.setIfInBounds_toArray, List.set_cons_zero, List.set_cons_succ, i64_w, i32_w]
    rfl
   refine pure_ (i := 5) (N := some 34) (v := ?_) (a' := ?_) #[true, true, true, true, true, true, false, true, false, false] rfl rfl (any_of HT_.out (by kernel_rfl)) (fun _ _ _ h => h) (Or.inl ⟨by rfl, ?_⟩) ?_ ?_
   rotate_left
   ·
    intro w'
    go_simp
    with_reducible rfl
   rotate_left
   ·
    simp only [Act.put, List.setIfInBounds_toArray, List.set_cons_zero, List.set_cons_succ, i64_w, i32_w]
    rfl
   refine pure_ (i := 6) (N := some 35) (v := ?_) (a' := ?_) #[true, true, true, true, true, true, true, true, false, false] rfl rfl (any_of HT_.out (by kernel_rfl)) (fun _ _ _ h => h) (Or.inl ⟨by rfl, ?_⟩) ?_ ?_
   rotate_left
   ·
    intro w'
    go_simp
    with_reducible rfl
   rotate_left
   ·
    simp only [Act.put, List.setIfInBounds_toArray, List.set_cons_zero, List.set_cons_succ, i64_w, i32_w]
    rfl
   exact norm_ (by first | (simp only [putAll, Act.put, List.setIfInBounds_toArray, List.set_cons_zero, List.set_cons_succ]; done) | (simp only [putAll, Act.put, List.setIfInBounds_toArray, List.set_cons_zero, List.set_cons_succ, i64_w, i32_w]; done) | (simp only [putAll, Act.put, List.setIfInBounds_toArray, List.set_cons_zero, List.set_cons_succ, i64_w, i32_w]; rfl)) (hCont (gb286) _ ⟨hHeld, (by (with_reducible repeat (first | refine blk_drewN ?_ _ | refine blk_drew ?_ | refine blk_alloc ?_ _)); exact BK249.out), (by (with_reducible repeat (first | refine blk_drewN ?_ _ | refine blk_drew ?_ | refine blk_alloc ?_ _)); exact BK275.out), (by (with_reducible repeat (first | refine blk_drewN ?_ _ | refine blk_drew ?_ | refine blk_alloc ?_ _)); exact BK286.out), GW286.out, GE286.out, NB249_286.out, NB286_249.out, NB275_286.out, NB286_275.out, (by repeat (first | (with_reducible first | exact HB.out | apply below_alloc | apply pw_below_drewN | apply below_drew1 | refine below_set ?_ GE249.out | refine below_set ?_ GE275.out | refine below_set ?_ GE286.out) | exact HB.out))⟩)
 rintro gb286 w24 ⟨hS_, h0_, h1_, h2_, h3_, h4_, h5_, h6_, h7_, h8_, h9_⟩
 have n0_ : Aside0 (w24.heap[gb249]? = some (.cells #[.int .u32 a0_0, .bool a0_1] 34 (0, 0))) := ⟨h0_⟩
 have n1_ : Aside0 (w24.heap[gb275]? = some (.cells #[.int .u32 t266, .int .u32 t267, .int .u32 t268, .int .u32 t269, .int .u32 t270, .int .u32 t271, .int .u32 t272, .int .u32 t273] 61 (0, 0))) := ⟨h1_⟩
 have n2_ : Aside0 (w24.heap[gb286]? = some (.cells #[.int .u32 0, .int .u32 0, .int .u32 0, .int .u32 0, .int .u32 0, .int .u32 0, .int .u32 0, .int .u32 0] 61 (0, 0))) := ⟨h2_⟩
 have n3_ : Aside0 (w.heap.size ≤ gb286) := ⟨h3_⟩
 have n4_ : Aside0 (w.heap.size ≤ gb286) := ⟨h4_⟩
 have n5_ : Aside0 (gb249 ≠ gb286) := ⟨h5_⟩
 have n6_ : Aside0 (gb286 ≠ gb249) := ⟨h6_⟩
 have n7_ : Aside0 (gb275 ≠ gb286) := ⟨h7_⟩
 have n8_ : Aside0 (gb286 ≠ gb275) := ⟨h8_⟩
 have n9_ : Aside0 (Below w.heap.size w w24) := ⟨h9_⟩
 clear BK249
 clear BK275
 clear HB
 clear h0_ h1_ h2_ h3_ h4_ h5_ h6_ h7_ h8_ h9_
 have BK249 := n0_
 have BK275 := n1_
 have BK286 := n2_
 have GW286 := n3_
 have GE286 := n4_
 have NB249_286 := n5_
 have NB286_249 := n6_
 have NB275_286 := n7_
 have NB286_275 := n8_
 have HB := n9_
 clear n0_ n1_ n2_ n3_ n4_ n5_ n6_ n7_ n8_ n9_
 have hHeld : w24.cell? ⟨gb275, 0, none⟩ = some (.int .u32 t266) ∧ w24.cell? ⟨gb275, 1, none⟩ = some (.int .u32 t267) ∧ w24.cell? ⟨gb275, 2, none⟩ = some (.int .u32 t268) ∧ w24.cell? ⟨gb275, 3, none⟩ = some (.int .u32 t269) ∧ w24.cell? ⟨gb275, 4, none⟩ = some (.int .u32 t270) ∧ w24.cell? ⟨gb275, 5, none⟩ = some (.int .u32 t271) ∧ w24.cell? ⟨gb275, 6, none⟩ = some (.int .u32 t272) ∧ w24.cell? ⟨gb275, 7, none⟩ = some (.int .u32 t273) ∧ w24.cell? ⟨gb249, 0, none⟩ = some (.int .u32 a0_0) ∧ w24.cell? ⟨gb249, 1, none⟩ = some (.bool a0_1) := hS_
 refine norm_ (a' := ?_) ?_ ?_
 rotate_left
 ·
  simp only [putAll, Act.put, List.setIfInBounds_toArray, List.set_cons_zero, List.set_cons_succ]
  rfl
 refine one_ (i := 8) (N := none) #[true, true, true, true, true, true, true, true, true, false] rfl rfl (one_of HT_.out (by kernel_rfl)) (by decide) (fun K hK => ?_)
 have hs25 : w24.cell? ⟨gb286, 0, none⟩ = some (.int .u32 0) := (blk_cell BK286.out 0).trans rfl
 have hfs25 := blk_frozen BK286.out 0
 have hns25_0 := NB249_286.out
 have hns25_1 := NB275_286.out
 have hms25_0 := NB286_249.out
 have hms25_1 := NB286_275.out
 have hs26 : w24.cell? ⟨gb286, 1, none⟩ = some (.int .u32 0) := (blk_cell BK286.out 1).trans rfl
 have hfs26 := blk_frozen BK286.out 1
 have hns26_0 := NB249_286.out
 have hns26_1 := NB275_286.out
 have hms26_0 := NB286_249.out
 have hms26_1 := NB286_275.out
 have hs27 : w24.cell? ⟨gb286, 2, none⟩ = some (.int .u32 0) := (blk_cell BK286.out 2).trans rfl
 have hfs27 := blk_frozen BK286.out 2
 have hns27_0 := NB249_286.out
 have hns27_1 := NB275_286.out
 have hms27_0 := NB286_249.out
 have hms27_1 := NB286_275.out
 have hs28 : w24.cell? ⟨gb286, 3, none⟩ = some (.int .u32 0) := (blk_cell BK286.out 3).trans rfl
 have hfs28 := blk_frozen BK286.out 3
 have hns28_0 := NB249_286.out
 have hns28_1 := NB275_286.out
 have hms28_0 := NB286_249.out
 have hms28_1 := NB286_275.out
 have hs29 : w24.cell? ⟨gb286, 4, none⟩ = some (.int .u32 0) := (blk_cell BK286.out 4).trans rfl
 have hfs29 := blk_frozen BK286.out 4
 have hns29_0 := NB249_286.out
 have hns29_1 := NB275_286.out
 have hms29_0 := NB286_249.out
 have hms29_1 := NB286_275.out
 have hs30 : w24.cell? ⟨gb286, 5, none⟩ = some (.int .u32 0) := (blk_cell BK286.out 5).trans rfl
 have hfs30 := blk_frozen BK286.out 5
 have hns30_0 := NB249_286.out
 have hns30_1 := NB275_286.out
 have hms30_0 := NB286_249.out
 have hms30_1 := NB286_275.out
 have hs31 : w24.cell? ⟨gb286, 6, none⟩ = some (.int .u32 0) := (blk_cell BK286.out 6).trans rfl
 have hfs31 := blk_frozen BK286.out 6
 have hns31_0 := NB249_286.out
 have hns31_1 := NB275_286.out
 have hms31_0 := NB286_249.out
 have hms31_1 := NB286_275.out
 have hs32 : w24.cell? ⟨gb286, 7, none⟩ = some (.int .u32 0) := (blk_cell BK286.out 7).trans rfl
 have hfs32 := blk_frozen BK286.out 7
 have hns32_0 := NB249_286.out
 have hns32_1 := NB275_286.out
 have hms32_0 := NB286_249.out
 have hms32_1 := NB286_275.out
 refine skip_ (w1 := ?_) (by rfl) rfl ?_ ?_
 rotate_left
 ·
  go_simp
  rfl
 refine hK.out _ _ ⟨((cell_far (p := ⟨gb286, _, none⟩) NB275_286.out _).trans (((cell_far (p := ⟨gb286, _, none⟩) NB275_286.out _).trans (((cell_far (p := ⟨gb286, _, none⟩) NB275_286.out _).trans (((cell_far (p := ⟨gb286, _, none⟩) NB275_286.out _).trans (((cell_far (p := ⟨gb286, _, none⟩) NB275_286.out _).trans (((cell_far (p := ⟨gb286, _, none⟩) NB275_286.out _).trans (((cell_far (p := ⟨gb286, _, none⟩) NB275_286.out _).trans (((cell_far (p := ⟨gb286, _, none⟩) NB275_286.out _).trans (hHeld.1)))))))))))))))), ((cell_far (p := ⟨gb286, _, none⟩) NB275_286.out _).trans (((cell_far (p := ⟨gb286, _, none⟩) NB275_286.out _).trans (((cell_far (p := ⟨gb286, _, none⟩) NB275_286.out _).trans (((cell_far (p := ⟨gb286, _, none⟩) NB275_286.out _).trans (((cell_far (p := ⟨gb286, _, none⟩) NB275_286.out _).trans (((cell_far (p := ⟨gb286, _, none⟩) NB275_286.out _).trans (((cell_far (p := ⟨gb286, _, none⟩) NB275_286.out _).trans (((cell_far (p := ⟨gb286, _, none⟩) NB275_286.out _).trans (hHeld.2.1)))))))))))))))), ((cell_far (p := ⟨gb286, _, none⟩) NB275_286.out _).trans (((cell_far (p := ⟨gb286, _, none⟩) NB275_286.out _).trans (((cell_far (p := ⟨gb286, _, none⟩) NB275_286.out _).trans (((cell_far (p := ⟨gb286, _, none⟩) NB275_286.out _).trans (((cell_far (p := ⟨gb286, _, none⟩) NB275_286.out _).trans (((cell_far (p := ⟨gb286, _, none⟩) NB275_286.out _).trans (((cell_far (p := ⟨gb286, _, none⟩) NB275_286.out _).trans (((cell_far (p := ⟨gb286, _, none⟩) NB275_286.out _).trans (hHeld.2.2.1)))))))))))))))), ((cell_far (p := ⟨gb286, _, none⟩) NB275_286.out _).trans (((cell_far (p := ⟨gb286, _, none⟩) NB275_286.out _).trans (((cell_far (p := ⟨gb286, _, none⟩) NB275_286.out _).trans (((cell_far (p := ⟨gb286, _, none⟩) NB275_286.out _).trans (((cell_far (p := ⟨gb286, _, none⟩) NB275_286.out _).trans (((cell_far (p := ⟨gb286, _, none⟩) NB275_286.out _).trans (((cell_far (p := ⟨gb286, _, none⟩) NB275_286.out _).trans (((cell_far (p := ⟨gb286, _, none⟩) NB275_286.out _).trans (hHeld.2.2.2.1)))))))))))))))), ((cell_far (p := ⟨gb286, _, none⟩) NB275_286.out _).trans (((cell_far (p := ⟨gb286, _, none⟩) NB275_286.out _).trans (((cell_far (p := ⟨gb286, _, none⟩) NB275_286.out _).trans (((cell_far (p := ⟨gb286, _, none⟩) NB275_286.out _).trans (((cell_far (p := ⟨gb286, _, none⟩) NB275_286.out _).trans (((cell_far (p := ⟨gb286, _, none⟩) NB275_286.out _).trans (((cell_far (p := ⟨gb286, _, none⟩) NB275_286.out _).trans (((cell_far (p := ⟨gb286, _, none⟩) NB275_286.out _).trans (hHeld.2.2.2.2.1)))))))))))))))), ((cell_far (p := ⟨gb286, _, none⟩) NB275_286.out _).trans (((cell_far (p := ⟨gb286, _, none⟩) NB275_286.out _).trans (((cell_far (p := ⟨gb286, _, none⟩) NB275_286.out _).trans (((cell_far (p := ⟨gb286, _, none⟩) NB275_286.out _).trans (((cell_far (p := ⟨gb286, _, none⟩) NB275_286.out _).trans (((cell_far (p := ⟨gb286, _, none⟩) NB275_286.out _).trans (((cell_far (p := ⟨gb286, _, none⟩) NB275_286.out _).trans (((cell_far (p := ⟨gb286, _, none⟩) NB275_286.out _).trans (hHeld.2.2.2.2.2.1)))))))))))))))), ((cell_far (p := ⟨gb286, _, none⟩) NB275_286.out _).trans (((cell_far (p := ⟨gb286, _, none⟩) NB275_286.out _).trans (((cell_far (p := ⟨gb286, _, none⟩) NB275_286.out _).trans (((cell_far (p := ⟨gb286, _, none⟩) NB275_286.out _).trans (((cell_far (p := ⟨gb286, _, none⟩) NB275_286.out _).trans (((cell_far (p := ⟨gb286, _, none⟩) NB275_286.out _).trans (((cell_far (p := ⟨gb286, _, none⟩) NB275_286.out _).trans (((cell_far (p := ⟨gb286, _, none⟩) NB275_286.out _).trans (hHeld.2.2.2.2.2.2.1)))))))))))))))), ((cell_far (p := ⟨gb286, _, none⟩) NB275_286.out _).trans (((cell_far (p := ⟨gb286, _, none⟩) NB275_286.out _).trans (((cell_far (p := ⟨gb286, _, none⟩) NB275_286.out _).trans (((cell_far (p := ⟨gb286, _, none⟩) NB275_286.out _).trans (((cell_far (p := ⟨gb286, _, none⟩) NB275_286.out _).trans (((cell_far (p := ⟨gb286, _, none⟩) NB275_286.out _).trans (((cell_far (p := ⟨gb286, _, none⟩) NB275_286.out _).trans (((cell_far (p := ⟨gb286, _, none⟩) NB275_286.out _).trans (hHeld.2.2.2.2.2.2.2.1)))))))))))))))), ((cell_far (p := ⟨gb286, _, none⟩) NB249_286.out _).trans (((cell_far (p := ⟨gb286, _, none⟩) NB249_286.out _).trans (((cell_far (p := ⟨gb286, _, none⟩) NB249_286.out _).trans (((cell_far (p := ⟨gb286, _, none⟩) NB249_286.out _).trans (((cell_far (p := ⟨gb286, _, none⟩) NB249_286.out _).trans (((cell_far (p := ⟨gb286, _, none⟩) NB249_286.out _).trans (((cell_far (p := ⟨gb286, _, none⟩) NB249_286.out _).trans (((cell_far (p := ⟨gb286, _, none⟩) NB249_286.out _).trans (hHeld.2.2.2.2.2.2.2.2.1)))))))))))))))), ((cell_far (p := ⟨gb286, _, none⟩) NB249_286.out _).trans (((cell_far (p := ⟨gb286, _, none⟩) NB249_286.out _).trans (((cell_far (p := ⟨gb286, _, none⟩) NB249_286.out _).trans (((cell_far (p := ⟨gb286, _, none⟩) NB249_286.out _).trans (((cell_far (p := ⟨gb286, _, none⟩) NB249_286.out _).trans (((cell_far (p := ⟨gb286, _, none⟩) NB249_286.out _).trans (((cell_far (p := ⟨gb286, _, none⟩) NB249_286.out _).trans (((cell_far (p := ⟨gb286, _, none⟩) NB249_286.out _).trans (hHeld.2.2.2.2.2.2.2.2.2))))))))))))))))⟩ (fun hHeld => ?_)
 clear hK K
 refine pure_ (i := 9) (N := some 13) (v := ?_) (a' := ?_) #[true, true, true, true, true, true, true, true, true, true] rfl rfl (any_of HT_.out (by kernel_rfl)) (fun _ _ _ h => h) (Or.inl ⟨by rfl, ?_⟩) ?_ ?_
 rotate_left
 ·
  intro w'
  go_simp
  with_reducible rfl
 rotate_left
 ·
  simp only [Act.put, List.setIfInBounds_toArray, List.set_cons_zero, List.set_cons_succ, i64_w, i32_w]
  rfl
 refine done_ (done_of HT_.out (by kernel_rfl)) ?_
 (try simp only [errW_none, errW_some])
 have hnb33 := NB286_249.out
 have hnc33 := NB249_286.out
 have hnb34 := NB286_275.out
 have hnc34 := NB275_286.out
 have hcz35_0 : w24.cell? ⟨gb286, 0, none⟩ = some (.int .u32 0) := (blk_cell BK286.out 0).trans rfl
 have hcz35_1 : w24.cell? ⟨gb286, 1, none⟩ = some (.int .u32 0) := (blk_cell BK286.out 1).trans rfl
 have hcz35_2 : w24.cell? ⟨gb286, 2, none⟩ = some (.int .u32 0) := (blk_cell BK286.out 2).trans rfl
 have hcz35_3 : w24.cell? ⟨gb286, 3, none⟩ = some (.int .u32 0) := (blk_cell BK286.out 3).trans rfl
 have hcz35_4 : w24.cell? ⟨gb286, 4, none⟩ = some (.int .u32 0) := (blk_cell BK286.out 4).trans rfl
 have hcz35_5 : w24.cell? ⟨gb286, 5, none⟩ = some (.int .u32 0) := (blk_cell BK286.out 5).trans rfl
 have hcz35_6 : w24.cell? ⟨gb286, 6, none⟩ = some (.int .u32 0) := (blk_cell BK286.out 6).trans rfl
 have hcz35_7 : w24.cell? ⟨gb286, 7, none⟩ = some (.int .u32 0) := (blk_cell BK286.out 7).trans rfl
 have hfz35_0 := blk_frozen BK286.out 0
 have hfz35_1 := blk_frozen BK286.out 1
 have hfz35_2 := blk_frozen BK286.out 2
 have hfz35_3 := blk_frozen BK286.out 3
 have hfz35_4 := blk_frozen BK286.out 4
 have hfz35_5 := blk_frozen BK286.out 5
 have hfz35_6 := blk_frozen BK286.out 6
 have hfz35_7 := blk_frozen BK286.out 7
 try go_wp2_with (first | ((with_reducible refine gate_callee (f := 29) rfl ?_); refine goesL_ (some 37) rfl rfl Tryd.func29 (by kernel_rfl) rfl #[.agg #[.int .u32 t277, .int .u32 t278, .int .u32 t279, .int .u32 t280, .int .u32 t281, .int .u32 t282, .int .u32 t283, .int .u32 t284], .bool false] rfl (by (try simp only [List.map_toArray, List.map_cons, List.map_nil]); first | done | rfl | (simp only [List.length_drop, List.length_take]; rfl)) ?_; (with_reducible refine (arrearsref03_Word.calls t277 t278 t279 t280 t281 t282 t283 t284 false t287 _ A10.out).mono ?_); rintro e w36 ⟨rfl, hb⟩; refine ⟨_, rfl, ?_⟩; have n0_ := Aside0.mk (blk_below (g := gb249) (o := .cells #[.int .u32 a0_0, .bool a0_1] 34 (0, 0)) (by (repeat (first | (with_reducible first | refine blk_drewN ?_ _ | refine blk_drew ?_ | refine blk_alloc ?_ _) | refine blk_far ?_ NB249_286.out _)); exact BK249.out) hb); have n1_ := Aside0.mk (blk_below (g := gb275) (o := .cells #[.int .u32 t266, .int .u32 t267, .int .u32 t268, .int .u32 t269, .int .u32 t270, .int .u32 t271, .int .u32 t272, .int .u32 t273] 61 (0, 0)) (by (repeat (first | (with_reducible first | refine blk_drewN ?_ _ | refine blk_drew ?_ | refine blk_alloc ?_ _) | refine blk_far ?_ NB275_286.out _)); exact BK275.out) hb); have n2_ := Aside0.mk (blk_below (g := gb286) (o := .cells #[.int .u32 t277, .int .u32 t278, .int .u32 t279, .int .u32 t280, .int .u32 t281, .int .u32 t282, .int .u32 t283, .int .u32 t284] 61 (0, 0)) (by (with_reducible repeat (first | refine blk_drewN ?_ _ | refine blk_drew ?_ | refine blk_alloc ?_ _)); refine blk_put (cs := #[.int .u32 t277, .int .u32 t278, .int .u32 t279, .int .u32 t280, .int .u32 t281, .int .u32 t282, .int .u32 t283, .int .u32 0]) ?_ 7 _ rfl; (with_reducible repeat (first | refine blk_drewN ?_ _ | refine blk_drew ?_ | refine blk_alloc ?_ _)); refine blk_put (cs := #[.int .u32 t277, .int .u32 t278, .int .u32 t279, .int .u32 t280, .int .u32 t281, .int .u32 t282, .int .u32 0, .int .u32 0]) ?_ 6 _ rfl; (with_reducible repeat (first | refine blk_drewN ?_ _ | refine blk_drew ?_ | refine blk_alloc ?_ _)); refine blk_put (cs := #[.int .u32 t277, .int .u32 t278, .int .u32 t279, .int .u32 t280, .int .u32 t281, .int .u32 0, .int .u32 0, .int .u32 0]) ?_ 5 _ rfl; (with_reducible repeat (first | refine blk_drewN ?_ _ | refine blk_drew ?_ | refine blk_alloc ?_ _)); refine blk_put (cs := #[.int .u32 t277, .int .u32 t278, .int .u32 t279, .int .u32 t280, .int .u32 0, .int .u32 0, .int .u32 0, .int .u32 0]) ?_ 4 _ rfl; (with_reducible repeat (first | refine blk_drewN ?_ _ | refine blk_drew ?_ | refine blk_alloc ?_ _)); refine blk_put (cs := #[.int .u32 t277, .int .u32 t278, .int .u32 t279, .int .u32 0, .int .u32 0, .int .u32 0, .int .u32 0, .int .u32 0]) ?_ 3 _ rfl; (with_reducible repeat (first | refine blk_drewN ?_ _ | refine blk_drew ?_ | refine blk_alloc ?_ _)); refine blk_put (cs := #[.int .u32 t277, .int .u32 t278, .int .u32 0, .int .u32 0, .int .u32 0, .int .u32 0, .int .u32 0, .int .u32 0]) ?_ 2 _ rfl; (with_reducible repeat (first | refine blk_drewN ?_ _ | refine blk_drew ?_ | refine blk_alloc ?_ _)); refine blk_put (cs := #[.int .u32 t277, .int .u32 0, .int .u32 0, .int .u32 0, .int .u32 0, .int .u32 0, .int .u32 0, .int .u32 0]) ?_ 1 _ rfl; (with_reducible repeat (first | refine blk_drewN ?_ _ | refine blk_drew ?_ | refine blk_alloc ?_ _)); refine blk_put (cs := #[.int .u32 0, .int .u32 0, .int .u32 0, .int .u32 0, .int .u32 0, .int .u32 0, .int .u32 0, .int .u32 0]) ?_ 0 _ rfl; (with_reducible repeat (first | refine blk_drewN ?_ _ | refine blk_drew ?_ | refine blk_alloc ?_ _)); exact BK286.out) hb); have n3_ := Aside0.mk (below_step (by repeat (first | (with_reducible first | exact HB.out | apply below_alloc | apply pw_below_drewN | apply below_drew1 | refine below_set ?_ GE249.out | refine below_set ?_ GE275.out | refine below_set ?_ GE286.out) | exact HB.out)) hb); clear BK249; clear BK275; clear BK286; clear HB; have BK249 := n0_; have BK275 := n1_; have BK286 := n2_; have HB := n3_; clear n0_ n1_ n2_ n3_; (try clear hb); (try clear hb2); (try clear hk); (try clear hi)))
 go_ret2
 exact ⟨by first | rfl | (simp [errW_none, errW_some] <;> rfl) | (simp [*, errW_none, errW_some] <;> rfl), by repeat (first | (with_reducible first | exact HB.out | apply below_alloc | apply pw_below_drewN | apply below_drew1 | refine below_set ?_ GE249.out | refine below_set ?_ GE275.out | refine below_set ?_ GE286.out) | exact HB.out)⟩

/-! ### arrearsref05_Leap: function 55 -/
def arrearsref05_Leap.f (a0 : Int) : Option (Bool) := if a0 < 1 then (some false) else (if a0 > 9999 then (some false) else (if (Int.tmod a0 4) > 0 then (some false) else (if (Int.tmod a0 100) > 0 then (some true) else (some ((Int.tmod a0 400) == 0)))))
set_option maxHeartbeats 8000000 in
set_option maxRecDepth 100000 in
theorem arrearsref05_Leap.calls (a0 : Int) (r : Bool) (w : World) (h : arrearsref05_Leap.f a0 = some r) :
  Calls Tryd.prog 55 #[.int .i64 a0] w fun e w' => e = .returned (.bool r) ∧ Drawn0 w w' := by
 have H : (if a0 < 1 then (some false) else (if a0 > 9999 then (some false) else (if (Int.tmod a0 4) > 0 then (some false) else (if (Int.tmod a0 100) > 0 then (some true) else (some ((Int.tmod a0 400) == 0)))))) = some r := h
 clear h
 by_cases c2 : a0 < 1
 ·
  rw [if_pos c2] at H
  have c2b0 : decide (a0 < 1) = true := decide_eq_true c2
  clear c2
  obtain rfl := Option.some.inj H
  go_enter Tryd.func55, Tryd.ntmps55
  go_wp2
  go_ret
  exact ⟨by first | rfl | (simp; done) | (simp [*]; done), by repeat (first | exact Drawn0.refl _ | apply Drawn0.step)⟩
 ·
  rw [if_neg c2] at H
  have c2b0 : decide (a0 < 1) = false := decide_eq_false c2
  clear c2
  by_cases c3 : a0 > 9999
  ·
   rw [if_pos c3] at H
   have c3b0 : decide (9999 < a0) = true := decide_eq_true c3
   clear c3
   obtain rfl := Option.some.inj H
   go_enter Tryd.func55, Tryd.ntmps55
   go_wp2
   go_ret
   exact ⟨by first | rfl | (simp; done) | (simp [*]; done), by repeat (first | exact Drawn0.refl _ | apply Drawn0.step)⟩
  ·
   rw [if_neg c3] at H
   have c3b0 : decide (9999 < a0) = false := decide_eq_false c3
   clear c3
   by_cases c4 : (Int.tmod a0 4) > 0
   ·
    rw [if_pos c4] at H
    have c4b0 : decide (0 < (Int.tmod a0 4)) = true := decide_eq_true c4
    clear c4
    obtain rfl := Option.some.inj H
    go_enter Tryd.func55, Tryd.ntmps55
    go_wp2
    go_ret
    exact ⟨by first | rfl | (simp; done) | (simp [*]; done), by repeat (first | exact Drawn0.refl _ | apply Drawn0.step)⟩
   ·
    rw [if_neg c4] at H
    have c4b0 : decide (0 < (Int.tmod a0 4)) = false := decide_eq_false c4
    clear c4
    by_cases c5 : (Int.tmod a0 100) > 0
    ·
     rw [if_pos c5] at H
     have c5b0 : decide (0 < (Int.tmod a0 100)) = true := decide_eq_true c5
     clear c5
     obtain rfl := Option.some.inj H
     go_enter Tryd.func55, Tryd.ntmps55
     go_wp2
     go_ret
     exact ⟨by first | rfl | (simp; done) | (simp [*]; done), by repeat (first | exact Drawn0.refl _ | apply Drawn0.step)⟩
    ·
     rw [if_neg c5] at H
     have c5b0 : decide (0 < (Int.tmod a0 100)) = false := decide_eq_false c5
     clear c5
     obtain rfl := Option.some.inj H
     go_enter Tryd.func55, Tryd.ntmps55
     go_wp2
     go_ret
     exact ⟨by first | rfl | (simp; done) | (simp [*]; done), by repeat (first | exact Drawn0.refl _ | apply Drawn0.step)⟩

/-! ### arrearsref05_Length: function 45 -/
def arrearsref05_Length.j0 : Nat → Int → Int → Bool → Option (Int)
 | 0, _, _, _ => none
 | k + 1, x0, x1, x19 => if x19 = true then (some 0) else ((some (([31, 28, 31, 30, 31, 30, 31, 31, 30, 31, 30, 31] : List Int) : List Int)).bind fun y288 => (if 0 ≤ (wrap64 (x1 - 1)) then (if (wrap64 (x1 - 1)) < (y288.length : Int) then (if x1 = 2 then ((arrearsref05_Leap.f x0).bind fun t292 => (if t292 = true then (some (wrap64 ((rd y288 (wrap64 (x1 - 1))) + 1))) else (some (rd y288 (wrap64 (x1 - 1)))))) else (some (rd y288 (wrap64 (x1 - 1))))) else (none)) else (none)))
def arrearsref05_Length.f (k : Nat) (a0 : Int) (a1 : Int) : Option (Int) := if a0 < 1 then (arrearsref05_Length.j0 k a0 a1 true) else (if a0 > 9999 then (arrearsref05_Length.j0 k a0 a1 true) else (if a1 < 1 then (arrearsref05_Length.j0 k a0 a1 true) else (arrearsref05_Length.j0 k a0 a1 (decide (a1 > 12)))))
theorem arrearsref05_Length.mono_l : ∀ k, (∀ y0 y1 y2, LeO (arrearsref05_Length.j0 k y0 y1 y2) (arrearsref05_Length.j0 (k + 1) y0 y1 y2))
 | 0 => fun _ _ _ r h => by simp [arrearsref05_Length.j0] at h
 | k + 1 => by
  have ih0 := arrearsref05_Length.mono_l k
  ·
   intro y0 y1 y2
   unfold arrearsref05_Length.j0
   repeat' first
   | (with_reducible exact ih0 _ _ _)
   | (with_reducible exact LeO.refl _)
   | (with_reducible exact LeO.none _)
   | (with_reducible refine LeO.ite ?_ ?_)
   | (with_reducible refine LeO.bind ?_ (fun _ => ?_))
   | exact ih0 _ _ _
   | exact LeO.none _
   | refine LeO.ite ?_ ?_
   | refine LeO.bind ?_ (fun _ => ?_)
theorem arrearsref05_Length.mono : ∀ a0 a1 k, LeO (arrearsref05_Length.f k a0 a1) (arrearsref05_Length.f (k + 1) a0 a1) := by
 intro a0 a1 k
 have ih0 := arrearsref05_Length.mono_l k
 unfold arrearsref05_Length.f
 repeat' first
   | (with_reducible exact ih0 _ _ _)
   | (with_reducible exact LeO.refl _)
   | (with_reducible exact LeO.none _)
   | (with_reducible refine LeO.ite ?_ ?_)
   | (with_reducible refine LeO.bind ?_ (fun _ => ?_))
   | exact ih0 _ _ _
   | exact LeO.none _
   | refine LeO.ite ?_ ?_
   | refine LeO.bind ?_ (fun _ => ?_)
set_option maxHeartbeats 8000000 in
set_option maxRecDepth 100000 in
theorem arrearsref05_Length.calls (k : Nat) (a0 : Int) (a1 : Int) (r : Int) (w : World) (h : arrearsref05_Length.f k a0 a1 = some r) :
  Calls Tryd.prog 45 #[.int .i64 a0, .int .i64 a1] w fun e w' => e = .returned (.int .i64 r) ∧ Below w.heap.size w w' := by
 have HB := Aside0.mk (Below.refl w.heap.size w)
 have H : (if a0 < 1 then (arrearsref05_Length.j0 k a0 a1 true) else (if a0 > 9999 then (arrearsref05_Length.j0 k a0 a1 true) else (if a1 < 1 then (arrearsref05_Length.j0 k a0 a1 true) else (arrearsref05_Length.j0 k a0 a1 (decide (a1 > 12)))))) = some r := h
 clear h
 have HC3 := Aside0.mk H
 clear H
 go_enter Tryd.func45, Tryd.ntmps45
 go_upto_region 1 with (fail)
 go_cut [19] (fun v19 wc => ∃ (kq : Nat) (x19_2 : Bool), v19 = .bool x19_2 ∧ Aside0 (arrearsref05_Length.j0 kq a0 a1 x19_2 = some r) ∧ Aside0 (kq ≤ k) ∧ Aside0 (Below w.heap.size w wc))
 case first =>
  have H := HC3.out
  clear HC3
  by_cases c4 : a0 < 1
  ·
   rw [if_pos c4] at H
   have c4b0 : decide (a0 < 1) = true := decide_eq_true c4
   clear c4
   (first | rw [c4b0] | (simp only [i64_w, i32_w]; rw [c4b0]) | skip)
   have H' := Aside0.mk H
   clear H
   go_wp2
   go_meet
   case rel => exact ⟨_, (true), (by first | rfl | (simp; done) | (simp [*]; done)), H', ⟨by first | omega | exact Nat.le_refl _⟩, ⟨by repeat (first | (with_reducible first | exact HB.out | apply below_alloc | apply pw_below_drewN | apply below_drew1) | exact HB.out)⟩⟩
  ·
   rw [if_neg c4] at H
   have c4b0 : decide (a0 < 1) = false := decide_eq_false c4
   clear c4
   (first | rw [c4b0] | (simp only [i64_w, i32_w]; rw [c4b0]) | skip)
   by_cases c5 : a0 > 9999
   ·
    rw [if_pos c5] at H
    have c5b0 : decide (9999 < a0) = true := decide_eq_true c5
    clear c5
    have H' := Aside0.mk H
    clear H
    go_wp2
    go_meet
    case rel => exact ⟨_, (true), (by first | rfl | (simp; done) | (simp [*]; done)), H', ⟨by first | omega | exact Nat.le_refl _⟩, ⟨by repeat (first | (with_reducible first | exact HB.out | apply below_alloc | apply pw_below_drewN | apply below_drew1) | exact HB.out)⟩⟩
   ·
    rw [if_neg c5] at H
    have c5b0 : decide (9999 < a0) = false := decide_eq_false c5
    clear c5
    by_cases c6 : a1 < 1
    ·
     rw [if_pos c6] at H
     have c6b0 : decide (a1 < 1) = true := decide_eq_true c6
     clear c6
     have H' := Aside0.mk H
     clear H
     go_wp2
     go_meet
     case rel => exact ⟨_, (true), (by first | rfl | (simp; done) | (simp [*]; done)), H', ⟨by first | omega | exact Nat.le_refl _⟩, ⟨by repeat (first | (with_reducible first | exact HB.out | apply below_alloc | apply pw_below_drewN | apply below_drew1) | exact HB.out)⟩⟩
    ·
     rw [if_neg c6] at H
     have c6b0 : decide (a1 < 1) = false := decide_eq_false c6
     clear c6
     have H' := Aside0.mk H
     clear H
     go_wp2
     go_meet
     case rel => exact ⟨_, (decide (a1 > 12)), (by first | rfl | (simp; done) | (simp [*]; done)), H', ⟨by first | omega | exact Nat.le_refl _⟩, ⟨by repeat (first | (with_reducible first | exact HB.out | apply below_alloc | apply pw_below_drewN | apply below_drew1) | exact HB.out)⟩⟩
 case rest =>
  clear HC3
  try clear p2
  try clear c4
  try clear c4b0
  try clear c5
  try clear c5b0
  try clear c6
  try clear c6b0
  obtain ⟨kq, x19_2, rfl, HA, HJ2, HB⟩ := hcut
  cases kq with
  | zero => exact absurd HA.out (by simp [arrearsref05_Length.j0])
  | succ kj2 =>
   have H := HA.out
   clear HA
   simp only [arrearsref05_Length.j0] at H
   by_cases c7 : x19_2 = true
   ·
    subst c7
    have H1 : (some 0) = some r := by rw [if_pos rfl] at H; exact H
    clear H
    have H := H1
    clear H1
    obtain rfl := Option.some.inj H
    go_wp2
    go_ret
    exact ⟨by first | rfl | (simp [errW_none, errW_some] <;> rfl) | (simp [*, errW_none, errW_some] <;> rfl), by repeat (first | (with_reducible first | exact HB.out | apply below_alloc | apply pw_below_drewN | apply below_drew1) | exact HB.out)⟩
   ·
    replace c7 := Bool.eq_false_iff.mpr c7
    subst c7
    have H1 : ((some (([31, 28, 31, 30, 31, 30, 31, 31, 30, 31, 30, 31] : List Int) : List Int)).bind fun y288 => (if 0 ≤ (wrap64 (a1 - 1)) then (if (wrap64 (a1 - 1)) < (y288.length : Int) then (if a1 = 2 then ((arrearsref05_Leap.f a0).bind fun t292 => (if t292 = true then (some (wrap64 ((rd y288 (wrap64 (a1 - 1))) + 1))) else (some (rd y288 (wrap64 (a1 - 1)))))) else (some (rd y288 (wrap64 (a1 - 1))))) else (none)) else (none))) = some r := by rw [if_neg (show ¬ (false = true) by decide)] at H; exact H
    clear H
    have H := H1
    clear H1
    obtain ⟨y288, hy288⟩ : ∃ y_ : List Int, y_ = (([31, 28, 31, 30, 31, 30, 31, 31, 30, 31, 30, 31] : List Int)) := ⟨_, rfl⟩
    replace H : (if 0 ≤ (wrap64 (a1 - 1)) then (if (wrap64 (a1 - 1)) < (y288.length : Int) then (if a1 = 2 then ((arrearsref05_Leap.f a0).bind fun t292 => (if t292 = true then (some (wrap64 ((rd y288 (wrap64 (a1 - 1))) + 1))) else (some (rd y288 (wrap64 (a1 - 1)))))) else (some (rd y288 (wrap64 (a1 - 1))))) else (none)) else (none)) = some r := by first | (rw [hy288]; with_reducible exact H) | (have H2_ := (Option.bind_some _ _).symm.trans H; rw [hy288]; with_reducible exact H2_) | (have H2_ := (Option.bind_some _ _).symm.trans H; with_reducible exact H2_) | with_reducible exact H | (rw [hy288]; exact H) | exact H
    have Ny288 := Aside0.mk hy288
    clear hy288
    obtain ⟨ji8, hji8⟩ : ∃ j_ : Int, (wrap64 (a1 - 1)) = j_ := ⟨_, rfl⟩
    replace H : (if 0 ≤ (ji8) then (if (ji8) < (y288.length : Int) then (if a1 = 2 then ((arrearsref05_Leap.f a0).bind fun t292 => (if t292 = true then (some (wrap64 ((rd y288 (ji8)) + 1))) else (some (rd y288 (ji8))))) else (some (rd y288 (ji8)))) else (none)) else (none)) = some r := by first | (rw [hji8] at H; exact H) | (simp only [hji8] at H ⊢; exact H)
    have hji8w : (IntKind.i64.wrap (a1 - 1)) = ji8 := (i64_w _).trans hji8
    by_cases c9 : 0 ≤ (ji8)
    ·
     rw [if_pos c9] at H
     have c9b0 : decide (0 ≤ (ji8)) = true := decide_eq_true c9
     clear c9
     by_cases c10 : (ji8) < (y288.length : Int)
     ·
      rw [if_pos c10] at H
      have c10b0 : decide ((ji8) < (y288.length : Int)) = true := decide_eq_true c10
      clear c10
      by_cases c11 : a1 = 2
      ·
       rw [if_pos c11] at H
       have c11b0 : (a1 == 2) = true := beq_iff_eq.mpr c11
       have c11b1 : (a1 != 2) = false := bne_eq_false_iff_eq.mpr c11
       clear c11
       replace H := Option.bind_eq_some_iff.mp H
       obtain ⟨t292, A120, H⟩ := H
       replace H : (if t292 = true then (some (wrap64 ((rd y288 (ji8)) + 1))) else (some (rd y288 (ji8)))) = some r := H
       have A12 := Aside0.mk A120
       clear A120
       by_cases c13 : t292 = true
       ·
        subst c13
        have H1 : (some (wrap64 ((rd y288 (ji8)) + 1))) = some r := by rw [if_pos rfl] at H; exact H
        clear H
        have H := H1
        clear H1
        obtain rfl := Option.some.inj H
        go_wp2_with (first | ((with_reducible refine gate_dst (N := 20) rfl ?_); refine Kd.R_lit (Kd.int .i64) _ 3 ?hg (N := 20) ?hd (xs := ([31, 28, 31, 30, 31, 30, 31, 31, 30, 31, 30, 31] : List Int)) (inner := [.int .i64 31, .int .i64 28, .int .i64 31, .int .i64 30, .int .i64 31, .int .i64 30, .int .i64 31, .int .i64 31, .int .i64 30, .int .i64 31, .int .i64 30, .int .i64 31]) (ok := fun _ => True) (okp := fun _ => True) ?hr ?hp (fun _ hk => hk) trivial (Below.refl _ _) (Nat.le_refl _) (by simp) ?_; (case hd => rfl); (case hg => rfl); (case hr => first | (go_simp; done) | (go_simp; rfl)); (case hp => exact (Reps.one (show Kd.M (Kd.int .i64) _ _ _ 31 [.int .i64 31] from rfl) (Reps.one (show Kd.M (Kd.int .i64) _ _ _ 28 [.int .i64 28] from rfl) (Reps.one (show Kd.M (Kd.int .i64) _ _ _ 31 [.int .i64 31] from rfl) (Reps.one (show Kd.M (Kd.int .i64) _ _ _ 30 [.int .i64 30] from rfl) (Reps.one (show Kd.M (Kd.int .i64) _ _ _ 31 [.int .i64 31] from rfl) (Reps.one (show Kd.M (Kd.int .i64) _ _ _ 30 [.int .i64 30] from rfl) (Reps.one (show Kd.M (Kd.int .i64) _ _ _ 31 [.int .i64 31] from rfl) (Reps.one (show Kd.M (Kd.int .i64) _ _ _ 31 [.int .i64 31] from rfl) (Reps.one (show Kd.M (Kd.int .i64) _ _ _ 30 [.int .i64 30] from rfl) (Reps.one (show Kd.M (Kd.int .i64) _ _ _ 31 [.int .i64 31] from rfl) (Reps.one (show Kd.M (Kd.int .i64) _ _ _ 30 [.int .i64 30] from rfl) (Reps.one (show Kd.M (Kd.int .i64) _ _ _ 31 [.int .i64 31] from rfl) (Reps.none _ _)))))))))))))); intro v289 w14 ho15 hb hg_ hnew_; clear hg_ hnew_; (first | rw [← Ny288.out] at ho15 | (simp only [Int.reduceToNat] at ho15; rw [← Ny288.out] at ho15)); have n0_ := Aside0.mk (Kd.R_lower ho15 (below_size (by repeat (first | (with_reducible first | exact HB.out | apply below_alloc | apply pw_below_drewN | apply below_drew1) | exact HB.out)))); have n1_ := Aside0.mk (below_step (by repeat (first | (with_reducible first | exact HB.out | apply below_alloc | apply pw_below_drewN | apply below_drew1) | exact HB.out)) hb); clear HB; have HO290 := n0_; have HB := n1_; clear n0_ n1_; clear hb ho15; obtain ⟨Ao16, co16, eo16⟩ := Kd.R_slice HO290.out; subst eo16; have p291 : 0 ≤ ((ji8) : Int) := of_decide_eq_true (by first | (with_reducible assumption) | assumption); have q291 : (ji8) < (y288.length : Int) := of_decide_eq_true (by first | (with_reducible assumption) | assumption); obtain ⟨ad291, e291, hx291_0⟩ := Kd.at_int (Kd.R_reads' HO290.out).2.2 (ji8) p291 q291; cases e291; replace p291 := eq_true p291; replace q291 := eq_true q291) | (go_at_call 55; (with_reducible refine (arrearsref05_Leap.calls a0 true _ A12.out).mono ?_); rintro e w' ⟨rfl, ⟨nd, rfl⟩⟩))
        go_ret
        exact ⟨by first | rfl | (simp [errW_none, errW_some] <;> rfl) | (simp only [← hji8]; first | rfl | (simp [errW_none, errW_some] <;> rfl)) | (simp [*, errW_none, errW_some] <;> rfl), by repeat (first | (with_reducible first | exact HB.out | apply below_alloc | apply pw_below_drewN | apply below_drew1) | exact HB.out)⟩
       ·
        replace c13 := Bool.eq_false_iff.mpr c13
        subst c13
        have H1 : (some (rd y288 (ji8))) = some r := by rw [if_neg (show ¬ (false = true) by decide)] at H; exact H
        clear H
        have H := H1
        clear H1
        obtain rfl := Option.some.inj H
        go_wp2_with (first | ((with_reducible refine gate_dst (N := 20) rfl ?_); refine Kd.R_lit (Kd.int .i64) _ 3 ?hg (N := 20) ?hd (xs := ([31, 28, 31, 30, 31, 30, 31, 31, 30, 31, 30, 31] : List Int)) (inner := [.int .i64 31, .int .i64 28, .int .i64 31, .int .i64 30, .int .i64 31, .int .i64 30, .int .i64 31, .int .i64 31, .int .i64 30, .int .i64 31, .int .i64 30, .int .i64 31]) (ok := fun _ => True) (okp := fun _ => True) ?hr ?hp (fun _ hk => hk) trivial (Below.refl _ _) (Nat.le_refl _) (by simp) ?_; (case hd => rfl); (case hg => rfl); (case hr => first | (go_simp; done) | (go_simp; rfl)); (case hp => exact (Reps.one (show Kd.M (Kd.int .i64) _ _ _ 31 [.int .i64 31] from rfl) (Reps.one (show Kd.M (Kd.int .i64) _ _ _ 28 [.int .i64 28] from rfl) (Reps.one (show Kd.M (Kd.int .i64) _ _ _ 31 [.int .i64 31] from rfl) (Reps.one (show Kd.M (Kd.int .i64) _ _ _ 30 [.int .i64 30] from rfl) (Reps.one (show Kd.M (Kd.int .i64) _ _ _ 31 [.int .i64 31] from rfl) (Reps.one (show Kd.M (Kd.int .i64) _ _ _ 30 [.int .i64 30] from rfl) (Reps.one (show Kd.M (Kd.int .i64) _ _ _ 31 [.int .i64 31] from rfl) (Reps.one (show Kd.M (Kd.int .i64) _ _ _ 31 [.int .i64 31] from rfl) (Reps.one (show Kd.M (Kd.int .i64) _ _ _ 30 [.int .i64 30] from rfl) (Reps.one (show Kd.M (Kd.int .i64) _ _ _ 31 [.int .i64 31] from rfl) (Reps.one (show Kd.M (Kd.int .i64) _ _ _ 30 [.int .i64 30] from rfl) (Reps.one (show Kd.M (Kd.int .i64) _ _ _ 31 [.int .i64 31] from rfl) (Reps.none _ _)))))))))))))); intro v289 w17 ho18 hb hg_ hnew_; clear hg_ hnew_; (first | rw [← Ny288.out] at ho18 | (simp only [Int.reduceToNat] at ho18; rw [← Ny288.out] at ho18)); have n0_ := Aside0.mk (Kd.R_lower ho18 (below_size (by repeat (first | (with_reducible first | exact HB.out | apply below_alloc | apply pw_below_drewN | apply below_drew1) | exact HB.out)))); have n1_ := Aside0.mk (below_step (by repeat (first | (with_reducible first | exact HB.out | apply below_alloc | apply pw_below_drewN | apply below_drew1) | exact HB.out)) hb); clear HB; have HO290 := n0_; have HB := n1_; clear n0_ n1_; clear hb ho18; obtain ⟨Ao19, co19, eo19⟩ := Kd.R_slice HO290.out; subst eo19; have p291 : 0 ≤ ((ji8) : Int) := of_decide_eq_true (by first | (with_reducible assumption) | assumption); have q291 : (ji8) < (y288.length : Int) := of_decide_eq_true (by first | (with_reducible assumption) | assumption); obtain ⟨ad291, e291, hx291_0⟩ := Kd.at_int (Kd.R_reads' HO290.out).2.2 (ji8) p291 q291; cases e291; replace p291 := eq_true p291; replace q291 := eq_true q291) | (go_at_call 55; (with_reducible refine (arrearsref05_Leap.calls a0 false _ A12.out).mono ?_); rintro e w' ⟨rfl, ⟨nd, rfl⟩⟩))
        go_ret
        exact ⟨by first | rfl | (simp [errW_none, errW_some] <;> rfl) | (simp only [← hji8]; first | rfl | (simp [errW_none, errW_some] <;> rfl)) | (simp [*, errW_none, errW_some] <;> rfl), by repeat (first | (with_reducible first | exact HB.out | apply below_alloc | apply pw_below_drewN | apply below_drew1) | exact HB.out)⟩
      ·
       rw [if_neg c11] at H
       have c11b0 : (a1 == 2) = false := beq_eq_false_iff_ne.mpr c11
       have c11b1 : (a1 != 2) = true := bne_iff_ne.mpr c11
       obtain rfl := Option.some.inj H
       go_wp2_with (first | ((with_reducible refine gate_dst (N := 20) rfl ?_); refine Kd.R_lit (Kd.int .i64) _ 3 ?hg (N := 20) ?hd (xs := ([31, 28, 31, 30, 31, 30, 31, 31, 30, 31, 30, 31] : List Int)) (inner := [.int .i64 31, .int .i64 28, .int .i64 31, .int .i64 30, .int .i64 31, .int .i64 30, .int .i64 31, .int .i64 31, .int .i64 30, .int .i64 31, .int .i64 30, .int .i64 31]) (ok := fun _ => True) (okp := fun _ => True) ?hr ?hp (fun _ hk => hk) trivial (Below.refl _ _) (Nat.le_refl _) (by simp) ?_; (case hd => rfl); (case hg => rfl); (case hr => first | (go_simp; done) | (go_simp; rfl)); (case hp => exact (Reps.one (show Kd.M (Kd.int .i64) _ _ _ 31 [.int .i64 31] from rfl) (Reps.one (show Kd.M (Kd.int .i64) _ _ _ 28 [.int .i64 28] from rfl) (Reps.one (show Kd.M (Kd.int .i64) _ _ _ 31 [.int .i64 31] from rfl) (Reps.one (show Kd.M (Kd.int .i64) _ _ _ 30 [.int .i64 30] from rfl) (Reps.one (show Kd.M (Kd.int .i64) _ _ _ 31 [.int .i64 31] from rfl) (Reps.one (show Kd.M (Kd.int .i64) _ _ _ 30 [.int .i64 30] from rfl) (Reps.one (show Kd.M (Kd.int .i64) _ _ _ 31 [.int .i64 31] from rfl) (Reps.one (show Kd.M (Kd.int .i64) _ _ _ 31 [.int .i64 31] from rfl) (Reps.one (show Kd.M (Kd.int .i64) _ _ _ 30 [.int .i64 30] from rfl) (Reps.one (show Kd.M (Kd.int .i64) _ _ _ 31 [.int .i64 31] from rfl) (Reps.one (show Kd.M (Kd.int .i64) _ _ _ 30 [.int .i64 30] from rfl) (Reps.one (show Kd.M (Kd.int .i64) _ _ _ 31 [.int .i64 31] from rfl) (Reps.none _ _)))))))))))))); intro v289 w20 ho21 hb hg_ hnew_; clear hg_ hnew_; (first | rw [← Ny288.out] at ho21 | (simp only [Int.reduceToNat] at ho21; rw [← Ny288.out] at ho21)); have n0_ := Aside0.mk (Kd.R_lower ho21 (below_size (by repeat (first | (with_reducible first | exact HB.out | apply below_alloc | apply pw_below_drewN | apply below_drew1) | exact HB.out)))); have n1_ := Aside0.mk (below_step (by repeat (first | (with_reducible first | exact HB.out | apply below_alloc | apply pw_below_drewN | apply below_drew1) | exact HB.out)) hb); clear HB; have HO290 := n0_; have HB := n1_; clear n0_ n1_; clear hb ho21; obtain ⟨Ao22, co22, eo22⟩ := Kd.R_slice HO290.out; subst eo22; have p291 : 0 ≤ ((ji8) : Int) := of_decide_eq_true (by first | (with_reducible assumption) | assumption); have q291 : (ji8) < (y288.length : Int) := of_decide_eq_true (by first | (with_reducible assumption) | assumption); obtain ⟨ad291, e291, hx291_0⟩ := Kd.at_int (Kd.R_reads' HO290.out).2.2 (ji8) p291 q291; cases e291; replace p291 := eq_true p291; replace q291 := eq_true q291))
       go_ret
       exact ⟨by first | rfl | (simp [errW_none, errW_some] <;> rfl) | (simp only [← hji8]; first | rfl | (simp [errW_none, errW_some] <;> rfl)) | (simp [*, errW_none, errW_some] <;> rfl), by repeat (first | (with_reducible first | exact HB.out | apply below_alloc | apply pw_below_drewN | apply below_drew1) | exact HB.out)⟩
     ·
      rw [if_neg c10] at H
      exact absurd H (by simp)
    ·
     rw [if_neg c9] at H
     exact absurd H (by simp)

end Go.Proofs.YtldicnmpegkicaaDoor.PYieldDays
