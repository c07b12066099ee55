-- Printed by a wrapper of this session's round the kit's print.py; Lean checks it.
import Derived.Test.YtldicnmpegkicaaDoorPYieldDaysx0
import Derived.Test.YtldicnmpegkicaaDoorPYieldDaysx4
import Derived.Test.YtldicnmpegkicaaDoorPYieldDaysx5
import Derived.Test.YtldicnmpegkicaaDoorPYieldDaysx6
import Derived.Test.YtldicnmpegkicaaDoorPYieldDaysx8
import Derived.Test.YtldicnmpegkicaaDoorPYieldDaysx10
namespace Go.Proofs.YtldicnmpegkicaaDoor.PYieldDays
open Go.RowKit Go.Proofs.YtldicnmpegkicaaDoorW.PrintWords Go.Proofs.YtldicnmpegkicaaDoorW.PrintLast Go.Proofs.YtldicnmpegkicaaDoorW.PrintMore
attribute [local go_sem] max2_int min2_int max_two min_two max_three min_three max_four min_four   -- for this text's walks alone
set_option linter.unusedVariables false
set_option linter.unusedSimpArgs false

/-! ### arrearslaw09_YieldDays: function 4 -/
mutual
def arrearslaw09_YieldDays.j0 : Nat → Int → Int → Int → Int → Int → Option Int → Bool → Int → Int → Option (Bool)
 | 0, _, _, _, _, _, _, _, _, _ => none
 | k + 1, x1, x2, x3, x9, x10, x11, x62, x307000, x307001 => if x62 = true then (some false) else ((arrearslaw09_right.f x307000 x307001 x1 0 x3).bind fun t320 => (if t320 = true then (if x2 < 0 then (arrearslaw09_YieldDays.j1 k x1 x2 x3 x9 x10 x11 true x307000 x307001) else (arrearslaw09_YieldDays.j1 k x1 x2 x3 x9 x10 x11 (decide (x2 ≥ 3652058)) x307000 x307001)) else (arrearslaw09_YieldDays.j1 k x1 x2 x3 x9 x10 x11 true x307000 x307001)))
def arrearslaw09_YieldDays.j1 : Nat → Int → Int → Int → Int → Int → Option Int → Bool → Int → Int → Option (Bool)
 | 0, _, _, _, _, _, _, _, _, _ => none
 | k + 1, x1, x2, x3, x9, x10, x11, x75, x307000, x307001 => if x75 = true then ((api_Code.f x11).bind fun t321 => (if t321 = 1 then (if x9 = 0 then (some (x10 == 0)) else (some false)) else (some false))) else ((arrearslaw09_own.f x307000 x307001).bind fun bt322 => ((arrearsref09_Day.f k bt322.1 bt322.2 x1 (wrap64 (x2)) x3).bind fun bt324 => (if x11.isNone = true then (if x9 = bt324.1 then (some (x10 == bt324.2)) else (some false)) else (some false))))
end
def arrearslaw09_YieldDays.f (k : Nat) (a0_0 : Int) (a0_1 : Int) (a1 : Int) (a2 : Int) (a3 : Int) : Option (Bool) := (arrearslaw09_awake.f k).bind fun t307 => (if t307 = true then ((yield_Rate_Day.f k a0_0 a0_1 a1 a2 a3).bind fun bt308 => ((yield_Rate_Month.f k a0_0 a0_1 a1).bind fun bt311 => ((arrearslaw09_right.f a0_0 a0_1 a1 0 0).bind fun t313 => (if t313 = true then (if bt311.2.isNone = true then ((arrearslaw09_own.f a0_0 a0_1).bind fun bt317 => ((arrearsref09_Month.f bt317.1 bt317.2 a1).bind fun t319 => (arrearslaw09_YieldDays.j0 k a1 a2 a3 bt308.1 bt308.2.1 bt308.2.2 (bt311.1 != t319) a0_0 a0_1))) else (arrearslaw09_YieldDays.j0 k a1 a2 a3 bt308.1 bt308.2.1 bt308.2.2 true a0_0 a0_1)) else ((api_Code.f bt308.2.2).bind fun t314 => (if t314 = 1 then ((api_Code.f bt311.2).bind fun t315 => (if t315 = 1 then (if bt308.1 = 0 then (some (bt311.1 == 0)) else (some false)) else (some false))) else (some false))))))) else (some false))
theorem arrearslaw09_YieldDays.mono_l : ∀ k, (∀ y0 y1 y2 y3 y4 y5 y6 y7 y8, LeO (arrearslaw09_YieldDays.j0 k y0 y1 y2 y3 y4 y5 y6 y7 y8) (arrearslaw09_YieldDays.j0 (k + 1) y0 y1 y2 y3 y4 y5 y6 y7 y8)) ∧ (∀ y0 y1 y2 y3 y4 y5 y6 y7 y8, LeO (arrearslaw09_YieldDays.j1 k y0 y1 y2 y3 y4 y5 y6 y7 y8) (arrearslaw09_YieldDays.j1 (k + 1) y0 y1 y2 y3 y4 y5 y6 y7 y8))
 | 0 => ⟨fun _ _ _ _ _ _ _ _ _ r h => by simp [arrearslaw09_YieldDays.j0] at h, fun _ _ _ _ _ _ _ _ _ r h => by simp [arrearslaw09_YieldDays.j1] at h⟩
 | k + 1 => by
  obtain ⟨ih0, ih1⟩ := arrearslaw09_YieldDays.mono_l k
  refine ⟨?_, ?_⟩
  ·
   intro y0 y1 y2 y3 y4 y5 y6 y7 y8
   unfold arrearslaw09_YieldDays.j0
   repeat' first
   | (with_reducible exact ih0 _ _ _ _ _ _ _ _ _)
   | (with_reducible exact ih1 _ _ _ _ _ _ _ _ _)
   | (with_reducible exact arrearslaw09_awake.mono _)
   | (with_reducible exact arrearsref09_Day.mono _ _ _ _ _ _)
   | (with_reducible exact yield_Rate_Day.mono _ _ _ _ _ _)
   | (with_reducible exact yield_Rate_Month.mono _ _ _ _)
   | (with_reducible exact LeO.refl _)
   | (with_reducible exact LeO.none _)
   | (with_reducible refine LeO.ite ?_ ?_)
   | (with_reducible refine LeO.bind ?_ (fun _ => ?_))
   | exact ih0 _ _ _ _ _ _ _ _ _
   | exact ih1 _ _ _ _ _ _ _ _ _
   | exact arrearslaw09_awake.mono _
   | exact arrearsref09_Day.mono _ _ _ _ _ _
   | exact yield_Rate_Day.mono _ _ _ _ _ _
   | exact yield_Rate_Month.mono _ _ _ _
   | exact LeO.none _
   | refine LeO.ite ?_ ?_
   | refine LeO.bind ?_ (fun _ => ?_)
  ·
   intro y0 y1 y2 y3 y4 y5 y6 y7 y8
   unfold arrearslaw09_YieldDays.j1
   repeat' first
   | (with_reducible exact ih0 _ _ _ _ _ _ _ _ _)
   | (with_reducible exact ih1 _ _ _ _ _ _ _ _ _)
   | (with_reducible exact arrearslaw09_awake.mono _)
   | (with_reducible exact arrearsref09_Day.mono _ _ _ _ _ _)
   | (with_reducible exact yield_Rate_Day.mono _ _ _ _ _ _)
   | (with_reducible exact yield_Rate_Month.mono _ _ _ _)
   | (with_reducible exact LeO.refl _)
   | (with_reducible exact LeO.none _)
   | (with_reducible refine LeO.ite ?_ ?_)
   | (with_reducible refine LeO.bind ?_ (fun _ => ?_))
   | exact ih0 _ _ _ _ _ _ _ _ _
   | exact ih1 _ _ _ _ _ _ _ _ _
   | exact arrearslaw09_awake.mono _
   | exact arrearsref09_Day.mono _ _ _ _ _ _
   | exact yield_Rate_Day.mono _ _ _ _ _ _
   | exact yield_Rate_Month.mono _ _ _ _
   | exact LeO.none _
   | refine LeO.ite ?_ ?_
   | refine LeO.bind ?_ (fun _ => ?_)
theorem arrearslaw09_YieldDays.mono : ∀ a0 a1 a2 a3 a4 k, LeO (arrearslaw09_YieldDays.f k a0 a1 a2 a3 a4) (arrearslaw09_YieldDays.f (k + 1) a0 a1 a2 a3 a4) := by
 intro a0 a1 a2 a3 a4 k
 obtain ⟨ih0, ih1⟩ := arrearslaw09_YieldDays.mono_l k
 unfold arrearslaw09_YieldDays.f
 repeat' first
   | (with_reducible exact ih0 _ _ _ _ _ _ _ _ _)
   | (with_reducible exact ih1 _ _ _ _ _ _ _ _ _)
   | (with_reducible exact arrearslaw09_awake.mono _)
   | (with_reducible exact arrearsref09_Day.mono _ _ _ _ _ _)
   | (with_reducible exact yield_Rate_Day.mono _ _ _ _ _ _)
   | (with_reducible exact yield_Rate_Month.mono _ _ _ _)
   | (with_reducible exact LeO.refl _)
   | (with_reducible exact LeO.none _)
   | (with_reducible refine LeO.ite ?_ ?_)
   | (with_reducible refine LeO.bind ?_ (fun _ => ?_))
   | exact ih0 _ _ _ _ _ _ _ _ _
   | exact ih1 _ _ _ _ _ _ _ _ _
   | exact arrearslaw09_awake.mono _
   | exact arrearsref09_Day.mono _ _ _ _ _ _
   | exact yield_Rate_Day.mono _ _ _ _ _ _
   | exact yield_Rate_Month.mono _ _ _ _
   | exact LeO.none _
   | refine LeO.ite ?_ ?_
   | refine LeO.bind ?_ (fun _ => ?_)
set_option maxHeartbeats 8000000 in
set_option maxRecDepth 100000 in
theorem arrearslaw09_YieldDays.calls (k : Nat) (a0_0 : Int) (a0_1 : Int) (a1 : Int) (a2 : Int) (a3 : Int) (r : Bool) (w : World) (hG : Go.Proofs.YtldicnmpegkicaaDoor.M.Laid w) (h : arrearslaw09_YieldDays.f k a0_0 a0_1 a1 a2 a3 = some r) (hr : r = true) :
  Calls Tryd.prog 4 #[.agg #[.int .u32 a0_0, .int .u8 a0_1], .int .i64 a1, .int .i32 a2, .int .u64 a3] w fun e w' => e = .returned (.bool r) ∧ Below w.heap.size w w' := by
 have hu24 := Tryd.underlying24
 have hu29 := Tryd.underlying29
 have hu38 := Tryd.underlying38
 have HB := Aside0.mk (Below.refl w.heap.size w)
 have HG := Aside0.mk hG
 clear hG
 have HR := Aside0.mk hr
 clear hr
 have H : ((arrearslaw09_awake.f k).bind fun t307 => (if t307 = true then ((yield_Rate_Day.f k a0_0 a0_1 a1 a2 a3).bind fun bt308 => ((yield_Rate_Month.f k a0_0 a0_1 a1).bind fun bt311 => ((arrearslaw09_right.f a0_0 a0_1 a1 0 0).bind fun t313 => (if t313 = true then (if bt311.2.isNone = true then ((arrearslaw09_own.f a0_0 a0_1).bind fun bt317 => ((arrearsref09_Month.f bt317.1 bt317.2 a1).bind fun t319 => (arrearslaw09_YieldDays.j0 k a1 a2 a3 bt308.1 bt308.2.1 bt308.2.2 (bt311.1 != t319) a0_0 a0_1))) else (arrearslaw09_YieldDays.j0 k a1 a2 a3 bt308.1 bt308.2.1 bt308.2.2 true a0_0 a0_1)) else ((api_Code.f bt308.2.2).bind fun t314 => (if t314 = 1 then ((api_Code.f bt311.2).bind fun t315 => (if t315 = 1 then (if bt308.1 = 0 then (some (bt311.1 == 0)) else (some false)) else (some false))) else (some false))))))) else (some false))) = some r := h
 clear h
 replace H := Option.bind_eq_some_iff.mp H
 obtain ⟨t307, A50, H⟩ := H
 replace H : (if t307 = true then ((yield_Rate_Day.f k a0_0 a0_1 a1 a2 a3).bind fun bt308 => ((yield_Rate_Month.f k a0_0 a0_1 a1).bind fun bt311 => ((arrearslaw09_right.f a0_0 a0_1 a1 0 0).bind fun t313 => (if t313 = true then (if bt311.2.isNone = true then ((arrearslaw09_own.f a0_0 a0_1).bind fun bt317 => ((arrearsref09_Month.f bt317.1 bt317.2 a1).bind fun t319 => (arrearslaw09_YieldDays.j0 k a1 a2 a3 bt308.1 bt308.2.1 bt308.2.2 (bt311.1 != t319) a0_0 a0_1))) else (arrearslaw09_YieldDays.j0 k a1 a2 a3 bt308.1 bt308.2.1 bt308.2.2 true a0_0 a0_1)) else ((api_Code.f bt308.2.2).bind fun t314 => (if t314 = 1 then ((api_Code.f bt311.2).bind fun t315 => (if t315 = 1 then (if bt308.1 = 0 then (some (bt311.1 == 0)) else (some false)) else (some false))) else (some false))))))) else (some false)) = some r := H
 have A5 := Aside0.mk A50
 clear A50
 by_cases c6 : t307 = true
 ·
  subst c6
  have H1 : ((yield_Rate_Day.f k a0_0 a0_1 a1 a2 a3).bind fun bt308 => ((yield_Rate_Month.f k a0_0 a0_1 a1).bind fun bt311 => ((arrearslaw09_right.f a0_0 a0_1 a1 0 0).bind fun t313 => (if t313 = true then (if bt311.2.isNone = true then ((arrearslaw09_own.f a0_0 a0_1).bind fun bt317 => ((arrearsref09_Month.f bt317.1 bt317.2 a1).bind fun t319 => (arrearslaw09_YieldDays.j0 k a1 a2 a3 bt308.1 bt308.2.1 bt308.2.2 (bt311.1 != t319) a0_0 a0_1))) else (arrearslaw09_YieldDays.j0 k a1 a2 a3 bt308.1 bt308.2.1 bt308.2.2 true a0_0 a0_1)) else ((api_Code.f bt308.2.2).bind fun t314 => (if t314 = 1 then ((api_Code.f bt311.2).bind fun t315 => (if t315 = 1 then (if bt308.1 = 0 then (some (bt311.1 == 0)) else (some false)) else (some false))) else (some false))))))) = some r := by rw [if_pos rfl] at H; exact H
  clear H
  have H := H1
  clear H1
  replace H := Option.bind_eq_some_iff.mp H
  obtain ⟨⟨t308, t309, t310⟩, A70, H⟩ := H
  replace H : ((yield_Rate_Month.f k a0_0 a0_1 a1).bind fun bt311 => ((arrearslaw09_right.f a0_0 a0_1 a1 0 0).bind fun t313 => (if t313 = true then (if bt311.2.isNone = true then ((arrearslaw09_own.f a0_0 a0_1).bind fun bt317 => ((arrearsref09_Month.f bt317.1 bt317.2 a1).bind fun t319 => (arrearslaw09_YieldDays.j0 k a1 a2 a3 t308 t309 t310 (bt311.1 != t319) a0_0 a0_1))) else (arrearslaw09_YieldDays.j0 k a1 a2 a3 t308 t309 t310 true a0_0 a0_1)) else ((api_Code.f t310).bind fun t314 => (if t314 = 1 then ((api_Code.f bt311.2).bind fun t315 => (if t315 = 1 then (if t308 = 0 then (some (bt311.1 == 0)) else (some false)) else (some false))) else (some false)))))) = some r := H
  have A7 := Aside0.mk A70
  clear A70
  replace H := Option.bind_eq_some_iff.mp H
  obtain ⟨⟨t311, t312⟩, A80, H⟩ := H
  replace H : ((arrearslaw09_right.f a0_0 a0_1 a1 0 0).bind fun t313 => (if t313 = true then (if t312.isNone = true then ((arrearslaw09_own.f a0_0 a0_1).bind fun bt317 => ((arrearsref09_Month.f bt317.1 bt317.2 a1).bind fun t319 => (arrearslaw09_YieldDays.j0 k a1 a2 a3 t308 t309 t310 (t311 != t319) a0_0 a0_1))) else (arrearslaw09_YieldDays.j0 k a1 a2 a3 t308 t309 t310 true a0_0 a0_1)) else ((api_Code.f t310).bind fun t314 => (if t314 = 1 then ((api_Code.f t312).bind fun t315 => (if t315 = 1 then (if t308 = 0 then (some (t311 == 0)) else (some false)) else (some false))) else (some false))))) = some r := H
  have A8 := Aside0.mk A80
  clear A80
  replace H := Option.bind_eq_some_iff.mp H
  obtain ⟨t313, A90, H⟩ := H
  replace H : (if t313 = true then (if t312.isNone = true then ((arrearslaw09_own.f a0_0 a0_1).bind fun bt317 => ((arrearsref09_Month.f bt317.1 bt317.2 a1).bind fun t319 => (arrearslaw09_YieldDays.j0 k a1 a2 a3 t308 t309 t310 (t311 != t319) a0_0 a0_1))) else (arrearslaw09_YieldDays.j0 k a1 a2 a3 t308 t309 t310 true a0_0 a0_1)) else ((api_Code.f t310).bind fun t314 => (if t314 = 1 then ((api_Code.f t312).bind fun t315 => (if t315 = 1 then (if t308 = 0 then (some (t311 == 0)) else (some false)) else (some false))) else (some false)))) = some r := H
  have A9 := Aside0.mk A90
  clear A90
  by_cases c10 : t313 = true
  ·
   subst c10
   have H1 : (if t312.isNone = true then ((arrearslaw09_own.f a0_0 a0_1).bind fun bt317 => ((arrearsref09_Month.f bt317.1 bt317.2 a1).bind fun t319 => (arrearslaw09_YieldDays.j0 k a1 a2 a3 t308 t309 t310 (t311 != t319) a0_0 a0_1))) else (arrearslaw09_YieldDays.j0 k a1 a2 a3 t308 t309 t310 true a0_0 a0_1)) = some r := by rw [if_pos rfl] at H; exact H
   clear H
   have H := H1
   clear H1
   have HC11 := Aside0.mk H
   clear H
   go_enter Tryd.func4, Tryd.ntmps4
   go_upto_region 7 with (first | ((with_reducible refine gate_dst (N := 4) rfl ?_); refine box_event ?hg (N := 4) ?hd (cs := #[.int .u32 a0_0, .int .u8 a0_1]) (t := 24) ?hr ?_; (case hd => rfl); (case hg => rfl); (case hr => first | (go_simp; done) | (go_simp; rfl)); intro gb306 hg w12 hbox hb; have n0_ := Aside0.mk (below_step (by repeat (first | (with_reducible first | exact HB.out | apply below_alloc | apply pw_below_drewN | apply below_drew1) | exact HB.out)) hb); have n1_ := Aside0.mk (hbox); have n2_ := Aside0.mk ((by rw [hg]; exact (below_size (by repeat (first | (with_reducible first | exact HB.out | apply below_alloc | apply pw_below_drewN | apply below_drew1) | exact HB.out))) : w.heap.size ≤ gb306)); have n3_ := Aside0.mk ((by rw [hg]; exact (below_size (by repeat (first | (with_reducible first | exact HB.out | apply below_alloc | apply pw_below_drewN | apply below_drew1) | exact HB.out))) : w.heap.size ≤ gb306)); clear HB; have HB := n0_; have BK306 := n1_; have GW306 := n2_; have GE306 := n3_; clear n0_ n1_ n2_ n3_; clear hb hbox hg) | ((with_reducible refine gate_callee (f := 5) rfl ?_); refine goesL_ (some 16) rfl rfl Tryd.func5 (by kernel_rfl) rfl #[] rfl (by (try simp only [List.map_toArray, List.map_cons, List.map_nil]); first | done | rfl | (simp only [List.length_drop, List.length_take]; rfl)) ?_; (with_reducible refine (arrearslaw09_awake.calls k  true _ A5.out).mono ?_); rintro e w13 ⟨rfl, hb⟩; refine ⟨_, rfl, ?_⟩; have n0_ := Aside0.mk (blk_below (g := gb306) (o := .cells #[.int .u32 a0_0, .int .u8 a0_1] 24 (0, 0)) (by (with_reducible repeat (first | refine blk_drewN ?_ _ | refine blk_drew ?_ | refine blk_alloc ?_ _)); exact BK306.out) hb); have n1_ := Aside0.mk (below_step (by repeat (first | (with_reducible first | exact HB.out | apply below_alloc | apply pw_below_drewN | apply below_drew1 | refine below_set ?_ GE306.out) | exact HB.out)) hb); clear BK306; clear HB; have BK306 := n0_; have HB := n1_; clear n0_ n1_; (try clear hb); (try clear hb2); (try clear hk); (try clear hi); have hcz14_0 : w13.cell? ⟨gb306, 0, none⟩ = some (.int .u32 a0_0) := (blk_cell BK306.out 0).trans rfl; have hcz14_1 : w13.cell? ⟨gb306, 1, none⟩ = some (.int .u8 a0_1) := (blk_cell BK306.out 1).trans rfl; have hfz14_0 := blk_frozen BK306.out 0; have hfz14_1 := blk_frozen BK306.out 1) | ((with_reducible refine gate_callee (f := 14) rfl ?_); refine goesL_ (some 23) rfl rfl Tryd.func14 (by kernel_rfl) rfl #[.agg #[.int .u32 a0_0, .int .u8 a0_1], .int .i64 a1, .int .i32 a2, .int .u64 a3] rfl (by (try simp only [List.map_toArray, List.map_cons, List.map_nil]); first | done | rfl | (simp only [List.length_drop, List.length_take]; rfl)) ?_; (with_reducible refine (yield_Rate_Day.calls k a0_0 a0_1 a1 a2 a3 t308 t309 t310 _ A7.out).mono ?_); rintro e w15 ⟨rfl, hb⟩; refine ⟨_, rfl, ?_⟩; have n0_ := Aside0.mk (blk_below (g := gb306) (o := .cells #[.int .u32 a0_0, .int .u8 a0_1] 24 (0, 0)) (by (with_reducible repeat (first | refine blk_drewN ?_ _ | refine blk_drew ?_ | refine blk_alloc ?_ _)); exact BK306.out) hb); have n1_ := Aside0.mk (below_step (by repeat (first | (with_reducible first | exact HB.out | apply below_alloc | apply pw_below_drewN | apply below_drew1 | refine below_set ?_ GE306.out) | exact HB.out)) hb); clear BK306; clear HB; have BK306 := n0_; have HB := n1_; clear n0_ n1_; (try clear hb); (try clear hb2); (try clear hk); (try clear hi); (try simp only [errW_none, errW_some]); have hcz16_0 : w15.cell? ⟨gb306, 0, none⟩ = some (.int .u32 a0_0) := (blk_cell BK306.out 0).trans rfl; have hcz16_1 : w15.cell? ⟨gb306, 1, none⟩ = some (.int .u8 a0_1) := (blk_cell BK306.out 1).trans rfl; have hfz16_0 := blk_frozen BK306.out 0; have hfz16_1 := blk_frozen BK306.out 1) | ((with_reducible refine gate_callee (f := 15) rfl ?_); refine goesL_ (some 30) rfl rfl Tryd.func15 (by kernel_rfl) rfl #[.agg #[.int .u32 a0_0, .int .u8 a0_1], .int .i64 a1] rfl (by (try simp only [List.map_toArray, List.map_cons, List.map_nil]); first | done | rfl | (simp only [List.length_drop, List.length_take]; rfl)) ?_; (with_reducible refine (yield_Rate_Month.calls k a0_0 a0_1 a1 t311 t312 _ A8.out).mono ?_); rintro e w17 ⟨rfl, hb⟩; refine ⟨_, rfl, ?_⟩; have n0_ := Aside0.mk (blk_below (g := gb306) (o := .cells #[.int .u32 a0_0, .int .u8 a0_1] 24 (0, 0)) (by (with_reducible repeat (first | refine blk_drewN ?_ _ | refine blk_drew ?_ | refine blk_alloc ?_ _)); exact BK306.out) hb); have n1_ := Aside0.mk (below_step (by repeat (first | (with_reducible first | exact HB.out | apply below_alloc | apply pw_below_drewN | apply below_drew1 | refine below_set ?_ GE306.out) | exact HB.out)) hb); clear BK306; clear HB; have BK306 := n0_; have HB := n1_; clear n0_ n1_; (try clear hb); (try clear hb2); (try clear hk); (try clear hi); (try simp only [errW_none, errW_some]); have hcz18_0 : w17.cell? ⟨gb306, 0, none⟩ = some (.int .u32 a0_0) := (blk_cell BK306.out 0).trans rfl; have hcz18_1 : w17.cell? ⟨gb306, 1, none⟩ = some (.int .u8 a0_1) := (blk_cell BK306.out 1).trans rfl; have hfz18_0 := blk_frozen BK306.out 0; have hfz18_1 := blk_frozen BK306.out 1) | ((with_reducible refine gate_callee (f := 11) rfl ?_); refine goesL_ (some 35) rfl rfl Tryd.func11 (by kernel_rfl) rfl #[.agg #[.int .u32 a0_0, .int .u8 a0_1], .int .i64 a1, .int .i64 0, .int .u64 0] rfl (by (try simp only [List.map_toArray, List.map_cons, List.map_nil]); first | done | rfl | (simp only [List.length_drop, List.length_take]; rfl)) ?_; (with_reducible refine (arrearslaw09_right.calls a0_0 a0_1 a1 0 0 true _ A9.out).mono ?_); rintro e w19 ⟨rfl, hb⟩; refine ⟨_, rfl, ?_⟩; have n0_ := Aside0.mk (blk_below (g := gb306) (o := .cells #[.int .u32 a0_0, .int .u8 a0_1] 24 (0, 0)) (by (with_reducible repeat (first | refine blk_drewN ?_ _ | refine blk_drew ?_ | refine blk_alloc ?_ _)); exact BK306.out) hb); have n1_ := Aside0.mk (below_step (by repeat (first | (with_reducible first | exact HB.out | apply below_alloc | apply pw_below_drewN | apply below_drew1 | refine below_set ?_ GE306.out) | exact HB.out)) hb); clear BK306; clear HB; have BK306 := n0_; have HB := n1_; clear n0_ n1_; (try clear hb); (try clear hb2); (try clear hk); (try clear hi)))
   (try simp only [Act.put, List.setIfInBounds_toArray, List.set_cons_zero, List.set_cons_succ])
   go_cut [62] (fun v62 wc => ∃ (kq : Nat) (x62_10 : Bool), v62 = .bool x62_10 ∧ Aside0 (arrearslaw09_YieldDays.j0 kq a1 a2 a3 t308 t309 t310 x62_10 a0_0 a0_1 = some r) ∧ Aside0 (kq ≤ k) ∧ Aside0 (wc.heap[gb306]? = some (.cells #[.int .u32 a0_0, .int .u8 a0_1] 24 (0, 0))) ∧ Aside0 (Below w.heap.size w wc))
   case first =>
    have H := HC11.out
    clear HC11
    rcases t312 with _ | q316
    ·
     have H1 : ((arrearslaw09_own.f a0_0 a0_1).bind fun bt317 => ((arrearsref09_Month.f bt317.1 bt317.2 a1).bind fun t319 => (arrearslaw09_YieldDays.j0 k a1 a2 a3 t308 t309 t310 (t311 != t319) a0_0 a0_1))) = some r := by rw [if_pos (show (none : Option Int).isNone = true by rfl)] at H; exact H
     clear H
     have H := H1
     clear H1
     try simp only [errW_none, errW_some]
     replace H := Option.bind_eq_some_iff.mp H
     obtain ⟨⟨t317, t318⟩, A200, H⟩ := H
     replace H : ((arrearsref09_Month.f t317 t318 a1).bind fun t319 => (arrearslaw09_YieldDays.j0 k a1 a2 a3 t308 t309 t310 (t311 != t319) a0_0 a0_1)) = some r := H
     have A20 := Aside0.mk A200
     clear A200
     replace H := Option.bind_eq_some_iff.mp H
     obtain ⟨t319, A210, H⟩ := H
     replace H : (arrearslaw09_YieldDays.j0 k a1 a2 a3 t308 t309 t310 (t311 != t319) a0_0 a0_1) = some r := H
     have A21 := Aside0.mk A210
     clear A210
     have H' := Aside0.mk H
     clear H
     have hcz22_0 : w19.cell? ⟨gb306, 0, none⟩ = some (.int .u32 a0_0) := (blk_cell BK306.out 0).trans rfl
     have hcz22_1 : w19.cell? ⟨gb306, 1, none⟩ = some (.int .u8 a0_1) := (blk_cell BK306.out 1).trans rfl
     have hfz22_0 := blk_frozen BK306.out 0
     have hfz22_1 := blk_frozen BK306.out 1
     go_wp2_with (first | (go_at_call 8; (with_reducible refine (arrearslaw09_own.calls a0_0 a0_1 t317 t318 _ A20.out).mono ?_); rintro e w23 ⟨rfl, hb⟩; have n0_ := Aside0.mk (blk_below (g := gb306) (o := .cells #[.int .u32 a0_0, .int .u8 a0_1] 24 (0, 0)) (by (with_reducible repeat (first | refine blk_drewN ?_ _ | refine blk_drew ?_ | refine blk_alloc ?_ _)); exact BK306.out) hb); have n1_ := Aside0.mk (below_step (by repeat (first | (with_reducible first | exact HB.out | apply below_alloc | apply pw_below_drewN | apply below_drew1 | refine below_set ?_ GE306.out) | exact HB.out)) hb); clear BK306; clear HB; have BK306 := n0_; have HB := n1_; clear n0_ n1_; (try clear hb); (try clear hb2); (try clear hk); (try clear hi)) | (go_at_call 16; (with_reducible refine (arrearsref09_Month.calls t317 t318 a1 t319 _ A21.out).mono ?_); rintro e w24 ⟨rfl, hb⟩; have n0_ := Aside0.mk (blk_below (g := gb306) (o := .cells #[.int .u32 a0_0, .int .u8 a0_1] 24 (0, 0)) (by (with_reducible repeat (first | refine blk_drewN ?_ _ | refine blk_drew ?_ | refine blk_alloc ?_ _)); exact BK306.out) hb); have n1_ := Aside0.mk (below_step (by repeat (first | (with_reducible first | exact HB.out | apply below_alloc | apply pw_below_drewN | apply below_drew1 | refine below_set ?_ GE306.out) | exact HB.out)) hb); clear BK306; clear HB; have BK306 := n0_; have HB := n1_; clear n0_ n1_; (try clear hb); (try clear hb2); (try clear hk); (try clear hi)))
     go_meet
     case rel => exact ⟨_, ((t311 != t319)), (by first | rfl | (simp; done) | (simp [*]; done) | (exfalso; simp at *; omega)), H', ⟨by first | omega | exact Nat.le_refl _⟩, ⟨by (with_reducible repeat (first | refine blk_drewN ?_ _ | refine blk_drew ?_ | refine blk_alloc ?_ _)); exact BK306.out⟩, ⟨by repeat (first | (with_reducible first | exact HB.out | apply below_alloc | apply pw_below_drewN | apply below_drew1 | refine below_set ?_ GE306.out) | exact HB.out)⟩⟩
    ·
     have H1 : (arrearslaw09_YieldDays.j0 k a1 a2 a3 t308 t309 t310 true a0_0 a0_1) = some r := by rw [if_neg (show ¬ (some q316).isNone = true by simp)] at H; exact H
     clear H
     have H := H1
     clear H1
     try simp only [errW_none, errW_some]
     have H' := Aside0.mk H
     clear H
     go_wp2
     go_meet
     case rel => exact ⟨_, (true), (by first | rfl | (simp; done) | (simp [*]; done) | (exfalso; simp at *; omega)), H', ⟨by first | omega | exact Nat.le_refl _⟩, ⟨by (with_reducible repeat (first | refine blk_drewN ?_ _ | refine blk_drew ?_ | refine blk_alloc ?_ _)); exact BK306.out⟩, ⟨by repeat (first | (with_reducible first | exact HB.out | apply below_alloc | apply pw_below_drewN | apply below_drew1 | refine below_set ?_ GE306.out) | exact HB.out)⟩⟩
   case rest =>
    clear HC11
    try clear c1
    try clear p2
    try clear q3
    try clear c4
    try clear c5
    try clear c6
    try clear c10
    try clear c11
    try clear c14
    try clear c15
    try clear hcz14_0
    try clear hcz14_1
    try clear hcz16_0
    try clear hcz16_1
    try clear hcz18_0
    try clear hcz18_1
    try clear hcz22_0
    try clear hcz22_1
    try clear hfz14_0
    try clear hfz14_1
    try clear hfz16_0
    try clear hfz16_1
    try clear hfz18_0
    try clear hfz18_1
    try clear hfz22_0
    try clear hfz22_1
    try clear q316
    obtain ⟨kq, x62_10, rfl, HA, HJ10, BK306, HB⟩ := hcut
    cases kq with
    | zero => exact absurd HA.out (by simp [arrearslaw09_YieldDays.j0])
    | succ kj10 =>
     have H := HA.out
     clear HA
     simp only [arrearslaw09_YieldDays.j0] at H
     by_cases c25 : x62_10 = true
     ·
      subst c25
      have H1 : (some false) = some r := by rw [if_pos rfl] at H; exact H
      clear H
      have H := H1
      clear H1
      exact absurd (H.trans (congrArg some HR.out)) (by simp)
     ·
      replace c25 := Bool.eq_false_iff.mpr c25
      subst c25
      have H1 : ((arrearslaw09_right.f a0_0 a0_1 a1 0 a3).bind fun t320 => (if t320 = true then (if a2 < 0 then (arrearslaw09_YieldDays.j1 kj10 a1 a2 a3 t308 t309 t310 true a0_0 a0_1) else (arrearslaw09_YieldDays.j1 kj10 a1 a2 a3 t308 t309 t310 (decide (a2 ≥ 3652058)) a0_0 a0_1)) else (arrearslaw09_YieldDays.j1 kj10 a1 a2 a3 t308 t309 t310 true a0_0 a0_1))) = some r := by rw [if_neg (show ¬ (false = true) by decide)] at H; exact H
      clear H
      have H := H1
      clear H1
      have HC26 := Aside0.mk H
      clear H
      go_upto_region 9 with (fail)
      go_cut [75] (fun v75 wc => ∃ (kq : Nat) (x75_25 : Bool), v75 = .bool x75_25 ∧ Aside0 (arrearslaw09_YieldDays.j1 kq a1 a2 a3 t308 t309 t310 x75_25 a0_0 a0_1 = some r) ∧ Aside0 (kq ≤ kj10) ∧ Aside0 (wc.heap[gb306]? = some (.cells #[.int .u32 a0_0, .int .u8 a0_1] 24 (0, 0))) ∧ Aside0 (Below w.heap.size w wc))
      case first =>
       have H := HC26.out
       clear HC26
       replace H := Option.bind_eq_some_iff.mp H
       obtain ⟨t320, A270, H⟩ := H
       replace H : (if t320 = true then (if a2 < 0 then (arrearslaw09_YieldDays.j1 kj10 a1 a2 a3 t308 t309 t310 true a0_0 a0_1) else (arrearslaw09_YieldDays.j1 kj10 a1 a2 a3 t308 t309 t310 (decide (a2 ≥ 3652058)) a0_0 a0_1)) else (arrearslaw09_YieldDays.j1 kj10 a1 a2 a3 t308 t309 t310 true a0_0 a0_1)) = some r := H
       have A27 := Aside0.mk A270
       clear A270
       by_cases c28 : t320 = true
       ·
        subst c28
        have H1 : (if a2 < 0 then (arrearslaw09_YieldDays.j1 kj10 a1 a2 a3 t308 t309 t310 true a0_0 a0_1) else (arrearslaw09_YieldDays.j1 kj10 a1 a2 a3 t308 t309 t310 (decide (a2 ≥ 3652058)) a0_0 a0_1)) = some r := by rw [if_pos rfl] at H; exact H
        clear H
        have H := H1
        clear H1
        by_cases c29 : a2 < 0
        ·
         rw [if_pos c29] at H
         have c29b0 : decide (a2 < 0) = true := decide_eq_true c29
         clear c29
         (first | rw [c29b0] | (simp only [i64_w, i32_w]; rw [c29b0]) | skip)
         have H' := Aside0.mk H
         clear H
         have hcz30_0 : wc.cell? ⟨gb306, 0, none⟩ = some (.int .u32 a0_0) := (blk_cell BK306.out 0).trans rfl
         have hcz30_1 : wc.cell? ⟨gb306, 1, none⟩ = some (.int .u8 a0_1) := (blk_cell BK306.out 1).trans rfl
         have hfz30_0 := blk_frozen BK306.out 0
         have hfz30_1 := blk_frozen BK306.out 1
         go_wp2_with (first | ((with_reducible refine gate_callee (f := 11) rfl ?_); refine goesL_ (some 66) rfl rfl Tryd.func11 (by kernel_rfl) rfl #[.agg #[.int .u32 a0_0, .int .u8 a0_1], .int .i64 a1, .int .i64 0, .int .u64 a3] rfl (by (try simp only [List.map_toArray, List.map_cons, List.map_nil]); first | done | rfl | (simp only [List.length_drop, List.length_take]; rfl)) ?_; (with_reducible refine (arrearslaw09_right.calls a0_0 a0_1 a1 0 a3 true _ A27.out).mono ?_); rintro e w31 ⟨rfl, hb⟩; refine ⟨_, rfl, ?_⟩; have n0_ := Aside0.mk (blk_below (g := gb306) (o := .cells #[.int .u32 a0_0, .int .u8 a0_1] 24 (0, 0)) (by (with_reducible repeat (first | refine blk_drewN ?_ _ | refine blk_drew ?_ | refine blk_alloc ?_ _)); exact BK306.out) hb); have n1_ := Aside0.mk (below_step (by repeat (first | (with_reducible first | exact HB.out | apply below_alloc | apply pw_below_drewN | apply below_drew1 | refine below_set ?_ GE306.out) | exact HB.out)) hb); clear BK306; clear HB; have BK306 := n0_; have HB := n1_; clear n0_ n1_; (try clear hb); (try clear hb2); (try clear hk); (try clear hi)))
         go_meet
         case rel => exact ⟨_, (true), (by first | rfl | (simp; done) | (simp [*]; done) | (exfalso; simp at *; omega)), H', ⟨by have := HJ10.out; first | omega | exact Nat.le_refl _⟩, ⟨by (with_reducible repeat (first | refine blk_drewN ?_ _ | refine blk_drew ?_ | refine blk_alloc ?_ _)); exact BK306.out⟩, ⟨by repeat (first | (with_reducible first | exact HB.out | apply below_alloc | apply pw_below_drewN | apply below_drew1 | refine below_set ?_ GE306.out) | exact HB.out)⟩⟩
        ·
         rw [if_neg c29] at H
         have c29b0 : decide (a2 < 0) = false := decide_eq_false c29
         clear c29
         (first | rw [c29b0] | (simp only [i64_w, i32_w]; rw [c29b0]) | skip)
         have H' := Aside0.mk H
         clear H
         have hcz32_0 : wc.cell? ⟨gb306, 0, none⟩ = some (.int .u32 a0_0) := (blk_cell BK306.out 0).trans rfl
         have hcz32_1 : wc.cell? ⟨gb306, 1, none⟩ = some (.int .u8 a0_1) := (blk_cell BK306.out 1).trans rfl
         have hfz32_0 := blk_frozen BK306.out 0
         have hfz32_1 := blk_frozen BK306.out 1
         go_wp2_with (first | ((with_reducible refine gate_callee (f := 11) rfl ?_); refine goesL_ (some 66) rfl rfl Tryd.func11 (by kernel_rfl) rfl #[.agg #[.int .u32 a0_0, .int .u8 a0_1], .int .i64 a1, .int .i64 0, .int .u64 a3] rfl (by (try simp only [List.map_toArray, List.map_cons, List.map_nil]); first | done | rfl | (simp only [List.length_drop, List.length_take]; rfl)) ?_; (with_reducible refine (arrearslaw09_right.calls a0_0 a0_1 a1 0 a3 true _ A27.out).mono ?_); rintro e w33 ⟨rfl, hb⟩; refine ⟨_, rfl, ?_⟩; have n0_ := Aside0.mk (blk_below (g := gb306) (o := .cells #[.int .u32 a0_0, .int .u8 a0_1] 24 (0, 0)) (by (with_reducible repeat (first | refine blk_drewN ?_ _ | refine blk_drew ?_ | refine blk_alloc ?_ _)); exact BK306.out) hb); have n1_ := Aside0.mk (below_step (by repeat (first | (with_reducible first | exact HB.out | apply below_alloc | apply pw_below_drewN | apply below_drew1 | refine below_set ?_ GE306.out) | exact HB.out)) hb); clear BK306; clear HB; have BK306 := n0_; have HB := n1_; clear n0_ n1_; (try clear hb); (try clear hb2); (try clear hk); (try clear hi)))
         go_meet
         case rel => exact ⟨_, (decide (a2 ≥ 3652058)), (by first | rfl | (simp; done) | (simp [*]; done) | (exfalso; simp at *; omega)), H', ⟨by have := HJ10.out; first | omega | exact Nat.le_refl _⟩, ⟨by (with_reducible repeat (first | refine blk_drewN ?_ _ | refine blk_drew ?_ | refine blk_alloc ?_ _)); exact BK306.out⟩, ⟨by repeat (first | (with_reducible first | exact HB.out | apply below_alloc | apply pw_below_drewN | apply below_drew1 | refine below_set ?_ GE306.out) | exact HB.out)⟩⟩
       ·
        replace c28 := Bool.eq_false_iff.mpr c28
        subst c28
        have H1 : (arrearslaw09_YieldDays.j1 kj10 a1 a2 a3 t308 t309 t310 true a0_0 a0_1) = some r := by rw [if_neg (show ¬ (false = true) by decide)] at H; exact H
        clear H
        have H := H1
        clear H1
        have H' := Aside0.mk H
        clear H
        have hcz34_0 : wc.cell? ⟨gb306, 0, none⟩ = some (.int .u32 a0_0) := (blk_cell BK306.out 0).trans rfl
        have hcz34_1 : wc.cell? ⟨gb306, 1, none⟩ = some (.int .u8 a0_1) := (blk_cell BK306.out 1).trans rfl
        have hfz34_0 := blk_frozen BK306.out 0
        have hfz34_1 := blk_frozen BK306.out 1
        go_wp2_with (first | ((with_reducible refine gate_callee (f := 11) rfl ?_); refine goesL_ (some 66) rfl rfl Tryd.func11 (by kernel_rfl) rfl #[.agg #[.int .u32 a0_0, .int .u8 a0_1], .int .i64 a1, .int .i64 0, .int .u64 a3] rfl (by (try simp only [List.map_toArray, List.map_cons, List.map_nil]); first | done | rfl | (simp only [List.length_drop, List.length_take]; rfl)) ?_; (with_reducible refine (arrearslaw09_right.calls a0_0 a0_1 a1 0 a3 false _ A27.out).mono ?_); rintro e w35 ⟨rfl, hb⟩; refine ⟨_, rfl, ?_⟩; have n0_ := Aside0.mk (blk_below (g := gb306) (o := .cells #[.int .u32 a0_0, .int .u8 a0_1] 24 (0, 0)) (by (with_reducible repeat (first | refine blk_drewN ?_ _ | refine blk_drew ?_ | refine blk_alloc ?_ _)); exact BK306.out) hb); have n1_ := Aside0.mk (below_step (by repeat (first | (with_reducible first | exact HB.out | apply below_alloc | apply pw_below_drewN | apply below_drew1 | refine below_set ?_ GE306.out) | exact HB.out)) hb); clear BK306; clear HB; have BK306 := n0_; have HB := n1_; clear n0_ n1_; (try clear hb); (try clear hb2); (try clear hk); (try clear hi)))
        go_meet
        case rel => exact ⟨_, (true), (by first | rfl | (simp; done) | (simp [*]; done) | (exfalso; simp at *; omega)), H', ⟨by have := HJ10.out; first | omega | exact Nat.le_refl _⟩, ⟨by (with_reducible repeat (first | refine blk_drewN ?_ _ | refine blk_drew ?_ | refine blk_alloc ?_ _)); exact BK306.out⟩, ⟨by repeat (first | (with_reducible first | exact HB.out | apply below_alloc | apply pw_below_drewN | apply below_drew1 | refine below_set ?_ GE306.out) | exact HB.out)⟩⟩
      case rest =>
       clear HC26
       try clear c1
       try clear c2
       try clear p2
       try clear q3
       try clear c4
       try clear c5
       try clear c6
       try clear c10
       try clear c11
       try clear c14
       try clear c15
       try clear c25
       try clear c28
       try clear c29
       try clear c29b0
       try clear q31
       try clear hcz14_0
       try clear hcz14_1
       try clear hcz16_0
       try clear hcz16_1
       try clear hcz18_0
       try clear hcz18_1
       try clear hcz22_0
       try clear hcz22_1
       try clear hcz30_0
       try clear hcz30_1
       try clear hcz32_0
       try clear hcz32_1
       try clear hcz34_0
       try clear hcz34_1
       try clear hfz14_0
       try clear hfz14_1
       try clear hfz16_0
       try clear hfz16_1
       try clear hfz18_0
       try clear hfz18_1
       try clear hfz22_0
       try clear hfz22_1
       try clear hfz30_0
       try clear hfz30_1
       try clear hfz32_0
       try clear hfz32_1
       try clear hfz34_0
       try clear hfz34_1
       try clear p2
       try clear q3
       try clear q316
       obtain ⟨kq, x75_25, rfl, HA, HJ25, BK306, HB⟩ := hcut
       cases kq with
       | zero => exact absurd HA.out (by simp [arrearslaw09_YieldDays.j1])
       | succ kj25 =>
        have H := HA.out
        clear HA
        simp only [arrearslaw09_YieldDays.j1] at H
        by_cases c36 : x75_25 = true
        ·
         subst c36
         have H1 : ((api_Code.f t310).bind fun t321 => (if t321 = 1 then (if t308 = 0 then (some (t309 == 0)) else (some false)) else (some false))) = some r := by rw [if_pos rfl] at H; exact H
         clear H
         have H := H1
         clear H1
         replace H := Option.bind_eq_some_iff.mp H
         obtain ⟨t321, A370, H⟩ := H
         replace H : (if t321 = 1 then (if t308 = 0 then (some (t309 == 0)) else (some false)) else (some false)) = some r := H
         have A37 := Aside0.mk A370
         clear A370
         by_cases c38 : t321 = 1
         ·
          rw [if_pos c38] at H
          have c38b0 : (t321 == 1) = true := beq_iff_eq.mpr c38
          have c38b1 : (t321 != 1) = false := bne_eq_false_iff_eq.mpr c38
          clear c38
          by_cases c39 : t308 = 0
          ·
           rw [if_pos c39] at H
           have c39b0 : (t308 == 0) = true := beq_iff_eq.mpr c39
           have c39b1 : (t308 != 0) = false := bne_eq_false_iff_eq.mpr c39
           clear c39
           obtain rfl := Option.some.inj H
           have CA37 := fun W (hGW : Go.Proofs.YtldicnmpegkicaaDoor.M.Laid W) => api_Code.calls t310 t321 W hGW A37.out
           try simp only [errW_none, errW_some] at CA37
           go_wp2_with (first | (go_at_call 12; (with_reducible refine (CA37 _ ?hGL).mono ?_); (case hGL => exact Go.Proofs.YtldicnmpegkicaaDoor.M.Laid.below HG.out (by repeat (first | (with_reducible first | exact HB.out | apply below_alloc | apply pw_below_drewN | apply below_drew1 | refine below_set ?_ GE306.out) | exact HB.out))); rintro e w40 ⟨rfl, hb⟩; have n0_ := Aside0.mk (blk_below (g := gb306) (o := .cells #[.int .u32 a0_0, .int .u8 a0_1] 24 (0, 0)) (by (with_reducible repeat (first | refine blk_drewN ?_ _ | refine blk_drew ?_ | refine blk_alloc ?_ _)); exact BK306.out) hb); have n1_ := Aside0.mk (below_step (by repeat (first | (with_reducible first | exact HB.out | apply below_alloc | apply pw_below_drewN | apply below_drew1 | refine below_set ?_ GE306.out) | exact HB.out)) hb); clear BK306; clear HB; have BK306 := n0_; have HB := n1_; clear n0_ n1_; (try clear hb); (try clear hb2); (try clear hk); (try clear hi)))
           go_ret
           exact ⟨by first | rfl | (simp [errW_none, errW_some] <;> rfl) | (simp [*, errW_none, errW_some] <;> rfl), by repeat (first | (with_reducible first | exact HB.out | apply below_alloc | apply pw_below_drewN | apply below_drew1 | refine below_set ?_ GE306.out) | exact HB.out)⟩
          ·
           rw [if_neg c39] at H
           have c39b0 : (t308 == 0) = false := beq_eq_false_iff_ne.mpr c39
           have c39b1 : (t308 != 0) = true := bne_iff_ne.mpr c39
           exact absurd (H.trans (congrArg some HR.out)) (by simp)
         ·
          rw [if_neg c38] at H
          have c38b0 : (t321 == 1) = false := beq_eq_false_iff_ne.mpr c38
          have c38b1 : (t321 != 1) = true := bne_iff_ne.mpr c38
          exact absurd (H.trans (congrArg some HR.out)) (by simp)
        ·
         replace c36 := Bool.eq_false_iff.mpr c36
         subst c36
         have H1 : ((arrearslaw09_own.f a0_0 a0_1).bind fun bt322 => ((arrearsref09_Day.f kj25 bt322.1 bt322.2 a1 (wrap64 (a2)) a3).bind fun bt324 => (if t310.isNone = true then (if t308 = bt324.1 then (some (t309 == bt324.2)) else (some false)) else (some false)))) = some r := by rw [if_neg (show ¬ (false = true) by decide)] at H; exact H
         clear H
         have H := H1
         clear H1
         replace H := Option.bind_eq_some_iff.mp H
         obtain ⟨⟨t322, t323⟩, A430, H⟩ := H
         replace H : ((arrearsref09_Day.f kj25 t322 t323 a1 (wrap64 (a2)) a3).bind fun bt324 => (if t310.isNone = true then (if t308 = bt324.1 then (some (t309 == bt324.2)) else (some false)) else (some false))) = some r := H
         have A43 := Aside0.mk A430
         clear A430
         replace H := Option.bind_eq_some_iff.mp H
         obtain ⟨⟨t324, t325⟩, A440, H⟩ := H
         replace H : (if t310.isNone = true then (if t308 = t324 then (some (t309 == t325)) else (some false)) else (some false)) = some r := H
         have A44 := Aside0.mk A440
         clear A440
         rcases t310 with _ | q326
         ·
          have H1 : (if t308 = t324 then (some (t309 == t325)) else (some false)) = some r := by rw [if_pos (show (none : Option Int).isNone = true by rfl)] at H; exact H
          clear H
          have H := H1
          clear H1
          try simp only [errW_none, errW_some]
          by_cases c45 : t308 = t324
          ·
           rw [if_pos c45] at H
           have c45b0 : (t308 == t324) = true := beq_iff_eq.mpr c45
           have c45b1 : (t308 != t324) = false := bne_eq_false_iff_eq.mpr c45
           clear c45
           obtain rfl := Option.some.inj H
           have hcz46_0 : wc.cell? ⟨gb306, 0, none⟩ = some (.int .u32 a0_0) := (blk_cell BK306.out 0).trans rfl
           have hcz46_1 : wc.cell? ⟨gb306, 1, none⟩ = some (.int .u8 a0_1) := (blk_cell BK306.out 1).trans rfl
           have hfz46_0 := blk_frozen BK306.out 0
           have hfz46_1 := blk_frozen BK306.out 1
           go_wp2_with (first | ((with_reducible refine gate_callee (f := 8) rfl ?_); refine goesL_ (some 89) rfl rfl Tryd.func8 (by kernel_rfl) rfl #[.agg #[.int .u32 a0_0, .int .u8 a0_1]] rfl (by (try simp only [List.map_toArray, List.map_cons, List.map_nil]); first | done | rfl | (simp only [List.length_drop, List.length_take]; rfl)) ?_; (with_reducible refine (arrearslaw09_own.calls a0_0 a0_1 t322 t323 _ A43.out).mono ?_); rintro e w47 ⟨rfl, hb⟩; refine ⟨_, rfl, ?_⟩; have n0_ := Aside0.mk (blk_below (g := gb306) (o := .cells #[.int .u32 a0_0, .int .u8 a0_1] 24 (0, 0)) (by (with_reducible repeat (first | refine blk_drewN ?_ _ | refine blk_drew ?_ | refine blk_alloc ?_ _)); exact BK306.out) hb); have n1_ := Aside0.mk (below_step (by repeat (first | (with_reducible first | exact HB.out | apply below_alloc | apply pw_below_drewN | apply below_drew1 | refine below_set ?_ GE306.out) | exact HB.out)) hb); clear BK306; clear HB; have BK306 := n0_; have HB := n1_; clear n0_ n1_; (try clear hb); (try clear hb2); (try clear hk); (try clear hi)) | ((with_reducible refine gate_callee (f := 17) rfl ?_); refine goesL_ (some 94) rfl rfl Tryd.func17 (by kernel_rfl) rfl #[.agg #[.int .u32 t322, .bool t323], .int .i64 a1, .int .i64 (wrap64 (a2)), .int .u64 a3] rfl (by (try simp only [List.map_toArray, List.map_cons, List.map_nil]); first | done | rfl | (simp only [List.length_drop, List.length_take]; rfl)) ?_; (with_reducible refine (arrearsref09_Day.calls kj25 t322 t323 a1 (wrap64 (a2)) a3 t324 t325 _ A44.out).mono ?_); rintro e w48 ⟨rfl, hb⟩; refine ⟨_, rfl, ?_⟩; have n0_ := Aside0.mk (blk_below (g := gb306) (o := .cells #[.int .u32 a0_0, .int .u8 a0_1] 24 (0, 0)) (by (with_reducible repeat (first | refine blk_drewN ?_ _ | refine blk_drew ?_ | refine blk_alloc ?_ _)); exact BK306.out) hb); have n1_ := Aside0.mk (below_step (by repeat (first | (with_reducible first | exact HB.out | apply below_alloc | apply pw_below_drewN | apply below_drew1 | refine below_set ?_ GE306.out) | exact HB.out)) hb); clear BK306; clear HB; have BK306 := n0_; have HB := n1_; clear n0_ n1_; (try clear hb); (try clear hb2); (try clear hk); (try clear hi)))
           go_ret
           exact ⟨by first | rfl | (simp [errW_none, errW_some] <;> rfl) | (simp [*, errW_none, errW_some] <;> rfl), by repeat (first | (with_reducible first | exact HB.out | apply below_alloc | apply pw_below_drewN | apply below_drew1 | refine below_set ?_ GE306.out) | exact HB.out)⟩
          ·
           rw [if_neg c45] at H
           have c45b0 : (t308 == t324) = false := beq_eq_false_iff_ne.mpr c45
           have c45b1 : (t308 != t324) = true := bne_iff_ne.mpr c45
           exact absurd (H.trans (congrArg some HR.out)) (by simp)
         ·
          have H1 : (some false) = some r := by rw [if_neg (show ¬ (some q326).isNone = true by simp)] at H; exact H
          clear H
          have H := H1
          clear H1
          try simp only [errW_none, errW_some]
          exact absurd (H.trans (congrArg some HR.out)) (by simp)
  ·
   replace c10 := Bool.eq_false_iff.mpr c10
   subst c10
   have H1 : ((api_Code.f t310).bind fun t314 => (if t314 = 1 then ((api_Code.f t312).bind fun t315 => (if t315 = 1 then (if t308 = 0 then (some (t311 == 0)) else (some false)) else (some false))) else (some false))) = some r := by rw [if_neg (show ¬ (false = true) by decide)] at H; exact H
   clear H
   have H := H1
   clear H1
   replace H := Option.bind_eq_some_iff.mp H
   obtain ⟨t314, A550, H⟩ := H
   replace H : (if t314 = 1 then ((api_Code.f t312).bind fun t315 => (if t315 = 1 then (if t308 = 0 then (some (t311 == 0)) else (some false)) else (some false))) else (some false)) = some r := H
   have A55 := Aside0.mk A550
   clear A550
   by_cases c56 : t314 = 1
   ·
    rw [if_pos c56] at H
    have c56b0 : (t314 == 1) = true := beq_iff_eq.mpr c56
    have c56b1 : (t314 != 1) = false := bne_eq_false_iff_eq.mpr c56
    clear c56
    replace H := Option.bind_eq_some_iff.mp H
    obtain ⟨t315, A570, H⟩ := H
    replace H : (if t315 = 1 then (if t308 = 0 then (some (t311 == 0)) else (some false)) else (some false)) = some r := H
    have A57 := Aside0.mk A570
    clear A570
    by_cases c58 : t315 = 1
    ·
     rw [if_pos c58] at H
     have c58b0 : (t315 == 1) = true := beq_iff_eq.mpr c58
     have c58b1 : (t315 != 1) = false := bne_eq_false_iff_eq.mpr c58
     clear c58
     by_cases c59 : t308 = 0
     ·
      rw [if_pos c59] at H
      have c59b0 : (t308 == 0) = true := beq_iff_eq.mpr c59
      have c59b1 : (t308 != 0) = false := bne_eq_false_iff_eq.mpr c59
      clear c59
      obtain rfl := Option.some.inj H
      go_enter Tryd.func4, Tryd.ntmps4
      go_wp2_with (first | ((with_reducible refine gate_dst (N := 4) rfl ?_); refine box_event ?hg (N := 4) ?hd (cs := #[.int .u32 a0_0, .int .u8 a0_1]) (t := 24) ?hr ?_; (case hd => rfl); (case hg => rfl); (case hr => first | (go_simp; done) | (go_simp; rfl)); intro gb306 hg w60 hbox hb; have n0_ := Aside0.mk (below_step (by repeat (first | (with_reducible first | exact HB.out | apply below_alloc | apply pw_below_drewN | apply below_drew1) | exact HB.out)) hb); have n1_ := Aside0.mk (hbox); have n2_ := Aside0.mk ((by rw [hg]; exact (below_size (by repeat (first | (with_reducible first | exact HB.out | apply below_alloc | apply pw_below_drewN | apply below_drew1) | exact HB.out))) : w.heap.size ≤ gb306)); have n3_ := Aside0.mk ((by rw [hg]; exact (below_size (by repeat (first | (with_reducible first | exact HB.out | apply below_alloc | apply pw_below_drewN | apply below_drew1) | exact HB.out))) : w.heap.size ≤ gb306)); clear HB; have HB := n0_; have BK306 := n1_; have GW306 := n2_; have GE306 := n3_; clear n0_ n1_ n2_ n3_; clear hb hbox hg) | ((with_reducible refine gate_callee (f := 5) rfl ?_); refine goesL_ (some 16) rfl rfl Tryd.func5 (by kernel_rfl) rfl #[] rfl (by (try simp only [List.map_toArray, List.map_cons, List.map_nil]); first | done | rfl | (simp only [List.length_drop, List.length_take]; rfl)) ?_; (with_reducible refine (arrearslaw09_awake.calls k  true _ A5.out).mono ?_); rintro e w61 ⟨rfl, hb⟩; refine ⟨_, rfl, ?_⟩; have n0_ := Aside0.mk (blk_below (g := gb306) (o := .cells #[.int .u32 a0_0, .int .u8 a0_1] 24 (0, 0)) (by (with_reducible repeat (first | refine blk_drewN ?_ _ | refine blk_drew ?_ | refine blk_alloc ?_ _)); exact BK306.out) hb); have n1_ := Aside0.mk (below_step (by repeat (first | (with_reducible first | exact HB.out | apply below_alloc | apply pw_below_drewN | apply below_drew1 | refine below_set ?_ GE306.out) | exact HB.out)) hb); clear BK306; clear HB; have BK306 := n0_; have HB := n1_; clear n0_ n1_; (try clear hb); (try clear hb2); (try clear hk); (try clear hi); have hcz62_0 : w61.cell? ⟨gb306, 0, none⟩ = some (.int .u32 a0_0) := (blk_cell BK306.out 0).trans rfl; have hcz62_1 : w61.cell? ⟨gb306, 1, none⟩ = some (.int .u8 a0_1) := (blk_cell BK306.out 1).trans rfl; have hfz62_0 := blk_frozen BK306.out 0; have hfz62_1 := blk_frozen BK306.out 1) | ((with_reducible refine gate_callee (f := 14) rfl ?_); refine goesL_ (some 23) rfl rfl Tryd.func14 (by kernel_rfl) rfl #[.agg #[.int .u32 a0_0, .int .u8 a0_1], .int .i64 a1, .int .i32 a2, .int .u64 a3] rfl (by (try simp only [List.map_toArray, List.map_cons, List.map_nil]); first | done | rfl | (simp only [List.length_drop, List.length_take]; rfl)) ?_; (with_reducible refine (yield_Rate_Day.calls k a0_0 a0_1 a1 a2 a3 t308 t309 t310 _ A7.out).mono ?_); rintro e w63 ⟨rfl, hb⟩; refine ⟨_, rfl, ?_⟩; have n0_ := Aside0.mk (blk_below (g := gb306) (o := .cells #[.int .u32 a0_0, .int .u8 a0_1] 24 (0, 0)) (by (with_reducible repeat (first | refine blk_drewN ?_ _ | refine blk_drew ?_ | refine blk_alloc ?_ _)); exact BK306.out) hb); have n1_ := Aside0.mk (below_step (by repeat (first | (with_reducible first | exact HB.out | apply below_alloc | apply pw_below_drewN | apply below_drew1 | refine below_set ?_ GE306.out) | exact HB.out)) hb); clear BK306; clear HB; have BK306 := n0_; have HB := n1_; clear n0_ n1_; (try clear hb); (try clear hb2); (try clear hk); (try clear hi); (try simp only [errW_none, errW_some]); have hcz64_0 : w63.cell? ⟨gb306, 0, none⟩ = some (.int .u32 a0_0) := (blk_cell BK306.out 0).trans rfl; have hcz64_1 : w63.cell? ⟨gb306, 1, none⟩ = some (.int .u8 a0_1) := (blk_cell BK306.out 1).trans rfl; have hfz64_0 := blk_frozen BK306.out 0; have hfz64_1 := blk_frozen BK306.out 1) | ((with_reducible refine gate_callee (f := 15) rfl ?_); refine goesL_ (some 30) rfl rfl Tryd.func15 (by kernel_rfl) rfl #[.agg #[.int .u32 a0_0, .int .u8 a0_1], .int .i64 a1] rfl (by (try simp only [List.map_toArray, List.map_cons, List.map_nil]); first | done | rfl | (simp only [List.length_drop, List.length_take]; rfl)) ?_; (with_reducible refine (yield_Rate_Month.calls k a0_0 a0_1 a1 t311 t312 _ A8.out).mono ?_); rintro e w65 ⟨rfl, hb⟩; refine ⟨_, rfl, ?_⟩; have n0_ := Aside0.mk (blk_below (g := gb306) (o := .cells #[.int .u32 a0_0, .int .u8 a0_1] 24 (0, 0)) (by (with_reducible repeat (first | refine blk_drewN ?_ _ | refine blk_drew ?_ | refine blk_alloc ?_ _)); exact BK306.out) hb); have n1_ := Aside0.mk (below_step (by repeat (first | (with_reducible first | exact HB.out | apply below_alloc | apply pw_below_drewN | apply below_drew1 | refine below_set ?_ GE306.out) | exact HB.out)) hb); clear BK306; clear HB; have BK306 := n0_; have HB := n1_; clear n0_ n1_; (try clear hb); (try clear hb2); (try clear hk); (try clear hi); (try simp only [errW_none, errW_some]); have hcz66_0 : w65.cell? ⟨gb306, 0, none⟩ = some (.int .u32 a0_0) := (blk_cell BK306.out 0).trans rfl; have hcz66_1 : w65.cell? ⟨gb306, 1, none⟩ = some (.int .u8 a0_1) := (blk_cell BK306.out 1).trans rfl; have hfz66_0 := blk_frozen BK306.out 0; have hfz66_1 := blk_frozen BK306.out 1) | ((with_reducible refine gate_callee (f := 11) rfl ?_); refine goesL_ (some 35) rfl rfl Tryd.func11 (by kernel_rfl) rfl #[.agg #[.int .u32 a0_0, .int .u8 a0_1], .int .i64 a1, .int .i64 0, .int .u64 0] rfl (by (try simp only [List.map_toArray, List.map_cons, List.map_nil]); first | done | rfl | (simp only [List.length_drop, List.length_take]; rfl)) ?_; (with_reducible refine (arrearslaw09_right.calls a0_0 a0_1 a1 0 0 false _ A9.out).mono ?_); rintro e w67 ⟨rfl, hb⟩; refine ⟨_, rfl, ?_⟩; have n0_ := Aside0.mk (blk_below (g := gb306) (o := .cells #[.int .u32 a0_0, .int .u8 a0_1] 24 (0, 0)) (by (with_reducible repeat (first | refine blk_drewN ?_ _ | refine blk_drew ?_ | refine blk_alloc ?_ _)); exact BK306.out) hb); have n1_ := Aside0.mk (below_step (by repeat (first | (with_reducible first | exact HB.out | apply below_alloc | apply pw_below_drewN | apply below_drew1 | refine below_set ?_ GE306.out) | exact HB.out)) hb); clear BK306; clear HB; have BK306 := n0_; have HB := n1_; clear n0_ n1_; (try clear hb); (try clear hb2); (try clear hk); (try clear hi); have CA55 := fun W (hGW : Go.Proofs.YtldicnmpegkicaaDoor.M.Laid W) => api_Code.calls t310 t314 W hGW A55.out; try simp only [errW_none, errW_some] at CA55) | (go_at_call 12; (with_reducible refine (CA55 _ ?hGL).mono ?_); (case hGL => exact Go.Proofs.YtldicnmpegkicaaDoor.M.Laid.below HG.out (by repeat (first | (with_reducible first | exact HB.out | apply below_alloc | apply pw_below_drewN | apply below_drew1 | refine below_set ?_ GE306.out) | exact HB.out))); rintro e w68 ⟨rfl, hb⟩; have n0_ := Aside0.mk (blk_below (g := gb306) (o := .cells #[.int .u32 a0_0, .int .u8 a0_1] 24 (0, 0)) (by (with_reducible repeat (first | refine blk_drewN ?_ _ | refine blk_drew ?_ | refine blk_alloc ?_ _)); exact BK306.out) hb); have n1_ := Aside0.mk (below_step (by repeat (first | (with_reducible first | exact HB.out | apply below_alloc | apply pw_below_drewN | apply below_drew1 | refine below_set ?_ GE306.out) | exact HB.out)) hb); clear BK306; clear HB; have BK306 := n0_; have HB := n1_; clear n0_ n1_; (try clear hb); (try clear hb2); (try clear hk); (try clear hi); have CA57 := fun W (hGW : Go.Proofs.YtldicnmpegkicaaDoor.M.Laid W) => api_Code.calls t312 t315 W hGW A57.out; try simp only [errW_none, errW_some] at CA57) | (go_at_call 12; (with_reducible refine (CA57 _ ?hGL).mono ?_); (case hGL => exact Go.Proofs.YtldicnmpegkicaaDoor.M.Laid.below HG.out (by repeat (first | (with_reducible first | exact HB.out | apply below_alloc | apply pw_below_drewN | apply below_drew1 | refine below_set ?_ GE306.out) | exact HB.out))); rintro e w69 ⟨rfl, hb⟩; have n0_ := Aside0.mk (blk_below (g := gb306) (o := .cells #[.int .u32 a0_0, .int .u8 a0_1] 24 (0, 0)) (by (with_reducible repeat (first | refine blk_drewN ?_ _ | refine blk_drew ?_ | refine blk_alloc ?_ _)); exact BK306.out) hb); have n1_ := Aside0.mk (below_step (by repeat (first | (with_reducible first | exact HB.out | apply below_alloc | apply pw_below_drewN | apply below_drew1 | refine below_set ?_ GE306.out) | exact HB.out)) hb); clear BK306; clear HB; have BK306 := n0_; have HB := n1_; clear n0_ n1_; (try clear hb); (try clear hb2); (try clear hk); (try clear hi)))
      go_ret
      exact ⟨by first | rfl | (simp [errW_none, errW_some] <;> rfl) | (simp [*, errW_none, errW_some] <;> rfl), by repeat (first | (with_reducible first | exact HB.out | apply below_alloc | apply pw_below_drewN | apply below_drew1 | refine below_set ?_ GE306.out) | exact HB.out)⟩
     ·
      rw [if_neg c59] at H
      have c59b0 : (t308 == 0) = false := beq_eq_false_iff_ne.mpr c59
      have c59b1 : (t308 != 0) = true := bne_iff_ne.mpr c59
      exact absurd (H.trans (congrArg some HR.out)) (by simp)
    ·
     rw [if_neg c58] at H
     have c58b0 : (t315 == 1) = false := beq_eq_false_iff_ne.mpr c58
     have c58b1 : (t315 != 1) = true := bne_iff_ne.mpr c58
     exact absurd (H.trans (congrArg some HR.out)) (by simp)
   ·
    rw [if_neg c56] at H
    have c56b0 : (t314 == 1) = false := beq_eq_false_iff_ne.mpr c56
    have c56b1 : (t314 != 1) = true := bne_iff_ne.mpr c56
    exact absurd (H.trans (congrArg some HR.out)) (by simp)
 ·
  replace c6 := Bool.eq_false_iff.mpr c6
  subst c6
  have H1 : (some false) = some r := by rw [if_neg (show ¬ (false = true) by decide)] at H; exact H
  clear H
  have H := H1
  clear H1
  exact absurd (H.trans (congrArg some HR.out)) (by simp)
end Go.Proofs.YtldicnmpegkicaaDoor.PYieldDays
