-- Printed by a wrapper of this session's round the kit's print.py; Lean checks it.
import Derived.Test.YtldicnmpegkicaaDoorPYieldReckonsx0
import Derived.Test.YtldicnmpegkicaaDoorPYieldReckonsx1
import Derived.Test.YtldicnmpegkicaaDoorPYieldReckonsx3
import Derived.Test.YtldicnmpegkicaaDoorPYieldReckonsx4
import Derived.Test.YtldicnmpegkicaaDoorPYieldReckonsx7
namespace Go.Proofs.YtldicnmpegkicaaDoor.PYieldReckons
open Go.RowKit Go.Proofs.YtldicnmpegkicaaDoorW.PrintWords Go.Proofs.YtldicnmpegkicaaDoorW.PrintLast Go.Proofs.YtldicnmpegkicaaDoorW.PrintMore
attribute [local go_sem] max2_int min2_int max_two min_two max_three min_three max_four min_four   -- for this text's walks alone
set_option linter.unusedVariables false
set_option linter.unusedSimpArgs false

/-! ### arrearslaw09_YieldReckons: function 3 -/
mutual
def arrearslaw09_YieldReckons.j0 : Nat → Int → Int → Int → Int → Int → Option Int → Int → Bool → Int → Int → Option (Bool)
  | 0, _, _, _, _, _, _, _, _, _, _ => none
  | k + 1, x1, x2, x3, x9, x10, x11, x12, x38, x195000, x195001 => if x38 = true then ((arrearslaw09_own.f x195000 x195001).bind fun bt199 => ((arrearsref09_Unit.f bt199.1 bt199.2).bind fun t201 => (arrearslaw09_YieldReckons.j1 k x1 x2 x3 x9 x10 x11 t201 x195000 x195001))) else (arrearslaw09_YieldReckons.j1 k x1 x2 x3 x9 x10 x11 x12 x195000 x195001)
def arrearslaw09_YieldReckons.j1 : Nat → Int → Int → Int → Int → Int → Option Int → Int → Int → Int → Option (Bool)
  | 0, _, _, _, _, _, _, _, _, _ => none
  | k + 1, x1, x2, x3, x9, x10, x11, x12, x195000, x195001 => (yield_Rate_Unit.f x195000 x195001).bind fun t202 => (if t202 = x12 then ((yield_Rate_Right.f x195000 x195001).bind fun t203 => (arrearslaw09_YieldReckons.j2 k x1 x2 x3 x9 x10 x11 (t203 != (decide (x12 > 0))) x195000 x195001)) else (arrearslaw09_YieldReckons.j2 k x1 x2 x3 x9 x10 x11 true x195000 x195001))
def arrearslaw09_YieldReckons.j2 : Nat → Int → Int → Int → Int → Int → Option Int → Bool → Int → Int → Option (Bool)
  | 0, _, _, _, _, _, _, _, _, _ => none
  | k + 1, x1, x2, x3, x9, x10, x11, x52, x195000, x195001 => if x52 = true then (some false) else ((arrearslaw09_right.f x195000 x195001 x1 x2 x3).bind fun t204 => (if t204 = true then ((arrearslaw09_own.f x195000 x195001).bind fun bt205 => ((arrearsref09_Days.f bt205.1 bt205.2 x1 x2 x3).bind fun bt207 => (if x11.isNone = true then (if x9 = bt207.1 then (if x10 = bt207.2 then ((yield_Rate_Unit.f x195000 x195001).bind fun t210 => (some (decide (x10 < t210)))) else (some false)) else (some false)) else (some false)))) else (if x9 = 0 then (if x10 = 0 then ((api_Code.f x11).bind fun t211 => (some (t211 == 1))) else (some false)) else (some false))))
end
def arrearslaw09_YieldReckons.f (k : Nat) (a0_0 : Int) (a0_1 : Int) (a1 : Int) (a2 : Int) (a3 : Int) : Option (Bool) := (arrearslaw09_awake.f k).bind fun t195 => (if t195 = true then ((yield_Rate_Days.f k a0_0 a0_1 a1 a2 a3).bind fun bt196 => (if a0_0 ≤ 1000000 then (if a0_1 = 1 then (arrearslaw09_YieldReckons.j0 k a1 a2 a3 bt196.1 bt196.2.1 bt196.2.2 0 true a0_0 a0_1) else (arrearslaw09_YieldReckons.j0 k a1 a2 a3 bt196.1 bt196.2.1 bt196.2.2 0 (a0_1 == 2) a0_0 a0_1)) else (arrearslaw09_YieldReckons.j0 k a1 a2 a3 bt196.1 bt196.2.1 bt196.2.2 0 false a0_0 a0_1))) else (some false))
theorem arrearslaw09_YieldReckons.mono_l : ∀ k, (∀ y0 y1 y2 y3 y4 y5 y6 y7 y8 y9, LeO (arrearslaw09_YieldReckons.j0 k y0 y1 y2 y3 y4 y5 y6 y7 y8 y9) (arrearslaw09_YieldReckons.j0 (k + 1) y0 y1 y2 y3 y4 y5 y6 y7 y8 y9)) ∧ (∀ y0 y1 y2 y3 y4 y5 y6 y7 y8, LeO (arrearslaw09_YieldReckons.j1 k y0 y1 y2 y3 y4 y5 y6 y7 y8) (arrearslaw09_YieldReckons.j1 (k + 1) y0 y1 y2 y3 y4 y5 y6 y7 y8)) ∧ (∀ y0 y1 y2 y3 y4 y5 y6 y7 y8, LeO (arrearslaw09_YieldReckons.j2 k y0 y1 y2 y3 y4 y5 y6 y7 y8) (arrearslaw09_YieldReckons.j2 (k + 1) y0 y1 y2 y3 y4 y5 y6 y7 y8))
  | 0 => ⟨fun _ _ _ _ _ _ _ _ _ _ r h => by simp [arrearslaw09_YieldReckons.j0] at h, fun _ _ _ _ _ _ _ _ _ r h => by simp [arrearslaw09_YieldReckons.j1] at h, fun _ _ _ _ _ _ _ _ _ r h => by simp [arrearslaw09_YieldReckons.j2] at h⟩
  | k + 1 => by
    obtain ⟨ih0, ih1, ih2⟩ := arrearslaw09_YieldReckons.mono_l k
    refine ⟨?_, ?_, ?_⟩
    · intro y0 y1 y2 y3 y4 y5 y6 y7 y8 y9
      unfold arrearslaw09_YieldReckons.j0
      repeat' first
      | (with_reducible exact ih0 _ _ _ _ _ _ _ _ _ _)
      | (with_reducible exact ih1 _ _ _ _ _ _ _ _ _)
      | (with_reducible exact ih2 _ _ _ _ _ _ _ _ _)
      | (with_reducible exact arrearslaw09_awake.mono _)
      | (with_reducible exact yield_Rate_Days.mono _ _ _ _ _ _)
      | (with_reducible exact LeO.refl _)
      | (with_reducible exact LeO.none _)
      | (with_reducible refine LeO.ite ?_ ?_)
      | (with_reducible refine LeO.bind ?_ (fun _ => ?_))
      | exact ih0 _ _ _ _ _ _ _ _ _ _
      | exact ih1 _ _ _ _ _ _ _ _ _
      | exact ih2 _ _ _ _ _ _ _ _ _
      | exact arrearslaw09_awake.mono _
      | exact yield_Rate_Days.mono _ _ _ _ _ _
      | exact LeO.none _
      | refine LeO.ite ?_ ?_
      | refine LeO.bind ?_ (fun _ => ?_)
    · intro y0 y1 y2 y3 y4 y5 y6 y7 y8
      unfold arrearslaw09_YieldReckons.j1
      repeat' first
      | (with_reducible exact ih0 _ _ _ _ _ _ _ _ _ _)
      | (with_reducible exact ih1 _ _ _ _ _ _ _ _ _)
      | (with_reducible exact ih2 _ _ _ _ _ _ _ _ _)
      | (with_reducible exact arrearslaw09_awake.mono _)
      | (with_reducible exact yield_Rate_Days.mono _ _ _ _ _ _)
      | (with_reducible exact LeO.refl _)
      | (with_reducible exact LeO.none _)
      | (with_reducible refine LeO.ite ?_ ?_)
      | (with_reducible refine LeO.bind ?_ (fun _ => ?_))
      | exact ih0 _ _ _ _ _ _ _ _ _ _
      | exact ih1 _ _ _ _ _ _ _ _ _
      | exact ih2 _ _ _ _ _ _ _ _ _
      | exact arrearslaw09_awake.mono _
      | exact yield_Rate_Days.mono _ _ _ _ _ _
      | exact LeO.none _
      | refine LeO.ite ?_ ?_
      | refine LeO.bind ?_ (fun _ => ?_)
    · intro y0 y1 y2 y3 y4 y5 y6 y7 y8
      unfold arrearslaw09_YieldReckons.j2
      repeat' first
      | (with_reducible exact ih0 _ _ _ _ _ _ _ _ _ _)
      | (with_reducible exact ih1 _ _ _ _ _ _ _ _ _)
      | (with_reducible exact ih2 _ _ _ _ _ _ _ _ _)
      | (with_reducible exact arrearslaw09_awake.mono _)
      | (with_reducible exact yield_Rate_Days.mono _ _ _ _ _ _)
      | (with_reducible exact LeO.refl _)
      | (with_reducible exact LeO.none _)
      | (with_reducible refine LeO.ite ?_ ?_)
      | (with_reducible refine LeO.bind ?_ (fun _ => ?_))
      | exact ih0 _ _ _ _ _ _ _ _ _ _
      | exact ih1 _ _ _ _ _ _ _ _ _
      | exact ih2 _ _ _ _ _ _ _ _ _
      | exact arrearslaw09_awake.mono _
      | exact yield_Rate_Days.mono _ _ _ _ _ _
      | exact LeO.none _
      | refine LeO.ite ?_ ?_
      | refine LeO.bind ?_ (fun _ => ?_)
theorem arrearslaw09_YieldReckons.mono : ∀ a0 a1 a2 a3 a4 k, LeO (arrearslaw09_YieldReckons.f k a0 a1 a2 a3 a4) (arrearslaw09_YieldReckons.f (k + 1) a0 a1 a2 a3 a4) := by
  intro a0 a1 a2 a3 a4 k
  obtain ⟨ih0, ih1, ih2⟩ := arrearslaw09_YieldReckons.mono_l k
  unfold arrearslaw09_YieldReckons.f
  repeat' first
      | (with_reducible exact ih0 _ _ _ _ _ _ _ _ _ _)
      | (with_reducible exact ih1 _ _ _ _ _ _ _ _ _)
      | (with_reducible exact ih2 _ _ _ _ _ _ _ _ _)
      | (with_reducible exact arrearslaw09_awake.mono _)
      | (with_reducible exact yield_Rate_Days.mono _ _ _ _ _ _)
      | (with_reducible exact LeO.refl _)
      | (with_reducible exact LeO.none _)
      | (with_reducible refine LeO.ite ?_ ?_)
      | (with_reducible refine LeO.bind ?_ (fun _ => ?_))
      | exact ih0 _ _ _ _ _ _ _ _ _ _
      | exact ih1 _ _ _ _ _ _ _ _ _
      | exact ih2 _ _ _ _ _ _ _ _ _
      | exact arrearslaw09_awake.mono _
      | exact yield_Rate_Days.mono _ _ _ _ _ _
      | exact LeO.none _
      | refine LeO.ite ?_ ?_
      | refine LeO.bind ?_ (fun _ => ?_)
set_option maxHeartbeats 8000000 in
set_option maxRecDepth 100000 in
theorem arrearslaw09_YieldReckons.calls (k : Nat) (a0_0 : Int) (a0_1 : Int) (a1 : Int) (a2 : Int) (a3 : Int) (r : Bool) (w : World) (hG : Go.Proofs.YtldicnmpegkicaaDoor.M.Laid w) (h : arrearslaw09_YieldReckons.f k a0_0 a0_1 a1 a2 a3 = some r) (hr : r = true) :
    Calls Tryd.prog 3 #[.agg #[.int .u32 a0_0, .int .u8 a0_1], .int .i64 a1, .int .i64 a2, .int .u64 a3] w fun e w' => e = .returned (.bool r) ∧ Below w.heap.size w w' := by
  have hu24 := Tryd.underlying24
  have hu29 := Tryd.underlying29
  have hu38 := Tryd.underlying38
  have HB := Aside0.mk (Below.refl w.heap.size w)
  have HG := Aside0.mk hG
  clear hG
  have HR := Aside0.mk hr
  clear hr
  have H : ((arrearslaw09_awake.f k).bind fun t195 => (if t195 = true then ((yield_Rate_Days.f k a0_0 a0_1 a1 a2 a3).bind fun bt196 => (if a0_0 ≤ 1000000 then (if a0_1 = 1 then (arrearslaw09_YieldReckons.j0 k a1 a2 a3 bt196.1 bt196.2.1 bt196.2.2 0 true a0_0 a0_1) else (arrearslaw09_YieldReckons.j0 k a1 a2 a3 bt196.1 bt196.2.1 bt196.2.2 0 (a0_1 == 2) a0_0 a0_1)) else (arrearslaw09_YieldReckons.j0 k a1 a2 a3 bt196.1 bt196.2.1 bt196.2.2 0 false a0_0 a0_1))) else (some false))) = some r := h
  clear h
  replace H := Option.bind_eq_some_iff.mp H
  obtain ⟨t195, A50, H⟩ := H
  replace H : (if t195 = true then ((yield_Rate_Days.f k a0_0 a0_1 a1 a2 a3).bind fun bt196 => (if a0_0 ≤ 1000000 then (if a0_1 = 1 then (arrearslaw09_YieldReckons.j0 k a1 a2 a3 bt196.1 bt196.2.1 bt196.2.2 0 true a0_0 a0_1) else (arrearslaw09_YieldReckons.j0 k a1 a2 a3 bt196.1 bt196.2.1 bt196.2.2 0 (a0_1 == 2) a0_0 a0_1)) else (arrearslaw09_YieldReckons.j0 k a1 a2 a3 bt196.1 bt196.2.1 bt196.2.2 0 false a0_0 a0_1))) else (some false)) = some r := H
  have A5 := Aside0.mk A50
  clear A50
  by_cases c6 : t195 = true
  · subst c6
    have H1 : ((yield_Rate_Days.f k a0_0 a0_1 a1 a2 a3).bind fun bt196 => (if a0_0 ≤ 1000000 then (if a0_1 = 1 then (arrearslaw09_YieldReckons.j0 k a1 a2 a3 bt196.1 bt196.2.1 bt196.2.2 0 true a0_0 a0_1) else (arrearslaw09_YieldReckons.j0 k a1 a2 a3 bt196.1 bt196.2.1 bt196.2.2 0 (a0_1 == 2) a0_0 a0_1)) else (arrearslaw09_YieldReckons.j0 k a1 a2 a3 bt196.1 bt196.2.1 bt196.2.2 0 false a0_0 a0_1))) = some r := by rw [if_pos rfl] at H; exact H
    clear H
    have H := H1
    clear H1
    replace H := Option.bind_eq_some_iff.mp H
    obtain ⟨⟨t196, t197, t198⟩, A70, H⟩ := H
    replace H : (if a0_0 ≤ 1000000 then (if a0_1 = 1 then (arrearslaw09_YieldReckons.j0 k a1 a2 a3 t196 t197 t198 0 true a0_0 a0_1) else (arrearslaw09_YieldReckons.j0 k a1 a2 a3 t196 t197 t198 0 (a0_1 == 2) a0_0 a0_1)) else (arrearslaw09_YieldReckons.j0 k a1 a2 a3 t196 t197 t198 0 false a0_0 a0_1)) = some r := H
    have A7 := Aside0.mk A70
    clear A70
    have HC8 := Aside0.mk H
    clear H
    go_enter Tryd.func3, Tryd.ntmps3
    go_upto_region 5 with (first | ((with_reducible refine gate_dst (N := 4) rfl ?_); refine box_event ?hg (N := 4) ?hd (cs := #[.int .u32 a0_0, .int .u8 a0_1]) (t := 24) ?hr ?_; (case hd => rfl); (case hg => rfl); (case hr => first | (go_simp; done) | (go_simp; rfl)); intro gb194 hg w9 hbox hb; have n0_ := Aside0.mk (below_step (by repeat (first | (with_reducible first | exact HB.out | apply below_alloc | apply pw_below_drewN | apply below_drew1) | exact HB.out)) hb); have n1_ := Aside0.mk (hbox); have n2_ := Aside0.mk ((by rw [hg]; exact (below_size (by repeat (first | (with_reducible first | exact HB.out | apply below_alloc | apply pw_below_drewN | apply below_drew1) | exact HB.out))) : w.heap.size ≤ gb194)); have n3_ := Aside0.mk ((by rw [hg]; exact (below_size (by repeat (first | (with_reducible first | exact HB.out | apply below_alloc | apply pw_below_drewN | apply below_drew1) | exact HB.out))) : w.heap.size ≤ gb194)); clear HB; have HB := n0_; have BK194 := n1_; have GW194 := n2_; have GE194 := n3_; clear n0_ n1_ n2_ n3_; clear hb hbox hg) | ((with_reducible refine gate_callee (f := 5) rfl ?_); refine goesL_ (some 15) rfl rfl Tryd.func5 (by kernel_rfl) rfl #[] rfl (by (try simp only [List.map_toArray, List.map_cons, List.map_nil]); first | done | rfl | (simp only [List.length_drop, List.length_take]; rfl)) ?_; (with_reducible refine (arrearslaw09_awake.calls k  true _ A5.out).mono ?_); rintro e w10 ⟨rfl, hb⟩; refine ⟨_, rfl, ?_⟩; have n0_ := Aside0.mk (blk_below (g := gb194) (o := .cells #[.int .u32 a0_0, .int .u8 a0_1] 24 (0, 0)) (by (with_reducible repeat (first | refine blk_drewN ?_ _ | refine blk_drew ?_ | refine blk_alloc ?_ _)); exact BK194.out) hb); have n1_ := Aside0.mk (below_step (by repeat (first | (with_reducible first | exact HB.out | apply below_alloc | apply pw_below_drewN | apply below_drew1 | refine below_set ?_ GE194.out) | exact HB.out)) hb); clear BK194; clear HB; have BK194 := n0_; have HB := n1_; clear n0_ n1_; (try clear hb); (try clear hb2); (try clear hk); (try clear hi); have hcz11_0 : w10.cell? ⟨gb194, 0, none⟩ = some (.int .u32 a0_0) := (blk_cell BK194.out 0).trans rfl; have hcz11_1 : w10.cell? ⟨gb194, 1, none⟩ = some (.int .u8 a0_1) := (blk_cell BK194.out 1).trans rfl; have hfz11_0 := blk_frozen BK194.out 0; have hfz11_1 := blk_frozen BK194.out 1) | ((with_reducible refine gate_callee (f := 6) rfl ?_); refine goesL_ (some 22) rfl rfl Tryd.func6 (by kernel_rfl) rfl #[.agg #[.int .u32 a0_0, .int .u8 a0_1], .int .i64 a1, .int .i64 a2, .int .u64 a3] rfl (by (try simp only [List.map_toArray, List.map_cons, List.map_nil]); first | done | rfl | (simp only [List.length_drop, List.length_take]; rfl)) ?_; (with_reducible refine (yield_Rate_Days.calls k a0_0 a0_1 a1 a2 a3 t196 t197 t198 _ A7.out).mono ?_); rintro e w12 ⟨rfl, hb⟩; refine ⟨_, rfl, ?_⟩; have n0_ := Aside0.mk (blk_below (g := gb194) (o := .cells #[.int .u32 a0_0, .int .u8 a0_1] 24 (0, 0)) (by (with_reducible repeat (first | refine blk_drewN ?_ _ | refine blk_drew ?_ | refine blk_alloc ?_ _)); exact BK194.out) hb); have n1_ := Aside0.mk (below_step (by repeat (first | (with_reducible first | exact HB.out | apply below_alloc | apply pw_below_drewN | apply below_drew1 | refine below_set ?_ GE194.out) | exact HB.out)) hb); clear BK194; clear HB; have BK194 := n0_; have HB := n1_; clear n0_ n1_; (try clear hb); (try clear hb2); (try clear hk); (try clear hi); (try simp only [errW_none, errW_some])))
    (try simp only [Act.put, List.setIfInBounds_toArray, List.set_cons_zero, List.set_cons_succ])
    go_cut [38] (fun v38 wc => ∃ (kq : Nat) (x38_7 : Bool), v38 = .bool x38_7 ∧ Aside0 (arrearslaw09_YieldReckons.j0 kq a1 a2 a3 t196 t197 t198 0 x38_7 a0_0 a0_1 = some r) ∧ Aside0 (kq ≤ k) ∧ Aside0 (wc.heap[gb194]? = some (.cells #[.int .u32 a0_0, .int .u8 a0_1] 24 (0, 0))) ∧ Aside0 (Below w.heap.size w wc))
    case first =>
      have H := HC8.out
      clear HC8
      by_cases c13 : a0_0 ≤ 1000000
      · rw [if_pos c13] at H
        have c13b0 : decide (a0_0 ≤ 1000000) = true := decide_eq_true c13
        clear c13
        (first | rw [c13b0] | (simp only [i64_w, i32_w]; rw [c13b0]) | skip)
        by_cases c14 : a0_1 = 1
        · rw [if_pos c14] at H
          have c14b0 : (a0_1 == 1) = true := beq_iff_eq.mpr c14
          have c14b1 : (a0_1 != 1) = false := bne_eq_false_iff_eq.mpr c14
          clear c14
          have H' := Aside0.mk H
          clear H
          have hcz15_0 : w12.cell? ⟨gb194, 0, none⟩ = some (.int .u32 a0_0) := (blk_cell BK194.out 0).trans rfl
          have hcz15_1 : w12.cell? ⟨gb194, 1, none⟩ = some (.int .u8 a0_1) := (blk_cell BK194.out 1).trans rfl
          have hfz15_0 := blk_frozen BK194.out 0
          have hfz15_1 := blk_frozen BK194.out 1
          go_wp2
          go_meet
          case rel => exact ⟨_, (true), (by first | rfl | (simp; done) | (simp [*]; done) | (exfalso; simp at *; omega)), H', ⟨by first | omega | exact Nat.le_refl _⟩, ⟨by (with_reducible repeat (first | refine blk_drewN ?_ _ | refine blk_drew ?_ | refine blk_alloc ?_ _)); exact BK194.out⟩, ⟨by repeat (first | (with_reducible first | exact HB.out | apply below_alloc | apply pw_below_drewN | apply below_drew1 | refine below_set ?_ GE194.out) | exact HB.out)⟩⟩
        · rw [if_neg c14] at H
          have c14b0 : (a0_1 == 1) = false := beq_eq_false_iff_ne.mpr c14
          have c14b1 : (a0_1 != 1) = true := bne_iff_ne.mpr c14
          have H' := Aside0.mk H
          clear H
          have hcz16_0 : w12.cell? ⟨gb194, 0, none⟩ = some (.int .u32 a0_0) := (blk_cell BK194.out 0).trans rfl
          have hcz16_1 : w12.cell? ⟨gb194, 1, none⟩ = some (.int .u8 a0_1) := (blk_cell BK194.out 1).trans rfl
          have hfz16_0 := blk_frozen BK194.out 0
          have hfz16_1 := blk_frozen BK194.out 1
          go_wp2
          go_meet
          case rel => exact ⟨_, ((a0_1 == 2)), (by first | rfl | (simp; done) | (simp [*]; done) | (exfalso; simp at *; omega)), H', ⟨by first | omega | exact Nat.le_refl _⟩, ⟨by (with_reducible repeat (first | refine blk_drewN ?_ _ | refine blk_drew ?_ | refine blk_alloc ?_ _)); exact BK194.out⟩, ⟨by repeat (first | (with_reducible first | exact HB.out | apply below_alloc | apply pw_below_drewN | apply below_drew1 | refine below_set ?_ GE194.out) | exact HB.out)⟩⟩
      · rw [if_neg c13] at H
        have c13b0 : decide (a0_0 ≤ 1000000) = false := decide_eq_false c13
        clear c13
        (first | rw [c13b0] | (simp only [i64_w, i32_w]; rw [c13b0]) | skip)
        have H' := Aside0.mk H
        clear H
        have hcz17_0 : w12.cell? ⟨gb194, 0, none⟩ = some (.int .u32 a0_0) := (blk_cell BK194.out 0).trans rfl
        have hcz17_1 : w12.cell? ⟨gb194, 1, none⟩ = some (.int .u8 a0_1) := (blk_cell BK194.out 1).trans rfl
        have hfz17_0 := blk_frozen BK194.out 0
        have hfz17_1 := blk_frozen BK194.out 1
        go_wp2
        go_meet
        case rel => exact ⟨_, (false), (by first | rfl | (simp; done) | (simp [*]; done) | (exfalso; simp at *; omega)), H', ⟨by first | omega | exact Nat.le_refl _⟩, ⟨by (with_reducible repeat (first | refine blk_drewN ?_ _ | refine blk_drew ?_ | refine blk_alloc ?_ _)); exact BK194.out⟩, ⟨by repeat (first | (with_reducible first | exact HB.out | apply below_alloc | apply pw_below_drewN | apply below_drew1 | refine below_set ?_ GE194.out) | exact HB.out)⟩⟩
    case rest =>
      clear HC8
      try clear c1
      try clear p2
      try clear c3
      try clear c5
      try clear c6
      try clear c13
      try clear c13b0
      try clear c14
      try clear c14b0
      try clear c14b1
      try clear hcz11_0
      try clear hcz11_1
      try clear hcz15_0
      try clear hcz15_1
      try clear hcz16_0
      try clear hcz16_1
      try clear hcz17_0
      try clear hcz17_1
      try clear hfz11_0
      try clear hfz11_1
      try clear hfz15_0
      try clear hfz15_1
      try clear hfz16_0
      try clear hfz16_1
      try clear hfz17_0
      try clear hfz17_1
      obtain ⟨kq, x38_7, rfl, HA, HJ7, BK194, HB⟩ := hcut
      cases kq with
      | zero => exact absurd HA.out (by simp [arrearslaw09_YieldReckons.j0])
      | succ kj7 =>
        have H := HA.out
        clear HA
        simp only [arrearslaw09_YieldReckons.j0] at H
        have HC18 := Aside0.mk H
        clear H
        go_upto_if 38 with (fail)
        go_cut [12] (fun v12 wc => ∃ (kq : Nat) (x12_17 : Int), v12 = .int .u64 x12_17 ∧ Aside0 (arrearslaw09_YieldReckons.j1 kq a1 a2 a3 t196 t197 t198 x12_17 a0_0 a0_1 = some r) ∧ Aside0 (kq ≤ kj7) ∧ Aside0 (wc.heap[gb194]? = some (.cells #[.int .u32 a0_0, .int .u8 a0_1] 24 (0, 0))) ∧ Aside0 (Below w.heap.size w wc))
        case first =>
          have H := HC18.out
          clear HC18
          by_cases c19 : x38_7 = true
          · subst c19
            have H1 : ((arrearslaw09_own.f a0_0 a0_1).bind fun bt199 => ((arrearsref09_Unit.f bt199.1 bt199.2).bind fun t201 => (arrearslaw09_YieldReckons.j1 kj7 a1 a2 a3 t196 t197 t198 t201 a0_0 a0_1))) = some r := by rw [if_pos rfl] at H; exact H
            clear H
            have H := H1
            clear H1
            replace H := Option.bind_eq_some_iff.mp H
            obtain ⟨⟨t199, t200⟩, A200, H⟩ := H
            replace H : ((arrearsref09_Unit.f t199 t200).bind fun t201 => (arrearslaw09_YieldReckons.j1 kj7 a1 a2 a3 t196 t197 t198 t201 a0_0 a0_1)) = some r := H
            have A20 := Aside0.mk A200
            clear A200
            replace H := Option.bind_eq_some_iff.mp H
            obtain ⟨t201, A210, H⟩ := H
            replace H : (arrearslaw09_YieldReckons.j1 kj7 a1 a2 a3 t196 t197 t198 t201 a0_0 a0_1) = some r := H
            have A21 := Aside0.mk A210
            clear A210
            have H' := Aside0.mk H
            clear H
            have hcz22_0 : wc.cell? ⟨gb194, 0, none⟩ = some (.int .u32 a0_0) := (blk_cell BK194.out 0).trans rfl
            have hcz22_1 : wc.cell? ⟨gb194, 1, none⟩ = some (.int .u8 a0_1) := (blk_cell BK194.out 1).trans rfl
            have hfz22_0 := blk_frozen BK194.out 0
            have hfz22_1 := blk_frozen BK194.out 1
            go_wp2_with (first | ((with_reducible refine gate_callee (f := 8) rfl ?_); refine goesL_ (some 40) rfl rfl Tryd.func8 (by kernel_rfl) rfl #[.agg #[.int .u32 a0_0, .int .u8 a0_1]] rfl (by (try simp only [List.map_toArray, List.map_cons, List.map_nil]); first | done | rfl | (simp only [List.length_drop, List.length_take]; rfl)) ?_; (with_reducible refine (arrearslaw09_own.calls a0_0 a0_1 t199 t200 _ A20.out).mono ?_); rintro e w23 ⟨rfl, hb⟩; refine ⟨_, rfl, ?_⟩; have n0_ := Aside0.mk (blk_below (g := gb194) (o := .cells #[.int .u32 a0_0, .int .u8 a0_1] 24 (0, 0)) (by (with_reducible repeat (first | refine blk_drewN ?_ _ | refine blk_drew ?_ | refine blk_alloc ?_ _)); exact BK194.out) hb); have n1_ := Aside0.mk (below_step (by repeat (first | (with_reducible first | exact HB.out | apply below_alloc | apply pw_below_drewN | apply below_drew1 | refine below_set ?_ GE194.out) | exact HB.out)) hb); clear BK194; clear HB; have BK194 := n0_; have HB := n1_; clear n0_ n1_; (try clear hb); (try clear hb2); (try clear hk); (try clear hi)) | ((with_reducible refine gate_callee (f := 7) rfl ?_); refine goesL_ (some 41) rfl rfl Tryd.func7 (by kernel_rfl) rfl #[.agg #[.int .u32 t199, .bool t200]] rfl (by (try simp only [List.map_toArray, List.map_cons, List.map_nil]); first | done | rfl | (simp only [List.length_drop, List.length_take]; rfl)) ?_; (with_reducible refine (arrearsref09_Unit.calls t199 t200 t201 _ A21.out).mono ?_); rintro e w24 ⟨rfl, hb⟩; refine ⟨_, rfl, ?_⟩; have n0_ := Aside0.mk (blk_below (g := gb194) (o := .cells #[.int .u32 a0_0, .int .u8 a0_1] 24 (0, 0)) (by (with_reducible repeat (first | refine blk_drewN ?_ _ | refine blk_drew ?_ | refine blk_alloc ?_ _)); exact BK194.out) hb); have n1_ := Aside0.mk (below_step (by repeat (first | (with_reducible first | exact HB.out | apply below_alloc | apply pw_below_drewN | apply below_drew1 | refine below_set ?_ GE194.out) | exact HB.out)) hb); clear BK194; clear HB; have BK194 := n0_; have HB := n1_; clear n0_ n1_; (try clear hb); (try clear hb2); (try clear hk); (try clear hi)))
            go_meet
            case rel => exact ⟨_, (t201), (by first | rfl | (simp; done) | (simp [*]; done) | (exfalso; simp at *; omega)), H', ⟨by have := HJ7.out; first | omega | exact Nat.le_refl _⟩, ⟨by (with_reducible repeat (first | refine blk_drewN ?_ _ | refine blk_drew ?_ | refine blk_alloc ?_ _)); exact BK194.out⟩, ⟨by repeat (first | (with_reducible first | exact HB.out | apply below_alloc | apply pw_below_drewN | apply below_drew1 | refine below_set ?_ GE194.out) | exact HB.out)⟩⟩
          · replace c19 := Bool.eq_false_iff.mpr c19
            subst c19
            have H1 : (arrearslaw09_YieldReckons.j1 kj7 a1 a2 a3 t196 t197 t198 0 a0_0 a0_1) = some r := by rw [if_neg (show ¬ (false = true) by decide)] at H; exact H
            clear H
            have H := H1
            clear H1
            have H' := Aside0.mk H
            clear H
            go_wp2
            go_meet
            case rel => exact ⟨_, (0), (by first | rfl | (simp; done) | (simp [*]; done) | (exfalso; simp at *; omega)), H', ⟨by have := HJ7.out; first | omega | exact Nat.le_refl _⟩, ⟨by (with_reducible repeat (first | refine blk_drewN ?_ _ | refine blk_drew ?_ | refine blk_alloc ?_ _)); exact BK194.out⟩, ⟨by repeat (first | (with_reducible first | exact HB.out | apply below_alloc | apply pw_below_drewN | apply below_drew1 | refine below_set ?_ GE194.out) | exact HB.out)⟩⟩
        case rest =>
          clear HC18
          try clear c1
          try clear p2
          try clear c3
          try clear c5
          try clear c6
          try clear c7
          try clear c8
          try clear c13
          try clear c13b0
          try clear c14
          try clear c14b0
          try clear c14b1
          try clear c19
          try clear hcz11_0
          try clear hcz11_1
          try clear hcz15_0
          try clear hcz15_1
          try clear hcz16_0
          try clear hcz16_1
          try clear hcz17_0
          try clear hcz17_1
          try clear hcz22_0
          try clear hcz22_1
          try clear hfz11_0
          try clear hfz11_1
          try clear hfz15_0
          try clear hfz15_1
          try clear hfz16_0
          try clear hfz16_1
          try clear hfz17_0
          try clear hfz17_1
          try clear hfz22_0
          try clear hfz22_1
          try clear p2
          obtain ⟨kq, x12_17, rfl, HA, HJ17, BK194, HB⟩ := hcut
          cases kq with
          | zero => exact absurd HA.out (by simp [arrearslaw09_YieldReckons.j1])
          | succ kj17 =>
            have H := HA.out
            clear HA
            simp only [arrearslaw09_YieldReckons.j1] at H
            have HC25 := Aside0.mk H
            clear H
            go_upto_region 7 with (fail)
            go_cut [52] (fun v52 wc => ∃ (kq : Nat) (x52_24 : Bool), v52 = .bool x52_24 ∧ Aside0 (arrearslaw09_YieldReckons.j2 kq a1 a2 a3 t196 t197 t198 x52_24 a0_0 a0_1 = some r) ∧ Aside0 (kq ≤ kj17) ∧ Aside0 (wc.heap[gb194]? = some (.cells #[.int .u32 a0_0, .int .u8 a0_1] 24 (0, 0))) ∧ Aside0 (Below w.heap.size w wc))
            case first =>
              have H := HC25.out
              clear HC25
              replace H := Option.bind_eq_some_iff.mp H
              obtain ⟨t202, A260, H⟩ := H
              replace H : (if t202 = x12_17 then ((yield_Rate_Right.f a0_0 a0_1).bind fun t203 => (arrearslaw09_YieldReckons.j2 kj17 a1 a2 a3 t196 t197 t198 (t203 != (decide (x12_17 > 0))) a0_0 a0_1)) else (arrearslaw09_YieldReckons.j2 kj17 a1 a2 a3 t196 t197 t198 true a0_0 a0_1)) = some r := H
              have A26 := Aside0.mk A260
              clear A260
              by_cases c27 : t202 = x12_17
              · rw [if_pos c27] at H
                have c27b0 : (t202 == x12_17) = true := beq_iff_eq.mpr c27
                have c27b1 : (t202 != x12_17) = false := bne_eq_false_iff_eq.mpr c27
                clear c27
                (first | rw [c27b0] | (simp only [i64_w, i32_w]; rw [c27b0]) | skip)
                replace H := Option.bind_eq_some_iff.mp H
                obtain ⟨t203, A280, H⟩ := H
                replace H : (arrearslaw09_YieldReckons.j2 kj17 a1 a2 a3 t196 t197 t198 (t203 != (decide (x12_17 > 0))) a0_0 a0_1) = some r := H
                have A28 := Aside0.mk A280
                clear A280
                have H' := Aside0.mk H
                clear H
                have hcz29_0 : wc.cell? ⟨gb194, 0, none⟩ = some (.int .u32 a0_0) := (blk_cell BK194.out 0).trans rfl
                have hcz29_1 : wc.cell? ⟨gb194, 1, none⟩ = some (.int .u8 a0_1) := (blk_cell BK194.out 1).trans rfl
                have hfz29_0 := blk_frozen BK194.out 0
                have hfz29_1 := blk_frozen BK194.out 1
                go_wp2_with (first | ((with_reducible refine gate_callee (f := 9) rfl ?_); refine goesL_ (some 43) rfl rfl Tryd.func9 (by kernel_rfl) rfl #[.agg #[.int .u32 a0_0, .int .u8 a0_1]] rfl (by (try simp only [List.map_toArray, List.map_cons, List.map_nil]); first | done | rfl | (simp only [List.length_drop, List.length_take]; rfl)) ?_; (with_reducible refine (yield_Rate_Unit.calls a0_0 a0_1 t202 _ A26.out).mono ?_); rintro e w30 ⟨rfl, hb⟩; refine ⟨_, rfl, ?_⟩; have n0_ := Aside0.mk (blk_below (g := gb194) (o := .cells #[.int .u32 a0_0, .int .u8 a0_1] 24 (0, 0)) (by (with_reducible repeat (first | refine blk_drewN ?_ _ | refine blk_drew ?_ | refine blk_alloc ?_ _)); exact BK194.out) hb); have n1_ := Aside0.mk (below_step (by repeat (first | (with_reducible first | exact HB.out | apply below_alloc | apply pw_below_drewN | apply below_drew1 | refine below_set ?_ GE194.out) | exact HB.out)) hb); clear BK194; clear HB; have BK194 := n0_; have HB := n1_; clear n0_ n1_; (try clear hb); (try clear hb2); (try clear hk); (try clear hi); have hcz31_0 : w30.cell? ⟨gb194, 0, none⟩ = some (.int .u32 a0_0) := (blk_cell BK194.out 0).trans rfl; have hcz31_1 : w30.cell? ⟨gb194, 1, none⟩ = some (.int .u8 a0_1) := (blk_cell BK194.out 1).trans rfl; have hfz31_0 := blk_frozen BK194.out 0; have hfz31_1 := blk_frozen BK194.out 1) | (go_at_call 10; (with_reducible refine (yield_Rate_Right.calls a0_0 a0_1 t203 _ A28.out).mono ?_); rintro e w32 ⟨rfl, hb⟩; have n0_ := Aside0.mk (blk_below (g := gb194) (o := .cells #[.int .u32 a0_0, .int .u8 a0_1] 24 (0, 0)) (by (with_reducible repeat (first | refine blk_drewN ?_ _ | refine blk_drew ?_ | refine blk_alloc ?_ _)); exact BK194.out) hb); have n1_ := Aside0.mk (below_step (by repeat (first | (with_reducible first | exact HB.out | apply below_alloc | apply pw_below_drewN | apply below_drew1 | refine below_set ?_ GE194.out) | exact HB.out)) hb); clear BK194; clear HB; have BK194 := n0_; have HB := n1_; clear n0_ n1_; (try clear hb); (try clear hb2); (try clear hk); (try clear hi)))
                go_meet
                case rel => exact ⟨_, ((t203 != (decide (x12_17 > 0)))), (by first | rfl | (simp; done) | (simp [*]; done) | (exfalso; simp at *; omega)), H', ⟨by have := HJ7.out; have := HJ17.out; first | omega | exact Nat.le_refl _⟩, ⟨by (with_reducible repeat (first | refine blk_drewN ?_ _ | refine blk_drew ?_ | refine blk_alloc ?_ _)); exact BK194.out⟩, ⟨by repeat (first | (with_reducible first | exact HB.out | apply below_alloc | apply pw_below_drewN | apply below_drew1 | refine below_set ?_ GE194.out) | exact HB.out)⟩⟩
              · rw [if_neg c27] at H
                have c27b0 : (t202 == x12_17) = false := beq_eq_false_iff_ne.mpr c27
                have c27b1 : (t202 != x12_17) = true := bne_iff_ne.mpr c27
                (first | rw [c27b0] | (simp only [i64_w, i32_w]; rw [c27b0]) | skip)
                have H' := Aside0.mk H
                clear H
                have hcz33_0 : wc.cell? ⟨gb194, 0, none⟩ = some (.int .u32 a0_0) := (blk_cell BK194.out 0).trans rfl
                have hcz33_1 : wc.cell? ⟨gb194, 1, none⟩ = some (.int .u8 a0_1) := (blk_cell BK194.out 1).trans rfl
                have hfz33_0 := blk_frozen BK194.out 0
                have hfz33_1 := blk_frozen BK194.out 1
                go_wp2_with (first | ((with_reducible refine gate_callee (f := 9) rfl ?_); refine goesL_ (some 43) rfl rfl Tryd.func9 (by kernel_rfl) rfl #[.agg #[.int .u32 a0_0, .int .u8 a0_1]] rfl (by (try simp only [List.map_toArray, List.map_cons, List.map_nil]); first | done | rfl | (simp only [List.length_drop, List.length_take]; rfl)) ?_; (with_reducible refine (yield_Rate_Unit.calls a0_0 a0_1 t202 _ A26.out).mono ?_); rintro e w34 ⟨rfl, hb⟩; refine ⟨_, rfl, ?_⟩; have n0_ := Aside0.mk (blk_below (g := gb194) (o := .cells #[.int .u32 a0_0, .int .u8 a0_1] 24 (0, 0)) (by (with_reducible repeat (first | refine blk_drewN ?_ _ | refine blk_drew ?_ | refine blk_alloc ?_ _)); exact BK194.out) hb); have n1_ := Aside0.mk (below_step (by repeat (first | (with_reducible first | exact HB.out | apply below_alloc | apply pw_below_drewN | apply below_drew1 | refine below_set ?_ GE194.out) | exact HB.out)) hb); clear BK194; clear HB; have BK194 := n0_; have HB := n1_; clear n0_ n1_; (try clear hb); (try clear hb2); (try clear hk); (try clear hi)))
                go_meet
                case rel => exact ⟨_, (true), (by first | rfl | (simp; done) | (simp [*]; done) | (exfalso; simp at *; omega)), H', ⟨by have := HJ7.out; have := HJ17.out; first | omega | exact Nat.le_refl _⟩, ⟨by (with_reducible repeat (first | refine blk_drewN ?_ _ | refine blk_drew ?_ | refine blk_alloc ?_ _)); exact BK194.out⟩, ⟨by repeat (first | (with_reducible first | exact HB.out | apply below_alloc | apply pw_below_drewN | apply below_drew1 | refine below_set ?_ GE194.out) | exact HB.out)⟩⟩
            case rest =>
              clear HC25
              try clear c1
              try clear c2
              try clear p2
              try clear c3
              try clear c5
              try clear c6
              try clear c7
              try clear c8
              try clear c9
              try clear c13
              try clear c13b0
              try clear c14
              try clear c14b0
              try clear c14b1
              try clear c19
              try clear c27
              try clear c27b0
              try clear c27b1
              try clear hcz11_0
              try clear hcz11_1
              try clear hcz15_0
              try clear hcz15_1
              try clear hcz16_0
              try clear hcz16_1
              try clear hcz17_0
              try clear hcz17_1
              try clear hcz22_0
              try clear hcz22_1
              try clear hcz29_0
              try clear hcz29_1
              try clear hcz31_0
              try clear hcz31_1
              try clear hcz33_0
              try clear hcz33_1
              try clear hfz11_0
              try clear hfz11_1
              try clear hfz15_0
              try clear hfz15_1
              try clear hfz16_0
              try clear hfz16_1
              try clear hfz17_0
              try clear hfz17_1
              try clear hfz22_0
              try clear hfz22_1
              try clear hfz29_0
              try clear hfz29_1
              try clear hfz31_0
              try clear hfz31_1
              try clear hfz33_0
              try clear hfz33_1
              try clear p2
              obtain ⟨kq, x52_24, rfl, HA, HJ24, BK194, HB⟩ := hcut
              cases kq with
              | zero => exact absurd HA.out (by simp [arrearslaw09_YieldReckons.j2])
              | succ kj24 =>
                have H := HA.out
                clear HA
                simp only [arrearslaw09_YieldReckons.j2] at H
                by_cases c35 : x52_24 = true
                · subst c35
                  have H1 : (some false) = some r := by rw [if_pos rfl] at H; exact H
                  clear H
                  have H := H1
                  clear H1
                  exact absurd (H.trans (congrArg some HR.out)) (by simp)
                · replace c35 := Bool.eq_false_iff.mpr c35
                  subst c35
                  have H1 : ((arrearslaw09_right.f a0_0 a0_1 a1 a2 a3).bind fun t204 => (if t204 = true then ((arrearslaw09_own.f a0_0 a0_1).bind fun bt205 => ((arrearsref09_Days.f bt205.1 bt205.2 a1 a2 a3).bind fun bt207 => (if t198.isNone = true then (if t196 = bt207.1 then (if t197 = bt207.2 then ((yield_Rate_Unit.f a0_0 a0_1).bind fun t210 => (some (decide (t197 < t210)))) else (some false)) else (some false)) else (some false)))) else (if t196 = 0 then (if t197 = 0 then ((api_Code.f t198).bind fun t211 => (some (t211 == 1))) else (some false)) else (some false)))) = some r := by rw [if_neg (show ¬ (false = true) by decide)] at H; exact H
                  clear H
                  have H := H1
                  clear H1
                  replace H := Option.bind_eq_some_iff.mp H
                  obtain ⟨t204, A360, H⟩ := H
                  replace H : (if t204 = true then ((arrearslaw09_own.f a0_0 a0_1).bind fun bt205 => ((arrearsref09_Days.f bt205.1 bt205.2 a1 a2 a3).bind fun bt207 => (if t198.isNone = true then (if t196 = bt207.1 then (if t197 = bt207.2 then ((yield_Rate_Unit.f a0_0 a0_1).bind fun t210 => (some (decide (t197 < t210)))) else (some false)) else (some false)) else (some false)))) else (if t196 = 0 then (if t197 = 0 then ((api_Code.f t198).bind fun t211 => (some (t211 == 1))) else (some false)) else (some false))) = some r := H
                  have A36 := Aside0.mk A360
                  clear A360
                  by_cases c37 : t204 = true
                  · subst c37
                    have H1 : ((arrearslaw09_own.f a0_0 a0_1).bind fun bt205 => ((arrearsref09_Days.f bt205.1 bt205.2 a1 a2 a3).bind fun bt207 => (if t198.isNone = true then (if t196 = bt207.1 then (if t197 = bt207.2 then ((yield_Rate_Unit.f a0_0 a0_1).bind fun t210 => (some (decide (t197 < t210)))) else (some false)) else (some false)) else (some false)))) = some r := by rw [if_pos rfl] at H; exact H
                    clear H
                    have H := H1
                    clear H1
                    replace H := Option.bind_eq_some_iff.mp H
                    obtain ⟨⟨t205, t206⟩, A380, H⟩ := H
                    replace H : ((arrearsref09_Days.f t205 t206 a1 a2 a3).bind fun bt207 => (if t198.isNone = true then (if t196 = bt207.1 then (if t197 = bt207.2 then ((yield_Rate_Unit.f a0_0 a0_1).bind fun t210 => (some (decide (t197 < t210)))) else (some false)) else (some false)) else (some false))) = some r := H
                    have A38 := Aside0.mk A380
                    clear A380
                    replace H := Option.bind_eq_some_iff.mp H
                    obtain ⟨⟨t207, t208⟩, A390, H⟩ := H
                    replace H : (if t198.isNone = true then (if t196 = t207 then (if t197 = t208 then ((yield_Rate_Unit.f a0_0 a0_1).bind fun t210 => (some (decide (t197 < t210)))) else (some false)) else (some false)) else (some false)) = some r := H
                    have A39 := Aside0.mk A390
                    clear A390
                    rcases t198 with _ | q209
                    · have H1 : (if t196 = t207 then (if t197 = t208 then ((yield_Rate_Unit.f a0_0 a0_1).bind fun t210 => (some (decide (t197 < t210)))) else (some false)) else (some false)) = some r := by rw [if_pos (show (none : Option Int).isNone = true by rfl)] at H; exact H
                      clear H
                      have H := H1
                      clear H1
                      try simp only [errW_none, errW_some]
                      by_cases c40 : t196 = t207
                      · rw [if_pos c40] at H
                        have c40b0 : (t196 == t207) = true := beq_iff_eq.mpr c40
                        have c40b1 : (t196 != t207) = false := bne_eq_false_iff_eq.mpr c40
                        clear c40
                        by_cases c41 : t197 = t208
                        · rw [if_pos c41] at H
                          have c41b0 : (t197 == t208) = true := beq_iff_eq.mpr c41
                          have c41b1 : (t197 != t208) = false := bne_eq_false_iff_eq.mpr c41
                          clear c41
                          replace H := Option.bind_eq_some_iff.mp H
                          obtain ⟨t210, A420, H⟩ := H
                          replace H : (some (decide (t197 < t210))) = some r := H
                          have A42 := Aside0.mk A420
                          clear A420
                          obtain rfl := Option.some.inj H
                          have hcz43_0 : wc.cell? ⟨gb194, 0, none⟩ = some (.int .u32 a0_0) := (blk_cell BK194.out 0).trans rfl
                          have hcz43_1 : wc.cell? ⟨gb194, 1, none⟩ = some (.int .u8 a0_1) := (blk_cell BK194.out 1).trans rfl
                          have hfz43_0 := blk_frozen BK194.out 0
                          have hfz43_1 := blk_frozen BK194.out 1
                          go_wp2_with (first | ((with_reducible refine gate_callee (f := 11) rfl ?_); refine goesL_ (some 57) rfl rfl Tryd.func11 (by kernel_rfl) rfl #[.agg #[.int .u32 a0_0, .int .u8 a0_1], .int .i64 a1, .int .i64 a2, .int .u64 a3] rfl (by (try simp only [List.map_toArray, List.map_cons, List.map_nil]); first | done | rfl | (simp only [List.length_drop, List.length_take]; rfl)) ?_; (with_reducible refine (arrearslaw09_right.calls a0_0 a0_1 a1 a2 a3 true _ A36.out).mono ?_); rintro e w44 ⟨rfl, hb⟩; refine ⟨_, rfl, ?_⟩; have n0_ := Aside0.mk (blk_below (g := gb194) (o := .cells #[.int .u32 a0_0, .int .u8 a0_1] 24 (0, 0)) (by (with_reducible repeat (first | refine blk_drewN ?_ _ | refine blk_drew ?_ | refine blk_alloc ?_ _)); exact BK194.out) hb); have n1_ := Aside0.mk (below_step (by repeat (first | (with_reducible first | exact HB.out | apply below_alloc | apply pw_below_drewN | apply below_drew1 | refine below_set ?_ GE194.out) | exact HB.out)) hb); clear BK194; clear HB; have BK194 := n0_; have HB := n1_; clear n0_ n1_; (try clear hb); (try clear hb2); (try clear hk); (try clear hi); have hcz45_0 : w44.cell? ⟨gb194, 0, none⟩ = some (.int .u32 a0_0) := (blk_cell BK194.out 0).trans rfl; have hcz45_1 : w44.cell? ⟨gb194, 1, none⟩ = some (.int .u8 a0_1) := (blk_cell BK194.out 1).trans rfl; have hfz45_0 := blk_frozen BK194.out 0; have hfz45_1 := blk_frozen BK194.out 1) | ((with_reducible refine gate_callee (f := 8) rfl ?_); refine goesL_ (some 72) rfl rfl Tryd.func8 (by kernel_rfl) rfl #[.agg #[.int .u32 a0_0, .int .u8 a0_1]] rfl (by (try simp only [List.map_toArray, List.map_cons, List.map_nil]); first | done | rfl | (simp only [List.length_drop, List.length_take]; rfl)) ?_; (with_reducible refine (arrearslaw09_own.calls a0_0 a0_1 t205 t206 _ A38.out).mono ?_); rintro e w46 ⟨rfl, hb⟩; refine ⟨_, rfl, ?_⟩; have n0_ := Aside0.mk (blk_below (g := gb194) (o := .cells #[.int .u32 a0_0, .int .u8 a0_1] 24 (0, 0)) (by (with_reducible repeat (first | refine blk_drewN ?_ _ | refine blk_drew ?_ | refine blk_alloc ?_ _)); exact BK194.out) hb); have n1_ := Aside0.mk (below_step (by repeat (first | (with_reducible first | exact HB.out | apply below_alloc | apply pw_below_drewN | apply below_drew1 | refine below_set ?_ GE194.out) | exact HB.out)) hb); clear BK194; clear HB; have BK194 := n0_; have HB := n1_; clear n0_ n1_; (try clear hb); (try clear hb2); (try clear hk); (try clear hi)) | ((with_reducible refine gate_callee (f := 13) rfl ?_); refine goesL_ (some 76) rfl rfl Tryd.func13 (by kernel_rfl) rfl #[.agg #[.int .u32 t205, .bool t206], .int .i64 a1, .int .i64 a2, .int .u64 a3] rfl (by (try simp only [List.map_toArray, List.map_cons, List.map_nil]); first | done | rfl | (simp only [List.length_drop, List.length_take]; rfl)) ?_; (with_reducible refine (arrearsref09_Days.calls t205 t206 a1 a2 a3 t207 t208 _ A39.out).mono ?_); rintro e w47 ⟨rfl, hb⟩; refine ⟨_, rfl, ?_⟩; have n0_ := Aside0.mk (blk_below (g := gb194) (o := .cells #[.int .u32 a0_0, .int .u8 a0_1] 24 (0, 0)) (by (with_reducible repeat (first | refine blk_drewN ?_ _ | refine blk_drew ?_ | refine blk_alloc ?_ _)); exact BK194.out) hb); have n1_ := Aside0.mk (below_step (by repeat (first | (with_reducible first | exact HB.out | apply below_alloc | apply pw_below_drewN | apply below_drew1 | refine below_set ?_ GE194.out) | exact HB.out)) hb); clear BK194; clear HB; have BK194 := n0_; have HB := n1_; clear n0_ n1_; (try clear hb); (try clear hb2); (try clear hk); (try clear hi); have hcz48_0 : w47.cell? ⟨gb194, 0, none⟩ = some (.int .u32 a0_0) := (blk_cell BK194.out 0).trans rfl; have hcz48_1 : w47.cell? ⟨gb194, 1, none⟩ = some (.int .u8 a0_1) := (blk_cell BK194.out 1).trans rfl; have hfz48_0 := blk_frozen BK194.out 0; have hfz48_1 := blk_frozen BK194.out 1) | (go_at_call 9; (with_reducible refine (yield_Rate_Unit.calls a0_0 a0_1 t210 _ A42.out).mono ?_); rintro e w49 ⟨rfl, hb⟩; have n0_ := Aside0.mk (blk_below (g := gb194) (o := .cells #[.int .u32 a0_0, .int .u8 a0_1] 24 (0, 0)) (by (with_reducible repeat (first | refine blk_drewN ?_ _ | refine blk_drew ?_ | refine blk_alloc ?_ _)); exact BK194.out) hb); have n1_ := Aside0.mk (below_step (by repeat (first | (with_reducible first | exact HB.out | apply below_alloc | apply pw_below_drewN | apply below_drew1 | refine below_set ?_ GE194.out) | exact HB.out)) hb); clear BK194; clear HB; have BK194 := n0_; have HB := n1_; clear n0_ n1_; (try clear hb); (try clear hb2); (try clear hk); (try clear hi)))
                          go_ret
                          exact ⟨by first | rfl | (simp [errW_none, errW_some] <;> rfl) | (simp [*, errW_none, errW_some] <;> rfl), by repeat (first | (with_reducible first | exact HB.out | apply below_alloc | apply pw_below_drewN | apply below_drew1 | refine below_set ?_ GE194.out) | exact HB.out)⟩
                        · rw [if_neg c41] at H
                          have c41b0 : (t197 == t208) = false := beq_eq_false_iff_ne.mpr c41
                          have c41b1 : (t197 != t208) = true := bne_iff_ne.mpr c41
                          exact absurd (H.trans (congrArg some HR.out)) (by simp)
                      · rw [if_neg c40] at H
                        have c40b0 : (t196 == t207) = false := beq_eq_false_iff_ne.mpr c40
                        have c40b1 : (t196 != t207) = true := bne_iff_ne.mpr c40
                        exact absurd (H.trans (congrArg some HR.out)) (by simp)
                    · have H1 : (some false) = some r := by rw [if_neg (show ¬ (some q209).isNone = true by simp)] at H; exact H
                      clear H
                      have H := H1
                      clear H1
                      try simp only [errW_none, errW_some]
                      exact absurd (H.trans (congrArg some HR.out)) (by simp)
                  · replace c37 := Bool.eq_false_iff.mpr c37
                    subst c37
                    have H1 : (if t196 = 0 then (if t197 = 0 then ((api_Code.f t198).bind fun t211 => (some (t211 == 1))) else (some false)) else (some false)) = some r := by rw [if_neg (show ¬ (false = true) by decide)] at H; exact H
                    clear H
                    have H := H1
                    clear H1
                    by_cases c65 : t196 = 0
                    · rw [if_pos c65] at H
                      have c65b0 : (t196 == 0) = true := beq_iff_eq.mpr c65
                      have c65b1 : (t196 != 0) = false := bne_eq_false_iff_eq.mpr c65
                      clear c65
                      by_cases c66 : t197 = 0
                      · rw [if_pos c66] at H
                        have c66b0 : (t197 == 0) = true := beq_iff_eq.mpr c66
                        have c66b1 : (t197 != 0) = false := bne_eq_false_iff_eq.mpr c66
                        clear c66
                        replace H := Option.bind_eq_some_iff.mp H
                        obtain ⟨t211, A670, H⟩ := H
                        replace H : (some (t211 == 1)) = some r := H
                        have A67 := Aside0.mk A670
                        clear A670
                        obtain rfl := Option.some.inj H
                        have hcz68_0 : wc.cell? ⟨gb194, 0, none⟩ = some (.int .u32 a0_0) := (blk_cell BK194.out 0).trans rfl
                        have hcz68_1 : wc.cell? ⟨gb194, 1, none⟩ = some (.int .u8 a0_1) := (blk_cell BK194.out 1).trans rfl
                        have hfz68_0 := blk_frozen BK194.out 0
                        have hfz68_1 := blk_frozen BK194.out 1
                        go_wp2_with (first | ((with_reducible refine gate_callee (f := 11) rfl ?_); refine goesL_ (some 57) rfl rfl Tryd.func11 (by kernel_rfl) rfl #[.agg #[.int .u32 a0_0, .int .u8 a0_1], .int .i64 a1, .int .i64 a2, .int .u64 a3] rfl (by (try simp only [List.map_toArray, List.map_cons, List.map_nil]); first | done | rfl | (simp only [List.length_drop, List.length_take]; rfl)) ?_; (with_reducible refine (arrearslaw09_right.calls a0_0 a0_1 a1 a2 a3 false _ A36.out).mono ?_); rintro e w69 ⟨rfl, hb⟩; refine ⟨_, rfl, ?_⟩; have n0_ := Aside0.mk (blk_below (g := gb194) (o := .cells #[.int .u32 a0_0, .int .u8 a0_1] 24 (0, 0)) (by (with_reducible repeat (first | refine blk_drewN ?_ _ | refine blk_drew ?_ | refine blk_alloc ?_ _)); exact BK194.out) hb); have n1_ := Aside0.mk (below_step (by repeat (first | (with_reducible first | exact HB.out | apply below_alloc | apply pw_below_drewN | apply below_drew1 | refine below_set ?_ GE194.out) | exact HB.out)) hb); clear BK194; clear HB; have BK194 := n0_; have HB := n1_; clear n0_ n1_; (try clear hb); (try clear hb2); (try clear hk); (try clear hi); have CA67 := fun W (hGW : Go.Proofs.YtldicnmpegkicaaDoor.M.Laid W) => api_Code.calls t198 t211 W hGW A67.out; try simp only [errW_none, errW_some] at CA67) | (go_at_call 12; (with_reducible refine (CA67 _ ?hGL).mono ?_); (case hGL => exact Go.Proofs.YtldicnmpegkicaaDoor.M.Laid.below HG.out (by repeat (first | (with_reducible first | exact HB.out | apply below_alloc | apply pw_below_drewN | apply below_drew1 | refine below_set ?_ GE194.out) | exact HB.out))); rintro e w70 ⟨rfl, hb⟩; have n0_ := Aside0.mk (blk_below (g := gb194) (o := .cells #[.int .u32 a0_0, .int .u8 a0_1] 24 (0, 0)) (by (with_reducible repeat (first | refine blk_drewN ?_ _ | refine blk_drew ?_ | refine blk_alloc ?_ _)); exact BK194.out) hb); have n1_ := Aside0.mk (below_step (by repeat (first | (with_reducible first | exact HB.out | apply below_alloc | apply pw_below_drewN | apply below_drew1 | refine below_set ?_ GE194.out) | exact HB.out)) hb); clear BK194; clear HB; have BK194 := n0_; have HB := n1_; clear n0_ n1_; (try clear hb); (try clear hb2); (try clear hk); (try clear hi)))
                        go_ret
                        exact ⟨by first | rfl | (simp [errW_none, errW_some] <;> rfl) | (simp [*, errW_none, errW_some] <;> rfl), by repeat (first | (with_reducible first | exact HB.out | apply below_alloc | apply pw_below_drewN | apply below_drew1 | refine below_set ?_ GE194.out) | exact HB.out)⟩
                      · rw [if_neg c66] at H
                        have c66b0 : (t197 == 0) = false := beq_eq_false_iff_ne.mpr c66
                        have c66b1 : (t197 != 0) = true := bne_iff_ne.mpr c66
                        exact absurd (H.trans (congrArg some HR.out)) (by simp)
                    · rw [if_neg c65] at H
                      have c65b0 : (t196 == 0) = false := beq_eq_false_iff_ne.mpr c65
                      have c65b1 : (t196 != 0) = true := bne_iff_ne.mpr c65
                      exact absurd (H.trans (congrArg some HR.out)) (by simp)
  · replace c6 := Bool.eq_false_iff.mpr c6
    subst c6
    have H1 : (some false) = some r := by rw [if_neg (show ¬ (false = true) by decide)] at H; exact H
    clear H
    have H := H1
    clear H1
    exact absurd (H.trans (congrArg some HR.out)) (by simp)
end Go.Proofs.YtldicnmpegkicaaDoor.PYieldReckons
