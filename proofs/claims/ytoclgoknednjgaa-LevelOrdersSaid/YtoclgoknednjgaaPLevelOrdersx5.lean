-- Printed by a wrapper of this session's round the kit's print.py; Lean checks it.
import Derived.Test.YtoclgoknednjgaaPLevelOrdersx0
import Derived.Test.YtoclgoknednjgaaPLevelOrdersx3
import Derived.Test.YtoclgoknednjgaaPLevelOrdersx4
namespace Go.Proofs.Ytoclgoknednjgaa.PLevelOrders
open Go.RowKit Go.Proofs.YtoclgoknednjgaaW.PrintWords Go.Proofs.YtoclgoknednjgaaW.PrintLast Go.Proofs.YtoclgoknednjgaaW.PrintMore
attribute [local go_sem] max2_int min2_int max_two min_two max_three min_three max_four min_four   -- for this text's walks alone
set_option linter.unusedVariables false
set_option linter.unusedSimpArgs false

/-! ### arrearslaw10_LevelOrders: function 3 -/
def arrearslaw10_LevelOrders.j0 : Nat → Int → Int → Int → Int → Bool → Int → Int → Option (Bool)
  | 0, _, _, _, _, _, _, _ => none
  | k + 1, x0, x1, x3, x4, x38, x187000, x187001 => if x38 = true then (some true) else ((level_Payment.f k x0 x187000 x187001 x3).bind fun bt190 => ((level_Payment.f k x1 x187000 x187001 x4).bind fun bt192 => (if bt190.2.isNone = true then (if bt192.2.isNone = true then (some (decide (bt190.1 ≤ bt192.1))) else (some false)) else (some false))))
def arrearslaw10_LevelOrders.f (k : Nat) (a0 : Int) (a1 : Int) (a2_0 : Int) (a2_1 : Int) (a3 : Int) (a4 : Int) : Option (Bool) := (arrearslaw10_awake.f k).bind fun t187 => (if t187 = true then ((arrearslaw10_right.f a0 a2_0 a2_1 a3).bind fun t188 => (if t188 = true then ((arrearslaw10_right.f a1 a2_0 a2_1 a4).bind fun t189 => (if t189 = true then (if a0 > a1 then (arrearslaw10_LevelOrders.j0 k a0 a1 a3 a4 true a2_0 a2_1) else (arrearslaw10_LevelOrders.j0 k a0 a1 a3 a4 (decide (a3 < a4)) a2_0 a2_1)) else (arrearslaw10_LevelOrders.j0 k a0 a1 a3 a4 true a2_0 a2_1))) else (arrearslaw10_LevelOrders.j0 k a0 a1 a3 a4 true a2_0 a2_1))) else (some false))
theorem arrearslaw10_LevelOrders.mono_l : ∀ k, (∀ y0 y1 y2 y3 y4 y5 y6, LeO (arrearslaw10_LevelOrders.j0 k y0 y1 y2 y3 y4 y5 y6) (arrearslaw10_LevelOrders.j0 (k + 1) y0 y1 y2 y3 y4 y5 y6))
  | 0 => fun _ _ _ _ _ _ _ r h => by simp [arrearslaw10_LevelOrders.j0] at h
  | k + 1 => by
    have ih0 := arrearslaw10_LevelOrders.mono_l k
    · intro y0 y1 y2 y3 y4 y5 y6
      unfold arrearslaw10_LevelOrders.j0
      repeat' first
      | (with_reducible exact ih0 _ _ _ _ _ _ _)
      | (with_reducible exact arrearslaw10_awake.mono _)
      | (with_reducible exact level_Payment.mono _ _ _ _ _)
      | (with_reducible exact LeO.refl _)
      | (with_reducible exact LeO.none _)
      | (with_reducible refine LeO.ite ?_ ?_)
      | (with_reducible refine LeO.bind ?_ (fun _ => ?_))
      | exact ih0 _ _ _ _ _ _ _
      | exact arrearslaw10_awake.mono _
      | exact level_Payment.mono _ _ _ _ _
      | exact LeO.none _
      | refine LeO.ite ?_ ?_
      | refine LeO.bind ?_ (fun _ => ?_)
theorem arrearslaw10_LevelOrders.mono : ∀ a0 a1 a2 a3 a4 a5 k, LeO (arrearslaw10_LevelOrders.f k a0 a1 a2 a3 a4 a5) (arrearslaw10_LevelOrders.f (k + 1) a0 a1 a2 a3 a4 a5) := by
  intro a0 a1 a2 a3 a4 a5 k
  have ih0 := arrearslaw10_LevelOrders.mono_l k
  unfold arrearslaw10_LevelOrders.f
  repeat' first
      | (with_reducible exact ih0 _ _ _ _ _ _ _)
      | (with_reducible exact arrearslaw10_awake.mono _)
      | (with_reducible exact level_Payment.mono _ _ _ _ _)
      | (with_reducible exact LeO.refl _)
      | (with_reducible exact LeO.none _)
      | (with_reducible refine LeO.ite ?_ ?_)
      | (with_reducible refine LeO.bind ?_ (fun _ => ?_))
      | exact ih0 _ _ _ _ _ _ _
      | exact arrearslaw10_awake.mono _
      | exact level_Payment.mono _ _ _ _ _
      | exact LeO.none _
      | refine LeO.ite ?_ ?_
      | refine LeO.bind ?_ (fun _ => ?_)
set_option maxHeartbeats 8000000 in
set_option maxRecDepth 100000 in
theorem arrearslaw10_LevelOrders.calls (k : Nat) (a0 : Int) (a1 : Int) (a2_0 : Int) (a2_1 : Int) (a3 : Int) (a4 : Int) (r : Bool) (w : World) (h : arrearslaw10_LevelOrders.f k a0 a1 a2_0 a2_1 a3 a4 = some r) :
    Calls Try.prog 3 #[.int .i64 a0, .int .i64 a1, .agg #[.int .u32 a2_0, .int .u8 a2_1], .int .i64 a3, .int .i64 a4] w fun e w' => e = .returned (.bool r) ∧ Below w.heap.size w w' := by
  have hu25 := Try.underlying25
  have hu29 := Try.underlying29
  have hu46 := Try.underlying46
  have HB := Aside0.mk (Below.refl w.heap.size w)
  have H : ((arrearslaw10_awake.f k).bind fun t187 => (if t187 = true then ((arrearslaw10_right.f a0 a2_0 a2_1 a3).bind fun t188 => (if t188 = true then ((arrearslaw10_right.f a1 a2_0 a2_1 a4).bind fun t189 => (if t189 = true then (if a0 > a1 then (arrearslaw10_LevelOrders.j0 k a0 a1 a3 a4 true a2_0 a2_1) else (arrearslaw10_LevelOrders.j0 k a0 a1 a3 a4 (decide (a3 < a4)) a2_0 a2_1)) else (arrearslaw10_LevelOrders.j0 k a0 a1 a3 a4 true a2_0 a2_1))) else (arrearslaw10_LevelOrders.j0 k a0 a1 a3 a4 true a2_0 a2_1))) else (some false))) = some r := h
  clear h
  replace H := Option.bind_eq_some_iff.mp H
  obtain ⟨t187, A60, H⟩ := H
  replace H : (if t187 = true then ((arrearslaw10_right.f a0 a2_0 a2_1 a3).bind fun t188 => (if t188 = true then ((arrearslaw10_right.f a1 a2_0 a2_1 a4).bind fun t189 => (if t189 = true then (if a0 > a1 then (arrearslaw10_LevelOrders.j0 k a0 a1 a3 a4 true a2_0 a2_1) else (arrearslaw10_LevelOrders.j0 k a0 a1 a3 a4 (decide (a3 < a4)) a2_0 a2_1)) else (arrearslaw10_LevelOrders.j0 k a0 a1 a3 a4 true a2_0 a2_1))) else (arrearslaw10_LevelOrders.j0 k a0 a1 a3 a4 true a2_0 a2_1))) else (some false)) = some r := H
  have A6 := Aside0.mk A60
  clear A60
  by_cases c7 : t187 = true
  · subst c7
    have H1 : ((arrearslaw10_right.f a0 a2_0 a2_1 a3).bind fun t188 => (if t188 = true then ((arrearslaw10_right.f a1 a2_0 a2_1 a4).bind fun t189 => (if t189 = true then (if a0 > a1 then (arrearslaw10_LevelOrders.j0 k a0 a1 a3 a4 true a2_0 a2_1) else (arrearslaw10_LevelOrders.j0 k a0 a1 a3 a4 (decide (a3 < a4)) a2_0 a2_1)) else (arrearslaw10_LevelOrders.j0 k a0 a1 a3 a4 true a2_0 a2_1))) else (arrearslaw10_LevelOrders.j0 k a0 a1 a3 a4 true a2_0 a2_1))) = some r := by rw [if_pos rfl] at H; exact H
    clear H
    have H := H1
    clear H1
    have HC8 := Aside0.mk H
    clear H
    go_enter Try.func3, Try.ntmps3
    go_upto_region 3 with (first | ((with_reducible refine gate_dst (N := 7) rfl ?_); refine box_event ?hg (N := 7) ?hd (cs := #[.int .u32 a2_0, .int .u8 a2_1]) (t := 25) ?hr ?_; (case hd => rfl); (case hg => rfl); (case hr => first | (go_simp; done) | (go_simp; rfl)); intro gb186 hg w9 hbox hb; have n0_ := Aside0.mk (below_step (by repeat (first | (with_reducible first | exact HB.out | apply below_alloc | apply pw_below_drewN | apply below_drew1) | exact HB.out)) hb); have n1_ := Aside0.mk (hbox); have n2_ := Aside0.mk ((by rw [hg]; exact (below_size (by repeat (first | (with_reducible first | exact HB.out | apply below_alloc | apply pw_below_drewN | apply below_drew1) | exact HB.out))) : w.heap.size ≤ gb186)); have n3_ := Aside0.mk ((by rw [hg]; exact (below_size (by repeat (first | (with_reducible first | exact HB.out | apply below_alloc | apply pw_below_drewN | apply below_drew1) | exact HB.out))) : w.heap.size ≤ gb186)); clear HB; have HB := n0_; have BK186 := n1_; have GW186 := n2_; have GE186 := n3_; clear n0_ n1_ n2_ n3_; clear hb hbox hg) | ((with_reducible refine gate_callee (f := 7) rfl ?_); refine goesL_ (some 15) rfl rfl Try.func7 (by kernel_rfl) rfl #[] rfl (by (try simp only [List.map_toArray, List.map_cons, List.map_nil]); first | done | rfl | (simp only [List.length_drop, List.length_take]; rfl)) ?_; (with_reducible refine (arrearslaw10_awake.calls k  true _ A6.out).mono ?_); rintro e w10 ⟨rfl, hb⟩; refine ⟨_, rfl, ?_⟩; have n0_ := Aside0.mk (blk_below (g := gb186) (o := .cells #[.int .u32 a2_0, .int .u8 a2_1] 25 (0, 0)) (by (with_reducible repeat (first | refine blk_drewN ?_ _ | refine blk_drew ?_ | refine blk_alloc ?_ _)); exact BK186.out) hb); have n1_ := Aside0.mk (below_step (by repeat (first | (with_reducible first | exact HB.out | apply below_alloc | apply pw_below_drewN | apply below_drew1 | refine below_set ?_ GE186.out) | exact HB.out)) hb); clear BK186; clear HB; have BK186 := n0_; have HB := n1_; clear n0_ n1_; (try clear hb); (try clear hb2); (try clear hk); (try clear hi)))
    (try simp only [Act.put, List.setIfInBounds_toArray, List.set_cons_zero, List.set_cons_succ])
    go_cut [38] (fun v38 wc => ∃ (kq : Nat) (x38_7 : Bool), v38 = .bool x38_7 ∧ Aside0 (arrearslaw10_LevelOrders.j0 kq a0 a1 a3 a4 x38_7 a2_0 a2_1 = some r) ∧ Aside0 (kq ≤ k) ∧ Aside0 (wc.heap[gb186]? = some (.cells #[.int .u32 a2_0, .int .u8 a2_1] 25 (0, 0))) ∧ Aside0 (Below w.heap.size w wc))
    case first =>
      have H := HC8.out
      clear HC8
      replace H := Option.bind_eq_some_iff.mp H
      obtain ⟨t188, A110, H⟩ := H
      replace H : (if t188 = true then ((arrearslaw10_right.f a1 a2_0 a2_1 a4).bind fun t189 => (if t189 = true then (if a0 > a1 then (arrearslaw10_LevelOrders.j0 k a0 a1 a3 a4 true a2_0 a2_1) else (arrearslaw10_LevelOrders.j0 k a0 a1 a3 a4 (decide (a3 < a4)) a2_0 a2_1)) else (arrearslaw10_LevelOrders.j0 k a0 a1 a3 a4 true a2_0 a2_1))) else (arrearslaw10_LevelOrders.j0 k a0 a1 a3 a4 true a2_0 a2_1)) = some r := H
      have A11 := Aside0.mk A110
      clear A110
      by_cases c12 : t188 = true
      · subst c12
        have H1 : ((arrearslaw10_right.f a1 a2_0 a2_1 a4).bind fun t189 => (if t189 = true then (if a0 > a1 then (arrearslaw10_LevelOrders.j0 k a0 a1 a3 a4 true a2_0 a2_1) else (arrearslaw10_LevelOrders.j0 k a0 a1 a3 a4 (decide (a3 < a4)) a2_0 a2_1)) else (arrearslaw10_LevelOrders.j0 k a0 a1 a3 a4 true a2_0 a2_1))) = some r := by rw [if_pos rfl] at H; exact H
        clear H
        have H := H1
        clear H1
        replace H := Option.bind_eq_some_iff.mp H
        obtain ⟨t189, A130, H⟩ := H
        replace H : (if t189 = true then (if a0 > a1 then (arrearslaw10_LevelOrders.j0 k a0 a1 a3 a4 true a2_0 a2_1) else (arrearslaw10_LevelOrders.j0 k a0 a1 a3 a4 (decide (a3 < a4)) a2_0 a2_1)) else (arrearslaw10_LevelOrders.j0 k a0 a1 a3 a4 true a2_0 a2_1)) = some r := H
        have A13 := Aside0.mk A130
        clear A130
        by_cases c14 : t189 = true
        · subst c14
          have H1 : (if a0 > a1 then (arrearslaw10_LevelOrders.j0 k a0 a1 a3 a4 true a2_0 a2_1) else (arrearslaw10_LevelOrders.j0 k a0 a1 a3 a4 (decide (a3 < a4)) a2_0 a2_1)) = some r := by rw [if_pos rfl] at H; exact H
          clear H
          have H := H1
          clear H1
          by_cases c15 : a0 > a1
          · rw [if_pos c15] at H
            have c15b0 : decide (a1 < a0) = true := decide_eq_true c15
            clear c15
            (first | rw [c15b0] | (simp only [i64_w, i32_w]; rw [c15b0]) | skip)
            have H' := Aside0.mk H
            clear H
            have hcz16_0 : w10.cell? ⟨gb186, 0, none⟩ = some (.int .u32 a2_0) := (blk_cell BK186.out 0).trans rfl
            have hcz16_1 : w10.cell? ⟨gb186, 1, none⟩ = some (.int .u8 a2_1) := (blk_cell BK186.out 1).trans rfl
            have hfz16_0 := blk_frozen BK186.out 0
            have hfz16_1 := blk_frozen BK186.out 1
            go_wp2_with (first | ((with_reducible refine gate_callee (f := 8) rfl ?_); refine goesL_ (some 20) rfl rfl Try.func8 (by kernel_rfl) rfl #[.int .i64 a0, .agg #[.int .u32 a2_0, .int .u8 a2_1], .int .i64 a3] rfl (by (try simp only [List.map_toArray, List.map_cons, List.map_nil]); first | done | rfl | (simp only [List.length_drop, List.length_take]; rfl)) ?_; (with_reducible refine (arrearslaw10_right.calls a0 a2_0 a2_1 a3 true _ A11.out).mono ?_); rintro e w17 ⟨rfl, hb⟩; refine ⟨_, rfl, ?_⟩; have n0_ := Aside0.mk (blk_below (g := gb186) (o := .cells #[.int .u32 a2_0, .int .u8 a2_1] 25 (0, 0)) (by (with_reducible repeat (first | refine blk_drewN ?_ _ | refine blk_drew ?_ | refine blk_alloc ?_ _)); exact BK186.out) hb); have n1_ := Aside0.mk (below_step (by repeat (first | (with_reducible first | exact HB.out | apply below_alloc | apply pw_below_drewN | apply below_drew1 | refine below_set ?_ GE186.out) | exact HB.out)) hb); clear BK186; clear HB; have BK186 := n0_; have HB := n1_; clear n0_ n1_; (try clear hb); (try clear hb2); (try clear hk); (try clear hi); have hcz18_0 : w17.cell? ⟨gb186, 0, none⟩ = some (.int .u32 a2_0) := (blk_cell BK186.out 0).trans rfl; have hcz18_1 : w17.cell? ⟨gb186, 1, none⟩ = some (.int .u8 a2_1) := (blk_cell BK186.out 1).trans rfl; have hfz18_0 := blk_frozen BK186.out 0; have hfz18_1 := blk_frozen BK186.out 1) | (go_at_call 8; (with_reducible refine (arrearslaw10_right.calls a1 a2_0 a2_1 a4 true _ A13.out).mono ?_); rintro e w19 ⟨rfl, hb⟩; have n0_ := Aside0.mk (blk_below (g := gb186) (o := .cells #[.int .u32 a2_0, .int .u8 a2_1] 25 (0, 0)) (by (with_reducible repeat (first | refine blk_drewN ?_ _ | refine blk_drew ?_ | refine blk_alloc ?_ _)); exact BK186.out) hb); have n1_ := Aside0.mk (below_step (by repeat (first | (with_reducible first | exact HB.out | apply below_alloc | apply pw_below_drewN | apply below_drew1 | refine below_set ?_ GE186.out) | exact HB.out)) hb); clear BK186; clear HB; have BK186 := n0_; have HB := n1_; clear n0_ n1_; (try clear hb); (try clear hb2); (try clear hk); (try clear hi)))
            go_meet
            case rel => exact ⟨_, (true), (by first | rfl | (simp; done) | (simp [*]; done)), H', ⟨by first | omega | exact Nat.le_refl _⟩, ⟨by (with_reducible repeat (first | refine blk_drewN ?_ _ | refine blk_drew ?_ | refine blk_alloc ?_ _)); exact BK186.out⟩, ⟨by repeat (first | (with_reducible first | exact HB.out | apply below_alloc | apply pw_below_drewN | apply below_drew1 | refine below_set ?_ GE186.out) | exact HB.out)⟩⟩
          · rw [if_neg c15] at H
            have c15b0 : decide (a1 < a0) = false := decide_eq_false c15
            clear c15
            (first | rw [c15b0] | (simp only [i64_w, i32_w]; rw [c15b0]) | skip)
            have H' := Aside0.mk H
            clear H
            have hcz20_0 : w10.cell? ⟨gb186, 0, none⟩ = some (.int .u32 a2_0) := (blk_cell BK186.out 0).trans rfl
            have hcz20_1 : w10.cell? ⟨gb186, 1, none⟩ = some (.int .u8 a2_1) := (blk_cell BK186.out 1).trans rfl
            have hfz20_0 := blk_frozen BK186.out 0
            have hfz20_1 := blk_frozen BK186.out 1
            go_wp2_with (first | ((with_reducible refine gate_callee (f := 8) rfl ?_); refine goesL_ (some 20) rfl rfl Try.func8 (by kernel_rfl) rfl #[.int .i64 a0, .agg #[.int .u32 a2_0, .int .u8 a2_1], .int .i64 a3] rfl (by (try simp only [List.map_toArray, List.map_cons, List.map_nil]); first | done | rfl | (simp only [List.length_drop, List.length_take]; rfl)) ?_; (with_reducible refine (arrearslaw10_right.calls a0 a2_0 a2_1 a3 true _ A11.out).mono ?_); rintro e w21 ⟨rfl, hb⟩; refine ⟨_, rfl, ?_⟩; have n0_ := Aside0.mk (blk_below (g := gb186) (o := .cells #[.int .u32 a2_0, .int .u8 a2_1] 25 (0, 0)) (by (with_reducible repeat (first | refine blk_drewN ?_ _ | refine blk_drew ?_ | refine blk_alloc ?_ _)); exact BK186.out) hb); have n1_ := Aside0.mk (below_step (by repeat (first | (with_reducible first | exact HB.out | apply below_alloc | apply pw_below_drewN | apply below_drew1 | refine below_set ?_ GE186.out) | exact HB.out)) hb); clear BK186; clear HB; have BK186 := n0_; have HB := n1_; clear n0_ n1_; (try clear hb); (try clear hb2); (try clear hk); (try clear hi); have hcz22_0 : w21.cell? ⟨gb186, 0, none⟩ = some (.int .u32 a2_0) := (blk_cell BK186.out 0).trans rfl; have hcz22_1 : w21.cell? ⟨gb186, 1, none⟩ = some (.int .u8 a2_1) := (blk_cell BK186.out 1).trans rfl; have hfz22_0 := blk_frozen BK186.out 0; have hfz22_1 := blk_frozen BK186.out 1) | (go_at_call 8; (with_reducible refine (arrearslaw10_right.calls a1 a2_0 a2_1 a4 true _ A13.out).mono ?_); rintro e w23 ⟨rfl, hb⟩; have n0_ := Aside0.mk (blk_below (g := gb186) (o := .cells #[.int .u32 a2_0, .int .u8 a2_1] 25 (0, 0)) (by (with_reducible repeat (first | refine blk_drewN ?_ _ | refine blk_drew ?_ | refine blk_alloc ?_ _)); exact BK186.out) hb); have n1_ := Aside0.mk (below_step (by repeat (first | (with_reducible first | exact HB.out | apply below_alloc | apply pw_below_drewN | apply below_drew1 | refine below_set ?_ GE186.out) | exact HB.out)) hb); clear BK186; clear HB; have BK186 := n0_; have HB := n1_; clear n0_ n1_; (try clear hb); (try clear hb2); (try clear hk); (try clear hi)))
            go_meet
            case rel => exact ⟨_, (decide (a3 < a4)), (by first | rfl | (simp; done) | (simp [*]; done)), H', ⟨by first | omega | exact Nat.le_refl _⟩, ⟨by (with_reducible repeat (first | refine blk_drewN ?_ _ | refine blk_drew ?_ | refine blk_alloc ?_ _)); exact BK186.out⟩, ⟨by repeat (first | (with_reducible first | exact HB.out | apply below_alloc | apply pw_below_drewN | apply below_drew1 | refine below_set ?_ GE186.out) | exact HB.out)⟩⟩
        · replace c14 := Bool.eq_false_iff.mpr c14
          subst c14
          have H1 : (arrearslaw10_LevelOrders.j0 k a0 a1 a3 a4 true a2_0 a2_1) = some r := by rw [if_neg (show ¬ (false = true) by decide)] at H; exact H
          clear H
          have H := H1
          clear H1
          have H' := Aside0.mk H
          clear H
          have hcz24_0 : w10.cell? ⟨gb186, 0, none⟩ = some (.int .u32 a2_0) := (blk_cell BK186.out 0).trans rfl
          have hcz24_1 : w10.cell? ⟨gb186, 1, none⟩ = some (.int .u8 a2_1) := (blk_cell BK186.out 1).trans rfl
          have hfz24_0 := blk_frozen BK186.out 0
          have hfz24_1 := blk_frozen BK186.out 1
          go_wp2_with (first | ((with_reducible refine gate_callee (f := 8) rfl ?_); refine goesL_ (some 20) rfl rfl Try.func8 (by kernel_rfl) rfl #[.int .i64 a0, .agg #[.int .u32 a2_0, .int .u8 a2_1], .int .i64 a3] rfl (by (try simp only [List.map_toArray, List.map_cons, List.map_nil]); first | done | rfl | (simp only [List.length_drop, List.length_take]; rfl)) ?_; (with_reducible refine (arrearslaw10_right.calls a0 a2_0 a2_1 a3 true _ A11.out).mono ?_); rintro e w25 ⟨rfl, hb⟩; refine ⟨_, rfl, ?_⟩; have n0_ := Aside0.mk (blk_below (g := gb186) (o := .cells #[.int .u32 a2_0, .int .u8 a2_1] 25 (0, 0)) (by (with_reducible repeat (first | refine blk_drewN ?_ _ | refine blk_drew ?_ | refine blk_alloc ?_ _)); exact BK186.out) hb); have n1_ := Aside0.mk (below_step (by repeat (first | (with_reducible first | exact HB.out | apply below_alloc | apply pw_below_drewN | apply below_drew1 | refine below_set ?_ GE186.out) | exact HB.out)) hb); clear BK186; clear HB; have BK186 := n0_; have HB := n1_; clear n0_ n1_; (try clear hb); (try clear hb2); (try clear hk); (try clear hi); have hcz26_0 : w25.cell? ⟨gb186, 0, none⟩ = some (.int .u32 a2_0) := (blk_cell BK186.out 0).trans rfl; have hcz26_1 : w25.cell? ⟨gb186, 1, none⟩ = some (.int .u8 a2_1) := (blk_cell BK186.out 1).trans rfl; have hfz26_0 := blk_frozen BK186.out 0; have hfz26_1 := blk_frozen BK186.out 1) | (go_at_call 8; (with_reducible refine (arrearslaw10_right.calls a1 a2_0 a2_1 a4 false _ A13.out).mono ?_); rintro e w27 ⟨rfl, hb⟩; have n0_ := Aside0.mk (blk_below (g := gb186) (o := .cells #[.int .u32 a2_0, .int .u8 a2_1] 25 (0, 0)) (by (with_reducible repeat (first | refine blk_drewN ?_ _ | refine blk_drew ?_ | refine blk_alloc ?_ _)); exact BK186.out) hb); have n1_ := Aside0.mk (below_step (by repeat (first | (with_reducible first | exact HB.out | apply below_alloc | apply pw_below_drewN | apply below_drew1 | refine below_set ?_ GE186.out) | exact HB.out)) hb); clear BK186; clear HB; have BK186 := n0_; have HB := n1_; clear n0_ n1_; (try clear hb); (try clear hb2); (try clear hk); (try clear hi)))
          go_meet
          case rel => exact ⟨_, (true), (by first | rfl | (simp; done) | (simp [*]; done)), H', ⟨by first | omega | exact Nat.le_refl _⟩, ⟨by (with_reducible repeat (first | refine blk_drewN ?_ _ | refine blk_drew ?_ | refine blk_alloc ?_ _)); exact BK186.out⟩, ⟨by repeat (first | (with_reducible first | exact HB.out | apply below_alloc | apply pw_below_drewN | apply below_drew1 | refine below_set ?_ GE186.out) | exact HB.out)⟩⟩
      · replace c12 := Bool.eq_false_iff.mpr c12
        subst c12
        have H1 : (arrearslaw10_LevelOrders.j0 k a0 a1 a3 a4 true a2_0 a2_1) = some r := by rw [if_neg (show ¬ (false = true) by decide)] at H; exact H
        clear H
        have H := H1
        clear H1
        have H' := Aside0.mk H
        clear H
        have hcz28_0 : w10.cell? ⟨gb186, 0, none⟩ = some (.int .u32 a2_0) := (blk_cell BK186.out 0).trans rfl
        have hcz28_1 : w10.cell? ⟨gb186, 1, none⟩ = some (.int .u8 a2_1) := (blk_cell BK186.out 1).trans rfl
        have hfz28_0 := blk_frozen BK186.out 0
        have hfz28_1 := blk_frozen BK186.out 1
        go_wp2_with (first | ((with_reducible refine gate_callee (f := 8) rfl ?_); refine goesL_ (some 20) rfl rfl Try.func8 (by kernel_rfl) rfl #[.int .i64 a0, .agg #[.int .u32 a2_0, .int .u8 a2_1], .int .i64 a3] rfl (by (try simp only [List.map_toArray, List.map_cons, List.map_nil]); first | done | rfl | (simp only [List.length_drop, List.length_take]; rfl)) ?_; (with_reducible refine (arrearslaw10_right.calls a0 a2_0 a2_1 a3 false _ A11.out).mono ?_); rintro e w29 ⟨rfl, hb⟩; refine ⟨_, rfl, ?_⟩; have n0_ := Aside0.mk (blk_below (g := gb186) (o := .cells #[.int .u32 a2_0, .int .u8 a2_1] 25 (0, 0)) (by (with_reducible repeat (first | refine blk_drewN ?_ _ | refine blk_drew ?_ | refine blk_alloc ?_ _)); exact BK186.out) hb); have n1_ := Aside0.mk (below_step (by repeat (first | (with_reducible first | exact HB.out | apply below_alloc | apply pw_below_drewN | apply below_drew1 | refine below_set ?_ GE186.out) | exact HB.out)) hb); clear BK186; clear HB; have BK186 := n0_; have HB := n1_; clear n0_ n1_; (try clear hb); (try clear hb2); (try clear hk); (try clear hi)))
        go_meet
        case rel => exact ⟨_, (true), (by first | rfl | (simp; done) | (simp [*]; done)), H', ⟨by first | omega | exact Nat.le_refl _⟩, ⟨by (with_reducible repeat (first | refine blk_drewN ?_ _ | refine blk_drew ?_ | refine blk_alloc ?_ _)); exact BK186.out⟩, ⟨by repeat (first | (with_reducible first | exact HB.out | apply below_alloc | apply pw_below_drewN | apply below_drew1 | refine below_set ?_ GE186.out) | exact HB.out)⟩⟩
    case rest =>
      clear HC8
      try clear c1
      try clear p2
      try clear c3
      try clear c7
      try clear c8
      try clear c12
      try clear c14
      try clear c15
      try clear c15b0
      try clear hcz16_0
      try clear hcz16_1
      try clear hcz18_0
      try clear hcz18_1
      try clear hcz20_0
      try clear hcz20_1
      try clear hcz22_0
      try clear hcz22_1
      try clear hcz24_0
      try clear hcz24_1
      try clear hcz26_0
      try clear hcz26_1
      try clear hcz28_0
      try clear hcz28_1
      try clear hfz16_0
      try clear hfz16_1
      try clear hfz18_0
      try clear hfz18_1
      try clear hfz20_0
      try clear hfz20_1
      try clear hfz22_0
      try clear hfz22_1
      try clear hfz24_0
      try clear hfz24_1
      try clear hfz26_0
      try clear hfz26_1
      try clear hfz28_0
      try clear hfz28_1
      obtain ⟨kq, x38_7, rfl, HA, HJ7, BK186, HB⟩ := hcut
      cases kq with
      | zero => exact absurd HA.out (by simp [arrearslaw10_LevelOrders.j0])
      | succ kj7 =>
        have H := HA.out
        clear HA
        simp only [arrearslaw10_LevelOrders.j0] at H
        by_cases c30 : x38_7 = true
        · subst c30
          have H1 : (some true) = some r := by rw [if_pos rfl] at H; exact H
          clear H
          have H := H1
          clear H1
          obtain rfl := Option.some.inj H
          go_wp2
          go_ret
          exact ⟨by first | rfl | (simp [errW_none, errW_some] <;> rfl) | (simp [*, errW_none, errW_some] <;> rfl), by repeat (first | (with_reducible first | exact HB.out | apply below_alloc | apply pw_below_drewN | apply below_drew1 | refine below_set ?_ GE186.out) | exact HB.out)⟩
        · replace c30 := Bool.eq_false_iff.mpr c30
          subst c30
          have H1 : ((level_Payment.f kj7 a0 a2_0 a2_1 a3).bind fun bt190 => ((level_Payment.f kj7 a1 a2_0 a2_1 a4).bind fun bt192 => (if bt190.2.isNone = true then (if bt192.2.isNone = true then (some (decide (bt190.1 ≤ bt192.1))) else (some false)) else (some false)))) = some r := by rw [if_neg (show ¬ (false = true) by decide)] at H; exact H
          clear H
          have H := H1
          clear H1
          replace H := Option.bind_eq_some_iff.mp H
          obtain ⟨⟨t190, t191⟩, A310, H⟩ := H
          replace H : ((level_Payment.f kj7 a1 a2_0 a2_1 a4).bind fun bt192 => (if t191.isNone = true then (if bt192.2.isNone = true then (some (decide (t190 ≤ bt192.1))) else (some false)) else (some false))) = some r := H
          have A31 := Aside0.mk A310
          clear A310
          replace H := Option.bind_eq_some_iff.mp H
          obtain ⟨⟨t192, t193⟩, A320, H⟩ := H
          replace H : (if t191.isNone = true then (if t193.isNone = true then (some (decide (t190 ≤ t192))) else (some false)) else (some false)) = some r := H
          have A32 := Aside0.mk A320
          clear A320
          rcases t191 with _ | q194
          · have H1 : (if t193.isNone = true then (some (decide (t190 ≤ t192))) else (some false)) = some r := by rw [if_pos (show (none : Option Int).isNone = true by rfl)] at H; exact H
            clear H
            have H := H1
            clear H1
            try simp only [errW_none, errW_some]
            rcases t193 with _ | q195
            · have H1 : (some (decide (t190 ≤ t192))) = some r := by rw [if_pos (show (none : Option Int).isNone = true by rfl)] at H; exact H
              clear H
              have H := H1
              clear H1
              try simp only [errW_none, errW_some]
              obtain rfl := Option.some.inj H
              have hcz33_0 : wc.cell? ⟨gb186, 0, none⟩ = some (.int .u32 a2_0) := (blk_cell BK186.out 0).trans rfl
              have hcz33_1 : wc.cell? ⟨gb186, 1, none⟩ = some (.int .u8 a2_1) := (blk_cell BK186.out 1).trans rfl
              have hfz33_0 := blk_frozen BK186.out 0
              have hfz33_1 := blk_frozen BK186.out 1
              go_wp2_with (first | ((with_reducible refine gate_callee (f := 9) rfl ?_); refine goesL_ (some 43) rfl rfl Try.func9 (by kernel_rfl) rfl #[.int .i64 a0, .agg #[.int .u32 a2_0, .int .u8 a2_1], .int .i64 a3] rfl (by (try simp only [List.map_toArray, List.map_cons, List.map_nil]); first | done | rfl | (simp only [List.length_drop, List.length_take]; rfl)) ?_; (with_reducible refine (level_Payment.calls kj7 a0 a2_0 a2_1 a3 t190 none _ A31.out).mono ?_); rintro e w34 ⟨rfl, hb⟩; refine ⟨_, rfl, ?_⟩; have n0_ := Aside0.mk (blk_below (g := gb186) (o := .cells #[.int .u32 a2_0, .int .u8 a2_1] 25 (0, 0)) (by (with_reducible repeat (first | refine blk_drewN ?_ _ | refine blk_drew ?_ | refine blk_alloc ?_ _)); exact BK186.out) hb); have n1_ := Aside0.mk (below_step (by repeat (first | (with_reducible first | exact HB.out | apply below_alloc | apply pw_below_drewN | apply below_drew1 | refine below_set ?_ GE186.out) | exact HB.out)) hb); clear BK186; clear HB; have BK186 := n0_; have HB := n1_; clear n0_ n1_; (try clear hb); (try clear hb2); (try clear hk); (try clear hi); (try simp only [errW_none, errW_some]); have hcz35_0 : w34.cell? ⟨gb186, 0, none⟩ = some (.int .u32 a2_0) := (blk_cell BK186.out 0).trans rfl; have hcz35_1 : w34.cell? ⟨gb186, 1, none⟩ = some (.int .u8 a2_1) := (blk_cell BK186.out 1).trans rfl; have hfz35_0 := blk_frozen BK186.out 0; have hfz35_1 := blk_frozen BK186.out 1) | ((with_reducible refine gate_callee (f := 9) rfl ?_); refine goesL_ (some 50) rfl rfl Try.func9 (by kernel_rfl) rfl #[.int .i64 a1, .agg #[.int .u32 a2_0, .int .u8 a2_1], .int .i64 a4] rfl (by (try simp only [List.map_toArray, List.map_cons, List.map_nil]); first | done | rfl | (simp only [List.length_drop, List.length_take]; rfl)) ?_; (with_reducible refine (level_Payment.calls kj7 a1 a2_0 a2_1 a4 t192 none _ A32.out).mono ?_); rintro e w36 ⟨rfl, hb⟩; refine ⟨_, rfl, ?_⟩; have n0_ := Aside0.mk (blk_below (g := gb186) (o := .cells #[.int .u32 a2_0, .int .u8 a2_1] 25 (0, 0)) (by (with_reducible repeat (first | refine blk_drewN ?_ _ | refine blk_drew ?_ | refine blk_alloc ?_ _)); exact BK186.out) hb); have n1_ := Aside0.mk (below_step (by repeat (first | (with_reducible first | exact HB.out | apply below_alloc | apply pw_below_drewN | apply below_drew1 | refine below_set ?_ GE186.out) | exact HB.out)) hb); clear BK186; clear HB; have BK186 := n0_; have HB := n1_; clear n0_ n1_; (try clear hb); (try clear hb2); (try clear hk); (try clear hi); (try simp only [errW_none, errW_some])))
              go_ret
              exact ⟨by first | rfl | (simp [errW_none, errW_some] <;> rfl) | (simp [*, errW_none, errW_some] <;> rfl), by repeat (first | (with_reducible first | exact HB.out | apply below_alloc | apply pw_below_drewN | apply below_drew1 | refine below_set ?_ GE186.out) | exact HB.out)⟩
            · have H1 : (some false) = some r := by rw [if_neg (show ¬ (some q195).isNone = true by simp)] at H; exact H
              clear H
              have H := H1
              clear H1
              try simp only [errW_none, errW_some]
              obtain rfl := Option.some.inj H
              have hcz37_0 : wc.cell? ⟨gb186, 0, none⟩ = some (.int .u32 a2_0) := (blk_cell BK186.out 0).trans rfl
              have hcz37_1 : wc.cell? ⟨gb186, 1, none⟩ = some (.int .u8 a2_1) := (blk_cell BK186.out 1).trans rfl
              have hfz37_0 := blk_frozen BK186.out 0
              have hfz37_1 := blk_frozen BK186.out 1
              go_wp2_with (first | ((with_reducible refine gate_callee (f := 9) rfl ?_); refine goesL_ (some 43) rfl rfl Try.func9 (by kernel_rfl) rfl #[.int .i64 a0, .agg #[.int .u32 a2_0, .int .u8 a2_1], .int .i64 a3] rfl (by (try simp only [List.map_toArray, List.map_cons, List.map_nil]); first | done | rfl | (simp only [List.length_drop, List.length_take]; rfl)) ?_; (with_reducible refine (level_Payment.calls kj7 a0 a2_0 a2_1 a3 t190 none _ A31.out).mono ?_); rintro e w38 ⟨rfl, hb⟩; refine ⟨_, rfl, ?_⟩; have n0_ := Aside0.mk (blk_below (g := gb186) (o := .cells #[.int .u32 a2_0, .int .u8 a2_1] 25 (0, 0)) (by (with_reducible repeat (first | refine blk_drewN ?_ _ | refine blk_drew ?_ | refine blk_alloc ?_ _)); exact BK186.out) hb); have n1_ := Aside0.mk (below_step (by repeat (first | (with_reducible first | exact HB.out | apply below_alloc | apply pw_below_drewN | apply below_drew1 | refine below_set ?_ GE186.out) | exact HB.out)) hb); clear BK186; clear HB; have BK186 := n0_; have HB := n1_; clear n0_ n1_; (try clear hb); (try clear hb2); (try clear hk); (try clear hi); (try simp only [errW_none, errW_some]); have hcz39_0 : w38.cell? ⟨gb186, 0, none⟩ = some (.int .u32 a2_0) := (blk_cell BK186.out 0).trans rfl; have hcz39_1 : w38.cell? ⟨gb186, 1, none⟩ = some (.int .u8 a2_1) := (blk_cell BK186.out 1).trans rfl; have hfz39_0 := blk_frozen BK186.out 0; have hfz39_1 := blk_frozen BK186.out 1) | ((with_reducible refine gate_callee (f := 9) rfl ?_); refine goesL_ (some 50) rfl rfl Try.func9 (by kernel_rfl) rfl #[.int .i64 a1, .agg #[.int .u32 a2_0, .int .u8 a2_1], .int .i64 a4] rfl (by (try simp only [List.map_toArray, List.map_cons, List.map_nil]); first | done | rfl | (simp only [List.length_drop, List.length_take]; rfl)) ?_; (with_reducible refine (level_Payment.calls kj7 a1 a2_0 a2_1 a4 t192 (some q195) _ A32.out).mono ?_); rintro e w40 ⟨rfl, hb⟩; refine ⟨_, rfl, ?_⟩; have n0_ := Aside0.mk (blk_below (g := gb186) (o := .cells #[.int .u32 a2_0, .int .u8 a2_1] 25 (0, 0)) (by (with_reducible repeat (first | refine blk_drewN ?_ _ | refine blk_drew ?_ | refine blk_alloc ?_ _)); exact BK186.out) hb); have n1_ := Aside0.mk (below_step (by repeat (first | (with_reducible first | exact HB.out | apply below_alloc | apply pw_below_drewN | apply below_drew1 | refine below_set ?_ GE186.out) | exact HB.out)) hb); clear BK186; clear HB; have BK186 := n0_; have HB := n1_; clear n0_ n1_; (try clear hb); (try clear hb2); (try clear hk); (try clear hi); (try simp only [errW_none, errW_some])))
              go_ret
              exact ⟨by first | rfl | (simp [errW_none, errW_some] <;> rfl) | (simp [*, errW_none, errW_some] <;> rfl), by repeat (first | (with_reducible first | exact HB.out | apply below_alloc | apply pw_below_drewN | apply below_drew1 | refine below_set ?_ GE186.out) | exact HB.out)⟩
          · have H1 : (some false) = some r := by rw [if_neg (show ¬ (some q194).isNone = true by simp)] at H; exact H
            clear H
            have H := H1
            clear H1
            try simp only [errW_none, errW_some]
            obtain rfl := Option.some.inj H
            have hcz41_0 : wc.cell? ⟨gb186, 0, none⟩ = some (.int .u32 a2_0) := (blk_cell BK186.out 0).trans rfl
            have hcz41_1 : wc.cell? ⟨gb186, 1, none⟩ = some (.int .u8 a2_1) := (blk_cell BK186.out 1).trans rfl
            have hfz41_0 := blk_frozen BK186.out 0
            have hfz41_1 := blk_frozen BK186.out 1
            go_wp2_with (first | ((with_reducible refine gate_callee (f := 9) rfl ?_); refine goesL_ (some 43) rfl rfl Try.func9 (by kernel_rfl) rfl #[.int .i64 a0, .agg #[.int .u32 a2_0, .int .u8 a2_1], .int .i64 a3] rfl (by (try simp only [List.map_toArray, List.map_cons, List.map_nil]); first | done | rfl | (simp only [List.length_drop, List.length_take]; rfl)) ?_; (with_reducible refine (level_Payment.calls kj7 a0 a2_0 a2_1 a3 t190 (some q194) _ A31.out).mono ?_); rintro e w42 ⟨rfl, hb⟩; refine ⟨_, rfl, ?_⟩; have n0_ := Aside0.mk (blk_below (g := gb186) (o := .cells #[.int .u32 a2_0, .int .u8 a2_1] 25 (0, 0)) (by (with_reducible repeat (first | refine blk_drewN ?_ _ | refine blk_drew ?_ | refine blk_alloc ?_ _)); exact BK186.out) hb); have n1_ := Aside0.mk (below_step (by repeat (first | (with_reducible first | exact HB.out | apply below_alloc | apply pw_below_drewN | apply below_drew1 | refine below_set ?_ GE186.out) | exact HB.out)) hb); clear BK186; clear HB; have BK186 := n0_; have HB := n1_; clear n0_ n1_; (try clear hb); (try clear hb2); (try clear hk); (try clear hi); (try simp only [errW_none, errW_some]); have hcz43_0 : w42.cell? ⟨gb186, 0, none⟩ = some (.int .u32 a2_0) := (blk_cell BK186.out 0).trans rfl; have hcz43_1 : w42.cell? ⟨gb186, 1, none⟩ = some (.int .u8 a2_1) := (blk_cell BK186.out 1).trans rfl; have hfz43_0 := blk_frozen BK186.out 0; have hfz43_1 := blk_frozen BK186.out 1) | ((with_reducible refine gate_callee (f := 9) rfl ?_); refine goesL_ (some 50) rfl rfl Try.func9 (by kernel_rfl) rfl #[.int .i64 a1, .agg #[.int .u32 a2_0, .int .u8 a2_1], .int .i64 a4] rfl (by (try simp only [List.map_toArray, List.map_cons, List.map_nil]); first | done | rfl | (simp only [List.length_drop, List.length_take]; rfl)) ?_; (with_reducible refine (level_Payment.calls kj7 a1 a2_0 a2_1 a4 t192 t193 _ A32.out).mono ?_); rintro e w44 ⟨rfl, hb⟩; refine ⟨_, rfl, ?_⟩; have n0_ := Aside0.mk (blk_below (g := gb186) (o := .cells #[.int .u32 a2_0, .int .u8 a2_1] 25 (0, 0)) (by (with_reducible repeat (first | refine blk_drewN ?_ _ | refine blk_drew ?_ | refine blk_alloc ?_ _)); exact BK186.out) hb); have n1_ := Aside0.mk (below_step (by repeat (first | (with_reducible first | exact HB.out | apply below_alloc | apply pw_below_drewN | apply below_drew1 | refine below_set ?_ GE186.out) | exact HB.out)) hb); clear BK186; clear HB; have BK186 := n0_; have HB := n1_; clear n0_ n1_; (try clear hb); (try clear hb2); (try clear hk); (try clear hi); (try simp only [errW_none, errW_some])))
            go_ret
            exact ⟨by first | rfl | (simp [errW_none, errW_some] <;> rfl) | (simp [*, errW_none, errW_some] <;> rfl), by repeat (first | (with_reducible first | exact HB.out | apply below_alloc | apply pw_below_drewN | apply below_drew1 | refine below_set ?_ GE186.out) | exact HB.out)⟩
  · replace c7 := Bool.eq_false_iff.mpr c7
    subst c7
    have H1 : (some false) = some r := by rw [if_neg (show ¬ (false = true) by decide)] at H; exact H
    clear H
    have H := H1
    clear H1
    obtain rfl := Option.some.inj H
    go_enter Try.func3, Try.ntmps3
    go_wp2_with (first | ((with_reducible refine gate_dst (N := 7) rfl ?_); refine box_event ?hg (N := 7) ?hd (cs := #[.int .u32 a2_0, .int .u8 a2_1]) (t := 25) ?hr ?_; (case hd => rfl); (case hg => rfl); (case hr => first | (go_simp; done) | (go_simp; rfl)); intro gb186 hg w45 hbox hb; have n0_ := Aside0.mk (below_step (by repeat (first | (with_reducible first | exact HB.out | apply below_alloc | apply pw_below_drewN | apply below_drew1) | exact HB.out)) hb); have n1_ := Aside0.mk (hbox); have n2_ := Aside0.mk ((by rw [hg]; exact (below_size (by repeat (first | (with_reducible first | exact HB.out | apply below_alloc | apply pw_below_drewN | apply below_drew1) | exact HB.out))) : w.heap.size ≤ gb186)); have n3_ := Aside0.mk ((by rw [hg]; exact (below_size (by repeat (first | (with_reducible first | exact HB.out | apply below_alloc | apply pw_below_drewN | apply below_drew1) | exact HB.out))) : w.heap.size ≤ gb186)); clear HB; have HB := n0_; have BK186 := n1_; have GW186 := n2_; have GE186 := n3_; clear n0_ n1_ n2_ n3_; clear hb hbox hg) | ((with_reducible refine gate_callee (f := 7) rfl ?_); refine goesL_ (some 15) rfl rfl Try.func7 (by kernel_rfl) rfl #[] rfl (by (try simp only [List.map_toArray, List.map_cons, List.map_nil]); first | done | rfl | (simp only [List.length_drop, List.length_take]; rfl)) ?_; (with_reducible refine (arrearslaw10_awake.calls k  false _ A6.out).mono ?_); rintro e w46 ⟨rfl, hb⟩; refine ⟨_, rfl, ?_⟩; have n0_ := Aside0.mk (blk_below (g := gb186) (o := .cells #[.int .u32 a2_0, .int .u8 a2_1] 25 (0, 0)) (by (with_reducible repeat (first | refine blk_drewN ?_ _ | refine blk_drew ?_ | refine blk_alloc ?_ _)); exact BK186.out) hb); have n1_ := Aside0.mk (below_step (by repeat (first | (with_reducible first | exact HB.out | apply below_alloc | apply pw_below_drewN | apply below_drew1 | refine below_set ?_ GE186.out) | exact HB.out)) hb); clear BK186; clear HB; have BK186 := n0_; have HB := n1_; clear n0_ n1_; (try clear hb); (try clear hb2); (try clear hk); (try clear hi)))
    go_ret
    exact ⟨by first | rfl | (simp [errW_none, errW_some] <;> rfl) | (simp [*, errW_none, errW_some] <;> rfl), by repeat (first | (with_reducible first | exact HB.out | apply below_alloc | apply pw_below_drewN | apply below_drew1 | refine below_set ?_ GE186.out) | exact HB.out)⟩

end Go.Proofs.Ytoclgoknednjgaa.PLevelOrders
