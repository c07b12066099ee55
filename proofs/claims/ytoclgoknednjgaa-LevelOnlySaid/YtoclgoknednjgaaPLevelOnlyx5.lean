-- Printed by a wrapper of this session's round the kit's print.py; Lean checks it.
import Derived.Test.YtoclgoknednjgaaPLevelOnlyx0
import Derived.Test.YtoclgoknednjgaaPLevelOnlyx3
import Derived.Test.YtoclgoknednjgaaPLevelOnlyx4
namespace Go.Proofs.Ytoclgoknednjgaa.PLevelOnly
open Go.RowKit Go.Proofs.YtoclgoknednjgaaW.PrintWords Go.Proofs.YtoclgoknednjgaaW.PrintLast Go.Proofs.YtoclgoknednjgaaW.PrintMore
attribute [local go_sem] max2_int min2_int max_two min_two max_three min_three max_four min_four   -- for this text's walks alone
set_option linter.unusedVariables false
set_option linter.unusedSimpArgs false

/-! ### arrearslaw10_LevelOnly: function 4 -/
def arrearslaw10_LevelOnly.l0 : Nat → Int → Int → List (S38) → Int → Option Int → List (S38) → Int → Int → Option (Bool)
  | 0, _, _, _, _, _, _, _, _ => none
  | k + 1, x0, x2, x7, x9, x10, x36, x37, x38 => if x38 < x37 then (if 0 ≤ x38 then (if x38 < (x36.length : Int) then (if ((rd_T38 x36 x38).f0) = x9 then (if (x38 = (wrap64 (x2 - 1))) then (if x38 = (wrap64 (x2 - 1)) then (if ((rd_T38 x36 x38).f1) = x0 then (if ((rd_T38 x36 x38).f2) = 0 then (arrearslaw10_LevelOnly.l0 k x0 x2 x7 x9 x10 x36 x37 (wrap64 (x38 + 1))) else (some false)) else (some false)) else (arrearslaw10_LevelOnly.l0 k x0 x2 x7 x9 x10 x36 x37 (wrap64 (x38 + 1)))) else (if ((rd_T38 x36 x38).f1) = 0 then (if ((rd_T38 x36 x38).f2) = x0 then (if x38 = (wrap64 (x2 - 1)) then (if ((rd_T38 x36 x38).f1) = x0 then (if ((rd_T38 x36 x38).f2) = 0 then (arrearslaw10_LevelOnly.l0 k x0 x2 x7 x9 x10 x36 x37 (wrap64 (x38 + 1))) else (some false)) else (some false)) else (arrearslaw10_LevelOnly.l0 k x0 x2 x7 x9 x10 x36 x37 (wrap64 (x38 + 1)))) else (some false)) else (some false))) else (some false)) else (none)) else (none)) else (if x10.isNone = true then (some ((x7.length : Int) == x2)) else (some false))
def arrearslaw10_LevelOnly.f (k : Nat) (a0 : Int) (a1_0 : Int) (a1_1 : Int) (a2 : Int) : Option (Bool) := (arrearslaw10_awake.f k).bind fun t187 => (if t187 = true then ((level_Rows.f k 2 a0 a1_0 a1_1 a2).bind fun bt188 => (if bt188.2.isNone = true then ((yield_Rate_Month.f k a1_0 a1_1 a0).bind fun bt193 => (arrearslaw10_LevelOnly.l0 k a0 a2 bt188.1 bt193.1 bt193.2 bt188.1 (bt188.1.length : Int) 0)) else ((arrearslaw10_right.f a0 a1_0 a1_1 a2).bind fun t198 => (some (!t198))))) else (some false))
theorem arrearslaw10_LevelOnly.mono_l : ∀ k, (∀ y0 y1 y2 y3 y4 y5 y6 y7, LeO (arrearslaw10_LevelOnly.l0 k y0 y1 y2 y3 y4 y5 y6 y7) (arrearslaw10_LevelOnly.l0 (k + 1) y0 y1 y2 y3 y4 y5 y6 y7))
  | 0 => fun _ _ _ _ _ _ _ _ r h => by simp [arrearslaw10_LevelOnly.l0] at h
  | k + 1 => by
    have ih0 := arrearslaw10_LevelOnly.mono_l k
    · intro y0 y1 y2 y3 y4 y5 y6 y7
      unfold arrearslaw10_LevelOnly.l0
      repeat' first
      | (with_reducible exact ih0 _ _ _ _ _ _ _ _)
      | (with_reducible exact arrearslaw10_awake.mono _)
      | (with_reducible exact level_Rows.mono _ _ _ _ _ _)
      | (with_reducible exact yield_Rate_Month.mono _ _ _ _)
      | (with_reducible exact LeO.refl _)
      | (with_reducible exact LeO.none _)
      | (with_reducible refine LeO.ite ?_ ?_)
      | (with_reducible refine LeO.bind ?_ (fun _ => ?_))
      | exact ih0 _ _ _ _ _ _ _ _
      | exact arrearslaw10_awake.mono _
      | exact level_Rows.mono _ _ _ _ _ _
      | exact yield_Rate_Month.mono _ _ _ _
      | exact LeO.none _
      | refine LeO.ite ?_ ?_
      | refine LeO.bind ?_ (fun _ => ?_)
theorem arrearslaw10_LevelOnly.mono : ∀ a0 a1 a2 a3 k, LeO (arrearslaw10_LevelOnly.f k a0 a1 a2 a3) (arrearslaw10_LevelOnly.f (k + 1) a0 a1 a2 a3) := by
  intro a0 a1 a2 a3 k
  have ih0 := arrearslaw10_LevelOnly.mono_l k
  unfold arrearslaw10_LevelOnly.f
  repeat' first
      | (with_reducible exact ih0 _ _ _ _ _ _ _ _)
      | (with_reducible exact arrearslaw10_awake.mono _)
      | (with_reducible exact level_Rows.mono _ _ _ _ _ _)
      | (with_reducible exact yield_Rate_Month.mono _ _ _ _)
      | (with_reducible exact LeO.refl _)
      | (with_reducible exact LeO.none _)
      | (with_reducible refine LeO.ite ?_ ?_)
      | (with_reducible refine LeO.bind ?_ (fun _ => ?_))
      | exact ih0 _ _ _ _ _ _ _ _
      | exact arrearslaw10_awake.mono _
      | exact level_Rows.mono _ _ _ _ _ _
      | exact yield_Rate_Month.mono _ _ _ _
      | exact LeO.none _
      | refine LeO.ite ?_ ?_
      | refine LeO.bind ?_ (fun _ => ?_)
set_option maxHeartbeats 8000000 in
set_option maxRecDepth 100000 in
theorem arrearslaw10_LevelOnly.calls (k : Nat) (a0 : Int) (a1_0 : Int) (a1_1 : Int) (a2 : Int) (r : Bool) (w : World) (h : arrearslaw10_LevelOnly.f k a0 a1_0 a1_1 a2 = some r) :
    Calls Try.prog 4 #[.int .i64 a0, .agg #[.int .u32 a1_0, .int .u8 a1_1], .int .i64 a2] w fun e w' => e = .returned (.bool r) ∧ Below w.heap.size w w' := by
  have hu25 := Try.underlying25
  have hu38 := Try.underlying38
  have hu29 := Try.underlying29
  have hu46 := Try.underlying46
  have HB := Aside0.mk (Below.refl w.heap.size w)
  have H : ((arrearslaw10_awake.f k).bind fun t187 => (if t187 = true then ((level_Rows.f k 2 a0 a1_0 a1_1 a2).bind fun bt188 => (if bt188.2.isNone = true then ((yield_Rate_Month.f k a1_0 a1_1 a0).bind fun bt193 => (arrearslaw10_LevelOnly.l0 k a0 a2 bt188.1 bt193.1 bt193.2 bt188.1 (bt188.1.length : Int) 0)) else ((arrearslaw10_right.f a0 a1_0 a1_1 a2).bind fun t198 => (some (!t198))))) else (some false))) = some r := h
  clear h
  replace H := Option.bind_eq_some_iff.mp H
  obtain ⟨t187, A40, H⟩ := H
  replace H : (if t187 = true then ((level_Rows.f k 2 a0 a1_0 a1_1 a2).bind fun bt188 => (if bt188.2.isNone = true then ((yield_Rate_Month.f k a1_0 a1_1 a0).bind fun bt193 => (arrearslaw10_LevelOnly.l0 k a0 a2 bt188.1 bt193.1 bt193.2 bt188.1 (bt188.1.length : Int) 0)) else ((arrearslaw10_right.f a0 a1_0 a1_1 a2).bind fun t198 => (some (!t198))))) else (some false)) = some r := H
  have A4 := Aside0.mk A40
  clear A40
  by_cases c5 : t187 = true
  · subst c5
    have H1 : ((level_Rows.f k 2 a0 a1_0 a1_1 a2).bind fun bt188 => (if bt188.2.isNone = true then ((yield_Rate_Month.f k a1_0 a1_1 a0).bind fun bt193 => (arrearslaw10_LevelOnly.l0 k a0 a2 bt188.1 bt193.1 bt193.2 bt188.1 (bt188.1.length : Int) 0)) else ((arrearslaw10_right.f a0 a1_0 a1_1 a2).bind fun t198 => (some (!t198))))) = some r := by rw [if_pos rfl] at H; exact H
    clear H
    have H := H1
    clear H1
    replace H := Option.bind_eq_some_iff.mp H
    obtain ⟨⟨t188, t191⟩, A60, H⟩ := H
    replace H : (if t191.isNone = true then ((yield_Rate_Month.f k a1_0 a1_1 a0).bind fun bt193 => (arrearslaw10_LevelOnly.l0 k a0 a2 t188 bt193.1 bt193.2 t188 (t188.length : Int) 0)) else ((arrearslaw10_right.f a0 a1_0 a1_1 a2).bind fun t198 => (some (!t198)))) = some r := H
    have A6 := Aside0.mk A60
    clear A60
    rcases t191 with _ | q192
    · have H1 : ((yield_Rate_Month.f k a1_0 a1_1 a0).bind fun bt193 => (arrearslaw10_LevelOnly.l0 k a0 a2 t188 bt193.1 bt193.2 t188 (t188.length : Int) 0)) = some r := by rw [if_pos (show (none : Option Int).isNone = true by rfl)] at H; exact H
      clear H
      have H := H1
      clear H1
      try simp only [errW_none, errW_some]
      replace H := Option.bind_eq_some_iff.mp H
      obtain ⟨⟨t193, t194⟩, A70, H⟩ := H
      replace H : (arrearslaw10_LevelOnly.l0 k a0 a2 t188 t193 t194 t188 (t188.length : Int) 0) = some r := H
      have A7 := Aside0.mk A70
      clear A70
      have H' := Aside0.mk H
      clear H
      go_enter Try.func4, Try.ntmps4
      go_wp2_with (first | ((with_reducible refine gate_dst (N := 4) rfl ?_); (try (refine gate_guard (by rfl) ?_; dsimp only)); refine box_event ?hg (N := 4) ?hd (cs := #[.int .u32 a1_0, .int .u8 a1_1]) (t := 25) ?hr ?_; (case hd => rfl); (case hg => rfl); (case hr => first | (go_simp; done) | (go_simp; rfl)); intro gb186 hg w8 hbox hb; have n0_ := Aside0.mk (below_step (by repeat (first | (with_reducible first | exact HB.out | apply below_alloc | apply pw_below_drewN | apply below_drew1) | exact HB.out)) hb); have n1_ := Aside0.mk (hbox); have n2_ := Aside0.mk ((by rw [hg]; exact (below_size (by repeat (first | (with_reducible first | exact HB.out | apply below_alloc | apply pw_below_drewN | apply below_drew1) | exact HB.out))) : w.heap.size ≤ gb186)); have n3_ := Aside0.mk ((by rw [hg]; exact (below_size (by repeat (first | (with_reducible first | exact HB.out | apply below_alloc | apply pw_below_drewN | apply below_drew1) | exact HB.out))) : w.heap.size ≤ gb186)); clear HB; have HB := n0_; have BK186 := n1_; have GW186 := n2_; have GE186 := n3_; clear n0_ n1_ n2_ n3_; clear hb hbox hg) | ((with_reducible refine gate_callee (f := 7) rfl ?_); refine goesL_ (some 14) rfl rfl Try.func7 (by kernel_rfl) rfl #[] rfl (by (try simp only [List.map_toArray, List.map_cons, List.map_nil]); first | done | rfl | (simp only [List.length_drop, List.length_take]; rfl)) ?_; (with_reducible refine (arrearslaw10_awake.calls k  true _ A4.out).mono ?_); rintro e w9 ⟨rfl, hb⟩; refine ⟨_, rfl, ?_⟩; have n0_ := Aside0.mk (blk_below (g := gb186) (o := .cells #[.int .u32 a1_0, .int .u8 a1_1] 25 (0, 0)) (by (with_reducible repeat (first | refine blk_drewN ?_ _ | refine blk_drew ?_ | refine blk_alloc ?_ _)); exact BK186.out) hb); have n1_ := Aside0.mk (below_step (by repeat (first | (with_reducible first | exact HB.out | apply below_alloc | apply pw_below_drewN | apply below_drew1 | refine below_set ?_ GE186.out) | exact HB.out)) hb); clear BK186; clear HB; have BK186 := n0_; have HB := n1_; clear n0_ n1_; (try clear hb); (try clear hb2); (try clear hk); (try clear hi); have hcz10_0 : w9.cell? ⟨gb186, 0, none⟩ = some (.int .u32 a1_0) := (blk_cell BK186.out 0).trans rfl; have hcz10_1 : w9.cell? ⟨gb186, 1, none⟩ = some (.int .u8 a1_1) := (blk_cell BK186.out 1).trans rfl; have hfz10_0 := blk_frozen BK186.out 0; have hfz10_1 := blk_frozen BK186.out 1) | ((with_reducible refine gate_callee (f := 10) rfl ?_); refine goesL_ (some 20) rfl rfl Try.func10 (by kernel_rfl) rfl #[.int .u8 2, .int .i64 a0, .agg #[.int .u32 a1_0, .int .u8 a1_1], .int .i64 a2] rfl (by (try simp only [List.map_toArray, List.map_cons, List.map_nil]); first | done | rfl | (simp only [List.length_drop, List.length_take]; rfl)) ?_; (with_reducible refine (level_Rows.calls k 2 a0 a1_0 a1_1 a2 t188 none _ A6.out).mono ?_); rintro e w11 ⟨v189, rfl, ho0, hb⟩; refine ⟨_, rfl, ?_⟩; have n0_ := Aside0.mk (Kd.R_lower ho0 (below_size (by repeat (first | (with_reducible first | exact HB.out | apply below_alloc | apply pw_below_drewN | apply below_drew1 | refine below_set ?_ GE186.out) | exact HB.out)))); have n1_ := Aside0.mk (blk_below (g := gb186) (o := .cells #[.int .u32 a1_0, .int .u8 a1_1] 25 (0, 0)) (by (with_reducible repeat (first | refine blk_drewN ?_ _ | refine blk_drew ?_ | refine blk_alloc ?_ _)); exact BK186.out) hb); have n2_ := Aside0.mk (below_step (by repeat (first | (with_reducible first | exact HB.out | apply below_alloc | apply pw_below_drewN | apply below_drew1 | refine below_set ?_ GE186.out) | exact HB.out)) hb); clear BK186; clear HB; have HO190 := n0_; have BK186 := n1_; have HB := n2_; clear n0_ n1_ n2_; (try clear hb); (try clear hb2); (try clear hk); (try clear hi); (try clear ho0); (try simp only [errW_none, errW_some]); have hcz12_0 : w11.cell? ⟨gb186, 0, none⟩ = some (.int .u32 a1_0) := (blk_cell BK186.out 0).trans rfl; have hcz12_1 : w11.cell? ⟨gb186, 1, none⟩ = some (.int .u8 a1_1) := (blk_cell BK186.out 1).trans rfl; have hfz12_0 := blk_frozen BK186.out 0; have hfz12_1 := blk_frozen BK186.out 1) | ((with_reducible refine gate_callee (f := 11) rfl ?_); refine goesL_ (some 33) rfl rfl Try.func11 (by kernel_rfl) rfl #[.agg #[.int .u32 a1_0, .int .u8 a1_1], .int .i64 a0] rfl (by (try simp only [List.map_toArray, List.map_cons, List.map_nil]); first | done | rfl | (simp only [List.length_drop, List.length_take]; rfl)) ?_; (with_reducible refine (yield_Rate_Month.calls k a1_0 a1_1 a0 t193 t194 _ A7.out).mono ?_); rintro e w13 ⟨rfl, hb⟩; refine ⟨_, rfl, ?_⟩; have n0_ := Aside0.mk (Kd.R_below (by (with_reducible repeat (first | apply Kd.R_alloc | apply Kd.R_drewN | apply Kd.R_drew)); exact HO190.out) hb); have n1_ := Aside0.mk (blk_below (g := gb186) (o := .cells #[.int .u32 a1_0, .int .u8 a1_1] 25 (0, 0)) (by (with_reducible repeat (first | refine blk_drewN ?_ _ | refine blk_drew ?_ | refine blk_alloc ?_ _)); exact BK186.out) hb); have n2_ := Aside0.mk (below_step (by repeat (first | (with_reducible first | exact HB.out | apply below_alloc | apply pw_below_drewN | apply below_drew1 | refine below_set ?_ GE186.out) | exact HB.out)) hb); clear HO190; clear BK186; clear HB; have HO190 := n0_; have BK186 := n1_; have HB := n2_; clear n0_ n1_ n2_; (try clear hb); (try clear hb2); (try clear hk); (try clear hi); (try simp only [errW_none, errW_some]); obtain ⟨Ao14, co14, eo14⟩ := Kd.R_slice HO190.out; subst eo14))
      go_loopg [38] k (fun kq v38 w' => ∃ (x38_1 : Int), v38 = .int .i64 x38_1 ∧ Aside0 (arrearslaw10_LevelOnly.l0 kq a0 a2 t188 t193 t194 t188 (t188.length : Int) x38_1 = some r) ∧ Aside0 (kq ≤ k) ∧ Aside0 (Kd.R k38 38 w' w.heap.size (fun _ => True) (.slice Ao14 t188.length co14) t188) ∧ Aside0 (Kd.R k38 38 w' w.heap.size (fun _ => True) (.slice Ao14 t188.length co14) t188) ∧ Aside0 (w'.heap[gb186]? = some (.cells #[.int .u32 a1_0, .int .u8 a1_1] 25 (0, 0))) ∧ Aside0 (Below w.heap.size w w'))
      case atStart => exact ⟨(0), (by first | rfl | (simp; done) | (simp [*]; done)), H', ⟨Nat.le_refl _⟩, ⟨by (with_reducible repeat (first | apply Kd.R_alloc | apply Kd.R_drewN | apply Kd.R_drew)); exact HO190.out⟩, ⟨by (with_reducible repeat (first | apply Kd.R_alloc | apply Kd.R_drewN | apply Kd.R_drew)); exact HO190.out⟩, ⟨by (with_reducible repeat (first | refine blk_drewN ?_ _ | refine blk_drew ?_ | refine blk_alloc ?_ _)); exact BK186.out⟩, ⟨by repeat (first | (with_reducible first | exact HB.out | apply below_alloc | apply pw_below_drewN | apply below_drew1 | refine below_set ?_ GE186.out) | exact HB.out)⟩⟩
      case round =>
        clear H'
        try clear c1
        try clear q1
        try clear p2
        try clear c4
        try clear c5
        try clear c7
        try clear c10
        try clear c11
        try clear hcz10_0
        try clear hcz10_1
        try clear hcz12_0
        try clear hcz12_1
        try clear hfz10_0
        try clear hfz10_1
        try clear hfz12_0
        try clear hfz12_1
        try clear q192
        obtain ⟨x38_1, rfl, HA, HK1, HO_7, HO_36, BK186, HB⟩ := hrel
        cases gk with
        | zero => exact absurd HA.out (by simp [arrearslaw10_LevelOnly.l0])
        | succ k1 =>
          have H := HA.out
          clear HA
          simp only [arrearslaw10_LevelOnly.l0] at H
          by_cases c15 : x38_1 < (t188.length : Int)
          · rw [if_pos c15] at H
            have c15b0 : decide (x38_1 < (t188.length : Int)) = true := decide_eq_true c15
            clear c15
            by_cases c16 : 0 ≤ x38_1
            · rw [if_pos c16] at H
              have c16b0 : decide (0 ≤ x38_1) = true := decide_eq_true c16
              clear c16
              by_cases c17 : x38_1 < (t188.length : Int)
              · rw [if_pos c17] at H
                have c17b0 : decide (x38_1 < (t188.length : Int)) = true := decide_eq_true c17
                clear c17
                by_cases c18 : ((rd_T38 t188 x38_1).f0) = t193
                · rw [if_pos c18] at H
                  have c18b0 : (((rd_T38 t188 x38_1).f0) == t193) = true := beq_iff_eq.mpr c18
                  have c18b1 : (((rd_T38 t188 x38_1).f0) != t193) = false := bne_eq_false_iff_eq.mpr c18
                  clear c18
                  by_cases c19 : (x38_1 = (wrap64 (a2 - 1)))
                  · rw [if_pos c19] at H
                    have c19b0 : (x38_1 == (wrap64 (a2 - 1))) = true := beq_iff_eq.mpr c19
                    have c19b1 : (x38_1 != (wrap64 (a2 - 1))) = false := bne_eq_false_iff_eq.mpr c19
                    clear c19
                    by_cases c20 : x38_1 = (wrap64 (a2 - 1))
                    · rw [if_pos c20] at H
                      have c20b0 : (x38_1 == (wrap64 (a2 - 1))) = true := beq_iff_eq.mpr c20
                      have c20b1 : (x38_1 != (wrap64 (a2 - 1))) = false := bne_eq_false_iff_eq.mpr c20
                      clear c20
                      by_cases c21 : ((rd_T38 t188 x38_1).f1) = a0
                      · rw [if_pos c21] at H
                        have c21b0 : (((rd_T38 t188 x38_1).f1) == a0) = true := beq_iff_eq.mpr c21
                        have c21b1 : (((rd_T38 t188 x38_1).f1) != a0) = false := bne_eq_false_iff_eq.mpr c21
                        clear c21
                        by_cases c22 : ((rd_T38 t188 x38_1).f2) = 0
                        · rw [if_pos c22] at H
                          have c22b0 : (((rd_T38 t188 x38_1).f2) == 0) = true := beq_iff_eq.mpr c22
                          have c22b1 : (((rd_T38 t188 x38_1).f2) != 0) = false := bne_eq_false_iff_eq.mpr c22
                          clear c22
                          have H' := Aside0.mk H
                          clear H
                          have p195 : 0 ≤ (x38_1 : Int) := of_decide_eq_true (by first | (with_reducible assumption) | assumption)
                          have q195 : x38_1 < (t188.length : Int) := of_decide_eq_true (by first | (with_reducible assumption) | assumption)
                          obtain ⟨ad195, e195, hx195_0, hx195_1, hx195_2⟩ := at_T38 (Kd.R_reads' HO_36.out).2.2 x38_1 p195 q195
                          cases e195
                          replace p195 := eq_true p195
                          replace q195 := eq_true q195
                          go_wp2_with (first | ((with_reducible refine gate_dst (N := 12) rfl ?_); (try (refine gate_guard (by rfl) ?_; dsimp only)); refine box_event ?hg (N := 12) ?hd (cs := #[.int .i64 0, .int .i64 0, .int .i64 0]) (t := 38) ?hr ?_; (case hd => rfl); (case hg => rfl); (case hr => first | (go_simp; done) | (go_simp; rfl)); intro gb196 hg w23 hbox hb; have n0_ := Aside0.mk (Kd.R_below (Kd.R_elderB (by (with_reducible repeat (first | apply Kd.R_alloc | apply Kd.R_drewN | apply Kd.R_drew)); exact HO_7.out) gb196 (Nat.le_of_eq hg.symm)) hb); have n1_ := Aside0.mk (Kd.R_below (Kd.R_elderB (by (with_reducible repeat (first | apply Kd.R_alloc | apply Kd.R_drewN | apply Kd.R_drew)); exact HO_36.out) gb196 (Nat.le_of_eq hg.symm)) hb); have n2_ := Aside0.mk (blk_below (g := gb186) (o := .cells #[.int .u32 a1_0, .int .u8 a1_1] 25 (0, 0)) (by (with_reducible repeat (first | refine blk_drewN ?_ _ | refine blk_drew ?_ | refine blk_alloc ?_ _)); exact BK186.out) hb); have n3_ := Aside0.mk (below_step (by repeat (first | (with_reducible first | exact HB.out | apply below_alloc | apply pw_below_drewN | apply below_drew1 | refine below_set ?_ GE186.out) | exact HB.out)) hb); have n4_ := Aside0.mk (hbox); have n5_ := Aside0.mk ((by rw [hg]; exact (below_size (by repeat (first | (with_reducible first | exact HB.out | apply below_alloc | apply pw_below_drewN | apply below_drew1 | refine below_set ?_ GE186.out) | exact HB.out))) : w.heap.size ≤ gb196)); have n6_ := Aside0.mk ((by rw [hg]; exact (below_size (by repeat (first | (with_reducible first | exact HB.out | apply below_alloc | apply pw_below_drewN | apply below_drew1 | refine below_set ?_ GE186.out) | exact HB.out))) : w.heap.size ≤ gb196)); have n7_ := Aside0.mk ((by rw [hg]; exact Nat.ne_of_lt (blk_lt (g := gb186) (o := .cells #[.int .u32 a1_0, .int .u8 a1_1] 25 (0, 0)) (by (with_reducible repeat (first | refine blk_drewN ?_ _ | refine blk_drew ?_ | refine blk_alloc ?_ _)); exact BK186.out)) : gb186 ≠ gb196)); have n8_ := Aside0.mk ((by rw [hg]; exact Nat.ne_of_gt (blk_lt (g := gb186) (o := .cells #[.int .u32 a1_0, .int .u8 a1_1] 25 (0, 0)) (by (with_reducible repeat (first | refine blk_drewN ?_ _ | refine blk_drew ?_ | refine blk_alloc ?_ _)); exact BK186.out)) : gb196 ≠ gb186)); clear HO_7; clear HO_36; clear BK186; clear HB; have HO_7 := n0_; have HO_36 := n1_; have BK186 := n2_; have HB := n3_; have BK196 := n4_; have GW196 := n5_; have GE196 := n6_; have NB186_196 := n7_; have NB196_186 := n8_; clear n0_ n1_ n2_ n3_ n4_ n5_ n6_ n7_ n8_; clear hb hbox hg; have hnb24 := NB196_186.out; have hnc24 := NB186_196.out; have hcz25_0 : w23.cell? ⟨gb196, 0, none⟩ = some (.int .i64 0) := (blk_cell BK196.out 0).trans rfl; have hcz25_1 : w23.cell? ⟨gb196, 1, none⟩ = some (.int .i64 0) := (blk_cell BK196.out 1).trans rfl; have hcz25_2 : w23.cell? ⟨gb196, 2, none⟩ = some (.int .i64 0) := (blk_cell BK196.out 2).trans rfl; have hfz25_0 := blk_frozen BK196.out 0; have hfz25_1 := blk_frozen BK196.out 1; have hfz25_2 := blk_frozen BK196.out 2))
                          go_roundg k1
                          case measure => have := HK1.out; omega
                          case rel => exact ⟨(wrap64 (x38_1 + 1)), (by first | rfl | (simp; done) | (simp [*]; done)), H', ⟨by have := HK1.out; omega⟩, ⟨by (with_reducible repeat (first | apply Kd.R_alloc | apply Kd.R_drewN | apply Kd.R_drew)); exact Kd.R_mono (Kd.R_far (p := ⟨gb196, 2, none⟩) (Kd.R_far (p := ⟨gb196, 1, none⟩) (Kd.R_far (p := ⟨gb196, 0, none⟩) (Kd.R_mono HO_7.out (fun k_ hk => (⟨hk, hk.2⟩ : _ ∧ k_ ≠ gb196))) (fun _ hk => hk.2) (.int .i64 ((rd_T38 t188 x38_1).f0))) (fun _ hk => hk.2) (.int .i64 ((rd_T38 t188 x38_1).f1))) (fun _ hk => hk.2) (.int .i64 ((rd_T38 t188 x38_1).f2))) (fun _ hk => trivial)⟩, ⟨by (with_reducible repeat (first | apply Kd.R_alloc | apply Kd.R_drewN | apply Kd.R_drew)); exact Kd.R_mono (Kd.R_far (p := ⟨gb196, 2, none⟩) (Kd.R_far (p := ⟨gb196, 1, none⟩) (Kd.R_far (p := ⟨gb196, 0, none⟩) (Kd.R_mono HO_36.out (fun k_ hk => (⟨hk, hk.2⟩ : _ ∧ k_ ≠ gb196))) (fun _ hk => hk.2) (.int .i64 ((rd_T38 t188 x38_1).f0))) (fun _ hk => hk.2) (.int .i64 ((rd_T38 t188 x38_1).f1))) (fun _ hk => hk.2) (.int .i64 ((rd_T38 t188 x38_1).f2))) (fun _ hk => trivial)⟩, ⟨by (with_reducible repeat (first | refine blk_drewN ?_ _ | refine blk_drew ?_ | refine blk_alloc ?_ _)); refine blk_far ?_ NB186_196.out _; (with_reducible repeat (first | refine blk_drewN ?_ _ | refine blk_drew ?_ | refine blk_alloc ?_ _)); refine blk_far ?_ NB186_196.out _; (with_reducible repeat (first | refine blk_drewN ?_ _ | refine blk_drew ?_ | refine blk_alloc ?_ _)); refine blk_far ?_ NB186_196.out _; (with_reducible repeat (first | refine blk_drewN ?_ _ | refine blk_drew ?_ | refine blk_alloc ?_ _)); exact BK186.out⟩, ⟨by repeat (first | (with_reducible first | exact HB.out | apply below_alloc | apply pw_below_drewN | apply below_drew1 | refine below_set ?_ GE186.out | refine below_set ?_ GE196.out) | exact HB.out)⟩⟩
                        · rw [if_neg c22] at H
                          have c22b0 : (((rd_T38 t188 x38_1).f2) == 0) = false := beq_eq_false_iff_ne.mpr c22
                          have c22b1 : (((rd_T38 t188 x38_1).f2) != 0) = true := bne_iff_ne.mpr c22
                          obtain rfl := Option.some.inj H
                          have p195 : 0 ≤ (x38_1 : Int) := of_decide_eq_true (by first | (with_reducible assumption) | assumption)
                          have q195 : x38_1 < (t188.length : Int) := of_decide_eq_true (by first | (with_reducible assumption) | assumption)
                          obtain ⟨ad195, e195, hx195_0, hx195_1, hx195_2⟩ := at_T38 (Kd.R_reads' HO_36.out).2.2 x38_1 p195 q195
                          cases e195
                          replace p195 := eq_true p195
                          replace q195 := eq_true q195
                          go_wp2_with (first | ((with_reducible refine gate_dst (N := 12) rfl ?_); (try (refine gate_guard (by rfl) ?_; dsimp only)); refine box_event ?hg (N := 12) ?hd (cs := #[.int .i64 0, .int .i64 0, .int .i64 0]) (t := 38) ?hr ?_; (case hd => rfl); (case hg => rfl); (case hr => first | (go_simp; done) | (go_simp; rfl)); intro gb196 hg w26 hbox hb; have n0_ := Aside0.mk (Kd.R_below (Kd.R_elderB (by (with_reducible repeat (first | apply Kd.R_alloc | apply Kd.R_drewN | apply Kd.R_drew)); exact HO_7.out) gb196 (Nat.le_of_eq hg.symm)) hb); have n1_ := Aside0.mk (Kd.R_below (Kd.R_elderB (by (with_reducible repeat (first | apply Kd.R_alloc | apply Kd.R_drewN | apply Kd.R_drew)); exact HO_36.out) gb196 (Nat.le_of_eq hg.symm)) hb); have n2_ := Aside0.mk (blk_below (g := gb186) (o := .cells #[.int .u32 a1_0, .int .u8 a1_1] 25 (0, 0)) (by (with_reducible repeat (first | refine blk_drewN ?_ _ | refine blk_drew ?_ | refine blk_alloc ?_ _)); exact BK186.out) hb); have n3_ := Aside0.mk (below_step (by repeat (first | (with_reducible first | exact HB.out | apply below_alloc | apply pw_below_drewN | apply below_drew1 | refine below_set ?_ GE186.out) | exact HB.out)) hb); have n4_ := Aside0.mk (hbox); have n5_ := Aside0.mk ((by rw [hg]; exact (below_size (by repeat (first | (with_reducible first | exact HB.out | apply below_alloc | apply pw_below_drewN | apply below_drew1 | refine below_set ?_ GE186.out) | exact HB.out))) : w.heap.size ≤ gb196)); have n6_ := Aside0.mk ((by rw [hg]; exact (below_size (by repeat (first | (with_reducible first | exact HB.out | apply below_alloc | apply pw_below_drewN | apply below_drew1 | refine below_set ?_ GE186.out) | exact HB.out))) : w.heap.size ≤ gb196)); have n7_ := Aside0.mk ((by rw [hg]; exact Nat.ne_of_lt (blk_lt (g := gb186) (o := .cells #[.int .u32 a1_0, .int .u8 a1_1] 25 (0, 0)) (by (with_reducible repeat (first | refine blk_drewN ?_ _ | refine blk_drew ?_ | refine blk_alloc ?_ _)); exact BK186.out)) : gb186 ≠ gb196)); have n8_ := Aside0.mk ((by rw [hg]; exact Nat.ne_of_gt (blk_lt (g := gb186) (o := .cells #[.int .u32 a1_0, .int .u8 a1_1] 25 (0, 0)) (by (with_reducible repeat (first | refine blk_drewN ?_ _ | refine blk_drew ?_ | refine blk_alloc ?_ _)); exact BK186.out)) : gb196 ≠ gb186)); clear HO_7; clear HO_36; clear BK186; clear HB; have HO_7 := n0_; have HO_36 := n1_; have BK186 := n2_; have HB := n3_; have BK196 := n4_; have GW196 := n5_; have GE196 := n6_; have NB186_196 := n7_; have NB196_186 := n8_; clear n0_ n1_ n2_ n3_ n4_ n5_ n6_ n7_ n8_; clear hb hbox hg; have hnb27 := NB196_186.out; have hnc27 := NB186_196.out; have hcz28_0 : w26.cell? ⟨gb196, 0, none⟩ = some (.int .i64 0) := (blk_cell BK196.out 0).trans rfl; have hcz28_1 : w26.cell? ⟨gb196, 1, none⟩ = some (.int .i64 0) := (blk_cell BK196.out 1).trans rfl; have hcz28_2 : w26.cell? ⟨gb196, 2, none⟩ = some (.int .i64 0) := (blk_cell BK196.out 2).trans rfl; have hfz28_0 := blk_frozen BK196.out 0; have hfz28_1 := blk_frozen BK196.out 1; have hfz28_2 := blk_frozen BK196.out 2))
                          go_ret
                          exact ⟨by first | rfl | (simp [errW_none, errW_some] <;> rfl) | (simp [*, errW_none, errW_some] <;> rfl), by repeat (first | (with_reducible first | exact HB.out | apply below_alloc | apply pw_below_drewN | apply below_drew1 | refine below_set ?_ GE186.out | refine below_set ?_ GE196.out) | exact HB.out)⟩
                      · rw [if_neg c21] at H
                        have c21b0 : (((rd_T38 t188 x38_1).f1) == a0) = false := beq_eq_false_iff_ne.mpr c21
                        have c21b1 : (((rd_T38 t188 x38_1).f1) != a0) = true := bne_iff_ne.mpr c21
                        obtain rfl := Option.some.inj H
                        have p195 : 0 ≤ (x38_1 : Int) := of_decide_eq_true (by first | (with_reducible assumption) | assumption)
                        have q195 : x38_1 < (t188.length : Int) := of_decide_eq_true (by first | (with_reducible assumption) | assumption)
                        obtain ⟨ad195, e195, hx195_0, hx195_1, hx195_2⟩ := at_T38 (Kd.R_reads' HO_36.out).2.2 x38_1 p195 q195
                        cases e195
                        replace p195 := eq_true p195
                        replace q195 := eq_true q195
                        go_wp2_with (first | ((with_reducible refine gate_dst (N := 12) rfl ?_); (try (refine gate_guard (by rfl) ?_; dsimp only)); refine box_event ?hg (N := 12) ?hd (cs := #[.int .i64 0, .int .i64 0, .int .i64 0]) (t := 38) ?hr ?_; (case hd => rfl); (case hg => rfl); (case hr => first | (go_simp; done) | (go_simp; rfl)); intro gb196 hg w29 hbox hb; have n0_ := Aside0.mk (Kd.R_below (Kd.R_elderB (by (with_reducible repeat (first | apply Kd.R_alloc | apply Kd.R_drewN | apply Kd.R_drew)); exact HO_7.out) gb196 (Nat.le_of_eq hg.symm)) hb); have n1_ := Aside0.mk (Kd.R_below (Kd.R_elderB (by (with_reducible repeat (first | apply Kd.R_alloc | apply Kd.R_drewN | apply Kd.R_drew)); exact HO_36.out) gb196 (Nat.le_of_eq hg.symm)) hb); have n2_ := Aside0.mk (blk_below (g := gb186) (o := .cells #[.int .u32 a1_0, .int .u8 a1_1] 25 (0, 0)) (by (with_reducible repeat (first | refine blk_drewN ?_ _ | refine blk_drew ?_ | refine blk_alloc ?_ _)); exact BK186.out) hb); have n3_ := Aside0.mk (below_step (by repeat (first | (with_reducible first | exact HB.out | apply below_alloc | apply pw_below_drewN | apply below_drew1 | refine below_set ?_ GE186.out) | exact HB.out)) hb); have n4_ := Aside0.mk (hbox); have n5_ := Aside0.mk ((by rw [hg]; exact (below_size (by repeat (first | (with_reducible first | exact HB.out | apply below_alloc | apply pw_below_drewN | apply below_drew1 | refine below_set ?_ GE186.out) | exact HB.out))) : w.heap.size ≤ gb196)); have n6_ := Aside0.mk ((by rw [hg]; exact (below_size (by repeat (first | (with_reducible first | exact HB.out | apply below_alloc | apply pw_below_drewN | apply below_drew1 | refine below_set ?_ GE186.out) | exact HB.out))) : w.heap.size ≤ gb196)); have n7_ := Aside0.mk ((by rw [hg]; exact Nat.ne_of_lt (blk_lt (g := gb186) (o := .cells #[.int .u32 a1_0, .int .u8 a1_1] 25 (0, 0)) (by (with_reducible repeat (first | refine blk_drewN ?_ _ | refine blk_drew ?_ | refine blk_alloc ?_ _)); exact BK186.out)) : gb186 ≠ gb196)); have n8_ := Aside0.mk ((by rw [hg]; exact Nat.ne_of_gt (blk_lt (g := gb186) (o := .cells #[.int .u32 a1_0, .int .u8 a1_1] 25 (0, 0)) (by (with_reducible repeat (first | refine blk_drewN ?_ _ | refine blk_drew ?_ | refine blk_alloc ?_ _)); exact BK186.out)) : gb196 ≠ gb186)); clear HO_7; clear HO_36; clear BK186; clear HB; have HO_7 := n0_; have HO_36 := n1_; have BK186 := n2_; have HB := n3_; have BK196 := n4_; have GW196 := n5_; have GE196 := n6_; have NB186_196 := n7_; have NB196_186 := n8_; clear n0_ n1_ n2_ n3_ n4_ n5_ n6_ n7_ n8_; clear hb hbox hg; have hnb30 := NB196_186.out; have hnc30 := NB186_196.out; have hcz31_0 : w29.cell? ⟨gb196, 0, none⟩ = some (.int .i64 0) := (blk_cell BK196.out 0).trans rfl; have hcz31_1 : w29.cell? ⟨gb196, 1, none⟩ = some (.int .i64 0) := (blk_cell BK196.out 1).trans rfl; have hcz31_2 : w29.cell? ⟨gb196, 2, none⟩ = some (.int .i64 0) := (blk_cell BK196.out 2).trans rfl; have hfz31_0 := blk_frozen BK196.out 0; have hfz31_1 := blk_frozen BK196.out 1; have hfz31_2 := blk_frozen BK196.out 2))
                        go_ret
                        exact ⟨by first | rfl | (simp [errW_none, errW_some] <;> rfl) | (simp [*, errW_none, errW_some] <;> rfl), by repeat (first | (with_reducible first | exact HB.out | apply below_alloc | apply pw_below_drewN | apply below_drew1 | refine below_set ?_ GE186.out | refine below_set ?_ GE196.out) | exact HB.out)⟩
                    · first | exact absurd c19 c20 | exact absurd (beq_iff_eq.mp c19b0) c20 | exact absurd (of_decide_eq_true (by assumption)) c20 | exact absurd (by assumption) c20
                  · rw [if_neg c19] at H
                    have c19b0 : (x38_1 == (wrap64 (a2 - 1))) = false := beq_eq_false_iff_ne.mpr c19
                    have c19b1 : (x38_1 != (wrap64 (a2 - 1))) = true := bne_iff_ne.mpr c19
                    by_cases c35 : ((rd_T38 t188 x38_1).f1) = 0
                    · rw [if_pos c35] at H
                      have c35b0 : (((rd_T38 t188 x38_1).f1) == 0) = true := beq_iff_eq.mpr c35
                      have c35b1 : (((rd_T38 t188 x38_1).f1) != 0) = false := bne_eq_false_iff_eq.mpr c35
                      clear c35
                      by_cases c36 : ((rd_T38 t188 x38_1).f2) = a0
                      · rw [if_pos c36] at H
                        have c36b0 : (((rd_T38 t188 x38_1).f2) == a0) = true := beq_iff_eq.mpr c36
                        have c36b1 : (((rd_T38 t188 x38_1).f2) != a0) = false := bne_eq_false_iff_eq.mpr c36
                        clear c36
                        by_cases c37 : x38_1 = (wrap64 (a2 - 1))
                        · exact absurd c37 c19
                        · rw [if_neg c37] at H
                          have c37b0 : (x38_1 == (wrap64 (a2 - 1))) = false := beq_eq_false_iff_ne.mpr c37
                          have c37b1 : (x38_1 != (wrap64 (a2 - 1))) = true := bne_iff_ne.mpr c37
                          have H' := Aside0.mk H
                          clear H
                          have p195 : 0 ≤ (x38_1 : Int) := of_decide_eq_true (by first | (with_reducible assumption) | assumption)
                          have q195 : x38_1 < (t188.length : Int) := of_decide_eq_true (by first | (with_reducible assumption) | assumption)
                          obtain ⟨ad195, e195, hx195_0, hx195_1, hx195_2⟩ := at_T38 (Kd.R_reads' HO_36.out).2.2 x38_1 p195 q195
                          cases e195
                          replace p195 := eq_true p195
                          replace q195 := eq_true q195
                          go_wp2_with (first | ((with_reducible refine gate_dst (N := 12) rfl ?_); (try (refine gate_guard (by rfl) ?_; dsimp only)); refine box_event ?hg (N := 12) ?hd (cs := #[.int .i64 0, .int .i64 0, .int .i64 0]) (t := 38) ?hr ?_; (case hd => rfl); (case hg => rfl); (case hr => first | (go_simp; done) | (go_simp; rfl)); intro gb196 hg w49 hbox hb; have n0_ := Aside0.mk (Kd.R_below (Kd.R_elderB (by (with_reducible repeat (first | apply Kd.R_alloc | apply Kd.R_drewN | apply Kd.R_drew)); exact HO_7.out) gb196 (Nat.le_of_eq hg.symm)) hb); have n1_ := Aside0.mk (Kd.R_below (Kd.R_elderB (by (with_reducible repeat (first | apply Kd.R_alloc | apply Kd.R_drewN | apply Kd.R_drew)); exact HO_36.out) gb196 (Nat.le_of_eq hg.symm)) hb); have n2_ := Aside0.mk (blk_below (g := gb186) (o := .cells #[.int .u32 a1_0, .int .u8 a1_1] 25 (0, 0)) (by (with_reducible repeat (first | refine blk_drewN ?_ _ | refine blk_drew ?_ | refine blk_alloc ?_ _)); exact BK186.out) hb); have n3_ := Aside0.mk (below_step (by repeat (first | (with_reducible first | exact HB.out | apply below_alloc | apply pw_below_drewN | apply below_drew1 | refine below_set ?_ GE186.out) | exact HB.out)) hb); have n4_ := Aside0.mk (hbox); have n5_ := Aside0.mk ((by rw [hg]; exact (below_size (by repeat (first | (with_reducible first | exact HB.out | apply below_alloc | apply pw_below_drewN | apply below_drew1 | refine below_set ?_ GE186.out) | exact HB.out))) : w.heap.size ≤ gb196)); have n6_ := Aside0.mk ((by rw [hg]; exact (below_size (by repeat (first | (with_reducible first | exact HB.out | apply below_alloc | apply pw_below_drewN | apply below_drew1 | refine below_set ?_ GE186.out) | exact HB.out))) : w.heap.size ≤ gb196)); have n7_ := Aside0.mk ((by rw [hg]; exact Nat.ne_of_lt (blk_lt (g := gb186) (o := .cells #[.int .u32 a1_0, .int .u8 a1_1] 25 (0, 0)) (by (with_reducible repeat (first | refine blk_drewN ?_ _ | refine blk_drew ?_ | refine blk_alloc ?_ _)); exact BK186.out)) : gb186 ≠ gb196)); have n8_ := Aside0.mk ((by rw [hg]; exact Nat.ne_of_gt (blk_lt (g := gb186) (o := .cells #[.int .u32 a1_0, .int .u8 a1_1] 25 (0, 0)) (by (with_reducible repeat (first | refine blk_drewN ?_ _ | refine blk_drew ?_ | refine blk_alloc ?_ _)); exact BK186.out)) : gb196 ≠ gb186)); clear HO_7; clear HO_36; clear BK186; clear HB; have HO_7 := n0_; have HO_36 := n1_; have BK186 := n2_; have HB := n3_; have BK196 := n4_; have GW196 := n5_; have GE196 := n6_; have NB186_196 := n7_; have NB196_186 := n8_; clear n0_ n1_ n2_ n3_ n4_ n5_ n6_ n7_ n8_; clear hb hbox hg; have hnb50 := NB196_186.out; have hnc50 := NB186_196.out; have hcz51_0 : w49.cell? ⟨gb196, 0, none⟩ = some (.int .i64 0) := (blk_cell BK196.out 0).trans rfl; have hcz51_1 : w49.cell? ⟨gb196, 1, none⟩ = some (.int .i64 0) := (blk_cell BK196.out 1).trans rfl; have hcz51_2 : w49.cell? ⟨gb196, 2, none⟩ = some (.int .i64 0) := (blk_cell BK196.out 2).trans rfl; have hfz51_0 := blk_frozen BK196.out 0; have hfz51_1 := blk_frozen BK196.out 1; have hfz51_2 := blk_frozen BK196.out 2))
                          go_roundg k1
                          case measure => have := HK1.out; omega
                          case rel => exact ⟨(wrap64 (x38_1 + 1)), (by first | rfl | (simp; done) | (simp [*]; done)), H', ⟨by have := HK1.out; omega⟩, ⟨by (with_reducible repeat (first | apply Kd.R_alloc | apply Kd.R_drewN | apply Kd.R_drew)); exact Kd.R_mono (Kd.R_far (p := ⟨gb196, 2, none⟩) (Kd.R_far (p := ⟨gb196, 1, none⟩) (Kd.R_far (p := ⟨gb196, 0, none⟩) (Kd.R_mono HO_7.out (fun k_ hk => (⟨hk, hk.2⟩ : _ ∧ k_ ≠ gb196))) (fun _ hk => hk.2) (.int .i64 ((rd_T38 t188 x38_1).f0))) (fun _ hk => hk.2) (.int .i64 ((rd_T38 t188 x38_1).f1))) (fun _ hk => hk.2) (.int .i64 ((rd_T38 t188 x38_1).f2))) (fun _ hk => trivial)⟩, ⟨by (with_reducible repeat (first | apply Kd.R_alloc | apply Kd.R_drewN | apply Kd.R_drew)); exact Kd.R_mono (Kd.R_far (p := ⟨gb196, 2, none⟩) (Kd.R_far (p := ⟨gb196, 1, none⟩) (Kd.R_far (p := ⟨gb196, 0, none⟩) (Kd.R_mono HO_36.out (fun k_ hk => (⟨hk, hk.2⟩ : _ ∧ k_ ≠ gb196))) (fun _ hk => hk.2) (.int .i64 ((rd_T38 t188 x38_1).f0))) (fun _ hk => hk.2) (.int .i64 ((rd_T38 t188 x38_1).f1))) (fun _ hk => hk.2) (.int .i64 ((rd_T38 t188 x38_1).f2))) (fun _ hk => trivial)⟩, ⟨by (with_reducible repeat (first | refine blk_drewN ?_ _ | refine blk_drew ?_ | refine blk_alloc ?_ _)); refine blk_far ?_ NB186_196.out _; (with_reducible repeat (first | refine blk_drewN ?_ _ | refine blk_drew ?_ | refine blk_alloc ?_ _)); refine blk_far ?_ NB186_196.out _; (with_reducible repeat (first | refine blk_drewN ?_ _ | refine blk_drew ?_ | refine blk_alloc ?_ _)); refine blk_far ?_ NB186_196.out _; (with_reducible repeat (first | refine blk_drewN ?_ _ | refine blk_drew ?_ | refine blk_alloc ?_ _)); exact BK186.out⟩, ⟨by repeat (first | (with_reducible first | exact HB.out | apply below_alloc | apply pw_below_drewN | apply below_drew1 | refine below_set ?_ GE186.out | refine below_set ?_ GE196.out) | exact HB.out)⟩⟩
                      · rw [if_neg c36] at H
                        have c36b0 : (((rd_T38 t188 x38_1).f2) == a0) = false := beq_eq_false_iff_ne.mpr c36
                        have c36b1 : (((rd_T38 t188 x38_1).f2) != a0) = true := bne_iff_ne.mpr c36
                        obtain rfl := Option.some.inj H
                        have p195 : 0 ≤ (x38_1 : Int) := of_decide_eq_true (by first | (with_reducible assumption) | assumption)
                        have q195 : x38_1 < (t188.length : Int) := of_decide_eq_true (by first | (with_reducible assumption) | assumption)
                        obtain ⟨ad195, e195, hx195_0, hx195_1, hx195_2⟩ := at_T38 (Kd.R_reads' HO_36.out).2.2 x38_1 p195 q195
                        cases e195
                        replace p195 := eq_true p195
                        replace q195 := eq_true q195
                        go_wp2_with (first | ((with_reducible refine gate_dst (N := 12) rfl ?_); (try (refine gate_guard (by rfl) ?_; dsimp only)); refine box_event ?hg (N := 12) ?hd (cs := #[.int .i64 0, .int .i64 0, .int .i64 0]) (t := 38) ?hr ?_; (case hd => rfl); (case hg => rfl); (case hr => first | (go_simp; done) | (go_simp; rfl)); intro gb196 hg w52 hbox hb; have n0_ := Aside0.mk (Kd.R_below (Kd.R_elderB (by (with_reducible repeat (first | apply Kd.R_alloc | apply Kd.R_drewN | apply Kd.R_drew)); exact HO_7.out) gb196 (Nat.le_of_eq hg.symm)) hb); have n1_ := Aside0.mk (Kd.R_below (Kd.R_elderB (by (with_reducible repeat (first | apply Kd.R_alloc | apply Kd.R_drewN | apply Kd.R_drew)); exact HO_36.out) gb196 (Nat.le_of_eq hg.symm)) hb); have n2_ := Aside0.mk (blk_below (g := gb186) (o := .cells #[.int .u32 a1_0, .int .u8 a1_1] 25 (0, 0)) (by (with_reducible repeat (first | refine blk_drewN ?_ _ | refine blk_drew ?_ | refine blk_alloc ?_ _)); exact BK186.out) hb); have n3_ := Aside0.mk (below_step (by repeat (first | (with_reducible first | exact HB.out | apply below_alloc | apply pw_below_drewN | apply below_drew1 | refine below_set ?_ GE186.out) | exact HB.out)) hb); have n4_ := Aside0.mk (hbox); have n5_ := Aside0.mk ((by rw [hg]; exact (below_size (by repeat (first | (with_reducible first | exact HB.out | apply below_alloc | apply pw_below_drewN | apply below_drew1 | refine below_set ?_ GE186.out) | exact HB.out))) : w.heap.size ≤ gb196)); have n6_ := Aside0.mk ((by rw [hg]; exact (below_size (by repeat (first | (with_reducible first | exact HB.out | apply below_alloc | apply pw_below_drewN | apply below_drew1 | refine below_set ?_ GE186.out) | exact HB.out))) : w.heap.size ≤ gb196)); have n7_ := Aside0.mk ((by rw [hg]; exact Nat.ne_of_lt (blk_lt (g := gb186) (o := .cells #[.int .u32 a1_0, .int .u8 a1_1] 25 (0, 0)) (by (with_reducible repeat (first | refine blk_drewN ?_ _ | refine blk_drew ?_ | refine blk_alloc ?_ _)); exact BK186.out)) : gb186 ≠ gb196)); have n8_ := Aside0.mk ((by rw [hg]; exact Nat.ne_of_gt (blk_lt (g := gb186) (o := .cells #[.int .u32 a1_0, .int .u8 a1_1] 25 (0, 0)) (by (with_reducible repeat (first | refine blk_drewN ?_ _ | refine blk_drew ?_ | refine blk_alloc ?_ _)); exact BK186.out)) : gb196 ≠ gb186)); clear HO_7; clear HO_36; clear BK186; clear HB; have HO_7 := n0_; have HO_36 := n1_; have BK186 := n2_; have HB := n3_; have BK196 := n4_; have GW196 := n5_; have GE196 := n6_; have NB186_196 := n7_; have NB196_186 := n8_; clear n0_ n1_ n2_ n3_ n4_ n5_ n6_ n7_ n8_; clear hb hbox hg; have hnb53 := NB196_186.out; have hnc53 := NB186_196.out; have hcz54_0 : w52.cell? ⟨gb196, 0, none⟩ = some (.int .i64 0) := (blk_cell BK196.out 0).trans rfl; have hcz54_1 : w52.cell? ⟨gb196, 1, none⟩ = some (.int .i64 0) := (blk_cell BK196.out 1).trans rfl; have hcz54_2 : w52.cell? ⟨gb196, 2, none⟩ = some (.int .i64 0) := (blk_cell BK196.out 2).trans rfl; have hfz54_0 := blk_frozen BK196.out 0; have hfz54_1 := blk_frozen BK196.out 1; have hfz54_2 := blk_frozen BK196.out 2))
                        go_ret
                        exact ⟨by first | rfl | (simp [errW_none, errW_some] <;> rfl) | (simp [*, errW_none, errW_some] <;> rfl), by repeat (first | (with_reducible first | exact HB.out | apply below_alloc | apply pw_below_drewN | apply below_drew1 | refine below_set ?_ GE186.out | refine below_set ?_ GE196.out) | exact HB.out)⟩
                    · rw [if_neg c35] at H
                      have c35b0 : (((rd_T38 t188 x38_1).f1) == 0) = false := beq_eq_false_iff_ne.mpr c35
                      have c35b1 : (((rd_T38 t188 x38_1).f1) != 0) = true := bne_iff_ne.mpr c35
                      obtain rfl := Option.some.inj H
                      have p195 : 0 ≤ (x38_1 : Int) := of_decide_eq_true (by first | (with_reducible assumption) | assumption)
                      have q195 : x38_1 < (t188.length : Int) := of_decide_eq_true (by first | (with_reducible assumption) | assumption)
                      obtain ⟨ad195, e195, hx195_0, hx195_1, hx195_2⟩ := at_T38 (Kd.R_reads' HO_36.out).2.2 x38_1 p195 q195
                      cases e195
                      replace p195 := eq_true p195
                      replace q195 := eq_true q195
                      go_wp2_with (first | ((with_reducible refine gate_dst (N := 12) rfl ?_); (try (refine gate_guard (by rfl) ?_; dsimp only)); refine box_event ?hg (N := 12) ?hd (cs := #[.int .i64 0, .int .i64 0, .int .i64 0]) (t := 38) ?hr ?_; (case hd => rfl); (case hg => rfl); (case hr => first | (go_simp; done) | (go_simp; rfl)); intro gb196 hg w55 hbox hb; have n0_ := Aside0.mk (Kd.R_below (Kd.R_elderB (by (with_reducible repeat (first | apply Kd.R_alloc | apply Kd.R_drewN | apply Kd.R_drew)); exact HO_7.out) gb196 (Nat.le_of_eq hg.symm)) hb); have n1_ := Aside0.mk (Kd.R_below (Kd.R_elderB (by (with_reducible repeat (first | apply Kd.R_alloc | apply Kd.R_drewN | apply Kd.R_drew)); exact HO_36.out) gb196 (Nat.le_of_eq hg.symm)) hb); have n2_ := Aside0.mk (blk_below (g := gb186) (o := .cells #[.int .u32 a1_0, .int .u8 a1_1] 25 (0, 0)) (by (with_reducible repeat (first | refine blk_drewN ?_ _ | refine blk_drew ?_ | refine blk_alloc ?_ _)); exact BK186.out) hb); have n3_ := Aside0.mk (below_step (by repeat (first | (with_reducible first | exact HB.out | apply below_alloc | apply pw_below_drewN | apply below_drew1 | refine below_set ?_ GE186.out) | exact HB.out)) hb); have n4_ := Aside0.mk (hbox); have n5_ := Aside0.mk ((by rw [hg]; exact (below_size (by repeat (first | (with_reducible first | exact HB.out | apply below_alloc | apply pw_below_drewN | apply below_drew1 | refine below_set ?_ GE186.out) | exact HB.out))) : w.heap.size ≤ gb196)); have n6_ := Aside0.mk ((by rw [hg]; exact (below_size (by repeat (first | (with_reducible first | exact HB.out | apply below_alloc | apply pw_below_drewN | apply below_drew1 | refine below_set ?_ GE186.out) | exact HB.out))) : w.heap.size ≤ gb196)); have n7_ := Aside0.mk ((by rw [hg]; exact Nat.ne_of_lt (blk_lt (g := gb186) (o := .cells #[.int .u32 a1_0, .int .u8 a1_1] 25 (0, 0)) (by (with_reducible repeat (first | refine blk_drewN ?_ _ | refine blk_drew ?_ | refine blk_alloc ?_ _)); exact BK186.out)) : gb186 ≠ gb196)); have n8_ := Aside0.mk ((by rw [hg]; exact Nat.ne_of_gt (blk_lt (g := gb186) (o := .cells #[.int .u32 a1_0, .int .u8 a1_1] 25 (0, 0)) (by (with_reducible repeat (first | refine blk_drewN ?_ _ | refine blk_drew ?_ | refine blk_alloc ?_ _)); exact BK186.out)) : gb196 ≠ gb186)); clear HO_7; clear HO_36; clear BK186; clear HB; have HO_7 := n0_; have HO_36 := n1_; have BK186 := n2_; have HB := n3_; have BK196 := n4_; have GW196 := n5_; have GE196 := n6_; have NB186_196 := n7_; have NB196_186 := n8_; clear n0_ n1_ n2_ n3_ n4_ n5_ n6_ n7_ n8_; clear hb hbox hg; have hnb56 := NB196_186.out; have hnc56 := NB186_196.out; have hcz57_0 : w55.cell? ⟨gb196, 0, none⟩ = some (.int .i64 0) := (blk_cell BK196.out 0).trans rfl; have hcz57_1 : w55.cell? ⟨gb196, 1, none⟩ = some (.int .i64 0) := (blk_cell BK196.out 1).trans rfl; have hcz57_2 : w55.cell? ⟨gb196, 2, none⟩ = some (.int .i64 0) := (blk_cell BK196.out 2).trans rfl; have hfz57_0 := blk_frozen BK196.out 0; have hfz57_1 := blk_frozen BK196.out 1; have hfz57_2 := blk_frozen BK196.out 2))
                      go_ret
                      exact ⟨by first | rfl | (simp [errW_none, errW_some] <;> rfl) | (simp [*, errW_none, errW_some] <;> rfl), by repeat (first | (with_reducible first | exact HB.out | apply below_alloc | apply pw_below_drewN | apply below_drew1 | refine below_set ?_ GE186.out | refine below_set ?_ GE196.out) | exact HB.out)⟩
                · rw [if_neg c18] at H
                  have c18b0 : (((rd_T38 t188 x38_1).f0) == t193) = false := beq_eq_false_iff_ne.mpr c18
                  have c18b1 : (((rd_T38 t188 x38_1).f0) != t193) = true := bne_iff_ne.mpr c18
                  obtain rfl := Option.some.inj H
                  have p195 : 0 ≤ (x38_1 : Int) := of_decide_eq_true (by first | (with_reducible assumption) | assumption)
                  have q195 : x38_1 < (t188.length : Int) := of_decide_eq_true (by first | (with_reducible assumption) | assumption)
                  obtain ⟨ad195, e195, hx195_0, hx195_1, hx195_2⟩ := at_T38 (Kd.R_reads' HO_36.out).2.2 x38_1 p195 q195
                  cases e195
                  replace p195 := eq_true p195
                  replace q195 := eq_true q195
                  go_wp2_with (first | ((with_reducible refine gate_dst (N := 12) rfl ?_); (try (refine gate_guard (by rfl) ?_; dsimp only)); refine box_event ?hg (N := 12) ?hd (cs := #[.int .i64 0, .int .i64 0, .int .i64 0]) (t := 38) ?hr ?_; (case hd => rfl); (case hg => rfl); (case hr => first | (go_simp; done) | (go_simp; rfl)); intro gb196 hg w58 hbox hb; have n0_ := Aside0.mk (Kd.R_below (Kd.R_elderB (by (with_reducible repeat (first | apply Kd.R_alloc | apply Kd.R_drewN | apply Kd.R_drew)); exact HO_7.out) gb196 (Nat.le_of_eq hg.symm)) hb); have n1_ := Aside0.mk (Kd.R_below (Kd.R_elderB (by (with_reducible repeat (first | apply Kd.R_alloc | apply Kd.R_drewN | apply Kd.R_drew)); exact HO_36.out) gb196 (Nat.le_of_eq hg.symm)) hb); have n2_ := Aside0.mk (blk_below (g := gb186) (o := .cells #[.int .u32 a1_0, .int .u8 a1_1] 25 (0, 0)) (by (with_reducible repeat (first | refine blk_drewN ?_ _ | refine blk_drew ?_ | refine blk_alloc ?_ _)); exact BK186.out) hb); have n3_ := Aside0.mk (below_step (by repeat (first | (with_reducible first | exact HB.out | apply below_alloc | apply pw_below_drewN | apply below_drew1 | refine below_set ?_ GE186.out) | exact HB.out)) hb); have n4_ := Aside0.mk (hbox); have n5_ := Aside0.mk ((by rw [hg]; exact (below_size (by repeat (first | (with_reducible first | exact HB.out | apply below_alloc | apply pw_below_drewN | apply below_drew1 | refine below_set ?_ GE186.out) | exact HB.out))) : w.heap.size ≤ gb196)); have n6_ := Aside0.mk ((by rw [hg]; exact (below_size (by repeat (first | (with_reducible first | exact HB.out | apply below_alloc | apply pw_below_drewN | apply below_drew1 | refine below_set ?_ GE186.out) | exact HB.out))) : w.heap.size ≤ gb196)); have n7_ := Aside0.mk ((by rw [hg]; exact Nat.ne_of_lt (blk_lt (g := gb186) (o := .cells #[.int .u32 a1_0, .int .u8 a1_1] 25 (0, 0)) (by (with_reducible repeat (first | refine blk_drewN ?_ _ | refine blk_drew ?_ | refine blk_alloc ?_ _)); exact BK186.out)) : gb186 ≠ gb196)); have n8_ := Aside0.mk ((by rw [hg]; exact Nat.ne_of_gt (blk_lt (g := gb186) (o := .cells #[.int .u32 a1_0, .int .u8 a1_1] 25 (0, 0)) (by (with_reducible repeat (first | refine blk_drewN ?_ _ | refine blk_drew ?_ | refine blk_alloc ?_ _)); exact BK186.out)) : gb196 ≠ gb186)); clear HO_7; clear HO_36; clear BK186; clear HB; have HO_7 := n0_; have HO_36 := n1_; have BK186 := n2_; have HB := n3_; have BK196 := n4_; have GW196 := n5_; have GE196 := n6_; have NB186_196 := n7_; have NB196_186 := n8_; clear n0_ n1_ n2_ n3_ n4_ n5_ n6_ n7_ n8_; clear hb hbox hg; have hnb59 := NB196_186.out; have hnc59 := NB186_196.out; have hcz60_0 : w58.cell? ⟨gb196, 0, none⟩ = some (.int .i64 0) := (blk_cell BK196.out 0).trans rfl; have hcz60_1 : w58.cell? ⟨gb196, 1, none⟩ = some (.int .i64 0) := (blk_cell BK196.out 1).trans rfl; have hcz60_2 : w58.cell? ⟨gb196, 2, none⟩ = some (.int .i64 0) := (blk_cell BK196.out 2).trans rfl; have hfz60_0 := blk_frozen BK196.out 0; have hfz60_1 := blk_frozen BK196.out 1; have hfz60_2 := blk_frozen BK196.out 2))
                  go_ret
                  exact ⟨by first | rfl | (simp [errW_none, errW_some] <;> rfl) | (simp [*, errW_none, errW_some] <;> rfl), by repeat (first | (with_reducible first | exact HB.out | apply below_alloc | apply pw_below_drewN | apply below_drew1 | refine below_set ?_ GE186.out | refine below_set ?_ GE196.out) | exact HB.out)⟩
              · first | exact absurd c15 c17 | exact absurd (beq_iff_eq.mp c15b0) c17 | exact absurd (of_decide_eq_true (by assumption)) c17 | exact absurd (by assumption) c17
            · rw [if_neg c16] at H
              exact absurd H (by simp)
          · rw [if_neg c15] at H
            have c15b0 : decide (x38_1 < (t188.length : Int)) = false := decide_eq_false c15
            clear c15
            rcases t194 with _ | q197
            · have H1 : (some ((t188.length : Int) == a2)) = some r := by rw [if_pos (show (none : Option Int).isNone = true by rfl)] at H; exact H
              clear H
              have H := H1
              clear H1
              try simp only [errW_none, errW_some]
              obtain rfl := Option.some.inj H
              go_wp2
              go_ret
              exact ⟨by first | rfl | (simp [errW_none, errW_some] <;> rfl) | (simp [*, errW_none, errW_some] <;> rfl), by repeat (first | (with_reducible first | exact HB.out | apply below_alloc | apply pw_below_drewN | apply below_drew1 | refine below_set ?_ GE186.out) | exact HB.out)⟩
            · have H1 : (some false) = some r := by rw [if_neg (show ¬ (some q197).isNone = true by simp)] at H; exact H
              clear H
              have H := H1
              clear H1
              try simp only [errW_none, errW_some]
              obtain rfl := Option.some.inj H
              go_wp2
              go_ret
              exact ⟨by first | rfl | (simp [errW_none, errW_some] <;> rfl) | (simp [*, errW_none, errW_some] <;> rfl), by repeat (first | (with_reducible first | exact HB.out | apply below_alloc | apply pw_below_drewN | apply below_drew1 | refine below_set ?_ GE186.out) | exact HB.out)⟩
    · have H1 : ((arrearslaw10_right.f a0 a1_0 a1_1 a2).bind fun t198 => (some (!t198))) = some r := by rw [if_neg (show ¬ (some q192).isNone = true by simp)] at H; exact H
      clear H
      have H := H1
      clear H1
      try simp only [errW_none, errW_some]
      replace H := Option.bind_eq_some_iff.mp H
      obtain ⟨t198, A610, H⟩ := H
      replace H : (some (!t198)) = some r := H
      have A61 := Aside0.mk A610
      clear A610
      obtain rfl := Option.some.inj H
      go_enter Try.func4, Try.ntmps4
      go_wp2_with (first | ((with_reducible refine gate_dst (N := 4) rfl ?_); (try (refine gate_guard (by rfl) ?_; dsimp only)); refine box_event ?hg (N := 4) ?hd (cs := #[.int .u32 a1_0, .int .u8 a1_1]) (t := 25) ?hr ?_; (case hd => rfl); (case hg => rfl); (case hr => first | (go_simp; done) | (go_simp; rfl)); intro gb186 hg w62 hbox hb; have n0_ := Aside0.mk (below_step (by repeat (first | (with_reducible first | exact HB.out | apply below_alloc | apply pw_below_drewN | apply below_drew1) | exact HB.out)) hb); have n1_ := Aside0.mk (hbox); have n2_ := Aside0.mk ((by rw [hg]; exact (below_size (by repeat (first | (with_reducible first | exact HB.out | apply below_alloc | apply pw_below_drewN | apply below_drew1) | exact HB.out))) : w.heap.size ≤ gb186)); have n3_ := Aside0.mk ((by rw [hg]; exact (below_size (by repeat (first | (with_reducible first | exact HB.out | apply below_alloc | apply pw_below_drewN | apply below_drew1) | exact HB.out))) : w.heap.size ≤ gb186)); clear HB; have HB := n0_; have BK186 := n1_; have GW186 := n2_; have GE186 := n3_; clear n0_ n1_ n2_ n3_; clear hb hbox hg) | ((with_reducible refine gate_callee (f := 7) rfl ?_); refine goesL_ (some 14) rfl rfl Try.func7 (by kernel_rfl) rfl #[] rfl (by (try simp only [List.map_toArray, List.map_cons, List.map_nil]); first | done | rfl | (simp only [List.length_drop, List.length_take]; rfl)) ?_; (with_reducible refine (arrearslaw10_awake.calls k  true _ A4.out).mono ?_); rintro e w63 ⟨rfl, hb⟩; refine ⟨_, rfl, ?_⟩; have n0_ := Aside0.mk (blk_below (g := gb186) (o := .cells #[.int .u32 a1_0, .int .u8 a1_1] 25 (0, 0)) (by (with_reducible repeat (first | refine blk_drewN ?_ _ | refine blk_drew ?_ | refine blk_alloc ?_ _)); exact BK186.out) hb); have n1_ := Aside0.mk (below_step (by repeat (first | (with_reducible first | exact HB.out | apply below_alloc | apply pw_below_drewN | apply below_drew1 | refine below_set ?_ GE186.out) | exact HB.out)) hb); clear BK186; clear HB; have BK186 := n0_; have HB := n1_; clear n0_ n1_; (try clear hb); (try clear hb2); (try clear hk); (try clear hi); have hcz64_0 : w63.cell? ⟨gb186, 0, none⟩ = some (.int .u32 a1_0) := (blk_cell BK186.out 0).trans rfl; have hcz64_1 : w63.cell? ⟨gb186, 1, none⟩ = some (.int .u8 a1_1) := (blk_cell BK186.out 1).trans rfl; have hfz64_0 := blk_frozen BK186.out 0; have hfz64_1 := blk_frozen BK186.out 1) | ((with_reducible refine gate_callee (f := 10) rfl ?_); refine goesL_ (some 20) rfl rfl Try.func10 (by kernel_rfl) rfl #[.int .u8 2, .int .i64 a0, .agg #[.int .u32 a1_0, .int .u8 a1_1], .int .i64 a2] rfl (by (try simp only [List.map_toArray, List.map_cons, List.map_nil]); first | done | rfl | (simp only [List.length_drop, List.length_take]; rfl)) ?_; (with_reducible refine (level_Rows.calls k 2 a0 a1_0 a1_1 a2 t188 (some q192) _ A6.out).mono ?_); rintro e w65 ⟨v189, rfl, ho0, hb⟩; refine ⟨_, rfl, ?_⟩; have n0_ := Aside0.mk (Kd.R_lower ho0 (below_size (by repeat (first | (with_reducible first | exact HB.out | apply below_alloc | apply pw_below_drewN | apply below_drew1 | refine below_set ?_ GE186.out) | exact HB.out)))); have n1_ := Aside0.mk (blk_below (g := gb186) (o := .cells #[.int .u32 a1_0, .int .u8 a1_1] 25 (0, 0)) (by (with_reducible repeat (first | refine blk_drewN ?_ _ | refine blk_drew ?_ | refine blk_alloc ?_ _)); exact BK186.out) hb); have n2_ := Aside0.mk (below_step (by repeat (first | (with_reducible first | exact HB.out | apply below_alloc | apply pw_below_drewN | apply below_drew1 | refine below_set ?_ GE186.out) | exact HB.out)) hb); clear BK186; clear HB; have HO190 := n0_; have BK186 := n1_; have HB := n2_; clear n0_ n1_ n2_; (try clear hb); (try clear hb2); (try clear hk); (try clear hi); (try clear ho0); (try simp only [errW_none, errW_some]); have hcz66_0 : w65.cell? ⟨gb186, 0, none⟩ = some (.int .u32 a1_0) := (blk_cell BK186.out 0).trans rfl; have hcz66_1 : w65.cell? ⟨gb186, 1, none⟩ = some (.int .u8 a1_1) := (blk_cell BK186.out 1).trans rfl; have hfz66_0 := blk_frozen BK186.out 0; have hfz66_1 := blk_frozen BK186.out 1) | ((with_reducible refine gate_callee (f := 8) rfl ?_); refine goesL_ (some 28) rfl rfl Try.func8 (by kernel_rfl) rfl #[.int .i64 a0, .agg #[.int .u32 a1_0, .int .u8 a1_1], .int .i64 a2] rfl (by (try simp only [List.map_toArray, List.map_cons, List.map_nil]); first | done | rfl | (simp only [List.length_drop, List.length_take]; rfl)) ?_; (with_reducible refine (arrearslaw10_right.calls a0 a1_0 a1_1 a2 t198 _ A61.out).mono ?_); rintro e w67 ⟨rfl, hb⟩; refine ⟨_, rfl, ?_⟩; have n0_ := Aside0.mk (Kd.R_below (by (with_reducible repeat (first | apply Kd.R_alloc | apply Kd.R_drewN | apply Kd.R_drew)); exact HO190.out) hb); have n1_ := Aside0.mk (blk_below (g := gb186) (o := .cells #[.int .u32 a1_0, .int .u8 a1_1] 25 (0, 0)) (by (with_reducible repeat (first | refine blk_drewN ?_ _ | refine blk_drew ?_ | refine blk_alloc ?_ _)); exact BK186.out) hb); have n2_ := Aside0.mk (below_step (by repeat (first | (with_reducible first | exact HB.out | apply below_alloc | apply pw_below_drewN | apply below_drew1 | refine below_set ?_ GE186.out) | exact HB.out)) hb); clear HO190; clear BK186; clear HB; have HO190 := n0_; have BK186 := n1_; have HB := n2_; clear n0_ n1_ n2_; (try clear hb); (try clear hb2); (try clear hk); (try clear hi)))
      go_ret
      exact ⟨by first | rfl | (simp [errW_none, errW_some] <;> rfl) | (simp [*, errW_none, errW_some] <;> rfl), by repeat (first | (with_reducible first | exact HB.out | apply below_alloc | apply pw_below_drewN | apply below_drew1 | refine below_set ?_ GE186.out) | exact HB.out)⟩
  · replace c5 := Bool.eq_false_iff.mpr c5
    subst c5
    have H1 : (some false) = some r := by rw [if_neg (show ¬ (false = true) by decide)] at H; exact H
    clear H
    have H := H1
    clear H1
    obtain rfl := Option.some.inj H
    go_enter Try.func4, Try.ntmps4
    go_wp2_with (first | ((with_reducible refine gate_dst (N := 4) rfl ?_); (try (refine gate_guard (by rfl) ?_; dsimp only)); refine box_event ?hg (N := 4) ?hd (cs := #[.int .u32 a1_0, .int .u8 a1_1]) (t := 25) ?hr ?_; (case hd => rfl); (case hg => rfl); (case hr => first | (go_simp; done) | (go_simp; rfl)); intro gb186 hg w68 hbox hb; have n0_ := Aside0.mk (below_step (by repeat (first | (with_reducible first | exact HB.out | apply below_alloc | apply pw_below_drewN | apply below_drew1) | exact HB.out)) hb); have n1_ := Aside0.mk (hbox); have n2_ := Aside0.mk ((by rw [hg]; exact (below_size (by repeat (first | (with_reducible first | exact HB.out | apply below_alloc | apply pw_below_drewN | apply below_drew1) | exact HB.out))) : w.heap.size ≤ gb186)); have n3_ := Aside0.mk ((by rw [hg]; exact (below_size (by repeat (first | (with_reducible first | exact HB.out | apply below_alloc | apply pw_below_drewN | apply below_drew1) | exact HB.out))) : w.heap.size ≤ gb186)); clear HB; have HB := n0_; have BK186 := n1_; have GW186 := n2_; have GE186 := n3_; clear n0_ n1_ n2_ n3_; clear hb hbox hg) | ((with_reducible refine gate_callee (f := 7) rfl ?_); refine goesL_ (some 14) rfl rfl Try.func7 (by kernel_rfl) rfl #[] rfl (by (try simp only [List.map_toArray, List.map_cons, List.map_nil]); first | done | rfl | (simp only [List.length_drop, List.length_take]; rfl)) ?_; (with_reducible refine (arrearslaw10_awake.calls k  false _ A4.out).mono ?_); rintro e w69 ⟨rfl, hb⟩; refine ⟨_, rfl, ?_⟩; have n0_ := Aside0.mk (blk_below (g := gb186) (o := .cells #[.int .u32 a1_0, .int .u8 a1_1] 25 (0, 0)) (by (with_reducible repeat (first | refine blk_drewN ?_ _ | refine blk_drew ?_ | refine blk_alloc ?_ _)); exact BK186.out) hb); have n1_ := Aside0.mk (below_step (by repeat (first | (with_reducible first | exact HB.out | apply below_alloc | apply pw_below_drewN | apply below_drew1 | refine below_set ?_ GE186.out) | exact HB.out)) hb); clear BK186; clear HB; have BK186 := n0_; have HB := n1_; clear n0_ n1_; (try clear hb); (try clear hb2); (try clear hk); (try clear hi)))
    go_ret
    exact ⟨by first | rfl | (simp [errW_none, errW_some] <;> rfl) | (simp [*, errW_none, errW_some] <;> rfl), by repeat (first | (with_reducible first | exact HB.out | apply below_alloc | apply pw_below_drewN | apply below_drew1 | refine below_set ?_ GE186.out) | exact HB.out)⟩

end Go.Proofs.Ytoclgoknednjgaa.PLevelOnly
