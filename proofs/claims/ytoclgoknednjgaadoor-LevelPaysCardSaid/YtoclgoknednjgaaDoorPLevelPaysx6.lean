-- Printed by a wrapper of this session's round the kit's print.py; Lean checks it.
import Derived.Test.YtoclgoknednjgaaDoorPLevelPaysx0
import Derived.Test.YtoclgoknednjgaaDoorPLevelPaysx3
import Derived.Test.YtoclgoknednjgaaDoorPLevelPaysx4
import Derived.Test.YtoclgoknednjgaaDoorPLevelPaysx5
namespace Go.Proofs.YtoclgoknednjgaaDoor.PLevelPays
open Go.RowKit Go.Proofs.YtoclgoknednjgaaDoorW.PrintWords Go.Proofs.YtoclgoknednjgaaDoorW.PrintLast Go.Proofs.YtoclgoknednjgaaDoorW.PrintMore
attribute [local go_sem] max2_int min2_int max_two min_two max_three min_three max_four min_four   -- for this text's walks alone
set_option linter.unusedVariables false
set_option linter.unusedSimpArgs false

/-! ### arrearsref10_Left: function 9 -/
mutual
def arrearsref10_Left.l0 : Nat → Int → Int → Int → Int → Int → Bool → Option (Int)
  | 0, _, _, _, _, _, _ => none
  | k + 1, x0, x2, x3, x9, x211000, x211001 => if x9 < x2 then (arrearsref10_Left.j1 k x0 x2 x3 x9 (decide (x0 > 0)) x211000 x211001) else (arrearsref10_Left.j1 k x0 x2 x3 x9 false x211000 x211001)
def arrearsref10_Left.j1 : Nat → Int → Int → Int → Int → Bool → Int → Bool → Option (Int)
  | 0, _, _, _, _, _, _, _ => none
  | k + 1, x0, x2, x3, x9, x17, x211000, x211001 => if x17 = true then ((arrearsref09_Month.f x211000 x211001 x0).bind fun t211 => (if x3 ≥ (wrap64 (x0 + t211)) then (some 0) else (if (wrap64 ((wrap64 (x0 + t211)) - x3)) ≥ x0 then (some x0) else (arrearsref10_Left.l0 k (wrap64 ((wrap64 (x0 + t211)) - x3)) x2 x3 (wrap64 (x9 + 1)) x211000 x211001)))) else (some x0)
end
def arrearsref10_Left.f (k : Nat) (a0 : Int) (a1_0 : Int) (a1_1 : Bool) (a2 : Int) (a3 : Int) : Option (Int) := arrearsref10_Left.l0 k a0 a2 a3 0 a1_0 a1_1
theorem arrearsref10_Left.mono_l : ∀ k, (∀ y0 y1 y2 y3 y4 y5, LeO (arrearsref10_Left.l0 k y0 y1 y2 y3 y4 y5) (arrearsref10_Left.l0 (k + 1) y0 y1 y2 y3 y4 y5)) ∧ (∀ y0 y1 y2 y3 y4 y5 y6, LeO (arrearsref10_Left.j1 k y0 y1 y2 y3 y4 y5 y6) (arrearsref10_Left.j1 (k + 1) y0 y1 y2 y3 y4 y5 y6))
  | 0 => ⟨fun _ _ _ _ _ _ r h => by simp [arrearsref10_Left.l0] at h, fun _ _ _ _ _ _ _ r h => by simp [arrearsref10_Left.j1] at h⟩
  | k + 1 => by
    obtain ⟨ih0, ih1⟩ := arrearsref10_Left.mono_l k
    refine ⟨?_, ?_⟩
    · intro y0 y1 y2 y3 y4 y5
      unfold arrearsref10_Left.l0
      repeat' first
      | (with_reducible exact ih0 _ _ _ _ _ _)
      | (with_reducible exact ih1 _ _ _ _ _ _ _)
      | (with_reducible exact LeO.refl _)
      | (with_reducible exact LeO.none _)
      | (with_reducible refine LeO.ite ?_ ?_)
      | (with_reducible refine LeO.bind ?_ (fun _ => ?_))
      | exact ih0 _ _ _ _ _ _
      | exact ih1 _ _ _ _ _ _ _
      | exact LeO.none _
      | refine LeO.ite ?_ ?_
      | refine LeO.bind ?_ (fun _ => ?_)
    · intro y0 y1 y2 y3 y4 y5 y6
      unfold arrearsref10_Left.j1
      repeat' first
      | (with_reducible exact ih0 _ _ _ _ _ _)
      | (with_reducible exact ih1 _ _ _ _ _ _ _)
      | (with_reducible exact LeO.refl _)
      | (with_reducible exact LeO.none _)
      | (with_reducible refine LeO.ite ?_ ?_)
      | (with_reducible refine LeO.bind ?_ (fun _ => ?_))
      | exact ih0 _ _ _ _ _ _
      | exact ih1 _ _ _ _ _ _ _
      | exact LeO.none _
      | refine LeO.ite ?_ ?_
      | refine LeO.bind ?_ (fun _ => ?_)
theorem arrearsref10_Left.mono : ∀ a0 a1 a2 a3 a4 k, LeO (arrearsref10_Left.f k a0 a1 a2 a3 a4) (arrearsref10_Left.f (k + 1) a0 a1 a2 a3 a4) := by
  intro a0 a1 a2 a3 a4 k
  obtain ⟨ih0, ih1⟩ := arrearsref10_Left.mono_l k
  unfold arrearsref10_Left.f
  repeat' first
      | (with_reducible exact ih0 _ _ _ _ _ _)
      | (with_reducible exact ih1 _ _ _ _ _ _ _)
      | (with_reducible exact LeO.refl _)
      | (with_reducible exact LeO.none _)
      | (with_reducible refine LeO.ite ?_ ?_)
      | (with_reducible refine LeO.bind ?_ (fun _ => ?_))
      | exact ih0 _ _ _ _ _ _
      | exact ih1 _ _ _ _ _ _ _
      | exact LeO.none _
      | refine LeO.ite ?_ ?_
      | refine LeO.bind ?_ (fun _ => ?_)
set_option maxHeartbeats 8000000 in
set_option maxRecDepth 100000 in
theorem arrearsref10_Left.calls (k : Nat) (a0 : Int) (a1_0 : Int) (a1_1 : Bool) (a2 : Int) (a3 : Int) (r : Int) (w : World) (h : arrearsref10_Left.f k a0 a1_0 a1_1 a2 a3 = some r) :
    Calls Tryd.prog 9 #[.int .i64 a0, .agg #[.int .u32 a1_0, .bool a1_1], .int .i64 a2, .int .i64 a3] w fun e w' => e = .returned (.int .i64 r) ∧ Below w.heap.size w w' := by
  have hu36 := Tryd.underlying36
  have HB := Aside0.mk (Below.refl w.heap.size w)
  have H : (arrearsref10_Left.l0 k a0 a2 a3 0 a1_0 a1_1) = some r := h
  clear h
  have H' := Aside0.mk H
  clear H
  go_enter Tryd.func9, Tryd.ntmps9
  go_wp2_with (first | ((with_reducible refine gate_dst (N := 5) rfl ?_); refine box_event ?hg (N := 5) ?hd (cs := #[.int .u32 a1_0, .bool a1_1]) (t := 36) ?hr ?_; (case hd => rfl); (case hg => rfl); (case hr => first | (go_simp; done) | (go_simp; rfl)); intro gb210 hg w5 hbox hb; have n0_ := Aside0.mk (below_step (by repeat (first | (with_reducible first | exact HB.out | apply below_alloc | apply pw_below_drewN | apply below_drew1) | exact HB.out)) hb); have n1_ := Aside0.mk (hbox); have n2_ := Aside0.mk ((by rw [hg]; exact (below_size (by repeat (first | (with_reducible first | exact HB.out | apply below_alloc | apply pw_below_drewN | apply below_drew1) | exact HB.out))) : w.heap.size ≤ gb210)); have n3_ := Aside0.mk ((by rw [hg]; exact (below_size (by repeat (first | (with_reducible first | exact HB.out | apply below_alloc | apply pw_below_drewN | apply below_drew1) | exact HB.out))) : w.heap.size ≤ gb210)); clear HB; have HB := n0_; have BK210 := n1_; have GW210 := n2_; have GE210 := n3_; clear n0_ n1_ n2_ n3_; clear hb hbox hg))
  go_loopg [0, 9] k (fun kq v0 v9 w' => ∃ (x0_1 : Int) (x9_1 : Int), v0 = .int .i64 x0_1 ∧ v9 = .int .i64 x9_1 ∧ Aside0 (arrearsref10_Left.l0 kq x0_1 a2 a3 x9_1 a1_0 a1_1 = some r) ∧ Aside0 (kq ≤ k) ∧ Aside0 (w'.heap[gb210]? = some (.cells #[.int .u32 a1_0, .bool a1_1] 36 (0, 0))) ∧ Aside0 (Below w.heap.size w w'))
  case atStart => exact ⟨(a0), (0), (by first | rfl | (simp; done) | (simp [*]; done)), (by first | rfl | (simp; done) | (simp [*]; done)), H', ⟨Nat.le_refl _⟩, ⟨by (with_reducible repeat (first | refine blk_drewN ?_ _ | refine blk_drew ?_ | refine blk_alloc ?_ _)); exact BK210.out⟩, ⟨by repeat (first | (with_reducible first | exact HB.out | apply below_alloc | apply pw_below_drewN | apply below_drew1 | refine below_set ?_ GE210.out) | exact HB.out)⟩⟩
  case round =>
    clear H'
    try clear p2
    obtain ⟨x0_1, x9_1, rfl, rfl, HA, HK1, BK210, HB⟩ := hrel
    cases gk with
    | zero => exact absurd HA.out (by simp [arrearsref10_Left.l0])
    | succ k1 =>
      have H := HA.out
      clear HA
      simp only [arrearsref10_Left.l0] at H
      have HC6 := Aside0.mk H
      clear H
      go_upto_region 2 with (fail)
      go_cut [17] (fun v17 wc => ∃ (kq : Nat) (x17_5 : Bool), v17 = .bool x17_5 ∧ Aside0 (arrearsref10_Left.j1 kq x0_1 a2 a3 x9_1 x17_5 a1_0 a1_1 = some r) ∧ Aside0 (kq ≤ k1) ∧ Aside0 (wc.heap[gb210]? = some (.cells #[.int .u32 a1_0, .bool a1_1] 36 (0, 0))) ∧ Aside0 (Below w.heap.size w wc))
      case first =>
        have H := HC6.out
        clear HC6
        by_cases c7 : x9_1 < a2
        · rw [if_pos c7] at H
          have c7b0 : decide (x9_1 < a2) = true := decide_eq_true c7
          clear c7
          (first | rw [c7b0] | (simp only [i64_w, i32_w]; rw [c7b0]) | skip)
          have H' := Aside0.mk H
          clear H
          go_wp2
          go_meet
          case rel => exact ⟨_, (decide (x0_1 > 0)), (by first | rfl | (simp; done) | (simp [*]; done)), H', ⟨by have := HK1.out; first | omega | exact Nat.le_refl _⟩, ⟨by (with_reducible repeat (first | refine blk_drewN ?_ _ | refine blk_drew ?_ | refine blk_alloc ?_ _)); exact BK210.out⟩, ⟨by repeat (first | (with_reducible first | exact HB.out | apply below_alloc | apply pw_below_drewN | apply below_drew1 | refine below_set ?_ GE210.out) | exact HB.out)⟩⟩
        · rw [if_neg c7] at H
          have c7b0 : decide (x9_1 < a2) = false := decide_eq_false c7
          clear c7
          (first | rw [c7b0] | (simp only [i64_w, i32_w]; rw [c7b0]) | skip)
          have H' := Aside0.mk H
          clear H
          go_wp2
          go_meet
          case rel => exact ⟨_, (false), (by first | rfl | (simp; done) | (simp [*]; done)), H', ⟨by have := HK1.out; first | omega | exact Nat.le_refl _⟩, ⟨by (with_reducible repeat (first | refine blk_drewN ?_ _ | refine blk_drew ?_ | refine blk_alloc ?_ _)); exact BK210.out⟩, ⟨by repeat (first | (with_reducible first | exact HB.out | apply below_alloc | apply pw_below_drewN | apply below_drew1 | refine below_set ?_ GE210.out) | exact HB.out)⟩⟩
      case rest =>
        clear HC6
        try clear p2
        try clear c7
        try clear c7b0
        try clear p2
        obtain ⟨kq, x17_5, rfl, HA, HJ5, BK210, HB⟩ := hcut
        cases kq with
        | zero => exact absurd HA.out (by simp [arrearsref10_Left.j1])
        | succ kj5 =>
          have H := HA.out
          clear HA
          simp only [arrearsref10_Left.j1] at H
          by_cases c8 : x17_5 = true
          · subst c8
            have H1 : ((arrearsref09_Month.f a1_0 a1_1 x0_1).bind fun t211 => (if a3 ≥ (wrap64 (x0_1 + t211)) then (some 0) else (if (wrap64 ((wrap64 (x0_1 + t211)) - a3)) ≥ x0_1 then (some x0_1) else (arrearsref10_Left.l0 kj5 (wrap64 ((wrap64 (x0_1 + t211)) - a3)) a2 a3 (wrap64 (x9_1 + 1)) a1_0 a1_1)))) = some r := by rw [if_pos rfl] at H; exact H
            clear H
            have H := H1
            clear H1
            replace H := Option.bind_eq_some_iff.mp H
            obtain ⟨t211, A90, H⟩ := H
            replace H : (if a3 ≥ (wrap64 (x0_1 + t211)) then (some 0) else (if (wrap64 ((wrap64 (x0_1 + t211)) - a3)) ≥ x0_1 then (some x0_1) else (arrearsref10_Left.l0 kj5 (wrap64 ((wrap64 (x0_1 + t211)) - a3)) a2 a3 (wrap64 (x9_1 + 1)) a1_0 a1_1))) = some r := H
            have A9 := Aside0.mk A90
            clear A90
            by_cases c10 : a3 ≥ (wrap64 (x0_1 + t211))
            · rw [if_pos c10] at H
              have c10b0 : decide ((wrap64 (x0_1 + t211)) ≤ a3) = true := decide_eq_true c10
              clear c10
              obtain rfl := Option.some.inj H
              have hcz11_0 : wc.cell? ⟨gb210, 0, none⟩ = some (.int .u32 a1_0) := (blk_cell BK210.out 0).trans rfl
              have hcz11_1 : wc.cell? ⟨gb210, 1, none⟩ = some (.bool a1_1) := (blk_cell BK210.out 1).trans rfl
              have hfz11_0 := blk_frozen BK210.out 0
              have hfz11_1 := blk_frozen BK210.out 1
              go_wp2_with (first | ((with_reducible refine gate_callee (f := 19) rfl ?_); refine goesL_ (some 23) rfl rfl Tryd.func19 (by kernel_rfl) rfl #[.agg #[.int .u32 a1_0, .bool a1_1], .int .i64 x0_1] rfl (by (try simp only [List.map_toArray, List.map_cons, List.map_nil]); first | done | rfl | (simp only [List.length_drop, List.length_take]; rfl)) ?_; (with_reducible refine (arrearsref09_Month.calls a1_0 a1_1 x0_1 t211 _ A9.out).mono ?_); rintro e w12 ⟨rfl, hb⟩; refine ⟨_, rfl, ?_⟩; have n0_ := Aside0.mk (blk_below (g := gb210) (o := .cells #[.int .u32 a1_0, .bool a1_1] 36 (0, 0)) (by (with_reducible repeat (first | refine blk_drewN ?_ _ | refine blk_drew ?_ | refine blk_alloc ?_ _)); exact BK210.out) hb); have n1_ := Aside0.mk (below_step (by repeat (first | (with_reducible first | exact HB.out | apply below_alloc | apply pw_below_drewN | apply below_drew1 | refine below_set ?_ GE210.out) | exact HB.out)) hb); clear BK210; clear HB; have BK210 := n0_; have HB := n1_; clear n0_ n1_; (try clear hb); (try clear hb2); (try clear hk); (try clear hi)))
              go_ret
              exact ⟨by first | rfl | (simp [errW_none, errW_some] <;> rfl) | (simp [*, errW_none, errW_some] <;> rfl), by repeat (first | (with_reducible first | exact HB.out | apply below_alloc | apply pw_below_drewN | apply below_drew1 | refine below_set ?_ GE210.out) | exact HB.out)⟩
            · rw [if_neg c10] at H
              have c10b0 : decide ((wrap64 (x0_1 + t211)) ≤ a3) = false := decide_eq_false c10
              clear c10
              by_cases c13 : (wrap64 ((wrap64 (x0_1 + t211)) - a3)) ≥ x0_1
              · rw [if_pos c13] at H
                have c13b0 : decide (x0_1 ≤ (wrap64 ((wrap64 (x0_1 + t211)) - a3))) = true := decide_eq_true c13
                clear c13
                obtain rfl := Option.some.inj H
                have hcz14_0 : wc.cell? ⟨gb210, 0, none⟩ = some (.int .u32 a1_0) := (blk_cell BK210.out 0).trans rfl
                have hcz14_1 : wc.cell? ⟨gb210, 1, none⟩ = some (.bool a1_1) := (blk_cell BK210.out 1).trans rfl
                have hfz14_0 := blk_frozen BK210.out 0
                have hfz14_1 := blk_frozen BK210.out 1
                go_wp2_with (first | ((with_reducible refine gate_callee (f := 19) rfl ?_); refine goesL_ (some 23) rfl rfl Tryd.func19 (by kernel_rfl) rfl #[.agg #[.int .u32 a1_0, .bool a1_1], .int .i64 x0_1] rfl (by (try simp only [List.map_toArray, List.map_cons, List.map_nil]); first | done | rfl | (simp only [List.length_drop, List.length_take]; rfl)) ?_; (with_reducible refine (arrearsref09_Month.calls a1_0 a1_1 x0_1 t211 _ A9.out).mono ?_); rintro e w15 ⟨rfl, hb⟩; refine ⟨_, rfl, ?_⟩; have n0_ := Aside0.mk (blk_below (g := gb210) (o := .cells #[.int .u32 a1_0, .bool a1_1] 36 (0, 0)) (by (with_reducible repeat (first | refine blk_drewN ?_ _ | refine blk_drew ?_ | refine blk_alloc ?_ _)); exact BK210.out) hb); have n1_ := Aside0.mk (below_step (by repeat (first | (with_reducible first | exact HB.out | apply below_alloc | apply pw_below_drewN | apply below_drew1 | refine below_set ?_ GE210.out) | exact HB.out)) hb); clear BK210; clear HB; have BK210 := n0_; have HB := n1_; clear n0_ n1_; (try clear hb); (try clear hb2); (try clear hk); (try clear hi)))
                go_ret
                exact ⟨by first | rfl | (simp [errW_none, errW_some] <;> rfl) | (simp [*, errW_none, errW_some] <;> rfl), by repeat (first | (with_reducible first | exact HB.out | apply below_alloc | apply pw_below_drewN | apply below_drew1 | refine below_set ?_ GE210.out) | exact HB.out)⟩
              · rw [if_neg c13] at H
                have c13b0 : decide (x0_1 ≤ (wrap64 ((wrap64 (x0_1 + t211)) - a3))) = false := decide_eq_false c13
                clear c13
                have H' := Aside0.mk H
                clear H
                have hcz16_0 : wc.cell? ⟨gb210, 0, none⟩ = some (.int .u32 a1_0) := (blk_cell BK210.out 0).trans rfl
                have hcz16_1 : wc.cell? ⟨gb210, 1, none⟩ = some (.bool a1_1) := (blk_cell BK210.out 1).trans rfl
                have hfz16_0 := blk_frozen BK210.out 0
                have hfz16_1 := blk_frozen BK210.out 1
                go_wp2_with (first | ((with_reducible refine gate_callee (f := 19) rfl ?_); refine goesL_ (some 23) rfl rfl Tryd.func19 (by kernel_rfl) rfl #[.agg #[.int .u32 a1_0, .bool a1_1], .int .i64 x0_1] rfl (by (try simp only [List.map_toArray, List.map_cons, List.map_nil]); first | done | rfl | (simp only [List.length_drop, List.length_take]; rfl)) ?_; (with_reducible refine (arrearsref09_Month.calls a1_0 a1_1 x0_1 t211 _ A9.out).mono ?_); rintro e w17 ⟨rfl, hb⟩; refine ⟨_, rfl, ?_⟩; have n0_ := Aside0.mk (blk_below (g := gb210) (o := .cells #[.int .u32 a1_0, .bool a1_1] 36 (0, 0)) (by (with_reducible repeat (first | refine blk_drewN ?_ _ | refine blk_drew ?_ | refine blk_alloc ?_ _)); exact BK210.out) hb); have n1_ := Aside0.mk (below_step (by repeat (first | (with_reducible first | exact HB.out | apply below_alloc | apply pw_below_drewN | apply below_drew1 | refine below_set ?_ GE210.out) | exact HB.out)) hb); clear BK210; clear HB; have BK210 := n0_; have HB := n1_; clear n0_ n1_; (try clear hb); (try clear hb2); (try clear hk); (try clear hi)))
                go_roundg kj5
                case measure => have := HK1.out; have := HJ5.out; omega
                case rel => exact ⟨(wrap64 ((wrap64 (x0_1 + t211)) - a3)), (wrap64 (x9_1 + 1)), (by first | rfl | (simp; done) | (simp [*]; done)), (by first | rfl | (simp; done) | (simp [*]; done)), H', ⟨by have := HK1.out; have := HJ5.out; omega⟩, ⟨by (with_reducible repeat (first | refine blk_drewN ?_ _ | refine blk_drew ?_ | refine blk_alloc ?_ _)); exact BK210.out⟩, ⟨by repeat (first | (with_reducible first | exact HB.out | apply below_alloc | apply pw_below_drewN | apply below_drew1 | refine below_set ?_ GE210.out) | exact HB.out)⟩⟩
          · replace c8 := Bool.eq_false_iff.mpr c8
            subst c8
            have H1 : (some x0_1) = some r := by rw [if_neg (show ¬ (false = true) by decide)] at H; exact H
            clear H
            have H := H1
            clear H1
            obtain rfl := Option.some.inj H
            go_wp2
            go_ret
            exact ⟨by first | rfl | (simp [errW_none, errW_some] <;> rfl) | (simp [*, errW_none, errW_some] <;> rfl), by repeat (first | (with_reducible first | exact HB.out | apply below_alloc | apply pw_below_drewN | apply below_drew1 | refine below_set ?_ GE210.out) | exact HB.out)⟩

/-! ### arrearslaw10_own: function 10 -/
def arrearslaw10_own.f (a0_0 : Int) (a0_1 : Int) : Option (Int × Bool) := some (a0_0, (a0_1 == 2))
set_option maxHeartbeats 8000000 in
set_option maxRecDepth 100000 in
theorem arrearslaw10_own.calls (a0_0 : Int) (a0_1 : Int) (r1 : Int) (r2 : Bool) (w : World) (h : arrearslaw10_own.f a0_0 a0_1 = some (r1, r2)) :
    Calls Tryd.prog 10 #[.agg #[.int .u32 a0_0, .int .u8 a0_1]] w fun e w' => e = .returned (.agg #[.int .u32 r1, .bool r2]) ∧ Below w.heap.size w w' := by
  have hu25 := Tryd.underlying25
  have hu36 := Tryd.underlying36
  have HB := Aside0.mk (Below.refl w.heap.size w)
  have H : (some (a0_0, (a0_1 == 2))) = some (r1, r2) := h
  clear h
  simp only [Option.some.injEq, Prod.mk.injEq] at H
  obtain ⟨rfl, rfl⟩ := H
  go_enter Tryd.func10, Tryd.ntmps10
  go_wp2_with (first | ((with_reducible refine gate_dst (N := 1) rfl ?_); refine box_event ?hg (N := 1) ?hd (cs := #[.int .u32 a0_0, .int .u8 a0_1]) (t := 25) ?hr ?_; (case hd => rfl); (case hg => rfl); (case hr => first | (go_simp; done) | (go_simp; rfl)); intro gb212 hg w2 hbox hb; have n0_ := Aside0.mk (below_step (by repeat (first | (with_reducible first | exact HB.out | apply below_alloc | apply pw_below_drewN | apply below_drew1) | exact HB.out)) hb); have n1_ := Aside0.mk (hbox); have n2_ := Aside0.mk ((by rw [hg]; exact (below_size (by repeat (first | (with_reducible first | exact HB.out | apply below_alloc | apply pw_below_drewN | apply below_drew1) | exact HB.out))) : w.heap.size ≤ gb212)); have n3_ := Aside0.mk ((by rw [hg]; exact (below_size (by repeat (first | (with_reducible first | exact HB.out | apply below_alloc | apply pw_below_drewN | apply below_drew1) | exact HB.out))) : w.heap.size ≤ gb212)); clear HB; have HB := n0_; have BK212 := n1_; have GW212 := n2_; have GE212 := n3_; clear n0_ n1_ n2_ n3_; clear hb hbox hg) | ((with_reducible refine gate_dst (N := 2) rfl ?_); refine box_event ?hg (N := 2) ?hd (cs := #[.int .u32 0, .bool false]) (t := 36) ?hr ?_; (case hd => rfl); (case hg => rfl); (case hr => first | (go_simp; done) | (go_simp; rfl)); intro gb213 hg w3 hbox hb; have n0_ := Aside0.mk (blk_below (g := gb212) (o := .cells #[.int .u32 a0_0, .int .u8 a0_1] 25 (0, 0)) (by (with_reducible repeat (first | refine blk_drewN ?_ _ | refine blk_drew ?_ | refine blk_alloc ?_ _)); exact BK212.out) hb); have n1_ := Aside0.mk (below_step (by repeat (first | (with_reducible first | exact HB.out | apply below_alloc | apply pw_below_drewN | apply below_drew1 | refine below_set ?_ GE212.out) | exact HB.out)) hb); have n2_ := Aside0.mk (hbox); have n3_ := Aside0.mk ((by rw [hg]; exact (below_size (by repeat (first | (with_reducible first | exact HB.out | apply below_alloc | apply pw_below_drewN | apply below_drew1 | refine below_set ?_ GE212.out) | exact HB.out))) : w.heap.size ≤ gb213)); have n4_ := Aside0.mk ((by rw [hg]; exact (below_size (by repeat (first | (with_reducible first | exact HB.out | apply below_alloc | apply pw_below_drewN | apply below_drew1 | refine below_set ?_ GE212.out) | exact HB.out))) : w.heap.size ≤ gb213)); have n5_ := Aside0.mk ((by rw [hg]; exact Nat.ne_of_lt (blk_lt (g := gb212) (o := .cells #[.int .u32 a0_0, .int .u8 a0_1] 25 (0, 0)) (by (with_reducible repeat (first | refine blk_drewN ?_ _ | refine blk_drew ?_ | refine blk_alloc ?_ _)); exact BK212.out)) : gb212 ≠ gb213)); have n6_ := Aside0.mk ((by rw [hg]; exact Nat.ne_of_gt (blk_lt (g := gb212) (o := .cells #[.int .u32 a0_0, .int .u8 a0_1] 25 (0, 0)) (by (with_reducible repeat (first | refine blk_drewN ?_ _ | refine blk_drew ?_ | refine blk_alloc ?_ _)); exact BK212.out)) : gb213 ≠ gb212)); clear BK212; clear HB; have BK212 := n0_; have HB := n1_; have BK213 := n2_; have GW213 := n3_; have GE213 := n4_; have NB212_213 := n5_; have NB213_212 := n6_; clear n0_ n1_ n2_ n3_ n4_ n5_ n6_; clear hb hbox hg; have hnb4 := NB212_213.out; have hnc4 := NB213_212.out; have hcz5_0 : w3.cell? ⟨gb212, 0, none⟩ = some (.int .u32 a0_0) := (blk_cell BK212.out 0).trans rfl; have hcz5_1 : w3.cell? ⟨gb212, 1, none⟩ = some (.int .u8 a0_1) := (blk_cell BK212.out 1).trans rfl; have hfz5_0 := blk_frozen BK212.out 0; have hfz5_1 := blk_frozen BK212.out 1; have hcz6_0 : w3.cell? ⟨gb213, 0, none⟩ = some (.int .u32 0) := (blk_cell BK213.out 0).trans rfl; have hcz6_1 : w3.cell? ⟨gb213, 1, none⟩ = some (.bool false) := (blk_cell BK213.out 1).trans rfl; have hfz6_0 := blk_frozen BK213.out 0; have hfz6_1 := blk_frozen BK213.out 1))
  refine bodyPost_ret (results_cell_row rfl _ _ gb213 36 #[.int .u32 a0_0, .bool (a0_1 == 2)] (0, 0) _ rfl (by (with_reducible repeat (first | refine blk_drewN ?_ _ | refine blk_drew ?_ | refine blk_alloc ?_ _)); refine blk_put (cs := #[.int .u32 a0_0, .bool false]) ?_ 1 _ rfl; (with_reducible repeat (first | refine blk_drewN ?_ _ | refine blk_drew ?_ | refine blk_alloc ?_ _)); refine blk_put (cs := #[.int .u32 0, .bool false]) ?_ 0 _ rfl; (with_reducible repeat (first | refine blk_drewN ?_ _ | refine blk_drew ?_ | refine blk_alloc ?_ _)); exact BK213.out) Tryd.underlying36 rfl (by kernel_rfl)) rfl ?_
  exact ⟨by first | rfl | (simp [errW_none, errW_some] <;> rfl) | (simp [*, errW_none, errW_some] <;> rfl), by repeat (first | (with_reducible first | exact HB.out | apply below_alloc | apply pw_below_drewN | apply below_drew1 | refine below_set ?_ GE212.out | refine below_set ?_ GE213.out) | exact HB.out)⟩

/-! ### arrearslaw10_LevelPays: function 3 -/
def arrearslaw10_LevelPays.f (k : Nat) (a0 : Int) (a1_0 : Int) (a1_1 : Int) (a2 : Int) : Option (Bool) := (arrearslaw10_awake.f k).bind fun t215 => (if t215 = true then ((level_Payment.f k a0 a1_0 a1_1 a2).bind fun bt216 => ((arrearslaw10_right.f a0 a1_0 a1_1 a2).bind fun t218 => (if t218 = true then (if bt216.2.isNone = true then (if bt216.1 ≥ 1 then ((arrearslaw10_own.f a1_0 a1_1).bind fun bt221 => ((arrearsref10_Left.f k a0 bt221.1 bt221.2 a2 bt216.1).bind fun t223 => (if t223 = 0 then (if bt216.1 = 1 then (some true) else ((arrearslaw10_own.f a1_0 a1_1).bind fun bt224 => ((arrearsref10_Left.f k a0 bt224.1 bt224.2 a2 (wrap64 (bt216.1 - 1))).bind fun t226 => (some (decide (t226 > 0)))))) else (some false)))) else (some false)) else (some false)) else (if bt216.1 = 0 then ((api_Code.f bt216.2).bind fun t219 => (some (t219 == 1))) else (some false))))) else (some false))
theorem arrearslaw10_LevelPays.mono : ∀ a0 a1 a2 a3 k, LeO (arrearslaw10_LevelPays.f k a0 a1 a2 a3) (arrearslaw10_LevelPays.f (k + 1) a0 a1 a2 a3) := by
  intro a0 a1 a2 a3 k
  unfold arrearslaw10_LevelPays.f
  repeat' first
      | (with_reducible exact arrearslaw10_awake.mono _)
      | (with_reducible exact arrearsref10_Left.mono _ _ _ _ _ _)
      | (with_reducible exact level_Payment.mono _ _ _ _ _)
      | (with_reducible exact LeO.refl _)
      | (with_reducible exact LeO.none _)
      | (with_reducible refine LeO.ite ?_ ?_)
      | (with_reducible refine LeO.bind ?_ (fun _ => ?_))
      | exact arrearslaw10_awake.mono _
      | exact arrearsref10_Left.mono _ _ _ _ _ _
      | exact level_Payment.mono _ _ _ _ _
      | exact LeO.none _
      | refine LeO.ite ?_ ?_
      | refine LeO.bind ?_ (fun _ => ?_)
set_option maxHeartbeats 8000000 in
set_option maxRecDepth 100000 in
theorem arrearslaw10_LevelPays.calls (k : Nat) (a0 : Int) (a1_0 : Int) (a1_1 : Int) (a2 : Int) (r : Bool) (w : World) (hG : Go.Proofs.YtoclgoknednjgaaDoor.M.Laid w) (h : arrearslaw10_LevelPays.f k a0 a1_0 a1_1 a2 = some r) (hr : r = true) :
    Calls Tryd.prog 3 #[.int .i64 a0, .agg #[.int .u32 a1_0, .int .u8 a1_1], .int .i64 a2] w fun e w' => e = .returned (.bool r) ∧ Below w.heap.size w w' := by
  have hu25 := Tryd.underlying25
  have hu28 := Tryd.underlying28
  have hu32 := Tryd.underlying32
  have HB := Aside0.mk (Below.refl w.heap.size w)
  have HG := Aside0.mk hG
  clear hG
  have HR := Aside0.mk hr
  clear hr
  have H : ((arrearslaw10_awake.f k).bind fun t215 => (if t215 = true then ((level_Payment.f k a0 a1_0 a1_1 a2).bind fun bt216 => ((arrearslaw10_right.f a0 a1_0 a1_1 a2).bind fun t218 => (if t218 = true then (if bt216.2.isNone = true then (if bt216.1 ≥ 1 then ((arrearslaw10_own.f a1_0 a1_1).bind fun bt221 => ((arrearsref10_Left.f k a0 bt221.1 bt221.2 a2 bt216.1).bind fun t223 => (if t223 = 0 then (if bt216.1 = 1 then (some true) else ((arrearslaw10_own.f a1_0 a1_1).bind fun bt224 => ((arrearsref10_Left.f k a0 bt224.1 bt224.2 a2 (wrap64 (bt216.1 - 1))).bind fun t226 => (some (decide (t226 > 0)))))) else (some false)))) else (some false)) else (some false)) else (if bt216.1 = 0 then ((api_Code.f bt216.2).bind fun t219 => (some (t219 == 1))) else (some false))))) else (some false))) = some r := h
  clear h
  replace H := Option.bind_eq_some_iff.mp H
  obtain ⟨t215, A40, H⟩ := H
  replace H : (if t215 = true then ((level_Payment.f k a0 a1_0 a1_1 a2).bind fun bt216 => ((arrearslaw10_right.f a0 a1_0 a1_1 a2).bind fun t218 => (if t218 = true then (if bt216.2.isNone = true then (if bt216.1 ≥ 1 then ((arrearslaw10_own.f a1_0 a1_1).bind fun bt221 => ((arrearsref10_Left.f k a0 bt221.1 bt221.2 a2 bt216.1).bind fun t223 => (if t223 = 0 then (if bt216.1 = 1 then (some true) else ((arrearslaw10_own.f a1_0 a1_1).bind fun bt224 => ((arrearsref10_Left.f k a0 bt224.1 bt224.2 a2 (wrap64 (bt216.1 - 1))).bind fun t226 => (some (decide (t226 > 0)))))) else (some false)))) else (some false)) else (some false)) else (if bt216.1 = 0 then ((api_Code.f bt216.2).bind fun t219 => (some (t219 == 1))) else (some false))))) else (some false)) = some r := H
  have A4 := Aside0.mk A40
  clear A40
  by_cases c5 : t215 = true
  · subst c5
    have H1 : ((level_Payment.f k a0 a1_0 a1_1 a2).bind fun bt216 => ((arrearslaw10_right.f a0 a1_0 a1_1 a2).bind fun t218 => (if t218 = true then (if bt216.2.isNone = true then (if bt216.1 ≥ 1 then ((arrearslaw10_own.f a1_0 a1_1).bind fun bt221 => ((arrearsref10_Left.f k a0 bt221.1 bt221.2 a2 bt216.1).bind fun t223 => (if t223 = 0 then (if bt216.1 = 1 then (some true) else ((arrearslaw10_own.f a1_0 a1_1).bind fun bt224 => ((arrearsref10_Left.f k a0 bt224.1 bt224.2 a2 (wrap64 (bt216.1 - 1))).bind fun t226 => (some (decide (t226 > 0)))))) else (some false)))) else (some false)) else (some false)) else (if bt216.1 = 0 then ((api_Code.f bt216.2).bind fun t219 => (some (t219 == 1))) else (some false))))) = some r := by rw [if_pos rfl] at H; exact H
    clear H
    have H := H1
    clear H1
    replace H := Option.bind_eq_some_iff.mp H
    obtain ⟨⟨t216, t217⟩, A60, H⟩ := H
    replace H : ((arrearslaw10_right.f a0 a1_0 a1_1 a2).bind fun t218 => (if t218 = true then (if t217.isNone = true then (if t216 ≥ 1 then ((arrearslaw10_own.f a1_0 a1_1).bind fun bt221 => ((arrearsref10_Left.f k a0 bt221.1 bt221.2 a2 t216).bind fun t223 => (if t223 = 0 then (if t216 = 1 then (some true) else ((arrearslaw10_own.f a1_0 a1_1).bind fun bt224 => ((arrearsref10_Left.f k a0 bt224.1 bt224.2 a2 (wrap64 (t216 - 1))).bind fun t226 => (some (decide (t226 > 0)))))) else (some false)))) else (some false)) else (some false)) else (if t216 = 0 then ((api_Code.f t217).bind fun t219 => (some (t219 == 1))) else (some false)))) = some r := H
    have A6 := Aside0.mk A60
    clear A60
    replace H := Option.bind_eq_some_iff.mp H
    obtain ⟨t218, A70, H⟩ := H
    replace H : (if t218 = true then (if t217.isNone = true then (if t216 ≥ 1 then ((arrearslaw10_own.f a1_0 a1_1).bind fun bt221 => ((arrearsref10_Left.f k a0 bt221.1 bt221.2 a2 t216).bind fun t223 => (if t223 = 0 then (if t216 = 1 then (some true) else ((arrearslaw10_own.f a1_0 a1_1).bind fun bt224 => ((arrearsref10_Left.f k a0 bt224.1 bt224.2 a2 (wrap64 (t216 - 1))).bind fun t226 => (some (decide (t226 > 0)))))) else (some false)))) else (some false)) else (some false)) else (if t216 = 0 then ((api_Code.f t217).bind fun t219 => (some (t219 == 1))) else (some false))) = some r := H
    have A7 := Aside0.mk A70
    clear A70
    by_cases c8 : t218 = true
    · subst c8
      have H1 : (if t217.isNone = true then (if t216 ≥ 1 then ((arrearslaw10_own.f a1_0 a1_1).bind fun bt221 => ((arrearsref10_Left.f k a0 bt221.1 bt221.2 a2 t216).bind fun t223 => (if t223 = 0 then (if t216 = 1 then (some true) else ((arrearslaw10_own.f a1_0 a1_1).bind fun bt224 => ((arrearsref10_Left.f k a0 bt224.1 bt224.2 a2 (wrap64 (t216 - 1))).bind fun t226 => (some (decide (t226 > 0)))))) else (some false)))) else (some false)) else (some false)) = some r := by rw [if_pos rfl] at H; exact H
      clear H
      have H := H1
      clear H1
      rcases t217 with _ | q220
      · have H1 : (if t216 ≥ 1 then ((arrearslaw10_own.f a1_0 a1_1).bind fun bt221 => ((arrearsref10_Left.f k a0 bt221.1 bt221.2 a2 t216).bind fun t223 => (if t223 = 0 then (if t216 = 1 then (some true) else ((arrearslaw10_own.f a1_0 a1_1).bind fun bt224 => ((arrearsref10_Left.f k a0 bt224.1 bt224.2 a2 (wrap64 (t216 - 1))).bind fun t226 => (some (decide (t226 > 0)))))) else (some false)))) else (some false)) = some r := by rw [if_pos (show (none : Option Int).isNone = true by rfl)] at H; exact H
        clear H
        have H := H1
        clear H1
        try simp only [errW_none, errW_some]
        by_cases c9 : t216 ≥ 1
        · rw [if_pos c9] at H
          have c9b0 : decide (1 ≤ t216) = true := decide_eq_true c9
          clear c9
          replace H := Option.bind_eq_some_iff.mp H
          obtain ⟨⟨t221, t222⟩, A100, H⟩ := H
          replace H : ((arrearsref10_Left.f k a0 t221 t222 a2 t216).bind fun t223 => (if t223 = 0 then (if t216 = 1 then (some true) else ((arrearslaw10_own.f a1_0 a1_1).bind fun bt224 => ((arrearsref10_Left.f k a0 bt224.1 bt224.2 a2 (wrap64 (t216 - 1))).bind fun t226 => (some (decide (t226 > 0)))))) else (some false))) = some r := H
          have A10 := Aside0.mk A100
          clear A100
          replace H := Option.bind_eq_some_iff.mp H
          obtain ⟨t223, A110, H⟩ := H
          replace H : (if t223 = 0 then (if t216 = 1 then (some true) else ((arrearslaw10_own.f a1_0 a1_1).bind fun bt224 => ((arrearsref10_Left.f k a0 bt224.1 bt224.2 a2 (wrap64 (t216 - 1))).bind fun t226 => (some (decide (t226 > 0)))))) else (some false)) = some r := H
          have A11 := Aside0.mk A110
          clear A110
          by_cases c12 : t223 = 0
          · rw [if_pos c12] at H
            have c12b0 : (t223 == 0) = true := beq_iff_eq.mpr c12
            have c12b1 : (t223 != 0) = false := bne_eq_false_iff_eq.mpr c12
            clear c12
            by_cases c13 : t216 = 1
            · rw [if_pos c13] at H
              have c13b0 : (t216 == 1) = true := beq_iff_eq.mpr c13
              have c13b1 : (t216 != 1) = false := bne_eq_false_iff_eq.mpr c13
              clear c13
              obtain rfl := Option.some.inj H
              go_enter Tryd.func3, Tryd.ntmps3
              go_wp2_with (first | ((with_reducible refine gate_dst (N := 4) rfl ?_); refine box_event ?hg (N := 4) ?hd (cs := #[.int .u32 a1_0, .int .u8 a1_1]) (t := 25) ?hr ?_; (case hd => rfl); (case hg => rfl); (case hr => first | (go_simp; done) | (go_simp; rfl)); intro gb214 hg w14 hbox hb; have n0_ := Aside0.mk (below_step (by repeat (first | (with_reducible first | exact HB.out | apply below_alloc | apply pw_below_drewN | apply below_drew1) | exact HB.out)) hb); have n1_ := Aside0.mk (hbox); have n2_ := Aside0.mk ((by rw [hg]; exact (below_size (by repeat (first | (with_reducible first | exact HB.out | apply below_alloc | apply pw_below_drewN | apply below_drew1) | exact HB.out))) : w.heap.size ≤ gb214)); have n3_ := Aside0.mk ((by rw [hg]; exact (below_size (by repeat (first | (with_reducible first | exact HB.out | apply below_alloc | apply pw_below_drewN | apply below_drew1) | exact HB.out))) : w.heap.size ≤ gb214)); clear HB; have HB := n0_; have BK214 := n1_; have GW214 := n2_; have GE214 := n3_; clear n0_ n1_ n2_ n3_; clear hb hbox hg) | ((with_reducible refine gate_callee (f := 5) rfl ?_); refine goesL_ (some 9) rfl rfl Tryd.func5 (by kernel_rfl) rfl #[] rfl (by (try simp only [List.map_toArray, List.map_cons, List.map_nil]); first | done | rfl | (simp only [List.length_drop, List.length_take]; rfl)) ?_; (with_reducible refine (arrearslaw10_awake.calls k  true _ A4.out).mono ?_); rintro e w15 ⟨rfl, hb⟩; refine ⟨_, rfl, ?_⟩; have n0_ := Aside0.mk (blk_below (g := gb214) (o := .cells #[.int .u32 a1_0, .int .u8 a1_1] 25 (0, 0)) (by (with_reducible repeat (first | refine blk_drewN ?_ _ | refine blk_drew ?_ | refine blk_alloc ?_ _)); exact BK214.out) hb); have n1_ := Aside0.mk (below_step (by repeat (first | (with_reducible first | exact HB.out | apply below_alloc | apply pw_below_drewN | apply below_drew1 | refine below_set ?_ GE214.out) | exact HB.out)) hb); clear BK214; clear HB; have BK214 := n0_; have HB := n1_; clear n0_ n1_; (try clear hb); (try clear hb2); (try clear hk); (try clear hi); have hcz16_0 : w15.cell? ⟨gb214, 0, none⟩ = some (.int .u32 a1_0) := (blk_cell BK214.out 0).trans rfl; have hcz16_1 : w15.cell? ⟨gb214, 1, none⟩ = some (.int .u8 a1_1) := (blk_cell BK214.out 1).trans rfl; have hfz16_0 := blk_frozen BK214.out 0; have hfz16_1 := blk_frozen BK214.out 1) | ((with_reducible refine gate_callee (f := 6) rfl ?_); refine goesL_ (some 15) rfl rfl Tryd.func6 (by kernel_rfl) rfl #[.int .i64 a0, .agg #[.int .u32 a1_0, .int .u8 a1_1], .int .i64 a2] rfl (by (try simp only [List.map_toArray, List.map_cons, List.map_nil]); first | done | rfl | (simp only [List.length_drop, List.length_take]; rfl)) ?_; (with_reducible refine (level_Payment.calls k a0 a1_0 a1_1 a2 t216 none _ A6.out).mono ?_); rintro e w17 ⟨rfl, hb⟩; refine ⟨_, rfl, ?_⟩; have n0_ := Aside0.mk (blk_below (g := gb214) (o := .cells #[.int .u32 a1_0, .int .u8 a1_1] 25 (0, 0)) (by (with_reducible repeat (first | refine blk_drewN ?_ _ | refine blk_drew ?_ | refine blk_alloc ?_ _)); exact BK214.out) hb); have n1_ := Aside0.mk (below_step (by repeat (first | (with_reducible first | exact HB.out | apply below_alloc | apply pw_below_drewN | apply below_drew1 | refine below_set ?_ GE214.out) | exact HB.out)) hb); clear BK214; clear HB; have BK214 := n0_; have HB := n1_; clear n0_ n1_; (try clear hb); (try clear hb2); (try clear hk); (try clear hi); (try simp only [errW_none, errW_some]); have hcz18_0 : w17.cell? ⟨gb214, 0, none⟩ = some (.int .u32 a1_0) := (blk_cell BK214.out 0).trans rfl; have hcz18_1 : w17.cell? ⟨gb214, 1, none⟩ = some (.int .u8 a1_1) := (blk_cell BK214.out 1).trans rfl; have hfz18_0 := blk_frozen BK214.out 0; have hfz18_1 := blk_frozen BK214.out 1) | ((with_reducible refine gate_callee (f := 7) rfl ?_); refine goesL_ (some 21) rfl rfl Tryd.func7 (by kernel_rfl) rfl #[.int .i64 a0, .agg #[.int .u32 a1_0, .int .u8 a1_1], .int .i64 a2] rfl (by (try simp only [List.map_toArray, List.map_cons, List.map_nil]); first | done | rfl | (simp only [List.length_drop, List.length_take]; rfl)) ?_; (with_reducible refine (arrearslaw10_right.calls a0 a1_0 a1_1 a2 true _ A7.out).mono ?_); rintro e w19 ⟨rfl, hb⟩; refine ⟨_, rfl, ?_⟩; have n0_ := Aside0.mk (blk_below (g := gb214) (o := .cells #[.int .u32 a1_0, .int .u8 a1_1] 25 (0, 0)) (by (with_reducible repeat (first | refine blk_drewN ?_ _ | refine blk_drew ?_ | refine blk_alloc ?_ _)); exact BK214.out) hb); have n1_ := Aside0.mk (below_step (by repeat (first | (with_reducible first | exact HB.out | apply below_alloc | apply pw_below_drewN | apply below_drew1 | refine below_set ?_ GE214.out) | exact HB.out)) hb); clear BK214; clear HB; have BK214 := n0_; have HB := n1_; clear n0_ n1_; (try clear hb); (try clear hb2); (try clear hk); (try clear hi); have hcz20_0 : w19.cell? ⟨gb214, 0, none⟩ = some (.int .u32 a1_0) := (blk_cell BK214.out 0).trans rfl; have hcz20_1 : w19.cell? ⟨gb214, 1, none⟩ = some (.int .u8 a1_1) := (blk_cell BK214.out 1).trans rfl; have hfz20_0 := blk_frozen BK214.out 0; have hfz20_1 := blk_frozen BK214.out 1) | (go_at_call 10; (with_reducible refine (arrearslaw10_own.calls a1_0 a1_1 t221 t222 _ A10.out).mono ?_); rintro e w21 ⟨rfl, hb⟩; have n0_ := Aside0.mk (blk_below (g := gb214) (o := .cells #[.int .u32 a1_0, .int .u8 a1_1] 25 (0, 0)) (by (with_reducible repeat (first | refine blk_drewN ?_ _ | refine blk_drew ?_ | refine blk_alloc ?_ _)); exact BK214.out) hb); have n1_ := Aside0.mk (below_step (by repeat (first | (with_reducible first | exact HB.out | apply below_alloc | apply pw_below_drewN | apply below_drew1 | refine below_set ?_ GE214.out) | exact HB.out)) hb); clear BK214; clear HB; have BK214 := n0_; have HB := n1_; clear n0_ n1_; (try clear hb); (try clear hb2); (try clear hk); (try clear hi)) | (go_at_call 9; (with_reducible refine (arrearsref10_Left.calls k a0 t221 t222 a2 t216 t223 _ A11.out).mono ?_); rintro e w22 ⟨rfl, hb⟩; have n0_ := Aside0.mk (blk_below (g := gb214) (o := .cells #[.int .u32 a1_0, .int .u8 a1_1] 25 (0, 0)) (by (with_reducible repeat (first | refine blk_drewN ?_ _ | refine blk_drew ?_ | refine blk_alloc ?_ _)); exact BK214.out) hb); have n1_ := Aside0.mk (below_step (by repeat (first | (with_reducible first | exact HB.out | apply below_alloc | apply pw_below_drewN | apply below_drew1 | refine below_set ?_ GE214.out) | exact HB.out)) hb); clear BK214; clear HB; have BK214 := n0_; have HB := n1_; clear n0_ n1_; (try clear hb); (try clear hb2); (try clear hk); (try clear hi)))
              go_ret
              exact ⟨by first | rfl | (simp [errW_none, errW_some] <;> rfl) | (simp [*, errW_none, errW_some] <;> rfl), by repeat (first | (with_reducible first | exact HB.out | apply below_alloc | apply pw_below_drewN | apply below_drew1 | refine below_set ?_ GE214.out) | exact HB.out)⟩
            · rw [if_neg c13] at H
              have c13b0 : (t216 == 1) = false := beq_eq_false_iff_ne.mpr c13
              have c13b1 : (t216 != 1) = true := bne_iff_ne.mpr c13
              replace H := Option.bind_eq_some_iff.mp H
              obtain ⟨⟨t224, t225⟩, A230, H⟩ := H
              obtain ⟨rfl, rfl⟩ : t224 = t221 ∧ t225 = t222 := by have z_ := A230.symm.trans A10.out; simpa using z_
              replace H : ((arrearsref10_Left.f k a0 t224 t225 a2 (wrap64 (t216 - 1))).bind fun t226 => (some (decide (t226 > 0)))) = some r := H
              have A23 := Aside0.mk A230
              clear A230
              replace H := Option.bind_eq_some_iff.mp H
              obtain ⟨t226, A240, H⟩ := H
              replace H : (some (decide (t226 > 0))) = some r := H
              have A24 := Aside0.mk A240
              clear A240
              obtain rfl := Option.some.inj H
              go_enter Tryd.func3, Tryd.ntmps3
              go_wp2_with (first | ((with_reducible refine gate_dst (N := 4) rfl ?_); refine box_event ?hg (N := 4) ?hd (cs := #[.int .u32 a1_0, .int .u8 a1_1]) (t := 25) ?hr ?_; (case hd => rfl); (case hg => rfl); (case hr => first | (go_simp; done) | (go_simp; rfl)); intro gb214 hg w25 hbox hb; have n0_ := Aside0.mk (below_step (by repeat (first | (with_reducible first | exact HB.out | apply below_alloc | apply pw_below_drewN | apply below_drew1) | exact HB.out)) hb); have n1_ := Aside0.mk (hbox); have n2_ := Aside0.mk ((by rw [hg]; exact (below_size (by repeat (first | (with_reducible first | exact HB.out | apply below_alloc | apply pw_below_drewN | apply below_drew1) | exact HB.out))) : w.heap.size ≤ gb214)); have n3_ := Aside0.mk ((by rw [hg]; exact (below_size (by repeat (first | (with_reducible first | exact HB.out | apply below_alloc | apply pw_below_drewN | apply below_drew1) | exact HB.out))) : w.heap.size ≤ gb214)); clear HB; have HB := n0_; have BK214 := n1_; have GW214 := n2_; have GE214 := n3_; clear n0_ n1_ n2_ n3_; clear hb hbox hg) | ((with_reducible refine gate_callee (f := 5) rfl ?_); refine goesL_ (some 9) rfl rfl Tryd.func5 (by kernel_rfl) rfl #[] rfl (by (try simp only [List.map_toArray, List.map_cons, List.map_nil]); first | done | rfl | (simp only [List.length_drop, List.length_take]; rfl)) ?_; (with_reducible refine (arrearslaw10_awake.calls k  true _ A4.out).mono ?_); rintro e w26 ⟨rfl, hb⟩; refine ⟨_, rfl, ?_⟩; have n0_ := Aside0.mk (blk_below (g := gb214) (o := .cells #[.int .u32 a1_0, .int .u8 a1_1] 25 (0, 0)) (by (with_reducible repeat (first | refine blk_drewN ?_ _ | refine blk_drew ?_ | refine blk_alloc ?_ _)); exact BK214.out) hb); have n1_ := Aside0.mk (below_step (by repeat (first | (with_reducible first | exact HB.out | apply below_alloc | apply pw_below_drewN | apply below_drew1 | refine below_set ?_ GE214.out) | exact HB.out)) hb); clear BK214; clear HB; have BK214 := n0_; have HB := n1_; clear n0_ n1_; (try clear hb); (try clear hb2); (try clear hk); (try clear hi); have hcz27_0 : w26.cell? ⟨gb214, 0, none⟩ = some (.int .u32 a1_0) := (blk_cell BK214.out 0).trans rfl; have hcz27_1 : w26.cell? ⟨gb214, 1, none⟩ = some (.int .u8 a1_1) := (blk_cell BK214.out 1).trans rfl; have hfz27_0 := blk_frozen BK214.out 0; have hfz27_1 := blk_frozen BK214.out 1) | ((with_reducible refine gate_callee (f := 6) rfl ?_); refine goesL_ (some 15) rfl rfl Tryd.func6 (by kernel_rfl) rfl #[.int .i64 a0, .agg #[.int .u32 a1_0, .int .u8 a1_1], .int .i64 a2] rfl (by (try simp only [List.map_toArray, List.map_cons, List.map_nil]); first | done | rfl | (simp only [List.length_drop, List.length_take]; rfl)) ?_; (with_reducible refine (level_Payment.calls k a0 a1_0 a1_1 a2 t216 none _ A6.out).mono ?_); rintro e w28 ⟨rfl, hb⟩; refine ⟨_, rfl, ?_⟩; have n0_ := Aside0.mk (blk_below (g := gb214) (o := .cells #[.int .u32 a1_0, .int .u8 a1_1] 25 (0, 0)) (by (with_reducible repeat (first | refine blk_drewN ?_ _ | refine blk_drew ?_ | refine blk_alloc ?_ _)); exact BK214.out) hb); have n1_ := Aside0.mk (below_step (by repeat (first | (with_reducible first | exact HB.out | apply below_alloc | apply pw_below_drewN | apply below_drew1 | refine below_set ?_ GE214.out) | exact HB.out)) hb); clear BK214; clear HB; have BK214 := n0_; have HB := n1_; clear n0_ n1_; (try clear hb); (try clear hb2); (try clear hk); (try clear hi); (try simp only [errW_none, errW_some]); have hcz29_0 : w28.cell? ⟨gb214, 0, none⟩ = some (.int .u32 a1_0) := (blk_cell BK214.out 0).trans rfl; have hcz29_1 : w28.cell? ⟨gb214, 1, none⟩ = some (.int .u8 a1_1) := (blk_cell BK214.out 1).trans rfl; have hfz29_0 := blk_frozen BK214.out 0; have hfz29_1 := blk_frozen BK214.out 1) | ((with_reducible refine gate_callee (f := 7) rfl ?_); refine goesL_ (some 21) rfl rfl Tryd.func7 (by kernel_rfl) rfl #[.int .i64 a0, .agg #[.int .u32 a1_0, .int .u8 a1_1], .int .i64 a2] rfl (by (try simp only [List.map_toArray, List.map_cons, List.map_nil]); first | done | rfl | (simp only [List.length_drop, List.length_take]; rfl)) ?_; (with_reducible refine (arrearslaw10_right.calls a0 a1_0 a1_1 a2 true _ A7.out).mono ?_); rintro e w30 ⟨rfl, hb⟩; refine ⟨_, rfl, ?_⟩; have n0_ := Aside0.mk (blk_below (g := gb214) (o := .cells #[.int .u32 a1_0, .int .u8 a1_1] 25 (0, 0)) (by (with_reducible repeat (first | refine blk_drewN ?_ _ | refine blk_drew ?_ | refine blk_alloc ?_ _)); exact BK214.out) hb); have n1_ := Aside0.mk (below_step (by repeat (first | (with_reducible first | exact HB.out | apply below_alloc | apply pw_below_drewN | apply below_drew1 | refine below_set ?_ GE214.out) | exact HB.out)) hb); clear BK214; clear HB; have BK214 := n0_; have HB := n1_; clear n0_ n1_; (try clear hb); (try clear hb2); (try clear hk); (try clear hi); have hcz31_0 : w30.cell? ⟨gb214, 0, none⟩ = some (.int .u32 a1_0) := (blk_cell BK214.out 0).trans rfl; have hcz31_1 : w30.cell? ⟨gb214, 1, none⟩ = some (.int .u8 a1_1) := (blk_cell BK214.out 1).trans rfl; have hfz31_0 := blk_frozen BK214.out 0; have hfz31_1 := blk_frozen BK214.out 1) | (go_at_call 10; (with_reducible refine (arrearslaw10_own.calls a1_0 a1_1 t224 t225 _ A10.out).mono ?_); rintro e w32 ⟨rfl, hb⟩; have n0_ := Aside0.mk (blk_below (g := gb214) (o := .cells #[.int .u32 a1_0, .int .u8 a1_1] 25 (0, 0)) (by (with_reducible repeat (first | refine blk_drewN ?_ _ | refine blk_drew ?_ | refine blk_alloc ?_ _)); exact BK214.out) hb); have n1_ := Aside0.mk (below_step (by repeat (first | (with_reducible first | exact HB.out | apply below_alloc | apply pw_below_drewN | apply below_drew1 | refine below_set ?_ GE214.out) | exact HB.out)) hb); clear BK214; clear HB; have BK214 := n0_; have HB := n1_; clear n0_ n1_; (try clear hb); (try clear hb2); (try clear hk); (try clear hi)) | (go_at_call 9; (with_reducible refine (arrearsref10_Left.calls k a0 t224 t225 a2 t216 t223 _ A11.out).mono ?_); rintro e w33 ⟨rfl, hb⟩; have n0_ := Aside0.mk (blk_below (g := gb214) (o := .cells #[.int .u32 a1_0, .int .u8 a1_1] 25 (0, 0)) (by (with_reducible repeat (first | refine blk_drewN ?_ _ | refine blk_drew ?_ | refine blk_alloc ?_ _)); exact BK214.out) hb); have n1_ := Aside0.mk (below_step (by repeat (first | (with_reducible first | exact HB.out | apply below_alloc | apply pw_below_drewN | apply below_drew1 | refine below_set ?_ GE214.out) | exact HB.out)) hb); clear BK214; clear HB; have BK214 := n0_; have HB := n1_; clear n0_ n1_; (try clear hb); (try clear hb2); (try clear hk); (try clear hi); have hcz34_0 : w33.cell? ⟨gb214, 0, none⟩ = some (.int .u32 a1_0) := (blk_cell BK214.out 0).trans rfl; have hcz34_1 : w33.cell? ⟨gb214, 1, none⟩ = some (.int .u8 a1_1) := (blk_cell BK214.out 1).trans rfl; have hfz34_0 := blk_frozen BK214.out 0; have hfz34_1 := blk_frozen BK214.out 1) | (go_at_call 10; (with_reducible refine (arrearslaw10_own.calls a1_0 a1_1 t224 t225 _ A23.out).mono ?_); rintro e w35 ⟨rfl, hb⟩; have n0_ := Aside0.mk (blk_below (g := gb214) (o := .cells #[.int .u32 a1_0, .int .u8 a1_1] 25 (0, 0)) (by (with_reducible repeat (first | refine blk_drewN ?_ _ | refine blk_drew ?_ | refine blk_alloc ?_ _)); exact BK214.out) hb); have n1_ := Aside0.mk (below_step (by repeat (first | (with_reducible first | exact HB.out | apply below_alloc | apply pw_below_drewN | apply below_drew1 | refine below_set ?_ GE214.out) | exact HB.out)) hb); clear BK214; clear HB; have BK214 := n0_; have HB := n1_; clear n0_ n1_; (try clear hb); (try clear hb2); (try clear hk); (try clear hi)) | (go_at_call 9; (with_reducible refine (arrearsref10_Left.calls k a0 t224 t225 a2 (wrap64 (t216 - 1)) t226 _ A24.out).mono ?_); rintro e w36 ⟨rfl, hb⟩; have n0_ := Aside0.mk (blk_below (g := gb214) (o := .cells #[.int .u32 a1_0, .int .u8 a1_1] 25 (0, 0)) (by (with_reducible repeat (first | refine blk_drewN ?_ _ | refine blk_drew ?_ | refine blk_alloc ?_ _)); exact BK214.out) hb); have n1_ := Aside0.mk (below_step (by repeat (first | (with_reducible first | exact HB.out | apply below_alloc | apply pw_below_drewN | apply below_drew1 | refine below_set ?_ GE214.out) | exact HB.out)) hb); clear BK214; clear HB; have BK214 := n0_; have HB := n1_; clear n0_ n1_; (try clear hb); (try clear hb2); (try clear hk); (try clear hi)))
              go_ret
              exact ⟨by first | rfl | (simp [errW_none, errW_some] <;> rfl) | (simp [*, errW_none, errW_some] <;> rfl), by repeat (first | (with_reducible first | exact HB.out | apply below_alloc | apply pw_below_drewN | apply below_drew1 | refine below_set ?_ GE214.out) | exact HB.out)⟩
          · rw [if_neg c12] at H
            have c12b0 : (t223 == 0) = false := beq_eq_false_iff_ne.mpr c12
            have c12b1 : (t223 != 0) = true := bne_iff_ne.mpr c12
            exact absurd (H.trans (congrArg some HR.out)) (by simp)
        · rw [if_neg c9] at H
          have c9b0 : decide (1 ≤ t216) = false := decide_eq_false c9
          clear c9
          exact absurd (H.trans (congrArg some HR.out)) (by simp)
      · have H1 : (some false) = some r := by rw [if_neg (show ¬ (some q220).isNone = true by simp)] at H; exact H
        clear H
        have H := H1
        clear H1
        try simp only [errW_none, errW_some]
        exact absurd (H.trans (congrArg some HR.out)) (by simp)
    · replace c8 := Bool.eq_false_iff.mpr c8
      subst c8
      have H1 : (if t216 = 0 then ((api_Code.f t217).bind fun t219 => (some (t219 == 1))) else (some false)) = some r := by rw [if_neg (show ¬ (false = true) by decide)] at H; exact H
      clear H
      have H := H1
      clear H1
      by_cases c58 : t216 = 0
      · rw [if_pos c58] at H
        have c58b0 : (t216 == 0) = true := beq_iff_eq.mpr c58
        have c58b1 : (t216 != 0) = false := bne_eq_false_iff_eq.mpr c58
        clear c58
        replace H := Option.bind_eq_some_iff.mp H
        obtain ⟨t219, A590, H⟩ := H
        replace H : (some (t219 == 1)) = some r := H
        have A59 := Aside0.mk A590
        clear A590
        obtain rfl := Option.some.inj H
        go_enter Tryd.func3, Tryd.ntmps3
        go_wp2_with (first | ((with_reducible refine gate_dst (N := 4) rfl ?_); refine box_event ?hg (N := 4) ?hd (cs := #[.int .u32 a1_0, .int .u8 a1_1]) (t := 25) ?hr ?_; (case hd => rfl); (case hg => rfl); (case hr => first | (go_simp; done) | (go_simp; rfl)); intro gb214 hg w60 hbox hb; have n0_ := Aside0.mk (below_step (by repeat (first | (with_reducible first | exact HB.out | apply below_alloc | apply pw_below_drewN | apply below_drew1) | exact HB.out)) hb); have n1_ := Aside0.mk (hbox); have n2_ := Aside0.mk ((by rw [hg]; exact (below_size (by repeat (first | (with_reducible first | exact HB.out | apply below_alloc | apply pw_below_drewN | apply below_drew1) | exact HB.out))) : w.heap.size ≤ gb214)); have n3_ := Aside0.mk ((by rw [hg]; exact (below_size (by repeat (first | (with_reducible first | exact HB.out | apply below_alloc | apply pw_below_drewN | apply below_drew1) | exact HB.out))) : w.heap.size ≤ gb214)); clear HB; have HB := n0_; have BK214 := n1_; have GW214 := n2_; have GE214 := n3_; clear n0_ n1_ n2_ n3_; clear hb hbox hg) | ((with_reducible refine gate_callee (f := 5) rfl ?_); refine goesL_ (some 9) rfl rfl Tryd.func5 (by kernel_rfl) rfl #[] rfl (by (try simp only [List.map_toArray, List.map_cons, List.map_nil]); first | done | rfl | (simp only [List.length_drop, List.length_take]; rfl)) ?_; (with_reducible refine (arrearslaw10_awake.calls k  true _ A4.out).mono ?_); rintro e w61 ⟨rfl, hb⟩; refine ⟨_, rfl, ?_⟩; have n0_ := Aside0.mk (blk_below (g := gb214) (o := .cells #[.int .u32 a1_0, .int .u8 a1_1] 25 (0, 0)) (by (with_reducible repeat (first | refine blk_drewN ?_ _ | refine blk_drew ?_ | refine blk_alloc ?_ _)); exact BK214.out) hb); have n1_ := Aside0.mk (below_step (by repeat (first | (with_reducible first | exact HB.out | apply below_alloc | apply pw_below_drewN | apply below_drew1 | refine below_set ?_ GE214.out) | exact HB.out)) hb); clear BK214; clear HB; have BK214 := n0_; have HB := n1_; clear n0_ n1_; (try clear hb); (try clear hb2); (try clear hk); (try clear hi); have hcz62_0 : w61.cell? ⟨gb214, 0, none⟩ = some (.int .u32 a1_0) := (blk_cell BK214.out 0).trans rfl; have hcz62_1 : w61.cell? ⟨gb214, 1, none⟩ = some (.int .u8 a1_1) := (blk_cell BK214.out 1).trans rfl; have hfz62_0 := blk_frozen BK214.out 0; have hfz62_1 := blk_frozen BK214.out 1) | ((with_reducible refine gate_callee (f := 6) rfl ?_); refine goesL_ (some 15) rfl rfl Tryd.func6 (by kernel_rfl) rfl #[.int .i64 a0, .agg #[.int .u32 a1_0, .int .u8 a1_1], .int .i64 a2] rfl (by (try simp only [List.map_toArray, List.map_cons, List.map_nil]); first | done | rfl | (simp only [List.length_drop, List.length_take]; rfl)) ?_; (with_reducible refine (level_Payment.calls k a0 a1_0 a1_1 a2 t216 t217 _ A6.out).mono ?_); rintro e w63 ⟨rfl, hb⟩; refine ⟨_, rfl, ?_⟩; have n0_ := Aside0.mk (blk_below (g := gb214) (o := .cells #[.int .u32 a1_0, .int .u8 a1_1] 25 (0, 0)) (by (with_reducible repeat (first | refine blk_drewN ?_ _ | refine blk_drew ?_ | refine blk_alloc ?_ _)); exact BK214.out) hb); have n1_ := Aside0.mk (below_step (by repeat (first | (with_reducible first | exact HB.out | apply below_alloc | apply pw_below_drewN | apply below_drew1 | refine below_set ?_ GE214.out) | exact HB.out)) hb); clear BK214; clear HB; have BK214 := n0_; have HB := n1_; clear n0_ n1_; (try clear hb); (try clear hb2); (try clear hk); (try clear hi); (try simp only [errW_none, errW_some]); have hcz64_0 : w63.cell? ⟨gb214, 0, none⟩ = some (.int .u32 a1_0) := (blk_cell BK214.out 0).trans rfl; have hcz64_1 : w63.cell? ⟨gb214, 1, none⟩ = some (.int .u8 a1_1) := (blk_cell BK214.out 1).trans rfl; have hfz64_0 := blk_frozen BK214.out 0; have hfz64_1 := blk_frozen BK214.out 1) | ((with_reducible refine gate_callee (f := 7) rfl ?_); refine goesL_ (some 21) rfl rfl Tryd.func7 (by kernel_rfl) rfl #[.int .i64 a0, .agg #[.int .u32 a1_0, .int .u8 a1_1], .int .i64 a2] rfl (by (try simp only [List.map_toArray, List.map_cons, List.map_nil]); first | done | rfl | (simp only [List.length_drop, List.length_take]; rfl)) ?_; (with_reducible refine (arrearslaw10_right.calls a0 a1_0 a1_1 a2 false _ A7.out).mono ?_); rintro e w65 ⟨rfl, hb⟩; refine ⟨_, rfl, ?_⟩; have n0_ := Aside0.mk (blk_below (g := gb214) (o := .cells #[.int .u32 a1_0, .int .u8 a1_1] 25 (0, 0)) (by (with_reducible repeat (first | refine blk_drewN ?_ _ | refine blk_drew ?_ | refine blk_alloc ?_ _)); exact BK214.out) hb); have n1_ := Aside0.mk (below_step (by repeat (first | (with_reducible first | exact HB.out | apply below_alloc | apply pw_below_drewN | apply below_drew1 | refine below_set ?_ GE214.out) | exact HB.out)) hb); clear BK214; clear HB; have BK214 := n0_; have HB := n1_; clear n0_ n1_; (try clear hb); (try clear hb2); (try clear hk); (try clear hi); have CA59 := fun W (hGW : Go.Proofs.YtoclgoknednjgaaDoor.M.Laid W) => api_Code.calls t217 t219 W hGW A59.out; try simp only [errW_none, errW_some] at CA59) | (go_at_call 8; (with_reducible refine (CA59 _ ?hGL).mono ?_); (case hGL => exact Go.Proofs.YtoclgoknednjgaaDoor.M.Laid.below HG.out (by repeat (first | (with_reducible first | exact HB.out | apply below_alloc | apply pw_below_drewN | apply below_drew1 | refine below_set ?_ GE214.out) | exact HB.out))); rintro e w66 ⟨rfl, hb⟩; have n0_ := Aside0.mk (blk_below (g := gb214) (o := .cells #[.int .u32 a1_0, .int .u8 a1_1] 25 (0, 0)) (by (with_reducible repeat (first | refine blk_drewN ?_ _ | refine blk_drew ?_ | refine blk_alloc ?_ _)); exact BK214.out) hb); have n1_ := Aside0.mk (below_step (by repeat (first | (with_reducible first | exact HB.out | apply below_alloc | apply pw_below_drewN | apply below_drew1 | refine below_set ?_ GE214.out) | exact HB.out)) hb); clear BK214; clear HB; have BK214 := n0_; have HB := n1_; clear n0_ n1_; (try clear hb); (try clear hb2); (try clear hk); (try clear hi)))
        go_ret
        exact ⟨by first | rfl | (simp [errW_none, errW_some] <;> rfl) | (simp [*, errW_none, errW_some] <;> rfl), by repeat (first | (with_reducible first | exact HB.out | apply below_alloc | apply pw_below_drewN | apply below_drew1 | refine below_set ?_ GE214.out) | exact HB.out)⟩
      · rw [if_neg c58] at H
        have c58b0 : (t216 == 0) = false := beq_eq_false_iff_ne.mpr c58
        have c58b1 : (t216 != 0) = true := bne_iff_ne.mpr c58
        exact absurd (H.trans (congrArg some HR.out)) (by simp)
  · replace c5 := Bool.eq_false_iff.mpr c5
    subst c5
    have H1 : (some false) = some r := by rw [if_neg (show ¬ (false = true) by decide)] at H; exact H
    clear H
    have H := H1
    clear H1
    exact absurd (H.trans (congrArg some HR.out)) (by simp)
end Go.Proofs.YtoclgoknednjgaaDoor.PLevelPays
