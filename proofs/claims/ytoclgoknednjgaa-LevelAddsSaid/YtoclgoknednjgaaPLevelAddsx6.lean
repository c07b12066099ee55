-- Printed by a wrapper of this session's round the kit's print.py; Lean checks it.
import Derived.Test.YtoclgoknednjgaaPLevelAddsx0
import Derived.Test.YtoclgoknednjgaaPLevelAddsx3
import Derived.Test.YtoclgoknednjgaaPLevelAddsx4
import Derived.Test.YtoclgoknednjgaaPLevelAddsx5
namespace Go.Proofs.Ytoclgoknednjgaa.PLevelAdds
open Go.RowKit Go.Proofs.YtoclgoknednjgaaW.PrintWords Go.Proofs.YtoclgoknednjgaaW.PrintLast Go.Proofs.YtoclgoknednjgaaW.PrintMore
attribute [local go_sem] max2_int min2_int max_two min_two max_three min_three max_four min_four   -- for this text's walks alone
set_option linter.unusedVariables false
set_option linter.unusedSimpArgs false

/-! ### arrearslaw10_LevelAdds: function 5 -/
def arrearslaw10_LevelAdds.l0 : Nat → Int → Int → Int → List Int → Int → Int → Int → List (S38) → Int → Int → Option (Bool)
  | 0, _, _, _, _, _, _, _, _, _, _ => none
  | k + 1, x0, x2, x9, x11, x12, x13, x14, x43, x44, x45 => if x45 < x44 then (if 0 ≤ x45 then (if x45 < (x43.length : Int) then ((level_Row_Pay.f ((rd_T38 x43 x45).f0) ((rd_T38 x43 x45).f1) ((rd_T38 x43 x45).f2)).bind fun t206 => ((level_Row_Pay.f ((rd_T38 x43 x45).f0) ((rd_T38 x43 x45).f1) ((rd_T38 x43 x45).f2)).bind fun t207 => (if t207 > x9 then (some false) else (if ((rd_T38 x43 x45).f1) < 0 then (some false) else (if ((rd_T38 x43 x45).f2) = (wrap64 (x14 - ((rd_T38 x43 x45).f1))) then (if x45 < (x11.length : Int) then (if (rd x11 x45) = (wrap64 (x13 + t206)) then (arrearslaw10_LevelAdds.l0 k x0 x2 x9 x11 (wrap64 (x12 + ((rd_T38 x43 x45).f1))) (wrap64 (x13 + t206)) ((rd_T38 x43 x45).f2) x43 x44 (wrap64 (x45 + 1))) else (some false)) else (none)) else (some false)))))) else (none)) else (none)) else (if x12 = x0 then (if x14 = 0 then (some ((x11.length : Int) == x2)) else (some false)) else (some false))
def arrearslaw10_LevelAdds.f (k : Nat) (a0 : Int) (a1_0 : Int) (a1_1 : Int) (a2 : Int) : Option (Bool) := (arrearslaw10_awake.f k).bind fun t193 => (if t193 = true then ((level_Rows.f k 1 a0 a1_0 a1_1 a2).bind fun bt194 => (if bt194.2.isNone = true then ((level_Payment.f k a0 a1_0 a1_1 a2).bind fun bt199 => ((level_Sums.f k bt194.1).bind fun t201 => (arrearslaw10_LevelAdds.l0 k a0 a2 bt199.1 t201 0 0 a0 bt194.1 (bt194.1.length : Int) 0))) else ((arrearslaw10_right.f a0 a1_0 a1_1 a2).bind fun t209 => (some (!t209))))) else (some false))
theorem arrearslaw10_LevelAdds.mono_l : ∀ k, (∀ y0 y1 y2 y3 y4 y5 y6 y7 y8 y9, LeO (arrearslaw10_LevelAdds.l0 k y0 y1 y2 y3 y4 y5 y6 y7 y8 y9) (arrearslaw10_LevelAdds.l0 (k + 1) y0 y1 y2 y3 y4 y5 y6 y7 y8 y9))
  | 0 => fun _ _ _ _ _ _ _ _ _ _ r h => by simp [arrearslaw10_LevelAdds.l0] at h
  | k + 1 => by
    have ih0 := arrearslaw10_LevelAdds.mono_l k
    · intro y0 y1 y2 y3 y4 y5 y6 y7 y8 y9
      unfold arrearslaw10_LevelAdds.l0
      repeat' first
      | (with_reducible exact ih0 _ _ _ _ _ _ _ _ _ _)
      | (with_reducible exact arrearslaw10_awake.mono _)
      | (with_reducible exact level_Payment.mono _ _ _ _ _)
      | (with_reducible exact level_Rows.mono _ _ _ _ _ _)
      | (with_reducible exact level_Sums.mono _ _)
      | (with_reducible exact LeO.refl _)
      | (with_reducible exact LeO.none _)
      | (with_reducible refine LeO.ite ?_ ?_)
      | (with_reducible refine LeO.bind ?_ (fun _ => ?_))
      | exact ih0 _ _ _ _ _ _ _ _ _ _
      | exact arrearslaw10_awake.mono _
      | exact level_Payment.mono _ _ _ _ _
      | exact level_Rows.mono _ _ _ _ _ _
      | exact level_Sums.mono _ _
      | exact LeO.none _
      | refine LeO.ite ?_ ?_
      | refine LeO.bind ?_ (fun _ => ?_)
theorem arrearslaw10_LevelAdds.mono : ∀ a0 a1 a2 a3 k, LeO (arrearslaw10_LevelAdds.f k a0 a1 a2 a3) (arrearslaw10_LevelAdds.f (k + 1) a0 a1 a2 a3) := by
  intro a0 a1 a2 a3 k
  have ih0 := arrearslaw10_LevelAdds.mono_l k
  unfold arrearslaw10_LevelAdds.f
  repeat' first
      | (with_reducible exact ih0 _ _ _ _ _ _ _ _ _ _)
      | (with_reducible exact arrearslaw10_awake.mono _)
      | (with_reducible exact level_Payment.mono _ _ _ _ _)
      | (with_reducible exact level_Rows.mono _ _ _ _ _ _)
      | (with_reducible exact level_Sums.mono _ _)
      | (with_reducible exact LeO.refl _)
      | (with_reducible exact LeO.none _)
      | (with_reducible refine LeO.ite ?_ ?_)
      | (with_reducible refine LeO.bind ?_ (fun _ => ?_))
      | exact ih0 _ _ _ _ _ _ _ _ _ _
      | exact arrearslaw10_awake.mono _
      | exact level_Payment.mono _ _ _ _ _
      | exact level_Rows.mono _ _ _ _ _ _
      | exact level_Sums.mono _ _
      | exact LeO.none _
      | refine LeO.ite ?_ ?_
      | refine LeO.bind ?_ (fun _ => ?_)
def arrearslaw10_LevelAdds.T12 : Bool × List (List Nat × List Nat) := (true, [([], []), ([], []), ([1], [1]), ([0, 2], [0, 2]), ([], []), ([], []), ([5], [5]), ([4, 6], [4, 6]), ([3, 6, 0, 1, 2, 3], [0, 3]), ([7, 8, 0, 1, 2, 3, 4, 5, 6, 7, 8], [4, 7])])
def arrearslaw10_LevelAdds.B12 : List Nat := [0, 0, 2, 7, 0, 0, 32, 112, 111, 511]
theorem arrearslaw10_LevelAdds.tab12 : rtab .any (opsOf Try.f5 12) = arrearslaw10_LevelAdds.T12 := by kernel_rfl
theorem arrearslaw10_LevelAdds.bits12 : waitsOk arrearslaw10_LevelAdds.T12.2 arrearslaw10_LevelAdds.B12 = true := by kernel_rfl
set_option maxHeartbeats 8000000 in
set_option maxRecDepth 100000 in
theorem arrearslaw10_LevelAdds.calls (k : Nat) (a0 : Int) (a1_0 : Int) (a1_1 : Int) (a2 : Int) (r : Bool) (w : World) (h : arrearslaw10_LevelAdds.f k a0 a1_0 a1_1 a2 = some r) :
    Calls Try.prog 5 #[.int .i64 a0, .agg #[.int .u32 a1_0, .int .u8 a1_1], .int .i64 a2] w fun e w' => e = .returned (.bool r) ∧ Below w.heap.size w w' := by
  have hu25 := Try.underlying25
  have hu38 := Try.underlying38
  have hu29 := Try.underlying29
  have hu46 := Try.underlying46
  have HB := Aside0.mk (Below.refl w.heap.size w)
  have H : ((arrearslaw10_awake.f k).bind fun t193 => (if t193 = true then ((level_Rows.f k 1 a0 a1_0 a1_1 a2).bind fun bt194 => (if bt194.2.isNone = true then ((level_Payment.f k a0 a1_0 a1_1 a2).bind fun bt199 => ((level_Sums.f k bt194.1).bind fun t201 => (arrearslaw10_LevelAdds.l0 k a0 a2 bt199.1 t201 0 0 a0 bt194.1 (bt194.1.length : Int) 0))) else ((arrearslaw10_right.f a0 a1_0 a1_1 a2).bind fun t209 => (some (!t209))))) else (some false))) = some r := h
  clear h
  replace H := Option.bind_eq_some_iff.mp H
  obtain ⟨t193, A40, H⟩ := H
  replace H : (if t193 = true then ((level_Rows.f k 1 a0 a1_0 a1_1 a2).bind fun bt194 => (if bt194.2.isNone = true then ((level_Payment.f k a0 a1_0 a1_1 a2).bind fun bt199 => ((level_Sums.f k bt194.1).bind fun t201 => (arrearslaw10_LevelAdds.l0 k a0 a2 bt199.1 t201 0 0 a0 bt194.1 (bt194.1.length : Int) 0))) else ((arrearslaw10_right.f a0 a1_0 a1_1 a2).bind fun t209 => (some (!t209))))) else (some false)) = some r := H
  have A4 := Aside0.mk A40
  clear A40
  by_cases c5 : t193 = true
  · subst c5
    have H1 : ((level_Rows.f k 1 a0 a1_0 a1_1 a2).bind fun bt194 => (if bt194.2.isNone = true then ((level_Payment.f k a0 a1_0 a1_1 a2).bind fun bt199 => ((level_Sums.f k bt194.1).bind fun t201 => (arrearslaw10_LevelAdds.l0 k a0 a2 bt199.1 t201 0 0 a0 bt194.1 (bt194.1.length : Int) 0))) else ((arrearslaw10_right.f a0 a1_0 a1_1 a2).bind fun t209 => (some (!t209))))) = some r := by rw [if_pos rfl] at H; exact H
    clear H
    have H := H1
    clear H1
    replace H := Option.bind_eq_some_iff.mp H
    obtain ⟨⟨t194, t197⟩, A60, H⟩ := H
    replace H : (if t197.isNone = true then ((level_Payment.f k a0 a1_0 a1_1 a2).bind fun bt199 => ((level_Sums.f k t194).bind fun t201 => (arrearslaw10_LevelAdds.l0 k a0 a2 bt199.1 t201 0 0 a0 t194 (t194.length : Int) 0))) else ((arrearslaw10_right.f a0 a1_0 a1_1 a2).bind fun t209 => (some (!t209)))) = some r := H
    have A6 := Aside0.mk A60
    clear A60
    rcases t197 with _ | q198
    · have H1 : ((level_Payment.f k a0 a1_0 a1_1 a2).bind fun bt199 => ((level_Sums.f k t194).bind fun t201 => (arrearslaw10_LevelAdds.l0 k a0 a2 bt199.1 t201 0 0 a0 t194 (t194.length : Int) 0))) = some r := by rw [if_pos (show (none : Option Int).isNone = true by rfl)] at H; exact H
      clear H
      have H := H1
      clear H1
      try simp only [errW_none, errW_some]
      replace H := Option.bind_eq_some_iff.mp H
      obtain ⟨⟨t199, t200⟩, A70, H⟩ := H
      replace H : ((level_Sums.f k t194).bind fun t201 => (arrearslaw10_LevelAdds.l0 k a0 a2 t199 t201 0 0 a0 t194 (t194.length : Int) 0)) = some r := H
      have A7 := Aside0.mk A70
      clear A70
      replace H := Option.bind_eq_some_iff.mp H
      obtain ⟨t201, A80, H⟩ := H
      replace H : (arrearslaw10_LevelAdds.l0 k a0 a2 t199 t201 0 0 a0 t194 (t194.length : Int) 0) = some r := H
      have A8 := Aside0.mk A80
      clear A80
      have H' := Aside0.mk H
      clear H
      go_enter Try.func5, Try.ntmps5
      go_wp2_with (first | ((with_reducible refine gate_dst (N := 4) rfl ?_); (try (refine gate_guard (by rfl) ?_; dsimp only)); refine box_event ?hg (N := 4) ?hd (cs := #[.int .u32 a1_0, .int .u8 a1_1]) (t := 25) ?hr ?_; (case hd => rfl); (case hg => rfl); (case hr => first | (go_simp; done) | (go_simp; rfl)); intro gb192 hg w9 hbox hb; have n0_ := Aside0.mk (below_step (by repeat (first | (with_reducible first | exact HB.out | apply below_alloc | apply pw_below_drewN | apply below_drew1) | exact HB.out)) hb); have n1_ := Aside0.mk (hbox); have n2_ := Aside0.mk ((by rw [hg]; exact (below_size (by repeat (first | (with_reducible first | exact HB.out | apply below_alloc | apply pw_below_drewN | apply below_drew1) | exact HB.out))) : w.heap.size ≤ gb192)); have n3_ := Aside0.mk ((by rw [hg]; exact (below_size (by repeat (first | (with_reducible first | exact HB.out | apply below_alloc | apply pw_below_drewN | apply below_drew1) | exact HB.out))) : w.heap.size ≤ gb192)); clear HB; have HB := n0_; have BK192 := n1_; have GW192 := n2_; have GE192 := n3_; clear n0_ n1_ n2_ n3_; clear hb hbox hg) | ((with_reducible refine gate_callee (f := 7) rfl ?_); refine goesL_ (some 17) rfl rfl Try.func7 (by kernel_rfl) rfl #[] rfl (by (try simp only [List.map_toArray, List.map_cons, List.map_nil]); first | done | rfl | (simp only [List.length_drop, List.length_take]; rfl)) ?_; (with_reducible refine (arrearslaw10_awake.calls k  true _ A4.out).mono ?_); rintro e w10 ⟨rfl, hb⟩; refine ⟨_, rfl, ?_⟩; have n0_ := Aside0.mk (blk_below (g := gb192) (o := .cells #[.int .u32 a1_0, .int .u8 a1_1] 25 (0, 0)) (by (with_reducible repeat (first | refine blk_drewN ?_ _ | refine blk_drew ?_ | refine blk_alloc ?_ _)); exact BK192.out) hb); have n1_ := Aside0.mk (below_step (by repeat (first | (with_reducible first | exact HB.out | apply below_alloc | apply pw_below_drewN | apply below_drew1 | refine below_set ?_ GE192.out) | exact HB.out)) hb); clear BK192; clear HB; have BK192 := n0_; have HB := n1_; clear n0_ n1_; (try clear hb); (try clear hb2); (try clear hk); (try clear hi); have hcz11_0 : w10.cell? ⟨gb192, 0, none⟩ = some (.int .u32 a1_0) := (blk_cell BK192.out 0).trans rfl; have hcz11_1 : w10.cell? ⟨gb192, 1, none⟩ = some (.int .u8 a1_1) := (blk_cell BK192.out 1).trans rfl; have hfz11_0 := blk_frozen BK192.out 0; have hfz11_1 := blk_frozen BK192.out 1) | ((with_reducible refine gate_callee (f := 10) rfl ?_); refine goesL_ (some 23) rfl rfl Try.func10 (by kernel_rfl) rfl #[.int .u8 1, .int .i64 a0, .agg #[.int .u32 a1_0, .int .u8 a1_1], .int .i64 a2] rfl (by (try simp only [List.map_toArray, List.map_cons, List.map_nil]); first | done | rfl | (simp only [List.length_drop, List.length_take]; rfl)) ?_; (with_reducible refine (level_Rows.calls k 1 a0 a1_0 a1_1 a2 t194 none _ A6.out).mono ?_); rintro e w12 ⟨v195, rfl, ho0, hb⟩; refine ⟨_, rfl, ?_⟩; have n0_ := Aside0.mk (Kd.R_lower ho0 (below_size (by repeat (first | (with_reducible first | exact HB.out | apply below_alloc | apply pw_below_drewN | apply below_drew1 | refine below_set ?_ GE192.out) | exact HB.out)))); have n1_ := Aside0.mk (blk_below (g := gb192) (o := .cells #[.int .u32 a1_0, .int .u8 a1_1] 25 (0, 0)) (by (with_reducible repeat (first | refine blk_drewN ?_ _ | refine blk_drew ?_ | refine blk_alloc ?_ _)); exact BK192.out) hb); have n2_ := Aside0.mk (below_step (by repeat (first | (with_reducible first | exact HB.out | apply below_alloc | apply pw_below_drewN | apply below_drew1 | refine below_set ?_ GE192.out) | exact HB.out)) hb); clear BK192; clear HB; have HO196 := n0_; have BK192 := n1_; have HB := n2_; clear n0_ n1_ n2_; (try clear hb); (try clear hb2); (try clear hk); (try clear hi); (try clear ho0); (try simp only [errW_none, errW_some]); have hcz13_0 : w12.cell? ⟨gb192, 0, none⟩ = some (.int .u32 a1_0) := (blk_cell BK192.out 0).trans rfl; have hcz13_1 : w12.cell? ⟨gb192, 1, none⟩ = some (.int .u8 a1_1) := (blk_cell BK192.out 1).trans rfl; have hfz13_0 := blk_frozen BK192.out 0; have hfz13_1 := blk_frozen BK192.out 1) | ((with_reducible refine gate_callee (f := 9) rfl ?_); refine goesL_ (some 37) rfl rfl Try.func9 (by kernel_rfl) rfl #[.int .i64 a0, .agg #[.int .u32 a1_0, .int .u8 a1_1], .int .i64 a2] rfl (by (try simp only [List.map_toArray, List.map_cons, List.map_nil]); first | done | rfl | (simp only [List.length_drop, List.length_take]; rfl)) ?_; (with_reducible refine (level_Payment.calls k a0 a1_0 a1_1 a2 t199 t200 _ A7.out).mono ?_); rintro e w14 ⟨rfl, hb⟩; refine ⟨_, rfl, ?_⟩; have n0_ := Aside0.mk (Kd.R_below (by (with_reducible repeat (first | apply Kd.R_alloc | apply Kd.R_drewN | apply Kd.R_drew)); exact HO196.out) hb); have n1_ := Aside0.mk (blk_below (g := gb192) (o := .cells #[.int .u32 a1_0, .int .u8 a1_1] 25 (0, 0)) (by (with_reducible repeat (first | refine blk_drewN ?_ _ | refine blk_drew ?_ | refine blk_alloc ?_ _)); exact BK192.out) hb); have n2_ := Aside0.mk (below_step (by repeat (first | (with_reducible first | exact HB.out | apply below_alloc | apply pw_below_drewN | apply below_drew1 | refine below_set ?_ GE192.out) | exact HB.out)) hb); clear HO196; clear BK192; clear HB; have HO196 := n0_; have BK192 := n1_; have HB := n2_; clear n0_ n1_ n2_; (try clear hb); (try clear hb2); (try clear hk); (try clear hi); (try simp only [errW_none, errW_some]); obtain ⟨Ao15, co15, eo15⟩ := Kd.R_slice HO196.out; subst eo15) | ((with_reducible refine gate_callee (f := 12) rfl ?_); refine goesL_ (some 41) rfl rfl Try.func12 (by kernel_rfl) rfl #[.slice Ao15 t194.length co15] rfl (by (try simp only [List.map_toArray, List.map_cons, List.map_nil]); first | done | rfl | (simp only [List.length_drop, List.length_take]; rfl)) ?_; (with_reducible refine (level_Sums.calls k _ _ t194 t201 _ ?side1 ?side2 A8.out).mono ?_); (case side1 => repeat (first | exact (Kd.R_reads' HO196.out).2.2 | (with_reducible refine Kd.C_alloc ?_ _) | (with_reducible refine Kd.C_drewN ?_ _) | (with_reducible refine Kd.C_drew ?_))); (case side2 => exact (Kd.R_reads' HO196.out).2.1); rintro e w16 ⟨v202, rfl, ho0, hb⟩; refine ⟨_, rfl, ?_⟩; have n0_ := Aside0.mk (Kd.R_below (by (with_reducible repeat (first | apply Kd.R_alloc | apply Kd.R_drewN | apply Kd.R_drew)); exact HO196.out) hb); have n1_ := Aside0.mk (Kd.R_lower ho0 (below_size (by repeat (first | (with_reducible first | exact HB.out | apply below_alloc | apply pw_below_drewN | apply below_drew1 | refine below_set ?_ GE192.out) | exact HB.out)))); have n2_ := Aside0.mk (blk_below (g := gb192) (o := .cells #[.int .u32 a1_0, .int .u8 a1_1] 25 (0, 0)) (by (with_reducible repeat (first | refine blk_drewN ?_ _ | refine blk_drew ?_ | refine blk_alloc ?_ _)); exact BK192.out) hb); have n3_ := Aside0.mk (below_step (by repeat (first | (with_reducible first | exact HB.out | apply below_alloc | apply pw_below_drewN | apply below_drew1 | refine below_set ?_ GE192.out) | exact HB.out)) hb); clear HO196; clear BK192; clear HB; have HO196 := n0_; have HO203 := n1_; have BK192 := n2_; have HB := n3_; clear n0_ n1_ n2_ n3_; (try clear hb); (try clear hb2); (try clear hk); (try clear hi); (try clear ho0)))
      go_loopg [12, 13, 14, 45] k (fun kq v12 v13 v14 v45 w' => ∃ (x12_1 : Int) (x13_1 : Int) (x14_1 : Int) (x45_1 : Int), v12 = .int .i64 x12_1 ∧ v13 = .int .i64 x13_1 ∧ v14 = .int .i64 x14_1 ∧ v45 = .int .i64 x45_1 ∧ Aside0 (arrearslaw10_LevelAdds.l0 kq a0 a2 t199 t201 x12_1 x13_1 x14_1 t194 (t194.length : Int) x45_1 = some r) ∧ Aside0 (kq ≤ k) ∧ Aside0 (Kd.R (Kd.int .i64) 22 w' w.heap.size (fun _ => True) v202 t201) ∧ Aside0 (Kd.R k38 38 w' w.heap.size (fun _ => True) (.slice Ao15 t194.length co15) t194) ∧ Aside0 (w'.heap[gb192]? = some (.cells #[.int .u32 a1_0, .int .u8 a1_1] 25 (0, 0))) ∧ Aside0 (Below w.heap.size w w'))
      case atStart => exact ⟨(0), (0), (a0), (0), (by first | rfl | (simp; done) | (simp [*]; done)), (by first | rfl | (simp; done) | (simp [*]; done)), (by first | rfl | (simp; done) | (simp [*]; done)), (by first | rfl | (simp; done) | (simp [*]; done)), H', ⟨Nat.le_refl _⟩, ⟨by (with_reducible repeat (first | apply Kd.R_alloc | apply Kd.R_drewN | apply Kd.R_drew)); exact HO203.out⟩, ⟨by (with_reducible repeat (first | apply Kd.R_alloc | apply Kd.R_drewN | apply Kd.R_drew)); exact HO196.out⟩, ⟨by (with_reducible repeat (first | refine blk_drewN ?_ _ | refine blk_drew ?_ | refine blk_alloc ?_ _)); exact BK192.out⟩, ⟨by repeat (first | (with_reducible first | exact HB.out | apply below_alloc | apply pw_below_drewN | apply below_drew1 | refine below_set ?_ GE192.out) | exact HB.out)⟩⟩
      case round =>
        clear H'
        try clear c1
        try clear q1
        try clear p2
        try clear c5
        try clear c7
        try clear c9
        try clear c10
        try clear c12
        try clear hcz11_0
        try clear hcz11_1
        try clear hcz13_0
        try clear hcz13_1
        try clear hfz11_0
        try clear hfz11_1
        try clear hfz13_0
        try clear hfz13_1
        try clear q198
        obtain ⟨x12_1, x13_1, x14_1, x45_1, rfl, rfl, rfl, rfl, HA, HK1, HO_11, HO_43, BK192, HB⟩ := hrel
        cases gk with
        | zero => exact absurd HA.out (by simp [arrearslaw10_LevelAdds.l0])
        | succ k1 =>
          have H := HA.out
          clear HA
          simp only [arrearslaw10_LevelAdds.l0] at H
          by_cases c17 : x45_1 < (t194.length : Int)
          · rw [if_pos c17] at H
            have c17b0 : decide (x45_1 < (t194.length : Int)) = true := decide_eq_true c17
            clear c17
            by_cases c18 : 0 ≤ x45_1
            · rw [if_pos c18] at H
              have c18b0 : decide (0 ≤ x45_1) = true := decide_eq_true c18
              clear c18
              by_cases c19 : x45_1 < (t194.length : Int)
              · rw [if_pos c19] at H
                have c19b0 : decide (x45_1 < (t194.length : Int)) = true := decide_eq_true c19
                clear c19
                replace H := Option.bind_eq_some_iff.mp H
                obtain ⟨t206, A200, H⟩ := H
                replace H : ((level_Row_Pay.f ((rd_T38 t194 x45_1).f0) ((rd_T38 t194 x45_1).f1) ((rd_T38 t194 x45_1).f2)).bind fun t207 => (if t207 > t199 then (some false) else (if ((rd_T38 t194 x45_1).f1) < 0 then (some false) else (if ((rd_T38 t194 x45_1).f2) = (wrap64 (x14_1 - ((rd_T38 t194 x45_1).f1))) then (if x45_1 < (t201.length : Int) then (if (rd t201 x45_1) = (wrap64 (x13_1 + t206)) then (arrearslaw10_LevelAdds.l0 k1 a0 a2 t199 t201 (wrap64 (x12_1 + ((rd_T38 t194 x45_1).f1))) (wrap64 (x13_1 + t206)) ((rd_T38 t194 x45_1).f2) t194 (t194.length : Int) (wrap64 (x45_1 + 1))) else (some false)) else (none)) else (some false))))) = some r := H
                have A20 := Aside0.mk A200
                clear A200
                replace H := Option.bind_eq_some_iff.mp H
                obtain ⟨t207, A210, H⟩ := H
                replace H : (if t207 > t199 then (some false) else (if ((rd_T38 t194 x45_1).f1) < 0 then (some false) else (if ((rd_T38 t194 x45_1).f2) = (wrap64 (x14_1 - ((rd_T38 t194 x45_1).f1))) then (if x45_1 < (t201.length : Int) then (if (rd t201 x45_1) = (wrap64 (x13_1 + t206)) then (arrearslaw10_LevelAdds.l0 k1 a0 a2 t199 t201 (wrap64 (x12_1 + ((rd_T38 t194 x45_1).f1))) (wrap64 (x13_1 + t206)) ((rd_T38 t194 x45_1).f2) t194 (t194.length : Int) (wrap64 (x45_1 + 1))) else (some false)) else (none)) else (some false)))) = some r := H
                have A21 := Aside0.mk A210
                clear A210
                by_cases c22 : t207 > t199
                · rw [if_pos c22] at H
                  have c22b0 : decide (t199 < t207) = true := decide_eq_true c22
                  clear c22
                  obtain rfl := Option.some.inj H
                  have p204 : 0 ≤ (x45_1 : Int) := of_decide_eq_true (by first | (with_reducible assumption) | assumption)
                  have q204 : x45_1 < (t194.length : Int) := of_decide_eq_true (by first | (with_reducible assumption) | assumption)
                  obtain ⟨ad204, e204, hx204_0, hx204_1, hx204_2⟩ := at_T38 (Kd.R_reads' HO_43.out).2.2 x45_1 p204 q204
                  cases e204
                  replace p204 := eq_true p204
                  replace q204 := eq_true q204
                  try go_wp2_with (first | ((with_reducible refine gate_dst (N := 16) rfl ?_); (try (refine gate_guard (by rfl) ?_; dsimp only)); refine box_event ?hg (N := 16) ?hd (cs := #[.int .i64 0, .int .i64 0, .int .i64 0]) (t := 38) ?hr ?_; (case hd => rfl); (case hg => rfl); (case hr => first | (go_simp; done) | (go_simp; rfl)); intro gb205 hg w23 hbox hb; have n0_ := Aside0.mk (Kd.R_below (by (with_reducible repeat (first | apply Kd.R_alloc | apply Kd.R_drewN | apply Kd.R_drew)); exact HO_11.out) hb); have n1_ := Aside0.mk (Kd.R_below (Kd.R_elderB (by (with_reducible repeat (first | apply Kd.R_alloc | apply Kd.R_drewN | apply Kd.R_drew)); exact HO_43.out) gb205 (Nat.le_of_eq hg.symm)) hb); have n2_ := Aside0.mk (blk_below (g := gb192) (o := .cells #[.int .u32 a1_0, .int .u8 a1_1] 25 (0, 0)) (by (with_reducible repeat (first | refine blk_drewN ?_ _ | refine blk_drew ?_ | refine blk_alloc ?_ _)); exact BK192.out) hb); have n3_ := Aside0.mk (below_step (by repeat (first | (with_reducible first | exact HB.out | apply below_alloc | apply pw_below_drewN | apply below_drew1 | refine below_set ?_ GE192.out) | exact HB.out)) hb); have n4_ := Aside0.mk (hbox); have n5_ := Aside0.mk ((by rw [hg]; exact (below_size (by repeat (first | (with_reducible first | exact HB.out | apply below_alloc | apply pw_below_drewN | apply below_drew1 | refine below_set ?_ GE192.out) | exact HB.out))) : w.heap.size ≤ gb205)); have n6_ := Aside0.mk ((by rw [hg]; exact (below_size (by repeat (first | (with_reducible first | exact HB.out | apply below_alloc | apply pw_below_drewN | apply below_drew1 | refine below_set ?_ GE192.out) | exact HB.out))) : w.heap.size ≤ gb205)); have n7_ := Aside0.mk ((by rw [hg]; exact Nat.ne_of_lt (blk_lt (g := gb192) (o := .cells #[.int .u32 a1_0, .int .u8 a1_1] 25 (0, 0)) (by (with_reducible repeat (first | refine blk_drewN ?_ _ | refine blk_drew ?_ | refine blk_alloc ?_ _)); exact BK192.out)) : gb192 ≠ gb205)); have n8_ := Aside0.mk ((by rw [hg]; exact Nat.ne_of_gt (blk_lt (g := gb192) (o := .cells #[.int .u32 a1_0, .int .u8 a1_1] 25 (0, 0)) (by (with_reducible repeat (first | refine blk_drewN ?_ _ | refine blk_drew ?_ | refine blk_alloc ?_ _)); exact BK192.out)) : gb205 ≠ gb192)); clear HO_11; clear HO_43; clear BK192; clear HB; have HO_11 := n0_; have HO_43 := n1_; have BK192 := n2_; have HB := n3_; have BK205 := n4_; have GW205 := n5_; have GE205 := n6_; have NB192_205 := n7_; have NB205_192 := n8_; clear n0_ n1_ n2_ n3_ n4_ n5_ n6_ n7_ n8_; clear hb hbox hg; have hnb24 := NB205_192.out; have hnc24 := NB192_205.out; have hcz25_0 : w23.cell? ⟨gb205, 0, none⟩ = some (.int .i64 0) := (blk_cell BK205.out 0).trans rfl; have hcz25_1 : w23.cell? ⟨gb205, 1, none⟩ = some (.int .i64 0) := (blk_cell BK205.out 1).trans rfl; have hcz25_2 : w23.cell? ⟨gb205, 2, none⟩ = some (.int .i64 0) := (blk_cell BK205.out 2).trans rfl; have hfz25_0 := blk_frozen BK205.out 0; have hfz25_1 := blk_frozen BK205.out 1; have hfz25_2 := blk_frozen BK205.out 2))
                  have n0_ : Aside0 (Kd.R (Kd.int .i64) 22 (((w23.setCell ⟨gb205, 0, none⟩ (.int .i64 ((rd_T38 t194 x45_1).f0))).setCell ⟨gb205, 1, none⟩ (.int .i64 ((rd_T38 t194 x45_1).f1))).setCell ⟨gb205, 2, none⟩ (.int .i64 ((rd_T38 t194 x45_1).f2))) w.heap.size (fun _ => True) v202 t201) := ⟨by (with_reducible repeat (first | apply Kd.R_alloc | apply Kd.R_drewN | apply Kd.R_drew)); exact Kd.R_mono (Kd.R_far (p := ⟨gb205, 2, none⟩) (Kd.R_far (p := ⟨gb205, 1, none⟩) (Kd.R_far (p := ⟨gb205, 0, none⟩) (Kd.R_types HO_11.out BK205.out (by decide)) (fun _ hk => hk.2) (.int .i64 ((rd_T38 t194 x45_1).f0))) (fun _ hk => hk.2) (.int .i64 ((rd_T38 t194 x45_1).f1))) (fun _ hk => hk.2) (.int .i64 ((rd_T38 t194 x45_1).f2))) (fun _ hk => trivial)⟩
                  have n1_ : Aside0 (Kd.R k38 38 (((w23.setCell ⟨gb205, 0, none⟩ (.int .i64 ((rd_T38 t194 x45_1).f0))).setCell ⟨gb205, 1, none⟩ (.int .i64 ((rd_T38 t194 x45_1).f1))).setCell ⟨gb205, 2, none⟩ (.int .i64 ((rd_T38 t194 x45_1).f2))) w.heap.size (fun k_ => k_ ≠ gb205) (.slice (some ad204) t194.length co15) t194) := ⟨by (with_reducible repeat (first | apply Kd.R_alloc | apply Kd.R_drewN | apply Kd.R_drew)); exact Kd.R_mono (Kd.R_far (p := ⟨gb205, 2, none⟩) (Kd.R_far (p := ⟨gb205, 1, none⟩) (Kd.R_far (p := ⟨gb205, 0, none⟩) (Kd.R_mono HO_43.out (fun k_ hk => (⟨hk, hk.2⟩ : _ ∧ k_ ≠ gb205))) (fun _ hk => hk.2) (.int .i64 ((rd_T38 t194 x45_1).f0))) (fun _ hk => hk.2) (.int .i64 ((rd_T38 t194 x45_1).f1))) (fun _ hk => hk.2) (.int .i64 ((rd_T38 t194 x45_1).f2))) (fun _ hk => hk.1.2)⟩
                  have n2_ : Aside0 ((((w23.setCell ⟨gb205, 0, none⟩ (.int .i64 ((rd_T38 t194 x45_1).f0))).setCell ⟨gb205, 1, none⟩ (.int .i64 ((rd_T38 t194 x45_1).f1))).setCell ⟨gb205, 2, none⟩ (.int .i64 ((rd_T38 t194 x45_1).f2))).heap[gb192]? = some (.cells #[.int .u32 a1_0, .int .u8 a1_1] 25 (0, 0))) := ⟨by (with_reducible repeat (first | refine blk_drewN ?_ _ | refine blk_drew ?_ | refine blk_alloc ?_ _)); refine blk_far ?_ NB192_205.out _; (with_reducible repeat (first | refine blk_drewN ?_ _ | refine blk_drew ?_ | refine blk_alloc ?_ _)); refine blk_far ?_ NB192_205.out _; (with_reducible repeat (first | refine blk_drewN ?_ _ | refine blk_drew ?_ | refine blk_alloc ?_ _)); refine blk_far ?_ NB192_205.out _; (with_reducible repeat (first | refine blk_drewN ?_ _ | refine blk_drew ?_ | refine blk_alloc ?_ _)); exact BK192.out⟩
                  have n3_ : Aside0 ((((w23.setCell ⟨gb205, 0, none⟩ (.int .i64 ((rd_T38 t194 x45_1).f0))).setCell ⟨gb205, 1, none⟩ (.int .i64 ((rd_T38 t194 x45_1).f1))).setCell ⟨gb205, 2, none⟩ (.int .i64 ((rd_T38 t194 x45_1).f2))).heap[gb205]? = some (.cells #[.int .i64 ((rd_T38 t194 x45_1).f0), .int .i64 ((rd_T38 t194 x45_1).f1), .int .i64 ((rd_T38 t194 x45_1).f2)] 38 (0, 0))) := ⟨by (with_reducible repeat (first | refine blk_drewN ?_ _ | refine blk_drew ?_ | refine blk_alloc ?_ _)); refine blk_put (cs := #[.int .i64 ((rd_T38 t194 x45_1).f0), .int .i64 ((rd_T38 t194 x45_1).f1), .int .i64 0]) ?_ 2 _ rfl; (with_reducible repeat (first | refine blk_drewN ?_ _ | refine blk_drew ?_ | refine blk_alloc ?_ _)); refine blk_put (cs := #[.int .i64 ((rd_T38 t194 x45_1).f0), .int .i64 0, .int .i64 0]) ?_ 1 _ rfl; (with_reducible repeat (first | refine blk_drewN ?_ _ | refine blk_drew ?_ | refine blk_alloc ?_ _)); refine blk_put (cs := #[.int .i64 0, .int .i64 0, .int .i64 0]) ?_ 0 _ rfl; (with_reducible repeat (first | refine blk_drewN ?_ _ | refine blk_drew ?_ | refine blk_alloc ?_ _)); exact BK205.out⟩
                  have n4_ : Aside0 (Below w.heap.size w (((w23.setCell ⟨gb205, 0, none⟩ (.int .i64 ((rd_T38 t194 x45_1).f0))).setCell ⟨gb205, 1, none⟩ (.int .i64 ((rd_T38 t194 x45_1).f1))).setCell ⟨gb205, 2, none⟩ (.int .i64 ((rd_T38 t194 x45_1).f2)))) := ⟨by repeat (first | (with_reducible first | exact HB.out | apply below_alloc | apply pw_below_drewN | apply below_drew1 | refine below_set ?_ GE192.out | refine below_set ?_ GE205.out) | exact HB.out)⟩
                  (try clear HO_11)
                  (try clear HO_43)
                  (try clear BK192)
                  (try clear BK205)
                  (try clear HB)
                  generalize (((w23.setCell ⟨gb205, 0, none⟩ (.int .i64 ((rd_T38 t194 x45_1).f0))).setCell ⟨gb205, 1, none⟩ (.int .i64 ((rd_T38 t194 x45_1).f1))).setCell ⟨gb205, 2, none⟩ (.int .i64 ((rd_T38 t194 x45_1).f2))) = w26 at n0_ n1_ n2_ n3_ n4_ ⊢
                  have HO_11 := n0_
                  have HO_43 := n1_
                  have BK192 := n2_
                  have BK205 := n3_
                  have HB := n4_
                  clear n0_ n1_ n2_ n3_ n4_
                  have n0_ := Aside0.mk (Kd.R_drew HO_11.out)
                  have n1_ := Aside0.mk (Kd.R_drew HO_43.out)
                  have n2_ := Aside0.mk (blk_drew BK192.out)
                  have n3_ := Aside0.mk (blk_drew BK205.out)
                  have n4_ := Aside0.mk (below_drew1 HB.out)
                  clear HO_11
                  clear HO_43
                  clear BK192
                  clear BK205
                  clear HB
                  have HO_11 := n0_
                  have HO_43 := n1_
                  have BK192 := n2_
                  have BK205 := n3_
                  have HB := n4_
                  clear n0_ n1_ n2_ n3_ n4_
                  refine start_ (n := 10) (S := fun w' => w'.cell? ⟨gb205, 0, none⟩ = some (.int .i64 ((rd_T38 t194 x45_1).f0)) ∧ w'.cell? ⟨gb205, 1, none⟩ = some (.int .i64 ((rd_T38 t194 x45_1).f1)) ∧ w'.cell? ⟨gb205, 2, none⟩ = some (.int .i64 ((rd_T38 t194 x45_1).f2))) (ds := []) #[false, false, false, false, false, false, false, false, false, false] (by kernel_rfl) rfl rfl ⟨(blk_cell BK205.out 0).trans rfl, (blk_cell BK205.out 1).trans rfl, (blk_cell BK205.out 2).trans rfl⟩ (fun hHeld => ?_); refine with_tabW arrearslaw10_LevelAdds.tab12 arrearslaw10_LevelAdds.bits12 (fun HT_ HW_ => ?_)
                  generalize w26.drew = w27 at HO_11 HO_43 BK192 BK205 HB hHeld ⊢
                  refine pure_ (i := 0) (N := some 50) (v := ?_) (a' := ?_) #[true, false, false, false, false, false, false, false, false, false] rfl rfl (any_of HT_.out (by kernel_rfl)) (fun _ _ _ h => h) (Or.inl ⟨by rfl, ?_⟩) ?_ ?_
                  rotate_left
                  · intro w'
                    go_simp
                    with_reducible rfl
                  rotate_left
                  · simp only [Act.put, List.setIfInBounds_toArray, List.set_cons_zero, List.set_cons_succ, i64_w, i32_w]
                    rfl
                  refine pure_ (i := 1) (N := some 51) (v := ?_) (a' := ?_) #[true, true, false, false, false, false, false, false, false, false] rfl rfl (any_of HT_.out (by kernel_rfl)) (fun _ _ _ h => h) (Or.inl ⟨by rfl, ?_⟩) ?_ ?_
                  rotate_left
                  · intro w'
                    go_simp
                    with_reducible rfl
                  rotate_left
                  · simp only [Act.put, List.setIfInBounds_toArray, List.set_cons_zero, List.set_cons_succ, i64_w, i32_w]
                    rfl
                  refine pure_ (i := 4) (N := some 54) (v := ?_) (a' := ?_) #[true, true, false, false, true, false, false, false, false, false] rfl rfl (any_of HT_.out (by kernel_rfl)) (fun _ _ _ h => h) (Or.inl ⟨by rfl, ?_⟩) ?_ ?_
                  rotate_left
                  · intro w'
                    go_simp
                    with_reducible rfl
                  rotate_left
                  · simp only [Act.put, List.setIfInBounds_toArray, List.set_cons_zero, List.set_cons_succ, i64_w, i32_w]
                    rfl
                  refine take_ (i := 2) (N := some 52) (v := ?_) (a' := ?_) #[true, true, true, false, true, false, false, false, false, false] rfl rfl (take_ofW HT_.out HW_.out (by kernel_rfl)) (fun _ _ _ h => h) (Or.inl ⟨by rfl, ?_⟩) hHeld ?_ ?_
                  rotate_left
                  · rintro w' ⟨s0, s1, s2⟩
                    go_simp
                    with_reducible rfl
                  rotate_left
                  · simp only [Act.put, List.setIfInBounds_toArray, List.set_cons_zero, List.set_cons_succ, i64_w, i32_w]
                    rfl
                  refine pure_ (i := 3) (N := some 53) (v := ?_) (a' := ?_) #[true, true, true, true, true, false, false, false, false, false] rfl rfl (any_of HT_.out (by kernel_rfl)) (fun _ _ _ h => h) (Or.inl ⟨by rfl, ?_⟩) ?_ ?_
                  rotate_left
                  · intro w'
                    go_simp
                    with_reducible rfl
                  rotate_left
                  · simp only [Act.put, List.setIfInBounds_toArray, List.set_cons_zero, List.set_cons_succ, i64_w, i32_w]
                    rfl
                  refine take_ (i := 5) (N := some 55) (v := ?_) (a' := ?_) #[true, true, true, true, true, true, false, false, false, false] rfl rfl (take_ofW HT_.out HW_.out (by kernel_rfl)) (fun _ _ _ h => h) (Or.inl ⟨by rfl, ?_⟩) hHeld ?_ ?_
                  rotate_left
                  · rintro w' ⟨s0, s1, s2⟩
                    go_simp
                    with_reducible rfl
                  rotate_left
                  · simp only [Act.put, List.setIfInBounds_toArray, List.set_cons_zero, List.set_cons_succ, i64_w, i32_w]
                    rfl
                  refine one_ (i := 6) (N := some 56) #[true, true, true, true, true, true, true, false, false, false] rfl rfl (one_of HT_.out (by kernel_rfl)) (by decide) (fun K hK => ?_)
                  refine goes_ Try.func13 (by kernel_rfl) rfl #[.agg #[.int .i64 ((rd_T38 t194 x45_1).f0), .int .i64 ((rd_T38 t194 x45_1).f1), .int .i64 ((rd_T38 t194 x45_1).f2)]] (by rfl) rfl rfl (by (try simp only [List.map_toArray, List.map_cons, List.map_nil]); first | done | rfl | (simp only [List.length_drop, List.length_take]; rfl)) ?_
                  with_reducible refine (level_Row_Pay.calls ((rd_T38 t194 x45_1).f0) ((rd_T38 t194 x45_1).f1) ((rd_T38 t194 x45_1).f2) t206 _ A20.out).mono ?_
                  rintro e w28 ⟨rfl, hb⟩
                  refine ⟨_, rfl, ?_⟩
                  have n0_ := Aside0.mk (Kd.R_below (by (with_reducible repeat (first | apply Kd.R_alloc | apply Kd.R_drewN | apply Kd.R_drew)); exact HO_11.out) hb)
                  have n1_ := Aside0.mk (Kd.R_below (by (with_reducible repeat (first | apply Kd.R_alloc | apply Kd.R_drewN | apply Kd.R_drew)); exact HO_43.out) hb)
                  have n2_ := Aside0.mk (blk_below (g := gb192) (o := .cells #[.int .u32 a1_0, .int .u8 a1_1] 25 (0, 0)) (by (with_reducible repeat (first | refine blk_drewN ?_ _ | refine blk_drew ?_ | refine blk_alloc ?_ _)); exact BK192.out) hb)
                  have n3_ := Aside0.mk (blk_below (g := gb205) (o := .cells #[.int .i64 ((rd_T38 t194 x45_1).f0), .int .i64 ((rd_T38 t194 x45_1).f1), .int .i64 ((rd_T38 t194 x45_1).f2)] 38 (0, 0)) (by (with_reducible repeat (first | refine blk_drewN ?_ _ | refine blk_drew ?_ | refine blk_alloc ?_ _)); exact BK205.out) hb)
                  have n4_ := Aside0.mk (below_step (by repeat (first | (with_reducible first | exact HB.out | apply below_alloc | apply pw_below_drewN | apply below_drew1 | refine below_set ?_ GE192.out | refine below_set ?_ GE205.out) | exact HB.out)) hb)
                  clear HO_11
                  clear HO_43
                  clear BK192
                  clear BK205
                  clear HB
                  have HO_11 := n0_
                  have HO_43 := n1_
                  have BK192 := n2_
                  have BK205 := n3_
                  have HB := n4_
                  clear n0_ n1_ n2_ n3_ n4_
                  (try clear hb)
                  (try clear hb2)
                  (try clear hk)
                  (try clear hi)
                  refine hK.out _ _ ⟨(blk_cell BK205.out 0).trans rfl, (blk_cell BK205.out 1).trans rfl, (blk_cell BK205.out 2).trans rfl⟩ (fun hHeld => ?_)
                  clear hK K
                  refine norm_ (a' := ?_) ?_ ?_
                  rotate_left
                  · show Act.put _ (some 56) _ = _
                    simp only [Act.put, List.setIfInBounds_toArray, List.set_cons_zero, List.set_cons_succ, i64_w, i32_w]
                    rfl
                  refine pure_ (i := 7) (N := some 57) (v := ?_) (a' := ?_) #[true, true, true, true, true, true, true, true, false, false] rfl rfl (any_of HT_.out (by kernel_rfl)) (fun _ _ _ h => h) (Or.inl ⟨by rfl, ?_⟩) ?_ ?_
                  rotate_left
                  · intro w'
                    go_simp
                    with_reducible rfl
                  rotate_left
                  · simp only [Act.put, List.setIfInBounds_toArray, List.set_cons_zero, List.set_cons_succ, i64_w, i32_w]
                    rfl
                  refine pure_ (i := 8) (N := some 12) (v := ?_) (a' := ?_) #[true, true, true, true, true, true, true, true, true, false] rfl rfl (any_of HT_.out (by kernel_rfl)) (fun _ _ _ h => h) (Or.inl ⟨by rfl, ?_⟩) ?_ ?_
                  rotate_left
                  · intro w'
                    go_simp
                    with_reducible rfl
                  rotate_left
                  · simp only [Act.put, List.setIfInBounds_toArray, List.set_cons_zero, List.set_cons_succ, i64_w, i32_w]
                    rfl
                  refine pure_ (i := 9) (N := some 13) (v := ?_) (a' := ?_) #[true, true, true, true, true, true, true, true, true, true] rfl rfl (any_of HT_.out (by kernel_rfl)) (fun _ _ _ h => h) (Or.inl ⟨by rfl, ?_⟩) ?_ ?_
                  rotate_left
                  · intro w'
                    go_simp
                    with_reducible rfl
                  rotate_left
                  · simp only [Act.put, List.setIfInBounds_toArray, List.set_cons_zero, List.set_cons_succ, i64_w, i32_w]
                    rfl
                  refine done_ (done_of HT_.out (by kernel_rfl)) ?_
                  (try simp only [errW_none, errW_some])
                  have hcz29_0 : w28.cell? ⟨gb205, 0, none⟩ = some (.int .i64 ((rd_T38 t194 x45_1).f0)) := (blk_cell BK205.out 0).trans rfl
                  have hcz29_1 : w28.cell? ⟨gb205, 1, none⟩ = some (.int .i64 ((rd_T38 t194 x45_1).f1)) := (blk_cell BK205.out 1).trans rfl
                  have hcz29_2 : w28.cell? ⟨gb205, 2, none⟩ = some (.int .i64 ((rd_T38 t194 x45_1).f2)) := (blk_cell BK205.out 2).trans rfl
                  have hfz29_0 := blk_frozen BK205.out 0
                  have hfz29_1 := blk_frozen BK205.out 1
                  have hfz29_2 := blk_frozen BK205.out 2
                  try go_wp2_with (first | ((with_reducible refine gate_callee (f := 13) rfl ?_); refine goesL_ (some 59) rfl rfl Try.func13 (by kernel_rfl) rfl #[.agg #[.int .i64 ((rd_T38 t194 x45_1).f0), .int .i64 ((rd_T38 t194 x45_1).f1), .int .i64 ((rd_T38 t194 x45_1).f2)]] rfl (by (try simp only [List.map_toArray, List.map_cons, List.map_nil]); first | done | rfl | (simp only [List.length_drop, List.length_take]; rfl)) ?_; (with_reducible refine (level_Row_Pay.calls ((rd_T38 t194 x45_1).f0) ((rd_T38 t194 x45_1).f1) ((rd_T38 t194 x45_1).f2) t207 _ A21.out).mono ?_); rintro e w30 ⟨rfl, hb⟩; refine ⟨_, rfl, ?_⟩; have n0_ := Aside0.mk (Kd.R_below (by (with_reducible repeat (first | apply Kd.R_alloc | apply Kd.R_drewN | apply Kd.R_drew)); exact HO_11.out) hb); have n1_ := Aside0.mk (Kd.R_below (by (with_reducible repeat (first | apply Kd.R_alloc | apply Kd.R_drewN | apply Kd.R_drew)); exact HO_43.out) hb); have n2_ := Aside0.mk (blk_below (g := gb192) (o := .cells #[.int .u32 a1_0, .int .u8 a1_1] 25 (0, 0)) (by (with_reducible repeat (first | refine blk_drewN ?_ _ | refine blk_drew ?_ | refine blk_alloc ?_ _)); exact BK192.out) hb); have n3_ := Aside0.mk (blk_below (g := gb205) (o := .cells #[.int .i64 ((rd_T38 t194 x45_1).f0), .int .i64 ((rd_T38 t194 x45_1).f1), .int .i64 ((rd_T38 t194 x45_1).f2)] 38 (0, 0)) (by (with_reducible repeat (first | refine blk_drewN ?_ _ | refine blk_drew ?_ | refine blk_alloc ?_ _)); exact BK205.out) hb); have n4_ := Aside0.mk (below_step (by repeat (first | (with_reducible first | exact HB.out | apply below_alloc | apply pw_below_drewN | apply below_drew1 | refine below_set ?_ GE192.out | refine below_set ?_ GE205.out) | exact HB.out)) hb); clear HO_11; clear HO_43; clear BK192; clear BK205; clear HB; have HO_11 := n0_; have HO_43 := n1_; have BK192 := n2_; have BK205 := n3_; have HB := n4_; clear n0_ n1_ n2_ n3_ n4_; (try clear hb); (try clear hb2); (try clear hk); (try clear hi)))
                  go_ret
                  exact ⟨by first | rfl | (simp [errW_none, errW_some] <;> rfl) | (simp [*, errW_none, errW_some] <;> rfl), by repeat (first | (with_reducible first | exact HB.out | apply below_alloc | apply pw_below_drewN | apply below_drew1 | refine below_set ?_ GE192.out | refine below_set ?_ GE205.out) | exact HB.out)⟩
                · rw [if_neg c22] at H
                  have c22b0 : decide (t199 < t207) = false := decide_eq_false c22
                  clear c22
                  by_cases c31 : ((rd_T38 t194 x45_1).f1) < 0
                  · rw [if_pos c31] at H
                    have c31b0 : decide (((rd_T38 t194 x45_1).f1) < 0) = true := decide_eq_true c31
                    clear c31
                    obtain rfl := Option.some.inj H
                    have p204 : 0 ≤ (x45_1 : Int) := of_decide_eq_true (by first | (with_reducible assumption) | assumption)
                    have q204 : x45_1 < (t194.length : Int) := of_decide_eq_true (by first | (with_reducible assumption) | assumption)
                    obtain ⟨ad204, e204, hx204_0, hx204_1, hx204_2⟩ := at_T38 (Kd.R_reads' HO_43.out).2.2 x45_1 p204 q204
                    cases e204
                    replace p204 := eq_true p204
                    replace q204 := eq_true q204
                    try go_wp2_with (first | ((with_reducible refine gate_dst (N := 16) rfl ?_); (try (refine gate_guard (by rfl) ?_; dsimp only)); refine box_event ?hg (N := 16) ?hd (cs := #[.int .i64 0, .int .i64 0, .int .i64 0]) (t := 38) ?hr ?_; (case hd => rfl); (case hg => rfl); (case hr => first | (go_simp; done) | (go_simp; rfl)); intro gb205 hg w32 hbox hb; have n0_ := Aside0.mk (Kd.R_below (by (with_reducible repeat (first | apply Kd.R_alloc | apply Kd.R_drewN | apply Kd.R_drew)); exact HO_11.out) hb); have n1_ := Aside0.mk (Kd.R_below (Kd.R_elderB (by (with_reducible repeat (first | apply Kd.R_alloc | apply Kd.R_drewN | apply Kd.R_drew)); exact HO_43.out) gb205 (Nat.le_of_eq hg.symm)) hb); have n2_ := Aside0.mk (blk_below (g := gb192) (o := .cells #[.int .u32 a1_0, .int .u8 a1_1] 25 (0, 0)) (by (with_reducible repeat (first | refine blk_drewN ?_ _ | refine blk_drew ?_ | refine blk_alloc ?_ _)); exact BK192.out) hb); have n3_ := Aside0.mk (below_step (by repeat (first | (with_reducible first | exact HB.out | apply below_alloc | apply pw_below_drewN | apply below_drew1 | refine below_set ?_ GE192.out) | exact HB.out)) hb); have n4_ := Aside0.mk (hbox); have n5_ := Aside0.mk ((by rw [hg]; exact (below_size (by repeat (first | (with_reducible first | exact HB.out | apply below_alloc | apply pw_below_drewN | apply below_drew1 | refine below_set ?_ GE192.out) | exact HB.out))) : w.heap.size ≤ gb205)); have n6_ := Aside0.mk ((by rw [hg]; exact (below_size (by repeat (first | (with_reducible first | exact HB.out | apply below_alloc | apply pw_below_drewN | apply below_drew1 | refine below_set ?_ GE192.out) | exact HB.out))) : w.heap.size ≤ gb205)); have n7_ := Aside0.mk ((by rw [hg]; exact Nat.ne_of_lt (blk_lt (g := gb192) (o := .cells #[.int .u32 a1_0, .int .u8 a1_1] 25 (0, 0)) (by (with_reducible repeat (first | refine blk_drewN ?_ _ | refine blk_drew ?_ | refine blk_alloc ?_ _)); exact BK192.out)) : gb192 ≠ gb205)); have n8_ := Aside0.mk ((by rw [hg]; exact Nat.ne_of_gt (blk_lt (g := gb192) (o := .cells #[.int .u32 a1_0, .int .u8 a1_1] 25 (0, 0)) (by (with_reducible repeat (first | refine blk_drewN ?_ _ | refine blk_drew ?_ | refine blk_alloc ?_ _)); exact BK192.out)) : gb205 ≠ gb192)); clear HO_11; clear HO_43; clear BK192; clear HB; have HO_11 := n0_; have HO_43 := n1_; have BK192 := n2_; have HB := n3_; have BK205 := n4_; have GW205 := n5_; have GE205 := n6_; have NB192_205 := n7_; have NB205_192 := n8_; clear n0_ n1_ n2_ n3_ n4_ n5_ n6_ n7_ n8_; clear hb hbox hg; have hnb33 := NB205_192.out; have hnc33 := NB192_205.out; have hcz34_0 : w32.cell? ⟨gb205, 0, none⟩ = some (.int .i64 0) := (blk_cell BK205.out 0).trans rfl; have hcz34_1 : w32.cell? ⟨gb205, 1, none⟩ = some (.int .i64 0) := (blk_cell BK205.out 1).trans rfl; have hcz34_2 : w32.cell? ⟨gb205, 2, none⟩ = some (.int .i64 0) := (blk_cell BK205.out 2).trans rfl; have hfz34_0 := blk_frozen BK205.out 0; have hfz34_1 := blk_frozen BK205.out 1; have hfz34_2 := blk_frozen BK205.out 2))
                    have n0_ : Aside0 (Kd.R (Kd.int .i64) 22 (((w32.setCell ⟨gb205, 0, none⟩ (.int .i64 ((rd_T38 t194 x45_1).f0))).setCell ⟨gb205, 1, none⟩ (.int .i64 ((rd_T38 t194 x45_1).f1))).setCell ⟨gb205, 2, none⟩ (.int .i64 ((rd_T38 t194 x45_1).f2))) w.heap.size (fun _ => True) v202 t201) := ⟨by (with_reducible repeat (first | apply Kd.R_alloc | apply Kd.R_drewN | apply Kd.R_drew)); exact Kd.R_mono (Kd.R_far (p := ⟨gb205, 2, none⟩) (Kd.R_far (p := ⟨gb205, 1, none⟩) (Kd.R_far (p := ⟨gb205, 0, none⟩) (Kd.R_types HO_11.out BK205.out (by decide)) (fun _ hk => hk.2) (.int .i64 ((rd_T38 t194 x45_1).f0))) (fun _ hk => hk.2) (.int .i64 ((rd_T38 t194 x45_1).f1))) (fun _ hk => hk.2) (.int .i64 ((rd_T38 t194 x45_1).f2))) (fun _ hk => trivial)⟩
                    have n1_ : Aside0 (Kd.R k38 38 (((w32.setCell ⟨gb205, 0, none⟩ (.int .i64 ((rd_T38 t194 x45_1).f0))).setCell ⟨gb205, 1, none⟩ (.int .i64 ((rd_T38 t194 x45_1).f1))).setCell ⟨gb205, 2, none⟩ (.int .i64 ((rd_T38 t194 x45_1).f2))) w.heap.size (fun k_ => k_ ≠ gb205) (.slice (some ad204) t194.length co15) t194) := ⟨by (with_reducible repeat (first | apply Kd.R_alloc | apply Kd.R_drewN | apply Kd.R_drew)); exact Kd.R_mono (Kd.R_far (p := ⟨gb205, 2, none⟩) (Kd.R_far (p := ⟨gb205, 1, none⟩) (Kd.R_far (p := ⟨gb205, 0, none⟩) (Kd.R_mono HO_43.out (fun k_ hk => (⟨hk, hk.2⟩ : _ ∧ k_ ≠ gb205))) (fun _ hk => hk.2) (.int .i64 ((rd_T38 t194 x45_1).f0))) (fun _ hk => hk.2) (.int .i64 ((rd_T38 t194 x45_1).f1))) (fun _ hk => hk.2) (.int .i64 ((rd_T38 t194 x45_1).f2))) (fun _ hk => hk.1.2)⟩
                    have n2_ : Aside0 ((((w32.setCell ⟨gb205, 0, none⟩ (.int .i64 ((rd_T38 t194 x45_1).f0))).setCell ⟨gb205, 1, none⟩ (.int .i64 ((rd_T38 t194 x45_1).f1))).setCell ⟨gb205, 2, none⟩ (.int .i64 ((rd_T38 t194 x45_1).f2))).heap[gb192]? = some (.cells #[.int .u32 a1_0, .int .u8 a1_1] 25 (0, 0))) := ⟨by (with_reducible repeat (first | refine blk_drewN ?_ _ | refine blk_drew ?_ | refine blk_alloc ?_ _)); refine blk_far ?_ NB192_205.out _; (with_reducible repeat (first | refine blk_drewN ?_ _ | refine blk_drew ?_ | refine blk_alloc ?_ _)); refine blk_far ?_ NB192_205.out _; (with_reducible repeat (first | refine blk_drewN ?_ _ | refine blk_drew ?_ | refine blk_alloc ?_ _)); refine blk_far ?_ NB192_205.out _; (with_reducible repeat (first | refine blk_drewN ?_ _ | refine blk_drew ?_ | refine blk_alloc ?_ _)); exact BK192.out⟩
                    have n3_ : Aside0 ((((w32.setCell ⟨gb205, 0, none⟩ (.int .i64 ((rd_T38 t194 x45_1).f0))).setCell ⟨gb205, 1, none⟩ (.int .i64 ((rd_T38 t194 x45_1).f1))).setCell ⟨gb205, 2, none⟩ (.int .i64 ((rd_T38 t194 x45_1).f2))).heap[gb205]? = some (.cells #[.int .i64 ((rd_T38 t194 x45_1).f0), .int .i64 ((rd_T38 t194 x45_1).f1), .int .i64 ((rd_T38 t194 x45_1).f2)] 38 (0, 0))) := ⟨by (with_reducible repeat (first | refine blk_drewN ?_ _ | refine blk_drew ?_ | refine blk_alloc ?_ _)); refine blk_put (cs := #[.int .i64 ((rd_T38 t194 x45_1).f0), .int .i64 ((rd_T38 t194 x45_1).f1), .int .i64 0]) ?_ 2 _ rfl; (with_reducible repeat (first | refine blk_drewN ?_ _ | refine blk_drew ?_ | refine blk_alloc ?_ _)); refine blk_put (cs := #[.int .i64 ((rd_T38 t194 x45_1).f0), .int .i64 0, .int .i64 0]) ?_ 1 _ rfl; (with_reducible repeat (first | refine blk_drewN ?_ _ | refine blk_drew ?_ | refine blk_alloc ?_ _)); refine blk_put (cs := #[.int .i64 0, .int .i64 0, .int .i64 0]) ?_ 0 _ rfl; (with_reducible repeat (first | refine blk_drewN ?_ _ | refine blk_drew ?_ | refine blk_alloc ?_ _)); exact BK205.out⟩
                    have n4_ : Aside0 (Below w.heap.size w (((w32.setCell ⟨gb205, 0, none⟩ (.int .i64 ((rd_T38 t194 x45_1).f0))).setCell ⟨gb205, 1, none⟩ (.int .i64 ((rd_T38 t194 x45_1).f1))).setCell ⟨gb205, 2, none⟩ (.int .i64 ((rd_T38 t194 x45_1).f2)))) := ⟨by repeat (first | (with_reducible first | exact HB.out | apply below_alloc | apply pw_below_drewN | apply below_drew1 | refine below_set ?_ GE192.out | refine below_set ?_ GE205.out) | exact HB.out)⟩
                    (try clear HO_11)
                    (try clear HO_43)
                    (try clear BK192)
                    (try clear BK205)
                    (try clear HB)
                    generalize (((w32.setCell ⟨gb205, 0, none⟩ (.int .i64 ((rd_T38 t194 x45_1).f0))).setCell ⟨gb205, 1, none⟩ (.int .i64 ((rd_T38 t194 x45_1).f1))).setCell ⟨gb205, 2, none⟩ (.int .i64 ((rd_T38 t194 x45_1).f2))) = w35 at n0_ n1_ n2_ n3_ n4_ ⊢
                    have HO_11 := n0_
                    have HO_43 := n1_
                    have BK192 := n2_
                    have BK205 := n3_
                    have HB := n4_
                    clear n0_ n1_ n2_ n3_ n4_
                    have n0_ := Aside0.mk (Kd.R_drew HO_11.out)
                    have n1_ := Aside0.mk (Kd.R_drew HO_43.out)
                    have n2_ := Aside0.mk (blk_drew BK192.out)
                    have n3_ := Aside0.mk (blk_drew BK205.out)
                    have n4_ := Aside0.mk (below_drew1 HB.out)
                    clear HO_11
                    clear HO_43
                    clear BK192
                    clear BK205
                    clear HB
                    have HO_11 := n0_
                    have HO_43 := n1_
                    have BK192 := n2_
                    have BK205 := n3_
                    have HB := n4_
                    clear n0_ n1_ n2_ n3_ n4_
                    refine start_ (n := 10) (S := fun w' => w'.cell? ⟨gb205, 0, none⟩ = some (.int .i64 ((rd_T38 t194 x45_1).f0)) ∧ w'.cell? ⟨gb205, 1, none⟩ = some (.int .i64 ((rd_T38 t194 x45_1).f1)) ∧ w'.cell? ⟨gb205, 2, none⟩ = some (.int .i64 ((rd_T38 t194 x45_1).f2))) (ds := []) #[false, false, false, false, false, false, false, false, false, false] (by kernel_rfl) rfl rfl ⟨(blk_cell BK205.out 0).trans rfl, (blk_cell BK205.out 1).trans rfl, (blk_cell BK205.out 2).trans rfl⟩ (fun hHeld => ?_); refine with_tabW arrearslaw10_LevelAdds.tab12 arrearslaw10_LevelAdds.bits12 (fun HT_ HW_ => ?_)
                    generalize w35.drew = w36 at HO_11 HO_43 BK192 BK205 HB hHeld ⊢
                    refine pure_ (i := 0) (N := some 50) (v := ?_) (a' := ?_) #[true, false, false, false, false, false, false, false, false, false] rfl rfl (any_of HT_.out (by kernel_rfl)) (fun _ _ _ h => h) (Or.inl ⟨by rfl, ?_⟩) ?_ ?_
                    rotate_left
                    · intro w'
                      go_simp
                      with_reducible rfl
                    rotate_left
                    · simp only [Act.put, List.setIfInBounds_toArray, List.set_cons_zero, List.set_cons_succ, i64_w, i32_w]
                      rfl
                    refine pure_ (i := 1) (N := some 51) (v := ?_) (a' := ?_) #[true, true, false, false, false, false, false, false, false, false] rfl rfl (any_of HT_.out (by kernel_rfl)) (fun _ _ _ h => h) (Or.inl ⟨by rfl, ?_⟩) ?_ ?_
                    rotate_left
                    · intro w'
                      go_simp
                      with_reducible rfl
                    rotate_left
                    · simp only [Act.put, List.setIfInBounds_toArray, List.set_cons_zero, List.set_cons_succ, i64_w, i32_w]
                      rfl
                    refine pure_ (i := 4) (N := some 54) (v := ?_) (a' := ?_) #[true, true, false, false, true, false, false, false, false, false] rfl rfl (any_of HT_.out (by kernel_rfl)) (fun _ _ _ h => h) (Or.inl ⟨by rfl, ?_⟩) ?_ ?_
                    rotate_left
                    · intro w'
                      go_simp
                      with_reducible rfl
                    rotate_left
                    · simp only [Act.put, List.setIfInBounds_toArray, List.set_cons_zero, List.set_cons_succ, i64_w, i32_w]
                      rfl
                    refine take_ (i := 2) (N := some 52) (v := ?_) (a' := ?_) #[true, true, true, false, true, false, false, false, false, false] rfl rfl (take_ofW HT_.out HW_.out (by kernel_rfl)) (fun _ _ _ h => h) (Or.inl ⟨by rfl, ?_⟩) hHeld ?_ ?_
                    rotate_left
                    · rintro w' ⟨s0, s1, s2⟩
                      go_simp
                      with_reducible rfl
                    rotate_left
                    · simp only [Act.put, List.setIfInBounds_toArray, List.set_cons_zero, List.set_cons_succ, i64_w, i32_w]
                      rfl
                    refine pure_ (i := 3) (N := some 53) (v := ?_) (a' := ?_) #[true, true, true, true, true, false, false, false, false, false] rfl rfl (any_of HT_.out (by kernel_rfl)) (fun _ _ _ h => h) (Or.inl ⟨by rfl, ?_⟩) ?_ ?_
                    rotate_left
                    · intro w'
                      go_simp
                      with_reducible rfl
                    rotate_left
                    · simp only [Act.put, List.setIfInBounds_toArray, List.set_cons_zero, List.set_cons_succ, i64_w, i32_w]
                      rfl
                    refine take_ (i := 5) (N := some 55) (v := ?_) (a' := ?_) #[true, true, true, true, true, true, false, false, false, false] rfl rfl (take_ofW HT_.out HW_.out (by kernel_rfl)) (fun _ _ _ h => h) (Or.inl ⟨by rfl, ?_⟩) hHeld ?_ ?_
                    rotate_left
                    · rintro w' ⟨s0, s1, s2⟩
                      go_simp
                      with_reducible rfl
                    rotate_left
                    · simp only [Act.put, List.setIfInBounds_toArray, List.set_cons_zero, List.set_cons_succ, i64_w, i32_w]
                      rfl
                    refine one_ (i := 6) (N := some 56) #[true, true, true, true, true, true, true, false, false, false] rfl rfl (one_of HT_.out (by kernel_rfl)) (by decide) (fun K hK => ?_)
                    refine goes_ Try.func13 (by kernel_rfl) rfl #[.agg #[.int .i64 ((rd_T38 t194 x45_1).f0), .int .i64 ((rd_T38 t194 x45_1).f1), .int .i64 ((rd_T38 t194 x45_1).f2)]] (by rfl) rfl rfl (by (try simp only [List.map_toArray, List.map_cons, List.map_nil]); first | done | rfl | (simp only [List.length_drop, List.length_take]; rfl)) ?_
                    with_reducible refine (level_Row_Pay.calls ((rd_T38 t194 x45_1).f0) ((rd_T38 t194 x45_1).f1) ((rd_T38 t194 x45_1).f2) t206 _ A20.out).mono ?_
                    rintro e w37 ⟨rfl, hb⟩
                    refine ⟨_, rfl, ?_⟩
                    have n0_ := Aside0.mk (Kd.R_below (by (with_reducible repeat (first | apply Kd.R_alloc | apply Kd.R_drewN | apply Kd.R_drew)); exact HO_11.out) hb)
                    have n1_ := Aside0.mk (Kd.R_below (by (with_reducible repeat (first | apply Kd.R_alloc | apply Kd.R_drewN | apply Kd.R_drew)); exact HO_43.out) hb)
                    have n2_ := Aside0.mk (blk_below (g := gb192) (o := .cells #[.int .u32 a1_0, .int .u8 a1_1] 25 (0, 0)) (by (with_reducible repeat (first | refine blk_drewN ?_ _ | refine blk_drew ?_ | refine blk_alloc ?_ _)); exact BK192.out) hb)
                    have n3_ := Aside0.mk (blk_below (g := gb205) (o := .cells #[.int .i64 ((rd_T38 t194 x45_1).f0), .int .i64 ((rd_T38 t194 x45_1).f1), .int .i64 ((rd_T38 t194 x45_1).f2)] 38 (0, 0)) (by (with_reducible repeat (first | refine blk_drewN ?_ _ | refine blk_drew ?_ | refine blk_alloc ?_ _)); exact BK205.out) hb)
                    have n4_ := Aside0.mk (below_step (by repeat (first | (with_reducible first | exact HB.out | apply below_alloc | apply pw_below_drewN | apply below_drew1 | refine below_set ?_ GE192.out | refine below_set ?_ GE205.out) | exact HB.out)) hb)
                    clear HO_11
                    clear HO_43
                    clear BK192
                    clear BK205
                    clear HB
                    have HO_11 := n0_
                    have HO_43 := n1_
                    have BK192 := n2_
                    have BK205 := n3_
                    have HB := n4_
                    clear n0_ n1_ n2_ n3_ n4_
                    (try clear hb)
                    (try clear hb2)
                    (try clear hk)
                    (try clear hi)
                    refine hK.out _ _ ⟨(blk_cell BK205.out 0).trans rfl, (blk_cell BK205.out 1).trans rfl, (blk_cell BK205.out 2).trans rfl⟩ (fun hHeld => ?_)
                    clear hK K
                    refine norm_ (a' := ?_) ?_ ?_
                    rotate_left
                    · show Act.put _ (some 56) _ = _
                      simp only [Act.put, List.setIfInBounds_toArray, List.set_cons_zero, List.set_cons_succ, i64_w, i32_w]
                      rfl
                    refine pure_ (i := 7) (N := some 57) (v := ?_) (a' := ?_) #[true, true, true, true, true, true, true, true, false, false] rfl rfl (any_of HT_.out (by kernel_rfl)) (fun _ _ _ h => h) (Or.inl ⟨by rfl, ?_⟩) ?_ ?_
                    rotate_left
                    · intro w'
                      go_simp
                      with_reducible rfl
                    rotate_left
                    · simp only [Act.put, List.setIfInBounds_toArray, List.set_cons_zero, List.set_cons_succ, i64_w, i32_w]
                      rfl
                    refine pure_ (i := 8) (N := some 12) (v := ?_) (a' := ?_) #[true, true, true, true, true, true, true, true, true, false] rfl rfl (any_of HT_.out (by kernel_rfl)) (fun _ _ _ h => h) (Or.inl ⟨by rfl, ?_⟩) ?_ ?_
                    rotate_left
                    · intro w'
                      go_simp
                      with_reducible rfl
                    rotate_left
                    · simp only [Act.put, List.setIfInBounds_toArray, List.set_cons_zero, List.set_cons_succ, i64_w, i32_w]
                      rfl
                    refine pure_ (i := 9) (N := some 13) (v := ?_) (a' := ?_) #[true, true, true, true, true, true, true, true, true, true] rfl rfl (any_of HT_.out (by kernel_rfl)) (fun _ _ _ h => h) (Or.inl ⟨by rfl, ?_⟩) ?_ ?_
                    rotate_left
                    · intro w'
                      go_simp
                      with_reducible rfl
                    rotate_left
                    · simp only [Act.put, List.setIfInBounds_toArray, List.set_cons_zero, List.set_cons_succ, i64_w, i32_w]
                      rfl
                    refine done_ (done_of HT_.out (by kernel_rfl)) ?_
                    (try simp only [errW_none, errW_some])
                    have hcz38_0 : w37.cell? ⟨gb205, 0, none⟩ = some (.int .i64 ((rd_T38 t194 x45_1).f0)) := (blk_cell BK205.out 0).trans rfl
                    have hcz38_1 : w37.cell? ⟨gb205, 1, none⟩ = some (.int .i64 ((rd_T38 t194 x45_1).f1)) := (blk_cell BK205.out 1).trans rfl
                    have hcz38_2 : w37.cell? ⟨gb205, 2, none⟩ = some (.int .i64 ((rd_T38 t194 x45_1).f2)) := (blk_cell BK205.out 2).trans rfl
                    have hfz38_0 := blk_frozen BK205.out 0
                    have hfz38_1 := blk_frozen BK205.out 1
                    have hfz38_2 := blk_frozen BK205.out 2
                    try go_wp2_with (first | ((with_reducible refine gate_callee (f := 13) rfl ?_); refine goesL_ (some 59) rfl rfl Try.func13 (by kernel_rfl) rfl #[.agg #[.int .i64 ((rd_T38 t194 x45_1).f0), .int .i64 ((rd_T38 t194 x45_1).f1), .int .i64 ((rd_T38 t194 x45_1).f2)]] rfl (by (try simp only [List.map_toArray, List.map_cons, List.map_nil]); first | done | rfl | (simp only [List.length_drop, List.length_take]; rfl)) ?_; (with_reducible refine (level_Row_Pay.calls ((rd_T38 t194 x45_1).f0) ((rd_T38 t194 x45_1).f1) ((rd_T38 t194 x45_1).f2) t207 _ A21.out).mono ?_); rintro e w39 ⟨rfl, hb⟩; refine ⟨_, rfl, ?_⟩; have n0_ := Aside0.mk (Kd.R_below (by (with_reducible repeat (first | apply Kd.R_alloc | apply Kd.R_drewN | apply Kd.R_drew)); exact HO_11.out) hb); have n1_ := Aside0.mk (Kd.R_below (by (with_reducible repeat (first | apply Kd.R_alloc | apply Kd.R_drewN | apply Kd.R_drew)); exact HO_43.out) hb); have n2_ := Aside0.mk (blk_below (g := gb192) (o := .cells #[.int .u32 a1_0, .int .u8 a1_1] 25 (0, 0)) (by (with_reducible repeat (first | refine blk_drewN ?_ _ | refine blk_drew ?_ | refine blk_alloc ?_ _)); exact BK192.out) hb); have n3_ := Aside0.mk (blk_below (g := gb205) (o := .cells #[.int .i64 ((rd_T38 t194 x45_1).f0), .int .i64 ((rd_T38 t194 x45_1).f1), .int .i64 ((rd_T38 t194 x45_1).f2)] 38 (0, 0)) (by (with_reducible repeat (first | refine blk_drewN ?_ _ | refine blk_drew ?_ | refine blk_alloc ?_ _)); exact BK205.out) hb); have n4_ := Aside0.mk (below_step (by repeat (first | (with_reducible first | exact HB.out | apply below_alloc | apply pw_below_drewN | apply below_drew1 | refine below_set ?_ GE192.out | refine below_set ?_ GE205.out) | exact HB.out)) hb); clear HO_11; clear HO_43; clear BK192; clear BK205; clear HB; have HO_11 := n0_; have HO_43 := n1_; have BK192 := n2_; have BK205 := n3_; have HB := n4_; clear n0_ n1_ n2_ n3_ n4_; (try clear hb); (try clear hb2); (try clear hk); (try clear hi); have hcz40_0 : w39.cell? ⟨gb205, 0, none⟩ = some (.int .i64 ((rd_T38 t194 x45_1).f0)) := (blk_cell BK205.out 0).trans rfl; have hcz40_1 : w39.cell? ⟨gb205, 1, none⟩ = some (.int .i64 ((rd_T38 t194 x45_1).f1)) := (blk_cell BK205.out 1).trans rfl; have hcz40_2 : w39.cell? ⟨gb205, 2, none⟩ = some (.int .i64 ((rd_T38 t194 x45_1).f2)) := (blk_cell BK205.out 2).trans rfl; have hfz40_0 := blk_frozen BK205.out 0; have hfz40_1 := blk_frozen BK205.out 1; have hfz40_2 := blk_frozen BK205.out 2))
                    go_ret
                    exact ⟨by first | rfl | (simp [errW_none, errW_some] <;> rfl) | (simp [*, errW_none, errW_some] <;> rfl), by repeat (first | (with_reducible first | exact HB.out | apply below_alloc | apply pw_below_drewN | apply below_drew1 | refine below_set ?_ GE192.out | refine below_set ?_ GE205.out) | exact HB.out)⟩
                  · rw [if_neg c31] at H
                    have c31b0 : decide (((rd_T38 t194 x45_1).f1) < 0) = false := decide_eq_false c31
                    clear c31
                    by_cases c41 : ((rd_T38 t194 x45_1).f2) = (wrap64 (x14_1 - ((rd_T38 t194 x45_1).f1)))
                    · rw [if_pos c41] at H
                      have c41b0 : (((rd_T38 t194 x45_1).f2) == (wrap64 (x14_1 - ((rd_T38 t194 x45_1).f1)))) = true := beq_iff_eq.mpr c41
                      have c41b1 : (((rd_T38 t194 x45_1).f2) != (wrap64 (x14_1 - ((rd_T38 t194 x45_1).f1)))) = false := bne_eq_false_iff_eq.mpr c41
                      clear c41
                      by_cases c42 : x45_1 < (t201.length : Int)
                      · rw [if_pos c42] at H
                        have c42b0 : decide (x45_1 < (t201.length : Int)) = true := decide_eq_true c42
                        clear c42
                        by_cases c43 : (rd t201 x45_1) = (wrap64 (x13_1 + t206))
                        · rw [if_pos c43] at H
                          have c43b0 : ((rd t201 x45_1) == (wrap64 (x13_1 + t206))) = true := beq_iff_eq.mpr c43
                          have c43b1 : ((rd t201 x45_1) != (wrap64 (x13_1 + t206))) = false := bne_eq_false_iff_eq.mpr c43
                          clear c43
                          have H' := Aside0.mk H
                          clear H
                          have p204 : 0 ≤ (x45_1 : Int) := of_decide_eq_true (by first | (with_reducible assumption) | assumption)
                          have q204 : x45_1 < (t194.length : Int) := of_decide_eq_true (by first | (with_reducible assumption) | assumption)
                          obtain ⟨ad204, e204, hx204_0, hx204_1, hx204_2⟩ := at_T38 (Kd.R_reads' HO_43.out).2.2 x45_1 p204 q204
                          cases e204
                          replace p204 := eq_true p204
                          replace q204 := eq_true q204
                          try go_wp2_with (first | ((with_reducible refine gate_dst (N := 16) rfl ?_); (try (refine gate_guard (by rfl) ?_; dsimp only)); refine box_event ?hg (N := 16) ?hd (cs := #[.int .i64 0, .int .i64 0, .int .i64 0]) (t := 38) ?hr ?_; (case hd => rfl); (case hg => rfl); (case hr => first | (go_simp; done) | (go_simp; rfl)); intro gb205 hg w44 hbox hb; have n0_ := Aside0.mk (Kd.R_below (by (with_reducible repeat (first | apply Kd.R_alloc | apply Kd.R_drewN | apply Kd.R_drew)); exact HO_11.out) hb); have n1_ := Aside0.mk (Kd.R_below (Kd.R_elderB (by (with_reducible repeat (first | apply Kd.R_alloc | apply Kd.R_drewN | apply Kd.R_drew)); exact HO_43.out) gb205 (Nat.le_of_eq hg.symm)) hb); have n2_ := Aside0.mk (blk_below (g := gb192) (o := .cells #[.int .u32 a1_0, .int .u8 a1_1] 25 (0, 0)) (by (with_reducible repeat (first | refine blk_drewN ?_ _ | refine blk_drew ?_ | refine blk_alloc ?_ _)); exact BK192.out) hb); have n3_ := Aside0.mk (below_step (by repeat (first | (with_reducible first | exact HB.out | apply below_alloc | apply pw_below_drewN | apply below_drew1 | refine below_set ?_ GE192.out) | exact HB.out)) hb); have n4_ := Aside0.mk (hbox); have n5_ := Aside0.mk ((by rw [hg]; exact (below_size (by repeat (first | (with_reducible first | exact HB.out | apply below_alloc | apply pw_below_drewN | apply below_drew1 | refine below_set ?_ GE192.out) | exact HB.out))) : w.heap.size ≤ gb205)); have n6_ := Aside0.mk ((by rw [hg]; exact (below_size (by repeat (first | (with_reducible first | exact HB.out | apply below_alloc | apply pw_below_drewN | apply below_drew1 | refine below_set ?_ GE192.out) | exact HB.out))) : w.heap.size ≤ gb205)); have n7_ := Aside0.mk ((by rw [hg]; exact Nat.ne_of_lt (blk_lt (g := gb192) (o := .cells #[.int .u32 a1_0, .int .u8 a1_1] 25 (0, 0)) (by (with_reducible repeat (first | refine blk_drewN ?_ _ | refine blk_drew ?_ | refine blk_alloc ?_ _)); exact BK192.out)) : gb192 ≠ gb205)); have n8_ := Aside0.mk ((by rw [hg]; exact Nat.ne_of_gt (blk_lt (g := gb192) (o := .cells #[.int .u32 a1_0, .int .u8 a1_1] 25 (0, 0)) (by (with_reducible repeat (first | refine blk_drewN ?_ _ | refine blk_drew ?_ | refine blk_alloc ?_ _)); exact BK192.out)) : gb205 ≠ gb192)); clear HO_11; clear HO_43; clear BK192; clear HB; have HO_11 := n0_; have HO_43 := n1_; have BK192 := n2_; have HB := n3_; have BK205 := n4_; have GW205 := n5_; have GE205 := n6_; have NB192_205 := n7_; have NB205_192 := n8_; clear n0_ n1_ n2_ n3_ n4_ n5_ n6_ n7_ n8_; clear hb hbox hg; have hnb45 := NB205_192.out; have hnc45 := NB192_205.out; have hcz46_0 : w44.cell? ⟨gb205, 0, none⟩ = some (.int .i64 0) := (blk_cell BK205.out 0).trans rfl; have hcz46_1 : w44.cell? ⟨gb205, 1, none⟩ = some (.int .i64 0) := (blk_cell BK205.out 1).trans rfl; have hcz46_2 : w44.cell? ⟨gb205, 2, none⟩ = some (.int .i64 0) := (blk_cell BK205.out 2).trans rfl; have hfz46_0 := blk_frozen BK205.out 0; have hfz46_1 := blk_frozen BK205.out 1; have hfz46_2 := blk_frozen BK205.out 2))
                          have n0_ : Aside0 (Kd.R (Kd.int .i64) 22 (((w44.setCell ⟨gb205, 0, none⟩ (.int .i64 ((rd_T38 t194 x45_1).f0))).setCell ⟨gb205, 1, none⟩ (.int .i64 ((rd_T38 t194 x45_1).f1))).setCell ⟨gb205, 2, none⟩ (.int .i64 ((rd_T38 t194 x45_1).f2))) w.heap.size (fun _ => True) v202 t201) := ⟨by (with_reducible repeat (first | apply Kd.R_alloc | apply Kd.R_drewN | apply Kd.R_drew)); exact Kd.R_mono (Kd.R_far (p := ⟨gb205, 2, none⟩) (Kd.R_far (p := ⟨gb205, 1, none⟩) (Kd.R_far (p := ⟨gb205, 0, none⟩) (Kd.R_types HO_11.out BK205.out (by decide)) (fun _ hk => hk.2) (.int .i64 ((rd_T38 t194 x45_1).f0))) (fun _ hk => hk.2) (.int .i64 ((rd_T38 t194 x45_1).f1))) (fun _ hk => hk.2) (.int .i64 ((rd_T38 t194 x45_1).f2))) (fun _ hk => trivial)⟩
                          have n1_ : Aside0 (Kd.R k38 38 (((w44.setCell ⟨gb205, 0, none⟩ (.int .i64 ((rd_T38 t194 x45_1).f0))).setCell ⟨gb205, 1, none⟩ (.int .i64 ((rd_T38 t194 x45_1).f1))).setCell ⟨gb205, 2, none⟩ (.int .i64 ((rd_T38 t194 x45_1).f2))) w.heap.size (fun k_ => k_ ≠ gb205) (.slice (some ad204) t194.length co15) t194) := ⟨by (with_reducible repeat (first | apply Kd.R_alloc | apply Kd.R_drewN | apply Kd.R_drew)); exact Kd.R_mono (Kd.R_far (p := ⟨gb205, 2, none⟩) (Kd.R_far (p := ⟨gb205, 1, none⟩) (Kd.R_far (p := ⟨gb205, 0, none⟩) (Kd.R_mono HO_43.out (fun k_ hk => (⟨hk, hk.2⟩ : _ ∧ k_ ≠ gb205))) (fun _ hk => hk.2) (.int .i64 ((rd_T38 t194 x45_1).f0))) (fun _ hk => hk.2) (.int .i64 ((rd_T38 t194 x45_1).f1))) (fun _ hk => hk.2) (.int .i64 ((rd_T38 t194 x45_1).f2))) (fun _ hk => hk.1.2)⟩
                          have n2_ : Aside0 ((((w44.setCell ⟨gb205, 0, none⟩ (.int .i64 ((rd_T38 t194 x45_1).f0))).setCell ⟨gb205, 1, none⟩ (.int .i64 ((rd_T38 t194 x45_1).f1))).setCell ⟨gb205, 2, none⟩ (.int .i64 ((rd_T38 t194 x45_1).f2))).heap[gb192]? = some (.cells #[.int .u32 a1_0, .int .u8 a1_1] 25 (0, 0))) := ⟨by (with_reducible repeat (first | refine blk_drewN ?_ _ | refine blk_drew ?_ | refine blk_alloc ?_ _)); refine blk_far ?_ NB192_205.out _; (with_reducible repeat (first | refine blk_drewN ?_ _ | refine blk_drew ?_ | refine blk_alloc ?_ _)); refine blk_far ?_ NB192_205.out _; (with_reducible repeat (first | refine blk_drewN ?_ _ | refine blk_drew ?_ | refine blk_alloc ?_ _)); refine blk_far ?_ NB192_205.out _; (with_reducible repeat (first | refine blk_drewN ?_ _ | refine blk_drew ?_ | refine blk_alloc ?_ _)); exact BK192.out⟩
                          have n3_ : Aside0 ((((w44.setCell ⟨gb205, 0, none⟩ (.int .i64 ((rd_T38 t194 x45_1).f0))).setCell ⟨gb205, 1, none⟩ (.int .i64 ((rd_T38 t194 x45_1).f1))).setCell ⟨gb205, 2, none⟩ (.int .i64 ((rd_T38 t194 x45_1).f2))).heap[gb205]? = some (.cells #[.int .i64 ((rd_T38 t194 x45_1).f0), .int .i64 ((rd_T38 t194 x45_1).f1), .int .i64 ((rd_T38 t194 x45_1).f2)] 38 (0, 0))) := ⟨by (with_reducible repeat (first | refine blk_drewN ?_ _ | refine blk_drew ?_ | refine blk_alloc ?_ _)); refine blk_put (cs := #[.int .i64 ((rd_T38 t194 x45_1).f0), .int .i64 ((rd_T38 t194 x45_1).f1), .int .i64 0]) ?_ 2 _ rfl; (with_reducible repeat (first | refine blk_drewN ?_ _ | refine blk_drew ?_ | refine blk_alloc ?_ _)); refine blk_put (cs := #[.int .i64 ((rd_T38 t194 x45_1).f0), .int .i64 0, .int .i64 0]) ?_ 1 _ rfl; (with_reducible repeat (first | refine blk_drewN ?_ _ | refine blk_drew ?_ | refine blk_alloc ?_ _)); refine blk_put (cs := #[.int .i64 0, .int .i64 0, .int .i64 0]) ?_ 0 _ rfl; (with_reducible repeat (first | refine blk_drewN ?_ _ | refine blk_drew ?_ | refine blk_alloc ?_ _)); exact BK205.out⟩
                          have n4_ : Aside0 (Below w.heap.size w (((w44.setCell ⟨gb205, 0, none⟩ (.int .i64 ((rd_T38 t194 x45_1).f0))).setCell ⟨gb205, 1, none⟩ (.int .i64 ((rd_T38 t194 x45_1).f1))).setCell ⟨gb205, 2, none⟩ (.int .i64 ((rd_T38 t194 x45_1).f2)))) := ⟨by repeat (first | (with_reducible first | exact HB.out | apply below_alloc | apply pw_below_drewN | apply below_drew1 | refine below_set ?_ GE192.out | refine below_set ?_ GE205.out) | exact HB.out)⟩
                          (try clear HO_11)
                          (try clear HO_43)
                          (try clear BK192)
                          (try clear BK205)
                          (try clear HB)
                          generalize (((w44.setCell ⟨gb205, 0, none⟩ (.int .i64 ((rd_T38 t194 x45_1).f0))).setCell ⟨gb205, 1, none⟩ (.int .i64 ((rd_T38 t194 x45_1).f1))).setCell ⟨gb205, 2, none⟩ (.int .i64 ((rd_T38 t194 x45_1).f2))) = w47 at n0_ n1_ n2_ n3_ n4_ ⊢
                          have HO_11 := n0_
                          have HO_43 := n1_
                          have BK192 := n2_
                          have BK205 := n3_
                          have HB := n4_
                          clear n0_ n1_ n2_ n3_ n4_
                          have n0_ := Aside0.mk (Kd.R_drew HO_11.out)
                          have n1_ := Aside0.mk (Kd.R_drew HO_43.out)
                          have n2_ := Aside0.mk (blk_drew BK192.out)
                          have n3_ := Aside0.mk (blk_drew BK205.out)
                          have n4_ := Aside0.mk (below_drew1 HB.out)
                          clear HO_11
                          clear HO_43
                          clear BK192
                          clear BK205
                          clear HB
                          have HO_11 := n0_
                          have HO_43 := n1_
                          have BK192 := n2_
                          have BK205 := n3_
                          have HB := n4_
                          clear n0_ n1_ n2_ n3_ n4_
                          refine start_ (n := 10) (S := fun w' => w'.cell? ⟨gb205, 0, none⟩ = some (.int .i64 ((rd_T38 t194 x45_1).f0)) ∧ w'.cell? ⟨gb205, 1, none⟩ = some (.int .i64 ((rd_T38 t194 x45_1).f1)) ∧ w'.cell? ⟨gb205, 2, none⟩ = some (.int .i64 ((rd_T38 t194 x45_1).f2))) (ds := []) #[false, false, false, false, false, false, false, false, false, false] (by kernel_rfl) rfl rfl ⟨(blk_cell BK205.out 0).trans rfl, (blk_cell BK205.out 1).trans rfl, (blk_cell BK205.out 2).trans rfl⟩ (fun hHeld => ?_); refine with_tabW arrearslaw10_LevelAdds.tab12 arrearslaw10_LevelAdds.bits12 (fun HT_ HW_ => ?_)
                          generalize w47.drew = w48 at HO_11 HO_43 BK192 BK205 HB hHeld ⊢
                          refine pure_ (i := 0) (N := some 50) (v := ?_) (a' := ?_) #[true, false, false, false, false, false, false, false, false, false] rfl rfl (any_of HT_.out (by kernel_rfl)) (fun _ _ _ h => h) (Or.inl ⟨by rfl, ?_⟩) ?_ ?_
                          rotate_left
                          · intro w'
                            go_simp
                            with_reducible rfl
                          rotate_left
                          · simp only [Act.put, List.setIfInBounds_toArray, List.set_cons_zero, List.set_cons_succ, i64_w, i32_w]
                            rfl
                          refine pure_ (i := 1) (N := some 51) (v := ?_) (a' := ?_) #[true, true, false, false, false, false, false, false, false, false] rfl rfl (any_of HT_.out (by kernel_rfl)) (fun _ _ _ h => h) (Or.inl ⟨by rfl, ?_⟩) ?_ ?_
                          rotate_left
                          · intro w'
                            go_simp
                            with_reducible rfl
                          rotate_left
                          · simp only [Act.put, List.setIfInBounds_toArray, List.set_cons_zero, List.set_cons_succ, i64_w, i32_w]
                            rfl
                          refine pure_ (i := 4) (N := some 54) (v := ?_) (a' := ?_) #[true, true, false, false, true, false, false, false, false, false] rfl rfl (any_of HT_.out (by kernel_rfl)) (fun _ _ _ h => h) (Or.inl ⟨by rfl, ?_⟩) ?_ ?_
                          rotate_left
                          · intro w'
                            go_simp
                            with_reducible rfl
                          rotate_left
                          · simp only [Act.put, List.setIfInBounds_toArray, List.set_cons_zero, List.set_cons_succ, i64_w, i32_w]
                            rfl
                          refine take_ (i := 2) (N := some 52) (v := ?_) (a' := ?_) #[true, true, true, false, true, false, false, false, false, false] rfl rfl (take_ofW HT_.out HW_.out (by kernel_rfl)) (fun _ _ _ h => h) (Or.inl ⟨by rfl, ?_⟩) hHeld ?_ ?_
                          rotate_left
                          · rintro w' ⟨s0, s1, s2⟩
                            go_simp
                            with_reducible rfl
                          rotate_left
                          · simp only [Act.put, List.setIfInBounds_toArray, List.set_cons_zero, List.set_cons_succ, i64_w, i32_w]
                            rfl
                          refine pure_ (i := 3) (N := some 53) (v := ?_) (a' := ?_) #[true, true, true, true, true, false, false, false, false, false] rfl rfl (any_of HT_.out (by kernel_rfl)) (fun _ _ _ h => h) (Or.inl ⟨by rfl, ?_⟩) ?_ ?_
                          rotate_left
                          · intro w'
                            go_simp
                            with_reducible rfl
                          rotate_left
                          · simp only [Act.put, List.setIfInBounds_toArray, List.set_cons_zero, List.set_cons_succ, i64_w, i32_w]
                            rfl
                          refine take_ (i := 5) (N := some 55) (v := ?_) (a' := ?_) #[true, true, true, true, true, true, false, false, false, false] rfl rfl (take_ofW HT_.out HW_.out (by kernel_rfl)) (fun _ _ _ h => h) (Or.inl ⟨by rfl, ?_⟩) hHeld ?_ ?_
                          rotate_left
                          · rintro w' ⟨s0, s1, s2⟩
                            go_simp
                            with_reducible rfl
                          rotate_left
                          · simp only [Act.put, List.setIfInBounds_toArray, List.set_cons_zero, List.set_cons_succ, i64_w, i32_w]
                            rfl
                          refine one_ (i := 6) (N := some 56) #[true, true, true, true, true, true, true, false, false, false] rfl rfl (one_of HT_.out (by kernel_rfl)) (by decide) (fun K hK => ?_)
                          refine goes_ Try.func13 (by kernel_rfl) rfl #[.agg #[.int .i64 ((rd_T38 t194 x45_1).f0), .int .i64 ((rd_T38 t194 x45_1).f1), .int .i64 ((rd_T38 t194 x45_1).f2)]] (by rfl) rfl rfl (by (try simp only [List.map_toArray, List.map_cons, List.map_nil]); first | done | rfl | (simp only [List.length_drop, List.length_take]; rfl)) ?_
                          with_reducible refine (level_Row_Pay.calls ((rd_T38 t194 x45_1).f0) ((rd_T38 t194 x45_1).f1) ((rd_T38 t194 x45_1).f2) t206 _ A20.out).mono ?_
                          rintro e w49 ⟨rfl, hb⟩
                          refine ⟨_, rfl, ?_⟩
                          have n0_ := Aside0.mk (Kd.R_below (by (with_reducible repeat (first | apply Kd.R_alloc | apply Kd.R_drewN | apply Kd.R_drew)); exact HO_11.out) hb)
                          have n1_ := Aside0.mk (Kd.R_below (by (with_reducible repeat (first | apply Kd.R_alloc | apply Kd.R_drewN | apply Kd.R_drew)); exact HO_43.out) hb)
                          have n2_ := Aside0.mk (blk_below (g := gb192) (o := .cells #[.int .u32 a1_0, .int .u8 a1_1] 25 (0, 0)) (by (with_reducible repeat (first | refine blk_drewN ?_ _ | refine blk_drew ?_ | refine blk_alloc ?_ _)); exact BK192.out) hb)
                          have n3_ := Aside0.mk (blk_below (g := gb205) (o := .cells #[.int .i64 ((rd_T38 t194 x45_1).f0), .int .i64 ((rd_T38 t194 x45_1).f1), .int .i64 ((rd_T38 t194 x45_1).f2)] 38 (0, 0)) (by (with_reducible repeat (first | refine blk_drewN ?_ _ | refine blk_drew ?_ | refine blk_alloc ?_ _)); exact BK205.out) hb)
                          have n4_ := Aside0.mk (below_step (by repeat (first | (with_reducible first | exact HB.out | apply below_alloc | apply pw_below_drewN | apply below_drew1 | refine below_set ?_ GE192.out | refine below_set ?_ GE205.out) | exact HB.out)) hb)
                          clear HO_11
                          clear HO_43
                          clear BK192
                          clear BK205
                          clear HB
                          have HO_11 := n0_
                          have HO_43 := n1_
                          have BK192 := n2_
                          have BK205 := n3_
                          have HB := n4_
                          clear n0_ n1_ n2_ n3_ n4_
                          (try clear hb)
                          (try clear hb2)
                          (try clear hk)
                          (try clear hi)
                          refine hK.out _ _ ⟨(blk_cell BK205.out 0).trans rfl, (blk_cell BK205.out 1).trans rfl, (blk_cell BK205.out 2).trans rfl⟩ (fun hHeld => ?_)
                          clear hK K
                          refine norm_ (a' := ?_) ?_ ?_
                          rotate_left
                          · show Act.put _ (some 56) _ = _
                            simp only [Act.put, List.setIfInBounds_toArray, List.set_cons_zero, List.set_cons_succ, i64_w, i32_w]
                            rfl
                          refine pure_ (i := 7) (N := some 57) (v := ?_) (a' := ?_) #[true, true, true, true, true, true, true, true, false, false] rfl rfl (any_of HT_.out (by kernel_rfl)) (fun _ _ _ h => h) (Or.inl ⟨by rfl, ?_⟩) ?_ ?_
                          rotate_left
                          · intro w'
                            go_simp
                            with_reducible rfl
                          rotate_left
                          · simp only [Act.put, List.setIfInBounds_toArray, List.set_cons_zero, List.set_cons_succ, i64_w, i32_w]
                            rfl
                          refine pure_ (i := 8) (N := some 12) (v := ?_) (a' := ?_) #[true, true, true, true, true, true, true, true, true, false] rfl rfl (any_of HT_.out (by kernel_rfl)) (fun _ _ _ h => h) (Or.inl ⟨by rfl, ?_⟩) ?_ ?_
                          rotate_left
                          · intro w'
                            go_simp
                            with_reducible rfl
                          rotate_left
                          · simp only [Act.put, List.setIfInBounds_toArray, List.set_cons_zero, List.set_cons_succ, i64_w, i32_w]
                            rfl
                          refine pure_ (i := 9) (N := some 13) (v := ?_) (a' := ?_) #[true, true, true, true, true, true, true, true, true, true] rfl rfl (any_of HT_.out (by kernel_rfl)) (fun _ _ _ h => h) (Or.inl ⟨by rfl, ?_⟩) ?_ ?_
                          rotate_left
                          · intro w'
                            go_simp
                            with_reducible rfl
                          rotate_left
                          · simp only [Act.put, List.setIfInBounds_toArray, List.set_cons_zero, List.set_cons_succ, i64_w, i32_w]
                            rfl
                          refine done_ (done_of HT_.out (by kernel_rfl)) ?_
                          (try simp only [errW_none, errW_some])
                          have hcz50_0 : w49.cell? ⟨gb205, 0, none⟩ = some (.int .i64 ((rd_T38 t194 x45_1).f0)) := (blk_cell BK205.out 0).trans rfl
                          have hcz50_1 : w49.cell? ⟨gb205, 1, none⟩ = some (.int .i64 ((rd_T38 t194 x45_1).f1)) := (blk_cell BK205.out 1).trans rfl
                          have hcz50_2 : w49.cell? ⟨gb205, 2, none⟩ = some (.int .i64 ((rd_T38 t194 x45_1).f2)) := (blk_cell BK205.out 2).trans rfl
                          have hfz50_0 := blk_frozen BK205.out 0
                          have hfz50_1 := blk_frozen BK205.out 1
                          have hfz50_2 := blk_frozen BK205.out 2
                          try go_wp2_with (first | ((with_reducible refine gate_callee (f := 13) rfl ?_); refine goesL_ (some 59) rfl rfl Try.func13 (by kernel_rfl) rfl #[.agg #[.int .i64 ((rd_T38 t194 x45_1).f0), .int .i64 ((rd_T38 t194 x45_1).f1), .int .i64 ((rd_T38 t194 x45_1).f2)]] rfl (by (try simp only [List.map_toArray, List.map_cons, List.map_nil]); first | done | rfl | (simp only [List.length_drop, List.length_take]; rfl)) ?_; (with_reducible refine (level_Row_Pay.calls ((rd_T38 t194 x45_1).f0) ((rd_T38 t194 x45_1).f1) ((rd_T38 t194 x45_1).f2) t207 _ A21.out).mono ?_); rintro e w51 ⟨rfl, hb⟩; refine ⟨_, rfl, ?_⟩; have n0_ := Aside0.mk (Kd.R_below (by (with_reducible repeat (first | apply Kd.R_alloc | apply Kd.R_drewN | apply Kd.R_drew)); exact HO_11.out) hb); have n1_ := Aside0.mk (Kd.R_below (by (with_reducible repeat (first | apply Kd.R_alloc | apply Kd.R_drewN | apply Kd.R_drew)); exact HO_43.out) hb); have n2_ := Aside0.mk (blk_below (g := gb192) (o := .cells #[.int .u32 a1_0, .int .u8 a1_1] 25 (0, 0)) (by (with_reducible repeat (first | refine blk_drewN ?_ _ | refine blk_drew ?_ | refine blk_alloc ?_ _)); exact BK192.out) hb); have n3_ := Aside0.mk (blk_below (g := gb205) (o := .cells #[.int .i64 ((rd_T38 t194 x45_1).f0), .int .i64 ((rd_T38 t194 x45_1).f1), .int .i64 ((rd_T38 t194 x45_1).f2)] 38 (0, 0)) (by (with_reducible repeat (first | refine blk_drewN ?_ _ | refine blk_drew ?_ | refine blk_alloc ?_ _)); exact BK205.out) hb); have n4_ := Aside0.mk (below_step (by repeat (first | (with_reducible first | exact HB.out | apply below_alloc | apply pw_below_drewN | apply below_drew1 | refine below_set ?_ GE192.out | refine below_set ?_ GE205.out) | exact HB.out)) hb); clear HO_11; clear HO_43; clear BK192; clear BK205; clear HB; have HO_11 := n0_; have HO_43 := n1_; have BK192 := n2_; have BK205 := n3_; have HB := n4_; clear n0_ n1_ n2_ n3_ n4_; (try clear hb); (try clear hb2); (try clear hk); (try clear hi); have hcz52_0 : w51.cell? ⟨gb205, 0, none⟩ = some (.int .i64 ((rd_T38 t194 x45_1).f0)) := (blk_cell BK205.out 0).trans rfl; have hcz52_1 : w51.cell? ⟨gb205, 1, none⟩ = some (.int .i64 ((rd_T38 t194 x45_1).f1)) := (blk_cell BK205.out 1).trans rfl; have hcz52_2 : w51.cell? ⟨gb205, 2, none⟩ = some (.int .i64 ((rd_T38 t194 x45_1).f2)) := (blk_cell BK205.out 2).trans rfl; have hfz52_0 := blk_frozen BK205.out 0; have hfz52_1 := blk_frozen BK205.out 1; have hfz52_2 := blk_frozen BK205.out 2; obtain ⟨Ao53, co53, eo53⟩ := Kd.R_slice HO_11.out; subst eo53; have p208 : 0 ≤ (x45_1 : Int) := of_decide_eq_true (by first | (with_reducible assumption) | assumption); have q208 : x45_1 < (t201.length : Int) := of_decide_eq_true (by first | (with_reducible assumption) | assumption); obtain ⟨ad208, e208, hx208_0⟩ := Kd.at_int (Kd.R_reads' HO_11.out).2.2 x45_1 p208 q208; cases e208; replace p208 := eq_true p208; replace q208 := eq_true q208))
                          go_roundg k1
                          case measure => have := HK1.out; omega
                          case rel => exact ⟨(wrap64 (x12_1 + ((rd_T38 t194 x45_1).f1))), (wrap64 (x13_1 + t206)), ((rd_T38 t194 x45_1).f2), (wrap64 (x45_1 + 1)), (by first | rfl | (simp; done) | (simp [*]; done)), (by first | rfl | (simp; done) | (simp [*]; done)), (by first | rfl | (simp; done) | (simp [*]; done)), (by first | rfl | (simp; done) | (simp [*]; done)), H', ⟨by have := HK1.out; omega⟩, ⟨by (with_reducible repeat (first | apply Kd.R_alloc | apply Kd.R_drewN | apply Kd.R_drew)); exact HO_11.out⟩, ⟨by (with_reducible repeat (first | apply Kd.R_alloc | apply Kd.R_drewN | apply Kd.R_drew)); exact Kd.R_mono HO_43.out (fun _ hk => trivial)⟩, ⟨by (with_reducible repeat (first | refine blk_drewN ?_ _ | refine blk_drew ?_ | refine blk_alloc ?_ _)); exact BK192.out⟩, ⟨by repeat (first | (with_reducible first | exact HB.out | apply below_alloc | apply pw_below_drewN | apply below_drew1 | refine below_set ?_ GE192.out | refine below_set ?_ GE205.out) | exact HB.out)⟩⟩
                        · rw [if_neg c43] at H
                          have c43b0 : ((rd t201 x45_1) == (wrap64 (x13_1 + t206))) = false := beq_eq_false_iff_ne.mpr c43
                          have c43b1 : ((rd t201 x45_1) != (wrap64 (x13_1 + t206))) = true := bne_iff_ne.mpr c43
                          obtain rfl := Option.some.inj H
                          have p204 : 0 ≤ (x45_1 : Int) := of_decide_eq_true (by first | (with_reducible assumption) | assumption)
                          have q204 : x45_1 < (t194.length : Int) := of_decide_eq_true (by first | (with_reducible assumption) | assumption)
                          obtain ⟨ad204, e204, hx204_0, hx204_1, hx204_2⟩ := at_T38 (Kd.R_reads' HO_43.out).2.2 x45_1 p204 q204
                          cases e204
                          replace p204 := eq_true p204
                          replace q204 := eq_true q204
                          try go_wp2_with (first | ((with_reducible refine gate_dst (N := 16) rfl ?_); (try (refine gate_guard (by rfl) ?_; dsimp only)); refine box_event ?hg (N := 16) ?hd (cs := #[.int .i64 0, .int .i64 0, .int .i64 0]) (t := 38) ?hr ?_; (case hd => rfl); (case hg => rfl); (case hr => first | (go_simp; done) | (go_simp; rfl)); intro gb205 hg w54 hbox hb; have n0_ := Aside0.mk (Kd.R_below (by (with_reducible repeat (first | apply Kd.R_alloc | apply Kd.R_drewN | apply Kd.R_drew)); exact HO_11.out) hb); have n1_ := Aside0.mk (Kd.R_below (Kd.R_elderB (by (with_reducible repeat (first | apply Kd.R_alloc | apply Kd.R_drewN | apply Kd.R_drew)); exact HO_43.out) gb205 (Nat.le_of_eq hg.symm)) hb); have n2_ := Aside0.mk (blk_below (g := gb192) (o := .cells #[.int .u32 a1_0, .int .u8 a1_1] 25 (0, 0)) (by (with_reducible repeat (first | refine blk_drewN ?_ _ | refine blk_drew ?_ | refine blk_alloc ?_ _)); exact BK192.out) hb); have n3_ := Aside0.mk (below_step (by repeat (first | (with_reducible first | exact HB.out | apply below_alloc | apply pw_below_drewN | apply below_drew1 | refine below_set ?_ GE192.out) | exact HB.out)) hb); have n4_ := Aside0.mk (hbox); have n5_ := Aside0.mk ((by rw [hg]; exact (below_size (by repeat (first | (with_reducible first | exact HB.out | apply below_alloc | apply pw_below_drewN | apply below_drew1 | refine below_set ?_ GE192.out) | exact HB.out))) : w.heap.size ≤ gb205)); have n6_ := Aside0.mk ((by rw [hg]; exact (below_size (by repeat (first | (with_reducible first | exact HB.out | apply below_alloc | apply pw_below_drewN | apply below_drew1 | refine below_set ?_ GE192.out) | exact HB.out))) : w.heap.size ≤ gb205)); have n7_ := Aside0.mk ((by rw [hg]; exact Nat.ne_of_lt (blk_lt (g := gb192) (o := .cells #[.int .u32 a1_0, .int .u8 a1_1] 25 (0, 0)) (by (with_reducible repeat (first | refine blk_drewN ?_ _ | refine blk_drew ?_ | refine blk_alloc ?_ _)); exact BK192.out)) : gb192 ≠ gb205)); have n8_ := Aside0.mk ((by rw [hg]; exact Nat.ne_of_gt (blk_lt (g := gb192) (o := .cells #[.int .u32 a1_0, .int .u8 a1_1] 25 (0, 0)) (by (with_reducible repeat (first | refine blk_drewN ?_ _ | refine blk_drew ?_ | refine blk_alloc ?_ _)); exact BK192.out)) : gb205 ≠ gb192)); clear HO_11; clear HO_43; clear BK192; clear HB; have HO_11 := n0_; have HO_43 := n1_; have BK192 := n2_; have HB := n3_; have BK205 := n4_; have GW205 := n5_; have GE205 := n6_; have NB192_205 := n7_; have NB205_192 := n8_; clear n0_ n1_ n2_ n3_ n4_ n5_ n6_ n7_ n8_; clear hb hbox hg; have hnb55 := NB205_192.out; have hnc55 := NB192_205.out; have hcz56_0 : w54.cell? ⟨gb205, 0, none⟩ = some (.int .i64 0) := (blk_cell BK205.out 0).trans rfl; have hcz56_1 : w54.cell? ⟨gb205, 1, none⟩ = some (.int .i64 0) := (blk_cell BK205.out 1).trans rfl; have hcz56_2 : w54.cell? ⟨gb205, 2, none⟩ = some (.int .i64 0) := (blk_cell BK205.out 2).trans rfl; have hfz56_0 := blk_frozen BK205.out 0; have hfz56_1 := blk_frozen BK205.out 1; have hfz56_2 := blk_frozen BK205.out 2))
                          have n0_ : Aside0 (Kd.R (Kd.int .i64) 22 (((w54.setCell ⟨gb205, 0, none⟩ (.int .i64 ((rd_T38 t194 x45_1).f0))).setCell ⟨gb205, 1, none⟩ (.int .i64 ((rd_T38 t194 x45_1).f1))).setCell ⟨gb205, 2, none⟩ (.int .i64 ((rd_T38 t194 x45_1).f2))) w.heap.size (fun _ => True) v202 t201) := ⟨by (with_reducible repeat (first | apply Kd.R_alloc | apply Kd.R_drewN | apply Kd.R_drew)); exact Kd.R_mono (Kd.R_far (p := ⟨gb205, 2, none⟩) (Kd.R_far (p := ⟨gb205, 1, none⟩) (Kd.R_far (p := ⟨gb205, 0, none⟩) (Kd.R_types HO_11.out BK205.out (by decide)) (fun _ hk => hk.2) (.int .i64 ((rd_T38 t194 x45_1).f0))) (fun _ hk => hk.2) (.int .i64 ((rd_T38 t194 x45_1).f1))) (fun _ hk => hk.2) (.int .i64 ((rd_T38 t194 x45_1).f2))) (fun _ hk => trivial)⟩
                          have n1_ : Aside0 (Kd.R k38 38 (((w54.setCell ⟨gb205, 0, none⟩ (.int .i64 ((rd_T38 t194 x45_1).f0))).setCell ⟨gb205, 1, none⟩ (.int .i64 ((rd_T38 t194 x45_1).f1))).setCell ⟨gb205, 2, none⟩ (.int .i64 ((rd_T38 t194 x45_1).f2))) w.heap.size (fun k_ => k_ ≠ gb205) (.slice (some ad204) t194.length co15) t194) := ⟨by (with_reducible repeat (first | apply Kd.R_alloc | apply Kd.R_drewN | apply Kd.R_drew)); exact Kd.R_mono (Kd.R_far (p := ⟨gb205, 2, none⟩) (Kd.R_far (p := ⟨gb205, 1, none⟩) (Kd.R_far (p := ⟨gb205, 0, none⟩) (Kd.R_mono HO_43.out (fun k_ hk => (⟨hk, hk.2⟩ : _ ∧ k_ ≠ gb205))) (fun _ hk => hk.2) (.int .i64 ((rd_T38 t194 x45_1).f0))) (fun _ hk => hk.2) (.int .i64 ((rd_T38 t194 x45_1).f1))) (fun _ hk => hk.2) (.int .i64 ((rd_T38 t194 x45_1).f2))) (fun _ hk => hk.1.2)⟩
                          have n2_ : Aside0 ((((w54.setCell ⟨gb205, 0, none⟩ (.int .i64 ((rd_T38 t194 x45_1).f0))).setCell ⟨gb205, 1, none⟩ (.int .i64 ((rd_T38 t194 x45_1).f1))).setCell ⟨gb205, 2, none⟩ (.int .i64 ((rd_T38 t194 x45_1).f2))).heap[gb192]? = some (.cells #[.int .u32 a1_0, .int .u8 a1_1] 25 (0, 0))) := ⟨by (with_reducible repeat (first | refine blk_drewN ?_ _ | refine blk_drew ?_ | refine blk_alloc ?_ _)); refine blk_far ?_ NB192_205.out _; (with_reducible repeat (first | refine blk_drewN ?_ _ | refine blk_drew ?_ | refine blk_alloc ?_ _)); refine blk_far ?_ NB192_205.out _; (with_reducible repeat (first | refine blk_drewN ?_ _ | refine blk_drew ?_ | refine blk_alloc ?_ _)); refine blk_far ?_ NB192_205.out _; (with_reducible repeat (first | refine blk_drewN ?_ _ | refine blk_drew ?_ | refine blk_alloc ?_ _)); exact BK192.out⟩
                          have n3_ : Aside0 ((((w54.setCell ⟨gb205, 0, none⟩ (.int .i64 ((rd_T38 t194 x45_1).f0))).setCell ⟨gb205, 1, none⟩ (.int .i64 ((rd_T38 t194 x45_1).f1))).setCell ⟨gb205, 2, none⟩ (.int .i64 ((rd_T38 t194 x45_1).f2))).heap[gb205]? = some (.cells #[.int .i64 ((rd_T38 t194 x45_1).f0), .int .i64 ((rd_T38 t194 x45_1).f1), .int .i64 ((rd_T38 t194 x45_1).f2)] 38 (0, 0))) := ⟨by (with_reducible repeat (first | refine blk_drewN ?_ _ | refine blk_drew ?_ | refine blk_alloc ?_ _)); refine blk_put (cs := #[.int .i64 ((rd_T38 t194 x45_1).f0), .int .i64 ((rd_T38 t194 x45_1).f1), .int .i64 0]) ?_ 2 _ rfl; (with_reducible repeat (first | refine blk_drewN ?_ _ | refine blk_drew ?_ | refine blk_alloc ?_ _)); refine blk_put (cs := #[.int .i64 ((rd_T38 t194 x45_1).f0), .int .i64 0, .int .i64 0]) ?_ 1 _ rfl; (with_reducible repeat (first | refine blk_drewN ?_ _ | refine blk_drew ?_ | refine blk_alloc ?_ _)); refine blk_put (cs := #[.int .i64 0, .int .i64 0, .int .i64 0]) ?_ 0 _ rfl; (with_reducible repeat (first | refine blk_drewN ?_ _ | refine blk_drew ?_ | refine blk_alloc ?_ _)); exact BK205.out⟩
                          have n4_ : Aside0 (Below w.heap.size w (((w54.setCell ⟨gb205, 0, none⟩ (.int .i64 ((rd_T38 t194 x45_1).f0))).setCell ⟨gb205, 1, none⟩ (.int .i64 ((rd_T38 t194 x45_1).f1))).setCell ⟨gb205, 2, none⟩ (.int .i64 ((rd_T38 t194 x45_1).f2)))) := ⟨by repeat (first | (with_reducible first | exact HB.out | apply below_alloc | apply pw_below_drewN | apply below_drew1 | refine below_set ?_ GE192.out | refine below_set ?_ GE205.out) | exact HB.out)⟩
                          (try clear HO_11)
                          (try clear HO_43)
                          (try clear BK192)
                          (try clear BK205)
                          (try clear HB)
                          generalize (((w54.setCell ⟨gb205, 0, none⟩ (.int .i64 ((rd_T38 t194 x45_1).f0))).setCell ⟨gb205, 1, none⟩ (.int .i64 ((rd_T38 t194 x45_1).f1))).setCell ⟨gb205, 2, none⟩ (.int .i64 ((rd_T38 t194 x45_1).f2))) = w57 at n0_ n1_ n2_ n3_ n4_ ⊢
                          have HO_11 := n0_
                          have HO_43 := n1_
                          have BK192 := n2_
                          have BK205 := n3_
                          have HB := n4_
                          clear n0_ n1_ n2_ n3_ n4_
                          have n0_ := Aside0.mk (Kd.R_drew HO_11.out)
                          have n1_ := Aside0.mk (Kd.R_drew HO_43.out)
                          have n2_ := Aside0.mk (blk_drew BK192.out)
                          have n3_ := Aside0.mk (blk_drew BK205.out)
                          have n4_ := Aside0.mk (below_drew1 HB.out)
                          clear HO_11
                          clear HO_43
                          clear BK192
                          clear BK205
                          clear HB
                          have HO_11 := n0_
                          have HO_43 := n1_
                          have BK192 := n2_
                          have BK205 := n3_
                          have HB := n4_
                          clear n0_ n1_ n2_ n3_ n4_
                          refine start_ (n := 10) (S := fun w' => w'.cell? ⟨gb205, 0, none⟩ = some (.int .i64 ((rd_T38 t194 x45_1).f0)) ∧ w'.cell? ⟨gb205, 1, none⟩ = some (.int .i64 ((rd_T38 t194 x45_1).f1)) ∧ w'.cell? ⟨gb205, 2, none⟩ = some (.int .i64 ((rd_T38 t194 x45_1).f2))) (ds := []) #[false, false, false, false, false, false, false, false, false, false] (by kernel_rfl) rfl rfl ⟨(blk_cell BK205.out 0).trans rfl, (blk_cell BK205.out 1).trans rfl, (blk_cell BK205.out 2).trans rfl⟩ (fun hHeld => ?_); refine with_tabW arrearslaw10_LevelAdds.tab12 arrearslaw10_LevelAdds.bits12 (fun HT_ HW_ => ?_)
                          generalize w57.drew = w58 at HO_11 HO_43 BK192 BK205 HB hHeld ⊢
                          refine pure_ (i := 0) (N := some 50) (v := ?_) (a' := ?_) #[true, false, false, false, false, false, false, false, false, false] rfl rfl (any_of HT_.out (by kernel_rfl)) (fun _ _ _ h => h) (Or.inl ⟨by rfl, ?_⟩) ?_ ?_
                          rotate_left
                          · intro w'
                            go_simp
                            with_reducible rfl
                          rotate_left
                          · simp only [Act.put, List.setIfInBounds_toArray, List.set_cons_zero, List.set_cons_succ, i64_w, i32_w]
                            rfl
                          refine pure_ (i := 1) (N := some 51) (v := ?_) (a' := ?_) #[true, true, false, false, false, false, false, false, false, false] rfl rfl (any_of HT_.out (by kernel_rfl)) (fun _ _ _ h => h) (Or.inl ⟨by rfl, ?_⟩) ?_ ?_
                          rotate_left
                          · intro w'
                            go_simp
                            with_reducible rfl
                          rotate_left
                          · simp only [Act.put, List.setIfInBounds_toArray, List.set_cons_zero, List.set_cons_succ, i64_w, i32_w]
                            rfl
                          refine pure_ (i := 4) (N := some 54) (v := ?_) (a' := ?_) #[true, true, false, false, true, false, false, false, false, false] rfl rfl (any_of HT_.out (by kernel_rfl)) (fun _ _ _ h => h) (Or.inl ⟨by rfl, ?_⟩) ?_ ?_
                          rotate_left
                          · intro w'
                            go_simp
                            with_reducible rfl
                          rotate_left
                          · simp only [Act.put, List.setIfInBounds_toArray, List.set_cons_zero, List.set_cons_succ, i64_w, i32_w]
                            rfl
                          refine take_ (i := 2) (N := some 52) (v := ?_) (a' := ?_) #[true, true, true, false, true, false, false, false, false, false] rfl rfl (take_ofW HT_.out HW_.out (by kernel_rfl)) (fun _ _ _ h => h) (Or.inl ⟨by rfl, ?_⟩) hHeld ?_ ?_
                          rotate_left
                          · rintro w' ⟨s0, s1, s2⟩
                            go_simp
                            with_reducible rfl
                          rotate_left
                          · simp only [Act.put, List.setIfInBounds_toArray, List.set_cons_zero, List.set_cons_succ, i64_w, i32_w]
                            rfl
                          refine pure_ (i := 3) (N := some 53) (v := ?_) (a' := ?_) #[true, true, true, true, true, false, false, false, false, false] rfl rfl (any_of HT_.out (by kernel_rfl)) (fun _ _ _ h => h) (Or.inl ⟨by rfl, ?_⟩) ?_ ?_
                          rotate_left
                          · intro w'
                            go_simp
                            with_reducible rfl
                          rotate_left
                          · simp only [Act.put, List.setIfInBounds_toArray, List.set_cons_zero, List.set_cons_succ, i64_w, i32_w]
                            rfl
                          refine take_ (i := 5) (N := some 55) (v := ?_) (a' := ?_) #[true, true, true, true, true, true, false, false, false, false] rfl rfl (take_ofW HT_.out HW_.out (by kernel_rfl)) (fun _ _ _ h => h) (Or.inl ⟨by rfl, ?_⟩) hHeld ?_ ?_
                          rotate_left
                          · rintro w' ⟨s0, s1, s2⟩
                            go_simp
                            with_reducible rfl
                          rotate_left
                          · simp only [Act.put, List.setIfInBounds_toArray, List.set_cons_zero, List.set_cons_succ, i64_w, i32_w]
                            rfl
                          refine one_ (i := 6) (N := some 56) #[true, true, true, true, true, true, true, false, false, false] rfl rfl (one_of HT_.out (by kernel_rfl)) (by decide) (fun K hK => ?_)
                          refine goes_ Try.func13 (by kernel_rfl) rfl #[.agg #[.int .i64 ((rd_T38 t194 x45_1).f0), .int .i64 ((rd_T38 t194 x45_1).f1), .int .i64 ((rd_T38 t194 x45_1).f2)]] (by rfl) rfl rfl (by (try simp only [List.map_toArray, List.map_cons, List.map_nil]); first | done | rfl | (simp only [List.length_drop, List.length_take]; rfl)) ?_
                          with_reducible refine (level_Row_Pay.calls ((rd_T38 t194 x45_1).f0) ((rd_T38 t194 x45_1).f1) ((rd_T38 t194 x45_1).f2) t206 _ A20.out).mono ?_
                          rintro e w59 ⟨rfl, hb⟩
                          refine ⟨_, rfl, ?_⟩
                          have n0_ := Aside0.mk (Kd.R_below (by (with_reducible repeat (first | apply Kd.R_alloc | apply Kd.R_drewN | apply Kd.R_drew)); exact HO_11.out) hb)
                          have n1_ := Aside0.mk (Kd.R_below (by (with_reducible repeat (first | apply Kd.R_alloc | apply Kd.R_drewN | apply Kd.R_drew)); exact HO_43.out) hb)
                          have n2_ := Aside0.mk (blk_below (g := gb192) (o := .cells #[.int .u32 a1_0, .int .u8 a1_1] 25 (0, 0)) (by (with_reducible repeat (first | refine blk_drewN ?_ _ | refine blk_drew ?_ | refine blk_alloc ?_ _)); exact BK192.out) hb)
                          have n3_ := Aside0.mk (blk_below (g := gb205) (o := .cells #[.int .i64 ((rd_T38 t194 x45_1).f0), .int .i64 ((rd_T38 t194 x45_1).f1), .int .i64 ((rd_T38 t194 x45_1).f2)] 38 (0, 0)) (by (with_reducible repeat (first | refine blk_drewN ?_ _ | refine blk_drew ?_ | refine blk_alloc ?_ _)); exact BK205.out) hb)
                          have n4_ := Aside0.mk (below_step (by repeat (first | (with_reducible first | exact HB.out | apply below_alloc | apply pw_below_drewN | apply below_drew1 | refine below_set ?_ GE192.out | refine below_set ?_ GE205.out) | exact HB.out)) hb)
                          clear HO_11
                          clear HO_43
                          clear BK192
                          clear BK205
                          clear HB
                          have HO_11 := n0_
                          have HO_43 := n1_
                          have BK192 := n2_
                          have BK205 := n3_
                          have HB := n4_
                          clear n0_ n1_ n2_ n3_ n4_
                          (try clear hb)
                          (try clear hb2)
                          (try clear hk)
                          (try clear hi)
                          refine hK.out _ _ ⟨(blk_cell BK205.out 0).trans rfl, (blk_cell BK205.out 1).trans rfl, (blk_cell BK205.out 2).trans rfl⟩ (fun hHeld => ?_)
                          clear hK K
                          refine norm_ (a' := ?_) ?_ ?_
                          rotate_left
                          · show Act.put _ (some 56) _ = _
                            simp only [Act.put, List.setIfInBounds_toArray, List.set_cons_zero, List.set_cons_succ, i64_w, i32_w]
                            rfl
                          refine pure_ (i := 7) (N := some 57) (v := ?_) (a' := ?_) #[true, true, true, true, true, true, true, true, false, false] rfl rfl (any_of HT_.out (by kernel_rfl)) (fun _ _ _ h => h) (Or.inl ⟨by rfl, ?_⟩) ?_ ?_
                          rotate_left
                          · intro w'
                            go_simp
                            with_reducible rfl
                          rotate_left
                          · simp only [Act.put, List.setIfInBounds_toArray, List.set_cons_zero, List.set_cons_succ, i64_w, i32_w]
                            rfl
                          refine pure_ (i := 8) (N := some 12) (v := ?_) (a' := ?_) #[true, true, true, true, true, true, true, true, true, false] rfl rfl (any_of HT_.out (by kernel_rfl)) (fun _ _ _ h => h) (Or.inl ⟨by rfl, ?_⟩) ?_ ?_
                          rotate_left
                          · intro w'
                            go_simp
                            with_reducible rfl
                          rotate_left
                          · simp only [Act.put, List.setIfInBounds_toArray, List.set_cons_zero, List.set_cons_succ, i64_w, i32_w]
                            rfl
                          refine pure_ (i := 9) (N := some 13) (v := ?_) (a' := ?_) #[true, true, true, true, true, true, true, true, true, true] rfl rfl (any_of HT_.out (by kernel_rfl)) (fun _ _ _ h => h) (Or.inl ⟨by rfl, ?_⟩) ?_ ?_
                          rotate_left
                          · intro w'
                            go_simp
                            with_reducible rfl
                          rotate_left
                          · simp only [Act.put, List.setIfInBounds_toArray, List.set_cons_zero, List.set_cons_succ, i64_w, i32_w]
                            rfl
                          refine done_ (done_of HT_.out (by kernel_rfl)) ?_
                          (try simp only [errW_none, errW_some])
                          have hcz60_0 : w59.cell? ⟨gb205, 0, none⟩ = some (.int .i64 ((rd_T38 t194 x45_1).f0)) := (blk_cell BK205.out 0).trans rfl
                          have hcz60_1 : w59.cell? ⟨gb205, 1, none⟩ = some (.int .i64 ((rd_T38 t194 x45_1).f1)) := (blk_cell BK205.out 1).trans rfl
                          have hcz60_2 : w59.cell? ⟨gb205, 2, none⟩ = some (.int .i64 ((rd_T38 t194 x45_1).f2)) := (blk_cell BK205.out 2).trans rfl
                          have hfz60_0 := blk_frozen BK205.out 0
                          have hfz60_1 := blk_frozen BK205.out 1
                          have hfz60_2 := blk_frozen BK205.out 2
                          try go_wp2_with (first | ((with_reducible refine gate_callee (f := 13) rfl ?_); refine goesL_ (some 59) rfl rfl Try.func13 (by kernel_rfl) rfl #[.agg #[.int .i64 ((rd_T38 t194 x45_1).f0), .int .i64 ((rd_T38 t194 x45_1).f1), .int .i64 ((rd_T38 t194 x45_1).f2)]] rfl (by (try simp only [List.map_toArray, List.map_cons, List.map_nil]); first | done | rfl | (simp only [List.length_drop, List.length_take]; rfl)) ?_; (with_reducible refine (level_Row_Pay.calls ((rd_T38 t194 x45_1).f0) ((rd_T38 t194 x45_1).f1) ((rd_T38 t194 x45_1).f2) t207 _ A21.out).mono ?_); rintro e w61 ⟨rfl, hb⟩; refine ⟨_, rfl, ?_⟩; have n0_ := Aside0.mk (Kd.R_below (by (with_reducible repeat (first | apply Kd.R_alloc | apply Kd.R_drewN | apply Kd.R_drew)); exact HO_11.out) hb); have n1_ := Aside0.mk (Kd.R_below (by (with_reducible repeat (first | apply Kd.R_alloc | apply Kd.R_drewN | apply Kd.R_drew)); exact HO_43.out) hb); have n2_ := Aside0.mk (blk_below (g := gb192) (o := .cells #[.int .u32 a1_0, .int .u8 a1_1] 25 (0, 0)) (by (with_reducible repeat (first | refine blk_drewN ?_ _ | refine blk_drew ?_ | refine blk_alloc ?_ _)); exact BK192.out) hb); have n3_ := Aside0.mk (blk_below (g := gb205) (o := .cells #[.int .i64 ((rd_T38 t194 x45_1).f0), .int .i64 ((rd_T38 t194 x45_1).f1), .int .i64 ((rd_T38 t194 x45_1).f2)] 38 (0, 0)) (by (with_reducible repeat (first | refine blk_drewN ?_ _ | refine blk_drew ?_ | refine blk_alloc ?_ _)); exact BK205.out) hb); have n4_ := Aside0.mk (below_step (by repeat (first | (with_reducible first | exact HB.out | apply below_alloc | apply pw_below_drewN | apply below_drew1 | refine below_set ?_ GE192.out | refine below_set ?_ GE205.out) | exact HB.out)) hb); clear HO_11; clear HO_43; clear BK192; clear BK205; clear HB; have HO_11 := n0_; have HO_43 := n1_; have BK192 := n2_; have BK205 := n3_; have HB := n4_; clear n0_ n1_ n2_ n3_ n4_; (try clear hb); (try clear hb2); (try clear hk); (try clear hi); have hcz62_0 : w61.cell? ⟨gb205, 0, none⟩ = some (.int .i64 ((rd_T38 t194 x45_1).f0)) := (blk_cell BK205.out 0).trans rfl; have hcz62_1 : w61.cell? ⟨gb205, 1, none⟩ = some (.int .i64 ((rd_T38 t194 x45_1).f1)) := (blk_cell BK205.out 1).trans rfl; have hcz62_2 : w61.cell? ⟨gb205, 2, none⟩ = some (.int .i64 ((rd_T38 t194 x45_1).f2)) := (blk_cell BK205.out 2).trans rfl; have hfz62_0 := blk_frozen BK205.out 0; have hfz62_1 := blk_frozen BK205.out 1; have hfz62_2 := blk_frozen BK205.out 2; obtain ⟨Ao63, co63, eo63⟩ := Kd.R_slice HO_11.out; subst eo63; have p208 : 0 ≤ (x45_1 : Int) := of_decide_eq_true (by first | (with_reducible assumption) | assumption); have q208 : x45_1 < (t201.length : Int) := of_decide_eq_true (by first | (with_reducible assumption) | assumption); obtain ⟨ad208, e208, hx208_0⟩ := Kd.at_int (Kd.R_reads' HO_11.out).2.2 x45_1 p208 q208; cases e208; replace p208 := eq_true p208; replace q208 := eq_true q208))
                          go_ret
                          exact ⟨by first | rfl | (simp [errW_none, errW_some] <;> rfl) | (simp [*, errW_none, errW_some] <;> rfl), by repeat (first | (with_reducible first | exact HB.out | apply below_alloc | apply pw_below_drewN | apply below_drew1 | refine below_set ?_ GE192.out | refine below_set ?_ GE205.out) | exact HB.out)⟩
                      · rw [if_neg c42] at H
                        exact absurd H (by simp)
                    · rw [if_neg c41] at H
                      have c41b0 : (((rd_T38 t194 x45_1).f2) == (wrap64 (x14_1 - ((rd_T38 t194 x45_1).f1)))) = false := beq_eq_false_iff_ne.mpr c41
                      have c41b1 : (((rd_T38 t194 x45_1).f2) != (wrap64 (x14_1 - ((rd_T38 t194 x45_1).f1)))) = true := bne_iff_ne.mpr c41
                      obtain rfl := Option.some.inj H
                      have p204 : 0 ≤ (x45_1 : Int) := of_decide_eq_true (by first | (with_reducible assumption) | assumption)
                      have q204 : x45_1 < (t194.length : Int) := of_decide_eq_true (by first | (with_reducible assumption) | assumption)
                      obtain ⟨ad204, e204, hx204_0, hx204_1, hx204_2⟩ := at_T38 (Kd.R_reads' HO_43.out).2.2 x45_1 p204 q204
                      cases e204
                      replace p204 := eq_true p204
                      replace q204 := eq_true q204
                      try go_wp2_with (first | ((with_reducible refine gate_dst (N := 16) rfl ?_); (try (refine gate_guard (by rfl) ?_; dsimp only)); refine box_event ?hg (N := 16) ?hd (cs := #[.int .i64 0, .int .i64 0, .int .i64 0]) (t := 38) ?hr ?_; (case hd => rfl); (case hg => rfl); (case hr => first | (go_simp; done) | (go_simp; rfl)); intro gb205 hg w64 hbox hb; have n0_ := Aside0.mk (Kd.R_below (by (with_reducible repeat (first | apply Kd.R_alloc | apply Kd.R_drewN | apply Kd.R_drew)); exact HO_11.out) hb); have n1_ := Aside0.mk (Kd.R_below (Kd.R_elderB (by (with_reducible repeat (first | apply Kd.R_alloc | apply Kd.R_drewN | apply Kd.R_drew)); exact HO_43.out) gb205 (Nat.le_of_eq hg.symm)) hb); have n2_ := Aside0.mk (blk_below (g := gb192) (o := .cells #[.int .u32 a1_0, .int .u8 a1_1] 25 (0, 0)) (by (with_reducible repeat (first | refine blk_drewN ?_ _ | refine blk_drew ?_ | refine blk_alloc ?_ _)); exact BK192.out) hb); have n3_ := Aside0.mk (below_step (by repeat (first | (with_reducible first | exact HB.out | apply below_alloc | apply pw_below_drewN | apply below_drew1 | refine below_set ?_ GE192.out) | exact HB.out)) hb); have n4_ := Aside0.mk (hbox); have n5_ := Aside0.mk ((by rw [hg]; exact (below_size (by repeat (first | (with_reducible first | exact HB.out | apply below_alloc | apply pw_below_drewN | apply below_drew1 | refine below_set ?_ GE192.out) | exact HB.out))) : w.heap.size ≤ gb205)); have n6_ := Aside0.mk ((by rw [hg]; exact (below_size (by repeat (first | (with_reducible first | exact HB.out | apply below_alloc | apply pw_below_drewN | apply below_drew1 | refine below_set ?_ GE192.out) | exact HB.out))) : w.heap.size ≤ gb205)); have n7_ := Aside0.mk ((by rw [hg]; exact Nat.ne_of_lt (blk_lt (g := gb192) (o := .cells #[.int .u32 a1_0, .int .u8 a1_1] 25 (0, 0)) (by (with_reducible repeat (first | refine blk_drewN ?_ _ | refine blk_drew ?_ | refine blk_alloc ?_ _)); exact BK192.out)) : gb192 ≠ gb205)); have n8_ := Aside0.mk ((by rw [hg]; exact Nat.ne_of_gt (blk_lt (g := gb192) (o := .cells #[.int .u32 a1_0, .int .u8 a1_1] 25 (0, 0)) (by (with_reducible repeat (first | refine blk_drewN ?_ _ | refine blk_drew ?_ | refine blk_alloc ?_ _)); exact BK192.out)) : gb205 ≠ gb192)); clear HO_11; clear HO_43; clear BK192; clear HB; have HO_11 := n0_; have HO_43 := n1_; have BK192 := n2_; have HB := n3_; have BK205 := n4_; have GW205 := n5_; have GE205 := n6_; have NB192_205 := n7_; have NB205_192 := n8_; clear n0_ n1_ n2_ n3_ n4_ n5_ n6_ n7_ n8_; clear hb hbox hg; have hnb65 := NB205_192.out; have hnc65 := NB192_205.out; have hcz66_0 : w64.cell? ⟨gb205, 0, none⟩ = some (.int .i64 0) := (blk_cell BK205.out 0).trans rfl; have hcz66_1 : w64.cell? ⟨gb205, 1, none⟩ = some (.int .i64 0) := (blk_cell BK205.out 1).trans rfl; have hcz66_2 : w64.cell? ⟨gb205, 2, none⟩ = some (.int .i64 0) := (blk_cell BK205.out 2).trans rfl; have hfz66_0 := blk_frozen BK205.out 0; have hfz66_1 := blk_frozen BK205.out 1; have hfz66_2 := blk_frozen BK205.out 2))
                      have n0_ : Aside0 (Kd.R (Kd.int .i64) 22 (((w64.setCell ⟨gb205, 0, none⟩ (.int .i64 ((rd_T38 t194 x45_1).f0))).setCell ⟨gb205, 1, none⟩ (.int .i64 ((rd_T38 t194 x45_1).f1))).setCell ⟨gb205, 2, none⟩ (.int .i64 ((rd_T38 t194 x45_1).f2))) w.heap.size (fun _ => True) v202 t201) := ⟨by (with_reducible repeat (first | apply Kd.R_alloc | apply Kd.R_drewN | apply Kd.R_drew)); exact Kd.R_mono (Kd.R_far (p := ⟨gb205, 2, none⟩) (Kd.R_far (p := ⟨gb205, 1, none⟩) (Kd.R_far (p := ⟨gb205, 0, none⟩) (Kd.R_types HO_11.out BK205.out (by decide)) (fun _ hk => hk.2) (.int .i64 ((rd_T38 t194 x45_1).f0))) (fun _ hk => hk.2) (.int .i64 ((rd_T38 t194 x45_1).f1))) (fun _ hk => hk.2) (.int .i64 ((rd_T38 t194 x45_1).f2))) (fun _ hk => trivial)⟩
                      have n1_ : Aside0 (Kd.R k38 38 (((w64.setCell ⟨gb205, 0, none⟩ (.int .i64 ((rd_T38 t194 x45_1).f0))).setCell ⟨gb205, 1, none⟩ (.int .i64 ((rd_T38 t194 x45_1).f1))).setCell ⟨gb205, 2, none⟩ (.int .i64 ((rd_T38 t194 x45_1).f2))) w.heap.size (fun k_ => k_ ≠ gb205) (.slice (some ad204) t194.length co15) t194) := ⟨by (with_reducible repeat (first | apply Kd.R_alloc | apply Kd.R_drewN | apply Kd.R_drew)); exact Kd.R_mono (Kd.R_far (p := ⟨gb205, 2, none⟩) (Kd.R_far (p := ⟨gb205, 1, none⟩) (Kd.R_far (p := ⟨gb205, 0, none⟩) (Kd.R_mono HO_43.out (fun k_ hk => (⟨hk, hk.2⟩ : _ ∧ k_ ≠ gb205))) (fun _ hk => hk.2) (.int .i64 ((rd_T38 t194 x45_1).f0))) (fun _ hk => hk.2) (.int .i64 ((rd_T38 t194 x45_1).f1))) (fun _ hk => hk.2) (.int .i64 ((rd_T38 t194 x45_1).f2))) (fun _ hk => hk.1.2)⟩
                      have n2_ : Aside0 ((((w64.setCell ⟨gb205, 0, none⟩ (.int .i64 ((rd_T38 t194 x45_1).f0))).setCell ⟨gb205, 1, none⟩ (.int .i64 ((rd_T38 t194 x45_1).f1))).setCell ⟨gb205, 2, none⟩ (.int .i64 ((rd_T38 t194 x45_1).f2))).heap[gb192]? = some (.cells #[.int .u32 a1_0, .int .u8 a1_1] 25 (0, 0))) := ⟨by (with_reducible repeat (first | refine blk_drewN ?_ _ | refine blk_drew ?_ | refine blk_alloc ?_ _)); refine blk_far ?_ NB192_205.out _; (with_reducible repeat (first | refine blk_drewN ?_ _ | refine blk_drew ?_ | refine blk_alloc ?_ _)); refine blk_far ?_ NB192_205.out _; (with_reducible repeat (first | refine blk_drewN ?_ _ | refine blk_drew ?_ | refine blk_alloc ?_ _)); refine blk_far ?_ NB192_205.out _; (with_reducible repeat (first | refine blk_drewN ?_ _ | refine blk_drew ?_ | refine blk_alloc ?_ _)); exact BK192.out⟩
                      have n3_ : Aside0 ((((w64.setCell ⟨gb205, 0, none⟩ (.int .i64 ((rd_T38 t194 x45_1).f0))).setCell ⟨gb205, 1, none⟩ (.int .i64 ((rd_T38 t194 x45_1).f1))).setCell ⟨gb205, 2, none⟩ (.int .i64 ((rd_T38 t194 x45_1).f2))).heap[gb205]? = some (.cells #[.int .i64 ((rd_T38 t194 x45_1).f0), .int .i64 ((rd_T38 t194 x45_1).f1), .int .i64 ((rd_T38 t194 x45_1).f2)] 38 (0, 0))) := ⟨by (with_reducible repeat (first | refine blk_drewN ?_ _ | refine blk_drew ?_ | refine blk_alloc ?_ _)); refine blk_put (cs := #[.int .i64 ((rd_T38 t194 x45_1).f0), .int .i64 ((rd_T38 t194 x45_1).f1), .int .i64 0]) ?_ 2 _ rfl; (with_reducible repeat (first | refine blk_drewN ?_ _ | refine blk_drew ?_ | refine blk_alloc ?_ _)); refine blk_put (cs := #[.int .i64 ((rd_T38 t194 x45_1).f0), .int .i64 0, .int .i64 0]) ?_ 1 _ rfl; (with_reducible repeat (first | refine blk_drewN ?_ _ | refine blk_drew ?_ | refine blk_alloc ?_ _)); refine blk_put (cs := #[.int .i64 0, .int .i64 0, .int .i64 0]) ?_ 0 _ rfl; (with_reducible repeat (first | refine blk_drewN ?_ _ | refine blk_drew ?_ | refine blk_alloc ?_ _)); exact BK205.out⟩
                      have n4_ : Aside0 (Below w.heap.size w (((w64.setCell ⟨gb205, 0, none⟩ (.int .i64 ((rd_T38 t194 x45_1).f0))).setCell ⟨gb205, 1, none⟩ (.int .i64 ((rd_T38 t194 x45_1).f1))).setCell ⟨gb205, 2, none⟩ (.int .i64 ((rd_T38 t194 x45_1).f2)))) := ⟨by repeat (first | (with_reducible first | exact HB.out | apply below_alloc | apply pw_below_drewN | apply below_drew1 | refine below_set ?_ GE192.out | refine below_set ?_ GE205.out) | exact HB.out)⟩
                      (try clear HO_11)
                      (try clear HO_43)
                      (try clear BK192)
                      (try clear BK205)
                      (try clear HB)
                      generalize (((w64.setCell ⟨gb205, 0, none⟩ (.int .i64 ((rd_T38 t194 x45_1).f0))).setCell ⟨gb205, 1, none⟩ (.int .i64 ((rd_T38 t194 x45_1).f1))).setCell ⟨gb205, 2, none⟩ (.int .i64 ((rd_T38 t194 x45_1).f2))) = w67 at n0_ n1_ n2_ n3_ n4_ ⊢
                      have HO_11 := n0_
                      have HO_43 := n1_
                      have BK192 := n2_
                      have BK205 := n3_
                      have HB := n4_
                      clear n0_ n1_ n2_ n3_ n4_
                      have n0_ := Aside0.mk (Kd.R_drew HO_11.out)
                      have n1_ := Aside0.mk (Kd.R_drew HO_43.out)
                      have n2_ := Aside0.mk (blk_drew BK192.out)
                      have n3_ := Aside0.mk (blk_drew BK205.out)
                      have n4_ := Aside0.mk (below_drew1 HB.out)
                      clear HO_11
                      clear HO_43
                      clear BK192
                      clear BK205
                      clear HB
                      have HO_11 := n0_
                      have HO_43 := n1_
                      have BK192 := n2_
                      have BK205 := n3_
                      have HB := n4_
                      clear n0_ n1_ n2_ n3_ n4_
                      refine start_ (n := 10) (S := fun w' => w'.cell? ⟨gb205, 0, none⟩ = some (.int .i64 ((rd_T38 t194 x45_1).f0)) ∧ w'.cell? ⟨gb205, 1, none⟩ = some (.int .i64 ((rd_T38 t194 x45_1).f1)) ∧ w'.cell? ⟨gb205, 2, none⟩ = some (.int .i64 ((rd_T38 t194 x45_1).f2))) (ds := []) #[false, false, false, false, false, false, false, false, false, false] (by kernel_rfl) rfl rfl ⟨(blk_cell BK205.out 0).trans rfl, (blk_cell BK205.out 1).trans rfl, (blk_cell BK205.out 2).trans rfl⟩ (fun hHeld => ?_); refine with_tabW arrearslaw10_LevelAdds.tab12 arrearslaw10_LevelAdds.bits12 (fun HT_ HW_ => ?_)
                      generalize w67.drew = w68 at HO_11 HO_43 BK192 BK205 HB hHeld ⊢
                      refine pure_ (i := 0) (N := some 50) (v := ?_) (a' := ?_) #[true, false, false, false, false, false, false, false, false, false] rfl rfl (any_of HT_.out (by kernel_rfl)) (fun _ _ _ h => h) (Or.inl ⟨by rfl, ?_⟩) ?_ ?_
                      rotate_left
                      · intro w'
                        go_simp
                        with_reducible rfl
                      rotate_left
                      · simp only [Act.put, List.setIfInBounds_toArray, List.set_cons_zero, List.set_cons_succ, i64_w, i32_w]
                        rfl
                      refine pure_ (i := 1) (N := some 51) (v := ?_) (a' := ?_) #[true, true, false, false, false, false, false, false, false, false] rfl rfl (any_of HT_.out (by kernel_rfl)) (fun _ _ _ h => h) (Or.inl ⟨by rfl, ?_⟩) ?_ ?_
                      rotate_left
                      · intro w'
                        go_simp
                        with_reducible rfl
                      rotate_left
                      · simp only [Act.put, List.setIfInBounds_toArray, List.set_cons_zero, List.set_cons_succ, i64_w, i32_w]
                        rfl
                      refine pure_ (i := 4) (N := some 54) (v := ?_) (a' := ?_) #[true, true, false, false, true, false, false, false, false, false] rfl rfl (any_of HT_.out (by kernel_rfl)) (fun _ _ _ h => h) (Or.inl ⟨by rfl, ?_⟩) ?_ ?_
                      rotate_left
                      · intro w'
                        go_simp
                        with_reducible rfl
                      rotate_left
                      · simp only [Act.put, List.setIfInBounds_toArray, List.set_cons_zero, List.set_cons_succ, i64_w, i32_w]
                        rfl
                      refine take_ (i := 2) (N := some 52) (v := ?_) (a' := ?_) #[true, true, true, false, true, false, false, false, false, false] rfl rfl (take_ofW HT_.out HW_.out (by kernel_rfl)) (fun _ _ _ h => h) (Or.inl ⟨by rfl, ?_⟩) hHeld ?_ ?_
                      rotate_left
                      · rintro w' ⟨s0, s1, s2⟩
                        go_simp
                        with_reducible rfl
                      rotate_left
                      · simp only [Act.put, List.setIfInBounds_toArray, List.set_cons_zero, List.set_cons_succ, i64_w, i32_w]
                        rfl
                      refine pure_ (i := 3) (N := some 53) (v := ?_) (a' := ?_) #[true, true, true, true, true, false, false, false, false, false] rfl rfl (any_of HT_.out (by kernel_rfl)) (fun _ _ _ h => h) (Or.inl ⟨by rfl, ?_⟩) ?_ ?_
                      rotate_left
                      · intro w'
                        go_simp
                        with_reducible rfl
                      rotate_left
                      · simp only [Act.put, List.setIfInBounds_toArray, List.set_cons_zero, List.set_cons_succ, i64_w, i32_w]
                        rfl
                      refine take_ (i := 5) (N := some 55) (v := ?_) (a' := ?_) #[true, true, true, true, true, true, false, false, false, false] rfl rfl (take_ofW HT_.out HW_.out (by kernel_rfl)) (fun _ _ _ h => h) (Or.inl ⟨by rfl, ?_⟩) hHeld ?_ ?_
                      rotate_left
                      · rintro w' ⟨s0, s1, s2⟩
                        go_simp
                        with_reducible rfl
                      rotate_left
                      · simp only [Act.put, List.setIfInBounds_toArray, List.set_cons_zero, List.set_cons_succ, i64_w, i32_w]
                        rfl
                      refine one_ (i := 6) (N := some 56) #[true, true, true, true, true, true, true, false, false, false] rfl rfl (one_of HT_.out (by kernel_rfl)) (by decide) (fun K hK => ?_)
                      refine goes_ Try.func13 (by kernel_rfl) rfl #[.agg #[.int .i64 ((rd_T38 t194 x45_1).f0), .int .i64 ((rd_T38 t194 x45_1).f1), .int .i64 ((rd_T38 t194 x45_1).f2)]] (by rfl) rfl rfl (by (try simp only [List.map_toArray, List.map_cons, List.map_nil]); first | done | rfl | (simp only [List.length_drop, List.length_take]; rfl)) ?_
                      with_reducible refine (level_Row_Pay.calls ((rd_T38 t194 x45_1).f0) ((rd_T38 t194 x45_1).f1) ((rd_T38 t194 x45_1).f2) t206 _ A20.out).mono ?_
                      rintro e w69 ⟨rfl, hb⟩
                      refine ⟨_, rfl, ?_⟩
                      have n0_ := Aside0.mk (Kd.R_below (by (with_reducible repeat (first | apply Kd.R_alloc | apply Kd.R_drewN | apply Kd.R_drew)); exact HO_11.out) hb)
                      have n1_ := Aside0.mk (Kd.R_below (by (with_reducible repeat (first | apply Kd.R_alloc | apply Kd.R_drewN | apply Kd.R_drew)); exact HO_43.out) hb)
                      have n2_ := Aside0.mk (blk_below (g := gb192) (o := .cells #[.int .u32 a1_0, .int .u8 a1_1] 25 (0, 0)) (by (with_reducible repeat (first | refine blk_drewN ?_ _ | refine blk_drew ?_ | refine blk_alloc ?_ _)); exact BK192.out) hb)
                      have n3_ := Aside0.mk (blk_below (g := gb205) (o := .cells #[.int .i64 ((rd_T38 t194 x45_1).f0), .int .i64 ((rd_T38 t194 x45_1).f1), .int .i64 ((rd_T38 t194 x45_1).f2)] 38 (0, 0)) (by (with_reducible repeat (first | refine blk_drewN ?_ _ | refine blk_drew ?_ | refine blk_alloc ?_ _)); exact BK205.out) hb)
                      have n4_ := Aside0.mk (below_step (by repeat (first | (with_reducible first | exact HB.out | apply below_alloc | apply pw_below_drewN | apply below_drew1 | refine below_set ?_ GE192.out | refine below_set ?_ GE205.out) | exact HB.out)) hb)
                      clear HO_11
                      clear HO_43
                      clear BK192
                      clear BK205
                      clear HB
                      have HO_11 := n0_
                      have HO_43 := n1_
                      have BK192 := n2_
                      have BK205 := n3_
                      have HB := n4_
                      clear n0_ n1_ n2_ n3_ n4_
                      (try clear hb)
                      (try clear hb2)
                      (try clear hk)
                      (try clear hi)
                      refine hK.out _ _ ⟨(blk_cell BK205.out 0).trans rfl, (blk_cell BK205.out 1).trans rfl, (blk_cell BK205.out 2).trans rfl⟩ (fun hHeld => ?_)
                      clear hK K
                      refine norm_ (a' := ?_) ?_ ?_
                      rotate_left
                      · show Act.put _ (some 56) _ = _
                        simp only [Act.put, List.setIfInBounds_toArray, List.set_cons_zero, List.set_cons_succ, i64_w, i32_w]
                        rfl
                      refine pure_ (i := 7) (N := some 57) (v := ?_) (a' := ?_) #[true, true, true, true, true, true, true, true, false, false] rfl rfl (any_of HT_.out (by kernel_rfl)) (fun _ _ _ h => h) (Or.inl ⟨by rfl, ?_⟩) ?_ ?_
                      rotate_left
                      · intro w'
                        go_simp
                        with_reducible rfl
                      rotate_left
                      · simp only [Act.put, List.setIfInBounds_toArray, List.set_cons_zero, List.set_cons_succ, i64_w, i32_w]
                        rfl
                      refine pure_ (i := 8) (N := some 12) (v := ?_) (a' := ?_) #[true, true, true, true, true, true, true, true, true, false] rfl rfl (any_of HT_.out (by kernel_rfl)) (fun _ _ _ h => h) (Or.inl ⟨by rfl, ?_⟩) ?_ ?_
                      rotate_left
                      · intro w'
                        go_simp
                        with_reducible rfl
                      rotate_left
                      · simp only [Act.put, List.setIfInBounds_toArray, List.set_cons_zero, List.set_cons_succ, i64_w, i32_w]
                        rfl
                      refine pure_ (i := 9) (N := some 13) (v := ?_) (a' := ?_) #[true, true, true, true, true, true, true, true, true, true] rfl rfl (any_of HT_.out (by kernel_rfl)) (fun _ _ _ h => h) (Or.inl ⟨by rfl, ?_⟩) ?_ ?_
                      rotate_left
                      · intro w'
                        go_simp
                        with_reducible rfl
                      rotate_left
                      · simp only [Act.put, List.setIfInBounds_toArray, List.set_cons_zero, List.set_cons_succ, i64_w, i32_w]
                        rfl
                      refine done_ (done_of HT_.out (by kernel_rfl)) ?_
                      (try simp only [errW_none, errW_some])
                      have hcz70_0 : w69.cell? ⟨gb205, 0, none⟩ = some (.int .i64 ((rd_T38 t194 x45_1).f0)) := (blk_cell BK205.out 0).trans rfl
                      have hcz70_1 : w69.cell? ⟨gb205, 1, none⟩ = some (.int .i64 ((rd_T38 t194 x45_1).f1)) := (blk_cell BK205.out 1).trans rfl
                      have hcz70_2 : w69.cell? ⟨gb205, 2, none⟩ = some (.int .i64 ((rd_T38 t194 x45_1).f2)) := (blk_cell BK205.out 2).trans rfl
                      have hfz70_0 := blk_frozen BK205.out 0
                      have hfz70_1 := blk_frozen BK205.out 1
                      have hfz70_2 := blk_frozen BK205.out 2
                      try go_wp2_with (first | ((with_reducible refine gate_callee (f := 13) rfl ?_); refine goesL_ (some 59) rfl rfl Try.func13 (by kernel_rfl) rfl #[.agg #[.int .i64 ((rd_T38 t194 x45_1).f0), .int .i64 ((rd_T38 t194 x45_1).f1), .int .i64 ((rd_T38 t194 x45_1).f2)]] rfl (by (try simp only [List.map_toArray, List.map_cons, List.map_nil]); first | done | rfl | (simp only [List.length_drop, List.length_take]; rfl)) ?_; (with_reducible refine (level_Row_Pay.calls ((rd_T38 t194 x45_1).f0) ((rd_T38 t194 x45_1).f1) ((rd_T38 t194 x45_1).f2) t207 _ A21.out).mono ?_); rintro e w71 ⟨rfl, hb⟩; refine ⟨_, rfl, ?_⟩; have n0_ := Aside0.mk (Kd.R_below (by (with_reducible repeat (first | apply Kd.R_alloc | apply Kd.R_drewN | apply Kd.R_drew)); exact HO_11.out) hb); have n1_ := Aside0.mk (Kd.R_below (by (with_reducible repeat (first | apply Kd.R_alloc | apply Kd.R_drewN | apply Kd.R_drew)); exact HO_43.out) hb); have n2_ := Aside0.mk (blk_below (g := gb192) (o := .cells #[.int .u32 a1_0, .int .u8 a1_1] 25 (0, 0)) (by (with_reducible repeat (first | refine blk_drewN ?_ _ | refine blk_drew ?_ | refine blk_alloc ?_ _)); exact BK192.out) hb); have n3_ := Aside0.mk (blk_below (g := gb205) (o := .cells #[.int .i64 ((rd_T38 t194 x45_1).f0), .int .i64 ((rd_T38 t194 x45_1).f1), .int .i64 ((rd_T38 t194 x45_1).f2)] 38 (0, 0)) (by (with_reducible repeat (first | refine blk_drewN ?_ _ | refine blk_drew ?_ | refine blk_alloc ?_ _)); exact BK205.out) hb); have n4_ := Aside0.mk (below_step (by repeat (first | (with_reducible first | exact HB.out | apply below_alloc | apply pw_below_drewN | apply below_drew1 | refine below_set ?_ GE192.out | refine below_set ?_ GE205.out) | exact HB.out)) hb); clear HO_11; clear HO_43; clear BK192; clear BK205; clear HB; have HO_11 := n0_; have HO_43 := n1_; have BK192 := n2_; have BK205 := n3_; have HB := n4_; clear n0_ n1_ n2_ n3_ n4_; (try clear hb); (try clear hb2); (try clear hk); (try clear hi); have hcz72_0 : w71.cell? ⟨gb205, 0, none⟩ = some (.int .i64 ((rd_T38 t194 x45_1).f0)) := (blk_cell BK205.out 0).trans rfl; have hcz72_1 : w71.cell? ⟨gb205, 1, none⟩ = some (.int .i64 ((rd_T38 t194 x45_1).f1)) := (blk_cell BK205.out 1).trans rfl; have hcz72_2 : w71.cell? ⟨gb205, 2, none⟩ = some (.int .i64 ((rd_T38 t194 x45_1).f2)) := (blk_cell BK205.out 2).trans rfl; have hfz72_0 := blk_frozen BK205.out 0; have hfz72_1 := blk_frozen BK205.out 1; have hfz72_2 := blk_frozen BK205.out 2))
                      go_ret
                      exact ⟨by first | rfl | (simp [errW_none, errW_some] <;> rfl) | (simp [*, errW_none, errW_some] <;> rfl), by repeat (first | (with_reducible first | exact HB.out | apply below_alloc | apply pw_below_drewN | apply below_drew1 | refine below_set ?_ GE192.out | refine below_set ?_ GE205.out) | exact HB.out)⟩
              · rw [if_neg c19] at H
                exact absurd H (by simp)
            · rw [if_neg c18] at H
              exact absurd H (by simp)
          · rw [if_neg c17] at H
            have c17b0 : decide (x45_1 < (t194.length : Int)) = false := decide_eq_false c17
            clear c17
            by_cases c73 : x12_1 = a0
            · rw [if_pos c73] at H
              have c73b0 : (x12_1 == a0) = true := beq_iff_eq.mpr c73
              have c73b1 : (x12_1 != a0) = false := bne_eq_false_iff_eq.mpr c73
              clear c73
              by_cases c74 : x14_1 = 0
              · rw [if_pos c74] at H
                have c74b0 : (x14_1 == 0) = true := beq_iff_eq.mpr c74
                have c74b1 : (x14_1 != 0) = false := bne_eq_false_iff_eq.mpr c74
                clear c74
                obtain rfl := Option.some.inj H
                obtain ⟨Ao75, co75, eo75⟩ := Kd.R_slice HO_11.out
                subst eo75
                go_wp2
                go_ret
                exact ⟨by first | rfl | (simp [errW_none, errW_some] <;> rfl) | (simp [*, errW_none, errW_some] <;> rfl), by repeat (first | (with_reducible first | exact HB.out | apply below_alloc | apply pw_below_drewN | apply below_drew1 | refine below_set ?_ GE192.out) | exact HB.out)⟩
              · rw [if_neg c74] at H
                have c74b0 : (x14_1 == 0) = false := beq_eq_false_iff_ne.mpr c74
                have c74b1 : (x14_1 != 0) = true := bne_iff_ne.mpr c74
                obtain rfl := Option.some.inj H
                go_wp2
                go_ret
                exact ⟨by first | rfl | (simp [errW_none, errW_some] <;> rfl) | (simp [*, errW_none, errW_some] <;> rfl), by repeat (first | (with_reducible first | exact HB.out | apply below_alloc | apply pw_below_drewN | apply below_drew1 | refine below_set ?_ GE192.out) | exact HB.out)⟩
            · rw [if_neg c73] at H
              have c73b0 : (x12_1 == a0) = false := beq_eq_false_iff_ne.mpr c73
              have c73b1 : (x12_1 != a0) = true := bne_iff_ne.mpr c73
              obtain rfl := Option.some.inj H
              go_wp2
              go_ret
              exact ⟨by first | rfl | (simp [errW_none, errW_some] <;> rfl) | (simp [*, errW_none, errW_some] <;> rfl), by repeat (first | (with_reducible first | exact HB.out | apply below_alloc | apply pw_below_drewN | apply below_drew1 | refine below_set ?_ GE192.out) | exact HB.out)⟩
    · have H1 : ((arrearslaw10_right.f a0 a1_0 a1_1 a2).bind fun t209 => (some (!t209))) = some r := by rw [if_neg (show ¬ (some q198).isNone = true by simp)] at H; exact H
      clear H
      have H := H1
      clear H1
      try simp only [errW_none, errW_some]
      replace H := Option.bind_eq_some_iff.mp H
      obtain ⟨t209, A760, H⟩ := H
      replace H : (some (!t209)) = some r := H
      have A76 := Aside0.mk A760
      clear A760
      obtain rfl := Option.some.inj H
      go_enter Try.func5, Try.ntmps5
      go_wp2_with (first | ((with_reducible refine gate_dst (N := 4) rfl ?_); (try (refine gate_guard (by rfl) ?_; dsimp only)); refine box_event ?hg (N := 4) ?hd (cs := #[.int .u32 a1_0, .int .u8 a1_1]) (t := 25) ?hr ?_; (case hd => rfl); (case hg => rfl); (case hr => first | (go_simp; done) | (go_simp; rfl)); intro gb192 hg w77 hbox hb; have n0_ := Aside0.mk (below_step (by repeat (first | (with_reducible first | exact HB.out | apply below_alloc | apply pw_below_drewN | apply below_drew1) | exact HB.out)) hb); have n1_ := Aside0.mk (hbox); have n2_ := Aside0.mk ((by rw [hg]; exact (below_size (by repeat (first | (with_reducible first | exact HB.out | apply below_alloc | apply pw_below_drewN | apply below_drew1) | exact HB.out))) : w.heap.size ≤ gb192)); have n3_ := Aside0.mk ((by rw [hg]; exact (below_size (by repeat (first | (with_reducible first | exact HB.out | apply below_alloc | apply pw_below_drewN | apply below_drew1) | exact HB.out))) : w.heap.size ≤ gb192)); clear HB; have HB := n0_; have BK192 := n1_; have GW192 := n2_; have GE192 := n3_; clear n0_ n1_ n2_ n3_; clear hb hbox hg) | ((with_reducible refine gate_callee (f := 7) rfl ?_); refine goesL_ (some 17) rfl rfl Try.func7 (by kernel_rfl) rfl #[] rfl (by (try simp only [List.map_toArray, List.map_cons, List.map_nil]); first | done | rfl | (simp only [List.length_drop, List.length_take]; rfl)) ?_; (with_reducible refine (arrearslaw10_awake.calls k  true _ A4.out).mono ?_); rintro e w78 ⟨rfl, hb⟩; refine ⟨_, rfl, ?_⟩; have n0_ := Aside0.mk (blk_below (g := gb192) (o := .cells #[.int .u32 a1_0, .int .u8 a1_1] 25 (0, 0)) (by (with_reducible repeat (first | refine blk_drewN ?_ _ | refine blk_drew ?_ | refine blk_alloc ?_ _)); exact BK192.out) hb); have n1_ := Aside0.mk (below_step (by repeat (first | (with_reducible first | exact HB.out | apply below_alloc | apply pw_below_drewN | apply below_drew1 | refine below_set ?_ GE192.out) | exact HB.out)) hb); clear BK192; clear HB; have BK192 := n0_; have HB := n1_; clear n0_ n1_; (try clear hb); (try clear hb2); (try clear hk); (try clear hi); have hcz79_0 : w78.cell? ⟨gb192, 0, none⟩ = some (.int .u32 a1_0) := (blk_cell BK192.out 0).trans rfl; have hcz79_1 : w78.cell? ⟨gb192, 1, none⟩ = some (.int .u8 a1_1) := (blk_cell BK192.out 1).trans rfl; have hfz79_0 := blk_frozen BK192.out 0; have hfz79_1 := blk_frozen BK192.out 1) | ((with_reducible refine gate_callee (f := 10) rfl ?_); refine goesL_ (some 23) rfl rfl Try.func10 (by kernel_rfl) rfl #[.int .u8 1, .int .i64 a0, .agg #[.int .u32 a1_0, .int .u8 a1_1], .int .i64 a2] rfl (by (try simp only [List.map_toArray, List.map_cons, List.map_nil]); first | done | rfl | (simp only [List.length_drop, List.length_take]; rfl)) ?_; (with_reducible refine (level_Rows.calls k 1 a0 a1_0 a1_1 a2 t194 (some q198) _ A6.out).mono ?_); rintro e w80 ⟨v195, rfl, ho0, hb⟩; refine ⟨_, rfl, ?_⟩; have n0_ := Aside0.mk (Kd.R_lower ho0 (below_size (by repeat (first | (with_reducible first | exact HB.out | apply below_alloc | apply pw_below_drewN | apply below_drew1 | refine below_set ?_ GE192.out) | exact HB.out)))); have n1_ := Aside0.mk (blk_below (g := gb192) (o := .cells #[.int .u32 a1_0, .int .u8 a1_1] 25 (0, 0)) (by (with_reducible repeat (first | refine blk_drewN ?_ _ | refine blk_drew ?_ | refine blk_alloc ?_ _)); exact BK192.out) hb); have n2_ := Aside0.mk (below_step (by repeat (first | (with_reducible first | exact HB.out | apply below_alloc | apply pw_below_drewN | apply below_drew1 | refine below_set ?_ GE192.out) | exact HB.out)) hb); clear BK192; clear HB; have HO196 := n0_; have BK192 := n1_; have HB := n2_; clear n0_ n1_ n2_; (try clear hb); (try clear hb2); (try clear hk); (try clear hi); (try clear ho0); (try simp only [errW_none, errW_some]); have hcz81_0 : w80.cell? ⟨gb192, 0, none⟩ = some (.int .u32 a1_0) := (blk_cell BK192.out 0).trans rfl; have hcz81_1 : w80.cell? ⟨gb192, 1, none⟩ = some (.int .u8 a1_1) := (blk_cell BK192.out 1).trans rfl; have hfz81_0 := blk_frozen BK192.out 0; have hfz81_1 := blk_frozen BK192.out 1) | ((with_reducible refine gate_callee (f := 8) rfl ?_); refine goesL_ (some 31) rfl rfl Try.func8 (by kernel_rfl) rfl #[.int .i64 a0, .agg #[.int .u32 a1_0, .int .u8 a1_1], .int .i64 a2] rfl (by (try simp only [List.map_toArray, List.map_cons, List.map_nil]); first | done | rfl | (simp only [List.length_drop, List.length_take]; rfl)) ?_; (with_reducible refine (arrearslaw10_right.calls a0 a1_0 a1_1 a2 t209 _ A76.out).mono ?_); rintro e w82 ⟨rfl, hb⟩; refine ⟨_, rfl, ?_⟩; have n0_ := Aside0.mk (Kd.R_below (by (with_reducible repeat (first | apply Kd.R_alloc | apply Kd.R_drewN | apply Kd.R_drew)); exact HO196.out) hb); have n1_ := Aside0.mk (blk_below (g := gb192) (o := .cells #[.int .u32 a1_0, .int .u8 a1_1] 25 (0, 0)) (by (with_reducible repeat (first | refine blk_drewN ?_ _ | refine blk_drew ?_ | refine blk_alloc ?_ _)); exact BK192.out) hb); have n2_ := Aside0.mk (below_step (by repeat (first | (with_reducible first | exact HB.out | apply below_alloc | apply pw_below_drewN | apply below_drew1 | refine below_set ?_ GE192.out) | exact HB.out)) hb); clear HO196; clear BK192; clear HB; have HO196 := n0_; have BK192 := n1_; have HB := n2_; clear n0_ n1_ n2_; (try clear hb); (try clear hb2); (try clear hk); (try clear hi)))
      go_ret
      exact ⟨by first | rfl | (simp [errW_none, errW_some] <;> rfl) | (simp [*, errW_none, errW_some] <;> rfl), by repeat (first | (with_reducible first | exact HB.out | apply below_alloc | apply pw_below_drewN | apply below_drew1 | refine below_set ?_ GE192.out) | exact HB.out)⟩
  · replace c5 := Bool.eq_false_iff.mpr c5
    subst c5
    have H1 : (some false) = some r := by rw [if_neg (show ¬ (false = true) by decide)] at H; exact H
    clear H
    have H := H1
    clear H1
    obtain rfl := Option.some.inj H
    go_enter Try.func5, Try.ntmps5
    go_wp2_with (first | ((with_reducible refine gate_dst (N := 4) rfl ?_); (try (refine gate_guard (by rfl) ?_; dsimp only)); refine box_event ?hg (N := 4) ?hd (cs := #[.int .u32 a1_0, .int .u8 a1_1]) (t := 25) ?hr ?_; (case hd => rfl); (case hg => rfl); (case hr => first | (go_simp; done) | (go_simp; rfl)); intro gb192 hg w83 hbox hb; have n0_ := Aside0.mk (below_step (by repeat (first | (with_reducible first | exact HB.out | apply below_alloc | apply pw_below_drewN | apply below_drew1) | exact HB.out)) hb); have n1_ := Aside0.mk (hbox); have n2_ := Aside0.mk ((by rw [hg]; exact (below_size (by repeat (first | (with_reducible first | exact HB.out | apply below_alloc | apply pw_below_drewN | apply below_drew1) | exact HB.out))) : w.heap.size ≤ gb192)); have n3_ := Aside0.mk ((by rw [hg]; exact (below_size (by repeat (first | (with_reducible first | exact HB.out | apply below_alloc | apply pw_below_drewN | apply below_drew1) | exact HB.out))) : w.heap.size ≤ gb192)); clear HB; have HB := n0_; have BK192 := n1_; have GW192 := n2_; have GE192 := n3_; clear n0_ n1_ n2_ n3_; clear hb hbox hg) | ((with_reducible refine gate_callee (f := 7) rfl ?_); refine goesL_ (some 17) rfl rfl Try.func7 (by kernel_rfl) rfl #[] rfl (by (try simp only [List.map_toArray, List.map_cons, List.map_nil]); first | done | rfl | (simp only [List.length_drop, List.length_take]; rfl)) ?_; (with_reducible refine (arrearslaw10_awake.calls k  false _ A4.out).mono ?_); rintro e w84 ⟨rfl, hb⟩; refine ⟨_, rfl, ?_⟩; have n0_ := Aside0.mk (blk_below (g := gb192) (o := .cells #[.int .u32 a1_0, .int .u8 a1_1] 25 (0, 0)) (by (with_reducible repeat (first | refine blk_drewN ?_ _ | refine blk_drew ?_ | refine blk_alloc ?_ _)); exact BK192.out) hb); have n1_ := Aside0.mk (below_step (by repeat (first | (with_reducible first | exact HB.out | apply below_alloc | apply pw_below_drewN | apply below_drew1 | refine below_set ?_ GE192.out) | exact HB.out)) hb); clear BK192; clear HB; have BK192 := n0_; have HB := n1_; clear n0_ n1_; (try clear hb); (try clear hb2); (try clear hk); (try clear hi)))
    go_ret
    exact ⟨by first | rfl | (simp [errW_none, errW_some] <;> rfl) | (simp [*, errW_none, errW_some] <;> rfl), by repeat (first | (with_reducible first | exact HB.out | apply below_alloc | apply pw_below_drewN | apply below_drew1 | refine below_set ?_ GE192.out) | exact HB.out)⟩

end Go.Proofs.Ytoclgoknednjgaa.PLevelAdds
