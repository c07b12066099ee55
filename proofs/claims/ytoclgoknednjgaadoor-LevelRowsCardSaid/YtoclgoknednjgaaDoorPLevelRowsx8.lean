-- Printed by a wrapper of this session's round the kit's print.py; Lean checks it.
import Derived.Test.YtoclgoknednjgaaDoorPLevelRowsx0
import Derived.Test.YtoclgoknednjgaaDoorPLevelRowsx1
import Derived.Test.YtoclgoknednjgaaDoorPLevelRowsx4
import Derived.Test.YtoclgoknednjgaaDoorPLevelRowsx5
import Derived.Test.YtoclgoknednjgaaDoorPLevelRowsx7
namespace Go.Proofs.YtoclgoknednjgaaDoor.PLevelRows
open Go.RowKit Go.Proofs.YtoclgoknednjgaaDoorW.PrintWords Go.Proofs.YtoclgoknednjgaaDoorW.PrintLast Go.Proofs.YtoclgoknednjgaaDoorW.PrintMore
attribute [local go_sem] max2_int min2_int max_two min_two max_three min_three max_four min_four   -- for this text's walks alone
set_option linter.unusedVariables false
set_option linter.unusedSimpArgs false

attribute [local go_sem high] eqA46
/-! ### arrearslaw10_LevelRows: function 4 -/
mutual
def arrearslaw10_LevelRows.j0 : Nat → Int → Int → Int → List (S44) → Option Int → Bool → Int → Int → Option (Bool)
  | 0, _, _, _, _, _, _, _, _ => none
  | k + 1, x0, x1, x3, x9, x10, x38, x234000, x234001 => if x38 = true then (if (x9.length : Int) = 0 then ((api_Code.f x10).bind fun t240 => (some (t240 == 1))) else (some false)) else ((level_Payment.f k x1 x234000 x234001 x3).bind fun bt241 => ((arrearslaw10_own.f x234000 x234001).bind fun bt243 => ((arrearsref10_Rows.f k (x0 == 2) x1 bt243.1 bt243.2 x3 bt241.1).bind fun t245 => (if x10.isNone = true then (arrearslaw10_LevelRows.j1 k x9 t245 ((x9.length : Int) != x3)) else (arrearslaw10_LevelRows.j1 k x9 t245 true)))))
def arrearslaw10_LevelRows.j1 : Nat → List (S44) → List (S46) → Bool → Option (Bool)
  | 0, _, _, _ => none
  | k + 1, x9, x13, x69 => if x69 = true then (some false) else (arrearslaw10_LevelRows.l0 k x13 x9 (x9.length : Int) 0)
def arrearslaw10_LevelRows.l0 : Nat → List (S46) → List (S44) → Int → Int → Option (Bool)
  | 0, _, _, _, _ => none
  | k + 1, x13, x70, x71, x72 => if x72 < x71 then (if 0 ≤ x72 then (if x72 < (x70.length : Int) then (if x72 < (x13.length : Int) then (if (!(((rd_T44 x70 x72).f0) == ((rd_T46 x13 x72).f0)) || (!(((rd_T44 x70 x72).f1) == ((rd_T46 x13 x72).f1)) || (!(((rd_T44 x70 x72).f2) == ((rd_T46 x13 x72).f2))))) = true then (some false) else ((level_Row_Pay.f ((rd_T44 x70 x72).f0) ((rd_T44 x70 x72).f1) ((rd_T44 x70 x72).f2)).bind fun t252 => (if t252 = (wrap64 (((rd_T44 x70 x72).f0) + ((rd_T44 x70 x72).f1))) then (arrearslaw10_LevelRows.l0 k x13 x70 x71 (wrap64 (x72 + 1))) else (some false)))) else (none)) else (none)) else (none)) else (some true)
end
def arrearslaw10_LevelRows.f (k : Nat) (a0 : Int) (a1 : Int) (a2_0 : Int) (a2_1 : Int) (a3 : Int) : Option (Bool) := (arrearslaw10_awake.f k).bind fun t234 => (if t234 = true then ((level_Rows.f k a0 a1 a2_0 a2_1 a3).bind fun bt235 => ((arrearslaw10_right.f a1 a2_0 a2_1 a3).bind fun t239 => (if t239 = true then (if a0 = 1 then (arrearslaw10_LevelRows.j0 k a0 a1 a3 bt235.1 bt235.2 false a2_0 a2_1) else (arrearslaw10_LevelRows.j0 k a0 a1 a3 bt235.1 bt235.2 (a0 != 2) a2_0 a2_1)) else (arrearslaw10_LevelRows.j0 k a0 a1 a3 bt235.1 bt235.2 true a2_0 a2_1)))) else (some false))
theorem arrearslaw10_LevelRows.mono_l : ∀ k, (∀ y0 y1 y2 y3 y4 y5 y6 y7, LeO (arrearslaw10_LevelRows.j0 k y0 y1 y2 y3 y4 y5 y6 y7) (arrearslaw10_LevelRows.j0 (k + 1) y0 y1 y2 y3 y4 y5 y6 y7)) ∧ (∀ y0 y1 y2, LeO (arrearslaw10_LevelRows.j1 k y0 y1 y2) (arrearslaw10_LevelRows.j1 (k + 1) y0 y1 y2)) ∧ (∀ y0 y1 y2 y3, LeO (arrearslaw10_LevelRows.l0 k y0 y1 y2 y3) (arrearslaw10_LevelRows.l0 (k + 1) y0 y1 y2 y3))
  | 0 => ⟨fun _ _ _ _ _ _ _ _ r h => by simp [arrearslaw10_LevelRows.j0] at h, fun _ _ _ r h => by simp [arrearslaw10_LevelRows.j1] at h, fun _ _ _ _ r h => by simp [arrearslaw10_LevelRows.l0] at h⟩
  | k + 1 => by
    obtain ⟨ih0, ih1, ih2⟩ := arrearslaw10_LevelRows.mono_l k
    refine ⟨?_, ?_, ?_⟩
    · intro y0 y1 y2 y3 y4 y5 y6 y7
      unfold arrearslaw10_LevelRows.j0
      repeat' first
      | (with_reducible exact ih0 _ _ _ _ _ _ _ _)
      | (with_reducible exact ih1 _ _ _)
      | (with_reducible exact ih2 _ _ _ _)
      | (with_reducible exact arrearslaw10_awake.mono _)
      | (with_reducible exact arrearsref10_Rows.mono _ _ _ _ _ _ _)
      | (with_reducible exact level_Payment.mono _ _ _ _ _)
      | (with_reducible exact level_Rows.mono _ _ _ _ _ _)
      | (with_reducible exact LeO.refl _)
      | (with_reducible exact LeO.none _)
      | (with_reducible refine LeO.ite ?_ ?_)
      | (with_reducible refine LeO.bind ?_ (fun _ => ?_))
      | exact ih0 _ _ _ _ _ _ _ _
      | exact ih1 _ _ _
      | exact ih2 _ _ _ _
      | exact arrearslaw10_awake.mono _
      | exact arrearsref10_Rows.mono _ _ _ _ _ _ _
      | exact level_Payment.mono _ _ _ _ _
      | exact level_Rows.mono _ _ _ _ _ _
      | exact LeO.none _
      | refine LeO.ite ?_ ?_
      | refine LeO.bind ?_ (fun _ => ?_)
    · intro y0 y1 y2
      unfold arrearslaw10_LevelRows.j1
      repeat' first
      | (with_reducible exact ih0 _ _ _ _ _ _ _ _)
      | (with_reducible exact ih1 _ _ _)
      | (with_reducible exact ih2 _ _ _ _)
      | (with_reducible exact arrearslaw10_awake.mono _)
      | (with_reducible exact arrearsref10_Rows.mono _ _ _ _ _ _ _)
      | (with_reducible exact level_Payment.mono _ _ _ _ _)
      | (with_reducible exact level_Rows.mono _ _ _ _ _ _)
      | (with_reducible exact LeO.refl _)
      | (with_reducible exact LeO.none _)
      | (with_reducible refine LeO.ite ?_ ?_)
      | (with_reducible refine LeO.bind ?_ (fun _ => ?_))
      | exact ih0 _ _ _ _ _ _ _ _
      | exact ih1 _ _ _
      | exact ih2 _ _ _ _
      | exact arrearslaw10_awake.mono _
      | exact arrearsref10_Rows.mono _ _ _ _ _ _ _
      | exact level_Payment.mono _ _ _ _ _
      | exact level_Rows.mono _ _ _ _ _ _
      | exact LeO.none _
      | refine LeO.ite ?_ ?_
      | refine LeO.bind ?_ (fun _ => ?_)
    · intro y0 y1 y2 y3
      unfold arrearslaw10_LevelRows.l0
      repeat' first
      | (with_reducible exact ih0 _ _ _ _ _ _ _ _)
      | (with_reducible exact ih1 _ _ _)
      | (with_reducible exact ih2 _ _ _ _)
      | (with_reducible exact arrearslaw10_awake.mono _)
      | (with_reducible exact arrearsref10_Rows.mono _ _ _ _ _ _ _)
      | (with_reducible exact level_Payment.mono _ _ _ _ _)
      | (with_reducible exact level_Rows.mono _ _ _ _ _ _)
      | (with_reducible exact LeO.refl _)
      | (with_reducible exact LeO.none _)
      | (with_reducible refine LeO.ite ?_ ?_)
      | (with_reducible refine LeO.bind ?_ (fun _ => ?_))
      | exact ih0 _ _ _ _ _ _ _ _
      | exact ih1 _ _ _
      | exact ih2 _ _ _ _
      | exact arrearslaw10_awake.mono _
      | exact arrearsref10_Rows.mono _ _ _ _ _ _ _
      | exact level_Payment.mono _ _ _ _ _
      | exact level_Rows.mono _ _ _ _ _ _
      | exact LeO.none _
      | refine LeO.ite ?_ ?_
      | refine LeO.bind ?_ (fun _ => ?_)
theorem arrearslaw10_LevelRows.mono : ∀ a0 a1 a2 a3 a4 k, LeO (arrearslaw10_LevelRows.f k a0 a1 a2 a3 a4) (arrearslaw10_LevelRows.f (k + 1) a0 a1 a2 a3 a4) := by
  intro a0 a1 a2 a3 a4 k
  obtain ⟨ih0, ih1, ih2⟩ := arrearslaw10_LevelRows.mono_l k
  unfold arrearslaw10_LevelRows.f
  repeat' first
      | (with_reducible exact ih0 _ _ _ _ _ _ _ _)
      | (with_reducible exact ih1 _ _ _)
      | (with_reducible exact ih2 _ _ _ _)
      | (with_reducible exact arrearslaw10_awake.mono _)
      | (with_reducible exact arrearsref10_Rows.mono _ _ _ _ _ _ _)
      | (with_reducible exact level_Payment.mono _ _ _ _ _)
      | (with_reducible exact level_Rows.mono _ _ _ _ _ _)
      | (with_reducible exact LeO.refl _)
      | (with_reducible exact LeO.none _)
      | (with_reducible refine LeO.ite ?_ ?_)
      | (with_reducible refine LeO.bind ?_ (fun _ => ?_))
      | exact ih0 _ _ _ _ _ _ _ _
      | exact ih1 _ _ _
      | exact ih2 _ _ _ _
      | exact arrearslaw10_awake.mono _
      | exact arrearsref10_Rows.mono _ _ _ _ _ _ _
      | exact level_Payment.mono _ _ _ _ _
      | exact level_Rows.mono _ _ _ _ _ _
      | exact LeO.none _
      | refine LeO.ite ?_ ?_
      | refine LeO.bind ?_ (fun _ => ?_)
def arrearslaw10_LevelRows.T13 : Bool × List (List Nat × List Nat) := (true, [([], []), ([0], [0]), ([], []), ([2], [2]), ([], []), ([4], [4]), ([1, 3, 5], [1, 3, 5]), ([], []), ([], []), ([7, 8], [7, 8]), ([9], [9]), ([6, 10], [6, 10]), ([11], [11]), ([12], [12]), ([13, 12, 12], [12, 13]), ([12], [12]), ([15, 12], [12, 15]), ([12], [12]), ([17, 12], [12, 17]), ([16, 18, 12], [12, 16, 18]), ([14, 19, 12], [12, 14, 19]), ([12, 20], [12, 20])])
def arrearslaw10_LevelRows.B13 : List Nat := [0, 1, 0, 4, 0, 16, 63, 0, 0, 384, 896, 2047, 4095, 8191, 16383, 8191, 40959, 8191, 139263, 499711, 1048575, 2097151]
theorem arrearslaw10_LevelRows.tab13 : rtab .any (opsOf Tryd.f4 13) = arrearslaw10_LevelRows.T13 := by kernel_rfl
theorem arrearslaw10_LevelRows.bits13 : waitsOk arrearslaw10_LevelRows.T13.2 arrearslaw10_LevelRows.B13 = true := by kernel_rfl
set_option maxHeartbeats 8000000 in
set_option maxRecDepth 100000 in
theorem arrearslaw10_LevelRows.calls (k : Nat) (a0 : Int) (a1 : Int) (a2_0 : Int) (a2_1 : Int) (a3 : Int) (r : Bool) (w : World) (hG : Go.Proofs.YtoclgoknednjgaaDoor.M.Laid w) (h : arrearslaw10_LevelRows.f k a0 a1 a2_0 a2_1 a3 = some r) (hr : r = true) :
    Calls Tryd.prog 4 #[.int .u8 a0, .int .i64 a1, .agg #[.int .u32 a2_0, .int .u8 a2_1], .int .i64 a3] w fun e w' => e = .returned (.bool r) ∧ Below w.heap.size w w' := by
  have hu25 := Tryd.underlying25
  have hu44 := Tryd.underlying44
  have hu46 := Tryd.underlying46
  have hu28 := Tryd.underlying28
  have hu32 := Tryd.underlying32
  have HB := Aside0.mk (Below.refl w.heap.size w)
  have HG := Aside0.mk hG
  clear hG
  have HR := Aside0.mk hr
  clear hr
  have H : ((arrearslaw10_awake.f k).bind fun t234 => (if t234 = true then ((level_Rows.f k a0 a1 a2_0 a2_1 a3).bind fun bt235 => ((arrearslaw10_right.f a1 a2_0 a2_1 a3).bind fun t239 => (if t239 = true then (if a0 = 1 then (arrearslaw10_LevelRows.j0 k a0 a1 a3 bt235.1 bt235.2 false a2_0 a2_1) else (arrearslaw10_LevelRows.j0 k a0 a1 a3 bt235.1 bt235.2 (a0 != 2) a2_0 a2_1)) else (arrearslaw10_LevelRows.j0 k a0 a1 a3 bt235.1 bt235.2 true a2_0 a2_1)))) else (some false))) = some r := h
  clear h
  replace H := Option.bind_eq_some_iff.mp H
  obtain ⟨t234, A50, H⟩ := H
  replace H : (if t234 = true then ((level_Rows.f k a0 a1 a2_0 a2_1 a3).bind fun bt235 => ((arrearslaw10_right.f a1 a2_0 a2_1 a3).bind fun t239 => (if t239 = true then (if a0 = 1 then (arrearslaw10_LevelRows.j0 k a0 a1 a3 bt235.1 bt235.2 false a2_0 a2_1) else (arrearslaw10_LevelRows.j0 k a0 a1 a3 bt235.1 bt235.2 (a0 != 2) a2_0 a2_1)) else (arrearslaw10_LevelRows.j0 k a0 a1 a3 bt235.1 bt235.2 true a2_0 a2_1)))) else (some false)) = some r := H
  have A5 := Aside0.mk A50
  clear A50
  by_cases c6 : t234 = true
  · subst c6
    have H1 : ((level_Rows.f k a0 a1 a2_0 a2_1 a3).bind fun bt235 => ((arrearslaw10_right.f a1 a2_0 a2_1 a3).bind fun t239 => (if t239 = true then (if a0 = 1 then (arrearslaw10_LevelRows.j0 k a0 a1 a3 bt235.1 bt235.2 false a2_0 a2_1) else (arrearslaw10_LevelRows.j0 k a0 a1 a3 bt235.1 bt235.2 (a0 != 2) a2_0 a2_1)) else (arrearslaw10_LevelRows.j0 k a0 a1 a3 bt235.1 bt235.2 true a2_0 a2_1)))) = some r := by rw [if_pos rfl] at H; exact H
    clear H
    have H := H1
    clear H1
    replace H := Option.bind_eq_some_iff.mp H
    obtain ⟨⟨t235, t238⟩, A70, H⟩ := H
    replace H : ((arrearslaw10_right.f a1 a2_0 a2_1 a3).bind fun t239 => (if t239 = true then (if a0 = 1 then (arrearslaw10_LevelRows.j0 k a0 a1 a3 t235 t238 false a2_0 a2_1) else (arrearslaw10_LevelRows.j0 k a0 a1 a3 t235 t238 (a0 != 2) a2_0 a2_1)) else (arrearslaw10_LevelRows.j0 k a0 a1 a3 t235 t238 true a2_0 a2_1))) = some r := H
    have A7 := Aside0.mk A70
    clear A70
    have HC8 := Aside0.mk H
    clear H
    go_enter Tryd.func4, Tryd.ntmps4
    go_upto_region 4 with (first | ((with_reducible refine gate_dst (N := 6) rfl ?_); (try (refine gate_guard (by rfl) ?_; dsimp only)); refine box_event ?hg (N := 6) ?hd (cs := #[.int .u32 a2_0, .int .u8 a2_1]) (t := 25) ?hr ?_; (case hd => rfl); (case hg => rfl); (case hr => first | (go_simp; done) | (go_simp; rfl)); intro gb233 hg w9 hbox hb; have n0_ := Aside0.mk (below_step (by repeat (first | (with_reducible first | exact HB.out | apply below_alloc | apply pw_below_drewN | apply below_drew1) | exact HB.out)) hb); have n1_ := Aside0.mk (hbox); have n2_ := Aside0.mk ((by rw [hg]; exact (below_size (by repeat (first | (with_reducible first | exact HB.out | apply below_alloc | apply pw_below_drewN | apply below_drew1) | exact HB.out))) : w.heap.size ≤ gb233)); have n3_ := Aside0.mk ((by rw [hg]; exact (below_size (by repeat (first | (with_reducible first | exact HB.out | apply below_alloc | apply pw_below_drewN | apply below_drew1) | exact HB.out))) : w.heap.size ≤ gb233)); clear HB; have HB := n0_; have BK233 := n1_; have GW233 := n2_; have GE233 := n3_; clear n0_ n1_ n2_ n3_; clear hb hbox hg) | ((with_reducible refine gate_callee (f := 5) rfl ?_); refine goesL_ (some 16) rfl rfl Tryd.func5 (by kernel_rfl) rfl #[] rfl (by (try simp only [List.map_toArray, List.map_cons, List.map_nil]); first | done | rfl | (simp only [List.length_drop, List.length_take]; rfl)) ?_; (with_reducible refine (arrearslaw10_awake.calls k  true _ A5.out).mono ?_); rintro e w10 ⟨rfl, hb⟩; refine ⟨_, rfl, ?_⟩; have n0_ := Aside0.mk (blk_below (g := gb233) (o := .cells #[.int .u32 a2_0, .int .u8 a2_1] 25 (0, 0)) (by (with_reducible repeat (first | refine blk_drewN ?_ _ | refine blk_drew ?_ | refine blk_alloc ?_ _)); exact BK233.out) hb); have n1_ := Aside0.mk (below_step (by repeat (first | (with_reducible first | exact HB.out | apply below_alloc | apply pw_below_drewN | apply below_drew1 | refine below_set ?_ GE233.out) | exact HB.out)) hb); clear BK233; clear HB; have BK233 := n0_; have HB := n1_; clear n0_ n1_; (try clear hb); (try clear hb2); (try clear hk); (try clear hi); have hcz11_0 : w10.cell? ⟨gb233, 0, none⟩ = some (.int .u32 a2_0) := (blk_cell BK233.out 0).trans rfl; have hcz11_1 : w10.cell? ⟨gb233, 1, none⟩ = some (.int .u8 a2_1) := (blk_cell BK233.out 1).trans rfl; have hfz11_0 := blk_frozen BK233.out 0; have hfz11_1 := blk_frozen BK233.out 1) | ((with_reducible refine gate_callee (f := 11) rfl ?_); refine goesL_ (some 23) rfl rfl Tryd.func11 (by kernel_rfl) rfl #[.int .u8 a0, .int .i64 a1, .agg #[.int .u32 a2_0, .int .u8 a2_1], .int .i64 a3] rfl (by (try simp only [List.map_toArray, List.map_cons, List.map_nil]); first | done | rfl | (simp only [List.length_drop, List.length_take]; rfl)) ?_; (with_reducible refine (level_Rows.calls k a0 a1 a2_0 a2_1 a3 t235 t238 _ A7.out).mono ?_); rintro e w12 ⟨v236, rfl, ho0, hb⟩; refine ⟨_, rfl, ?_⟩; have n0_ := Aside0.mk (Kd.R_lower ho0 (below_size (by repeat (first | (with_reducible first | exact HB.out | apply below_alloc | apply pw_below_drewN | apply below_drew1 | refine below_set ?_ GE233.out) | exact HB.out)))); have n1_ := Aside0.mk (blk_below (g := gb233) (o := .cells #[.int .u32 a2_0, .int .u8 a2_1] 25 (0, 0)) (by (with_reducible repeat (first | refine blk_drewN ?_ _ | refine blk_drew ?_ | refine blk_alloc ?_ _)); exact BK233.out) hb); have n2_ := Aside0.mk (below_step (by repeat (first | (with_reducible first | exact HB.out | apply below_alloc | apply pw_below_drewN | apply below_drew1 | refine below_set ?_ GE233.out) | exact HB.out)) hb); clear BK233; clear HB; have HO237 := n0_; have BK233 := n1_; have HB := n2_; clear n0_ n1_ n2_; (try clear hb); (try clear hb2); (try clear hk); (try clear hi); (try clear ho0); (try simp only [errW_none, errW_some])))
    (try simp only [Act.put, List.setIfInBounds_toArray, List.set_cons_zero, List.set_cons_succ])
    go_cut [38] (fun v38 wc => ∃ (kq : Nat) (x38_7 : Bool), v38 = .bool x38_7 ∧ Aside0 (arrearslaw10_LevelRows.j0 kq a0 a1 a3 t235 t238 x38_7 a2_0 a2_1 = some r) ∧ Aside0 (kq ≤ k) ∧ Aside0 (Kd.R k44 44 wc w.heap.size (fun _ => True) v236 t235) ∧ Aside0 (wc.heap[gb233]? = some (.cells #[.int .u32 a2_0, .int .u8 a2_1] 25 (0, 0))) ∧ Aside0 (Below w.heap.size w wc))
    case first =>
      have H := HC8.out
      clear HC8
      replace H := Option.bind_eq_some_iff.mp H
      obtain ⟨t239, A130, H⟩ := H
      replace H : (if t239 = true then (if a0 = 1 then (arrearslaw10_LevelRows.j0 k a0 a1 a3 t235 t238 false a2_0 a2_1) else (arrearslaw10_LevelRows.j0 k a0 a1 a3 t235 t238 (a0 != 2) a2_0 a2_1)) else (arrearslaw10_LevelRows.j0 k a0 a1 a3 t235 t238 true a2_0 a2_1)) = some r := H
      have A13 := Aside0.mk A130
      clear A130
      by_cases c14 : t239 = true
      · subst c14
        have H1 : (if a0 = 1 then (arrearslaw10_LevelRows.j0 k a0 a1 a3 t235 t238 false a2_0 a2_1) else (arrearslaw10_LevelRows.j0 k a0 a1 a3 t235 t238 (a0 != 2) a2_0 a2_1)) = some r := by rw [if_pos rfl] at H; exact H
        clear H
        have H := H1
        clear H1
        by_cases c15 : a0 = 1
        · rw [if_pos c15] at H
          have c15b0 : (a0 == 1) = true := beq_iff_eq.mpr c15
          have c15b1 : (a0 != 1) = false := bne_eq_false_iff_eq.mpr c15
          clear c15
          (first | rw [c15b0] | (simp only [i64_w, i32_w]; rw [c15b0]) | skip)
          have H' := Aside0.mk H
          clear H
          have hcz16_0 : w12.cell? ⟨gb233, 0, none⟩ = some (.int .u32 a2_0) := (blk_cell BK233.out 0).trans rfl
          have hcz16_1 : w12.cell? ⟨gb233, 1, none⟩ = some (.int .u8 a2_1) := (blk_cell BK233.out 1).trans rfl
          have hfz16_0 := blk_frozen BK233.out 0
          have hfz16_1 := blk_frozen BK233.out 1
          go_wp2_with (first | ((with_reducible refine gate_callee (f := 7) rfl ?_); refine goesL_ (some 29) rfl rfl Tryd.func7 (by kernel_rfl) rfl #[.int .i64 a1, .agg #[.int .u32 a2_0, .int .u8 a2_1], .int .i64 a3] rfl (by (try simp only [List.map_toArray, List.map_cons, List.map_nil]); first | done | rfl | (simp only [List.length_drop, List.length_take]; rfl)) ?_; (with_reducible refine (arrearslaw10_right.calls a1 a2_0 a2_1 a3 true _ A13.out).mono ?_); rintro e w17 ⟨rfl, hb⟩; refine ⟨_, rfl, ?_⟩; have n0_ := Aside0.mk (Kd.R_below (by (with_reducible repeat (first | apply Kd.R_alloc | apply Kd.R_drewN | apply Kd.R_drew)); exact HO237.out) hb); have n1_ := Aside0.mk (blk_below (g := gb233) (o := .cells #[.int .u32 a2_0, .int .u8 a2_1] 25 (0, 0)) (by (with_reducible repeat (first | refine blk_drewN ?_ _ | refine blk_drew ?_ | refine blk_alloc ?_ _)); exact BK233.out) hb); have n2_ := Aside0.mk (below_step (by repeat (first | (with_reducible first | exact HB.out | apply below_alloc | apply pw_below_drewN | apply below_drew1 | refine below_set ?_ GE233.out) | exact HB.out)) hb); clear HO237; clear BK233; clear HB; have HO237 := n0_; have BK233 := n1_; have HB := n2_; clear n0_ n1_ n2_; (try clear hb); (try clear hb2); (try clear hk); (try clear hi)))
          go_meet
          case rel => exact ⟨_, (false), (by first | rfl | (simp; done) | (simp [*]; done) | (exfalso; simp at *; omega)), H', ⟨by first | omega | exact Nat.le_refl _⟩, ⟨by (with_reducible repeat (first | apply Kd.R_alloc | apply Kd.R_drewN | apply Kd.R_drew)); exact HO237.out⟩, ⟨by (with_reducible repeat (first | refine blk_drewN ?_ _ | refine blk_drew ?_ | refine blk_alloc ?_ _)); exact BK233.out⟩, ⟨by repeat (first | (with_reducible first | exact HB.out | apply below_alloc | apply pw_below_drewN | apply below_drew1 | refine below_set ?_ GE233.out) | exact HB.out)⟩⟩
        · rw [if_neg c15] at H
          have c15b0 : (a0 == 1) = false := beq_eq_false_iff_ne.mpr c15
          have c15b1 : (a0 != 1) = true := bne_iff_ne.mpr c15
          (first | rw [c15b0] | (simp only [i64_w, i32_w]; rw [c15b0]) | skip)
          have H' := Aside0.mk H
          clear H
          have hcz18_0 : w12.cell? ⟨gb233, 0, none⟩ = some (.int .u32 a2_0) := (blk_cell BK233.out 0).trans rfl
          have hcz18_1 : w12.cell? ⟨gb233, 1, none⟩ = some (.int .u8 a2_1) := (blk_cell BK233.out 1).trans rfl
          have hfz18_0 := blk_frozen BK233.out 0
          have hfz18_1 := blk_frozen BK233.out 1
          go_wp2_with (first | ((with_reducible refine gate_callee (f := 7) rfl ?_); refine goesL_ (some 29) rfl rfl Tryd.func7 (by kernel_rfl) rfl #[.int .i64 a1, .agg #[.int .u32 a2_0, .int .u8 a2_1], .int .i64 a3] rfl (by (try simp only [List.map_toArray, List.map_cons, List.map_nil]); first | done | rfl | (simp only [List.length_drop, List.length_take]; rfl)) ?_; (with_reducible refine (arrearslaw10_right.calls a1 a2_0 a2_1 a3 true _ A13.out).mono ?_); rintro e w19 ⟨rfl, hb⟩; refine ⟨_, rfl, ?_⟩; have n0_ := Aside0.mk (Kd.R_below (by (with_reducible repeat (first | apply Kd.R_alloc | apply Kd.R_drewN | apply Kd.R_drew)); exact HO237.out) hb); have n1_ := Aside0.mk (blk_below (g := gb233) (o := .cells #[.int .u32 a2_0, .int .u8 a2_1] 25 (0, 0)) (by (with_reducible repeat (first | refine blk_drewN ?_ _ | refine blk_drew ?_ | refine blk_alloc ?_ _)); exact BK233.out) hb); have n2_ := Aside0.mk (below_step (by repeat (first | (with_reducible first | exact HB.out | apply below_alloc | apply pw_below_drewN | apply below_drew1 | refine below_set ?_ GE233.out) | exact HB.out)) hb); clear HO237; clear BK233; clear HB; have HO237 := n0_; have BK233 := n1_; have HB := n2_; clear n0_ n1_ n2_; (try clear hb); (try clear hb2); (try clear hk); (try clear hi)))
          go_meet
          case rel => exact ⟨_, ((a0 != 2)), (by first | rfl | (simp; done) | (simp [*]; done) | (exfalso; simp at *; omega)), H', ⟨by first | omega | exact Nat.le_refl _⟩, ⟨by (with_reducible repeat (first | apply Kd.R_alloc | apply Kd.R_drewN | apply Kd.R_drew)); exact HO237.out⟩, ⟨by (with_reducible repeat (first | refine blk_drewN ?_ _ | refine blk_drew ?_ | refine blk_alloc ?_ _)); exact BK233.out⟩, ⟨by repeat (first | (with_reducible first | exact HB.out | apply below_alloc | apply pw_below_drewN | apply below_drew1 | refine below_set ?_ GE233.out) | exact HB.out)⟩⟩
      · replace c14 := Bool.eq_false_iff.mpr c14
        subst c14
        have H1 : (arrearslaw10_LevelRows.j0 k a0 a1 a3 t235 t238 true a2_0 a2_1) = some r := by rw [if_neg (show ¬ (false = true) by decide)] at H; exact H
        clear H
        have H := H1
        clear H1
        have H' := Aside0.mk H
        clear H
        have hcz20_0 : w12.cell? ⟨gb233, 0, none⟩ = some (.int .u32 a2_0) := (blk_cell BK233.out 0).trans rfl
        have hcz20_1 : w12.cell? ⟨gb233, 1, none⟩ = some (.int .u8 a2_1) := (blk_cell BK233.out 1).trans rfl
        have hfz20_0 := blk_frozen BK233.out 0
        have hfz20_1 := blk_frozen BK233.out 1
        go_wp2_with (first | ((with_reducible refine gate_callee (f := 7) rfl ?_); refine goesL_ (some 29) rfl rfl Tryd.func7 (by kernel_rfl) rfl #[.int .i64 a1, .agg #[.int .u32 a2_0, .int .u8 a2_1], .int .i64 a3] rfl (by (try simp only [List.map_toArray, List.map_cons, List.map_nil]); first | done | rfl | (simp only [List.length_drop, List.length_take]; rfl)) ?_; (with_reducible refine (arrearslaw10_right.calls a1 a2_0 a2_1 a3 false _ A13.out).mono ?_); rintro e w21 ⟨rfl, hb⟩; refine ⟨_, rfl, ?_⟩; have n0_ := Aside0.mk (Kd.R_below (by (with_reducible repeat (first | apply Kd.R_alloc | apply Kd.R_drewN | apply Kd.R_drew)); exact HO237.out) hb); have n1_ := Aside0.mk (blk_below (g := gb233) (o := .cells #[.int .u32 a2_0, .int .u8 a2_1] 25 (0, 0)) (by (with_reducible repeat (first | refine blk_drewN ?_ _ | refine blk_drew ?_ | refine blk_alloc ?_ _)); exact BK233.out) hb); have n2_ := Aside0.mk (below_step (by repeat (first | (with_reducible first | exact HB.out | apply below_alloc | apply pw_below_drewN | apply below_drew1 | refine below_set ?_ GE233.out) | exact HB.out)) hb); clear HO237; clear BK233; clear HB; have HO237 := n0_; have BK233 := n1_; have HB := n2_; clear n0_ n1_ n2_; (try clear hb); (try clear hb2); (try clear hk); (try clear hi)))
        go_meet
        case rel => exact ⟨_, (true), (by first | rfl | (simp; done) | (simp [*]; done) | (exfalso; simp at *; omega)), H', ⟨by first | omega | exact Nat.le_refl _⟩, ⟨by (with_reducible repeat (first | apply Kd.R_alloc | apply Kd.R_drewN | apply Kd.R_drew)); exact HO237.out⟩, ⟨by (with_reducible repeat (first | refine blk_drewN ?_ _ | refine blk_drew ?_ | refine blk_alloc ?_ _)); exact BK233.out⟩, ⟨by repeat (first | (with_reducible first | exact HB.out | apply below_alloc | apply pw_below_drewN | apply below_drew1 | refine below_set ?_ GE233.out) | exact HB.out)⟩⟩
    case rest =>
      clear HC8
      try clear c1
      try clear p2
      try clear c4
      try clear c5
      try clear c6
      try clear c7
      try clear c11
      try clear c14
      try clear c15
      try clear c15b0
      try clear c15b1
      try clear hcz11_0
      try clear hcz11_1
      try clear hcz16_0
      try clear hcz16_1
      try clear hcz18_0
      try clear hcz18_1
      try clear hcz20_0
      try clear hcz20_1
      try clear hfz11_0
      try clear hfz11_1
      try clear hfz16_0
      try clear hfz16_1
      try clear hfz18_0
      try clear hfz18_1
      try clear hfz20_0
      try clear hfz20_1
      obtain ⟨kq, x38_7, rfl, HA, HJ7, HO_9, BK233, HB⟩ := hcut
      cases kq with
      | zero => exact absurd HA.out (by simp [arrearslaw10_LevelRows.j0])
      | succ kj7 =>
        have H := HA.out
        clear HA
        simp only [arrearslaw10_LevelRows.j0] at H
        by_cases c22 : x38_7 = true
        · subst c22
          have H1 : (if (t235.length : Int) = 0 then ((api_Code.f t238).bind fun t240 => (some (t240 == 1))) else (some false)) = some r := by rw [if_pos rfl] at H; exact H
          clear H
          have H := H1
          clear H1
          by_cases c23 : (t235.length : Int) = 0
          · rw [if_pos c23] at H
            have c23b0 : ((t235.length : Int) == 0) = true := beq_iff_eq.mpr c23
            have c23b1 : ((t235.length : Int) != 0) = false := bne_eq_false_iff_eq.mpr c23
            clear c23
            replace H := Option.bind_eq_some_iff.mp H
            obtain ⟨t240, A240, H⟩ := H
            replace H : (some (t240 == 1)) = some r := H
            have A24 := Aside0.mk A240
            clear A240
            obtain rfl := Option.some.inj H
            obtain ⟨Ao25, co25, eo25⟩ := Kd.R_slice HO_9.out
            subst eo25
            have CA24 := fun W (hGW : Go.Proofs.YtoclgoknednjgaaDoor.M.Laid W) => api_Code.calls t238 t240 W hGW A24.out
            try simp only [errW_none, errW_some] at CA24
            go_wp2_with (first | (go_at_call 8; (with_reducible refine (CA24 _ ?hGL).mono ?_); (case hGL => exact Go.Proofs.YtoclgoknednjgaaDoor.M.Laid.below HG.out (by repeat (first | (with_reducible first | exact HB.out | apply below_alloc | apply pw_below_drewN | apply below_drew1 | refine below_set ?_ GE233.out) | exact HB.out))); rintro e w26 ⟨rfl, hb⟩; have n0_ := Aside0.mk (Kd.R_below (by (with_reducible repeat (first | apply Kd.R_alloc | apply Kd.R_drewN | apply Kd.R_drew)); exact HO_9.out) hb); have n1_ := Aside0.mk (blk_below (g := gb233) (o := .cells #[.int .u32 a2_0, .int .u8 a2_1] 25 (0, 0)) (by (with_reducible repeat (first | refine blk_drewN ?_ _ | refine blk_drew ?_ | refine blk_alloc ?_ _)); exact BK233.out) hb); have n2_ := Aside0.mk (below_step (by repeat (first | (with_reducible first | exact HB.out | apply below_alloc | apply pw_below_drewN | apply below_drew1 | refine below_set ?_ GE233.out) | exact HB.out)) hb); clear HO_9; clear BK233; clear HB; have HO_9 := n0_; have BK233 := n1_; have HB := n2_; clear n0_ n1_ n2_; (try clear hb); (try clear hb2); (try clear hk); (try clear hi)))
            go_ret
            exact ⟨by first | rfl | (simp [errW_none, errW_some] <;> rfl) | (simp [*, errW_none, errW_some] <;> rfl), by repeat (first | (with_reducible first | exact HB.out | apply below_alloc | apply pw_below_drewN | apply below_drew1 | refine below_set ?_ GE233.out) | exact HB.out)⟩
          · rw [if_neg c23] at H
            have c23b0 : ((t235.length : Int) == 0) = false := beq_eq_false_iff_ne.mpr c23
            have c23b1 : ((t235.length : Int) != 0) = true := bne_iff_ne.mpr c23
            have c23b2 : ¬ (t235 = []) := fun h_ => c23 (by rw [h_]; rfl)
            exact absurd (H.trans (congrArg some HR.out)) (by simp)
        · replace c22 := Bool.eq_false_iff.mpr c22
          subst c22
          have H1 : ((level_Payment.f kj7 a1 a2_0 a2_1 a3).bind fun bt241 => ((arrearslaw10_own.f a2_0 a2_1).bind fun bt243 => ((arrearsref10_Rows.f kj7 (a0 == 2) a1 bt243.1 bt243.2 a3 bt241.1).bind fun t245 => (if t238.isNone = true then (arrearslaw10_LevelRows.j1 kj7 t235 t245 ((t235.length : Int) != a3)) else (arrearslaw10_LevelRows.j1 kj7 t235 t245 true))))) = some r := by rw [if_neg (show ¬ (false = true) by decide)] at H; exact H
          clear H
          have H := H1
          clear H1
          replace H := Option.bind_eq_some_iff.mp H
          obtain ⟨⟨t241, t242⟩, A280, H⟩ := H
          replace H : ((arrearslaw10_own.f a2_0 a2_1).bind fun bt243 => ((arrearsref10_Rows.f kj7 (a0 == 2) a1 bt243.1 bt243.2 a3 t241).bind fun t245 => (if t238.isNone = true then (arrearslaw10_LevelRows.j1 kj7 t235 t245 ((t235.length : Int) != a3)) else (arrearslaw10_LevelRows.j1 kj7 t235 t245 true)))) = some r := H
          have A28 := Aside0.mk A280
          clear A280
          replace H := Option.bind_eq_some_iff.mp H
          obtain ⟨⟨t243, t244⟩, A290, H⟩ := H
          replace H : ((arrearsref10_Rows.f kj7 (a0 == 2) a1 t243 t244 a3 t241).bind fun t245 => (if t238.isNone = true then (arrearslaw10_LevelRows.j1 kj7 t235 t245 ((t235.length : Int) != a3)) else (arrearslaw10_LevelRows.j1 kj7 t235 t245 true))) = some r := H
          have A29 := Aside0.mk A290
          clear A290
          replace H := Option.bind_eq_some_iff.mp H
          obtain ⟨t245, A300, H⟩ := H
          replace H : (if t238.isNone = true then (arrearslaw10_LevelRows.j1 kj7 t235 t245 ((t235.length : Int) != a3)) else (arrearslaw10_LevelRows.j1 kj7 t235 t245 true)) = some r := H
          have A30 := Aside0.mk A300
          clear A300
          have HC31 := Aside0.mk H
          clear H
          have hcz32_0 : wc.cell? ⟨gb233, 0, none⟩ = some (.int .u32 a2_0) := (blk_cell BK233.out 0).trans rfl
          have hcz32_1 : wc.cell? ⟨gb233, 1, none⟩ = some (.int .u8 a2_1) := (blk_cell BK233.out 1).trans rfl
          have hfz32_0 := blk_frozen BK233.out 0
          have hfz32_1 := blk_frozen BK233.out 1
          go_upto_region 8 with (first | ((with_reducible refine gate_callee (f := 6) rfl ?_); refine goesL_ (some 51) rfl rfl Tryd.func6 (by kernel_rfl) rfl #[.int .i64 a1, .agg #[.int .u32 a2_0, .int .u8 a2_1], .int .i64 a3] rfl (by (try simp only [List.map_toArray, List.map_cons, List.map_nil]); first | done | rfl | (simp only [List.length_drop, List.length_take]; rfl)) ?_; (with_reducible refine (level_Payment.calls kj7 a1 a2_0 a2_1 a3 t241 t242 _ A28.out).mono ?_); rintro e w33 ⟨rfl, hb⟩; refine ⟨_, rfl, ?_⟩; have n0_ := Aside0.mk (Kd.R_below (by (with_reducible repeat (first | apply Kd.R_alloc | apply Kd.R_drewN | apply Kd.R_drew)); exact HO_9.out) hb); have n1_ := Aside0.mk (blk_below (g := gb233) (o := .cells #[.int .u32 a2_0, .int .u8 a2_1] 25 (0, 0)) (by (with_reducible repeat (first | refine blk_drewN ?_ _ | refine blk_drew ?_ | refine blk_alloc ?_ _)); exact BK233.out) hb); have n2_ := Aside0.mk (below_step (by repeat (first | (with_reducible first | exact HB.out | apply below_alloc | apply pw_below_drewN | apply below_drew1 | refine below_set ?_ GE233.out) | exact HB.out)) hb); clear HO_9; clear BK233; clear HB; have HO_9 := n0_; have BK233 := n1_; have HB := n2_; clear n0_ n1_ n2_; (try clear hb); (try clear hb2); (try clear hk); (try clear hi); (try simp only [errW_none, errW_some]); have hcz34_0 : w33.cell? ⟨gb233, 0, none⟩ = some (.int .u32 a2_0) := (blk_cell BK233.out 0).trans rfl; have hcz34_1 : w33.cell? ⟨gb233, 1, none⟩ = some (.int .u8 a2_1) := (blk_cell BK233.out 1).trans rfl; have hfz34_0 := blk_frozen BK233.out 0; have hfz34_1 := blk_frozen BK233.out 1) | ((with_reducible refine gate_callee (f := 10) rfl ?_); refine goesL_ (some 58) rfl rfl Tryd.func10 (by kernel_rfl) rfl #[.agg #[.int .u32 a2_0, .int .u8 a2_1]] rfl (by (try simp only [List.map_toArray, List.map_cons, List.map_nil]); first | done | rfl | (simp only [List.length_drop, List.length_take]; rfl)) ?_; (with_reducible refine (arrearslaw10_own.calls a2_0 a2_1 t243 t244 _ A29.out).mono ?_); rintro e w35 ⟨rfl, hb⟩; refine ⟨_, rfl, ?_⟩; have n0_ := Aside0.mk (Kd.R_below (by (with_reducible repeat (first | apply Kd.R_alloc | apply Kd.R_drewN | apply Kd.R_drew)); exact HO_9.out) hb); have n1_ := Aside0.mk (blk_below (g := gb233) (o := .cells #[.int .u32 a2_0, .int .u8 a2_1] 25 (0, 0)) (by (with_reducible repeat (first | refine blk_drewN ?_ _ | refine blk_drew ?_ | refine blk_alloc ?_ _)); exact BK233.out) hb); have n2_ := Aside0.mk (below_step (by repeat (first | (with_reducible first | exact HB.out | apply below_alloc | apply pw_below_drewN | apply below_drew1 | refine below_set ?_ GE233.out) | exact HB.out)) hb); clear HO_9; clear BK233; clear HB; have HO_9 := n0_; have BK233 := n1_; have HB := n2_; clear n0_ n1_ n2_; (try clear hb); (try clear hb2); (try clear hk); (try clear hi)) | ((with_reducible refine gate_callee (f := 12) rfl ?_); refine goesL_ (some 61) rfl rfl Tryd.func12 (by kernel_rfl) rfl #[.bool (a0 == 2), .int .i64 a1, .agg #[.int .u32 t243, .bool t244], .int .i64 a3, .int .i64 t241] rfl (by (try simp only [List.map_toArray, List.map_cons, List.map_nil]); first | done | rfl | (simp only [List.length_drop, List.length_take]; rfl)) ?_; (with_reducible refine (arrearsref10_Rows.calls kj7 (a0 == 2) a1 t243 t244 a3 t241 t245 _ A30.out).mono ?_); rintro e w36 ⟨v246, rfl, ho0, hb⟩; refine ⟨_, rfl, ?_⟩; have n0_ := Aside0.mk (Kd.R_below (by (with_reducible repeat (first | apply Kd.R_alloc | apply Kd.R_drewN | apply Kd.R_drew)); exact HO_9.out) hb); have n1_ := Aside0.mk (Kd.R_lower ho0 (below_size (by repeat (first | (with_reducible first | exact HB.out | apply below_alloc | apply pw_below_drewN | apply below_drew1 | refine below_set ?_ GE233.out) | exact HB.out)))); have n2_ := Aside0.mk (blk_below (g := gb233) (o := .cells #[.int .u32 a2_0, .int .u8 a2_1] 25 (0, 0)) (by (with_reducible repeat (first | refine blk_drewN ?_ _ | refine blk_drew ?_ | refine blk_alloc ?_ _)); exact BK233.out) hb); have n3_ := Aside0.mk (below_step (by repeat (first | (with_reducible first | exact HB.out | apply below_alloc | apply pw_below_drewN | apply below_drew1 | refine below_set ?_ GE233.out) | exact HB.out)) hb); clear HO_9; clear BK233; clear HB; have HO_9 := n0_; have HO247 := n1_; have BK233 := n2_; have HB := n3_; clear n0_ n1_ n2_ n3_; (try clear hb); (try clear hb2); (try clear hk); (try clear hi); (try clear ho0)))
          (try simp only [Act.put, List.setIfInBounds_toArray, List.set_cons_zero, List.set_cons_succ])
          go_cut [69] (fun v69 wc => ∃ (kq : Nat) (x69_30 : Bool), v69 = .bool x69_30 ∧ Aside0 (arrearslaw10_LevelRows.j1 kq t235 t245 x69_30 = some r) ∧ Aside0 (kq ≤ kj7) ∧ Aside0 (Kd.R k44 44 wc w.heap.size (fun _ => True) v236 t235) ∧ Aside0 (Kd.R k46 46 wc w.heap.size (fun _ => True) v246 t245) ∧ Aside0 (wc.heap[gb233]? = some (.cells #[.int .u32 a2_0, .int .u8 a2_1] 25 (0, 0))) ∧ Aside0 (Below w.heap.size w wc))
          case first =>
            have H := HC31.out
            clear HC31
            rcases t238 with _ | q248
            · have H1 : (arrearslaw10_LevelRows.j1 kj7 t235 t245 ((t235.length : Int) != a3)) = some r := by rw [if_pos (show (none : Option Int).isNone = true by rfl)] at H; exact H
              clear H
              have H := H1
              clear H1
              try simp only [errW_none, errW_some]
              have H' := Aside0.mk H
              clear H
              obtain ⟨Ao37, co37, eo37⟩ := Kd.R_slice HO_9.out
              subst eo37
              go_wp2
              go_meet
              case rel => exact ⟨_, (((t235.length : Int) != a3)), (by first | rfl | (simp; done) | (simp [*]; done) | (exfalso; simp at *; omega)), H', ⟨by have := HJ7.out; first | omega | exact Nat.le_refl _⟩, ⟨by (with_reducible repeat (first | apply Kd.R_alloc | apply Kd.R_drewN | apply Kd.R_drew)); exact HO_9.out⟩, ⟨by (with_reducible repeat (first | apply Kd.R_alloc | apply Kd.R_drewN | apply Kd.R_drew)); exact HO247.out⟩, ⟨by (with_reducible repeat (first | refine blk_drewN ?_ _ | refine blk_drew ?_ | refine blk_alloc ?_ _)); exact BK233.out⟩, ⟨by repeat (first | (with_reducible first | exact HB.out | apply below_alloc | apply pw_below_drewN | apply below_drew1 | refine below_set ?_ GE233.out) | exact HB.out)⟩⟩
            · have H1 : (arrearslaw10_LevelRows.j1 kj7 t235 t245 true) = some r := by rw [if_neg (show ¬ (some q248).isNone = true by simp)] at H; exact H
              clear H
              have H := H1
              clear H1
              try simp only [errW_none, errW_some]
              have H' := Aside0.mk H
              clear H
              go_wp2
              go_meet
              case rel => exact ⟨_, (true), (by first | rfl | (simp; done) | (simp [*]; done) | (exfalso; simp at *; omega)), H', ⟨by have := HJ7.out; first | omega | exact Nat.le_refl _⟩, ⟨by (with_reducible repeat (first | apply Kd.R_alloc | apply Kd.R_drewN | apply Kd.R_drew)); exact HO_9.out⟩, ⟨by (with_reducible repeat (first | apply Kd.R_alloc | apply Kd.R_drewN | apply Kd.R_drew)); exact HO247.out⟩, ⟨by (with_reducible repeat (first | refine blk_drewN ?_ _ | refine blk_drew ?_ | refine blk_alloc ?_ _)); exact BK233.out⟩, ⟨by repeat (first | (with_reducible first | exact HB.out | apply below_alloc | apply pw_below_drewN | apply below_drew1 | refine below_set ?_ GE233.out) | exact HB.out)⟩⟩
          case rest =>
            clear HC31
            try clear c1
            try clear c2
            try clear p2
            try clear q2
            try clear c4
            try clear c5
            try clear c6
            try clear c7
            try clear c10
            try clear c11
            try clear c12
            try clear c14
            try clear c15
            try clear c15b0
            try clear c15b1
            try clear c22
            try clear c23
            try clear c23b0
            try clear c23b1
            try clear c23b2
            try clear q24
            try clear hcz11_0
            try clear hcz11_1
            try clear hcz16_0
            try clear hcz16_1
            try clear hcz18_0
            try clear hcz18_1
            try clear hcz20_0
            try clear hcz20_1
            try clear hcz32_0
            try clear hcz32_1
            try clear hcz34_0
            try clear hcz34_1
            try clear hfz11_0
            try clear hfz11_1
            try clear hfz16_0
            try clear hfz16_1
            try clear hfz18_0
            try clear hfz18_1
            try clear hfz20_0
            try clear hfz20_1
            try clear hfz32_0
            try clear hfz32_1
            try clear hfz34_0
            try clear hfz34_1
            try clear p2
            try clear q248
            obtain ⟨kq, x69_30, rfl, HA, HJ30, HO_9, HO_13, BK233, HB⟩ := hcut
            cases kq with
            | zero => exact absurd HA.out (by simp [arrearslaw10_LevelRows.j1])
            | succ kj30 =>
              have H := HA.out
              clear HA
              simp only [arrearslaw10_LevelRows.j1] at H
              by_cases c38 : x69_30 = true
              · subst c38
                have H1 : (some false) = some r := by rw [if_pos rfl] at H; exact H
                clear H
                have H := H1
                clear H1
                exact absurd (H.trans (congrArg some HR.out)) (by simp)
              · replace c38 := Bool.eq_false_iff.mpr c38
                subst c38
                have H1 : (arrearslaw10_LevelRows.l0 kj30 t245 t235 (t235.length : Int) 0) = some r := by rw [if_neg (show ¬ (false = true) by decide)] at H; exact H
                clear H
                have H := H1
                clear H1
                have H' := Aside0.mk H
                clear H
                obtain ⟨Ao39, co39, eo39⟩ := Kd.R_slice HO_9.out
                subst eo39
                go_wp2
                go_loopg [72] kj30 (fun kq v72 w' => ∃ (x72_3 : Int), v72 = .int .i64 x72_3 ∧ Aside0 (arrearslaw10_LevelRows.l0 kq t245 t235 (t235.length : Int) x72_3 = some r) ∧ Aside0 (kq ≤ kj30) ∧ Aside0 (Kd.R k46 46 w' w.heap.size (fun _ => True) v246 t245) ∧ Aside0 (Kd.R k44 44 w' w.heap.size (fun _ => True) (.slice Ao39 t235.length co39) t235) ∧ Aside0 (w'.heap[gb233]? = some (.cells #[.int .u32 a2_0, .int .u8 a2_1] 25 (0, 0))) ∧ Aside0 (Below w.heap.size w w'))
                case atStart => exact ⟨(0), (by first | rfl | (simp; done) | (simp [*]; done) | (exfalso; simp at *; omega)), H', ⟨Nat.le_refl _⟩, ⟨by (with_reducible repeat (first | apply Kd.R_alloc | apply Kd.R_drewN | apply Kd.R_drew)); exact HO_13.out⟩, ⟨by (with_reducible repeat (first | apply Kd.R_alloc | apply Kd.R_drewN | apply Kd.R_drew)); exact HO_9.out⟩, ⟨by (with_reducible repeat (first | refine blk_drewN ?_ _ | refine blk_drew ?_ | refine blk_alloc ?_ _)); exact BK233.out⟩, ⟨by repeat (first | (with_reducible first | exact HB.out | apply below_alloc | apply pw_below_drewN | apply below_drew1 | refine below_set ?_ GE233.out) | exact HB.out)⟩⟩
                case round =>
                  clear H'
                  try clear c1
                  try clear c2
                  try clear p2
                  try clear q2
                  try clear c3
                  try clear c4
                  try clear c5
                  try clear c6
                  try clear c7
                  try clear c10
                  try clear c11
                  try clear c12
                  try clear c14
                  try clear c15
                  try clear c15b0
                  try clear c15b1
                  try clear c22
                  try clear c23
                  try clear c23b0
                  try clear c23b1
                  try clear c23b2
                  try clear q24
                  try clear c38
                  try clear hcz11_0
                  try clear hcz11_1
                  try clear hcz16_0
                  try clear hcz16_1
                  try clear hcz18_0
                  try clear hcz18_1
                  try clear hcz20_0
                  try clear hcz20_1
                  try clear hcz32_0
                  try clear hcz32_1
                  try clear hcz34_0
                  try clear hcz34_1
                  try clear hfz11_0
                  try clear hfz11_1
                  try clear hfz16_0
                  try clear hfz16_1
                  try clear hfz18_0
                  try clear hfz18_1
                  try clear hfz20_0
                  try clear hfz20_1
                  try clear hfz32_0
                  try clear hfz32_1
                  try clear hfz34_0
                  try clear hfz34_1
                  try clear p2
                  try clear q2
                  try clear q24
                  try clear q248
                  obtain ⟨x72_3, rfl, HA, HK3, HO_13, HO_70, BK233, HB⟩ := hrel
                  cases gk with
                  | zero => exact absurd HA.out (by simp [arrearslaw10_LevelRows.l0])
                  | succ k3 =>
                    have H := HA.out
                    clear HA
                    simp only [arrearslaw10_LevelRows.l0] at H
                    by_cases c40 : x72_3 < (t235.length : Int)
                    · rw [if_pos c40] at H
                      have c40b0 : decide (x72_3 < (t235.length : Int)) = true := decide_eq_true c40
                      clear c40
                      by_cases c41 : 0 ≤ x72_3
                      · rw [if_pos c41] at H
                        have c41b0 : decide (0 ≤ x72_3) = true := decide_eq_true c41
                        clear c41
                        by_cases c42 : x72_3 < (t235.length : Int)
                        · rw [if_pos c42] at H
                          have c42b0 : decide (x72_3 < (t235.length : Int)) = true := decide_eq_true c42
                          clear c42
                          by_cases c43 : x72_3 < (t245.length : Int)
                          · rw [if_pos c43] at H
                            have c43b0 : decide (x72_3 < (t245.length : Int)) = true := decide_eq_true c43
                            clear c43
                            by_cases c44 : (!(((rd_T44 t235 x72_3).f0) == ((rd_T46 t245 x72_3).f0)) || (!(((rd_T44 t235 x72_3).f1) == ((rd_T46 t245 x72_3).f1)) || (!(((rd_T44 t235 x72_3).f2) == ((rd_T46 t245 x72_3).f2))))) = true
                            · rw [if_pos c44] at H
                              have c44b0 : (!(((rd_T44 t235 x72_3).f0) == ((rd_T46 t245 x72_3).f0)) || (!(((rd_T44 t235 x72_3).f1) == ((rd_T46 t245 x72_3).f1)) || (!(((rd_T44 t235 x72_3).f2) == ((rd_T46 t245 x72_3).f2))))) = true := c44
                              clear c44
                              obtain rfl := Option.some.inj H
                              have p249 : 0 ≤ (x72_3 : Int) := of_decide_eq_true (by first | (with_reducible assumption) | assumption)
                              have q249 : x72_3 < (t235.length : Int) := of_decide_eq_true (by first | (with_reducible assumption) | assumption)
                              obtain ⟨ad249, e249, hx249_0, hx249_1, hx249_2⟩ := at_T44 (Kd.R_reads' HO_70.out).2.2 x72_3 p249 q249
                              cases e249
                              replace p249 := eq_true p249
                              replace q249 := eq_true q249
                              try go_wp2_with (first | ((with_reducible refine gate_dst (N := 15) rfl ?_); (try (refine gate_guard (by rfl) ?_; dsimp only)); refine box_event ?hg (N := 15) ?hd (cs := #[.int .i64 0, .int .i64 0, .int .i64 0]) (t := 44) ?hr ?_; (case hd => rfl); (case hg => rfl); (case hr => first | (go_simp; done) | (go_simp; rfl)); intro gb250 hg w45 hbox hb; have n0_ := Aside0.mk (Kd.R_below (by (with_reducible repeat (first | apply Kd.R_alloc | apply Kd.R_drewN | apply Kd.R_drew)); exact HO_13.out) hb); have n1_ := Aside0.mk (Kd.R_below (Kd.R_elderB (by (with_reducible repeat (first | apply Kd.R_alloc | apply Kd.R_drewN | apply Kd.R_drew)); exact HO_70.out) gb250 (Nat.le_of_eq hg.symm)) hb); have n2_ := Aside0.mk (blk_below (g := gb233) (o := .cells #[.int .u32 a2_0, .int .u8 a2_1] 25 (0, 0)) (by (with_reducible repeat (first | refine blk_drewN ?_ _ | refine blk_drew ?_ | refine blk_alloc ?_ _)); exact BK233.out) hb); have n3_ := Aside0.mk (below_step (by repeat (first | (with_reducible first | exact HB.out | apply below_alloc | apply pw_below_drewN | apply below_drew1 | refine below_set ?_ GE233.out) | exact HB.out)) hb); have n4_ := Aside0.mk (hbox); have n5_ := Aside0.mk ((by rw [hg]; exact (below_size (by repeat (first | (with_reducible first | exact HB.out | apply below_alloc | apply pw_below_drewN | apply below_drew1 | refine below_set ?_ GE233.out) | exact HB.out))) : w.heap.size ≤ gb250)); have n6_ := Aside0.mk ((by rw [hg]; exact (below_size (by repeat (first | (with_reducible first | exact HB.out | apply below_alloc | apply pw_below_drewN | apply below_drew1 | refine below_set ?_ GE233.out) | exact HB.out))) : w.heap.size ≤ gb250)); have n7_ := Aside0.mk ((by rw [hg]; exact Nat.ne_of_lt (blk_lt (g := gb233) (o := .cells #[.int .u32 a2_0, .int .u8 a2_1] 25 (0, 0)) (by (with_reducible repeat (first | refine blk_drewN ?_ _ | refine blk_drew ?_ | refine blk_alloc ?_ _)); exact BK233.out)) : gb233 ≠ gb250)); have n8_ := Aside0.mk ((by rw [hg]; exact Nat.ne_of_gt (blk_lt (g := gb233) (o := .cells #[.int .u32 a2_0, .int .u8 a2_1] 25 (0, 0)) (by (with_reducible repeat (first | refine blk_drewN ?_ _ | refine blk_drew ?_ | refine blk_alloc ?_ _)); exact BK233.out)) : gb250 ≠ gb233)); clear HO_13; clear HO_70; clear BK233; clear HB; have HO_13 := n0_; have HO_70 := n1_; have BK233 := n2_; have HB := n3_; have BK250 := n4_; have GW250 := n5_; have GE250 := n6_; have NB233_250 := n7_; have NB250_233 := n8_; clear n0_ n1_ n2_ n3_ n4_ n5_ n6_ n7_ n8_; clear hb hbox hg; have hnb46 := NB250_233.out; have hnc46 := NB233_250.out; have hcz47_0 : w45.cell? ⟨gb250, 0, none⟩ = some (.int .i64 0) := (blk_cell BK250.out 0).trans rfl; have hcz47_1 : w45.cell? ⟨gb250, 1, none⟩ = some (.int .i64 0) := (blk_cell BK250.out 1).trans rfl; have hcz47_2 : w45.cell? ⟨gb250, 2, none⟩ = some (.int .i64 0) := (blk_cell BK250.out 2).trans rfl; have hfz47_0 := blk_frozen BK250.out 0; have hfz47_1 := blk_frozen BK250.out 1; have hfz47_2 := blk_frozen BK250.out 2))
                              have n0_ : Aside0 (Kd.R k46 46 (((w45.setCell ⟨gb250, 0, none⟩ (.int .i64 ((rd_T44 t235 x72_3).f0))).setCell ⟨gb250, 1, none⟩ (.int .i64 ((rd_T44 t235 x72_3).f1))).setCell ⟨gb250, 2, none⟩ (.int .i64 ((rd_T44 t235 x72_3).f2))) w.heap.size (fun _ => True) v246 t245) := ⟨by (with_reducible repeat (first | apply Kd.R_alloc | apply Kd.R_drewN | apply Kd.R_drew)); exact Kd.R_mono (Kd.R_far (p := ⟨gb250, 2, none⟩) (Kd.R_far (p := ⟨gb250, 1, none⟩) (Kd.R_far (p := ⟨gb250, 0, none⟩) (Kd.R_types HO_13.out BK250.out (by decide)) (fun _ hk => hk.2) (.int .i64 ((rd_T44 t235 x72_3).f0))) (fun _ hk => hk.2) (.int .i64 ((rd_T44 t235 x72_3).f1))) (fun _ hk => hk.2) (.int .i64 ((rd_T44 t235 x72_3).f2))) (fun _ hk => trivial)⟩
                              have n1_ : Aside0 (Kd.R k44 44 (((w45.setCell ⟨gb250, 0, none⟩ (.int .i64 ((rd_T44 t235 x72_3).f0))).setCell ⟨gb250, 1, none⟩ (.int .i64 ((rd_T44 t235 x72_3).f1))).setCell ⟨gb250, 2, none⟩ (.int .i64 ((rd_T44 t235 x72_3).f2))) w.heap.size (fun k_ => k_ ≠ gb250) (.slice (some ad249) t235.length co39) t235) := ⟨by (with_reducible repeat (first | apply Kd.R_alloc | apply Kd.R_drewN | apply Kd.R_drew)); exact Kd.R_mono (Kd.R_far (p := ⟨gb250, 2, none⟩) (Kd.R_far (p := ⟨gb250, 1, none⟩) (Kd.R_far (p := ⟨gb250, 0, none⟩) (Kd.R_mono HO_70.out (fun k_ hk => (⟨hk, hk.2⟩ : _ ∧ k_ ≠ gb250))) (fun _ hk => hk.2) (.int .i64 ((rd_T44 t235 x72_3).f0))) (fun _ hk => hk.2) (.int .i64 ((rd_T44 t235 x72_3).f1))) (fun _ hk => hk.2) (.int .i64 ((rd_T44 t235 x72_3).f2))) (fun _ hk => hk.1.2)⟩
                              have n2_ : Aside0 ((((w45.setCell ⟨gb250, 0, none⟩ (.int .i64 ((rd_T44 t235 x72_3).f0))).setCell ⟨gb250, 1, none⟩ (.int .i64 ((rd_T44 t235 x72_3).f1))).setCell ⟨gb250, 2, none⟩ (.int .i64 ((rd_T44 t235 x72_3).f2))).heap[gb233]? = some (.cells #[.int .u32 a2_0, .int .u8 a2_1] 25 (0, 0))) := ⟨by (with_reducible repeat (first | refine blk_drewN ?_ _ | refine blk_drew ?_ | refine blk_alloc ?_ _)); refine blk_far ?_ NB233_250.out _; (with_reducible repeat (first | refine blk_drewN ?_ _ | refine blk_drew ?_ | refine blk_alloc ?_ _)); refine blk_far ?_ NB233_250.out _; (with_reducible repeat (first | refine blk_drewN ?_ _ | refine blk_drew ?_ | refine blk_alloc ?_ _)); refine blk_far ?_ NB233_250.out _; (with_reducible repeat (first | refine blk_drewN ?_ _ | refine blk_drew ?_ | refine blk_alloc ?_ _)); exact BK233.out⟩
                              have n3_ : Aside0 ((((w45.setCell ⟨gb250, 0, none⟩ (.int .i64 ((rd_T44 t235 x72_3).f0))).setCell ⟨gb250, 1, none⟩ (.int .i64 ((rd_T44 t235 x72_3).f1))).setCell ⟨gb250, 2, none⟩ (.int .i64 ((rd_T44 t235 x72_3).f2))).heap[gb250]? = some (.cells #[.int .i64 ((rd_T44 t235 x72_3).f0), .int .i64 ((rd_T44 t235 x72_3).f1), .int .i64 ((rd_T44 t235 x72_3).f2)] 44 (0, 0))) := ⟨by (with_reducible repeat (first | refine blk_drewN ?_ _ | refine blk_drew ?_ | refine blk_alloc ?_ _)); refine blk_put (cs := #[.int .i64 ((rd_T44 t235 x72_3).f0), .int .i64 ((rd_T44 t235 x72_3).f1), .int .i64 0]) ?_ 2 _ rfl; (with_reducible repeat (first | refine blk_drewN ?_ _ | refine blk_drew ?_ | refine blk_alloc ?_ _)); refine blk_put (cs := #[.int .i64 ((rd_T44 t235 x72_3).f0), .int .i64 0, .int .i64 0]) ?_ 1 _ rfl; (with_reducible repeat (first | refine blk_drewN ?_ _ | refine blk_drew ?_ | refine blk_alloc ?_ _)); refine blk_put (cs := #[.int .i64 0, .int .i64 0, .int .i64 0]) ?_ 0 _ rfl; (with_reducible repeat (first | refine blk_drewN ?_ _ | refine blk_drew ?_ | refine blk_alloc ?_ _)); exact BK250.out⟩
                              have n4_ : Aside0 (Below w.heap.size w (((w45.setCell ⟨gb250, 0, none⟩ (.int .i64 ((rd_T44 t235 x72_3).f0))).setCell ⟨gb250, 1, none⟩ (.int .i64 ((rd_T44 t235 x72_3).f1))).setCell ⟨gb250, 2, none⟩ (.int .i64 ((rd_T44 t235 x72_3).f2)))) := ⟨by repeat (first | (with_reducible first | exact HB.out | apply below_alloc | apply pw_below_drewN | apply below_drew1 | refine below_set ?_ GE233.out | refine below_set ?_ GE250.out) | exact HB.out)⟩
                              (try clear HO_13)
                              (try clear HO_70)
                              (try clear BK233)
                              (try clear BK250)
                              (try clear HB)
                              generalize (((w45.setCell ⟨gb250, 0, none⟩ (.int .i64 ((rd_T44 t235 x72_3).f0))).setCell ⟨gb250, 1, none⟩ (.int .i64 ((rd_T44 t235 x72_3).f1))).setCell ⟨gb250, 2, none⟩ (.int .i64 ((rd_T44 t235 x72_3).f2))) = w48 at n0_ n1_ n2_ n3_ n4_ ⊢
                              have HO_13 := n0_
                              have HO_70 := n1_
                              have BK233 := n2_
                              have BK250 := n3_
                              have HB := n4_
                              clear n0_ n1_ n2_ n3_ n4_
                              have n0_ := Aside0.mk (Kd.R_drew HO_13.out)
                              have n1_ := Aside0.mk (Kd.R_drew HO_70.out)
                              have n2_ := Aside0.mk (blk_drew BK233.out)
                              have n3_ := Aside0.mk (blk_drew BK250.out)
                              have n4_ := Aside0.mk (below_drew1 HB.out)
                              clear HO_13
                              clear HO_70
                              clear BK233
                              clear BK250
                              clear HB
                              have HO_13 := n0_
                              have HO_70 := n1_
                              have BK233 := n2_
                              have BK250 := n3_
                              have HB := n4_
                              clear n0_ n1_ n2_ n3_ n4_
                              obtain ⟨Ao50, co50, eo50⟩ := Kd.R_slice HO_13.out
                              (first | subst eo50 | (injection eo50 with f1_ f2_ f3_; have f4_ := f1_.symm; have f5_ := f3_.symm; clear f1_ f2_ f3_; subst f4_; subst f5_))
                              have p251 : 0 ≤ (x72_3 : Int) := of_decide_eq_true (by first | (with_reducible assumption) | assumption)
                              have q251 : x72_3 < (t245.length : Int) := of_decide_eq_true (by first | (with_reducible assumption) | assumption)
                              obtain ⟨ad251, e251, hx251_0, hx251_1, hx251_2⟩ := at_T46 (Kd.R_reads' HO_13.out).2.2 x72_3 p251 q251
                              cases e251
                              replace p251 := eq_true p251
                              replace q251 := eq_true q251
                              refine start_ (n := 22) (S := fun w' => w'.cell? ⟨gb250, 0, none⟩ = some (.int .i64 ((rd_T44 t235 x72_3).f0)) ∧ w'.cell? ⟨gb250, 1, none⟩ = some (.int .i64 ((rd_T44 t235 x72_3).f1)) ∧ w'.cell? ⟨gb250, 2, none⟩ = some (.int .i64 ((rd_T44 t235 x72_3).f2)) ∧ w'.cell? (ad251.add ((x72_3).toNat * 3)) = some (.int .i64 ((rd_T46 t245 x72_3).f0)) ∧ w'.cell? ⟨(ad251.add ((x72_3).toNat * 3)).block, (ad251.add ((x72_3).toNat * 3)).off + 1, none⟩ = some (.int .i64 ((rd_T46 t245 x72_3).f1)) ∧ w'.cell? ⟨(ad251.add ((x72_3).toNat * 3)).block, (ad251.add ((x72_3).toNat * 3)).off + 2, none⟩ = some (.int .i64 ((rd_T46 t245 x72_3).f2))) (ds := []) #[false, false, false, false, false, false, false, false, false, false, false, false, false, false, false, false, false, false, false, false, false, false] (by kernel_rfl) rfl rfl ⟨(blk_cell BK250.out 0).trans rfl, (blk_cell BK250.out 1).trans rfl, (blk_cell BK250.out 2).trans rfl, hx251_0, hx251_1, hx251_2⟩ (fun hHeld => ?_); refine with_tabW arrearslaw10_LevelRows.tab13 arrearslaw10_LevelRows.bits13 (fun HT_ HW_ => ?_)
                              generalize w48.drew = w49 at HO_13 HO_70 BK233 BK250 HB hx251_0 hx251_1 hx251_2 hHeld ⊢
                              refine pure_ (i := 0) (N := some 77) (v := ?_) (a' := ?_) #[true, false, false, false, false, false, false, false, false, false, false, false, false, false, false, false, false, false, false, false, false, false] rfl rfl (any_of HT_.out (by kernel_rfl)) (fun _ _ _ h => h) (Or.inl ⟨by rfl, ?_⟩) ?_ ?_
                              rotate_left
                              · intro w'
                                go_simp
                                with_reducible rfl
                              rotate_left
                              · simp only [Act.put, List.setIfInBounds_toArray, List.set_cons_zero, List.set_cons_succ, i64_w, i32_w]
                                rfl
                              refine pure_ (i := 2) (N := some 79) (v := ?_) (a' := ?_) #[true, false, true, false, false, false, false, false, false, false, false, false, false, false, false, false, false, false, false, false, false, false] rfl rfl (any_of HT_.out (by kernel_rfl)) (fun _ _ _ h => h) (Or.inl ⟨by rfl, ?_⟩) ?_ ?_
                              rotate_left
                              · intro w'
                                go_simp
                                with_reducible rfl
                              rotate_left
                              · simp only [Act.put, List.setIfInBounds_toArray, List.set_cons_zero, List.set_cons_succ, i64_w, i32_w]
                                rfl
                              refine pure_ (i := 4) (N := some 81) (v := ?_) (a' := ?_) #[true, false, true, false, true, false, false, false, false, false, false, false, false, false, false, false, false, false, false, false, false, false] rfl rfl (any_of HT_.out (by kernel_rfl)) (fun _ _ _ h => h) (Or.inl ⟨by rfl, ?_⟩) ?_ ?_
                              rotate_left
                              · intro w'
                                go_simp
                                with_reducible rfl
                              rotate_left
                              · simp only [Act.put, List.setIfInBounds_toArray, List.set_cons_zero, List.set_cons_succ, i64_w, i32_w]
                                rfl
                              refine pure_ (i := 7) (N := some 84) (v := ?_) (a' := ?_) #[true, false, true, false, true, false, false, true, false, false, false, false, false, false, false, false, false, false, false, false, false, false] rfl rfl (any_of HT_.out (by kernel_rfl)) (fun _ _ _ h => h) (Or.inl ⟨by rfl, ?_⟩) ?_ ?_
                              rotate_left
                              · intro w'
                                go_simp
                                with_reducible rfl
                              rotate_left
                              · simp only [Act.put, List.setIfInBounds_toArray, List.set_cons_zero, List.set_cons_succ, i64_w, i32_w]
                                rfl
                              refine pure_ (i := 8) (N := some 85) (v := ?_) (a' := ?_) #[true, false, true, false, true, false, false, true, true, false, false, false, false, false, false, false, false, false, false, false, false, false] rfl rfl (any_of HT_.out (by kernel_rfl)) (fun _ _ _ h => h) (Or.inl ⟨by rfl, ?_⟩) ?_ ?_
                              rotate_left
                              · intro w'
                                go_simp
                                with_reducible rfl
                              rotate_left
                              · simp only [Act.put, List.setIfInBounds_toArray, List.set_cons_zero, List.set_cons_succ, i64_w, i32_w]
                                rfl
                              refine pure_ (i := 9) (N := some 86) (v := ?_) (a' := ?_) #[true, false, true, false, true, false, false, true, true, true, false, false, false, false, false, false, false, false, false, false, false, false] rfl rfl (any_of HT_.out (by kernel_rfl)) (fun _ _ _ h => h) (Or.inl ⟨by rfl, ?_⟩) ?_ ?_
                              rotate_left
                              · intro w'
                                go_simp
                                with_reducible rfl
                              rotate_left
                              · simp only [Act.put, List.setIfInBounds_toArray, List.set_cons_zero, List.set_cons_succ, i64_w, i32_w]
                                rfl
                              refine take_ (i := 1) (N := some 78) (v := ?_) (a' := ?_) #[true, true, true, false, true, false, false, true, true, true, false, false, false, false, false, false, false, false, false, false, false, false] rfl rfl (take_ofW HT_.out HW_.out (by kernel_rfl)) (fun _ _ _ h => h) (Or.inl ⟨by rfl, ?_⟩) hHeld ?_ ?_
                              rotate_left
                              · rintro w' ⟨s0, s1, s2, s3, s4, s5⟩
                                go_simp
                                with_reducible rfl
                              rotate_left
                              · simp only [Act.put, List.setIfInBounds_toArray, List.set_cons_zero, List.set_cons_succ, i64_w, i32_w]
                                rfl
                              refine take_ (i := 3) (N := some 80) (v := ?_) (a' := ?_) #[true, true, true, true, true, false, false, true, true, true, false, false, false, false, false, false, false, false, false, false, false, false] rfl rfl (take_ofW HT_.out HW_.out (by kernel_rfl)) (fun _ _ _ h => h) (Or.inl ⟨by rfl, ?_⟩) hHeld ?_ ?_
                              rotate_left
                              · rintro w' ⟨s0, s1, s2, s3, s4, s5⟩
                                go_simp
                                with_reducible rfl
                              rotate_left
                              · simp only [Act.put, List.setIfInBounds_toArray, List.set_cons_zero, List.set_cons_succ, i64_w, i32_w]
                                rfl
                              refine take_ (i := 5) (N := some 82) (v := ?_) (a' := ?_) #[true, true, true, true, true, true, false, true, true, true, false, false, false, false, false, false, false, false, false, false, false, false] rfl rfl (take_ofW HT_.out HW_.out (by kernel_rfl)) (fun _ _ _ h => h) (Or.inl ⟨by rfl, ?_⟩) hHeld ?_ ?_
                              rotate_left
                              · rintro w' ⟨s0, s1, s2, s3, s4, s5⟩
                                go_simp
                                with_reducible rfl
                              rotate_left
                              · simp only [Act.put, List.setIfInBounds_toArray, List.set_cons_zero, List.set_cons_succ, i64_w, i32_w]
                                rfl
                              refine pure_ (i := 6) (N := some 83) (v := ?_) (a' := ?_) #[true, true, true, true, true, true, true, true, true, true, false, false, false, false, false, false, false, false, false, false, false, false] rfl rfl (any_of HT_.out (by kernel_rfl)) (fun _ _ _ h => h) (Or.inl ⟨by rfl, ?_⟩) ?_ ?_
                              rotate_left
                              · intro w'
                                go_simp
                                with_reducible rfl
                              rotate_left
                              · simp only [Act.put, List.setIfInBounds_toArray, List.set_cons_zero, List.set_cons_succ, i64_w, i32_w]
                                rfl
                              refine take_ (i := 10) (N := some 87) (v := ?_) (a' := ?_) #[true, true, true, true, true, true, true, true, true, true, true, false, false, false, false, false, false, false, false, false, false, false] rfl rfl (take_ofW HT_.out HW_.out (by kernel_rfl)) (fun _ _ _ h => h) (Or.inl ⟨by rfl, ?_⟩) hHeld ?_ ?_
                              rotate_left
                              · rintro w' ⟨s0, s1, s2, s3, s4, s5⟩
                                go_simp
                                with_reducible rfl
                              rotate_left
                              · simp only [Act.put, List.setIfInBounds_toArray, List.set_cons_zero, List.set_cons_succ, i64_w, i32_w]
                                rfl
                              refine pure_ (i := 11) (N := some 88) (v := ?_) (a' := ?_) #[true, true, true, true, true, true, true, true, true, true, true, true, false, false, false, false, false, false, false, false, false, false] rfl rfl (any_of HT_.out (by kernel_rfl)) (fun _ _ _ h => h) (Or.inl ⟨by rfl, ?_⟩) ?_ ?_
                              rotate_left
                              · intro w'
                                go_simp
                                with_reducible rfl
                              rotate_left
                              · simp only [Act.put, List.setIfInBounds_toArray, List.set_cons_zero, List.set_cons_succ, i64_w, i32_w]
                                rfl
                              refine pure_ (i := 12) (N := some 89) (v := ?_) (a' := ?_) #[true, true, true, true, true, true, true, true, true, true, true, true, true, false, false, false, false, false, false, false, false, false] rfl rfl (any_of HT_.out (by kernel_rfl)) (fun _ _ _ h => h) (Or.inl ⟨by rfl, ?_⟩) ?_ ?_
                              rotate_left
                              · intro w'
                                go_simp
                                with_reducible rfl
                              rotate_left
                              · simp only [Act.put, List.setIfInBounds_toArray, List.set_cons_zero, List.set_cons_succ, i64_w, i32_w]
                                rfl
                              refine pure_ (i := 13) (N := some 90) (v := undef) (a' := ?_) #[true, true, true, true, true, true, true, true, true, true, true, true, true, true, false, false, false, false, false, false, false, false] rfl rfl (any_of HT_.out (by kernel_rfl)) (fun _ _ _ h => h) (Or.inr ⟨by rfl, rfl⟩) ?_ ?_
                              rotate_left
                              · simp only [Act.put, List.setIfInBounds_toArray, List.set_cons_zero, List.set_cons_succ, i64_w, i32_w]
                                rfl
                              refine pure_ (i := 14) (N := some 91) (v := undef) (a' := ?_) #[true, true, true, true, true, true, true, true, true, true, true, true, true, true, true, false, false, false, false, false, false, false] rfl rfl (any_of HT_.out (by kernel_rfl)) (fun _ _ _ h => h) (Or.inr ⟨by rfl, rfl⟩) ?_ ?_
                              rotate_left
                              · simp only [Act.put, List.setIfInBounds_toArray, List.set_cons_zero, List.set_cons_succ, i64_w, i32_w]
                                rfl
                              refine pure_ (i := 15) (N := some 92) (v := undef) (a' := ?_) #[true, true, true, true, true, true, true, true, true, true, true, true, true, true, true, true, false, false, false, false, false, false] rfl rfl (any_of HT_.out (by kernel_rfl)) (fun _ _ _ h => h) (Or.inr ⟨by rfl, rfl⟩) ?_ ?_
                              rotate_left
                              · simp only [Act.put, List.setIfInBounds_toArray, List.set_cons_zero, List.set_cons_succ, i64_w, i32_w]
                                rfl
                              refine pure_ (i := 16) (N := some 93) (v := undef) (a' := ?_) #[true, true, true, true, true, true, true, true, true, true, true, true, true, true, true, true, true, false, false, false, false, false] rfl rfl (any_of HT_.out (by kernel_rfl)) (fun _ _ _ h => h) (Or.inr ⟨by rfl, rfl⟩) ?_ ?_
                              rotate_left
                              · simp only [Act.put, List.setIfInBounds_toArray, List.set_cons_zero, List.set_cons_succ, i64_w, i32_w]
                                rfl
                              refine pure_ (i := 17) (N := some 94) (v := undef) (a' := ?_) #[true, true, true, true, true, true, true, true, true, true, true, true, true, true, true, true, true, true, false, false, false, false] rfl rfl (any_of HT_.out (by kernel_rfl)) (fun _ _ _ h => h) (Or.inr ⟨by rfl, rfl⟩) ?_ ?_
                              rotate_left
                              · simp only [Act.put, List.setIfInBounds_toArray, List.set_cons_zero, List.set_cons_succ, i64_w, i32_w]
                                rfl
                              refine pure_ (i := 18) (N := some 95) (v := undef) (a' := ?_) #[true, true, true, true, true, true, true, true, true, true, true, true, true, true, true, true, true, true, true, false, false, false] rfl rfl (any_of HT_.out (by kernel_rfl)) (fun _ _ _ h => h) (Or.inr ⟨by rfl, rfl⟩) ?_ ?_
                              rotate_left
                              · simp only [Act.put, List.setIfInBounds_toArray, List.set_cons_zero, List.set_cons_succ, i64_w, i32_w]
                                rfl
                              refine pure_ (i := 19) (N := some 96) (v := undef) (a' := ?_) #[true, true, true, true, true, true, true, true, true, true, true, true, true, true, true, true, true, true, true, true, false, false] rfl rfl (any_of HT_.out (by kernel_rfl)) (fun _ _ _ h => h) (Or.inr ⟨by rfl, rfl⟩) ?_ ?_
                              rotate_left
                              · simp only [Act.put, List.setIfInBounds_toArray, List.set_cons_zero, List.set_cons_succ, i64_w, i32_w]
                                rfl
                              refine pure_ (i := 20) (N := some 97) (v := undef) (a' := ?_) #[true, true, true, true, true, true, true, true, true, true, true, true, true, true, true, true, true, true, true, true, true, false] rfl rfl (any_of HT_.out (by kernel_rfl)) (fun _ _ _ h => h) (Or.inr ⟨by rfl, rfl⟩) ?_ ?_
                              rotate_left
                              · simp only [Act.put, List.setIfInBounds_toArray, List.set_cons_zero, List.set_cons_succ, i64_w, i32_w]
                                rfl
                              refine pure_ (i := 21) (N := some 98) (v := ?_) (a' := ?_) #[true, true, true, true, true, true, true, true, true, true, true, true, true, true, true, true, true, true, true, true, true, true] rfl rfl (any_of HT_.out (by kernel_rfl)) (fun _ _ _ h => h) (Or.inl ⟨by rfl, ?_⟩) ?_ ?_
                              rotate_left
                              · intro w'
                                go_simp
                                with_reducible rfl
                              rotate_left
                              · simp only [Act.put, List.setIfInBounds_toArray, List.set_cons_zero, List.set_cons_succ, i64_w, i32_w]
                                rfl
                              refine done_ (done_of HT_.out (by kernel_rfl)) ?_
                              (try simp only [errW_none, errW_some])
                              try go_wp2
                              go_ret
                              exact ⟨by first | rfl | (simp [errW_none, errW_some] <;> rfl) | (simp [*, errW_none, errW_some] <;> rfl), by repeat (first | (with_reducible first | exact HB.out | apply below_alloc | apply pw_below_drewN | apply below_drew1 | refine below_set ?_ GE233.out | refine below_set ?_ GE250.out) | exact HB.out)⟩
                            · rw [if_neg c44] at H
                              have c44b0 : (!(((rd_T44 t235 x72_3).f0) == ((rd_T46 t245 x72_3).f0)) || (!(((rd_T44 t235 x72_3).f1) == ((rd_T46 t245 x72_3).f1)) || (!(((rd_T44 t235 x72_3).f2) == ((rd_T46 t245 x72_3).f2))))) = false := by simpa using c44
                              clear c44
                              replace H := Option.bind_eq_some_iff.mp H
                              obtain ⟨t252, A510, H⟩ := H
                              replace H : (if t252 = (wrap64 (((rd_T44 t235 x72_3).f0) + ((rd_T44 t235 x72_3).f1))) then (arrearslaw10_LevelRows.l0 k3 t245 t235 (t235.length : Int) (wrap64 (x72_3 + 1))) else (some false)) = some r := H
                              have A51 := Aside0.mk A510
                              clear A510
                              by_cases c52 : t252 = (wrap64 (((rd_T44 t235 x72_3).f0) + ((rd_T44 t235 x72_3).f1)))
                              · rw [if_pos c52] at H
                                have c52b0 : (t252 == (wrap64 (((rd_T44 t235 x72_3).f0) + ((rd_T44 t235 x72_3).f1)))) = true := beq_iff_eq.mpr c52
                                have c52b1 : (t252 != (wrap64 (((rd_T44 t235 x72_3).f0) + ((rd_T44 t235 x72_3).f1)))) = false := bne_eq_false_iff_eq.mpr c52
                                clear c52
                                have H' := Aside0.mk H
                                clear H
                                have p249 : 0 ≤ (x72_3 : Int) := of_decide_eq_true (by first | (with_reducible assumption) | assumption)
                                have q249 : x72_3 < (t235.length : Int) := of_decide_eq_true (by first | (with_reducible assumption) | assumption)
                                obtain ⟨ad249, e249, hx249_0, hx249_1, hx249_2⟩ := at_T44 (Kd.R_reads' HO_70.out).2.2 x72_3 p249 q249
                                cases e249
                                replace p249 := eq_true p249
                                replace q249 := eq_true q249
                                try go_wp2_with (first | ((with_reducible refine gate_dst (N := 15) rfl ?_); (try (refine gate_guard (by rfl) ?_; dsimp only)); refine box_event ?hg (N := 15) ?hd (cs := #[.int .i64 0, .int .i64 0, .int .i64 0]) (t := 44) ?hr ?_; (case hd => rfl); (case hg => rfl); (case hr => first | (go_simp; done) | (go_simp; rfl)); intro gb250 hg w53 hbox hb; have n0_ := Aside0.mk (Kd.R_below (by (with_reducible repeat (first | apply Kd.R_alloc | apply Kd.R_drewN | apply Kd.R_drew)); exact HO_13.out) hb); have n1_ := Aside0.mk (Kd.R_below (Kd.R_elderB (by (with_reducible repeat (first | apply Kd.R_alloc | apply Kd.R_drewN | apply Kd.R_drew)); exact HO_70.out) gb250 (Nat.le_of_eq hg.symm)) hb); have n2_ := Aside0.mk (blk_below (g := gb233) (o := .cells #[.int .u32 a2_0, .int .u8 a2_1] 25 (0, 0)) (by (with_reducible repeat (first | refine blk_drewN ?_ _ | refine blk_drew ?_ | refine blk_alloc ?_ _)); exact BK233.out) hb); have n3_ := Aside0.mk (below_step (by repeat (first | (with_reducible first | exact HB.out | apply below_alloc | apply pw_below_drewN | apply below_drew1 | refine below_set ?_ GE233.out) | exact HB.out)) hb); have n4_ := Aside0.mk (hbox); have n5_ := Aside0.mk ((by rw [hg]; exact (below_size (by repeat (first | (with_reducible first | exact HB.out | apply below_alloc | apply pw_below_drewN | apply below_drew1 | refine below_set ?_ GE233.out) | exact HB.out))) : w.heap.size ≤ gb250)); have n6_ := Aside0.mk ((by rw [hg]; exact (below_size (by repeat (first | (with_reducible first | exact HB.out | apply below_alloc | apply pw_below_drewN | apply below_drew1 | refine below_set ?_ GE233.out) | exact HB.out))) : w.heap.size ≤ gb250)); have n7_ := Aside0.mk ((by rw [hg]; exact Nat.ne_of_lt (blk_lt (g := gb233) (o := .cells #[.int .u32 a2_0, .int .u8 a2_1] 25 (0, 0)) (by (with_reducible repeat (first | refine blk_drewN ?_ _ | refine blk_drew ?_ | refine blk_alloc ?_ _)); exact BK233.out)) : gb233 ≠ gb250)); have n8_ := Aside0.mk ((by rw [hg]; exact Nat.ne_of_gt (blk_lt (g := gb233) (o := .cells #[.int .u32 a2_0, .int .u8 a2_1] 25 (0, 0)) (by (with_reducible repeat (first | refine blk_drewN ?_ _ | refine blk_drew ?_ | refine blk_alloc ?_ _)); exact BK233.out)) : gb250 ≠ gb233)); clear HO_13; clear HO_70; clear BK233; clear HB; have HO_13 := n0_; have HO_70 := n1_; have BK233 := n2_; have HB := n3_; have BK250 := n4_; have GW250 := n5_; have GE250 := n6_; have NB233_250 := n7_; have NB250_233 := n8_; clear n0_ n1_ n2_ n3_ n4_ n5_ n6_ n7_ n8_; clear hb hbox hg; have hnb54 := NB250_233.out; have hnc54 := NB233_250.out; have hcz55_0 : w53.cell? ⟨gb250, 0, none⟩ = some (.int .i64 0) := (blk_cell BK250.out 0).trans rfl; have hcz55_1 : w53.cell? ⟨gb250, 1, none⟩ = some (.int .i64 0) := (blk_cell BK250.out 1).trans rfl; have hcz55_2 : w53.cell? ⟨gb250, 2, none⟩ = some (.int .i64 0) := (blk_cell BK250.out 2).trans rfl; have hfz55_0 := blk_frozen BK250.out 0; have hfz55_1 := blk_frozen BK250.out 1; have hfz55_2 := blk_frozen BK250.out 2))
                                have n0_ : Aside0 (Kd.R k46 46 (((w53.setCell ⟨gb250, 0, none⟩ (.int .i64 ((rd_T44 t235 x72_3).f0))).setCell ⟨gb250, 1, none⟩ (.int .i64 ((rd_T44 t235 x72_3).f1))).setCell ⟨gb250, 2, none⟩ (.int .i64 ((rd_T44 t235 x72_3).f2))) w.heap.size (fun _ => True) v246 t245) := ⟨by (with_reducible repeat (first | apply Kd.R_alloc | apply Kd.R_drewN | apply Kd.R_drew)); exact Kd.R_mono (Kd.R_far (p := ⟨gb250, 2, none⟩) (Kd.R_far (p := ⟨gb250, 1, none⟩) (Kd.R_far (p := ⟨gb250, 0, none⟩) (Kd.R_types HO_13.out BK250.out (by decide)) (fun _ hk => hk.2) (.int .i64 ((rd_T44 t235 x72_3).f0))) (fun _ hk => hk.2) (.int .i64 ((rd_T44 t235 x72_3).f1))) (fun _ hk => hk.2) (.int .i64 ((rd_T44 t235 x72_3).f2))) (fun _ hk => trivial)⟩
                                have n1_ : Aside0 (Kd.R k44 44 (((w53.setCell ⟨gb250, 0, none⟩ (.int .i64 ((rd_T44 t235 x72_3).f0))).setCell ⟨gb250, 1, none⟩ (.int .i64 ((rd_T44 t235 x72_3).f1))).setCell ⟨gb250, 2, none⟩ (.int .i64 ((rd_T44 t235 x72_3).f2))) w.heap.size (fun k_ => k_ ≠ gb250) (.slice (some ad249) t235.length co39) t235) := ⟨by (with_reducible repeat (first | apply Kd.R_alloc | apply Kd.R_drewN | apply Kd.R_drew)); exact Kd.R_mono (Kd.R_far (p := ⟨gb250, 2, none⟩) (Kd.R_far (p := ⟨gb250, 1, none⟩) (Kd.R_far (p := ⟨gb250, 0, none⟩) (Kd.R_mono HO_70.out (fun k_ hk => (⟨hk, hk.2⟩ : _ ∧ k_ ≠ gb250))) (fun _ hk => hk.2) (.int .i64 ((rd_T44 t235 x72_3).f0))) (fun _ hk => hk.2) (.int .i64 ((rd_T44 t235 x72_3).f1))) (fun _ hk => hk.2) (.int .i64 ((rd_T44 t235 x72_3).f2))) (fun _ hk => hk.1.2)⟩
                                have n2_ : Aside0 ((((w53.setCell ⟨gb250, 0, none⟩ (.int .i64 ((rd_T44 t235 x72_3).f0))).setCell ⟨gb250, 1, none⟩ (.int .i64 ((rd_T44 t235 x72_3).f1))).setCell ⟨gb250, 2, none⟩ (.int .i64 ((rd_T44 t235 x72_3).f2))).heap[gb233]? = some (.cells #[.int .u32 a2_0, .int .u8 a2_1] 25 (0, 0))) := ⟨by (with_reducible repeat (first | refine blk_drewN ?_ _ | refine blk_drew ?_ | refine blk_alloc ?_ _)); refine blk_far ?_ NB233_250.out _; (with_reducible repeat (first | refine blk_drewN ?_ _ | refine blk_drew ?_ | refine blk_alloc ?_ _)); refine blk_far ?_ NB233_250.out _; (with_reducible repeat (first | refine blk_drewN ?_ _ | refine blk_drew ?_ | refine blk_alloc ?_ _)); refine blk_far ?_ NB233_250.out _; (with_reducible repeat (first | refine blk_drewN ?_ _ | refine blk_drew ?_ | refine blk_alloc ?_ _)); exact BK233.out⟩
                                have n3_ : Aside0 ((((w53.setCell ⟨gb250, 0, none⟩ (.int .i64 ((rd_T44 t235 x72_3).f0))).setCell ⟨gb250, 1, none⟩ (.int .i64 ((rd_T44 t235 x72_3).f1))).setCell ⟨gb250, 2, none⟩ (.int .i64 ((rd_T44 t235 x72_3).f2))).heap[gb250]? = some (.cells #[.int .i64 ((rd_T44 t235 x72_3).f0), .int .i64 ((rd_T44 t235 x72_3).f1), .int .i64 ((rd_T44 t235 x72_3).f2)] 44 (0, 0))) := ⟨by (with_reducible repeat (first | refine blk_drewN ?_ _ | refine blk_drew ?_ | refine blk_alloc ?_ _)); refine blk_put (cs := #[.int .i64 ((rd_T44 t235 x72_3).f0), .int .i64 ((rd_T44 t235 x72_3).f1), .int .i64 0]) ?_ 2 _ rfl; (with_reducible repeat (first | refine blk_drewN ?_ _ | refine blk_drew ?_ | refine blk_alloc ?_ _)); refine blk_put (cs := #[.int .i64 ((rd_T44 t235 x72_3).f0), .int .i64 0, .int .i64 0]) ?_ 1 _ rfl; (with_reducible repeat (first | refine blk_drewN ?_ _ | refine blk_drew ?_ | refine blk_alloc ?_ _)); refine blk_put (cs := #[.int .i64 0, .int .i64 0, .int .i64 0]) ?_ 0 _ rfl; (with_reducible repeat (first | refine blk_drewN ?_ _ | refine blk_drew ?_ | refine blk_alloc ?_ _)); exact BK250.out⟩
                                have n4_ : Aside0 (Below w.heap.size w (((w53.setCell ⟨gb250, 0, none⟩ (.int .i64 ((rd_T44 t235 x72_3).f0))).setCell ⟨gb250, 1, none⟩ (.int .i64 ((rd_T44 t235 x72_3).f1))).setCell ⟨gb250, 2, none⟩ (.int .i64 ((rd_T44 t235 x72_3).f2)))) := ⟨by repeat (first | (with_reducible first | exact HB.out | apply below_alloc | apply pw_below_drewN | apply below_drew1 | refine below_set ?_ GE233.out | refine below_set ?_ GE250.out) | exact HB.out)⟩
                                (try clear HO_13)
                                (try clear HO_70)
                                (try clear BK233)
                                (try clear BK250)
                                (try clear HB)
                                generalize (((w53.setCell ⟨gb250, 0, none⟩ (.int .i64 ((rd_T44 t235 x72_3).f0))).setCell ⟨gb250, 1, none⟩ (.int .i64 ((rd_T44 t235 x72_3).f1))).setCell ⟨gb250, 2, none⟩ (.int .i64 ((rd_T44 t235 x72_3).f2))) = w56 at n0_ n1_ n2_ n3_ n4_ ⊢
                                have HO_13 := n0_
                                have HO_70 := n1_
                                have BK233 := n2_
                                have BK250 := n3_
                                have HB := n4_
                                clear n0_ n1_ n2_ n3_ n4_
                                have n0_ := Aside0.mk (Kd.R_drew HO_13.out)
                                have n1_ := Aside0.mk (Kd.R_drew HO_70.out)
                                have n2_ := Aside0.mk (blk_drew BK233.out)
                                have n3_ := Aside0.mk (blk_drew BK250.out)
                                have n4_ := Aside0.mk (below_drew1 HB.out)
                                clear HO_13
                                clear HO_70
                                clear BK233
                                clear BK250
                                clear HB
                                have HO_13 := n0_
                                have HO_70 := n1_
                                have BK233 := n2_
                                have BK250 := n3_
                                have HB := n4_
                                clear n0_ n1_ n2_ n3_ n4_
                                obtain ⟨Ao58, co58, eo58⟩ := Kd.R_slice HO_13.out
                                (first | subst eo58 | (injection eo58 with f1_ f2_ f3_; have f4_ := f1_.symm; have f5_ := f3_.symm; clear f1_ f2_ f3_; subst f4_; subst f5_))
                                have p251 : 0 ≤ (x72_3 : Int) := of_decide_eq_true (by first | (with_reducible assumption) | assumption)
                                have q251 : x72_3 < (t245.length : Int) := of_decide_eq_true (by first | (with_reducible assumption) | assumption)
                                obtain ⟨ad251, e251, hx251_0, hx251_1, hx251_2⟩ := at_T46 (Kd.R_reads' HO_13.out).2.2 x72_3 p251 q251
                                cases e251
                                replace p251 := eq_true p251
                                replace q251 := eq_true q251
                                refine start_ (n := 22) (S := fun w' => w'.cell? ⟨gb250, 0, none⟩ = some (.int .i64 ((rd_T44 t235 x72_3).f0)) ∧ w'.cell? ⟨gb250, 1, none⟩ = some (.int .i64 ((rd_T44 t235 x72_3).f1)) ∧ w'.cell? ⟨gb250, 2, none⟩ = some (.int .i64 ((rd_T44 t235 x72_3).f2)) ∧ w'.cell? (ad251.add ((x72_3).toNat * 3)) = some (.int .i64 ((rd_T46 t245 x72_3).f0)) ∧ w'.cell? ⟨(ad251.add ((x72_3).toNat * 3)).block, (ad251.add ((x72_3).toNat * 3)).off + 1, none⟩ = some (.int .i64 ((rd_T46 t245 x72_3).f1)) ∧ w'.cell? ⟨(ad251.add ((x72_3).toNat * 3)).block, (ad251.add ((x72_3).toNat * 3)).off + 2, none⟩ = some (.int .i64 ((rd_T46 t245 x72_3).f2))) (ds := []) #[false, false, false, false, false, false, false, false, false, false, false, false, false, false, false, false, false, false, false, false, false, false] (by kernel_rfl) rfl rfl ⟨(blk_cell BK250.out 0).trans rfl, (blk_cell BK250.out 1).trans rfl, (blk_cell BK250.out 2).trans rfl, hx251_0, hx251_1, hx251_2⟩ (fun hHeld => ?_); refine with_tabW arrearslaw10_LevelRows.tab13 arrearslaw10_LevelRows.bits13 (fun HT_ HW_ => ?_)
                                generalize w56.drew = w57 at HO_13 HO_70 BK233 BK250 HB hx251_0 hx251_1 hx251_2 hHeld ⊢
                                refine pure_ (i := 0) (N := some 77) (v := ?_) (a' := ?_) #[true, false, false, false, false, false, false, false, false, false, false, false, false, false, false, false, false, false, false, false, false, false] rfl rfl (any_of HT_.out (by kernel_rfl)) (fun _ _ _ h => h) (Or.inl ⟨by rfl, ?_⟩) ?_ ?_
                                rotate_left
                                · intro w'
                                  go_simp
                                  with_reducible rfl
                                rotate_left
                                · simp only [Act.put, List.setIfInBounds_toArray, List.set_cons_zero, List.set_cons_succ, i64_w, i32_w]
                                  rfl
                                refine pure_ (i := 2) (N := some 79) (v := ?_) (a' := ?_) #[true, false, true, false, false, false, false, false, false, false, false, false, false, false, false, false, false, false, false, false, false, false] rfl rfl (any_of HT_.out (by kernel_rfl)) (fun _ _ _ h => h) (Or.inl ⟨by rfl, ?_⟩) ?_ ?_
                                rotate_left
                                · intro w'
                                  go_simp
                                  with_reducible rfl
                                rotate_left
                                · simp only [Act.put, List.setIfInBounds_toArray, List.set_cons_zero, List.set_cons_succ, i64_w, i32_w]
                                  rfl
                                refine pure_ (i := 4) (N := some 81) (v := ?_) (a' := ?_) #[true, false, true, false, true, false, false, false, false, false, false, false, false, false, false, false, false, false, false, false, false, false] rfl rfl (any_of HT_.out (by kernel_rfl)) (fun _ _ _ h => h) (Or.inl ⟨by rfl, ?_⟩) ?_ ?_
                                rotate_left
                                · intro w'
                                  go_simp
                                  with_reducible rfl
                                rotate_left
                                · simp only [Act.put, List.setIfInBounds_toArray, List.set_cons_zero, List.set_cons_succ, i64_w, i32_w]
                                  rfl
                                refine pure_ (i := 7) (N := some 84) (v := ?_) (a' := ?_) #[true, false, true, false, true, false, false, true, false, false, false, false, false, false, false, false, false, false, false, false, false, false] rfl rfl (any_of HT_.out (by kernel_rfl)) (fun _ _ _ h => h) (Or.inl ⟨by rfl, ?_⟩) ?_ ?_
                                rotate_left
                                · intro w'
                                  go_simp
                                  with_reducible rfl
                                rotate_left
                                · simp only [Act.put, List.setIfInBounds_toArray, List.set_cons_zero, List.set_cons_succ, i64_w, i32_w]
                                  rfl
                                refine pure_ (i := 8) (N := some 85) (v := ?_) (a' := ?_) #[true, false, true, false, true, false, false, true, true, false, false, false, false, false, false, false, false, false, false, false, false, false] rfl rfl (any_of HT_.out (by kernel_rfl)) (fun _ _ _ h => h) (Or.inl ⟨by rfl, ?_⟩) ?_ ?_
                                rotate_left
                                · intro w'
                                  go_simp
                                  with_reducible rfl
                                rotate_left
                                · simp only [Act.put, List.setIfInBounds_toArray, List.set_cons_zero, List.set_cons_succ, i64_w, i32_w]
                                  rfl
                                refine pure_ (i := 9) (N := some 86) (v := ?_) (a' := ?_) #[true, false, true, false, true, false, false, true, true, true, false, false, false, false, false, false, false, false, false, false, false, false] rfl rfl (any_of HT_.out (by kernel_rfl)) (fun _ _ _ h => h) (Or.inl ⟨by rfl, ?_⟩) ?_ ?_
                                rotate_left
                                · intro w'
                                  go_simp
                                  with_reducible rfl
                                rotate_left
                                · simp only [Act.put, List.setIfInBounds_toArray, List.set_cons_zero, List.set_cons_succ, i64_w, i32_w]
                                  rfl
                                refine take_ (i := 1) (N := some 78) (v := ?_) (a' := ?_) #[true, true, true, false, true, false, false, true, true, true, false, false, false, false, false, false, false, false, false, false, false, false] rfl rfl (take_ofW HT_.out HW_.out (by kernel_rfl)) (fun _ _ _ h => h) (Or.inl ⟨by rfl, ?_⟩) hHeld ?_ ?_
                                rotate_left
                                · rintro w' ⟨s0, s1, s2, s3, s4, s5⟩
                                  go_simp
                                  with_reducible rfl
                                rotate_left
                                · simp only [Act.put, List.setIfInBounds_toArray, List.set_cons_zero, List.set_cons_succ, i64_w, i32_w]
                                  rfl
                                refine take_ (i := 3) (N := some 80) (v := ?_) (a' := ?_) #[true, true, true, true, true, false, false, true, true, true, false, false, false, false, false, false, false, false, false, false, false, false] rfl rfl (take_ofW HT_.out HW_.out (by kernel_rfl)) (fun _ _ _ h => h) (Or.inl ⟨by rfl, ?_⟩) hHeld ?_ ?_
                                rotate_left
                                · rintro w' ⟨s0, s1, s2, s3, s4, s5⟩
                                  go_simp
                                  with_reducible rfl
                                rotate_left
                                · simp only [Act.put, List.setIfInBounds_toArray, List.set_cons_zero, List.set_cons_succ, i64_w, i32_w]
                                  rfl
                                refine take_ (i := 5) (N := some 82) (v := ?_) (a' := ?_) #[true, true, true, true, true, true, false, true, true, true, false, false, false, false, false, false, false, false, false, false, false, false] rfl rfl (take_ofW HT_.out HW_.out (by kernel_rfl)) (fun _ _ _ h => h) (Or.inl ⟨by rfl, ?_⟩) hHeld ?_ ?_
                                rotate_left
                                · rintro w' ⟨s0, s1, s2, s3, s4, s5⟩
                                  go_simp
                                  with_reducible rfl
                                rotate_left
                                · simp only [Act.put, List.setIfInBounds_toArray, List.set_cons_zero, List.set_cons_succ, i64_w, i32_w]
                                  rfl
                                refine pure_ (i := 6) (N := some 83) (v := ?_) (a' := ?_) #[true, true, true, true, true, true, true, true, true, true, false, false, false, false, false, false, false, false, false, false, false, false] rfl rfl (any_of HT_.out (by kernel_rfl)) (fun _ _ _ h => h) (Or.inl ⟨by rfl, ?_⟩) ?_ ?_
                                rotate_left
                                · intro w'
                                  go_simp
                                  with_reducible rfl
                                rotate_left
                                · simp only [Act.put, List.setIfInBounds_toArray, List.set_cons_zero, List.set_cons_succ, i64_w, i32_w]
                                  rfl
                                refine take_ (i := 10) (N := some 87) (v := ?_) (a' := ?_) #[true, true, true, true, true, true, true, true, true, true, true, false, false, false, false, false, false, false, false, false, false, false] rfl rfl (take_ofW HT_.out HW_.out (by kernel_rfl)) (fun _ _ _ h => h) (Or.inl ⟨by rfl, ?_⟩) hHeld ?_ ?_
                                rotate_left
                                · rintro w' ⟨s0, s1, s2, s3, s4, s5⟩
                                  go_simp
                                  with_reducible rfl
                                rotate_left
                                · simp only [Act.put, List.setIfInBounds_toArray, List.set_cons_zero, List.set_cons_succ, i64_w, i32_w]
                                  rfl
                                refine pure_ (i := 11) (N := some 88) (v := ?_) (a' := ?_) #[true, true, true, true, true, true, true, true, true, true, true, true, false, false, false, false, false, false, false, false, false, false] rfl rfl (any_of HT_.out (by kernel_rfl)) (fun _ _ _ h => h) (Or.inl ⟨by rfl, ?_⟩) ?_ ?_
                                rotate_left
                                · intro w'
                                  go_simp
                                  with_reducible rfl
                                rotate_left
                                · simp only [Act.put, List.setIfInBounds_toArray, List.set_cons_zero, List.set_cons_succ, i64_w, i32_w]
                                  rfl
                                refine pure_ (i := 12) (N := some 89) (v := ?_) (a' := ?_) #[true, true, true, true, true, true, true, true, true, true, true, true, true, false, false, false, false, false, false, false, false, false] rfl rfl (any_of HT_.out (by kernel_rfl)) (fun _ _ _ h => h) (Or.inl ⟨by rfl, ?_⟩) ?_ ?_
                                rotate_left
                                · intro w'
                                  go_simp
                                  with_reducible rfl
                                rotate_left
                                · simp only [Act.put, List.setIfInBounds_toArray, List.set_cons_zero, List.set_cons_succ, i64_w, i32_w]
                                  rfl
                                refine pure_ (i := 15) (N := some 92) (v := ?_) (a' := ?_) #[true, true, true, true, true, true, true, true, true, true, true, true, true, false, false, true, false, false, false, false, false, false] rfl rfl (any_of HT_.out (by kernel_rfl)) (fun _ _ _ h => h) (Or.inl ⟨by rfl, ?_⟩) ?_ ?_
                                rotate_left
                                · intro w'
                                  go_simp
                                  with_reducible rfl
                                rotate_left
                                · simp only [Act.put, List.setIfInBounds_toArray, List.set_cons_zero, List.set_cons_succ, i64_w, i32_w]
                                  rfl
                                refine pure_ (i := 17) (N := some 94) (v := ?_) (a' := ?_) #[true, true, true, true, true, true, true, true, true, true, true, true, true, false, false, true, false, true, false, false, false, false] rfl rfl (any_of HT_.out (by kernel_rfl)) (fun _ _ _ h => h) (Or.inl ⟨by rfl, ?_⟩) ?_ ?_
                                rotate_left
                                · intro w'
                                  go_simp
                                  with_reducible rfl
                                rotate_left
                                · simp only [Act.put, List.setIfInBounds_toArray, List.set_cons_zero, List.set_cons_succ, i64_w, i32_w]
                                  rfl
                                refine take_ (i := 13) (N := some 90) (v := ?_) (a' := ?_) #[true, true, true, true, true, true, true, true, true, true, true, true, true, true, false, true, false, true, false, false, false, false] rfl rfl (take_ofW HT_.out HW_.out (by kernel_rfl)) (fun _ _ _ h => h) (Or.inl ⟨by rfl, ?_⟩) hHeld ?_ ?_
                                rotate_left
                                · rintro w' ⟨s0, s1, s2, s3, s4, s5⟩
                                  go_simp
                                  with_reducible rfl
                                rotate_left
                                · simp only [Act.put, List.setIfInBounds_toArray, List.set_cons_zero, List.set_cons_succ, i64_w, i32_w]
                                  rfl
                                refine take_ (i := 16) (N := some 93) (v := ?_) (a' := ?_) #[true, true, true, true, true, true, true, true, true, true, true, true, true, true, false, true, true, true, false, false, false, false] rfl rfl (take_ofW HT_.out HW_.out (by kernel_rfl)) (fun _ _ _ h => h) (Or.inl ⟨by rfl, ?_⟩) hHeld ?_ ?_
                                rotate_left
                                · rintro w' ⟨s0, s1, s2, s3, s4, s5⟩
                                  go_simp
                                  with_reducible rfl
                                rotate_left
                                · simp only [Act.put, List.setIfInBounds_toArray, List.set_cons_zero, List.set_cons_succ, i64_w, i32_w]
                                  rfl
                                refine take_ (i := 18) (N := some 95) (v := ?_) (a' := ?_) #[true, true, true, true, true, true, true, true, true, true, true, true, true, true, false, true, true, true, true, false, false, false] rfl rfl (take_ofW HT_.out HW_.out (by kernel_rfl)) (fun _ _ _ h => h) (Or.inl ⟨by rfl, ?_⟩) hHeld ?_ ?_
                                rotate_left
                                · rintro w' ⟨s0, s1, s2, s3, s4, s5⟩
                                  go_simp
                                  with_reducible rfl
                                rotate_left
                                · simp only [Act.put, List.setIfInBounds_toArray, List.set_cons_zero, List.set_cons_succ, i64_w, i32_w]
                                  rfl
                                refine pure_ (i := 19) (N := some 96) (v := ?_) (a' := ?_) #[true, true, true, true, true, true, true, true, true, true, true, true, true, true, false, true, true, true, true, true, false, false] rfl rfl (any_of HT_.out (by kernel_rfl)) (fun _ _ _ h => h) (Or.inl ⟨by rfl, ?_⟩) ?_ ?_
                                rotate_left
                                · intro w'
                                  go_simp
                                  with_reducible rfl
                                rotate_left
                                · simp only [Act.put, List.setIfInBounds_toArray, List.set_cons_zero, List.set_cons_succ, i64_w, i32_w]
                                  rfl
                                refine one_ (i := 14) (N := some 91) #[true, true, true, true, true, true, true, true, true, true, true, true, true, true, true, true, true, true, true, true, false, false] rfl rfl (one_of HT_.out (by kernel_rfl)) (by decide) (fun K hK => ?_)
                                refine goes_ Tryd.func13 (by kernel_rfl) rfl #[.agg #[.int .i64 ((rd_T44 t235 x72_3).f0), .int .i64 ((rd_T44 t235 x72_3).f1), .int .i64 ((rd_T44 t235 x72_3).f2)]] (by rfl) rfl rfl (by (try simp only [List.map_toArray, List.map_cons, List.map_nil]); first | done | rfl | (simp only [List.length_drop, List.length_take]; rfl)) ?_
                                with_reducible refine (level_Row_Pay.calls ((rd_T44 t235 x72_3).f0) ((rd_T44 t235 x72_3).f1) ((rd_T44 t235 x72_3).f2) t252 _ A51.out).mono ?_
                                rintro e w59 ⟨rfl, hb⟩
                                have HS3_ := (hb.cell (World.block_lt_of_cell? _ _ (hHeld.2.2.2.1))).trans (hHeld.2.2.2.1)
                                have HS4_ := (hb.cell (World.block_lt_of_cell? _ _ (hHeld.2.2.2.2.1))).trans (hHeld.2.2.2.2.1)
                                have HS5_ := (hb.cell (World.block_lt_of_cell? _ _ (hHeld.2.2.2.2.2))).trans (hHeld.2.2.2.2.2)
                                refine ⟨_, rfl, ?_⟩
                                have n0_ := Aside0.mk (Kd.R_below (by (with_reducible repeat (first | apply Kd.R_alloc | apply Kd.R_drewN | apply Kd.R_drew)); exact HO_13.out) hb)
                                have n1_ := Aside0.mk (Kd.R_below (by (with_reducible repeat (first | apply Kd.R_alloc | apply Kd.R_drewN | apply Kd.R_drew)); exact HO_70.out) hb)
                                have n2_ := Aside0.mk (blk_below (g := gb233) (o := .cells #[.int .u32 a2_0, .int .u8 a2_1] 25 (0, 0)) (by (with_reducible repeat (first | refine blk_drewN ?_ _ | refine blk_drew ?_ | refine blk_alloc ?_ _)); exact BK233.out) hb)
                                have n3_ := Aside0.mk (blk_below (g := gb250) (o := .cells #[.int .i64 ((rd_T44 t235 x72_3).f0), .int .i64 ((rd_T44 t235 x72_3).f1), .int .i64 ((rd_T44 t235 x72_3).f2)] 44 (0, 0)) (by (with_reducible repeat (first | refine blk_drewN ?_ _ | refine blk_drew ?_ | refine blk_alloc ?_ _)); exact BK250.out) hb)
                                have n4_ := Aside0.mk (below_step (by repeat (first | (with_reducible first | exact HB.out | apply below_alloc | apply pw_below_drewN | apply below_drew1 | refine below_set ?_ GE233.out | refine below_set ?_ GE250.out) | exact HB.out)) hb)
                                clear HO_13
                                clear HO_70
                                clear BK233
                                clear BK250
                                clear HB
                                have HO_13 := n0_
                                have HO_70 := n1_
                                have BK233 := n2_
                                have BK250 := n3_
                                have HB := n4_
                                clear n0_ n1_ n2_ n3_ n4_
                                (try clear hb)
                                (try clear hb2)
                                (try clear hk)
                                (try clear hi)
                                refine hK.out _ _ ⟨(blk_cell BK250.out 0).trans rfl, (blk_cell BK250.out 1).trans rfl, (blk_cell BK250.out 2).trans rfl, HS3_, HS4_, HS5_⟩ (fun hHeld => ?_)
                                clear hK K
                                refine norm_ (a' := ?_) ?_ ?_
                                rotate_left
                                · show Act.put _ (some 91) _ = _
                                  simp only [Act.put, List.setIfInBounds_toArray, List.set_cons_zero, List.set_cons_succ, i64_w, i32_w]
                                  rfl
                                refine pure_ (i := 20) (N := some 97) (v := ?_) (a' := ?_) #[true, true, true, true, true, true, true, true, true, true, true, true, true, true, true, true, true, true, true, true, true, false] rfl rfl (any_of HT_.out (by kernel_rfl)) (fun _ _ _ h => h) (Or.inl ⟨by rfl, ?_⟩) ?_ ?_
                                rotate_left
                                · intro w'
                                  go_simp
                                  with_reducible rfl
                                rotate_left
                                · simp only [Act.put, List.setIfInBounds_toArray, List.set_cons_zero, List.set_cons_succ, i64_w, i32_w]
                                  rfl
                                refine pure_ (i := 21) (N := some 98) (v := ?_) (a' := ?_) #[true, true, true, true, true, true, true, true, true, true, true, true, true, true, true, true, true, true, true, true, true, true] rfl rfl (any_of HT_.out (by kernel_rfl)) (fun _ _ _ h => h) (Or.inl ⟨by rfl, ?_⟩) ?_ ?_
                                rotate_left
                                · intro w'
                                  go_simp
                                  with_reducible rfl
                                rotate_left
                                · simp only [Act.put, List.setIfInBounds_toArray, List.set_cons_zero, List.set_cons_succ, i64_w, i32_w]
                                  rfl
                                refine done_ (done_of HT_.out (by kernel_rfl)) ?_
                                (try simp only [errW_none, errW_some])
                                try go_wp2
                                go_roundg k3
                                case measure => have := HJ7.out; have := HJ30.out; have := HK3.out; omega
                                case rel => exact ⟨(wrap64 (x72_3 + 1)), (by first | rfl | (simp; done) | (simp [*]; done) | (exfalso; simp at *; omega)), H', ⟨by have := HJ7.out; have := HJ30.out; have := HK3.out; omega⟩, ⟨by (with_reducible repeat (first | apply Kd.R_alloc | apply Kd.R_drewN | apply Kd.R_drew)); exact HO_13.out⟩, ⟨by (with_reducible repeat (first | apply Kd.R_alloc | apply Kd.R_drewN | apply Kd.R_drew)); exact Kd.R_mono HO_70.out (fun _ hk => trivial)⟩, ⟨by (with_reducible repeat (first | refine blk_drewN ?_ _ | refine blk_drew ?_ | refine blk_alloc ?_ _)); exact BK233.out⟩, ⟨by repeat (first | (with_reducible first | exact HB.out | apply below_alloc | apply pw_below_drewN | apply below_drew1 | refine below_set ?_ GE233.out | refine below_set ?_ GE250.out) | exact HB.out)⟩⟩
                              · rw [if_neg c52] at H
                                have c52b0 : (t252 == (wrap64 (((rd_T44 t235 x72_3).f0) + ((rd_T44 t235 x72_3).f1)))) = false := beq_eq_false_iff_ne.mpr c52
                                have c52b1 : (t252 != (wrap64 (((rd_T44 t235 x72_3).f0) + ((rd_T44 t235 x72_3).f1)))) = true := bne_iff_ne.mpr c52
                                exact absurd (H.trans (congrArg some HR.out)) (by simp)
                          · rw [if_neg c43] at H
                            exact absurd H (by simp)
                        · first | exact absurd c40 c42 | exact absurd (beq_iff_eq.mp c40b0) c42 | exact absurd (of_decide_eq_true (by assumption)) c42 | exact absurd (by assumption) c42
                      · rw [if_neg c41] at H
                        exact absurd H (by simp)
                    · rw [if_neg c40] at H
                      have c40b0 : decide (x72_3 < (t235.length : Int)) = false := decide_eq_false c40
                      clear c40
                      obtain rfl := Option.some.inj H
                      go_wp2
                      go_ret
                      exact ⟨by first | rfl | (simp [errW_none, errW_some] <;> rfl) | (simp [*, errW_none, errW_some] <;> rfl), by repeat (first | (with_reducible first | exact HB.out | apply below_alloc | apply pw_below_drewN | apply below_drew1 | refine below_set ?_ GE233.out) | exact HB.out)⟩
  · replace c6 := Bool.eq_false_iff.mpr c6
    subst c6
    have H1 : (some false) = some r := by rw [if_neg (show ¬ (false = true) by decide)] at H; exact H
    clear H
    have H := H1
    clear H1
    exact absurd (H.trans (congrArg some HR.out)) (by simp)
end Go.Proofs.YtoclgoknednjgaaDoor.PLevelRows
