-- Printed by a wrapper of this session's round the kit's print.py; Lean checks it.
import Derived.Test.YtldicnmpegkicaaDoorPYieldDaysx0
import Derived.Test.YtldicnmpegkicaaDoorPYieldDaysx1
import Derived.Test.YtldicnmpegkicaaDoorPYieldDaysx5
namespace Go.Proofs.YtldicnmpegkicaaDoor.PYieldDays
open Go.RowKit Go.Proofs.YtldicnmpegkicaaDoorW.PrintWords Go.Proofs.YtldicnmpegkicaaDoorW.PrintLast Go.Proofs.YtldicnmpegkicaaDoorW.PrintMore
attribute [local go_sem] max2_int min2_int max_two min_two max_three min_three max_four min_four   -- for this text's walks alone
set_option linter.unusedVariables false
set_option linter.unusedSimpArgs false

/-! ### wide_Round: function 31 -/
def wide_Round.j0 : Nat → Int → Option Int → Bool → Option (Int × Option Int)
 | 0, _, _, _ => none
 | k + 1, x8, x10, x27 => if x27 = true then (some (x8, x10)) else (if (IntKind.u64.wrap (x8 + 1)) = 0 then (some (0, some 12)) else (some (IntKind.u64.wrap (x8 + 1), none)))
def wide_Round.f (k : Nat) (a0 : Int) (a1 : Int) (a2 : Int) : Option (Int × Option Int) := (wide_Scale.f k a0 a1 a2).bind fun bt215 => (if bt215.2.2.isNone = true then (wide_Round.j0 k bt215.1 none (decide (bt215.2.1 < (IntKind.u64.wrap (a2 - bt215.2.1))))) else (wide_Round.j0 k bt215.1 (some (bt215.2.2.getD 0)) true))
theorem wide_Round.mono_l : ∀ k, (∀ y0 y1 y2, LeO (wide_Round.j0 k y0 y1 y2) (wide_Round.j0 (k + 1) y0 y1 y2))
 | 0 => fun _ _ _ r h => by simp [wide_Round.j0] at h
 | k + 1 => by
  have ih0 := wide_Round.mono_l k
  ·
   intro y0 y1 y2
   unfold wide_Round.j0
   repeat' first
   | (with_reducible exact ih0 _ _ _)
   | (with_reducible exact wide_Scale.mono _ _ _ _)
   | (with_reducible exact LeO.refl _)
   | (with_reducible exact LeO.none _)
   | (with_reducible refine LeO.ite ?_ ?_)
   | (with_reducible refine LeO.bind ?_ (fun _ => ?_))
   | exact ih0 _ _ _
   | exact wide_Scale.mono _ _ _ _
   | exact LeO.none _
   | refine LeO.ite ?_ ?_
   | refine LeO.bind ?_ (fun _ => ?_)
theorem wide_Round.mono : ∀ a0 a1 a2 k, LeO (wide_Round.f k a0 a1 a2) (wide_Round.f (k + 1) a0 a1 a2) := by
 intro a0 a1 a2 k
 have ih0 := wide_Round.mono_l k
 unfold wide_Round.f
 repeat' first
   | (with_reducible exact ih0 _ _ _)
   | (with_reducible exact wide_Scale.mono _ _ _ _)
   | (with_reducible exact LeO.refl _)
   | (with_reducible exact LeO.none _)
   | (with_reducible refine LeO.ite ?_ ?_)
   | (with_reducible refine LeO.bind ?_ (fun _ => ?_))
   | exact ih0 _ _ _
   | exact wide_Scale.mono _ _ _ _
   | exact LeO.none _
   | refine LeO.ite ?_ ?_
   | refine LeO.bind ?_ (fun _ => ?_)
set_option maxHeartbeats 8000000 in
set_option maxRecDepth 100000 in
theorem wide_Round.calls (k : Nat) (a0 : Int) (a1 : Int) (a2 : Int) (r1 : Int) (r2 : Option Int) (w : World) (h : wide_Round.f k a0 a1 a2 = some (r1, r2)) :
  Calls Tryd.prog 31 #[.int .u64 a0, .int .u64 a1, .int .u64 a2] w fun e w' => e = .returned (.tuple #[.int .u64 r1, errW r2]) ∧ Below w.heap.size w w' := by
 have hu29 := Tryd.underlying29
 have hu38 := Tryd.underlying38
 have HB := Aside0.mk (Below.refl w.heap.size w)
 have H : ((wide_Scale.f k a0 a1 a2).bind fun bt215 => (if bt215.2.2.isNone = true then (wide_Round.j0 k bt215.1 none (decide (bt215.2.1 < (IntKind.u64.wrap (a2 - bt215.2.1))))) else (wide_Round.j0 k bt215.1 (some (bt215.2.2.getD 0)) true))) = some (r1, r2) := h
 clear h
 replace H := Option.bind_eq_some_iff.mp H
 obtain ⟨⟨t215, t216, t217⟩, A40, H⟩ := H
 replace H : (if t217.isNone = true then (wide_Round.j0 k t215 none (decide (t216 < (IntKind.u64.wrap (a2 - t216))))) else (wide_Round.j0 k t215 (some (t217.getD 0)) true)) = some (r1, r2) := H
 have A4 := Aside0.mk A40
 clear A40
 have HC5 := Aside0.mk H
 clear H
 go_enter Tryd.func31, Tryd.ntmps31
 go_upto_region 2 with (first | ((with_reducible refine gate_callee (f := 43) rfl ?_); refine goesL_ (some 15) rfl rfl Tryd.func43 (by kernel_rfl) rfl #[.int .u64 a0, .int .u64 a1, .int .u64 a2] rfl (by (try simp only [List.map_toArray, List.map_cons, List.map_nil]); first | done | rfl | (simp only [List.length_drop, List.length_take]; rfl)) ?_; (with_reducible refine (wide_Scale.calls k a0 a1 a2 t215 t216 t217 _ A4.out).mono ?_); rintro e w6 ⟨rfl, hb⟩; refine ⟨_, rfl, ?_⟩; have n0_ := Aside0.mk (below_step (by repeat (first | (with_reducible first | exact HB.out | apply below_alloc | apply pw_below_drewN | apply below_drew1) | exact HB.out)) hb); clear HB; have HB := n0_; clear n0_; (try clear hb); (try clear hb2); (try clear hk); (try clear hi); (try simp only [errW_none, errW_some])))
 (try simp only [Act.put, List.setIfInBounds_toArray, List.set_cons_zero, List.set_cons_succ])
 go_cut [27] (fun v27 wc => ∃ (kq : Nat) (x27_4 : Bool), v27 = .bool x27_4 ∧ Aside0 (wide_Round.j0 kq t215 t217 x27_4 = some (r1, r2)) ∧ Aside0 (kq ≤ k) ∧ Aside0 (Below w.heap.size w wc))
 case first =>
  have H := HC5.out
  clear HC5
  rcases t217 with _ | q218
  ·
   have H1 : (wide_Round.j0 k t215 none (decide (t216 < (IntKind.u64.wrap (a2 - t216))))) = some (r1, r2) := by rw [if_pos (show (none : Option Int).isNone = true by rfl)] at H; exact H
   clear H
   have H := H1
   clear H1
   try simp only [errW_none, errW_some]
   have H' := Aside0.mk H
   clear H
   go_wp2
   go_meet
   case rel => exact ⟨_, (decide (t216 < (IntKind.u64.wrap (a2 - t216)))), (by first | rfl | (simp; done) | (simp [*]; done)), H', ⟨by first | omega | exact Nat.le_refl _⟩, ⟨by repeat (first | (with_reducible first | exact HB.out | apply below_alloc | apply pw_below_drewN | apply below_drew1) | exact HB.out)⟩⟩
  ·
   have H1 : (wide_Round.j0 k t215 (some q218) true) = some (r1, r2) := by rw [if_neg (show ¬ (some q218).isNone = true by simp)] at H; exact H
   clear H
   have H := H1
   clear H1
   try simp only [errW_none, errW_some]
   have H' := Aside0.mk H
   clear H
   go_wp2
   go_meet
   case rel => exact ⟨_, (true), (by first | rfl | (simp; done) | (simp [*]; done)), H', ⟨by first | omega | exact Nat.le_refl _⟩, ⟨by repeat (first | (with_reducible first | exact HB.out | apply below_alloc | apply pw_below_drewN | apply below_drew1) | exact HB.out)⟩⟩
 case rest =>
  clear HC5
  try clear p2
  try clear q2
  try clear c3
  try clear c4
  try clear q218
  obtain ⟨kq, x27_4, rfl, HA, HJ4, HB⟩ := hcut
  cases kq with
  | zero => exact absurd HA.out (by simp [wide_Round.j0])
  | succ kj4 =>
   have H := HA.out
   clear HA
   simp only [wide_Round.j0] at H
   by_cases c7 : x27_4 = true
   ·
    subst c7
    have H1 : (some (t215, t217)) = some (r1, r2) := by rw [if_pos rfl] at H; exact H
    clear H
    have H := H1
    clear H1
    simp only [Option.some.injEq, Prod.mk.injEq] at H
    obtain ⟨rfl, rfl⟩ := H
    go_wp2
    go_ret2
    exact ⟨by first | rfl | (simp [errW_none, errW_some] <;> rfl) | (simp [*, errW_none, errW_some] <;> rfl), by repeat (first | (with_reducible first | exact HB.out | apply below_alloc | apply pw_below_drewN | apply below_drew1) | exact HB.out)⟩
   ·
    replace c7 := Bool.eq_false_iff.mpr c7
    subst c7
    have H1 : (if (IntKind.u64.wrap (t215 + 1)) = 0 then (some (0, some 12)) else (some (IntKind.u64.wrap (t215 + 1), none))) = some (r1, r2) := by rw [if_neg (show ¬ (false = true) by decide)] at H; exact H
    clear H
    have H := H1
    clear H1
    by_cases c8 : (IntKind.u64.wrap (t215 + 1)) = 0
    ·
     rw [if_pos c8] at H
     have c8b0 : ((IntKind.u64.wrap (t215 + 1)) == 0) = true := beq_iff_eq.mpr c8
     have c8b1 : ((IntKind.u64.wrap (t215 + 1)) != 0) = false := bne_eq_false_iff_eq.mpr c8
     clear c8
     simp only [Option.some.injEq, Prod.mk.injEq] at H
     obtain ⟨rfl, rfl⟩ := H
     go_wp2
     go_ret2
     exact ⟨by first | rfl | (simp [errW_none, errW_some] <;> rfl) | (simp [*, errW_none, errW_some] <;> rfl), by repeat (first | (with_reducible first | exact HB.out | apply below_alloc | apply pw_below_drewN | apply below_drew1) | exact HB.out)⟩
    ·
     rw [if_neg c8] at H
     have c8b0 : ((IntKind.u64.wrap (t215 + 1)) == 0) = false := beq_eq_false_iff_ne.mpr c8
     have c8b1 : ((IntKind.u64.wrap (t215 + 1)) != 0) = true := bne_iff_ne.mpr c8
     simp only [Option.some.injEq, Prod.mk.injEq] at H
     obtain ⟨rfl, rfl⟩ := H
     go_wp2
     go_ret2
     exact ⟨by first | rfl | (simp [errW_none, errW_some] <;> rfl) | (simp [*, errW_none, errW_some] <;> rfl), by repeat (first | (with_reducible first | exact HB.out | apply below_alloc | apply pw_below_drewN | apply below_drew1) | exact HB.out)⟩

/-! ### yield_Rate_Month: function 15 -/
def yield_Rate_Month.j0 : Nat → Int → Bool → Int → Int → Option (Int × Option Int)
 | 0, _, _, _, _ => none
 | k + 1, x1, x15, x220000, x220001 => if x15 = true then (some (0, some 1)) else ((span_Year.f 2).bind fun t222 => ((wide_Round.f k (IntKind.u64.wrap (x1)) (IntKind.u64.wrap ((IntKind.u64.wrap (x220000)) * 30)) (IntKind.u64.wrap (1000000 * (IntKind.u64.wrap (t222))))).bind fun bt223 => (some (wrap64 (bt223.1), bt223.2))))
def yield_Rate_Month.f (k : Nat) (a0_0 : Int) (a0_1 : Int) (a1 : Int) : Option (Int × Option Int) := (yield_Rate_Right.f a0_0 a0_1).bind fun t220 => (if t220 = true then ((coin_Coin_Right.f a1).bind fun t221 => (yield_Rate_Month.j0 k a1 (!t221) a0_0 a0_1)) else (yield_Rate_Month.j0 k a1 true a0_0 a0_1))
theorem yield_Rate_Month.mono_l : ∀ k, (∀ y0 y1 y2 y3, LeO (yield_Rate_Month.j0 k y0 y1 y2 y3) (yield_Rate_Month.j0 (k + 1) y0 y1 y2 y3))
 | 0 => fun _ _ _ _ r h => by simp [yield_Rate_Month.j0] at h
 | k + 1 => by
  have ih0 := yield_Rate_Month.mono_l k
  ·
   intro y0 y1 y2 y3
   unfold yield_Rate_Month.j0
   repeat' first
   | (with_reducible exact ih0 _ _ _ _)
   | (with_reducible exact wide_Round.mono _ _ _ _)
   | (with_reducible exact LeO.refl _)
   | (with_reducible exact LeO.none _)
   | (with_reducible refine LeO.ite ?_ ?_)
   | (with_reducible refine LeO.bind ?_ (fun _ => ?_))
   | exact ih0 _ _ _ _
   | exact wide_Round.mono _ _ _ _
   | exact LeO.none _
   | refine LeO.ite ?_ ?_
   | refine LeO.bind ?_ (fun _ => ?_)
theorem yield_Rate_Month.mono : ∀ a0 a1 a2 k, LeO (yield_Rate_Month.f k a0 a1 a2) (yield_Rate_Month.f (k + 1) a0 a1 a2) := by
 intro a0 a1 a2 k
 have ih0 := yield_Rate_Month.mono_l k
 unfold yield_Rate_Month.f
 repeat' first
   | (with_reducible exact ih0 _ _ _ _)
   | (with_reducible exact wide_Round.mono _ _ _ _)
   | (with_reducible exact LeO.refl _)
   | (with_reducible exact LeO.none _)
   | (with_reducible refine LeO.ite ?_ ?_)
   | (with_reducible refine LeO.bind ?_ (fun _ => ?_))
   | exact ih0 _ _ _ _
   | exact wide_Round.mono _ _ _ _
   | exact LeO.none _
   | refine LeO.ite ?_ ?_
   | refine LeO.bind ?_ (fun _ => ?_)
def yield_Rate_Month.T3 : Bool × List (List Nat × List Nat) := (true, [([], []), ([0], [0]), ([], []), ([2], [2]), ([3], [3]), ([4], [4]), ([], []), ([6], [6]), ([7], [7]), ([1, 5, 8, 6], [1, 5, 8]), ([9], [9]), ([10], [10]), ([10], [10]), ([11, 9, 0, 1, 2, 3, 4, 5, 6, 7, 8, 9, 10, 11], [11]), ([12, 13, 0, 1, 2, 3, 4, 5, 6, 7, 8, 9, 10, 11, 12, 13], [12])])
def yield_Rate_Month.B3 : List Nat := [0, 1, 0, 4, 12, 28, 0, 64, 192, 511, 1023, 2047, 2047, 4095, 16383]
theorem yield_Rate_Month.tab3 : rtab .any (opsOf Tryd.f15 3) = yield_Rate_Month.T3 := by kernel_rfl
theorem yield_Rate_Month.bits3 : waitsOk yield_Rate_Month.T3.2 yield_Rate_Month.B3 = true := by kernel_rfl
set_option maxHeartbeats 8000000 in
set_option maxRecDepth 100000 in
theorem yield_Rate_Month.calls (k : Nat) (a0_0 : Int) (a0_1 : Int) (a1 : Int) (r1 : Int) (r2 : Option Int) (w : World) (h : yield_Rate_Month.f k a0_0 a0_1 a1 = some (r1, r2)) :
  Calls Tryd.prog 15 #[.agg #[.int .u32 a0_0, .int .u8 a0_1], .int .i64 a1] w fun e w' => e = .returned (.tuple #[.int .i64 r1, errW r2]) ∧ Below w.heap.size w w' := by
 have hu24 := Tryd.underlying24
 have hu29 := Tryd.underlying29
 have hu38 := Tryd.underlying38
 have HB := Aside0.mk (Below.refl w.heap.size w)
 have H : ((yield_Rate_Right.f a0_0 a0_1).bind fun t220 => (if t220 = true then ((coin_Coin_Right.f a1).bind fun t221 => (yield_Rate_Month.j0 k a1 (!t221) a0_0 a0_1)) else (yield_Rate_Month.j0 k a1 true a0_0 a0_1))) = some (r1, r2) := h
 clear h
 have HC3 := Aside0.mk H
 clear H
 go_enter Tryd.func15, Tryd.ntmps15
 go_upto_region 1 with (first | ((with_reducible refine gate_dst (N := 2) rfl ?_); refine box_event ?hg (N := 2) ?hd (cs := #[.int .u32 a0_0, .int .u8 a0_1]) (t := 24) ?hr ?_; (case hd => rfl); (case hg => rfl); (case hr => first | (go_simp; done) | (go_simp; rfl)); intro gb219 hg w4 hbox hb; have n0_ := Aside0.mk (below_step (by repeat (first | (with_reducible first | exact HB.out | apply below_alloc | apply pw_below_drewN | apply below_drew1) | exact HB.out)) hb); have n1_ := Aside0.mk (hbox); have n2_ := Aside0.mk ((by rw [hg]; exact (below_size (by repeat (first | (with_reducible first | exact HB.out | apply below_alloc | apply pw_below_drewN | apply below_drew1) | exact HB.out))) : w.heap.size ≤ gb219)); have n3_ := Aside0.mk ((by rw [hg]; exact (below_size (by repeat (first | (with_reducible first | exact HB.out | apply below_alloc | apply pw_below_drewN | apply below_drew1) | exact HB.out))) : w.heap.size ≤ gb219)); clear HB; have HB := n0_; have BK219 := n1_; have GW219 := n2_; have GE219 := n3_; clear n0_ n1_ n2_ n3_; clear hb hbox hg))
 (try simp only [Act.put, List.setIfInBounds_toArray, List.set_cons_zero, List.set_cons_succ])
 go_cut [15] (fun v15 wc => ∃ (kq : Nat) (x15_2 : Bool), v15 = .bool x15_2 ∧ Aside0 (yield_Rate_Month.j0 kq a1 x15_2 a0_0 a0_1 = some (r1, r2)) ∧ Aside0 (kq ≤ k) ∧ Aside0 (wc.heap[gb219]? = some (.cells #[.int .u32 a0_0, .int .u8 a0_1] 24 (0, 0))) ∧ Aside0 (Below w.heap.size w wc))
 case first =>
  have H := HC3.out
  clear HC3
  replace H := Option.bind_eq_some_iff.mp H
  obtain ⟨t220, A50, H⟩ := H
  replace H : (if t220 = true then ((coin_Coin_Right.f a1).bind fun t221 => (yield_Rate_Month.j0 k a1 (!t221) a0_0 a0_1)) else (yield_Rate_Month.j0 k a1 true a0_0 a0_1)) = some (r1, r2) := H
  have A5 := Aside0.mk A50
  clear A50
  by_cases c6 : t220 = true
  ·
   subst c6
   have H1 : ((coin_Coin_Right.f a1).bind fun t221 => (yield_Rate_Month.j0 k a1 (!t221) a0_0 a0_1)) = some (r1, r2) := by rw [if_pos rfl] at H; exact H
   clear H
   have H := H1
   clear H1
   replace H := Option.bind_eq_some_iff.mp H
   obtain ⟨t221, A70, H⟩ := H
   replace H : (yield_Rate_Month.j0 k a1 (!t221) a0_0 a0_1) = some (r1, r2) := H
   have A7 := Aside0.mk A70
   clear A70
   have H' := Aside0.mk H
   clear H
   have hcz8_0 : w4.cell? ⟨gb219, 0, none⟩ = some (.int .u32 a0_0) := (blk_cell BK219.out 0).trans rfl
   have hcz8_1 : w4.cell? ⟨gb219, 1, none⟩ = some (.int .u8 a0_1) := (blk_cell BK219.out 1).trans rfl
   have hfz8_0 := blk_frozen BK219.out 0
   have hfz8_1 := blk_frozen BK219.out 1
   go_wp2_with (first | ((with_reducible refine gate_callee (f := 10) rfl ?_); refine goesL_ (some 9) rfl rfl Tryd.func10 (by kernel_rfl) rfl #[.agg #[.int .u32 a0_0, .int .u8 a0_1]] rfl (by (try simp only [List.map_toArray, List.map_cons, List.map_nil]); first | done | rfl | (simp only [List.length_drop, List.length_take]; rfl)) ?_; (with_reducible refine (yield_Rate_Right.calls a0_0 a0_1 true _ A5.out).mono ?_); rintro e w9 ⟨rfl, hb⟩; refine ⟨_, rfl, ?_⟩; have n0_ := Aside0.mk (blk_below (g := gb219) (o := .cells #[.int .u32 a0_0, .int .u8 a0_1] 24 (0, 0)) (by (with_reducible repeat (first | refine blk_drewN ?_ _ | refine blk_drew ?_ | refine blk_alloc ?_ _)); exact BK219.out) hb); have n1_ := Aside0.mk (below_step (by repeat (first | (with_reducible first | exact HB.out | apply below_alloc | apply pw_below_drewN | apply below_drew1 | refine below_set ?_ GE219.out) | exact HB.out)) hb); clear BK219; clear HB; have BK219 := n0_; have HB := n1_; clear n0_ n1_; (try clear hb); (try clear hb2); (try clear hk); (try clear hi)) | (go_at_call 18; (with_reducible refine (coin_Coin_Right.calls a1 t221 _ A7.out).mono ?_); rintro e w' ⟨rfl, ⟨nd, rfl⟩⟩))
   go_meet
   case rel => exact ⟨_, (!t221), (by first | rfl | (simp; done) | (simp [*]; done)), H', ⟨by first | omega | exact Nat.le_refl _⟩, ⟨by (with_reducible repeat (first | refine blk_drewN ?_ _ | refine blk_drew ?_ | refine blk_alloc ?_ _)); exact BK219.out⟩, ⟨by repeat (first | (with_reducible first | exact HB.out | apply below_alloc | apply pw_below_drewN | apply below_drew1 | refine below_set ?_ GE219.out) | exact HB.out)⟩⟩
  ·
   replace c6 := Bool.eq_false_iff.mpr c6
   subst c6
   have H1 : (yield_Rate_Month.j0 k a1 true a0_0 a0_1) = some (r1, r2) := by rw [if_neg (show ¬ (false = true) by decide)] at H; exact H
   clear H
   have H := H1
   clear H1
   have H' := Aside0.mk H
   clear H
   have hcz10_0 : w4.cell? ⟨gb219, 0, none⟩ = some (.int .u32 a0_0) := (blk_cell BK219.out 0).trans rfl
   have hcz10_1 : w4.cell? ⟨gb219, 1, none⟩ = some (.int .u8 a0_1) := (blk_cell BK219.out 1).trans rfl
   have hfz10_0 := blk_frozen BK219.out 0
   have hfz10_1 := blk_frozen BK219.out 1
   go_wp2_with (first | ((with_reducible refine gate_callee (f := 10) rfl ?_); refine goesL_ (some 9) rfl rfl Tryd.func10 (by kernel_rfl) rfl #[.agg #[.int .u32 a0_0, .int .u8 a0_1]] rfl (by (try simp only [List.map_toArray, List.map_cons, List.map_nil]); first | done | rfl | (simp only [List.length_drop, List.length_take]; rfl)) ?_; (with_reducible refine (yield_Rate_Right.calls a0_0 a0_1 false _ A5.out).mono ?_); rintro e w11 ⟨rfl, hb⟩; refine ⟨_, rfl, ?_⟩; have n0_ := Aside0.mk (blk_below (g := gb219) (o := .cells #[.int .u32 a0_0, .int .u8 a0_1] 24 (0, 0)) (by (with_reducible repeat (first | refine blk_drewN ?_ _ | refine blk_drew ?_ | refine blk_alloc ?_ _)); exact BK219.out) hb); have n1_ := Aside0.mk (below_step (by repeat (first | (with_reducible first | exact HB.out | apply below_alloc | apply pw_below_drewN | apply below_drew1 | refine below_set ?_ GE219.out) | exact HB.out)) hb); clear BK219; clear HB; have BK219 := n0_; have HB := n1_; clear n0_ n1_; (try clear hb); (try clear hb2); (try clear hk); (try clear hi)))
   go_meet
   case rel => exact ⟨_, (true), (by first | rfl | (simp; done) | (simp [*]; done)), H', ⟨by first | omega | exact Nat.le_refl _⟩, ⟨by (with_reducible repeat (first | refine blk_drewN ?_ _ | refine blk_drew ?_ | refine blk_alloc ?_ _)); exact BK219.out⟩, ⟨by repeat (first | (with_reducible first | exact HB.out | apply below_alloc | apply pw_below_drewN | apply below_drew1 | refine below_set ?_ GE219.out) | exact HB.out)⟩⟩
 case rest =>
  clear HC3
  try clear c1
  try clear p2
  try clear c6
  try clear c10
  try clear hcz10_0
  try clear hcz10_1
  try clear hcz8_0
  try clear hcz8_1
  try clear hfz10_0
  try clear hfz10_1
  try clear hfz8_0
  try clear hfz8_1
  obtain ⟨kq, x15_2, rfl, HA, HJ2, BK219, HB⟩ := hcut
  cases kq with
  | zero => exact absurd HA.out (by simp [yield_Rate_Month.j0])
  | succ kj2 =>
   have H := HA.out
   clear HA
   simp only [yield_Rate_Month.j0] at H
   by_cases c12 : x15_2 = true
   ·
    subst c12
    have H1 : (some (0, some 1)) = some (r1, r2) := by rw [if_pos rfl] at H; exact H
    clear H
    have H := H1
    clear H1
    simp only [Option.some.injEq, Prod.mk.injEq] at H
    obtain ⟨rfl, rfl⟩ := H
    go_wp2
    go_ret2
    exact ⟨by first | rfl | (simp [errW_none, errW_some] <;> rfl) | (simp [*, errW_none, errW_some] <;> rfl), by repeat (first | (with_reducible first | exact HB.out | apply below_alloc | apply pw_below_drewN | apply below_drew1 | refine below_set ?_ GE219.out) | exact HB.out)⟩
   ·
    replace c12 := Bool.eq_false_iff.mpr c12
    subst c12
    have H1 : ((span_Year.f 2).bind fun t222 => ((wide_Round.f kj2 (IntKind.u64.wrap (a1)) (IntKind.u64.wrap ((IntKind.u64.wrap (a0_0)) * 30)) (IntKind.u64.wrap (1000000 * (IntKind.u64.wrap (t222))))).bind fun bt223 => (some (wrap64 (bt223.1), bt223.2)))) = some (r1, r2) := by rw [if_neg (show ¬ (false = true) by decide)] at H; exact H
    clear H
    have H := H1
    clear H1
    replace H := Option.bind_eq_some_iff.mp H
    obtain ⟨t222, A130, H⟩ := H
    replace H : ((wide_Round.f kj2 (IntKind.u64.wrap (a1)) (IntKind.u64.wrap ((IntKind.u64.wrap (a0_0)) * 30)) (IntKind.u64.wrap (1000000 * (IntKind.u64.wrap (t222))))).bind fun bt223 => (some (wrap64 (bt223.1), bt223.2))) = some (r1, r2) := H
    have A13 := Aside0.mk A130
    clear A130
    replace H := Option.bind_eq_some_iff.mp H
    obtain ⟨⟨t223, t224⟩, A140, H⟩ := H
    replace H : (some (wrap64 (t223), t224)) = some (r1, r2) := H
    have A14 := Aside0.mk A140
    clear A140
    simp only [Option.some.injEq, Prod.mk.injEq] at H
    obtain ⟨rfl, rfl⟩ := H
    try go_wp2
    have n0_ := Aside0.mk (blk_drew BK219.out)
    have n1_ := Aside0.mk (below_drew1 HB.out)
    clear BK219
    clear HB
    have BK219 := n0_
    have HB := n1_
    clear n0_ n1_
    refine start_ (n := 15) (S := fun w' => w'.cell? ⟨gb219, 0, none⟩ = some (.int .u32 a0_0) ∧ w'.cell? ⟨gb219, 1, none⟩ = some (.int .u8 a0_1)) (ds := []) #[false, false, false, false, false, false, false, false, false, false, false, false, false, false, false] (by kernel_rfl) rfl rfl ⟨(blk_cell BK219.out 0).trans rfl, (blk_cell BK219.out 1).trans rfl⟩ (fun hHeld => ?_); refine with_tabW yield_Rate_Month.tab3 yield_Rate_Month.bits3 (fun HT_ HW_ => ?_)
    generalize wc.drew = w15 at BK219 HB hHeld ⊢
    refine pure_ (i := 0) (N := some 18) (v := ?_) (a' := ?_) #[true, false, false, false, false, false, false, false, false, false, false, false, false, false, false] rfl rfl (any_of HT_.out (by kernel_rfl)) (fun _ _ _ h => h) (Or.inl ⟨by rfl, ?_⟩) ?_ ?_
    rotate_left
    ·
     intro w'
     go_simp
     with_reducible rfl
    rotate_left
    ·
     simp only [Act.put, List.setIfInBounds_toArray, List.set_cons_zero, List.set_cons_succ, i64_w, i32_w]
     rfl
    refine pure_ (i := 1) (N := some 19) (v := ?_) (a' := ?_) #[true, true, false, false, false, false, false, false, false, false, false, false, false, false, false] rfl rfl (any_of HT_.out (by kernel_rfl)) (fun _ _ _ h => h) (Or.inl ⟨by rfl, ?_⟩) ?_ ?_
    rotate_left
    ·
     intro w'
     go_simp
     with_reducible rfl
    rotate_left
    ·
     simp only [Act.put, List.setIfInBounds_toArray, List.set_cons_zero, List.set_cons_succ, i64_w, i32_w]
     rfl
    refine pure_ (i := 2) (N := some 20) (v := ?_) (a' := ?_) #[true, true, true, false, false, false, false, false, false, false, false, false, false, false, false] rfl rfl (any_of HT_.out (by kernel_rfl)) (fun _ _ _ h => h) (Or.inl ⟨by rfl, ?_⟩) ?_ ?_
    rotate_left
    ·
     intro w'
     go_simp
     with_reducible rfl
    rotate_left
    ·
     simp only [Act.put, List.setIfInBounds_toArray, List.set_cons_zero, List.set_cons_succ, i64_w, i32_w]
     rfl
    refine take_ (i := 3) (N := some 21) (v := ?_) (a' := ?_) #[true, true, true, true, false, false, false, false, false, false, false, false, false, false, false] rfl rfl (take_ofW HT_.out HW_.out (by kernel_rfl)) (fun _ _ _ h => h) (Or.inl ⟨by rfl, ?_⟩) hHeld ?_ ?_
    rotate_left
    ·
     rintro w' ⟨s0, s1⟩
     go_simp
     with_reducible rfl
    rotate_left
    ·
     simp only [Act.put, List.setIfInBounds_toArray, List.set_cons_zero, List.set_cons_succ, i64_w, i32_w]
     rfl
    refine pure_ (i := 4) (N := some 22) (v := ?_) (a' := ?_) #[true, true, true, true, true, false, false, false, false, false, false, false, false, false, false] rfl rfl (any_of HT_.out (by kernel_rfl)) (fun _ _ _ h => h) (Or.inl ⟨by rfl, ?_⟩) ?_ ?_
    rotate_left
    ·
     intro w'
     go_simp
     with_reducible rfl
    rotate_left
    ·
     simp only [Act.put, List.setIfInBounds_toArray, List.set_cons_zero, List.set_cons_succ, i64_w, i32_w]
     rfl
    refine pure_ (i := 5) (N := some 23) (v := ?_) (a' := ?_) #[true, true, true, true, true, true, false, false, false, false, false, false, false, false, false] rfl rfl (any_of HT_.out (by kernel_rfl)) (fun _ _ _ h => h) (Or.inl ⟨by rfl, ?_⟩) ?_ ?_
    rotate_left
    ·
     intro w'
     go_simp
     with_reducible rfl
    rotate_left
    ·
     simp only [Act.put, List.setIfInBounds_toArray, List.set_cons_zero, List.set_cons_succ, i64_w, i32_w]
     rfl
    refine one_ (i := 6) (N := some 24) #[true, true, true, true, true, true, true, false, false, false, false, false, false, false, false] rfl rfl (one_of HT_.out (by kernel_rfl)) (by decide) (fun K hK => ?_)
    refine goes_ Tryd.func23 (by kernel_rfl) rfl #[.int .u8 2] (by rfl) rfl rfl (by (try simp only [List.map_toArray, List.map_cons, List.map_nil]); first | done | rfl | (simp only [List.length_drop, List.length_take]; rfl)) ?_
    with_reducible refine (span_Year.calls 2 t222 _ A13.out).mono ?_
    rintro e w' ⟨rfl, ⟨nd, rfl⟩⟩
    refine ⟨_, rfl, ?_⟩
    refine hK.out _ _ ⟨(blk_cell BK219.out 0).trans rfl, (blk_cell BK219.out 1).trans rfl⟩ (fun hHeld => ?_)
    clear hK K
    refine norm_ (a' := ?_) ?_ ?_
    rotate_left
    ·
     show Act.put _ (some 24) _ = _
     simp only [Act.put, List.setIfInBounds_toArray, List.set_cons_zero, List.set_cons_succ, i64_w, i32_w]
     rfl
    refine pure_ (i := 7) (N := some 25) (v := ?_) (a' := ?_) #[true, true, true, true, true, true, true, true, false, false, false, false, false, false, false] rfl rfl (any_of HT_.out (by kernel_rfl)) (fun _ _ _ h => h) (Or.inl ⟨by rfl, ?_⟩) ?_ ?_
    rotate_left
    ·
     intro w'
     go_simp
     with_reducible rfl
    rotate_left
    ·
     simp only [Act.put, List.setIfInBounds_toArray, List.set_cons_zero, List.set_cons_succ, i64_w, i32_w]
     rfl
    refine pure_ (i := 8) (N := some 26) (v := ?_) (a' := ?_) #[true, true, true, true, true, true, true, true, true, false, false, false, false, false, false] rfl rfl (any_of HT_.out (by kernel_rfl)) (fun _ _ _ h => h) (Or.inl ⟨by rfl, ?_⟩) ?_ ?_
    rotate_left
    ·
     intro w'
     go_simp
     with_reducible rfl
    rotate_left
    ·
     simp only [Act.put, List.setIfInBounds_toArray, List.set_cons_zero, List.set_cons_succ, i64_w, i32_w]
     rfl
    refine one_ (i := 9) (N := some 27) #[true, true, true, true, true, true, true, true, true, true, false, false, false, false, false] rfl rfl (one_of HT_.out (by kernel_rfl)) (by decide) (fun K hK => ?_)
    refine goes_ Tryd.func31 (by kernel_rfl) rfl #[.int .u64 (IntKind.u64.wrap (a1)), .int .u64 (IntKind.u64.wrap ((IntKind.u64.wrap (a0_0)) * 30)), .int .u64 (IntKind.u64.wrap (1000000 * (IntKind.u64.wrap (t222))))] (by rfl) rfl rfl (by (try simp only [List.map_toArray, List.map_cons, List.map_nil]); first | done | rfl | (simp only [List.length_drop, List.length_take]; rfl)) ?_
    with_reducible refine (wide_Round.calls kj2 (IntKind.u64.wrap (a1)) (IntKind.u64.wrap ((IntKind.u64.wrap (a0_0)) * 30)) (IntKind.u64.wrap (1000000 * (IntKind.u64.wrap (t222)))) t223 t224 _ A14.out).mono ?_
    rintro e w16 ⟨rfl, hb⟩
    refine ⟨_, rfl, ?_⟩
    have n0_ := Aside0.mk (blk_below (g := gb219) (o := .cells #[.int .u32 a0_0, .int .u8 a0_1] 24 (0, 0)) (by (with_reducible repeat (first | refine blk_drewN ?_ _ | refine blk_drew ?_ | refine blk_alloc ?_ _)); exact BK219.out) hb)
    have n1_ := Aside0.mk (below_step (by repeat (first | (with_reducible first | exact HB.out | apply below_alloc | apply pw_below_drewN | apply below_drew1 | refine below_set ?_ GE219.out) | exact HB.out)) hb)
    clear BK219
    clear HB
    have BK219 := n0_
    have HB := n1_
    clear n0_ n1_
    (try clear hb)
    (try clear hb2)
    (try clear hk)
    (try clear hi)
    (try simp only [errW_none, errW_some])
    refine hK.out _ _ ⟨(blk_cell BK219.out 0).trans rfl, (blk_cell BK219.out 1).trans rfl⟩ (fun hHeld => ?_)
    clear hK K
    refine norm_ (a' := ?_) ?_ ?_
    rotate_left
    ·
     show Act.put _ (some 27) _ = _
     simp only [Act.put, List.setIfInBounds_toArray, List.set_cons_zero, List.set_cons_succ, i64_w, i32_w]
     rfl
    refine pure_ (i := 10) (N := some 17) (v := ?_) (a' := ?_) #[true, true, true, true, true, true, true, true, true, true, true, false, false, false, false] rfl rfl (any_of HT_.out (by kernel_rfl)) (fun _ _ _ h => h) (Or.inl ⟨by rfl, ?_⟩) ?_ ?_
    rotate_left
    ·
     intro w'
     go_simp
     with_reducible rfl
    rotate_left
    ·
     simp only [Act.put, List.setIfInBounds_toArray, List.set_cons_zero, List.set_cons_succ, i64_w, i32_w]
     rfl
    refine pure_ (i := 11) (N := some 28) (v := ?_) (a' := ?_) #[true, true, true, true, true, true, true, true, true, true, true, true, false, false, false] rfl rfl (any_of HT_.out (by kernel_rfl)) (fun _ _ _ h => h) (Or.inl ⟨by rfl, ?_⟩) ?_ ?_
    rotate_left
    ·
     intro w'
     go_simp
     with_reducible rfl
    rotate_left
    ·
     simp only [Act.put, List.setIfInBounds_toArray, List.set_cons_zero, List.set_cons_succ, i64_w, i32_w]
     rfl
    refine pure_ (i := 12) (N := some 29) (v := ?_) (a' := ?_) #[true, true, true, true, true, true, true, true, true, true, true, true, true, false, false] rfl rfl (any_of HT_.out (by kernel_rfl)) (fun _ _ _ h => h) (Or.inl ⟨by rfl, ?_⟩) ?_ ?_
    rotate_left
    ·
     intro w'
     go_simp
     with_reducible rfl
    rotate_left
    ·
     simp only [Act.put, List.setIfInBounds_toArray, List.set_cons_zero, List.set_cons_succ, i64_w, i32_w]
     rfl
    refine pure_ (i := 13) (N := some 6) (v := ?_) (a' := ?_) #[true, true, true, true, true, true, true, true, true, true, true, true, true, true, false] rfl rfl (any_of HT_.out (by kernel_rfl)) (fun _ _ _ h => h) (Or.inl ⟨by rfl, ?_⟩) ?_ ?_
    rotate_left
    ·
     intro w'
     go_simp
     with_reducible rfl
    rotate_left
    ·
     simp only [Act.put, List.setIfInBounds_toArray, List.set_cons_zero, List.set_cons_succ, i64_w, i32_w]
     rfl
    refine pure_ (i := 14) (N := some 7) (v := ?_) (a' := ?_) #[true, true, true, true, true, true, true, true, true, true, true, true, true, true, true] rfl rfl (any_of HT_.out (by kernel_rfl)) (fun _ _ _ h => h) (Or.inl ⟨by rfl, ?_⟩) ?_ ?_
    rotate_left
    ·
     intro w'
     go_simp
     with_reducible rfl
    rotate_left
    ·
     simp only [Act.put, List.setIfInBounds_toArray, List.set_cons_zero, List.set_cons_succ, i64_w, i32_w]
     rfl
    refine done_ (done_of HT_.out (by kernel_rfl)) ?_
    (try simp only [errW_none, errW_some])
    try go_wp2
    go_ret2
    exact ⟨by first | rfl | (simp [errW_none, errW_some] <;> rfl) | (simp [*, errW_none, errW_some] <;> rfl), by repeat (first | (with_reducible first | exact HB.out | apply below_alloc | apply pw_below_drewN | apply below_drew1 | refine below_set ?_ GE219.out) | exact HB.out)⟩

/-! ### arrearsref03_Of: function 27 -/
def arrearsref03_Of.f (a0 : Int) (a1 : Int) : Option (Int × Int × Int × Int × Int × Int × Int × Int) :=
 if (0 ≤ a0 ∧ a0 ≤ 18446744073709551615) ∧ (0 ≤ a1 ∧ a1 ≤ 18446744073709551615) then some (a1 % 65536, a1 / 65536 % 65536, a1 / 65536 / 65536 % 65536, a1 / 65536 / 65536 / 65536 % 65536, a0 % 65536, a0 / 65536 % 65536, a0 / 65536 / 65536 % 65536, a0 / 65536 / 65536 / 65536 % 65536) else none
set_option maxHeartbeats 4000000 in
theorem of_ok (a0 a1 : Int) (h0 : 0 ≤ a0 ∧ a0 ≤ 18446744073709551615) (h1 : 0 ≤ a1 ∧ a1 ≤ 18446744073709551615) (w : World) :
  Calls Tryd.prog 27 #[.int .u64 a0, .int .u64 a1] w fun e w' => e = .returned (.agg #[.int .u32 (a1 % 65536), .int .u32 (a1 / 65536 % 65536), .int .u32 (a1 / 65536 / 65536 % 65536), .int .u32 (a1 / 65536 / 65536 / 65536 % 65536), .int .u32 (a0 % 65536), .int .u32 (a0 / 65536 % 65536), .int .u32 (a0 / 65536 / 65536 % 65536), .int .u32 (a0 / 65536 / 65536 / 65536 % 65536)]) ∧ Below w.heap.size w w' := by
 go_enter Tryd.func27, Tryd.ntmps27
 go_wp2_with (first | ((with_reducible refine gate_dst (N := 4) rfl ?_); (try (refine gate_guard (by rfl) ?_; dsimp only)); refine box_event ?hg (N := 4) ?hd (cs := #[.int .u32 0, .int .u32 0, .int .u32 0, .int .u32 0, .int .u32 0, .int .u32 0, .int .u32 0, .int .u32 0]) (t := 61) ?hr ?_; (case hd => rfl); (case hg => rfl); (case hr => first | (go_simp; done) | (go_simp; rfl)); intro gb4 hg w4 hbox hb; have BK4 := Aside0.mk hbox; have GB4 := Aside0.mk hb; have HG4 := Aside0.mk (show w.heap.size ≤ gb4 from Nat.le_of_eq hg.symm); clear hbox hb hg) | ((with_reducible refine gate_dst (N := 5) rfl ?_); (try (refine gate_guard (by rfl) ?_; dsimp only)); refine box_event ?hg (N := 5) ?hd (cs := #[.int .u32 0, .int .u32 0, .int .u32 0, .int .u32 0, .int .u32 0, .int .u32 0, .int .u32 0, .int .u32 0]) (t := 61) ?hr ?_; (case hd => rfl); (case hg => rfl); (case hr => first | (go_simp; done) | (go_simp; rfl)); intro gb5 hg w5 hbox hb; have n0_ := Aside0.mk (blk_below BK4.out hb); have n1_ := Aside0.mk (below_step GB4.out hb); have NB := Aside0.mk (by rw [hg]; exact Nat.ne_of_lt (blk_lt BK4.out) : gb4 ≠ gb5); have HG5 := Aside0.mk (Nat.le_trans (below_size GB4.out) (Nat.le_of_eq hg.symm) : w.heap.size ≤ gb5); have BK5 := Aside0.mk hbox; clear BK4 GB4; have BK4 := n0_; have HB := n1_; clear n0_ n1_ hbox hb hg))
 have e5 := BK5.out
 have hc0 : w5.cell? ⟨gb5, 0, none⟩ = some (.int .u32 0) := (blk_cell e5 0).trans rfl
 have hf0 := blk_frozen e5 0
 have hc1 : w5.cell? ⟨gb5, 1, none⟩ = some (.int .u32 0) := (blk_cell e5 1).trans rfl
 have hf1 := blk_frozen e5 1
 have hc2 : w5.cell? ⟨gb5, 2, none⟩ = some (.int .u32 0) := (blk_cell e5 2).trans rfl
 have hf2 := blk_frozen e5 2
 have hc3 : w5.cell? ⟨gb5, 3, none⟩ = some (.int .u32 0) := (blk_cell e5 3).trans rfl
 have hf3 := blk_frozen e5 3
 have hc4 : w5.cell? ⟨gb5, 4, none⟩ = some (.int .u32 0) := (blk_cell e5 4).trans rfl
 have hf4 := blk_frozen e5 4
 have hc5 : w5.cell? ⟨gb5, 5, none⟩ = some (.int .u32 0) := (blk_cell e5 5).trans rfl
 have hf5 := blk_frozen e5 5
 have hc6 : w5.cell? ⟨gb5, 6, none⟩ = some (.int .u32 0) := (blk_cell e5 6).trans rfl
 have hf6 := blk_frozen e5 6
 have hc7 : w5.cell? ⟨gb5, 7, none⟩ = some (.int .u32 0) := (blk_cell e5 7).trans rfl
 have hf7 := blk_frozen e5 7
 have hd0 : w5.cell? ⟨gb4, 0, none⟩ = some (.int .u32 0) := (blk_cell BK4.out 0).trans rfl
 have hg0 := blk_frozen BK4.out 0
 have hd1 : w5.cell? ⟨gb4, 1, none⟩ = some (.int .u32 0) := (blk_cell BK4.out 1).trans rfl
 have hg1 := blk_frozen BK4.out 1
 have hd2 : w5.cell? ⟨gb4, 2, none⟩ = some (.int .u32 0) := (blk_cell BK4.out 2).trans rfl
 have hg2 := blk_frozen BK4.out 2
 have hd3 : w5.cell? ⟨gb4, 3, none⟩ = some (.int .u32 0) := (blk_cell BK4.out 3).trans rfl
 have hg3 := blk_frozen BK4.out 3
 have hd4 : w5.cell? ⟨gb4, 4, none⟩ = some (.int .u32 0) := (blk_cell BK4.out 4).trans rfl
 have hg4 := blk_frozen BK4.out 4
 have hd5 : w5.cell? ⟨gb4, 5, none⟩ = some (.int .u32 0) := (blk_cell BK4.out 5).trans rfl
 have hg5 := blk_frozen BK4.out 5
 have hd6 : w5.cell? ⟨gb4, 6, none⟩ = some (.int .u32 0) := (blk_cell BK4.out 6).trans rfl
 have hg6 := blk_frozen BK4.out 6
 have hd7 : w5.cell? ⟨gb4, 7, none⟩ = some (.int .u32 0) := (blk_cell BK4.out 7).trans rfl
 have hg7 := blk_frozen BK4.out 7
 have nb := NB.out
 have nb' := Ne.symm NB.out
 clear e5
 refine wp_loop_rounds 5 ?_
 rw [rounds_succ]
 go_wp2
 rw [rounds_succ]
 go_wp2
 rw [rounds_succ]
 go_wp2
 rw [rounds_succ]
 go_wp2
 rw [rounds_succ]
 go_wp2
 refine bodyPost_ret (v := .agg #[.int .u32 (a1 % 65536), .int .u32 (a1 / 65536 % 65536), .int .u32 (a1 / 65536 / 65536 % 65536), .int .u32 (a1 / 65536 / 65536 / 65536 % 65536), .int .u32 (a0 % 65536), .int .u32 (a0 / 65536 % 65536), .int .u32 (a0 / 65536 / 65536 % 65536), .int .u32 (a0 / 65536 / 65536 / 65536 % 65536)]) (results_single (r := .cell 4 61) rfl (.cell gb4 61 #[.int .u32 (a1 % 65536), .int .u32 (a1 / 65536 % 65536), .int .u32 (a1 / 65536 / 65536 % 65536), .int .u32 (a1 / 65536 / 65536 / 65536 % 65536), .int .u32 (a0 % 65536), .int .u32 (a0 / 65536 % 65536), .int .u32 (a0 / 65536 / 65536 % 65536), .int .u32 (a0 / 65536 / 65536 / 65536 % 65536)] (0, 0) _ rfl ?hg Tryd.underlying61 rfl (by kernel_rfl) .nil)) rfl ⟨rfl, ?_⟩
 case hg =>
  refine blk_put (cs := #[.int .u32 (a1 % 65536), .int .u32 (a1 / 65536 % 65536), .int .u32 (a1 / 65536 / 65536 % 65536), .int .u32 (a1 / 65536 / 65536 / 65536 % 65536), .int .u32 (a0 % 65536), .int .u32 (a0 / 65536 % 65536), .int .u32 (a0 / 65536 / 65536 % 65536), .int .u32 0]) ?_ 7 _ rfl
  refine blk_put (cs := #[.int .u32 (a1 % 65536), .int .u32 (a1 / 65536 % 65536), .int .u32 (a1 / 65536 / 65536 % 65536), .int .u32 (a1 / 65536 / 65536 / 65536 % 65536), .int .u32 (a0 % 65536), .int .u32 (a0 / 65536 % 65536), .int .u32 0, .int .u32 0]) ?_ 6 _ rfl
  refine blk_put (cs := #[.int .u32 (a1 % 65536), .int .u32 (a1 / 65536 % 65536), .int .u32 (a1 / 65536 / 65536 % 65536), .int .u32 (a1 / 65536 / 65536 / 65536 % 65536), .int .u32 (a0 % 65536), .int .u32 0, .int .u32 0, .int .u32 0]) ?_ 5 _ rfl
  refine blk_put (cs := #[.int .u32 (a1 % 65536), .int .u32 (a1 / 65536 % 65536), .int .u32 (a1 / 65536 / 65536 % 65536), .int .u32 (a1 / 65536 / 65536 / 65536 % 65536), .int .u32 0, .int .u32 0, .int .u32 0, .int .u32 0]) ?_ 4 _ rfl
  refine blk_put (cs := #[.int .u32 (a1 % 65536), .int .u32 (a1 / 65536 % 65536), .int .u32 (a1 / 65536 / 65536 % 65536), .int .u32 0, .int .u32 0, .int .u32 0, .int .u32 0, .int .u32 0]) ?_ 3 _ rfl
  refine blk_put (cs := #[.int .u32 (a1 % 65536), .int .u32 (a1 / 65536 % 65536), .int .u32 0, .int .u32 0, .int .u32 0, .int .u32 0, .int .u32 0, .int .u32 0]) ?_ 2 _ rfl
  refine blk_put (cs := #[.int .u32 (a1 % 65536), .int .u32 0, .int .u32 0, .int .u32 0, .int .u32 0, .int .u32 0, .int .u32 0, .int .u32 0]) ?_ 1 _ rfl
  refine blk_put (cs := #[.int .u32 0, .int .u32 0, .int .u32 0, .int .u32 0, .int .u32 0, .int .u32 0, .int .u32 0, .int .u32 0]) ?_ 0 _ rfl
  refine blk_far ?_ NB.out _
  refine blk_far ?_ NB.out _
  refine blk_far ?_ NB.out _
  refine blk_far ?_ NB.out _
  refine blk_far ?_ NB.out _
  refine blk_far ?_ NB.out _
  refine blk_far ?_ NB.out _
  refine blk_far ?_ NB.out _
  exact BK4.out
 refine below_set ?_ HG4.out
 refine below_set ?_ HG4.out
 refine below_set ?_ HG4.out
 refine below_set ?_ HG4.out
 refine below_set ?_ HG4.out
 refine below_set ?_ HG4.out
 refine below_set ?_ HG4.out
 refine below_set ?_ HG4.out
 refine below_set ?_ HG5.out
 refine below_set ?_ HG5.out
 refine below_set ?_ HG5.out
 refine below_set ?_ HG5.out
 refine below_set ?_ HG5.out
 refine below_set ?_ HG5.out
 refine below_set ?_ HG5.out
 refine below_set ?_ HG5.out
 exact HB.out
theorem arrearsref03_Of.calls (a0 : Int) (a1 : Int) (r1 : Int) (r2 : Int) (r3 : Int) (r4 : Int) (r5 : Int) (r6 : Int) (r7 : Int) (r8 : Int) (w : World) (h : arrearsref03_Of.f a0 a1 = some (r1, r2, r3, r4, r5, r6, r7, r8)) :
  Calls Tryd.prog 27 #[.int .u64 a0, .int .u64 a1] w fun e w' => e = .returned (.agg #[.int .u32 r1, .int .u32 r2, .int .u32 r3, .int .u32 r4, .int .u32 r5, .int .u32 r6, .int .u32 r7, .int .u32 r8]) ∧ Below w.heap.size w w' := by
 unfold arrearsref03_Of.f at h
 split at h
 ·
  rename_i hb
  simp only [Option.some.injEq, Prod.mk.injEq] at h
  obtain ⟨rfl, rfl, rfl, rfl, rfl, rfl, rfl, rfl⟩ := h
  exact of_ok _ _ hb.1 hb.2 w
 ·
  exact absurd h (by simp)


end Go.Proofs.YtldicnmpegkicaaDoor.PYieldDays
