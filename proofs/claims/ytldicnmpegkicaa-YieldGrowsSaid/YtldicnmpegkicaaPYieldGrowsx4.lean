-- Printed by a wrapper of this session's round the kit's print.py; Lean checks it.
import Derived.Test.YtldicnmpegkicaaPYieldGrowsx0
import Derived.Test.YtldicnmpegkicaaPYieldGrowsx3
namespace Go.Proofs.Ytldicnmpegkicaa.PYieldGrows
open Go.RowKit Go.Proofs.YtldicnmpegkicaaW.PrintWords Go.Proofs.YtldicnmpegkicaaW.PrintLast Go.Proofs.YtldicnmpegkicaaW.PrintMore
attribute [local go_sem] max2_int min2_int max_two min_two max_three min_three max_four min_four   -- for this text's walks alone
set_option linter.unusedVariables false
set_option linter.unusedSimpArgs false

/-! ### arrearslaw09_awake: function 6 -/
def arrearslaw09_awake.f (k : Nat)  : Option (Bool) := (yield_Rate_Days.f k 365000 1 10000 1 0).bind fun bt141 => (if bt141.1 = 10 then (if bt141.2.1 = 0 then (if bt141.2.2.isNone = true then (some true) else (some false)) else (some false)) else (some false))
theorem arrearslaw09_awake.mono : ∀ k, LeO (arrearslaw09_awake.f k ) (arrearslaw09_awake.f (k + 1) ) := by
  intro  k
  unfold arrearslaw09_awake.f
  repeat' first
      | (with_reducible exact yield_Rate_Days.mono _ _ _ _ _ _)
      | (with_reducible exact LeO.refl _)
      | (with_reducible exact LeO.none _)
      | (with_reducible refine LeO.ite ?_ ?_)
      | (with_reducible refine LeO.bind ?_ (fun _ => ?_))
      | exact yield_Rate_Days.mono _ _ _ _ _ _
      | exact LeO.none _
      | refine LeO.ite ?_ ?_
      | refine LeO.bind ?_ (fun _ => ?_)
set_option maxHeartbeats 8000000 in
set_option maxRecDepth 100000 in
theorem arrearslaw09_awake.calls (k : Nat)  (r : Bool) (w : World) (h : arrearslaw09_awake.f k  = some r) :
    Calls Try.prog 6 #[] w fun e w' => e = .returned (.bool r) ∧ Below w.heap.size w w' := by
  have hu24 := Try.underlying24
  have hu32 := Try.underlying32
  have hu43 := Try.underlying43
  have HB := Aside0.mk (Below.refl w.heap.size w)
  have H : ((yield_Rate_Days.f k 365000 1 10000 1 0).bind fun bt141 => (if bt141.1 = 10 then (if bt141.2.1 = 0 then (if bt141.2.2.isNone = true then (some true) else (some false)) else (some false)) else (some false))) = some r := h
  clear h
  replace H := Option.bind_eq_some_iff.mp H
  obtain ⟨⟨t141, t142, t143⟩, A10, H⟩ := H
  replace H : (if t141 = 10 then (if t142 = 0 then (if t143.isNone = true then (some true) else (some false)) else (some false)) else (some false)) = some r := H
  have A1 := Aside0.mk A10
  clear A10
  by_cases c2 : t141 = 10
  · rw [if_pos c2] at H
    have c2b0 : (t141 == 10) = true := beq_iff_eq.mpr c2
    have c2b1 : (t141 != 10) = false := bne_eq_false_iff_eq.mpr c2
    clear c2
    by_cases c3 : t142 = 0
    · rw [if_pos c3] at H
      have c3b0 : (t142 == 0) = true := beq_iff_eq.mpr c3
      have c3b1 : (t142 != 0) = false := bne_eq_false_iff_eq.mpr c3
      clear c3
      rcases t143 with _ | q144
      · have H1 : (some true) = some r := by rw [if_pos (show (none : Option Int).isNone = true by rfl)] at H; exact H
        clear H
        have H := H1
        clear H1
        try simp only [errW_none, errW_some]
        obtain rfl := Option.some.inj H
        go_enter Try.func6, Try.ntmps6
        go_wp2_with (first | ((with_reducible refine gate_callee (f := 8) rfl ?_); refine goesL_ (some 6) rfl rfl Try.func8 (by kernel_rfl) rfl #[.agg #[.int .u32 365000, .int .u8 1], .int .i64 10000, .int .i64 1, .int .u64 0] rfl (by (try simp only [List.map_toArray, List.map_cons, List.map_nil]); first | done | rfl | (simp only [List.length_drop, List.length_take]; rfl)) ?_; (with_reducible refine (yield_Rate_Days.calls k 365000 1 10000 1 0 t141 t142 none _ A1.out).mono ?_); rintro e w4 ⟨rfl, hb⟩; refine ⟨_, rfl, ?_⟩; have n0_ := Aside0.mk (below_step (by repeat (first | (with_reducible first | exact HB.out | apply below_alloc | apply pw_below_drewN | apply below_drew1) | exact HB.out)) hb); clear HB; have HB := n0_; clear n0_; (try clear hb); (try clear hb2); (try clear hk); (try clear hi); (try simp only [errW_none, errW_some])))
        go_ret
        exact ⟨by first | rfl | (simp [errW_none, errW_some] <;> rfl) | (simp [*, errW_none, errW_some] <;> rfl), by repeat (first | (with_reducible first | exact HB.out | apply below_alloc | apply pw_below_drewN | apply below_drew1) | exact HB.out)⟩
      · have H1 : (some false) = some r := by rw [if_neg (show ¬ (some q144).isNone = true by simp)] at H; exact H
        clear H
        have H := H1
        clear H1
        try simp only [errW_none, errW_some]
        obtain rfl := Option.some.inj H
        go_enter Try.func6, Try.ntmps6
        go_wp2_with (first | ((with_reducible refine gate_callee (f := 8) rfl ?_); refine goesL_ (some 6) rfl rfl Try.func8 (by kernel_rfl) rfl #[.agg #[.int .u32 365000, .int .u8 1], .int .i64 10000, .int .i64 1, .int .u64 0] rfl (by (try simp only [List.map_toArray, List.map_cons, List.map_nil]); first | done | rfl | (simp only [List.length_drop, List.length_take]; rfl)) ?_; (with_reducible refine (yield_Rate_Days.calls k 365000 1 10000 1 0 t141 t142 (some q144) _ A1.out).mono ?_); rintro e w5 ⟨rfl, hb⟩; refine ⟨_, rfl, ?_⟩; have n0_ := Aside0.mk (below_step (by repeat (first | (with_reducible first | exact HB.out | apply below_alloc | apply pw_below_drewN | apply below_drew1) | exact HB.out)) hb); clear HB; have HB := n0_; clear n0_; (try clear hb); (try clear hb2); (try clear hk); (try clear hi); (try simp only [errW_none, errW_some])))
        go_ret
        exact ⟨by first | rfl | (simp [errW_none, errW_some] <;> rfl) | (simp [*, errW_none, errW_some] <;> rfl), by repeat (first | (with_reducible first | exact HB.out | apply below_alloc | apply pw_below_drewN | apply below_drew1) | exact HB.out)⟩
    · rw [if_neg c3] at H
      have c3b0 : (t142 == 0) = false := beq_eq_false_iff_ne.mpr c3
      have c3b1 : (t142 != 0) = true := bne_iff_ne.mpr c3
      obtain rfl := Option.some.inj H
      go_enter Try.func6, Try.ntmps6
      go_wp2_with (first | ((with_reducible refine gate_callee (f := 8) rfl ?_); refine goesL_ (some 6) rfl rfl Try.func8 (by kernel_rfl) rfl #[.agg #[.int .u32 365000, .int .u8 1], .int .i64 10000, .int .i64 1, .int .u64 0] rfl (by (try simp only [List.map_toArray, List.map_cons, List.map_nil]); first | done | rfl | (simp only [List.length_drop, List.length_take]; rfl)) ?_; (with_reducible refine (yield_Rate_Days.calls k 365000 1 10000 1 0 t141 t142 t143 _ A1.out).mono ?_); rintro e w6 ⟨rfl, hb⟩; refine ⟨_, rfl, ?_⟩; have n0_ := Aside0.mk (below_step (by repeat (first | (with_reducible first | exact HB.out | apply below_alloc | apply pw_below_drewN | apply below_drew1) | exact HB.out)) hb); clear HB; have HB := n0_; clear n0_; (try clear hb); (try clear hb2); (try clear hk); (try clear hi); (try simp only [errW_none, errW_some])))
      go_ret
      exact ⟨by first | rfl | (simp [errW_none, errW_some] <;> rfl) | (simp [*, errW_none, errW_some] <;> rfl), by repeat (first | (with_reducible first | exact HB.out | apply below_alloc | apply pw_below_drewN | apply below_drew1) | exact HB.out)⟩
  · rw [if_neg c2] at H
    have c2b0 : (t141 == 10) = false := beq_eq_false_iff_ne.mpr c2
    have c2b1 : (t141 != 10) = true := bne_iff_ne.mpr c2
    obtain rfl := Option.some.inj H
    go_enter Try.func6, Try.ntmps6
    go_wp2_with (first | ((with_reducible refine gate_callee (f := 8) rfl ?_); refine goesL_ (some 6) rfl rfl Try.func8 (by kernel_rfl) rfl #[.agg #[.int .u32 365000, .int .u8 1], .int .i64 10000, .int .i64 1, .int .u64 0] rfl (by (try simp only [List.map_toArray, List.map_cons, List.map_nil]); first | done | rfl | (simp only [List.length_drop, List.length_take]; rfl)) ?_; (with_reducible refine (yield_Rate_Days.calls k 365000 1 10000 1 0 t141 t142 t143 _ A1.out).mono ?_); rintro e w7 ⟨rfl, hb⟩; refine ⟨_, rfl, ?_⟩; have n0_ := Aside0.mk (below_step (by repeat (first | (with_reducible first | exact HB.out | apply below_alloc | apply pw_below_drewN | apply below_drew1) | exact HB.out)) hb); clear HB; have HB := n0_; clear n0_; (try clear hb); (try clear hb2); (try clear hk); (try clear hi); (try simp only [errW_none, errW_some])))
    go_ret
    exact ⟨by first | rfl | (simp [errW_none, errW_some] <;> rfl) | (simp [*, errW_none, errW_some] <;> rfl), by repeat (first | (with_reducible first | exact HB.out | apply below_alloc | apply pw_below_drewN | apply below_drew1) | exact HB.out)⟩

/-! ### arrearsref09_Unit: function 10 -/
def arrearsref09_Unit.f (a0_0 : Int) (a0_1 : Bool) : Option (Int) := if a0_1 = true then (some 360000000) else (some 365000000)
set_option maxHeartbeats 8000000 in
set_option maxRecDepth 100000 in
theorem arrearsref09_Unit.calls (a0_0 : Int) (a0_1 : Bool) (r : Int) (w : World) (h : arrearsref09_Unit.f a0_0 a0_1 = some r) :
    Calls Try.prog 10 #[.agg #[.int .u32 a0_0, .bool a0_1]] w fun e w' => e = .returned (.int .u64 r) ∧ Below w.heap.size w w' := by
  have hu41 := Try.underlying41
  have HB := Aside0.mk (Below.refl w.heap.size w)
  have H : (if a0_1 = true then (some 360000000) else (some 365000000)) = some r := h
  clear h
  by_cases c2 : a0_1 = true
  · subst c2
    have H1 : (some 360000000) = some r := by rw [if_pos rfl] at H; exact H
    clear H
    have H := H1
    clear H1
    obtain rfl := Option.some.inj H
    go_enter Try.func10, Try.ntmps10
    go_wp2_with (first | ((with_reducible refine gate_dst (N := 1) rfl ?_); refine box_event ?hg (N := 1) ?hd (cs := #[.int .u32 a0_0, .bool true]) (t := 41) ?hr ?_; (case hd => rfl); (case hg => rfl); (case hr => first | (go_simp; done) | (go_simp; rfl)); intro gb145 hg w3 hbox hb; have n0_ := Aside0.mk (below_step (by repeat (first | (with_reducible first | exact HB.out | apply below_alloc | apply pw_below_drewN | apply below_drew1) | exact HB.out)) hb); have n1_ := Aside0.mk (hbox); have n2_ := Aside0.mk ((by rw [hg]; exact (below_size (by repeat (first | (with_reducible first | exact HB.out | apply below_alloc | apply pw_below_drewN | apply below_drew1) | exact HB.out))) : w.heap.size ≤ gb145)); have n3_ := Aside0.mk ((by rw [hg]; exact (below_size (by repeat (first | (with_reducible first | exact HB.out | apply below_alloc | apply pw_below_drewN | apply below_drew1) | exact HB.out))) : w.heap.size ≤ gb145)); clear HB; have HB := n0_; have BK145 := n1_; have GW145 := n2_; have GE145 := n3_; clear n0_ n1_ n2_ n3_; clear hb hbox hg; have hcz4_0 : w3.cell? ⟨gb145, 0, none⟩ = some (.int .u32 a0_0) := (blk_cell BK145.out 0).trans rfl; have hcz4_1 : w3.cell? ⟨gb145, 1, none⟩ = some (.bool true) := (blk_cell BK145.out 1).trans rfl; have hfz4_0 := blk_frozen BK145.out 0; have hfz4_1 := blk_frozen BK145.out 1))
    go_ret
    exact ⟨by first | rfl | (simp [errW_none, errW_some] <;> rfl) | (simp [*, errW_none, errW_some] <;> rfl), by repeat (first | (with_reducible first | exact HB.out | apply below_alloc | apply pw_below_drewN | apply below_drew1 | refine below_set ?_ GE145.out) | exact HB.out)⟩
  · replace c2 := Bool.eq_false_iff.mpr c2
    subst c2
    have H1 : (some 365000000) = some r := by rw [if_neg (show ¬ (false = true) by decide)] at H; exact H
    clear H
    have H := H1
    clear H1
    obtain rfl := Option.some.inj H
    go_enter Try.func10, Try.ntmps10
    go_wp2_with (first | ((with_reducible refine gate_dst (N := 1) rfl ?_); refine box_event ?hg (N := 1) ?hd (cs := #[.int .u32 a0_0, .bool false]) (t := 41) ?hr ?_; (case hd => rfl); (case hg => rfl); (case hr => first | (go_simp; done) | (go_simp; rfl)); intro gb145 hg w5 hbox hb; have n0_ := Aside0.mk (below_step (by repeat (first | (with_reducible first | exact HB.out | apply below_alloc | apply pw_below_drewN | apply below_drew1) | exact HB.out)) hb); have n1_ := Aside0.mk (hbox); have n2_ := Aside0.mk ((by rw [hg]; exact (below_size (by repeat (first | (with_reducible first | exact HB.out | apply below_alloc | apply pw_below_drewN | apply below_drew1) | exact HB.out))) : w.heap.size ≤ gb145)); have n3_ := Aside0.mk ((by rw [hg]; exact (below_size (by repeat (first | (with_reducible first | exact HB.out | apply below_alloc | apply pw_below_drewN | apply below_drew1) | exact HB.out))) : w.heap.size ≤ gb145)); clear HB; have HB := n0_; have BK145 := n1_; have GW145 := n2_; have GE145 := n3_; clear n0_ n1_ n2_ n3_; clear hb hbox hg; have hcz6_0 : w5.cell? ⟨gb145, 0, none⟩ = some (.int .u32 a0_0) := (blk_cell BK145.out 0).trans rfl; have hcz6_1 : w5.cell? ⟨gb145, 1, none⟩ = some (.bool false) := (blk_cell BK145.out 1).trans rfl; have hfz6_0 := blk_frozen BK145.out 0; have hfz6_1 := blk_frozen BK145.out 1))
    go_ret
    exact ⟨by first | rfl | (simp [errW_none, errW_some] <;> rfl) | (simp [*, errW_none, errW_some] <;> rfl), by repeat (first | (with_reducible first | exact HB.out | apply below_alloc | apply pw_below_drewN | apply below_drew1 | refine below_set ?_ GE145.out) | exact HB.out)⟩

/-! ### arrearslaw09_own: function 11 -/
def arrearslaw09_own.f (a0_0 : Int) (a0_1 : Int) : Option (Int × Bool) := some (a0_0, (a0_1 == 2))
set_option maxHeartbeats 8000000 in
set_option maxRecDepth 100000 in
theorem arrearslaw09_own.calls (a0_0 : Int) (a0_1 : Int) (r1 : Int) (r2 : Bool) (w : World) (h : arrearslaw09_own.f a0_0 a0_1 = some (r1, r2)) :
    Calls Try.prog 11 #[.agg #[.int .u32 a0_0, .int .u8 a0_1]] w fun e w' => e = .returned (.agg #[.int .u32 r1, .bool r2]) ∧ Below w.heap.size w w' := by
  have hu24 := Try.underlying24
  have hu41 := Try.underlying41
  have HB := Aside0.mk (Below.refl w.heap.size w)
  have H : (some (a0_0, (a0_1 == 2))) = some (r1, r2) := h
  clear h
  simp only [Option.some.injEq, Prod.mk.injEq] at H
  obtain ⟨rfl, rfl⟩ := H
  go_enter Try.func11, Try.ntmps11
  go_wp2_with (first | ((with_reducible refine gate_dst (N := 1) rfl ?_); refine box_event ?hg (N := 1) ?hd (cs := #[.int .u32 a0_0, .int .u8 a0_1]) (t := 24) ?hr ?_; (case hd => rfl); (case hg => rfl); (case hr => first | (go_simp; done) | (go_simp; rfl)); intro gb146 hg w2 hbox hb; have n0_ := Aside0.mk (below_step (by repeat (first | (with_reducible first | exact HB.out | apply below_alloc | apply pw_below_drewN | apply below_drew1) | exact HB.out)) hb); have n1_ := Aside0.mk (hbox); have n2_ := Aside0.mk ((by rw [hg]; exact (below_size (by repeat (first | (with_reducible first | exact HB.out | apply below_alloc | apply pw_below_drewN | apply below_drew1) | exact HB.out))) : w.heap.size ≤ gb146)); have n3_ := Aside0.mk ((by rw [hg]; exact (below_size (by repeat (first | (with_reducible first | exact HB.out | apply below_alloc | apply pw_below_drewN | apply below_drew1) | exact HB.out))) : w.heap.size ≤ gb146)); clear HB; have HB := n0_; have BK146 := n1_; have GW146 := n2_; have GE146 := n3_; clear n0_ n1_ n2_ n3_; clear hb hbox hg) | ((with_reducible refine gate_dst (N := 2) rfl ?_); refine box_event ?hg (N := 2) ?hd (cs := #[.int .u32 0, .bool false]) (t := 41) ?hr ?_; (case hd => rfl); (case hg => rfl); (case hr => first | (go_simp; done) | (go_simp; rfl)); intro gb147 hg w3 hbox hb; have n0_ := Aside0.mk (blk_below (g := gb146) (o := .cells #[.int .u32 a0_0, .int .u8 a0_1] 24 (0, 0)) (by (with_reducible repeat (first | refine blk_drewN ?_ _ | refine blk_drew ?_ | refine blk_alloc ?_ _)); exact BK146.out) hb); have n1_ := Aside0.mk (below_step (by repeat (first | (with_reducible first | exact HB.out | apply below_alloc | apply pw_below_drewN | apply below_drew1 | refine below_set ?_ GE146.out) | exact HB.out)) hb); have n2_ := Aside0.mk (hbox); have n3_ := Aside0.mk ((by rw [hg]; exact (below_size (by repeat (first | (with_reducible first | exact HB.out | apply below_alloc | apply pw_below_drewN | apply below_drew1 | refine below_set ?_ GE146.out) | exact HB.out))) : w.heap.size ≤ gb147)); have n4_ := Aside0.mk ((by rw [hg]; exact (below_size (by repeat (first | (with_reducible first | exact HB.out | apply below_alloc | apply pw_below_drewN | apply below_drew1 | refine below_set ?_ GE146.out) | exact HB.out))) : w.heap.size ≤ gb147)); have n5_ := Aside0.mk ((by rw [hg]; exact Nat.ne_of_lt (blk_lt (g := gb146) (o := .cells #[.int .u32 a0_0, .int .u8 a0_1] 24 (0, 0)) (by (with_reducible repeat (first | refine blk_drewN ?_ _ | refine blk_drew ?_ | refine blk_alloc ?_ _)); exact BK146.out)) : gb146 ≠ gb147)); have n6_ := Aside0.mk ((by rw [hg]; exact Nat.ne_of_gt (blk_lt (g := gb146) (o := .cells #[.int .u32 a0_0, .int .u8 a0_1] 24 (0, 0)) (by (with_reducible repeat (first | refine blk_drewN ?_ _ | refine blk_drew ?_ | refine blk_alloc ?_ _)); exact BK146.out)) : gb147 ≠ gb146)); clear BK146; clear HB; have BK146 := n0_; have HB := n1_; have BK147 := n2_; have GW147 := n3_; have GE147 := n4_; have NB146_147 := n5_; have NB147_146 := n6_; clear n0_ n1_ n2_ n3_ n4_ n5_ n6_; clear hb hbox hg; have hnb4 := NB146_147.out; have hnc4 := NB147_146.out; have hcz5_0 : w3.cell? ⟨gb146, 0, none⟩ = some (.int .u32 a0_0) := (blk_cell BK146.out 0).trans rfl; have hcz5_1 : w3.cell? ⟨gb146, 1, none⟩ = some (.int .u8 a0_1) := (blk_cell BK146.out 1).trans rfl; have hfz5_0 := blk_frozen BK146.out 0; have hfz5_1 := blk_frozen BK146.out 1; have hcz6_0 : w3.cell? ⟨gb147, 0, none⟩ = some (.int .u32 0) := (blk_cell BK147.out 0).trans rfl; have hcz6_1 : w3.cell? ⟨gb147, 1, none⟩ = some (.bool false) := (blk_cell BK147.out 1).trans rfl; have hfz6_0 := blk_frozen BK147.out 0; have hfz6_1 := blk_frozen BK147.out 1))
  refine bodyPost_ret (results_cell_row rfl _ _ gb147 41 #[.int .u32 a0_0, .bool (a0_1 == 2)] (0, 0) _ rfl (by (with_reducible repeat (first | refine blk_drewN ?_ _ | refine blk_drew ?_ | refine blk_alloc ?_ _)); refine blk_put (cs := #[.int .u32 a0_0, .bool false]) ?_ 1 _ rfl; (with_reducible repeat (first | refine blk_drewN ?_ _ | refine blk_drew ?_ | refine blk_alloc ?_ _)); refine blk_put (cs := #[.int .u32 0, .bool false]) ?_ 0 _ rfl; (with_reducible repeat (first | refine blk_drewN ?_ _ | refine blk_drew ?_ | refine blk_alloc ?_ _)); exact BK147.out) Try.underlying41 rfl (by kernel_rfl)) rfl ?_
  exact ⟨by first | rfl | (simp [errW_none, errW_some] <;> rfl) | (simp [*, errW_none, errW_some] <;> rfl), by repeat (first | (with_reducible first | exact HB.out | apply below_alloc | apply pw_below_drewN | apply below_drew1 | refine below_set ?_ GE146.out | refine below_set ?_ GE147.out) | exact HB.out)⟩

/-! ### arrearslaw09_right: function 7 -/
def arrearslaw09_right.f (a0_0 : Int) (a0_1 : Int) (a1 : Int) (a2 : Int) (a3 : Int) : Option (Bool) := if a0_0 ≤ 1000000 then (if a0_1 = 1 then (if a1 ≥ 0 then (if a1 ≤ 1000000000000 then (if a2 ≥ 0 then (if a2 ≤ 100000 then ((arrearslaw09_own.f a0_0 a0_1).bind fun bt149 => ((arrearsref09_Unit.f bt149.1 bt149.2).bind fun t151 => (some (decide (a3 < t151))))) else (some false)) else (some false)) else (some false)) else (some false)) else (if a0_1 = 2 then (if a1 ≥ 0 then (if a1 ≤ 1000000000000 then (if a2 ≥ 0 then (if a2 ≤ 100000 then ((arrearslaw09_own.f a0_0 a0_1).bind fun bt152 => ((arrearsref09_Unit.f bt152.1 bt152.2).bind fun t154 => (some (decide (a3 < t154))))) else (some false)) else (some false)) else (some false)) else (some false)) else (some false))) else (some false)
set_option maxHeartbeats 8000000 in
set_option maxRecDepth 100000 in
theorem arrearslaw09_right.calls (a0_0 : Int) (a0_1 : Int) (a1 : Int) (a2 : Int) (a3 : Int) (r : Bool) (w : World) (h : arrearslaw09_right.f a0_0 a0_1 a1 a2 a3 = some r) :
    Calls Try.prog 7 #[.agg #[.int .u32 a0_0, .int .u8 a0_1], .int .i64 a1, .int .i64 a2, .int .u64 a3] w fun e w' => e = .returned (.bool r) ∧ Below w.heap.size w w' := by
  have hu24 := Try.underlying24
  have HB := Aside0.mk (Below.refl w.heap.size w)
  have H : (if a0_0 ≤ 1000000 then (if a0_1 = 1 then (if a1 ≥ 0 then (if a1 ≤ 1000000000000 then (if a2 ≥ 0 then (if a2 ≤ 100000 then ((arrearslaw09_own.f a0_0 a0_1).bind fun bt149 => ((arrearsref09_Unit.f bt149.1 bt149.2).bind fun t151 => (some (decide (a3 < t151))))) else (some false)) else (some false)) else (some false)) else (some false)) else (if a0_1 = 2 then (if a1 ≥ 0 then (if a1 ≤ 1000000000000 then (if a2 ≥ 0 then (if a2 ≤ 100000 then ((arrearslaw09_own.f a0_0 a0_1).bind fun bt152 => ((arrearsref09_Unit.f bt152.1 bt152.2).bind fun t154 => (some (decide (a3 < t154))))) else (some false)) else (some false)) else (some false)) else (some false)) else (some false))) else (some false)) = some r := h
  clear h
  by_cases c5 : a0_0 ≤ 1000000
  · rw [if_pos c5] at H
    have c5b0 : decide (a0_0 ≤ 1000000) = true := decide_eq_true c5
    clear c5
    by_cases c6 : a0_1 = 1
    · rw [if_pos c6] at H
      have c6b0 : (a0_1 == 1) = true := beq_iff_eq.mpr c6
      have c6b1 : (a0_1 != 1) = false := bne_eq_false_iff_eq.mpr c6
      clear c6
      by_cases c7 : a1 ≥ 0
      · rw [if_pos c7] at H
        have c7b0 : decide (0 ≤ a1) = true := decide_eq_true c7
        clear c7
        by_cases c8 : a1 ≤ 1000000000000
        · rw [if_pos c8] at H
          have c8b0 : decide (a1 ≤ 1000000000000) = true := decide_eq_true c8
          clear c8
          by_cases c9 : a2 ≥ 0
          · rw [if_pos c9] at H
            have c9b0 : decide (0 ≤ a2) = true := decide_eq_true c9
            clear c9
            by_cases c10 : a2 ≤ 100000
            · rw [if_pos c10] at H
              have c10b0 : decide (a2 ≤ 100000) = true := decide_eq_true c10
              clear c10
              replace H := Option.bind_eq_some_iff.mp H
              obtain ⟨⟨t149, t150⟩, A110, H⟩ := H
              replace H : ((arrearsref09_Unit.f t149 t150).bind fun t151 => (some (decide (a3 < t151)))) = some r := H
              have A11 := Aside0.mk A110
              clear A110
              replace H := Option.bind_eq_some_iff.mp H
              obtain ⟨t151, A120, H⟩ := H
              replace H : (some (decide (a3 < t151))) = some r := H
              have A12 := Aside0.mk A120
              clear A120
              obtain rfl := Option.some.inj H
              go_enter Try.func7, Try.ntmps7
              go_wp2_with (first | ((with_reducible refine gate_dst (N := 4) rfl ?_); refine box_event ?hg (N := 4) ?hd (cs := #[.int .u32 a0_0, .int .u8 a0_1]) (t := 24) ?hr ?_; (case hd => rfl); (case hg => rfl); (case hr => first | (go_simp; done) | (go_simp; rfl)); intro gb148 hg w13 hbox hb; have n0_ := Aside0.mk (below_step (by repeat (first | (with_reducible first | exact HB.out | apply below_alloc | apply pw_below_drewN | apply below_drew1) | exact HB.out)) hb); have n1_ := Aside0.mk (hbox); have n2_ := Aside0.mk ((by rw [hg]; exact (below_size (by repeat (first | (with_reducible first | exact HB.out | apply below_alloc | apply pw_below_drewN | apply below_drew1) | exact HB.out))) : w.heap.size ≤ gb148)); have n3_ := Aside0.mk ((by rw [hg]; exact (below_size (by repeat (first | (with_reducible first | exact HB.out | apply below_alloc | apply pw_below_drewN | apply below_drew1) | exact HB.out))) : w.heap.size ≤ gb148)); clear HB; have HB := n0_; have BK148 := n1_; have GW148 := n2_; have GE148 := n3_; clear n0_ n1_ n2_ n3_; clear hb hbox hg; have hcz14_0 : w13.cell? ⟨gb148, 0, none⟩ = some (.int .u32 a0_0) := (blk_cell BK148.out 0).trans rfl; have hcz14_1 : w13.cell? ⟨gb148, 1, none⟩ = some (.int .u8 a0_1) := (blk_cell BK148.out 1).trans rfl; have hfz14_0 := blk_frozen BK148.out 0; have hfz14_1 := blk_frozen BK148.out 1) | (go_at_call 11; (with_reducible refine (arrearslaw09_own.calls a0_0 a0_1 t149 t150 _ A11.out).mono ?_); rintro e w15 ⟨rfl, hb⟩; have n0_ := Aside0.mk (blk_below (g := gb148) (o := .cells #[.int .u32 a0_0, .int .u8 a0_1] 24 (0, 0)) (by (with_reducible repeat (first | refine blk_drewN ?_ _ | refine blk_drew ?_ | refine blk_alloc ?_ _)); exact BK148.out) hb); have n1_ := Aside0.mk (below_step (by repeat (first | (with_reducible first | exact HB.out | apply below_alloc | apply pw_below_drewN | apply below_drew1 | refine below_set ?_ GE148.out) | exact HB.out)) hb); clear BK148; clear HB; have BK148 := n0_; have HB := n1_; clear n0_ n1_; (try clear hb); (try clear hb2); (try clear hk); (try clear hi)) | (go_at_call 10; (with_reducible refine (arrearsref09_Unit.calls t149 t150 t151 _ A12.out).mono ?_); rintro e w16 ⟨rfl, hb⟩; have n0_ := Aside0.mk (blk_below (g := gb148) (o := .cells #[.int .u32 a0_0, .int .u8 a0_1] 24 (0, 0)) (by (with_reducible repeat (first | refine blk_drewN ?_ _ | refine blk_drew ?_ | refine blk_alloc ?_ _)); exact BK148.out) hb); have n1_ := Aside0.mk (below_step (by repeat (first | (with_reducible first | exact HB.out | apply below_alloc | apply pw_below_drewN | apply below_drew1 | refine below_set ?_ GE148.out) | exact HB.out)) hb); clear BK148; clear HB; have BK148 := n0_; have HB := n1_; clear n0_ n1_; (try clear hb); (try clear hb2); (try clear hk); (try clear hi)))
              go_ret
              exact ⟨by first | rfl | (simp [errW_none, errW_some] <;> rfl) | (simp [*, errW_none, errW_some] <;> rfl), by repeat (first | (with_reducible first | exact HB.out | apply below_alloc | apply pw_below_drewN | apply below_drew1 | refine below_set ?_ GE148.out) | exact HB.out)⟩
            · rw [if_neg c10] at H
              have c10b0 : decide (a2 ≤ 100000) = false := decide_eq_false c10
              clear c10
              obtain rfl := Option.some.inj H
              go_enter Try.func7, Try.ntmps7
              go_wp2_with (first | ((with_reducible refine gate_dst (N := 4) rfl ?_); refine box_event ?hg (N := 4) ?hd (cs := #[.int .u32 a0_0, .int .u8 a0_1]) (t := 24) ?hr ?_; (case hd => rfl); (case hg => rfl); (case hr => first | (go_simp; done) | (go_simp; rfl)); intro gb148 hg w17 hbox hb; have n0_ := Aside0.mk (below_step (by repeat (first | (with_reducible first | exact HB.out | apply below_alloc | apply pw_below_drewN | apply below_drew1) | exact HB.out)) hb); have n1_ := Aside0.mk (hbox); have n2_ := Aside0.mk ((by rw [hg]; exact (below_size (by repeat (first | (with_reducible first | exact HB.out | apply below_alloc | apply pw_below_drewN | apply below_drew1) | exact HB.out))) : w.heap.size ≤ gb148)); have n3_ := Aside0.mk ((by rw [hg]; exact (below_size (by repeat (first | (with_reducible first | exact HB.out | apply below_alloc | apply pw_below_drewN | apply below_drew1) | exact HB.out))) : w.heap.size ≤ gb148)); clear HB; have HB := n0_; have BK148 := n1_; have GW148 := n2_; have GE148 := n3_; clear n0_ n1_ n2_ n3_; clear hb hbox hg; have hcz18_0 : w17.cell? ⟨gb148, 0, none⟩ = some (.int .u32 a0_0) := (blk_cell BK148.out 0).trans rfl; have hcz18_1 : w17.cell? ⟨gb148, 1, none⟩ = some (.int .u8 a0_1) := (blk_cell BK148.out 1).trans rfl; have hfz18_0 := blk_frozen BK148.out 0; have hfz18_1 := blk_frozen BK148.out 1))
              go_ret
              exact ⟨by first | rfl | (simp [errW_none, errW_some] <;> rfl) | (simp [*, errW_none, errW_some] <;> rfl), by repeat (first | (with_reducible first | exact HB.out | apply below_alloc | apply pw_below_drewN | apply below_drew1 | refine below_set ?_ GE148.out) | exact HB.out)⟩
          · rw [if_neg c9] at H
            have c9b0 : decide (0 ≤ a2) = false := decide_eq_false c9
            clear c9
            obtain rfl := Option.some.inj H
            go_enter Try.func7, Try.ntmps7
            go_wp2_with (first | ((with_reducible refine gate_dst (N := 4) rfl ?_); refine box_event ?hg (N := 4) ?hd (cs := #[.int .u32 a0_0, .int .u8 a0_1]) (t := 24) ?hr ?_; (case hd => rfl); (case hg => rfl); (case hr => first | (go_simp; done) | (go_simp; rfl)); intro gb148 hg w19 hbox hb; have n0_ := Aside0.mk (below_step (by repeat (first | (with_reducible first | exact HB.out | apply below_alloc | apply pw_below_drewN | apply below_drew1) | exact HB.out)) hb); have n1_ := Aside0.mk (hbox); have n2_ := Aside0.mk ((by rw [hg]; exact (below_size (by repeat (first | (with_reducible first | exact HB.out | apply below_alloc | apply pw_below_drewN | apply below_drew1) | exact HB.out))) : w.heap.size ≤ gb148)); have n3_ := Aside0.mk ((by rw [hg]; exact (below_size (by repeat (first | (with_reducible first | exact HB.out | apply below_alloc | apply pw_below_drewN | apply below_drew1) | exact HB.out))) : w.heap.size ≤ gb148)); clear HB; have HB := n0_; have BK148 := n1_; have GW148 := n2_; have GE148 := n3_; clear n0_ n1_ n2_ n3_; clear hb hbox hg; have hcz20_0 : w19.cell? ⟨gb148, 0, none⟩ = some (.int .u32 a0_0) := (blk_cell BK148.out 0).trans rfl; have hcz20_1 : w19.cell? ⟨gb148, 1, none⟩ = some (.int .u8 a0_1) := (blk_cell BK148.out 1).trans rfl; have hfz20_0 := blk_frozen BK148.out 0; have hfz20_1 := blk_frozen BK148.out 1))
            go_ret
            exact ⟨by first | rfl | (simp [errW_none, errW_some] <;> rfl) | (simp [*, errW_none, errW_some] <;> rfl), by repeat (first | (with_reducible first | exact HB.out | apply below_alloc | apply pw_below_drewN | apply below_drew1 | refine below_set ?_ GE148.out) | exact HB.out)⟩
        · rw [if_neg c8] at H
          have c8b0 : decide (a1 ≤ 1000000000000) = false := decide_eq_false c8
          clear c8
          obtain rfl := Option.some.inj H
          go_enter Try.func7, Try.ntmps7
          go_wp2_with (first | ((with_reducible refine gate_dst (N := 4) rfl ?_); refine box_event ?hg (N := 4) ?hd (cs := #[.int .u32 a0_0, .int .u8 a0_1]) (t := 24) ?hr ?_; (case hd => rfl); (case hg => rfl); (case hr => first | (go_simp; done) | (go_simp; rfl)); intro gb148 hg w21 hbox hb; have n0_ := Aside0.mk (below_step (by repeat (first | (with_reducible first | exact HB.out | apply below_alloc | apply pw_below_drewN | apply below_drew1) | exact HB.out)) hb); have n1_ := Aside0.mk (hbox); have n2_ := Aside0.mk ((by rw [hg]; exact (below_size (by repeat (first | (with_reducible first | exact HB.out | apply below_alloc | apply pw_below_drewN | apply below_drew1) | exact HB.out))) : w.heap.size ≤ gb148)); have n3_ := Aside0.mk ((by rw [hg]; exact (below_size (by repeat (first | (with_reducible first | exact HB.out | apply below_alloc | apply pw_below_drewN | apply below_drew1) | exact HB.out))) : w.heap.size ≤ gb148)); clear HB; have HB := n0_; have BK148 := n1_; have GW148 := n2_; have GE148 := n3_; clear n0_ n1_ n2_ n3_; clear hb hbox hg; have hcz22_0 : w21.cell? ⟨gb148, 0, none⟩ = some (.int .u32 a0_0) := (blk_cell BK148.out 0).trans rfl; have hcz22_1 : w21.cell? ⟨gb148, 1, none⟩ = some (.int .u8 a0_1) := (blk_cell BK148.out 1).trans rfl; have hfz22_0 := blk_frozen BK148.out 0; have hfz22_1 := blk_frozen BK148.out 1))
          go_ret
          exact ⟨by first | rfl | (simp [errW_none, errW_some] <;> rfl) | (simp [*, errW_none, errW_some] <;> rfl), by repeat (first | (with_reducible first | exact HB.out | apply below_alloc | apply pw_below_drewN | apply below_drew1 | refine below_set ?_ GE148.out) | exact HB.out)⟩
      · rw [if_neg c7] at H
        have c7b0 : decide (0 ≤ a1) = false := decide_eq_false c7
        clear c7
        obtain rfl := Option.some.inj H
        go_enter Try.func7, Try.ntmps7
        go_wp2_with (first | ((with_reducible refine gate_dst (N := 4) rfl ?_); refine box_event ?hg (N := 4) ?hd (cs := #[.int .u32 a0_0, .int .u8 a0_1]) (t := 24) ?hr ?_; (case hd => rfl); (case hg => rfl); (case hr => first | (go_simp; done) | (go_simp; rfl)); intro gb148 hg w23 hbox hb; have n0_ := Aside0.mk (below_step (by repeat (first | (with_reducible first | exact HB.out | apply below_alloc | apply pw_below_drewN | apply below_drew1) | exact HB.out)) hb); have n1_ := Aside0.mk (hbox); have n2_ := Aside0.mk ((by rw [hg]; exact (below_size (by repeat (first | (with_reducible first | exact HB.out | apply below_alloc | apply pw_below_drewN | apply below_drew1) | exact HB.out))) : w.heap.size ≤ gb148)); have n3_ := Aside0.mk ((by rw [hg]; exact (below_size (by repeat (first | (with_reducible first | exact HB.out | apply below_alloc | apply pw_below_drewN | apply below_drew1) | exact HB.out))) : w.heap.size ≤ gb148)); clear HB; have HB := n0_; have BK148 := n1_; have GW148 := n2_; have GE148 := n3_; clear n0_ n1_ n2_ n3_; clear hb hbox hg; have hcz24_0 : w23.cell? ⟨gb148, 0, none⟩ = some (.int .u32 a0_0) := (blk_cell BK148.out 0).trans rfl; have hcz24_1 : w23.cell? ⟨gb148, 1, none⟩ = some (.int .u8 a0_1) := (blk_cell BK148.out 1).trans rfl; have hfz24_0 := blk_frozen BK148.out 0; have hfz24_1 := blk_frozen BK148.out 1))
        go_ret
        exact ⟨by first | rfl | (simp [errW_none, errW_some] <;> rfl) | (simp [*, errW_none, errW_some] <;> rfl), by repeat (first | (with_reducible first | exact HB.out | apply below_alloc | apply pw_below_drewN | apply below_drew1 | refine below_set ?_ GE148.out) | exact HB.out)⟩
    · rw [if_neg c6] at H
      have c6b0 : (a0_1 == 1) = false := beq_eq_false_iff_ne.mpr c6
      have c6b1 : (a0_1 != 1) = true := bne_iff_ne.mpr c6
      by_cases c25 : a0_1 = 2
      · rw [if_pos c25] at H
        have c25b0 : (a0_1 == 2) = true := beq_iff_eq.mpr c25
        have c25b1 : (a0_1 != 2) = false := bne_eq_false_iff_eq.mpr c25
        clear c25
        by_cases c26 : a1 ≥ 0
        · rw [if_pos c26] at H
          have c26b0 : decide (0 ≤ a1) = true := decide_eq_true c26
          clear c26
          by_cases c27 : a1 ≤ 1000000000000
          · rw [if_pos c27] at H
            have c27b0 : decide (a1 ≤ 1000000000000) = true := decide_eq_true c27
            clear c27
            by_cases c28 : a2 ≥ 0
            · rw [if_pos c28] at H
              have c28b0 : decide (0 ≤ a2) = true := decide_eq_true c28
              clear c28
              by_cases c29 : a2 ≤ 100000
              · rw [if_pos c29] at H
                have c29b0 : decide (a2 ≤ 100000) = true := decide_eq_true c29
                clear c29
                replace H := Option.bind_eq_some_iff.mp H
                obtain ⟨⟨t152, t153⟩, A300, H⟩ := H
                replace H : ((arrearsref09_Unit.f t152 t153).bind fun t154 => (some (decide (a3 < t154)))) = some r := H
                have A30 := Aside0.mk A300
                clear A300
                replace H := Option.bind_eq_some_iff.mp H
                obtain ⟨t154, A310, H⟩ := H
                replace H : (some (decide (a3 < t154))) = some r := H
                have A31 := Aside0.mk A310
                clear A310
                obtain rfl := Option.some.inj H
                go_enter Try.func7, Try.ntmps7
                go_wp2_with (first | ((with_reducible refine gate_dst (N := 4) rfl ?_); refine box_event ?hg (N := 4) ?hd (cs := #[.int .u32 a0_0, .int .u8 a0_1]) (t := 24) ?hr ?_; (case hd => rfl); (case hg => rfl); (case hr => first | (go_simp; done) | (go_simp; rfl)); intro gb148 hg w32 hbox hb; have n0_ := Aside0.mk (below_step (by repeat (first | (with_reducible first | exact HB.out | apply below_alloc | apply pw_below_drewN | apply below_drew1) | exact HB.out)) hb); have n1_ := Aside0.mk (hbox); have n2_ := Aside0.mk ((by rw [hg]; exact (below_size (by repeat (first | (with_reducible first | exact HB.out | apply below_alloc | apply pw_below_drewN | apply below_drew1) | exact HB.out))) : w.heap.size ≤ gb148)); have n3_ := Aside0.mk ((by rw [hg]; exact (below_size (by repeat (first | (with_reducible first | exact HB.out | apply below_alloc | apply pw_below_drewN | apply below_drew1) | exact HB.out))) : w.heap.size ≤ gb148)); clear HB; have HB := n0_; have BK148 := n1_; have GW148 := n2_; have GE148 := n3_; clear n0_ n1_ n2_ n3_; clear hb hbox hg; have hcz33_0 : w32.cell? ⟨gb148, 0, none⟩ = some (.int .u32 a0_0) := (blk_cell BK148.out 0).trans rfl; have hcz33_1 : w32.cell? ⟨gb148, 1, none⟩ = some (.int .u8 a0_1) := (blk_cell BK148.out 1).trans rfl; have hfz33_0 := blk_frozen BK148.out 0; have hfz33_1 := blk_frozen BK148.out 1) | (go_at_call 11; (with_reducible refine (arrearslaw09_own.calls a0_0 a0_1 t152 t153 _ A30.out).mono ?_); rintro e w34 ⟨rfl, hb⟩; have n0_ := Aside0.mk (blk_below (g := gb148) (o := .cells #[.int .u32 a0_0, .int .u8 a0_1] 24 (0, 0)) (by (with_reducible repeat (first | refine blk_drewN ?_ _ | refine blk_drew ?_ | refine blk_alloc ?_ _)); exact BK148.out) hb); have n1_ := Aside0.mk (below_step (by repeat (first | (with_reducible first | exact HB.out | apply below_alloc | apply pw_below_drewN | apply below_drew1 | refine below_set ?_ GE148.out) | exact HB.out)) hb); clear BK148; clear HB; have BK148 := n0_; have HB := n1_; clear n0_ n1_; (try clear hb); (try clear hb2); (try clear hk); (try clear hi)) | (go_at_call 10; (with_reducible refine (arrearsref09_Unit.calls t152 t153 t154 _ A31.out).mono ?_); rintro e w35 ⟨rfl, hb⟩; have n0_ := Aside0.mk (blk_below (g := gb148) (o := .cells #[.int .u32 a0_0, .int .u8 a0_1] 24 (0, 0)) (by (with_reducible repeat (first | refine blk_drewN ?_ _ | refine blk_drew ?_ | refine blk_alloc ?_ _)); exact BK148.out) hb); have n1_ := Aside0.mk (below_step (by repeat (first | (with_reducible first | exact HB.out | apply below_alloc | apply pw_below_drewN | apply below_drew1 | refine below_set ?_ GE148.out) | exact HB.out)) hb); clear BK148; clear HB; have BK148 := n0_; have HB := n1_; clear n0_ n1_; (try clear hb); (try clear hb2); (try clear hk); (try clear hi)))
                go_ret
                exact ⟨by first | rfl | (simp [errW_none, errW_some] <;> rfl) | (simp [*, errW_none, errW_some] <;> rfl), by repeat (first | (with_reducible first | exact HB.out | apply below_alloc | apply pw_below_drewN | apply below_drew1 | refine below_set ?_ GE148.out) | exact HB.out)⟩
              · rw [if_neg c29] at H
                have c29b0 : decide (a2 ≤ 100000) = false := decide_eq_false c29
                clear c29
                obtain rfl := Option.some.inj H
                go_enter Try.func7, Try.ntmps7
                go_wp2_with (first | ((with_reducible refine gate_dst (N := 4) rfl ?_); refine box_event ?hg (N := 4) ?hd (cs := #[.int .u32 a0_0, .int .u8 a0_1]) (t := 24) ?hr ?_; (case hd => rfl); (case hg => rfl); (case hr => first | (go_simp; done) | (go_simp; rfl)); intro gb148 hg w36 hbox hb; have n0_ := Aside0.mk (below_step (by repeat (first | (with_reducible first | exact HB.out | apply below_alloc | apply pw_below_drewN | apply below_drew1) | exact HB.out)) hb); have n1_ := Aside0.mk (hbox); have n2_ := Aside0.mk ((by rw [hg]; exact (below_size (by repeat (first | (with_reducible first | exact HB.out | apply below_alloc | apply pw_below_drewN | apply below_drew1) | exact HB.out))) : w.heap.size ≤ gb148)); have n3_ := Aside0.mk ((by rw [hg]; exact (below_size (by repeat (first | (with_reducible first | exact HB.out | apply below_alloc | apply pw_below_drewN | apply below_drew1) | exact HB.out))) : w.heap.size ≤ gb148)); clear HB; have HB := n0_; have BK148 := n1_; have GW148 := n2_; have GE148 := n3_; clear n0_ n1_ n2_ n3_; clear hb hbox hg; have hcz37_0 : w36.cell? ⟨gb148, 0, none⟩ = some (.int .u32 a0_0) := (blk_cell BK148.out 0).trans rfl; have hcz37_1 : w36.cell? ⟨gb148, 1, none⟩ = some (.int .u8 a0_1) := (blk_cell BK148.out 1).trans rfl; have hfz37_0 := blk_frozen BK148.out 0; have hfz37_1 := blk_frozen BK148.out 1))
                go_ret
                exact ⟨by first | rfl | (simp [errW_none, errW_some] <;> rfl) | (simp [*, errW_none, errW_some] <;> rfl), by repeat (first | (with_reducible first | exact HB.out | apply below_alloc | apply pw_below_drewN | apply below_drew1 | refine below_set ?_ GE148.out) | exact HB.out)⟩
            · rw [if_neg c28] at H
              have c28b0 : decide (0 ≤ a2) = false := decide_eq_false c28
              clear c28
              obtain rfl := Option.some.inj H
              go_enter Try.func7, Try.ntmps7
              go_wp2_with (first | ((with_reducible refine gate_dst (N := 4) rfl ?_); refine box_event ?hg (N := 4) ?hd (cs := #[.int .u32 a0_0, .int .u8 a0_1]) (t := 24) ?hr ?_; (case hd => rfl); (case hg => rfl); (case hr => first | (go_simp; done) | (go_simp; rfl)); intro gb148 hg w38 hbox hb; have n0_ := Aside0.mk (below_step (by repeat (first | (with_reducible first | exact HB.out | apply below_alloc | apply pw_below_drewN | apply below_drew1) | exact HB.out)) hb); have n1_ := Aside0.mk (hbox); have n2_ := Aside0.mk ((by rw [hg]; exact (below_size (by repeat (first | (with_reducible first | exact HB.out | apply below_alloc | apply pw_below_drewN | apply below_drew1) | exact HB.out))) : w.heap.size ≤ gb148)); have n3_ := Aside0.mk ((by rw [hg]; exact (below_size (by repeat (first | (with_reducible first | exact HB.out | apply below_alloc | apply pw_below_drewN | apply below_drew1) | exact HB.out))) : w.heap.size ≤ gb148)); clear HB; have HB := n0_; have BK148 := n1_; have GW148 := n2_; have GE148 := n3_; clear n0_ n1_ n2_ n3_; clear hb hbox hg; have hcz39_0 : w38.cell? ⟨gb148, 0, none⟩ = some (.int .u32 a0_0) := (blk_cell BK148.out 0).trans rfl; have hcz39_1 : w38.cell? ⟨gb148, 1, none⟩ = some (.int .u8 a0_1) := (blk_cell BK148.out 1).trans rfl; have hfz39_0 := blk_frozen BK148.out 0; have hfz39_1 := blk_frozen BK148.out 1))
              go_ret
              exact ⟨by first | rfl | (simp [errW_none, errW_some] <;> rfl) | (simp [*, errW_none, errW_some] <;> rfl), by repeat (first | (with_reducible first | exact HB.out | apply below_alloc | apply pw_below_drewN | apply below_drew1 | refine below_set ?_ GE148.out) | exact HB.out)⟩
          · rw [if_neg c27] at H
            have c27b0 : decide (a1 ≤ 1000000000000) = false := decide_eq_false c27
            clear c27
            obtain rfl := Option.some.inj H
            go_enter Try.func7, Try.ntmps7
            go_wp2_with (first | ((with_reducible refine gate_dst (N := 4) rfl ?_); refine box_event ?hg (N := 4) ?hd (cs := #[.int .u32 a0_0, .int .u8 a0_1]) (t := 24) ?hr ?_; (case hd => rfl); (case hg => rfl); (case hr => first | (go_simp; done) | (go_simp; rfl)); intro gb148 hg w40 hbox hb; have n0_ := Aside0.mk (below_step (by repeat (first | (with_reducible first | exact HB.out | apply below_alloc | apply pw_below_drewN | apply below_drew1) | exact HB.out)) hb); have n1_ := Aside0.mk (hbox); have n2_ := Aside0.mk ((by rw [hg]; exact (below_size (by repeat (first | (with_reducible first | exact HB.out | apply below_alloc | apply pw_below_drewN | apply below_drew1) | exact HB.out))) : w.heap.size ≤ gb148)); have n3_ := Aside0.mk ((by rw [hg]; exact (below_size (by repeat (first | (with_reducible first | exact HB.out | apply below_alloc | apply pw_below_drewN | apply below_drew1) | exact HB.out))) : w.heap.size ≤ gb148)); clear HB; have HB := n0_; have BK148 := n1_; have GW148 := n2_; have GE148 := n3_; clear n0_ n1_ n2_ n3_; clear hb hbox hg; have hcz41_0 : w40.cell? ⟨gb148, 0, none⟩ = some (.int .u32 a0_0) := (blk_cell BK148.out 0).trans rfl; have hcz41_1 : w40.cell? ⟨gb148, 1, none⟩ = some (.int .u8 a0_1) := (blk_cell BK148.out 1).trans rfl; have hfz41_0 := blk_frozen BK148.out 0; have hfz41_1 := blk_frozen BK148.out 1))
            go_ret
            exact ⟨by first | rfl | (simp [errW_none, errW_some] <;> rfl) | (simp [*, errW_none, errW_some] <;> rfl), by repeat (first | (with_reducible first | exact HB.out | apply below_alloc | apply pw_below_drewN | apply below_drew1 | refine below_set ?_ GE148.out) | exact HB.out)⟩
        · rw [if_neg c26] at H
          have c26b0 : decide (0 ≤ a1) = false := decide_eq_false c26
          clear c26
          obtain rfl := Option.some.inj H
          go_enter Try.func7, Try.ntmps7
          go_wp2_with (first | ((with_reducible refine gate_dst (N := 4) rfl ?_); refine box_event ?hg (N := 4) ?hd (cs := #[.int .u32 a0_0, .int .u8 a0_1]) (t := 24) ?hr ?_; (case hd => rfl); (case hg => rfl); (case hr => first | (go_simp; done) | (go_simp; rfl)); intro gb148 hg w42 hbox hb; have n0_ := Aside0.mk (below_step (by repeat (first | (with_reducible first | exact HB.out | apply below_alloc | apply pw_below_drewN | apply below_drew1) | exact HB.out)) hb); have n1_ := Aside0.mk (hbox); have n2_ := Aside0.mk ((by rw [hg]; exact (below_size (by repeat (first | (with_reducible first | exact HB.out | apply below_alloc | apply pw_below_drewN | apply below_drew1) | exact HB.out))) : w.heap.size ≤ gb148)); have n3_ := Aside0.mk ((by rw [hg]; exact (below_size (by repeat (first | (with_reducible first | exact HB.out | apply below_alloc | apply pw_below_drewN | apply below_drew1) | exact HB.out))) : w.heap.size ≤ gb148)); clear HB; have HB := n0_; have BK148 := n1_; have GW148 := n2_; have GE148 := n3_; clear n0_ n1_ n2_ n3_; clear hb hbox hg; have hcz43_0 : w42.cell? ⟨gb148, 0, none⟩ = some (.int .u32 a0_0) := (blk_cell BK148.out 0).trans rfl; have hcz43_1 : w42.cell? ⟨gb148, 1, none⟩ = some (.int .u8 a0_1) := (blk_cell BK148.out 1).trans rfl; have hfz43_0 := blk_frozen BK148.out 0; have hfz43_1 := blk_frozen BK148.out 1))
          go_ret
          exact ⟨by first | rfl | (simp [errW_none, errW_some] <;> rfl) | (simp [*, errW_none, errW_some] <;> rfl), by repeat (first | (with_reducible first | exact HB.out | apply below_alloc | apply pw_below_drewN | apply below_drew1 | refine below_set ?_ GE148.out) | exact HB.out)⟩
      · rw [if_neg c25] at H
        have c25b0 : (a0_1 == 2) = false := beq_eq_false_iff_ne.mpr c25
        have c25b1 : (a0_1 != 2) = true := bne_iff_ne.mpr c25
        obtain rfl := Option.some.inj H
        go_enter Try.func7, Try.ntmps7
        go_wp2_with (first | ((with_reducible refine gate_dst (N := 4) rfl ?_); refine box_event ?hg (N := 4) ?hd (cs := #[.int .u32 a0_0, .int .u8 a0_1]) (t := 24) ?hr ?_; (case hd => rfl); (case hg => rfl); (case hr => first | (go_simp; done) | (go_simp; rfl)); intro gb148 hg w44 hbox hb; have n0_ := Aside0.mk (below_step (by repeat (first | (with_reducible first | exact HB.out | apply below_alloc | apply pw_below_drewN | apply below_drew1) | exact HB.out)) hb); have n1_ := Aside0.mk (hbox); have n2_ := Aside0.mk ((by rw [hg]; exact (below_size (by repeat (first | (with_reducible first | exact HB.out | apply below_alloc | apply pw_below_drewN | apply below_drew1) | exact HB.out))) : w.heap.size ≤ gb148)); have n3_ := Aside0.mk ((by rw [hg]; exact (below_size (by repeat (first | (with_reducible first | exact HB.out | apply below_alloc | apply pw_below_drewN | apply below_drew1) | exact HB.out))) : w.heap.size ≤ gb148)); clear HB; have HB := n0_; have BK148 := n1_; have GW148 := n2_; have GE148 := n3_; clear n0_ n1_ n2_ n3_; clear hb hbox hg; have hcz45_0 : w44.cell? ⟨gb148, 0, none⟩ = some (.int .u32 a0_0) := (blk_cell BK148.out 0).trans rfl; have hcz45_1 : w44.cell? ⟨gb148, 1, none⟩ = some (.int .u8 a0_1) := (blk_cell BK148.out 1).trans rfl; have hfz45_0 := blk_frozen BK148.out 0; have hfz45_1 := blk_frozen BK148.out 1))
        go_ret
        exact ⟨by first | rfl | (simp [errW_none, errW_some] <;> rfl) | (simp [*, errW_none, errW_some] <;> rfl), by repeat (first | (with_reducible first | exact HB.out | apply below_alloc | apply pw_below_drewN | apply below_drew1 | refine below_set ?_ GE148.out) | exact HB.out)⟩
  · rw [if_neg c5] at H
    have c5b0 : decide (a0_0 ≤ 1000000) = false := decide_eq_false c5
    clear c5
    obtain rfl := Option.some.inj H
    go_enter Try.func7, Try.ntmps7
    go_wp2_with (first | ((with_reducible refine gate_dst (N := 4) rfl ?_); refine box_event ?hg (N := 4) ?hd (cs := #[.int .u32 a0_0, .int .u8 a0_1]) (t := 24) ?hr ?_; (case hd => rfl); (case hg => rfl); (case hr => first | (go_simp; done) | (go_simp; rfl)); intro gb148 hg w46 hbox hb; have n0_ := Aside0.mk (below_step (by repeat (first | (with_reducible first | exact HB.out | apply below_alloc | apply pw_below_drewN | apply below_drew1) | exact HB.out)) hb); have n1_ := Aside0.mk (hbox); have n2_ := Aside0.mk ((by rw [hg]; exact (below_size (by repeat (first | (with_reducible first | exact HB.out | apply below_alloc | apply pw_below_drewN | apply below_drew1) | exact HB.out))) : w.heap.size ≤ gb148)); have n3_ := Aside0.mk ((by rw [hg]; exact (below_size (by repeat (first | (with_reducible first | exact HB.out | apply below_alloc | apply pw_below_drewN | apply below_drew1) | exact HB.out))) : w.heap.size ≤ gb148)); clear HB; have HB := n0_; have BK148 := n1_; have GW148 := n2_; have GE148 := n3_; clear n0_ n1_ n2_ n3_; clear hb hbox hg; have hcz47_0 : w46.cell? ⟨gb148, 0, none⟩ = some (.int .u32 a0_0) := (blk_cell BK148.out 0).trans rfl; have hcz47_1 : w46.cell? ⟨gb148, 1, none⟩ = some (.int .u8 a0_1) := (blk_cell BK148.out 1).trans rfl; have hfz47_0 := blk_frozen BK148.out 0; have hfz47_1 := blk_frozen BK148.out 1))
    go_ret
    exact ⟨by first | rfl | (simp [errW_none, errW_some] <;> rfl) | (simp [*, errW_none, errW_some] <;> rfl), by repeat (first | (with_reducible first | exact HB.out | apply below_alloc | apply pw_below_drewN | apply below_drew1 | refine below_set ?_ GE148.out) | exact HB.out)⟩

/-! ### arrearslaw09_YieldGrows: function 4 -/
def findR (n : Nat) : Code → Option (Array Oper × Bool)
  | .region id ops d => if id == n then some (ops, d) else none
  | .seq a b => (findR n a).orElse fun _ => findR n b
  | .cond _ a b => (findR n a).orElse fun _ => findR n b
  | .block _ a => findR n a
  | .loop a => findR n a
  | .scope a => findR n a
  | _ => none
set_option linter.unusedSimpArgs false
theorem two_last {P : Program} {ops : Array Oper} {Q : Exit → Act → World → Prop} {md : Region.Mode} {S : World → Prop} {ds : List Nat} {i j : Nat} {Ni Nj : Option Tmp} {oi oj : Oper} {fuel : Nat} {l : Array Bool} {a : Act} {w : World} (li lj : Array Bool) (hi : ops[i]? = some oi) (hj : ops[j]? = some oj) (hNi : oi.dst = Ni) (hNj : oj.dst = Nj)
    (hc : (Region.ready md ops l == [i, j] && l.setIfInBounds i true == li && l.setIfInBounds j true == lj) = true) (hdi : i ∉ ds) (hdj : j ∈ ds)
    (h1 : ∀ K : Act → World → Prop, Shut (∀ a' w', S w' → (S w' → wpAnyLast P md ops Q S ds fuel li a' w') → K a' w') → if Region.wanted oi (yielded ops a.tmps) = true then Oper.wp P oi a w K Q else K (a.put Ni undef) w)
    (h2 : ∀ K : Act → World → Prop, Shut (∀ a' w', wpAnyLast P md ops Q S ds fuel lj a' w' → K a' w') → if Region.wanted oj (yielded ops a.tmps) = true then Oper.wp P oj a w K Q else K (a.put Nj undef) w) :
    wpAnyLast P md ops Q S ds (fuel + 1) l a w := by
  subst hNi
  subst hNj
  simp only [Bool.and_eq_true, beq_iff_eq] at hc
  obtain ⟨⟨h3, h4⟩, h5⟩ := hc
  subst h4
  subst h5
  exact wpAnyLast_ready h3 (by simp) (AllReadyL.cons hi hdi (fun K hK => h1 K hK) (AllReadyL.cons_last hj hdj (fun K hK => h2 K hK) AllReadyL.nil))
theorem one_still {P : Program} {ops : Array Oper} {Q : Exit → Act → World → Prop} {md : Region.Mode} {S : World → Prop} {ds : List Nat} {i : Nat} {N : Option Tmp} {oi : Oper} {fuel : Nat} {l : Array Bool} {a : Act} {w : World} {v : Value} (l' : Array Bool) (hi : ops[i]? = some oi) (hN : oi.dst = N) (hc : readyB md ops l l' i = true)
    (hw : Region.wanted oi (yielded ops a.tmps) = true) (hrun : (execOp a.eval oi).run P w = .ok (.value v) w) {a' : Act} (ha : a.put N v = a') (h : wpAnyLast P md ops Q S ds fuel l' a' w) :
    wpAnyLast P md ops Q S ds (fuel + 1) l a w := by
  subst hN
  subst ha
  simp only [readyB, Bool.and_eq_true, beq_iff_eq] at hc
  obtain ⟨h1, h2⟩ := hc
  subst h2
  refine wpAnyLast_all h1 (by simp) (fun j hj => ?_)
  obtain rfl : j = i := by simpa using hj
  refine wpOp_step hi (fun K' hK => ?_)
  rw [if_pos hw]
  unfold Oper.wp
  rw [hrun]
  exact hK _ _ ⟨fun _ hS => hS, h⟩
set_option maxHeartbeats 4000000 in
set_option maxRecDepth 100000 in
theorem growr3 (ops : Array Oper) (hops : Try.f4.body.bind (findR 3) = some (ops, true)) (Q : Exit → Act → World → Prop) (w : World) (ga gb : Nat) (a0 a1 b0 A B : Int) (ds : _) (t0 t1 t2 t3 t4 t5 t8 t9 t10 t11 t12 t13 t14 t15 t16 t17 t18 t19 t20 t21 t22 t23 t24 t25 t26 t27 t28 t29 t30 t31 t32 t33 t34 t35 t36 t37 t38 t39 t40 t41 t42 t43 t44 t45 t46 t47 t48 t49 t50 t51 t52 t53 t54 t55 t56 t57 t58 t59 t60 t61 t62 t63 t64 t65 t66 t67 t68 t69 t70 t71 t72 t73 t74 t75 t76 t77 t78 t79 t80 t81 t82 t83 t84 t85 t86 t87 t88 t89 t90 t91 t92 t93 t94 t95 t96 t97 t98 t99 t100 t101 t102 t103 t104 t105 t106 t107 t108 t109 t110 t111 t112 t113 t114 t115 : Value)
    (hQ : ∀ c a d v w, Q (.panic c) (Act.put a d v) w → Q (.panic c) a w) (hne : ga ≠ gb) (hfa : w.frozen? ⟨ga, 0, none⟩ = false) (hfb0 : w.frozen? ⟨gb, 0, none⟩ = false) (hfb1 : w.frozen? ⟨gb, 1, none⟩ = false) (ha0 : w.cell? ⟨ga, 0, none⟩ = some (.int .u32 a0)) (ha1 : w.cell? ⟨ga, 1, none⟩ = some (.int .u8 a1)) (hb0 : w.cell? ⟨gb, 0, none⟩ = some (.int .u32 b0)) (bb1 : Value) (hb1 : w.cell? ⟨gb, 1, none⟩ = some bb1)
    (eA : (if b0 < a0 then b0 else a0).tmod 1000001 = A) (eB : (if a0 < b0 then b0 else a0).tmod 1000001 = B)
    (H : ∀ (u24 u25 u26 u27 u28 u29 u30 u31 u32 u33 u34 u35 u36 u37 u38 u39 u40 : Value), Q .normal { tmps := (List.toArray (t0 :: t1 :: t2 :: t3 :: t4 :: t5 :: Value.pointer (some ⟨ga, 0, none⟩) :: Value.pointer (some ⟨gb, 0, none⟩) :: t8 :: t9 :: t10 :: t11 :: t12 :: t13 :: t14 :: t15 :: t16 :: t17 :: t18 :: t19 :: t20 :: t21 :: t22 :: t23 :: u24 :: u25 :: u26 :: u27 :: u28 :: u29 :: u30 :: u31 :: u32 :: u33 :: u34 :: u35 :: u36 :: u37 :: u38 :: u39 :: u40 :: t41 :: t42 :: t43 :: t44 :: t45 :: t46 :: t47 :: t48 :: t49 :: t50 :: t51 :: t52 :: t53 :: t54 :: t55 :: t56 :: t57 :: t58 :: t59 :: t60 :: t61 :: t62 :: t63 :: t64 :: t65 :: t66 :: t67 :: t68 :: t69 :: t70 :: t71 :: t72 :: t73 :: t74 :: t75 :: t76 :: t77 :: t78 :: t79 :: t80 :: t81 :: t82 :: t83 :: t84 :: t85 :: t86 :: t87 :: t88 :: t89 :: t90 :: t91 :: t92 :: t93 :: t94 :: t95 :: t96 :: t97 :: t98 :: t99 :: t100 :: t101 :: t102 :: t103 :: t104 :: t105 :: t106 :: t107 :: t108 :: t109 :: t110 :: t111 :: t112 :: t113 :: t114 :: t115 :: [])), defers := ds } (((w.setCell ⟨ga, 0, none⟩ (.int .u32 A)).setCell ⟨gb, 0, none⟩ (.int .u32 B)).setCell ⟨gb, 1, none⟩ (.int .u8 a1)).drew) :
    Code.wp Try.prog (.region 3 ops true) Q { tmps := (List.toArray (t0 :: t1 :: t2 :: t3 :: t4 :: t5 :: Value.pointer (some ⟨ga, 0, none⟩) :: Value.pointer (some ⟨gb, 0, none⟩) :: t8 :: t9 :: t10 :: t11 :: t12 :: t13 :: t14 :: t15 :: t16 :: t17 :: t18 :: t19 :: t20 :: t21 :: t22 :: t23 :: t24 :: t25 :: t26 :: t27 :: t28 :: t29 :: t30 :: t31 :: t32 :: t33 :: t34 :: t35 :: t36 :: t37 :: t38 :: t39 :: t40 :: t41 :: t42 :: t43 :: t44 :: t45 :: t46 :: t47 :: t48 :: t49 :: t50 :: t51 :: t52 :: t53 :: t54 :: t55 :: t56 :: t57 :: t58 :: t59 :: t60 :: t61 :: t62 :: t63 :: t64 :: t65 :: t66 :: t67 :: t68 :: t69 :: t70 :: t71 :: t72 :: t73 :: t74 :: t75 :: t76 :: t77 :: t78 :: t79 :: t80 :: t81 :: t82 :: t83 :: t84 :: t85 :: t86 :: t87 :: t88 :: t89 :: t90 :: t91 :: t92 :: t93 :: t94 :: t95 :: t96 :: t97 :: t98 :: t99 :: t100 :: t101 :: t102 :: t103 :: t104 :: t105 :: t106 :: t107 :: t108 :: t109 :: t110 :: t111 :: t112 :: t113 :: t114 :: t115 :: [])), defers := ds } w := by
  simp [Try.f4, findR] at hops
  subst hops
  refine start_ (n := 20) (S := fun w' => w'.cell? ⟨ga, 0, none⟩ = some (.int .u32 a0) ∧ w'.cell? ⟨ga, 1, none⟩ = some (.int .u8 a1) ∧ w'.cell? ⟨gb, 0, none⟩ = some (.int .u32 b0)) (ds := [15, 17, 19]) #[false, false, false, false, false, false, false, false, false, false, false, false, false, false, false, false, false, false, false, false] (by kernel_rfl) rfl rfl ⟨ha0, ha1, hb0⟩ (fun hHeld => ?_)
  refine pure_ (i := 0) (N := some 24) (v := ?_) (a' := ?_) #[true, false, false, false, false, false, false, false, false, false, false, false, false, false, false, false, false, false, false, false] rfl rfl (by kernel_rfl) (fun c a w h => hQ c _ _ _ w h) (Or.inl ⟨by rfl, ?_⟩) ?_ ?_
  rotate_left
  · intro w'
    go_simp
    (try simp only [eA, eB])
    with_reducible rfl
  rotate_left
  · simp only [Act.put, List.setIfInBounds_toArray, List.set_cons_zero, List.set_cons_succ, i64_w, i32_w]
    rfl
  refine pure_ (i := 2) (N := some 26) (v := ?_) (a' := ?_) #[true, false, true, false, false, false, false, false, false, false, false, false, false, false, false, false, false, false, false, false] rfl rfl (by kernel_rfl) (fun c a w h => hQ c _ _ _ w h) (Or.inl ⟨by rfl, ?_⟩) ?_ ?_
  rotate_left
  · intro w'
    go_simp
    (try simp only [eA, eB])
    with_reducible rfl
  rotate_left
  · simp only [Act.put, List.setIfInBounds_toArray, List.set_cons_zero, List.set_cons_succ, i64_w, i32_w]
    rfl
  refine pure_ (i := 6) (N := some 30) (v := ?_) (a' := ?_) #[true, false, true, false, false, false, true, false, false, false, false, false, false, false, false, false, false, false, false, false] rfl rfl (by kernel_rfl) (fun c a w h => hQ c _ _ _ w h) (Or.inl ⟨by rfl, ?_⟩) ?_ ?_
  rotate_left
  · intro w'
    go_simp
    (try simp only [eA, eB])
    with_reducible rfl
  rotate_left
  · simp only [Act.put, List.setIfInBounds_toArray, List.set_cons_zero, List.set_cons_succ, i64_w, i32_w]
    rfl
  refine pure_ (i := 8) (N := some 32) (v := ?_) (a' := ?_) #[true, false, true, false, false, false, true, false, true, false, false, false, false, false, false, false, false, false, false, false] rfl rfl (by kernel_rfl) (fun c a w h => hQ c _ _ _ w h) (Or.inl ⟨by rfl, ?_⟩) ?_ ?_
  rotate_left
  · intro w'
    go_simp
    (try simp only [eA, eB])
    with_reducible rfl
  rotate_left
  · simp only [Act.put, List.setIfInBounds_toArray, List.set_cons_zero, List.set_cons_succ, i64_w, i32_w]
    rfl
  refine pure_ (i := 12) (N := some 36) (v := ?_) (a' := ?_) #[true, false, true, false, false, false, true, false, true, false, false, false, true, false, false, false, false, false, false, false] rfl rfl (by kernel_rfl) (fun c a w h => hQ c _ _ _ w h) (Or.inl ⟨by rfl, ?_⟩) ?_ ?_
  rotate_left
  · intro w'
    go_simp
    (try simp only [eA, eB])
    with_reducible rfl
  rotate_left
  · simp only [Act.put, List.setIfInBounds_toArray, List.set_cons_zero, List.set_cons_succ, i64_w, i32_w]
    rfl
  refine take_ (i := 1) (N := some 25) (v := ?_) (a' := ?_) #[true, true, true, false, false, false, true, false, true, false, false, false, true, false, false, false, false, false, false, false] rfl rfl (by kernel_rfl) (fun c a w h => hQ c _ _ _ w h) (Or.inl ⟨by rfl, ?_⟩) hHeld ?_ ?_
  rotate_left
  · intro w' s0
    go_simp
    (try simp only [s0.1, s0.2.1, s0.2.2, eA, eB])
    with_reducible rfl
  rotate_left
  · simp only [Act.put, List.setIfInBounds_toArray, List.set_cons_zero, List.set_cons_succ, i64_w, i32_w]
    rfl
  refine take_ (i := 3) (N := some 27) (v := ?_) (a' := ?_) #[true, true, true, true, false, false, true, false, true, false, false, false, true, false, false, false, false, false, false, false] rfl rfl (by kernel_rfl) (fun c a w h => hQ c _ _ _ w h) (Or.inl ⟨by rfl, ?_⟩) hHeld ?_ ?_
  rotate_left
  · intro w' s0
    go_simp
    (try simp only [s0.1, s0.2.1, s0.2.2, eA, eB])
    with_reducible rfl
  rotate_left
  · simp only [Act.put, List.setIfInBounds_toArray, List.set_cons_zero, List.set_cons_succ, i64_w, i32_w]
    rfl
  refine take_ (i := 7) (N := some 31) (v := ?_) (a' := ?_) #[true, true, true, true, false, false, true, true, true, false, false, false, true, false, false, false, false, false, false, false] rfl rfl (by kernel_rfl) (fun c a w h => hQ c _ _ _ w h) (Or.inl ⟨by rfl, ?_⟩) hHeld ?_ ?_
  rotate_left
  · intro w' s0
    go_simp
    (try simp only [s0.1, s0.2.1, s0.2.2, eA, eB])
    with_reducible rfl
  rotate_left
  · simp only [Act.put, List.setIfInBounds_toArray, List.set_cons_zero, List.set_cons_succ, i64_w, i32_w]
    rfl
  refine take_ (i := 13) (N := some 37) (v := ?_) (a' := ?_) #[true, true, true, true, false, false, true, true, true, false, false, false, true, true, false, false, false, false, false, false] rfl rfl (by kernel_rfl) (fun c a w h => hQ c _ _ _ w h) (Or.inl ⟨by rfl, ?_⟩) hHeld ?_ ?_
  rotate_left
  · intro w' s0
    go_simp
    (try simp only [s0.1, s0.2.1, s0.2.2, eA, eB])
    with_reducible rfl
  rotate_left
  · simp only [Act.put, List.setIfInBounds_toArray, List.set_cons_zero, List.set_cons_succ, i64_w, i32_w]
    rfl
  refine pure_ (i := 4) (N := some 28) (v := ?_) (a' := ?_) #[true, true, true, true, true, false, true, true, true, false, false, false, true, true, false, false, false, false, false, false] rfl rfl (by kernel_rfl) (fun c a w h => hQ c _ _ _ w h) (Or.inl ⟨by rfl, ?_⟩) ?_ ?_
  rotate_left
  · intro w'
    go_simp
    (try simp only [eA, eB])
    with_reducible rfl
  rotate_left
  · simp only [Act.put, List.setIfInBounds_toArray, List.set_cons_zero, List.set_cons_succ, i64_w, i32_w]
    rfl
  refine pure_ (i := 5) (N := some 29) (v := ?_) (a' := ?_) #[true, true, true, true, true, true, true, true, true, false, false, false, true, true, false, false, false, false, false, false] rfl rfl (by kernel_rfl) (fun c a w h => hQ c _ _ _ w h) (Or.inl ⟨by rfl, ?_⟩) ?_ ?_
  rotate_left
  · intro w'
    go_simp
    (try simp only [eA, eB])
    with_reducible rfl
  rotate_left
  · simp only [Act.put, List.setIfInBounds_toArray, List.set_cons_zero, List.set_cons_succ, i64_w, i32_w]
    rfl
  refine pure_ (i := 14) (N := some 38) (v := ?_) (a' := ?_) #[true, true, true, true, true, true, true, true, true, false, false, false, true, true, true, false, false, false, false, false] rfl rfl (by kernel_rfl) (fun c a w h => hQ c _ _ _ w h) (Or.inl ⟨by rfl, ?_⟩) ?_ ?_
  rotate_left
  · intro w'
    go_simp
    (try simp only [eA, eB])
    with_reducible rfl
  rotate_left
  · simp only [Act.put, List.setIfInBounds_toArray, List.set_cons_zero, List.set_cons_succ, i64_w, i32_w]
    rfl
  have hne' := Ne.symm hne
  have hq0 : (w.setCell ⟨ga, 0, none⟩ (.int .u32 A)).cell? ⟨gb, 0, none⟩ = some (.int .u32 b0) := (cell_far (p := ⟨ga, 0, none⟩) hne' _).trans hb0
  have hq1 : (w.setCell ⟨ga, 0, none⟩ (.int .u32 A)).cell? ⟨gb, 1, none⟩ = some bb1 := (cell_far (p := ⟨ga, 0, none⟩) hne' _).trans hb1
  have hz0 : (w.setCell ⟨ga, 0, none⟩ (.int .u32 A)).frozen? ⟨gb, 0, none⟩ = false := (World.frozen?_setCell _ _ _ _).trans hfb0
  have hz1 : ((w.setCell ⟨ga, 0, none⟩ (.int .u32 A)).setCell ⟨gb, 0, none⟩ (.int .u32 B)).frozen? ⟨gb, 1, none⟩ = false := (World.frozen?_setCell _ _ _ _).trans ((World.frozen?_setCell _ _ _ _).trans hfb1)
  have hg1 : ((w.drew).setCell ⟨ga, 0, none⟩ (.int .u32 A)).cell? ⟨gb, 0, none⟩ = some (.int .u32 b0) := (cell_far (p := ⟨ga, 0, none⟩) (Ne.symm hne) _).trans hb0
  refine two_last (i := 9) (j := 15) (Ni := some 33) (Nj := none) #[true, true, true, true, true, true, true, true, true, true, false, false, true, true, true, false, false, false, false, false] #[true, true, true, true, true, true, true, true, true, false, false, false, true, true, true, true, false, false, false, false] rfl rfl rfl rfl (by kernel_rfl) (by decide) (by decide) (fun K hK => ?_) (fun K hK => ?_)
  · refine value_ (v := .int .u32 b0) (w1 := w.drew) (by rfl) rfl ?_ ?_
    · go_simp
      (try (simp only [hb0]; rfl))
    refine hK.out _ _ hHeld (fun hS2 => ?_)
    clear hK K
    refine norm_ (by simp only [Act.put, List.setIfInBounds_toArray, List.set_cons_zero, List.set_cons_succ]; rfl) ?_
    refine pure_ (i := 10) (N := some 34) (v := ?_) (a' := ?_) #[true, true, true, true, true, true, true, true, true, true, true, false, true, true, true, false, false, false, false, false] rfl rfl (by kernel_rfl) (fun c a w h => hQ c _ _ _ w h) (Or.inl ⟨by rfl, ?_⟩) ?_ ?_
    rotate_left
    · intro w'
      go_simp
      (try simp only [eA, eB])
      with_reducible rfl
    rotate_left
    · simp only [Act.put, List.setIfInBounds_toArray, List.set_cons_zero, List.set_cons_succ, i64_w, i32_w]
      rfl
    refine pure_ (i := 11) (N := some 35) (v := ?_) (a' := ?_) #[true, true, true, true, true, true, true, true, true, true, true, true, true, true, true, false, false, false, false, false] rfl rfl (by kernel_rfl) (fun c a w h => hQ c _ _ _ w h) (Or.inl ⟨by rfl, ?_⟩) ?_ ?_
    rotate_left
    · intro w'
      go_simp
      (try simp only [eA, eB])
      with_reducible rfl
    rotate_left
    · simp only [Act.put, List.setIfInBounds_toArray, List.set_cons_zero, List.set_cons_succ, i64_w, i32_w]
      rfl
    refine last_ (i := 15) (N := none) #[true, true, true, true, true, true, true, true, true, true, true, true, true, true, true, true, false, false, false, false] rfl rfl (by kernel_rfl) (by decide) (fun K hK => ?_)
    refine skip_ (w1 := ?_) (by rfl) rfl ?_ ?_
    rotate_left
    · go_simp
      (try simp only [hfa, hfb0, hfb1, Bool.false_eq_true, if_false, eA])
      rfl
    refine hK.out _ _ ?_
    clear hK K
    refine pure_ (i := 16) (N := some 39) (v := ?_) (a' := ?_) #[true, true, true, true, true, true, true, true, true, true, true, true, true, true, true, true, true, false, false, false] rfl rfl (by kernel_rfl) (fun c a w h => hQ c _ _ _ w h) (Or.inl ⟨by rfl, ?_⟩) ?_ ?_
    rotate_left
    · intro w'
      go_simp
      (try simp only [eA, eB])
      with_reducible rfl
    rotate_left
    · simp only [Act.put, List.setIfInBounds_toArray, List.set_cons_zero, List.set_cons_succ, i64_w, i32_w]
      rfl
    refine last_ (i := 17) (N := none) #[true, true, true, true, true, true, true, true, true, true, true, true, true, true, true, true, true, true, false, false] rfl rfl (by kernel_rfl) (by decide) (fun K hK => ?_)
    refine skip_ (w1 := ?_) (by rfl) rfl ?_ ?_
    rotate_left
    · go_simp
      (try simp only [hfa, hfb0, hfb1, Bool.false_eq_true, if_false, hq0, hz0, eB])
      rfl
    refine hK.out _ _ ?_
    clear hK K
    refine pure_ (i := 18) (N := some 40) (v := ?_) (a' := ?_) #[true, true, true, true, true, true, true, true, true, true, true, true, true, true, true, true, true, true, true, false] rfl rfl (by kernel_rfl) (fun c a w h => hQ c _ _ _ w h) (Or.inl ⟨by rfl, ?_⟩) ?_ ?_
    rotate_left
    · intro w'
      go_simp
      (try simp only [eA, eB])
      with_reducible rfl
    rotate_left
    · simp only [Act.put, List.setIfInBounds_toArray, List.set_cons_zero, List.set_cons_succ, i64_w, i32_w]
      rfl
    refine last_ (i := 19) (N := none) #[true, true, true, true, true, true, true, true, true, true, true, true, true, true, true, true, true, true, true, true] rfl rfl (by kernel_rfl) (by decide) (fun K hK => ?_)
    refine skip_ (w1 := ?_) (by rfl) rfl ?_ ?_
    rotate_left
    · go_simp
      (try simp only [hfa, hfb0, hfb1, Bool.false_eq_true, if_false, hq1, hz1])
      rfl
    refine hK.out _ _ ?_
    clear hK K
    refine done_ (by kernel_rfl) ?_
    exact H _ _ _ _ _ _ _ _ _ _ _ _ _ _ _ _ _
  · refine skip_ (w1 := ?_) (by rfl) rfl ?_ ?_
    rotate_left
    · go_simp
      (try simp only [hfa, Bool.false_eq_true, if_false, eA])
      rfl
    refine hK.out _ _ ?_
    clear hK K
    refine one_still (i := 9) (v := .int .u32 b0) (N := some 33) #[true, true, true, true, true, true, true, true, true, true, false, false, true, true, true, true, false, false, false, false] rfl rfl (by kernel_rfl) (by rfl) ?_ (a' := ?_) ?_ ?_
    rotate_left
    rotate_left
    · simp only [Act.put, List.setIfInBounds_toArray, List.set_cons_zero, List.set_cons_succ, i64_w, i32_w]
      rfl
    rotate_left
    · go_simp
      (try (simp only [hq0]; rfl))
    refine pure_ (i := 10) (N := some 34) (v := ?_) (a' := ?_) #[true, true, true, true, true, true, true, true, true, true, true, false, true, true, true, true, false, false, false, false] rfl rfl (by kernel_rfl) (fun c a w h => hQ c _ _ _ w h) (Or.inl ⟨by rfl, ?_⟩) ?_ ?_
    rotate_left
    · intro w'
      go_simp
      (try simp only [eA, eB])
      with_reducible rfl
    rotate_left
    · simp only [Act.put, List.setIfInBounds_toArray, List.set_cons_zero, List.set_cons_succ, i64_w, i32_w]
      rfl
    refine pure_ (i := 11) (N := some 35) (v := ?_) (a' := ?_) #[true, true, true, true, true, true, true, true, true, true, true, true, true, true, true, true, false, false, false, false] rfl rfl (by kernel_rfl) (fun c a w h => hQ c _ _ _ w h) (Or.inl ⟨by rfl, ?_⟩) ?_ ?_
    rotate_left
    · intro w'
      go_simp
      (try simp only [eA, eB])
      with_reducible rfl
    rotate_left
    · simp only [Act.put, List.setIfInBounds_toArray, List.set_cons_zero, List.set_cons_succ, i64_w, i32_w]
      rfl
    refine pure_ (i := 16) (N := some 39) (v := ?_) (a' := ?_) #[true, true, true, true, true, true, true, true, true, true, true, true, true, true, true, true, true, false, false, false] rfl rfl (by kernel_rfl) (fun c a w h => hQ c _ _ _ w h) (Or.inl ⟨by rfl, ?_⟩) ?_ ?_
    rotate_left
    · intro w'
      go_simp
      (try simp only [eA, eB])
      with_reducible rfl
    rotate_left
    · simp only [Act.put, List.setIfInBounds_toArray, List.set_cons_zero, List.set_cons_succ, i64_w, i32_w]
      rfl
    refine last_ (i := 17) (N := none) #[true, true, true, true, true, true, true, true, true, true, true, true, true, true, true, true, true, true, false, false] rfl rfl (by kernel_rfl) (by decide) (fun K hK => ?_)
    refine skip_ (w1 := ?_) (by rfl) rfl ?_ ?_
    rotate_left
    · go_simp
      (try simp only [hfa, hfb0, hfb1, Bool.false_eq_true, if_false, hq0, hz0, eB])
      rfl
    refine hK.out _ _ ?_
    clear hK K
    refine pure_ (i := 18) (N := some 40) (v := ?_) (a' := ?_) #[true, true, true, true, true, true, true, true, true, true, true, true, true, true, true, true, true, true, true, false] rfl rfl (by kernel_rfl) (fun c a w h => hQ c _ _ _ w h) (Or.inl ⟨by rfl, ?_⟩) ?_ ?_
    rotate_left
    · intro w'
      go_simp
      (try simp only [eA, eB])
      with_reducible rfl
    rotate_left
    · simp only [Act.put, List.setIfInBounds_toArray, List.set_cons_zero, List.set_cons_succ, i64_w, i32_w]
      rfl
    refine last_ (i := 19) (N := none) #[true, true, true, true, true, true, true, true, true, true, true, true, true, true, true, true, true, true, true, true] rfl rfl (by kernel_rfl) (by decide) (fun K hK => ?_)
    refine skip_ (w1 := ?_) (by rfl) rfl ?_ ?_
    rotate_left
    · go_simp
      (try simp only [hfa, hfb0, hfb1, Bool.false_eq_true, if_false, hq1, hz1])
      rfl
    refine hK.out _ _ ?_
    clear hK K
    refine done_ (by kernel_rfl) ?_
    exact H _ _ _ _ _ _ _ _ _ _ _ _ _ _ _ _ _
set_option maxHeartbeats 4000000 in
set_option maxRecDepth 100000 in
theorem grow1 (k : Nat) (a0 a1 b0 b1 p q d m A B : Int) (haw : arrearslaw09_awake.f k = some true) (eA : (if b0 < a0 then b0 else a0).tmod 1000001 = A) (eB : (if a0 < b0 then b0 else a0).tmod 1000001 = B) (h0 : B < A) (w : World) : Calls Try.prog 4 #[.agg #[.int .u32 a0, .int .u8 a1], .agg #[.int .u32 b0, .int .u8 b1], .int .i64 p, .int .i64 q, .int .u16 d, .int .u16 m] w fun e w' => e = .returned (.bool true) ∧ Below w.heap.size w w' := by
  have HAW := Aside0.mk haw
  have HEA := Aside0.mk eA
  have HEB := Aside0.mk eB
  clear haw eA eB
  go_enter Try.func4, Try.ntmps4
  go_upto_region 3 with (first | ((with_reducible refine gate_dst (N := 6) rfl ?_); (try (refine gate_guard (by rfl) ?_; dsimp only)); refine box_event ?hg (N := 6) ?hd (cs := #[.int .u32 a0, .int .u8 a1]) (t := 24) ?hr ?_; (case hd => rfl); (case hg => rfl); (case hr => first | (go_simp; done) | (go_simp; rfl)); intro gb6 hg w6 hbox hb; have BK6 := Aside0.mk hbox; have HB := Aside0.mk hb; have GE6 := Aside0.mk (Nat.le_of_eq hg.symm : w.heap.size ≤ gb6); clear hbox hb hg) | ((with_reducible refine gate_dst (N := 7) rfl ?_); (try (refine gate_guard (by rfl) ?_; dsimp only)); refine box_event ?hg (N := 7) ?hd (cs := #[.int .u32 b0, .int .u8 b1]) (t := 24) ?hr ?_; (case hd => rfl); (case hg => rfl); (case hr => first | (go_simp; done) | (go_simp; rfl)); intro gb7 hg w7 hbox hb; have n6_ := Aside0.mk (blk_below BK6.out hb); have NB6_7 := Aside0.mk (by rw [hg]; exact Nat.ne_of_lt (blk_lt BK6.out) : gb6 ≠ gb7); have m_ := Aside0.mk (below_step HB.out hb); have GE7 := Aside0.mk (Nat.le_trans (below_size HB.out) (Nat.le_of_eq hg.symm) : w.heap.size ≤ gb7); clear HB; have HB := m_; clear m_; clear BK6; have BK6 := n6_; clear n6_; have BK7 := Aside0.mk hbox; clear hbox hb hg) | (go_at_call 6; (with_reducible refine (arrearslaw09_awake.calls k true _ HAW.out).mono ?_); rintro e w8 ⟨rfl, hb⟩; have n6_ := Aside0.mk (blk_below BK6.out hb); have n7_ := Aside0.mk (blk_below BK7.out hb); have m_ := Aside0.mk (below_step HB.out hb); clear BK6 BK7 HB; have BK6 := n6_; have BK7 := n7_; have HB := m_; clear n6_ n7_ m_ hb))
  refine growr3 _ ?zo9 _ _ gb6 gb7 a0 a1 b0 A B _ _ _ _ _ _ _ _ _ _ _ _ _ _ _ _ _ _ _ _ _ _ _ _ _ _ _ _ _ _ _ _ _ _ _ _ _ _ _ _ _ _ _ _ _ _ _ _ _ _ _ _ _ _ _ _ _ _ _ _ _ _ _ _ _ _ _ _ _ _ _ _ _ _ _ _ _ _ _ _ _ _ _ _ _ _ _ _ _ _ _ _ _ _ _ _ _ _ _ _ _ _ _ _ _ _ _ _ _ _ _ _ _ _ _ ?hQ NB6_7.out (blk_frozen BK6.out 0) (blk_frozen BK7.out 0) (blk_frozen BK7.out 1) ((blk_cell BK6.out 0).trans rfl) ((blk_cell BK6.out 1).trans rfl) ((blk_cell BK7.out 0).trans rfl) _ ((blk_cell BK7.out 1).trans rfl) HEA.out HEB.out ?H
  case zo9 => rfl
  case hQ => exact fun _ _ d _ _ h => by cases d <;> exact h
  intros
  obtain ⟨W, hW⟩ : ∃ W, W = (((w8.setCell ⟨gb6, 0, none⟩ (.int .u32 A)).setCell ⟨gb7, 0, none⟩ (.int .u32 B)).setCell ⟨gb7, 1, none⟩ (.int .u8 a1)).drew := ⟨_, rfl⟩
  rw [← hW]
  have n6_ := Aside0.mk (show W.heap[gb6]? = some (.cells #[.int .u32 A, .int .u8 a1] 24 (0, 0)) by rw [hW]; exact blk_drew (blk_far (blk_far (blk_put BK6.out 0 _ rfl) NB6_7.out _) NB6_7.out _))
  have n7_ := Aside0.mk (show W.heap[gb7]? = some (.cells #[.int .u32 B, .int .u8 a1] 24 (0, 0)) by rw [hW]; exact blk_drew (blk_put (blk_put (blk_far BK7.out (Ne.symm NB6_7.out) _) 0 _ rfl) 1 _ rfl))
  have m_ := Aside0.mk (show Below w.heap.size w W by rw [hW]; exact below_drew1 (below_set (below_set (below_set HB.out GE6.out) GE7.out) GE7.out))
  clear BK6 BK7 HB hW
  have BK6 := n6_
  have BK7 := n7_
  have HB := m_
  clear n6_ n7_ m_
  have hc6_0W : W.cell? ⟨gb6, 0, none⟩ = some (.int .u32 A) := (blk_cell BK6.out 0).trans rfl
  have hc6_1W : W.cell? ⟨gb6, 1, none⟩ = some (.int .u8 a1) := (blk_cell BK6.out 1).trans rfl
  have hc7_0W : W.cell? ⟨gb7, 0, none⟩ = some (.int .u32 B) := (blk_cell BK7.out 0).trans rfl
  have hc7_1W : W.cell? ⟨gb7, 1, none⟩ = some (.int .u8 a1) := (blk_cell BK7.out 1).trans rfl
  go_wp2
  go_ret
  exact ⟨rfl, HB.out⟩
set_option maxHeartbeats 4000000 in
set_option maxRecDepth 100000 in
theorem grow2 (k : Nat) (a0 a1 b0 b1 p q d m A B : Int) (haw : arrearslaw09_awake.f k = some true) (eA : (if b0 < a0 then b0 else a0).tmod 1000001 = A) (eB : (if a0 < b0 then b0 else a0).tmod 1000001 = B) (h0 : A ≤ B) (hr1 : arrearslaw09_right.f A a1 p 0 0 = some false) (w : World) : Calls Try.prog 4 #[.agg #[.int .u32 a0, .int .u8 a1], .agg #[.int .u32 b0, .int .u8 b1], .int .i64 p, .int .i64 q, .int .u16 d, .int .u16 m] w fun e w' => e = .returned (.bool true) ∧ Below w.heap.size w w' := by
  have HR1 := Aside0.mk hr1
  clear hr1
  have HAW := Aside0.mk haw
  have HEA := Aside0.mk eA
  have HEB := Aside0.mk eB
  clear haw eA eB
  go_enter Try.func4, Try.ntmps4
  go_upto_region 3 with (first | ((with_reducible refine gate_dst (N := 6) rfl ?_); (try (refine gate_guard (by rfl) ?_; dsimp only)); refine box_event ?hg (N := 6) ?hd (cs := #[.int .u32 a0, .int .u8 a1]) (t := 24) ?hr ?_; (case hd => rfl); (case hg => rfl); (case hr => first | (go_simp; done) | (go_simp; rfl)); intro gb6 hg w6 hbox hb; have BK6 := Aside0.mk hbox; have HB := Aside0.mk hb; have GE6 := Aside0.mk (Nat.le_of_eq hg.symm : w.heap.size ≤ gb6); clear hbox hb hg) | ((with_reducible refine gate_dst (N := 7) rfl ?_); (try (refine gate_guard (by rfl) ?_; dsimp only)); refine box_event ?hg (N := 7) ?hd (cs := #[.int .u32 b0, .int .u8 b1]) (t := 24) ?hr ?_; (case hd => rfl); (case hg => rfl); (case hr => first | (go_simp; done) | (go_simp; rfl)); intro gb7 hg w7 hbox hb; have n6_ := Aside0.mk (blk_below BK6.out hb); have NB6_7 := Aside0.mk (by rw [hg]; exact Nat.ne_of_lt (blk_lt BK6.out) : gb6 ≠ gb7); have m_ := Aside0.mk (below_step HB.out hb); have GE7 := Aside0.mk (Nat.le_trans (below_size HB.out) (Nat.le_of_eq hg.symm) : w.heap.size ≤ gb7); clear HB; have HB := m_; clear m_; clear BK6; have BK6 := n6_; clear n6_; have BK7 := Aside0.mk hbox; clear hbox hb hg) | (go_at_call 6; (with_reducible refine (arrearslaw09_awake.calls k true _ HAW.out).mono ?_); rintro e w8 ⟨rfl, hb⟩; have n6_ := Aside0.mk (blk_below BK6.out hb); have n7_ := Aside0.mk (blk_below BK7.out hb); have m_ := Aside0.mk (below_step HB.out hb); clear BK6 BK7 HB; have BK6 := n6_; have BK7 := n7_; have HB := m_; clear n6_ n7_ m_ hb))
  refine growr3 _ ?zo9 _ _ gb6 gb7 a0 a1 b0 A B _ _ _ _ _ _ _ _ _ _ _ _ _ _ _ _ _ _ _ _ _ _ _ _ _ _ _ _ _ _ _ _ _ _ _ _ _ _ _ _ _ _ _ _ _ _ _ _ _ _ _ _ _ _ _ _ _ _ _ _ _ _ _ _ _ _ _ _ _ _ _ _ _ _ _ _ _ _ _ _ _ _ _ _ _ _ _ _ _ _ _ _ _ _ _ _ _ _ _ _ _ _ _ _ _ _ _ _ _ _ _ _ _ _ _ ?hQ NB6_7.out (blk_frozen BK6.out 0) (blk_frozen BK7.out 0) (blk_frozen BK7.out 1) ((blk_cell BK6.out 0).trans rfl) ((blk_cell BK6.out 1).trans rfl) ((blk_cell BK7.out 0).trans rfl) _ ((blk_cell BK7.out 1).trans rfl) HEA.out HEB.out ?H
  case zo9 => rfl
  case hQ => exact fun _ _ d _ _ h => by cases d <;> exact h
  intros
  obtain ⟨W, hW⟩ : ∃ W, W = (((w8.setCell ⟨gb6, 0, none⟩ (.int .u32 A)).setCell ⟨gb7, 0, none⟩ (.int .u32 B)).setCell ⟨gb7, 1, none⟩ (.int .u8 a1)).drew := ⟨_, rfl⟩
  rw [← hW]
  have n6_ := Aside0.mk (show W.heap[gb6]? = some (.cells #[.int .u32 A, .int .u8 a1] 24 (0, 0)) by rw [hW]; exact blk_drew (blk_far (blk_far (blk_put BK6.out 0 _ rfl) NB6_7.out _) NB6_7.out _))
  have n7_ := Aside0.mk (show W.heap[gb7]? = some (.cells #[.int .u32 B, .int .u8 a1] 24 (0, 0)) by rw [hW]; exact blk_drew (blk_put (blk_put (blk_far BK7.out (Ne.symm NB6_7.out) _) 0 _ rfl) 1 _ rfl))
  have m_ := Aside0.mk (show Below w.heap.size w W by rw [hW]; exact below_drew1 (below_set (below_set (below_set HB.out GE6.out) GE7.out) GE7.out))
  clear BK6 BK7 HB hW
  have BK6 := n6_
  have BK7 := n7_
  have HB := m_
  clear n6_ n7_ m_
  have hc6_0W : W.cell? ⟨gb6, 0, none⟩ = some (.int .u32 A) := (blk_cell BK6.out 0).trans rfl
  have hc6_1W : W.cell? ⟨gb6, 1, none⟩ = some (.int .u8 a1) := (blk_cell BK6.out 1).trans rfl
  have hc7_0W : W.cell? ⟨gb7, 0, none⟩ = some (.int .u32 B) := (blk_cell BK7.out 0).trans rfl
  have hc7_1W : W.cell? ⟨gb7, 1, none⟩ = some (.int .u8 a1) := (blk_cell BK7.out 1).trans rfl
  go_wp2_with (first | (go_at_call 7; (with_reducible refine (arrearslaw09_right.calls A a1 p 0 0 _ _ HR1.out).mono ?_); rintro e w9 ⟨rfl, hb⟩; have n6_ := Aside0.mk (blk_below BK6.out hb); have n7_ := Aside0.mk (blk_below BK7.out hb); have m_ := Aside0.mk (below_step HB.out hb); clear BK6 BK7 HB; have BK6 := n6_; have BK7 := n7_; have HB := m_; clear n6_ n7_ m_ hb; have hc6_0w9 : w9.cell? ⟨gb6, 0, none⟩ = some (.int .u32 A) := (blk_cell BK6.out 0).trans rfl; have hc6_1w9 : w9.cell? ⟨gb6, 1, none⟩ = some (.int .u8 a1) := (blk_cell BK6.out 1).trans rfl; have hc7_0w9 : w9.cell? ⟨gb7, 0, none⟩ = some (.int .u32 B) := (blk_cell BK7.out 0).trans rfl; have hc7_1w9 : w9.cell? ⟨gb7, 1, none⟩ = some (.int .u8 a1) := (blk_cell BK7.out 1).trans rfl))
  go_ret
  exact ⟨rfl, HB.out⟩
set_option maxHeartbeats 4000000 in
set_option maxRecDepth 100000 in
theorem grow3 (k : Nat) (a0 a1 b0 b1 p q d m A B : Int) (haw : arrearslaw09_awake.f k = some true) (eA : (if b0 < a0 then b0 else a0).tmod 1000001 = A) (eB : (if a0 < b0 then b0 else a0).tmod 1000001 = B) (h0 : A ≤ B) (hr1 : arrearslaw09_right.f A a1 p 0 0 = some true) (hr2 : arrearslaw09_right.f B a1 q 0 0 = some false) (w : World) : Calls Try.prog 4 #[.agg #[.int .u32 a0, .int .u8 a1], .agg #[.int .u32 b0, .int .u8 b1], .int .i64 p, .int .i64 q, .int .u16 d, .int .u16 m] w fun e w' => e = .returned (.bool true) ∧ Below w.heap.size w w' := by
  have HR1 := Aside0.mk hr1
  have HR2 := Aside0.mk hr2
  clear hr1 hr2
  have HAW := Aside0.mk haw
  have HEA := Aside0.mk eA
  have HEB := Aside0.mk eB
  clear haw eA eB
  go_enter Try.func4, Try.ntmps4
  go_upto_region 3 with (first | ((with_reducible refine gate_dst (N := 6) rfl ?_); (try (refine gate_guard (by rfl) ?_; dsimp only)); refine box_event ?hg (N := 6) ?hd (cs := #[.int .u32 a0, .int .u8 a1]) (t := 24) ?hr ?_; (case hd => rfl); (case hg => rfl); (case hr => first | (go_simp; done) | (go_simp; rfl)); intro gb6 hg w6 hbox hb; have BK6 := Aside0.mk hbox; have HB := Aside0.mk hb; have GE6 := Aside0.mk (Nat.le_of_eq hg.symm : w.heap.size ≤ gb6); clear hbox hb hg) | ((with_reducible refine gate_dst (N := 7) rfl ?_); (try (refine gate_guard (by rfl) ?_; dsimp only)); refine box_event ?hg (N := 7) ?hd (cs := #[.int .u32 b0, .int .u8 b1]) (t := 24) ?hr ?_; (case hd => rfl); (case hg => rfl); (case hr => first | (go_simp; done) | (go_simp; rfl)); intro gb7 hg w7 hbox hb; have n6_ := Aside0.mk (blk_below BK6.out hb); have NB6_7 := Aside0.mk (by rw [hg]; exact Nat.ne_of_lt (blk_lt BK6.out) : gb6 ≠ gb7); have m_ := Aside0.mk (below_step HB.out hb); have GE7 := Aside0.mk (Nat.le_trans (below_size HB.out) (Nat.le_of_eq hg.symm) : w.heap.size ≤ gb7); clear HB; have HB := m_; clear m_; clear BK6; have BK6 := n6_; clear n6_; have BK7 := Aside0.mk hbox; clear hbox hb hg) | (go_at_call 6; (with_reducible refine (arrearslaw09_awake.calls k true _ HAW.out).mono ?_); rintro e w8 ⟨rfl, hb⟩; have n6_ := Aside0.mk (blk_below BK6.out hb); have n7_ := Aside0.mk (blk_below BK7.out hb); have m_ := Aside0.mk (below_step HB.out hb); clear BK6 BK7 HB; have BK6 := n6_; have BK7 := n7_; have HB := m_; clear n6_ n7_ m_ hb))
  refine growr3 _ ?zo9 _ _ gb6 gb7 a0 a1 b0 A B _ _ _ _ _ _ _ _ _ _ _ _ _ _ _ _ _ _ _ _ _ _ _ _ _ _ _ _ _ _ _ _ _ _ _ _ _ _ _ _ _ _ _ _ _ _ _ _ _ _ _ _ _ _ _ _ _ _ _ _ _ _ _ _ _ _ _ _ _ _ _ _ _ _ _ _ _ _ _ _ _ _ _ _ _ _ _ _ _ _ _ _ _ _ _ _ _ _ _ _ _ _ _ _ _ _ _ _ _ _ _ _ _ _ _ ?hQ NB6_7.out (blk_frozen BK6.out 0) (blk_frozen BK7.out 0) (blk_frozen BK7.out 1) ((blk_cell BK6.out 0).trans rfl) ((blk_cell BK6.out 1).trans rfl) ((blk_cell BK7.out 0).trans rfl) _ ((blk_cell BK7.out 1).trans rfl) HEA.out HEB.out ?H
  case zo9 => rfl
  case hQ => exact fun _ _ d _ _ h => by cases d <;> exact h
  intros
  obtain ⟨W, hW⟩ : ∃ W, W = (((w8.setCell ⟨gb6, 0, none⟩ (.int .u32 A)).setCell ⟨gb7, 0, none⟩ (.int .u32 B)).setCell ⟨gb7, 1, none⟩ (.int .u8 a1)).drew := ⟨_, rfl⟩
  rw [← hW]
  have n6_ := Aside0.mk (show W.heap[gb6]? = some (.cells #[.int .u32 A, .int .u8 a1] 24 (0, 0)) by rw [hW]; exact blk_drew (blk_far (blk_far (blk_put BK6.out 0 _ rfl) NB6_7.out _) NB6_7.out _))
  have n7_ := Aside0.mk (show W.heap[gb7]? = some (.cells #[.int .u32 B, .int .u8 a1] 24 (0, 0)) by rw [hW]; exact blk_drew (blk_put (blk_put (blk_far BK7.out (Ne.symm NB6_7.out) _) 0 _ rfl) 1 _ rfl))
  have m_ := Aside0.mk (show Below w.heap.size w W by rw [hW]; exact below_drew1 (below_set (below_set (below_set HB.out GE6.out) GE7.out) GE7.out))
  clear BK6 BK7 HB hW
  have BK6 := n6_
  have BK7 := n7_
  have HB := m_
  clear n6_ n7_ m_
  have hc6_0W : W.cell? ⟨gb6, 0, none⟩ = some (.int .u32 A) := (blk_cell BK6.out 0).trans rfl
  have hc6_1W : W.cell? ⟨gb6, 1, none⟩ = some (.int .u8 a1) := (blk_cell BK6.out 1).trans rfl
  have hc7_0W : W.cell? ⟨gb7, 0, none⟩ = some (.int .u32 B) := (blk_cell BK7.out 0).trans rfl
  have hc7_1W : W.cell? ⟨gb7, 1, none⟩ = some (.int .u8 a1) := (blk_cell BK7.out 1).trans rfl
  go_wp2_with (first | (go_at_call 7; (with_reducible refine (arrearslaw09_right.calls A a1 p 0 0 _ _ HR1.out).mono ?_); rintro e w9 ⟨rfl, hb⟩; have n6_ := Aside0.mk (blk_below BK6.out hb); have n7_ := Aside0.mk (blk_below BK7.out hb); have m_ := Aside0.mk (below_step HB.out hb); clear BK6 BK7 HB; have BK6 := n6_; have BK7 := n7_; have HB := m_; clear n6_ n7_ m_ hb; have hc6_0w9 : w9.cell? ⟨gb6, 0, none⟩ = some (.int .u32 A) := (blk_cell BK6.out 0).trans rfl; have hc6_1w9 : w9.cell? ⟨gb6, 1, none⟩ = some (.int .u8 a1) := (blk_cell BK6.out 1).trans rfl; have hc7_0w9 : w9.cell? ⟨gb7, 0, none⟩ = some (.int .u32 B) := (blk_cell BK7.out 0).trans rfl; have hc7_1w9 : w9.cell? ⟨gb7, 1, none⟩ = some (.int .u8 a1) := (blk_cell BK7.out 1).trans rfl))
  refine (arrearslaw09_right.calls B a1 q 0 0 _ _ HR2.out).mono ?_
  rintro e w10 ⟨rfl, hb⟩
  have n6_ := Aside0.mk (blk_below BK6.out hb)
  have n7_ := Aside0.mk (blk_below BK7.out hb)
  have m_ := Aside0.mk (below_step HB.out hb)
  clear BK6 BK7 HB
  have BK6 := n6_
  have BK7 := n7_
  have HB := m_
  clear n6_ n7_ m_ hb
  have hc6_0w10 : w10.cell? ⟨gb6, 0, none⟩ = some (.int .u32 A) := (blk_cell BK6.out 0).trans rfl
  have hc6_1w10 : w10.cell? ⟨gb6, 1, none⟩ = some (.int .u8 a1) := (blk_cell BK6.out 1).trans rfl
  have hc7_0w10 : w10.cell? ⟨gb7, 0, none⟩ = some (.int .u32 B) := (blk_cell BK7.out 0).trans rfl
  have hc7_1w10 : w10.cell? ⟨gb7, 1, none⟩ = some (.int .u8 a1) := (blk_cell BK7.out 1).trans rfl
  go_wp2
  go_ret
  exact ⟨rfl, HB.out⟩
set_option maxHeartbeats 4000000 in
set_option maxRecDepth 100000 in
theorem grow4 (k : Nat) (a0 a1 b0 b1 p q d m A B : Int) (haw : arrearslaw09_awake.f k = some true) (eA : (if b0 < a0 then b0 else a0).tmod 1000001 = A) (eB : (if a0 < b0 then b0 else a0).tmod 1000001 = B) (h0 : A ≤ B) (hr1 : arrearslaw09_right.f A a1 p 0 0 = some true) (hr2 : arrearslaw09_right.f B a1 q 0 0 = some true) (h3 : q < p) (w : World) : Calls Try.prog 4 #[.agg #[.int .u32 a0, .int .u8 a1], .agg #[.int .u32 b0, .int .u8 b1], .int .i64 p, .int .i64 q, .int .u16 d, .int .u16 m] w fun e w' => e = .returned (.bool true) ∧ Below w.heap.size w w' := by
  have HR1 := Aside0.mk hr1
  have HR2 := Aside0.mk hr2
  clear hr1 hr2
  have HAW := Aside0.mk haw
  have HEA := Aside0.mk eA
  have HEB := Aside0.mk eB
  clear haw eA eB
  go_enter Try.func4, Try.ntmps4
  go_upto_region 3 with (first | ((with_reducible refine gate_dst (N := 6) rfl ?_); (try (refine gate_guard (by rfl) ?_; dsimp only)); refine box_event ?hg (N := 6) ?hd (cs := #[.int .u32 a0, .int .u8 a1]) (t := 24) ?hr ?_; (case hd => rfl); (case hg => rfl); (case hr => first | (go_simp; done) | (go_simp; rfl)); intro gb6 hg w6 hbox hb; have BK6 := Aside0.mk hbox; have HB := Aside0.mk hb; have GE6 := Aside0.mk (Nat.le_of_eq hg.symm : w.heap.size ≤ gb6); clear hbox hb hg) | ((with_reducible refine gate_dst (N := 7) rfl ?_); (try (refine gate_guard (by rfl) ?_; dsimp only)); refine box_event ?hg (N := 7) ?hd (cs := #[.int .u32 b0, .int .u8 b1]) (t := 24) ?hr ?_; (case hd => rfl); (case hg => rfl); (case hr => first | (go_simp; done) | (go_simp; rfl)); intro gb7 hg w7 hbox hb; have n6_ := Aside0.mk (blk_below BK6.out hb); have NB6_7 := Aside0.mk (by rw [hg]; exact Nat.ne_of_lt (blk_lt BK6.out) : gb6 ≠ gb7); have m_ := Aside0.mk (below_step HB.out hb); have GE7 := Aside0.mk (Nat.le_trans (below_size HB.out) (Nat.le_of_eq hg.symm) : w.heap.size ≤ gb7); clear HB; have HB := m_; clear m_; clear BK6; have BK6 := n6_; clear n6_; have BK7 := Aside0.mk hbox; clear hbox hb hg) | (go_at_call 6; (with_reducible refine (arrearslaw09_awake.calls k true _ HAW.out).mono ?_); rintro e w8 ⟨rfl, hb⟩; have n6_ := Aside0.mk (blk_below BK6.out hb); have n7_ := Aside0.mk (blk_below BK7.out hb); have m_ := Aside0.mk (below_step HB.out hb); clear BK6 BK7 HB; have BK6 := n6_; have BK7 := n7_; have HB := m_; clear n6_ n7_ m_ hb))
  refine growr3 _ ?zo9 _ _ gb6 gb7 a0 a1 b0 A B _ _ _ _ _ _ _ _ _ _ _ _ _ _ _ _ _ _ _ _ _ _ _ _ _ _ _ _ _ _ _ _ _ _ _ _ _ _ _ _ _ _ _ _ _ _ _ _ _ _ _ _ _ _ _ _ _ _ _ _ _ _ _ _ _ _ _ _ _ _ _ _ _ _ _ _ _ _ _ _ _ _ _ _ _ _ _ _ _ _ _ _ _ _ _ _ _ _ _ _ _ _ _ _ _ _ _ _ _ _ _ _ _ _ _ ?hQ NB6_7.out (blk_frozen BK6.out 0) (blk_frozen BK7.out 0) (blk_frozen BK7.out 1) ((blk_cell BK6.out 0).trans rfl) ((blk_cell BK6.out 1).trans rfl) ((blk_cell BK7.out 0).trans rfl) _ ((blk_cell BK7.out 1).trans rfl) HEA.out HEB.out ?H
  case zo9 => rfl
  case hQ => exact fun _ _ d _ _ h => by cases d <;> exact h
  intros
  obtain ⟨W, hW⟩ : ∃ W, W = (((w8.setCell ⟨gb6, 0, none⟩ (.int .u32 A)).setCell ⟨gb7, 0, none⟩ (.int .u32 B)).setCell ⟨gb7, 1, none⟩ (.int .u8 a1)).drew := ⟨_, rfl⟩
  rw [← hW]
  have n6_ := Aside0.mk (show W.heap[gb6]? = some (.cells #[.int .u32 A, .int .u8 a1] 24 (0, 0)) by rw [hW]; exact blk_drew (blk_far (blk_far (blk_put BK6.out 0 _ rfl) NB6_7.out _) NB6_7.out _))
  have n7_ := Aside0.mk (show W.heap[gb7]? = some (.cells #[.int .u32 B, .int .u8 a1] 24 (0, 0)) by rw [hW]; exact blk_drew (blk_put (blk_put (blk_far BK7.out (Ne.symm NB6_7.out) _) 0 _ rfl) 1 _ rfl))
  have m_ := Aside0.mk (show Below w.heap.size w W by rw [hW]; exact below_drew1 (below_set (below_set (below_set HB.out GE6.out) GE7.out) GE7.out))
  clear BK6 BK7 HB hW
  have BK6 := n6_
  have BK7 := n7_
  have HB := m_
  clear n6_ n7_ m_
  have hc6_0W : W.cell? ⟨gb6, 0, none⟩ = some (.int .u32 A) := (blk_cell BK6.out 0).trans rfl
  have hc6_1W : W.cell? ⟨gb6, 1, none⟩ = some (.int .u8 a1) := (blk_cell BK6.out 1).trans rfl
  have hc7_0W : W.cell? ⟨gb7, 0, none⟩ = some (.int .u32 B) := (blk_cell BK7.out 0).trans rfl
  have hc7_1W : W.cell? ⟨gb7, 1, none⟩ = some (.int .u8 a1) := (blk_cell BK7.out 1).trans rfl
  go_wp2_with (first | (go_at_call 7; (with_reducible refine (arrearslaw09_right.calls A a1 p 0 0 _ _ HR1.out).mono ?_); rintro e w9 ⟨rfl, hb⟩; have n6_ := Aside0.mk (blk_below BK6.out hb); have n7_ := Aside0.mk (blk_below BK7.out hb); have m_ := Aside0.mk (below_step HB.out hb); clear BK6 BK7 HB; have BK6 := n6_; have BK7 := n7_; have HB := m_; clear n6_ n7_ m_ hb; have hc6_0w9 : w9.cell? ⟨gb6, 0, none⟩ = some (.int .u32 A) := (blk_cell BK6.out 0).trans rfl; have hc6_1w9 : w9.cell? ⟨gb6, 1, none⟩ = some (.int .u8 a1) := (blk_cell BK6.out 1).trans rfl; have hc7_0w9 : w9.cell? ⟨gb7, 0, none⟩ = some (.int .u32 B) := (blk_cell BK7.out 0).trans rfl; have hc7_1w9 : w9.cell? ⟨gb7, 1, none⟩ = some (.int .u8 a1) := (blk_cell BK7.out 1).trans rfl))
  refine (arrearslaw09_right.calls B a1 q 0 0 _ _ HR2.out).mono ?_
  rintro e w10 ⟨rfl, hb⟩
  have n6_ := Aside0.mk (blk_below BK6.out hb)
  have n7_ := Aside0.mk (blk_below BK7.out hb)
  have m_ := Aside0.mk (below_step HB.out hb)
  clear BK6 BK7 HB
  have BK6 := n6_
  have BK7 := n7_
  have HB := m_
  clear n6_ n7_ m_ hb
  have hc6_0w10 : w10.cell? ⟨gb6, 0, none⟩ = some (.int .u32 A) := (blk_cell BK6.out 0).trans rfl
  have hc6_1w10 : w10.cell? ⟨gb6, 1, none⟩ = some (.int .u8 a1) := (blk_cell BK6.out 1).trans rfl
  have hc7_0w10 : w10.cell? ⟨gb7, 0, none⟩ = some (.int .u32 B) := (blk_cell BK7.out 0).trans rfl
  have hc7_1w10 : w10.cell? ⟨gb7, 1, none⟩ = some (.int .u8 a1) := (blk_cell BK7.out 1).trans rfl
  go_wp2
  go_ret
  exact ⟨rfl, HB.out⟩
set_option maxHeartbeats 4000000 in
set_option maxRecDepth 100000 in
theorem grow5 (k : Nat) (a0 a1 b0 b1 p q d m A B : Int) (haw : arrearslaw09_awake.f k = some true) (eA : (if b0 < a0 then b0 else a0).tmod 1000001 = A) (eB : (if a0 < b0 then b0 else a0).tmod 1000001 = B) (h0 : A ≤ B) (hr1 : arrearslaw09_right.f A a1 p 0 0 = some true) (hr2 : arrearslaw09_right.f B a1 q 0 0 = some true) (h3 : p ≤ q) (n l m2 l2 : Int) (h4 : n ≤ m2) (e1 : yield_Rate_Days.f k A a1 p (wrap64 d) 0 = some (n, l, none)) (e2 : yield_Rate_Days.f k B a1 q (wrap64 (wrap64 d + wrap64 (m.tmod 1000))) 0 = some (m2, l2, none)) (e3 : yield_Rate_Days.f k A a1 0 (wrap64 d) 0 = some (0, 0, none)) (w : World) : Calls Try.prog 4 #[.agg #[.int .u32 a0, .int .u8 a1], .agg #[.int .u32 b0, .int .u8 b1], .int .i64 p, .int .i64 q, .int .u16 d, .int .u16 m] w fun e w' => e = .returned (.bool true) ∧ Below w.heap.size w w' := by
  have HR1 := Aside0.mk hr1
  have HR2 := Aside0.mk hr2
  clear hr1 hr2
  have HD1 := Aside0.mk e1
  have HD2 := Aside0.mk e2
  have HD3 := Aside0.mk e3
  clear e1 e2 e3
  have HAW := Aside0.mk haw
  have HEA := Aside0.mk eA
  have HEB := Aside0.mk eB
  clear haw eA eB
  go_enter Try.func4, Try.ntmps4
  go_upto_region 3 with (first | ((with_reducible refine gate_dst (N := 6) rfl ?_); (try (refine gate_guard (by rfl) ?_; dsimp only)); refine box_event ?hg (N := 6) ?hd (cs := #[.int .u32 a0, .int .u8 a1]) (t := 24) ?hr ?_; (case hd => rfl); (case hg => rfl); (case hr => first | (go_simp; done) | (go_simp; rfl)); intro gb6 hg w6 hbox hb; have BK6 := Aside0.mk hbox; have HB := Aside0.mk hb; have GE6 := Aside0.mk (Nat.le_of_eq hg.symm : w.heap.size ≤ gb6); clear hbox hb hg) | ((with_reducible refine gate_dst (N := 7) rfl ?_); (try (refine gate_guard (by rfl) ?_; dsimp only)); refine box_event ?hg (N := 7) ?hd (cs := #[.int .u32 b0, .int .u8 b1]) (t := 24) ?hr ?_; (case hd => rfl); (case hg => rfl); (case hr => first | (go_simp; done) | (go_simp; rfl)); intro gb7 hg w7 hbox hb; have n6_ := Aside0.mk (blk_below BK6.out hb); have NB6_7 := Aside0.mk (by rw [hg]; exact Nat.ne_of_lt (blk_lt BK6.out) : gb6 ≠ gb7); have m_ := Aside0.mk (below_step HB.out hb); have GE7 := Aside0.mk (Nat.le_trans (below_size HB.out) (Nat.le_of_eq hg.symm) : w.heap.size ≤ gb7); clear HB; have HB := m_; clear m_; clear BK6; have BK6 := n6_; clear n6_; have BK7 := Aside0.mk hbox; clear hbox hb hg) | (go_at_call 6; (with_reducible refine (arrearslaw09_awake.calls k true _ HAW.out).mono ?_); rintro e w8 ⟨rfl, hb⟩; have n6_ := Aside0.mk (blk_below BK6.out hb); have n7_ := Aside0.mk (blk_below BK7.out hb); have m_ := Aside0.mk (below_step HB.out hb); clear BK6 BK7 HB; have BK6 := n6_; have BK7 := n7_; have HB := m_; clear n6_ n7_ m_ hb))
  refine growr3 _ ?zo9 _ _ gb6 gb7 a0 a1 b0 A B _ _ _ _ _ _ _ _ _ _ _ _ _ _ _ _ _ _ _ _ _ _ _ _ _ _ _ _ _ _ _ _ _ _ _ _ _ _ _ _ _ _ _ _ _ _ _ _ _ _ _ _ _ _ _ _ _ _ _ _ _ _ _ _ _ _ _ _ _ _ _ _ _ _ _ _ _ _ _ _ _ _ _ _ _ _ _ _ _ _ _ _ _ _ _ _ _ _ _ _ _ _ _ _ _ _ _ _ _ _ _ _ _ _ _ ?hQ NB6_7.out (blk_frozen BK6.out 0) (blk_frozen BK7.out 0) (blk_frozen BK7.out 1) ((blk_cell BK6.out 0).trans rfl) ((blk_cell BK6.out 1).trans rfl) ((blk_cell BK7.out 0).trans rfl) _ ((blk_cell BK7.out 1).trans rfl) HEA.out HEB.out ?H
  case zo9 => rfl
  case hQ => exact fun _ _ d _ _ h => by cases d <;> exact h
  intros
  obtain ⟨W, hW⟩ : ∃ W, W = (((w8.setCell ⟨gb6, 0, none⟩ (.int .u32 A)).setCell ⟨gb7, 0, none⟩ (.int .u32 B)).setCell ⟨gb7, 1, none⟩ (.int .u8 a1)).drew := ⟨_, rfl⟩
  rw [← hW]
  have n6_ := Aside0.mk (show W.heap[gb6]? = some (.cells #[.int .u32 A, .int .u8 a1] 24 (0, 0)) by rw [hW]; exact blk_drew (blk_far (blk_far (blk_put BK6.out 0 _ rfl) NB6_7.out _) NB6_7.out _))
  have n7_ := Aside0.mk (show W.heap[gb7]? = some (.cells #[.int .u32 B, .int .u8 a1] 24 (0, 0)) by rw [hW]; exact blk_drew (blk_put (blk_put (blk_far BK7.out (Ne.symm NB6_7.out) _) 0 _ rfl) 1 _ rfl))
  have m_ := Aside0.mk (show Below w.heap.size w W by rw [hW]; exact below_drew1 (below_set (below_set (below_set HB.out GE6.out) GE7.out) GE7.out))
  clear BK6 BK7 HB hW
  have BK6 := n6_
  have BK7 := n7_
  have HB := m_
  clear n6_ n7_ m_
  have hc6_0W : W.cell? ⟨gb6, 0, none⟩ = some (.int .u32 A) := (blk_cell BK6.out 0).trans rfl
  have hc6_1W : W.cell? ⟨gb6, 1, none⟩ = some (.int .u8 a1) := (blk_cell BK6.out 1).trans rfl
  have hc7_0W : W.cell? ⟨gb7, 0, none⟩ = some (.int .u32 B) := (blk_cell BK7.out 0).trans rfl
  have hc7_1W : W.cell? ⟨gb7, 1, none⟩ = some (.int .u8 a1) := (blk_cell BK7.out 1).trans rfl
  go_wp2_with (first | (go_at_call 7; (with_reducible refine (arrearslaw09_right.calls A a1 p 0 0 _ _ HR1.out).mono ?_); rintro e w9 ⟨rfl, hb⟩; have n6_ := Aside0.mk (blk_below BK6.out hb); have n7_ := Aside0.mk (blk_below BK7.out hb); have m_ := Aside0.mk (below_step HB.out hb); clear BK6 BK7 HB; have BK6 := n6_; have BK7 := n7_; have HB := m_; clear n6_ n7_ m_ hb; have hc6_0w9 : w9.cell? ⟨gb6, 0, none⟩ = some (.int .u32 A) := (blk_cell BK6.out 0).trans rfl; have hc6_1w9 : w9.cell? ⟨gb6, 1, none⟩ = some (.int .u8 a1) := (blk_cell BK6.out 1).trans rfl; have hc7_0w9 : w9.cell? ⟨gb7, 0, none⟩ = some (.int .u32 B) := (blk_cell BK7.out 0).trans rfl; have hc7_1w9 : w9.cell? ⟨gb7, 1, none⟩ = some (.int .u8 a1) := (blk_cell BK7.out 1).trans rfl))
  refine (arrearslaw09_right.calls B a1 q 0 0 _ _ HR2.out).mono ?_
  rintro e w10 ⟨rfl, hb⟩
  have n6_ := Aside0.mk (blk_below BK6.out hb)
  have n7_ := Aside0.mk (blk_below BK7.out hb)
  have m_ := Aside0.mk (below_step HB.out hb)
  clear BK6 BK7 HB
  have BK6 := n6_
  have BK7 := n7_
  have HB := m_
  clear n6_ n7_ m_ hb
  have hc6_0w10 : w10.cell? ⟨gb6, 0, none⟩ = some (.int .u32 A) := (blk_cell BK6.out 0).trans rfl
  have hc6_1w10 : w10.cell? ⟨gb6, 1, none⟩ = some (.int .u8 a1) := (blk_cell BK6.out 1).trans rfl
  have hc7_0w10 : w10.cell? ⟨gb7, 0, none⟩ = some (.int .u32 B) := (blk_cell BK7.out 0).trans rfl
  have hc7_1w10 : w10.cell? ⟨gb7, 1, none⟩ = some (.int .u8 a1) := (blk_cell BK7.out 1).trans rfl
  go_wp2_with (fail)
  refine (yield_Rate_Days.calls k A a1 p (wrap64 d) 0 n l none _ HD1.out).mono ?_
  rintro e w11 ⟨rfl, hb⟩
  have n6_ := Aside0.mk (blk_below BK6.out hb)
  have n7_ := Aside0.mk (blk_below BK7.out hb)
  have m_ := Aside0.mk (below_step HB.out hb)
  clear BK6 BK7 HB
  have BK6 := n6_
  have BK7 := n7_
  have HB := m_
  clear n6_ n7_ m_ hb
  have hc6_0w11 : w11.cell? ⟨gb6, 0, none⟩ = some (.int .u32 A) := (blk_cell BK6.out 0).trans rfl
  have hc6_1w11 : w11.cell? ⟨gb6, 1, none⟩ = some (.int .u8 a1) := (blk_cell BK6.out 1).trans rfl
  have hc7_0w11 : w11.cell? ⟨gb7, 0, none⟩ = some (.int .u32 B) := (blk_cell BK7.out 0).trans rfl
  have hc7_1w11 : w11.cell? ⟨gb7, 1, none⟩ = some (.int .u8 a1) := (blk_cell BK7.out 1).trans rfl
  go_wp2_with (fail)
  refine (yield_Rate_Days.calls k B a1 q (wrap64 (wrap64 d + wrap64 (m.tmod 1000))) 0 m2 l2 none _ HD2.out).mono ?_
  rintro e w12 ⟨rfl, hb⟩
  have n6_ := Aside0.mk (blk_below BK6.out hb)
  have n7_ := Aside0.mk (blk_below BK7.out hb)
  have m_ := Aside0.mk (below_step HB.out hb)
  clear BK6 BK7 HB
  have BK6 := n6_
  have BK7 := n7_
  have HB := m_
  clear n6_ n7_ m_ hb
  have hc6_0w12 : w12.cell? ⟨gb6, 0, none⟩ = some (.int .u32 A) := (blk_cell BK6.out 0).trans rfl
  have hc6_1w12 : w12.cell? ⟨gb6, 1, none⟩ = some (.int .u8 a1) := (blk_cell BK6.out 1).trans rfl
  have hc7_0w12 : w12.cell? ⟨gb7, 0, none⟩ = some (.int .u32 B) := (blk_cell BK7.out 0).trans rfl
  have hc7_1w12 : w12.cell? ⟨gb7, 1, none⟩ = some (.int .u8 a1) := (blk_cell BK7.out 1).trans rfl
  go_wp2_with (fail)
  refine (yield_Rate_Days.calls k A a1 0 (wrap64 d) 0 0 0 none _ HD3.out).mono ?_
  rintro e w13 ⟨rfl, hb⟩
  have n6_ := Aside0.mk (blk_below BK6.out hb)
  have n7_ := Aside0.mk (blk_below BK7.out hb)
  have m_ := Aside0.mk (below_step HB.out hb)
  clear BK6 BK7 HB
  have BK6 := n6_
  have BK7 := n7_
  have HB := m_
  clear n6_ n7_ m_ hb
  have hc6_0w13 : w13.cell? ⟨gb6, 0, none⟩ = some (.int .u32 A) := (blk_cell BK6.out 0).trans rfl
  have hc6_1w13 : w13.cell? ⟨gb6, 1, none⟩ = some (.int .u8 a1) := (blk_cell BK6.out 1).trans rfl
  have hc7_0w13 : w13.cell? ⟨gb7, 0, none⟩ = some (.int .u32 B) := (blk_cell BK7.out 0).trans rfl
  have hc7_1w13 : w13.cell? ⟨gb7, 1, none⟩ = some (.int .u8 a1) := (blk_cell BK7.out 1).trans rfl
  (try simp only [errW_none])
  go_wp2
  go_ret
  exact ⟨rfl, HB.out⟩
def growIn (k : Nat) (A B a1 p q d m : Int) : Option Bool :=
  if B < A then some true else if arrearslaw09_right.f A a1 p 0 0 = some false then some true else if arrearslaw09_right.f A a1 p 0 0 = some true then
    (if arrearslaw09_right.f B a1 q 0 0 = some false then some true else if arrearslaw09_right.f B a1 q 0 0 = some true then
      (if q < p then some true else (yield_Rate_Days.f k A a1 p (wrap64 d) 0).bind fun x => (yield_Rate_Days.f k B a1 q (wrap64 (wrap64 d + wrap64 (m.tmod 1000))) 0).bind fun y => (yield_Rate_Days.f k A a1 0 (wrap64 d) 0).bind fun z =>
        if x.2.2 = none ∧ y.2.2 = none ∧ z = (0, 0, none) ∧ x.1 ≤ y.1 then some true else none)
    else none) else none
def arrearslaw09_YieldGrows.f (k : Nat) (a0_0 a0_1 a1_0 a1_1 a2 a3 a4 a5 : Int) : Option Bool :=
  if arrearslaw09_awake.f k = some true then growIn k ((if a1_0 < a0_0 then a1_0 else a0_0).tmod 1000001) ((if a0_0 < a1_0 then a1_0 else a0_0).tmod 1000001) a0_1 a2 a3 a4 a5 else none
theorem arrearslaw09_YieldGrows.calls (k : Nat) (a0_0 : Int) (a0_1 : Int) (a1_0 : Int) (a1_1 : Int) (a2 : Int) (a3 : Int) (a4 : Int) (a5 : Int) (r : Bool) (w : World) (h : arrearslaw09_YieldGrows.f k a0_0 a0_1 a1_0 a1_1 a2 a3 a4 a5 = some r) (hr : r = true) :
    Calls Try.prog 4 #[.agg #[.int .u32 a0_0, .int .u8 a0_1], .agg #[.int .u32 a1_0, .int .u8 a1_1], .int .i64 a2, .int .i64 a3, .int .u16 a4, .int .u16 a5] w fun e w' => e = .returned (.bool r) ∧ Below w.heap.size w w' := by
  subst hr
  unfold arrearslaw09_YieldGrows.f at h
  by_cases haw : arrearslaw09_awake.f k = some true
  · rw [if_pos haw] at h
    generalize eA : (if a1_0 < a0_0 then a1_0 else a0_0).tmod 1000001 = A at h
    generalize eB : (if a0_0 < a1_0 then a1_0 else a0_0).tmod 1000001 = B at h
    unfold growIn at h
    by_cases h0 : B < A
    · exact grow1 k a0_0 a0_1 a1_0 a1_1 a2 a3 a4 a5 A B haw eA eB h0 w
    rw [if_neg h0] at h
    have h0' : A ≤ B := Int.not_lt.mp h0
    by_cases r1 : arrearslaw09_right.f A a0_1 a2 0 0 = some false
    · exact grow2 k a0_0 a0_1 a1_0 a1_1 a2 a3 a4 a5 A B haw eA eB h0' r1 w
    rw [if_neg r1] at h
    by_cases r1' : arrearslaw09_right.f A a0_1 a2 0 0 = some true
    · rw [if_pos r1'] at h
      by_cases r2 : arrearslaw09_right.f B a0_1 a3 0 0 = some false
      · exact grow3 k a0_0 a0_1 a1_0 a1_1 a2 a3 a4 a5 A B haw eA eB h0' r1' r2 w
      rw [if_neg r2] at h
      by_cases r2' : arrearslaw09_right.f B a0_1 a3 0 0 = some true
      · rw [if_pos r2'] at h
        by_cases h3 : a3 < a2
        · exact grow4 k a0_0 a0_1 a1_0 a1_1 a2 a3 a4 a5 A B haw eA eB h0' r1' r2' h3 w
        rw [if_neg h3] at h
        obtain ⟨⟨n, l, e⟩, e1, h⟩ := Option.bind_eq_some_iff.mp h
        obtain ⟨⟨m2, l2, e'⟩, e2, h⟩ := Option.bind_eq_some_iff.mp h
        obtain ⟨z, e3, h⟩ := Option.bind_eq_some_iff.mp h
        by_cases c : e = none ∧ e' = none ∧ z = (0, 0, none) ∧ n ≤ m2
        · obtain ⟨rfl, rfl, rfl, h4⟩ := c
          exact grow5 k a0_0 a0_1 a1_0 a1_1 a2 a3 a4 a5 A B haw eA eB h0' r1' r2' (Int.not_lt.mp h3) n l m2 l2 h4 e1 e2 e3 w
        · simp only [] at h
          rw [if_neg c] at h
          exact absurd h (by simp)
      · rw [if_neg r2'] at h; exact absurd h (by simp)
    · rw [if_neg r1'] at h; exact absurd h (by simp)
  · rw [if_neg haw] at h; exact absurd h (by simp)


end Go.Proofs.Ytldicnmpegkicaa.PYieldGrows
