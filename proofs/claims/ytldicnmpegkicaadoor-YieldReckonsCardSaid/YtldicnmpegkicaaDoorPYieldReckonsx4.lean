-- Printed by a wrapper of this session's round the kit's print.py; Lean checks it.
import Derived.Test.YtldicnmpegkicaaDoorPYieldReckonsx0
import Derived.Test.YtldicnmpegkicaaDoorPYieldReckonsx3
namespace Go.Proofs.YtldicnmpegkicaaDoor.PYieldReckons
open Go.RowKit Go.Proofs.YtldicnmpegkicaaDoorW.PrintWords Go.Proofs.YtldicnmpegkicaaDoorW.PrintLast Go.Proofs.YtldicnmpegkicaaDoorW.PrintMore
attribute [local go_sem] max2_int min2_int max_two min_two max_three min_three max_four min_four   -- for this text's walks alone
set_option linter.unusedVariables false
set_option linter.unusedSimpArgs false

/-! ### arrearslaw09_awake: function 5 -/
def arrearslaw09_awake.f (k : Nat)  : Option (Bool) := (yield_Rate_Days.f k 365000 1 10000 1 0).bind fun bt141 => (if bt141.1 = 10 then (if bt141.2.1 = 0 then (if bt141.2.2.isNone = true then (some true) else (some false)) else (some false)) else (some false))
theorem arrearslaw09_awake.mono : ∀ k, LeO (arrearslaw09_awake.f k ) (arrearslaw09_awake.f (k + 1) ) := by
  intro  k
  unfold arrearslaw09_awake.f
  repeat' first
      | (with_reducible exact yield_Rate_Days.mono _ _ _ _ _ _)
      | (with_reducible exact LeO.refl _)
      | (with_reducible exact LeO.none _)
      | (with_reducible refine LeO.ite ?_ ?_)
      | (with_reducible refine LeO.bind ?_ (fun _ => ?_))
      | exact yield_Rate_Days.mono _ _ _ _ _ _
      | exact LeO.none _
      | refine LeO.ite ?_ ?_
      | refine LeO.bind ?_ (fun _ => ?_)
set_option maxHeartbeats 8000000 in
set_option maxRecDepth 100000 in
theorem arrearslaw09_awake.calls (k : Nat)  (r : Bool) (w : World) (h : arrearslaw09_awake.f k  = some r) :
    Calls Tryd.prog 5 #[] w fun e w' => e = .returned (.bool r) ∧ Below w.heap.size w w' := by
  have hu24 := Tryd.underlying24
  have hu29 := Tryd.underlying29
  have hu38 := Tryd.underlying38
  have HB := Aside0.mk (Below.refl w.heap.size w)
  have H : ((yield_Rate_Days.f k 365000 1 10000 1 0).bind fun bt141 => (if bt141.1 = 10 then (if bt141.2.1 = 0 then (if bt141.2.2.isNone = true then (some true) else (some false)) else (some false)) else (some false))) = some r := h
  clear h
  replace H := Option.bind_eq_some_iff.mp H
  obtain ⟨⟨t141, t142, t143⟩, A10, H⟩ := H
  replace H : (if t141 = 10 then (if t142 = 0 then (if t143.isNone = true then (some true) else (some false)) else (some false)) else (some false)) = some r := H
  have A1 := Aside0.mk A10
  clear A10
  by_cases c2 : t141 = 10
  · rw [if_pos c2] at H
    have c2b0 : (t141 == 10) = true := beq_iff_eq.mpr c2
    have c2b1 : (t141 != 10) = false := bne_eq_false_iff_eq.mpr c2
    clear c2
    by_cases c3 : t142 = 0
    · rw [if_pos c3] at H
      have c3b0 : (t142 == 0) = true := beq_iff_eq.mpr c3
      have c3b1 : (t142 != 0) = false := bne_eq_false_iff_eq.mpr c3
      clear c3
      rcases t143 with _ | q144
      · have H1 : (some true) = some r := by rw [if_pos (show (none : Option Int).isNone = true by rfl)] at H; exact H
        clear H
        have H := H1
        clear H1
        try simp only [errW_none, errW_some]
        obtain rfl := Option.some.inj H
        go_enter Tryd.func5, Tryd.ntmps5
        go_wp2_with (first | ((with_reducible refine gate_callee (f := 6) rfl ?_); refine goesL_ (some 6) rfl rfl Tryd.func6 (by kernel_rfl) rfl #[.agg #[.int .u32 365000, .int .u8 1], .int .i64 10000, .int .i64 1, .int .u64 0] rfl (by (try simp only [List.map_toArray, List.map_cons, List.map_nil]); first | done | rfl | (simp only [List.length_drop, List.length_take]; rfl)) ?_; (with_reducible refine (yield_Rate_Days.calls k 365000 1 10000 1 0 t141 t142 none _ A1.out).mono ?_); rintro e w4 ⟨rfl, hb⟩; refine ⟨_, rfl, ?_⟩; have n0_ := Aside0.mk (below_step (by repeat (first | (with_reducible first | exact HB.out | apply below_alloc | apply pw_below_drewN | apply below_drew1) | exact HB.out)) hb); clear HB; have HB := n0_; clear n0_; (try clear hb); (try clear hb2); (try clear hk); (try clear hi); (try simp only [errW_none, errW_some])))
        go_ret
        exact ⟨by first | rfl | (simp [errW_none, errW_some] <;> rfl) | (simp [*, errW_none, errW_some] <;> rfl), by repeat (first | (with_reducible first | exact HB.out | apply below_alloc | apply pw_below_drewN | apply below_drew1) | exact HB.out)⟩
      · have H1 : (some false) = some r := by rw [if_neg (show ¬ (some q144).isNone = true by simp)] at H; exact H
        clear H
        have H := H1
        clear H1
        try simp only [errW_none, errW_some]
        obtain rfl := Option.some.inj H
        go_enter Tryd.func5, Tryd.ntmps5
        go_wp2_with (first | ((with_reducible refine gate_callee (f := 6) rfl ?_); refine goesL_ (some 6) rfl rfl Tryd.func6 (by kernel_rfl) rfl #[.agg #[.int .u32 365000, .int .u8 1], .int .i64 10000, .int .i64 1, .int .u64 0] rfl (by (try simp only [List.map_toArray, List.map_cons, List.map_nil]); first | done | rfl | (simp only [List.length_drop, List.length_take]; rfl)) ?_; (with_reducible refine (yield_Rate_Days.calls k 365000 1 10000 1 0 t141 t142 (some q144) _ A1.out).mono ?_); rintro e w5 ⟨rfl, hb⟩; refine ⟨_, rfl, ?_⟩; have n0_ := Aside0.mk (below_step (by repeat (first | (with_reducible first | exact HB.out | apply below_alloc | apply pw_below_drewN | apply below_drew1) | exact HB.out)) hb); clear HB; have HB := n0_; clear n0_; (try clear hb); (try clear hb2); (try clear hk); (try clear hi); (try simp only [errW_none, errW_some])))
        go_ret
        exact ⟨by first | rfl | (simp [errW_none, errW_some] <;> rfl) | (simp [*, errW_none, errW_some] <;> rfl), by repeat (first | (with_reducible first | exact HB.out | apply below_alloc | apply pw_below_drewN | apply below_drew1) | exact HB.out)⟩
    · rw [if_neg c3] at H
      have c3b0 : (t142 == 0) = false := beq_eq_false_iff_ne.mpr c3
      have c3b1 : (t142 != 0) = true := bne_iff_ne.mpr c3
      obtain rfl := Option.some.inj H
      go_enter Tryd.func5, Tryd.ntmps5
      go_wp2_with (first | ((with_reducible refine gate_callee (f := 6) rfl ?_); refine goesL_ (some 6) rfl rfl Tryd.func6 (by kernel_rfl) rfl #[.agg #[.int .u32 365000, .int .u8 1], .int .i64 10000, .int .i64 1, .int .u64 0] rfl (by (try simp only [List.map_toArray, List.map_cons, List.map_nil]); first | done | rfl | (simp only [List.length_drop, List.length_take]; rfl)) ?_; (with_reducible refine (yield_Rate_Days.calls k 365000 1 10000 1 0 t141 t142 t143 _ A1.out).mono ?_); rintro e w6 ⟨rfl, hb⟩; refine ⟨_, rfl, ?_⟩; have n0_ := Aside0.mk (below_step (by repeat (first | (with_reducible first | exact HB.out | apply below_alloc | apply pw_below_drewN | apply below_drew1) | exact HB.out)) hb); clear HB; have HB := n0_; clear n0_; (try clear hb); (try clear hb2); (try clear hk); (try clear hi); (try simp only [errW_none, errW_some])))
      go_ret
      exact ⟨by first | rfl | (simp [errW_none, errW_some] <;> rfl) | (simp [*, errW_none, errW_some] <;> rfl), by repeat (first | (with_reducible first | exact HB.out | apply below_alloc | apply pw_below_drewN | apply below_drew1) | exact HB.out)⟩
  · rw [if_neg c2] at H
    have c2b0 : (t141 == 10) = false := beq_eq_false_iff_ne.mpr c2
    have c2b1 : (t141 != 10) = true := bne_iff_ne.mpr c2
    obtain rfl := Option.some.inj H
    go_enter Tryd.func5, Tryd.ntmps5
    go_wp2_with (first | ((with_reducible refine gate_callee (f := 6) rfl ?_); refine goesL_ (some 6) rfl rfl Tryd.func6 (by kernel_rfl) rfl #[.agg #[.int .u32 365000, .int .u8 1], .int .i64 10000, .int .i64 1, .int .u64 0] rfl (by (try simp only [List.map_toArray, List.map_cons, List.map_nil]); first | done | rfl | (simp only [List.length_drop, List.length_take]; rfl)) ?_; (with_reducible refine (yield_Rate_Days.calls k 365000 1 10000 1 0 t141 t142 t143 _ A1.out).mono ?_); rintro e w7 ⟨rfl, hb⟩; refine ⟨_, rfl, ?_⟩; have n0_ := Aside0.mk (below_step (by repeat (first | (with_reducible first | exact HB.out | apply below_alloc | apply pw_below_drewN | apply below_drew1) | exact HB.out)) hb); clear HB; have HB := n0_; clear n0_; (try clear hb); (try clear hb2); (try clear hk); (try clear hi); (try simp only [errW_none, errW_some])))
    go_ret
    exact ⟨by first | rfl | (simp [errW_none, errW_some] <;> rfl) | (simp [*, errW_none, errW_some] <;> rfl), by repeat (first | (with_reducible first | exact HB.out | apply below_alloc | apply pw_below_drewN | apply below_drew1) | exact HB.out)⟩

/-! ### arrearsref09_Unit: function 7 -/
def arrearsref09_Unit.f (a0_0 : Int) (a0_1 : Bool) : Option (Int) := if a0_1 = true then (some 360000000) else (some 365000000)
set_option maxHeartbeats 8000000 in
set_option maxRecDepth 100000 in
theorem arrearsref09_Unit.calls (a0_0 : Int) (a0_1 : Bool) (r : Int) (w : World) (h : arrearsref09_Unit.f a0_0 a0_1 = some r) :
    Calls Tryd.prog 7 #[.agg #[.int .u32 a0_0, .bool a0_1]] w fun e w' => e = .returned (.int .u64 r) ∧ Below w.heap.size w w' := by
  have hu34 := Tryd.underlying34
  have HB := Aside0.mk (Below.refl w.heap.size w)
  have H : (if a0_1 = true then (some 360000000) else (some 365000000)) = some r := h
  clear h
  by_cases c2 : a0_1 = true
  · subst c2
    have H1 : (some 360000000) = some r := by rw [if_pos rfl] at H; exact H
    clear H
    have H := H1
    clear H1
    obtain rfl := Option.some.inj H
    go_enter Tryd.func7, Tryd.ntmps7
    go_wp2_with (first | ((with_reducible refine gate_dst (N := 1) rfl ?_); refine box_event ?hg (N := 1) ?hd (cs := #[.int .u32 a0_0, .bool true]) (t := 34) ?hr ?_; (case hd => rfl); (case hg => rfl); (case hr => first | (go_simp; done) | (go_simp; rfl)); intro gb145 hg w3 hbox hb; have n0_ := Aside0.mk (below_step (by repeat (first | (with_reducible first | exact HB.out | apply below_alloc | apply pw_below_drewN | apply below_drew1) | exact HB.out)) hb); have n1_ := Aside0.mk (hbox); have n2_ := Aside0.mk ((by rw [hg]; exact (below_size (by repeat (first | (with_reducible first | exact HB.out | apply below_alloc | apply pw_below_drewN | apply below_drew1) | exact HB.out))) : w.heap.size ≤ gb145)); have n3_ := Aside0.mk ((by rw [hg]; exact (below_size (by repeat (first | (with_reducible first | exact HB.out | apply below_alloc | apply pw_below_drewN | apply below_drew1) | exact HB.out))) : w.heap.size ≤ gb145)); clear HB; have HB := n0_; have BK145 := n1_; have GW145 := n2_; have GE145 := n3_; clear n0_ n1_ n2_ n3_; clear hb hbox hg; have hcz4_0 : w3.cell? ⟨gb145, 0, none⟩ = some (.int .u32 a0_0) := (blk_cell BK145.out 0).trans rfl; have hcz4_1 : w3.cell? ⟨gb145, 1, none⟩ = some (.bool true) := (blk_cell BK145.out 1).trans rfl; have hfz4_0 := blk_frozen BK145.out 0; have hfz4_1 := blk_frozen BK145.out 1))
    go_ret
    exact ⟨by first | rfl | (simp [errW_none, errW_some] <;> rfl) | (simp [*, errW_none, errW_some] <;> rfl), by repeat (first | (with_reducible first | exact HB.out | apply below_alloc | apply pw_below_drewN | apply below_drew1 | refine below_set ?_ GE145.out) | exact HB.out)⟩
  · replace c2 := Bool.eq_false_iff.mpr c2
    subst c2
    have H1 : (some 365000000) = some r := by rw [if_neg (show ¬ (false = true) by decide)] at H; exact H
    clear H
    have H := H1
    clear H1
    obtain rfl := Option.some.inj H
    go_enter Tryd.func7, Tryd.ntmps7
    go_wp2_with (first | ((with_reducible refine gate_dst (N := 1) rfl ?_); refine box_event ?hg (N := 1) ?hd (cs := #[.int .u32 a0_0, .bool false]) (t := 34) ?hr ?_; (case hd => rfl); (case hg => rfl); (case hr => first | (go_simp; done) | (go_simp; rfl)); intro gb145 hg w5 hbox hb; have n0_ := Aside0.mk (below_step (by repeat (first | (with_reducible first | exact HB.out | apply below_alloc | apply pw_below_drewN | apply below_drew1) | exact HB.out)) hb); have n1_ := Aside0.mk (hbox); have n2_ := Aside0.mk ((by rw [hg]; exact (below_size (by repeat (first | (with_reducible first | exact HB.out | apply below_alloc | apply pw_below_drewN | apply below_drew1) | exact HB.out))) : w.heap.size ≤ gb145)); have n3_ := Aside0.mk ((by rw [hg]; exact (below_size (by repeat (first | (with_reducible first | exact HB.out | apply below_alloc | apply pw_below_drewN | apply below_drew1) | exact HB.out))) : w.heap.size ≤ gb145)); clear HB; have HB := n0_; have BK145 := n1_; have GW145 := n2_; have GE145 := n3_; clear n0_ n1_ n2_ n3_; clear hb hbox hg; have hcz6_0 : w5.cell? ⟨gb145, 0, none⟩ = some (.int .u32 a0_0) := (blk_cell BK145.out 0).trans rfl; have hcz6_1 : w5.cell? ⟨gb145, 1, none⟩ = some (.bool false) := (blk_cell BK145.out 1).trans rfl; have hfz6_0 := blk_frozen BK145.out 0; have hfz6_1 := blk_frozen BK145.out 1))
    go_ret
    exact ⟨by first | rfl | (simp [errW_none, errW_some] <;> rfl) | (simp [*, errW_none, errW_some] <;> rfl), by repeat (first | (with_reducible first | exact HB.out | apply below_alloc | apply pw_below_drewN | apply below_drew1 | refine below_set ?_ GE145.out) | exact HB.out)⟩

/-! ### arrearslaw09_own: function 8 -/
def arrearslaw09_own.f (a0_0 : Int) (a0_1 : Int) : Option (Int × Bool) := some (a0_0, (a0_1 == 2))
set_option maxHeartbeats 8000000 in
set_option maxRecDepth 100000 in
theorem arrearslaw09_own.calls (a0_0 : Int) (a0_1 : Int) (r1 : Int) (r2 : Bool) (w : World) (h : arrearslaw09_own.f a0_0 a0_1 = some (r1, r2)) :
    Calls Tryd.prog 8 #[.agg #[.int .u32 a0_0, .int .u8 a0_1]] w fun e w' => e = .returned (.agg #[.int .u32 r1, .bool r2]) ∧ Below w.heap.size w w' := by
  have hu24 := Tryd.underlying24
  have hu34 := Tryd.underlying34
  have HB := Aside0.mk (Below.refl w.heap.size w)
  have H : (some (a0_0, (a0_1 == 2))) = some (r1, r2) := h
  clear h
  simp only [Option.some.injEq, Prod.mk.injEq] at H
  obtain ⟨rfl, rfl⟩ := H
  go_enter Tryd.func8, Tryd.ntmps8
  go_wp2_with (first | ((with_reducible refine gate_dst (N := 1) rfl ?_); refine box_event ?hg (N := 1) ?hd (cs := #[.int .u32 a0_0, .int .u8 a0_1]) (t := 24) ?hr ?_; (case hd => rfl); (case hg => rfl); (case hr => first | (go_simp; done) | (go_simp; rfl)); intro gb146 hg w2 hbox hb; have n0_ := Aside0.mk (below_step (by repeat (first | (with_reducible first | exact HB.out | apply below_alloc | apply pw_below_drewN | apply below_drew1) | exact HB.out)) hb); have n1_ := Aside0.mk (hbox); have n2_ := Aside0.mk ((by rw [hg]; exact (below_size (by repeat (first | (with_reducible first | exact HB.out | apply below_alloc | apply pw_below_drewN | apply below_drew1) | exact HB.out))) : w.heap.size ≤ gb146)); have n3_ := Aside0.mk ((by rw [hg]; exact (below_size (by repeat (first | (with_reducible first | exact HB.out | apply below_alloc | apply pw_below_drewN | apply below_drew1) | exact HB.out))) : w.heap.size ≤ gb146)); clear HB; have HB := n0_; have BK146 := n1_; have GW146 := n2_; have GE146 := n3_; clear n0_ n1_ n2_ n3_; clear hb hbox hg) | ((with_reducible refine gate_dst (N := 2) rfl ?_); refine box_event ?hg (N := 2) ?hd (cs := #[.int .u32 0, .bool false]) (t := 34) ?hr ?_; (case hd => rfl); (case hg => rfl); (case hr => first | (go_simp; done) | (go_simp; rfl)); intro gb147 hg w3 hbox hb; have n0_ := Aside0.mk (blk_below (g := gb146) (o := .cells #[.int .u32 a0_0, .int .u8 a0_1] 24 (0, 0)) (by (with_reducible repeat (first | refine blk_drewN ?_ _ | refine blk_drew ?_ | refine blk_alloc ?_ _)); exact BK146.out) hb); have n1_ := Aside0.mk (below_step (by repeat (first | (with_reducible first | exact HB.out | apply below_alloc | apply pw_below_drewN | apply below_drew1 | refine below_set ?_ GE146.out) | exact HB.out)) hb); have n2_ := Aside0.mk (hbox); have n3_ := Aside0.mk ((by rw [hg]; exact (below_size (by repeat (first | (with_reducible first | exact HB.out | apply below_alloc | apply pw_below_drewN | apply below_drew1 | refine below_set ?_ GE146.out) | exact HB.out))) : w.heap.size ≤ gb147)); have n4_ := Aside0.mk ((by rw [hg]; exact (below_size (by repeat (first | (with_reducible first | exact HB.out | apply below_alloc | apply pw_below_drewN | apply below_drew1 | refine below_set ?_ GE146.out) | exact HB.out))) : w.heap.size ≤ gb147)); have n5_ := Aside0.mk ((by rw [hg]; exact Nat.ne_of_lt (blk_lt (g := gb146) (o := .cells #[.int .u32 a0_0, .int .u8 a0_1] 24 (0, 0)) (by (with_reducible repeat (first | refine blk_drewN ?_ _ | refine blk_drew ?_ | refine blk_alloc ?_ _)); exact BK146.out)) : gb146 ≠ gb147)); have n6_ := Aside0.mk ((by rw [hg]; exact Nat.ne_of_gt (blk_lt (g := gb146) (o := .cells #[.int .u32 a0_0, .int .u8 a0_1] 24 (0, 0)) (by (with_reducible repeat (first | refine blk_drewN ?_ _ | refine blk_drew ?_ | refine blk_alloc ?_ _)); exact BK146.out)) : gb147 ≠ gb146)); clear BK146; clear HB; have BK146 := n0_; have HB := n1_; have BK147 := n2_; have GW147 := n3_; have GE147 := n4_; have NB146_147 := n5_; have NB147_146 := n6_; clear n0_ n1_ n2_ n3_ n4_ n5_ n6_; clear hb hbox hg; have hnb4 := NB146_147.out; have hnc4 := NB147_146.out; have hcz5_0 : w3.cell? ⟨gb146, 0, none⟩ = some (.int .u32 a0_0) := (blk_cell BK146.out 0).trans rfl; have hcz5_1 : w3.cell? ⟨gb146, 1, none⟩ = some (.int .u8 a0_1) := (blk_cell BK146.out 1).trans rfl; have hfz5_0 := blk_frozen BK146.out 0; have hfz5_1 := blk_frozen BK146.out 1; have hcz6_0 : w3.cell? ⟨gb147, 0, none⟩ = some (.int .u32 0) := (blk_cell BK147.out 0).trans rfl; have hcz6_1 : w3.cell? ⟨gb147, 1, none⟩ = some (.bool false) := (blk_cell BK147.out 1).trans rfl; have hfz6_0 := blk_frozen BK147.out 0; have hfz6_1 := blk_frozen BK147.out 1))
  refine bodyPost_ret (results_cell_row rfl _ _ gb147 34 #[.int .u32 a0_0, .bool (a0_1 == 2)] (0, 0) _ rfl (by (with_reducible repeat (first | refine blk_drewN ?_ _ | refine blk_drew ?_ | refine blk_alloc ?_ _)); refine blk_put (cs := #[.int .u32 a0_0, .bool false]) ?_ 1 _ rfl; (with_reducible repeat (first | refine blk_drewN ?_ _ | refine blk_drew ?_ | refine blk_alloc ?_ _)); refine blk_put (cs := #[.int .u32 0, .bool false]) ?_ 0 _ rfl; (with_reducible repeat (first | refine blk_drewN ?_ _ | refine blk_drew ?_ | refine blk_alloc ?_ _)); exact BK147.out) Tryd.underlying34 rfl (by kernel_rfl)) rfl ?_
  exact ⟨by first | rfl | (simp [errW_none, errW_some] <;> rfl) | (simp [*, errW_none, errW_some] <;> rfl), by repeat (first | (with_reducible first | exact HB.out | apply below_alloc | apply pw_below_drewN | apply below_drew1 | refine below_set ?_ GE146.out | refine below_set ?_ GE147.out) | exact HB.out)⟩

/-! ### arrearslaw09_right: function 11 -/
def arrearslaw09_right.f (a0_0 : Int) (a0_1 : Int) (a1 : Int) (a2 : Int) (a3 : Int) : Option (Bool) := if a0_0 ≤ 1000000 then (if a0_1 = 1 then (if a1 ≥ 0 then (if a1 ≤ 1000000000000 then (if a2 ≥ 0 then (if a2 ≤ 100000 then ((arrearslaw09_own.f a0_0 a0_1).bind fun bt149 => ((arrearsref09_Unit.f bt149.1 bt149.2).bind fun t151 => (some (decide (a3 < t151))))) else (some false)) else (some false)) else (some false)) else (some false)) else (if a0_1 = 2 then (if a1 ≥ 0 then (if a1 ≤ 1000000000000 then (if a2 ≥ 0 then (if a2 ≤ 100000 then ((arrearslaw09_own.f a0_0 a0_1).bind fun bt152 => ((arrearsref09_Unit.f bt152.1 bt152.2).bind fun t154 => (some (decide (a3 < t154))))) else (some false)) else (some false)) else (some false)) else (some false)) else (some false))) else (some false)
set_option maxHeartbeats 8000000 in
set_option maxRecDepth 100000 in
theorem arrearslaw09_right.calls (a0_0 : Int) (a0_1 : Int) (a1 : Int) (a2 : Int) (a3 : Int) (r : Bool) (w : World) (h : arrearslaw09_right.f a0_0 a0_1 a1 a2 a3 = some r) :
    Calls Tryd.prog 11 #[.agg #[.int .u32 a0_0, .int .u8 a0_1], .int .i64 a1, .int .i64 a2, .int .u64 a3] w fun e w' => e = .returned (.bool r) ∧ Below w.heap.size w w' := by
  have hu24 := Tryd.underlying24
  have HB := Aside0.mk (Below.refl w.heap.size w)
  have H : (if a0_0 ≤ 1000000 then (if a0_1 = 1 then (if a1 ≥ 0 then (if a1 ≤ 1000000000000 then (if a2 ≥ 0 then (if a2 ≤ 100000 then ((arrearslaw09_own.f a0_0 a0_1).bind fun bt149 => ((arrearsref09_Unit.f bt149.1 bt149.2).bind fun t151 => (some (decide (a3 < t151))))) else (some false)) else (some false)) else (some false)) else (some false)) else (if a0_1 = 2 then (if a1 ≥ 0 then (if a1 ≤ 1000000000000 then (if a2 ≥ 0 then (if a2 ≤ 100000 then ((arrearslaw09_own.f a0_0 a0_1).bind fun bt152 => ((arrearsref09_Unit.f bt152.1 bt152.2).bind fun t154 => (some (decide (a3 < t154))))) else (some false)) else (some false)) else (some false)) else (some false)) else (some false))) else (some false)) = some r := h
  clear h
  by_cases c5 : a0_0 ≤ 1000000
  · rw [if_pos c5] at H
    have c5b0 : decide (a0_0 ≤ 1000000) = true := decide_eq_true c5
    clear c5
    by_cases c6 : a0_1 = 1
    · rw [if_pos c6] at H
      have c6b0 : (a0_1 == 1) = true := beq_iff_eq.mpr c6
      have c6b1 : (a0_1 != 1) = false := bne_eq_false_iff_eq.mpr c6
      clear c6
      by_cases c7 : a1 ≥ 0
      · rw [if_pos c7] at H
        have c7b0 : decide (0 ≤ a1) = true := decide_eq_true c7
        clear c7
        by_cases c8 : a1 ≤ 1000000000000
        · rw [if_pos c8] at H
          have c8b0 : decide (a1 ≤ 1000000000000) = true := decide_eq_true c8
          clear c8
          by_cases c9 : a2 ≥ 0
          · rw [if_pos c9] at H
            have c9b0 : decide (0 ≤ a2) = true := decide_eq_true c9
            clear c9
            by_cases c10 : a2 ≤ 100000
            · rw [if_pos c10] at H
              have c10b0 : decide (a2 ≤ 100000) = true := decide_eq_true c10
              clear c10
              replace H := Option.bind_eq_some_iff.mp H
              obtain ⟨⟨t149, t150⟩, A110, H⟩ := H
              replace H : ((arrearsref09_Unit.f t149 t150).bind fun t151 => (some (decide (a3 < t151)))) = some r := H
              have A11 := Aside0.mk A110
              clear A110
              replace H := Option.bind_eq_some_iff.mp H
              obtain ⟨t151, A120, H⟩ := H
              replace H : (some (decide (a3 < t151))) = some r := H
              have A12 := Aside0.mk A120
              clear A120
              obtain rfl := Option.some.inj H
              go_enter Tryd.func11, Tryd.ntmps11
              go_wp2_with (first | ((with_reducible refine gate_dst (N := 4) rfl ?_); refine box_event ?hg (N := 4) ?hd (cs := #[.int .u32 a0_0, .int .u8 a0_1]) (t := 24) ?hr ?_; (case hd => rfl); (case hg => rfl); (case hr => first | (go_simp; done) | (go_simp; rfl)); intro gb148 hg w13 hbox hb; have n0_ := Aside0.mk (below_step (by repeat (first | (with_reducible first | exact HB.out | apply below_alloc | apply pw_below_drewN | apply below_drew1) | exact HB.out)) hb); have n1_ := Aside0.mk (hbox); have n2_ := Aside0.mk ((by rw [hg]; exact (below_size (by repeat (first | (with_reducible first | exact HB.out | apply below_alloc | apply pw_below_drewN | apply below_drew1) | exact HB.out))) : w.heap.size ≤ gb148)); have n3_ := Aside0.mk ((by rw [hg]; exact (below_size (by repeat (first | (with_reducible first | exact HB.out | apply below_alloc | apply pw_below_drewN | apply below_drew1) | exact HB.out))) : w.heap.size ≤ gb148)); clear HB; have HB := n0_; have BK148 := n1_; have GW148 := n2_; have GE148 := n3_; clear n0_ n1_ n2_ n3_; clear hb hbox hg; have hcz14_0 : w13.cell? ⟨gb148, 0, none⟩ = some (.int .u32 a0_0) := (blk_cell BK148.out 0).trans rfl; have hcz14_1 : w13.cell? ⟨gb148, 1, none⟩ = some (.int .u8 a0_1) := (blk_cell BK148.out 1).trans rfl; have hfz14_0 := blk_frozen BK148.out 0; have hfz14_1 := blk_frozen BK148.out 1) | (go_at_call 8; (with_reducible refine (arrearslaw09_own.calls a0_0 a0_1 t149 t150 _ A11.out).mono ?_); rintro e w15 ⟨rfl, hb⟩; have n0_ := Aside0.mk (blk_below (g := gb148) (o := .cells #[.int .u32 a0_0, .int .u8 a0_1] 24 (0, 0)) (by (with_reducible repeat (first | refine blk_drewN ?_ _ | refine blk_drew ?_ | refine blk_alloc ?_ _)); exact BK148.out) hb); have n1_ := Aside0.mk (below_step (by repeat (first | (with_reducible first | exact HB.out | apply below_alloc | apply pw_below_drewN | apply below_drew1 | refine below_set ?_ GE148.out) | exact HB.out)) hb); clear BK148; clear HB; have BK148 := n0_; have HB := n1_; clear n0_ n1_; (try clear hb); (try clear hb2); (try clear hk); (try clear hi)) | (go_at_call 7; (with_reducible refine (arrearsref09_Unit.calls t149 t150 t151 _ A12.out).mono ?_); rintro e w16 ⟨rfl, hb⟩; have n0_ := Aside0.mk (blk_below (g := gb148) (o := .cells #[.int .u32 a0_0, .int .u8 a0_1] 24 (0, 0)) (by (with_reducible repeat (first | refine blk_drewN ?_ _ | refine blk_drew ?_ | refine blk_alloc ?_ _)); exact BK148.out) hb); have n1_ := Aside0.mk (below_step (by repeat (first | (with_reducible first | exact HB.out | apply below_alloc | apply pw_below_drewN | apply below_drew1 | refine below_set ?_ GE148.out) | exact HB.out)) hb); clear BK148; clear HB; have BK148 := n0_; have HB := n1_; clear n0_ n1_; (try clear hb); (try clear hb2); (try clear hk); (try clear hi)))
              go_ret
              exact ⟨by first | rfl | (simp [errW_none, errW_some] <;> rfl) | (simp [*, errW_none, errW_some] <;> rfl), by repeat (first | (with_reducible first | exact HB.out | apply below_alloc | apply pw_below_drewN | apply below_drew1 | refine below_set ?_ GE148.out) | exact HB.out)⟩
            · rw [if_neg c10] at H
              have c10b0 : decide (a2 ≤ 100000) = false := decide_eq_false c10
              clear c10
              obtain rfl := Option.some.inj H
              go_enter Tryd.func11, Tryd.ntmps11
              go_wp2_with (first | ((with_reducible refine gate_dst (N := 4) rfl ?_); refine box_event ?hg (N := 4) ?hd (cs := #[.int .u32 a0_0, .int .u8 a0_1]) (t := 24) ?hr ?_; (case hd => rfl); (case hg => rfl); (case hr => first | (go_simp; done) | (go_simp; rfl)); intro gb148 hg w17 hbox hb; have n0_ := Aside0.mk (below_step (by repeat (first | (with_reducible first | exact HB.out | apply below_alloc | apply pw_below_drewN | apply below_drew1) | exact HB.out)) hb); have n1_ := Aside0.mk (hbox); have n2_ := Aside0.mk ((by rw [hg]; exact (below_size (by repeat (first | (with_reducible first | exact HB.out | apply below_alloc | apply pw_below_drewN | apply below_drew1) | exact HB.out))) : w.heap.size ≤ gb148)); have n3_ := Aside0.mk ((by rw [hg]; exact (below_size (by repeat (first | (with_reducible first | exact HB.out | apply below_alloc | apply pw_below_drewN | apply below_drew1) | exact HB.out))) : w.heap.size ≤ gb148)); clear HB; have HB := n0_; have BK148 := n1_; have GW148 := n2_; have GE148 := n3_; clear n0_ n1_ n2_ n3_; clear hb hbox hg; have hcz18_0 : w17.cell? ⟨gb148, 0, none⟩ = some (.int .u32 a0_0) := (blk_cell BK148.out 0).trans rfl; have hcz18_1 : w17.cell? ⟨gb148, 1, none⟩ = some (.int .u8 a0_1) := (blk_cell BK148.out 1).trans rfl; have hfz18_0 := blk_frozen BK148.out 0; have hfz18_1 := blk_frozen BK148.out 1))
              go_ret
              exact ⟨by first | rfl | (simp [errW_none, errW_some] <;> rfl) | (simp [*, errW_none, errW_some] <;> rfl), by repeat (first | (with_reducible first | exact HB.out | apply below_alloc | apply pw_below_drewN | apply below_drew1 | refine below_set ?_ GE148.out) | exact HB.out)⟩
          · rw [if_neg c9] at H
            have c9b0 : decide (0 ≤ a2) = false := decide_eq_false c9
            clear c9
            obtain rfl := Option.some.inj H
            go_enter Tryd.func11, Tryd.ntmps11
            go_wp2_with (first | ((with_reducible refine gate_dst (N := 4) rfl ?_); refine box_event ?hg (N := 4) ?hd (cs := #[.int .u32 a0_0, .int .u8 a0_1]) (t := 24) ?hr ?_; (case hd => rfl); (case hg => rfl); (case hr => first | (go_simp; done) | (go_simp; rfl)); intro gb148 hg w19 hbox hb; have n0_ := Aside0.mk (below_step (by repeat (first | (with_reducible first | exact HB.out | apply below_alloc | apply pw_below_drewN | apply below_drew1) | exact HB.out)) hb); have n1_ := Aside0.mk (hbox); have n2_ := Aside0.mk ((by rw [hg]; exact (below_size (by repeat (first | (with_reducible first | exact HB.out | apply below_alloc | apply pw_below_drewN | apply below_drew1) | exact HB.out))) : w.heap.size ≤ gb148)); have n3_ := Aside0.mk ((by rw [hg]; exact (below_size (by repeat (first | (with_reducible first | exact HB.out | apply below_alloc | apply pw_below_drewN | apply below_drew1) | exact HB.out))) : w.heap.size ≤ gb148)); clear HB; have HB := n0_; have BK148 := n1_; have GW148 := n2_; have GE148 := n3_; clear n0_ n1_ n2_ n3_; clear hb hbox hg; have hcz20_0 : w19.cell? ⟨gb148, 0, none⟩ = some (.int .u32 a0_0) := (blk_cell BK148.out 0).trans rfl; have hcz20_1 : w19.cell? ⟨gb148, 1, none⟩ = some (.int .u8 a0_1) := (blk_cell BK148.out 1).trans rfl; have hfz20_0 := blk_frozen BK148.out 0; have hfz20_1 := blk_frozen BK148.out 1))
            go_ret
            exact ⟨by first | rfl | (simp [errW_none, errW_some] <;> rfl) | (simp [*, errW_none, errW_some] <;> rfl), by repeat (first | (with_reducible first | exact HB.out | apply below_alloc | apply pw_below_drewN | apply below_drew1 | refine below_set ?_ GE148.out) | exact HB.out)⟩
        · rw [if_neg c8] at H
          have c8b0 : decide (a1 ≤ 1000000000000) = false := decide_eq_false c8
          clear c8
          obtain rfl := Option.some.inj H
          go_enter Tryd.func11, Tryd.ntmps11
          go_wp2_with (first | ((with_reducible refine gate_dst (N := 4) rfl ?_); refine box_event ?hg (N := 4) ?hd (cs := #[.int .u32 a0_0, .int .u8 a0_1]) (t := 24) ?hr ?_; (case hd => rfl); (case hg => rfl); (case hr => first | (go_simp; done) | (go_simp; rfl)); intro gb148 hg w21 hbox hb; have n0_ := Aside0.mk (below_step (by repeat (first | (with_reducible first | exact HB.out | apply below_alloc | apply pw_below_drewN | apply below_drew1) | exact HB.out)) hb); have n1_ := Aside0.mk (hbox); have n2_ := Aside0.mk ((by rw [hg]; exact (below_size (by repeat (first | (with_reducible first | exact HB.out | apply below_alloc | apply pw_below_drewN | apply below_drew1) | exact HB.out))) : w.heap.size ≤ gb148)); have n3_ := Aside0.mk ((by rw [hg]; exact (below_size (by repeat (first | (with_reducible first | exact HB.out | apply below_alloc | apply pw_below_drewN | apply below_drew1) | exact HB.out))) : w.heap.size ≤ gb148)); clear HB; have HB := n0_; have BK148 := n1_; have GW148 := n2_; have GE148 := n3_; clear n0_ n1_ n2_ n3_; clear hb hbox hg; have hcz22_0 : w21.cell? ⟨gb148, 0, none⟩ = some (.int .u32 a0_0) := (blk_cell BK148.out 0).trans rfl; have hcz22_1 : w21.cell? ⟨gb148, 1, none⟩ = some (.int .u8 a0_1) := (blk_cell BK148.out 1).trans rfl; have hfz22_0 := blk_frozen BK148.out 0; have hfz22_1 := blk_frozen BK148.out 1))
          go_ret
          exact ⟨by first | rfl | (simp [errW_none, errW_some] <;> rfl) | (simp [*, errW_none, errW_some] <;> rfl), by repeat (first | (with_reducible first | exact HB.out | apply below_alloc | apply pw_below_drewN | apply below_drew1 | refine below_set ?_ GE148.out) | exact HB.out)⟩
      · rw [if_neg c7] at H
        have c7b0 : decide (0 ≤ a1) = false := decide_eq_false c7
        clear c7
        obtain rfl := Option.some.inj H
        go_enter Tryd.func11, Tryd.ntmps11
        go_wp2_with (first | ((with_reducible refine gate_dst (N := 4) rfl ?_); refine box_event ?hg (N := 4) ?hd (cs := #[.int .u32 a0_0, .int .u8 a0_1]) (t := 24) ?hr ?_; (case hd => rfl); (case hg => rfl); (case hr => first | (go_simp; done) | (go_simp; rfl)); intro gb148 hg w23 hbox hb; have n0_ := Aside0.mk (below_step (by repeat (first | (with_reducible first | exact HB.out | apply below_alloc | apply pw_below_drewN | apply below_drew1) | exact HB.out)) hb); have n1_ := Aside0.mk (hbox); have n2_ := Aside0.mk ((by rw [hg]; exact (below_size (by repeat (first | (with_reducible first | exact HB.out | apply below_alloc | apply pw_below_drewN | apply below_drew1) | exact HB.out))) : w.heap.size ≤ gb148)); have n3_ := Aside0.mk ((by rw [hg]; exact (below_size (by repeat (first | (with_reducible first | exact HB.out | apply below_alloc | apply pw_below_drewN | apply below_drew1) | exact HB.out))) : w.heap.size ≤ gb148)); clear HB; have HB := n0_; have BK148 := n1_; have GW148 := n2_; have GE148 := n3_; clear n0_ n1_ n2_ n3_; clear hb hbox hg; have hcz24_0 : w23.cell? ⟨gb148, 0, none⟩ = some (.int .u32 a0_0) := (blk_cell BK148.out 0).trans rfl; have hcz24_1 : w23.cell? ⟨gb148, 1, none⟩ = some (.int .u8 a0_1) := (blk_cell BK148.out 1).trans rfl; have hfz24_0 := blk_frozen BK148.out 0; have hfz24_1 := blk_frozen BK148.out 1))
        go_ret
        exact ⟨by first | rfl | (simp [errW_none, errW_some] <;> rfl) | (simp [*, errW_none, errW_some] <;> rfl), by repeat (first | (with_reducible first | exact HB.out | apply below_alloc | apply pw_below_drewN | apply below_drew1 | refine below_set ?_ GE148.out) | exact HB.out)⟩
    · rw [if_neg c6] at H
      have c6b0 : (a0_1 == 1) = false := beq_eq_false_iff_ne.mpr c6
      have c6b1 : (a0_1 != 1) = true := bne_iff_ne.mpr c6
      by_cases c25 : a0_1 = 2
      · rw [if_pos c25] at H
        have c25b0 : (a0_1 == 2) = true := beq_iff_eq.mpr c25
        have c25b1 : (a0_1 != 2) = false := bne_eq_false_iff_eq.mpr c25
        clear c25
        by_cases c26 : a1 ≥ 0
        · rw [if_pos c26] at H
          have c26b0 : decide (0 ≤ a1) = true := decide_eq_true c26
          clear c26
          by_cases c27 : a1 ≤ 1000000000000
          · rw [if_pos c27] at H
            have c27b0 : decide (a1 ≤ 1000000000000) = true := decide_eq_true c27
            clear c27
            by_cases c28 : a2 ≥ 0
            · rw [if_pos c28] at H
              have c28b0 : decide (0 ≤ a2) = true := decide_eq_true c28
              clear c28
              by_cases c29 : a2 ≤ 100000
              · rw [if_pos c29] at H
                have c29b0 : decide (a2 ≤ 100000) = true := decide_eq_true c29
                clear c29
                replace H := Option.bind_eq_some_iff.mp H
                obtain ⟨⟨t152, t153⟩, A300, H⟩ := H
                replace H : ((arrearsref09_Unit.f t152 t153).bind fun t154 => (some (decide (a3 < t154)))) = some r := H
                have A30 := Aside0.mk A300
                clear A300
                replace H := Option.bind_eq_some_iff.mp H
                obtain ⟨t154, A310, H⟩ := H
                replace H : (some (decide (a3 < t154))) = some r := H
                have A31 := Aside0.mk A310
                clear A310
                obtain rfl := Option.some.inj H
                go_enter Tryd.func11, Tryd.ntmps11
                go_wp2_with (first | ((with_reducible refine gate_dst (N := 4) rfl ?_); refine box_event ?hg (N := 4) ?hd (cs := #[.int .u32 a0_0, .int .u8 a0_1]) (t := 24) ?hr ?_; (case hd => rfl); (case hg => rfl); (case hr => first | (go_simp; done) | (go_simp; rfl)); intro gb148 hg w32 hbox hb; have n0_ := Aside0.mk (below_step (by repeat (first | (with_reducible first | exact HB.out | apply below_alloc | apply pw_below_drewN | apply below_drew1) | exact HB.out)) hb); have n1_ := Aside0.mk (hbox); have n2_ := Aside0.mk ((by rw [hg]; exact (below_size (by repeat (first | (with_reducible first | exact HB.out | apply below_alloc | apply pw_below_drewN | apply below_drew1) | exact HB.out))) : w.heap.size ≤ gb148)); have n3_ := Aside0.mk ((by rw [hg]; exact (below_size (by repeat (first | (with_reducible first | exact HB.out | apply below_alloc | apply pw_below_drewN | apply below_drew1) | exact HB.out))) : w.heap.size ≤ gb148)); clear HB; have HB := n0_; have BK148 := n1_; have GW148 := n2_; have GE148 := n3_; clear n0_ n1_ n2_ n3_; clear hb hbox hg; have hcz33_0 : w32.cell? ⟨gb148, 0, none⟩ = some (.int .u32 a0_0) := (blk_cell BK148.out 0).trans rfl; have hcz33_1 : w32.cell? ⟨gb148, 1, none⟩ = some (.int .u8 a0_1) := (blk_cell BK148.out 1).trans rfl; have hfz33_0 := blk_frozen BK148.out 0; have hfz33_1 := blk_frozen BK148.out 1) | (go_at_call 8; (with_reducible refine (arrearslaw09_own.calls a0_0 a0_1 t152 t153 _ A30.out).mono ?_); rintro e w34 ⟨rfl, hb⟩; have n0_ := Aside0.mk (blk_below (g := gb148) (o := .cells #[.int .u32 a0_0, .int .u8 a0_1] 24 (0, 0)) (by (with_reducible repeat (first | refine blk_drewN ?_ _ | refine blk_drew ?_ | refine blk_alloc ?_ _)); exact BK148.out) hb); have n1_ := Aside0.mk (below_step (by repeat (first | (with_reducible first | exact HB.out | apply below_alloc | apply pw_below_drewN | apply below_drew1 | refine below_set ?_ GE148.out) | exact HB.out)) hb); clear BK148; clear HB; have BK148 := n0_; have HB := n1_; clear n0_ n1_; (try clear hb); (try clear hb2); (try clear hk); (try clear hi)) | (go_at_call 7; (with_reducible refine (arrearsref09_Unit.calls t152 t153 t154 _ A31.out).mono ?_); rintro e w35 ⟨rfl, hb⟩; have n0_ := Aside0.mk (blk_below (g := gb148) (o := .cells #[.int .u32 a0_0, .int .u8 a0_1] 24 (0, 0)) (by (with_reducible repeat (first | refine blk_drewN ?_ _ | refine blk_drew ?_ | refine blk_alloc ?_ _)); exact BK148.out) hb); have n1_ := Aside0.mk (below_step (by repeat (first | (with_reducible first | exact HB.out | apply below_alloc | apply pw_below_drewN | apply below_drew1 | refine below_set ?_ GE148.out) | exact HB.out)) hb); clear BK148; clear HB; have BK148 := n0_; have HB := n1_; clear n0_ n1_; (try clear hb); (try clear hb2); (try clear hk); (try clear hi)))
                go_ret
                exact ⟨by first | rfl | (simp [errW_none, errW_some] <;> rfl) | (simp [*, errW_none, errW_some] <;> rfl), by repeat (first | (with_reducible first | exact HB.out | apply below_alloc | apply pw_below_drewN | apply below_drew1 | refine below_set ?_ GE148.out) | exact HB.out)⟩
              · rw [if_neg c29] at H
                have c29b0 : decide (a2 ≤ 100000) = false := decide_eq_false c29
                clear c29
                obtain rfl := Option.some.inj H
                go_enter Tryd.func11, Tryd.ntmps11
                go_wp2_with (first | ((with_reducible refine gate_dst (N := 4) rfl ?_); refine box_event ?hg (N := 4) ?hd (cs := #[.int .u32 a0_0, .int .u8 a0_1]) (t := 24) ?hr ?_; (case hd => rfl); (case hg => rfl); (case hr => first | (go_simp; done) | (go_simp; rfl)); intro gb148 hg w36 hbox hb; have n0_ := Aside0.mk (below_step (by repeat (first | (with_reducible first | exact HB.out | apply below_alloc | apply pw_below_drewN | apply below_drew1) | exact HB.out)) hb); have n1_ := Aside0.mk (hbox); have n2_ := Aside0.mk ((by rw [hg]; exact (below_size (by repeat (first | (with_reducible first | exact HB.out | apply below_alloc | apply pw_below_drewN | apply below_drew1) | exact HB.out))) : w.heap.size ≤ gb148)); have n3_ := Aside0.mk ((by rw [hg]; exact (below_size (by repeat (first | (with_reducible first | exact HB.out | apply below_alloc | apply pw_below_drewN | apply below_drew1) | exact HB.out))) : w.heap.size ≤ gb148)); clear HB; have HB := n0_; have BK148 := n1_; have GW148 := n2_; have GE148 := n3_; clear n0_ n1_ n2_ n3_; clear hb hbox hg; have hcz37_0 : w36.cell? ⟨gb148, 0, none⟩ = some (.int .u32 a0_0) := (blk_cell BK148.out 0).trans rfl; have hcz37_1 : w36.cell? ⟨gb148, 1, none⟩ = some (.int .u8 a0_1) := (blk_cell BK148.out 1).trans rfl; have hfz37_0 := blk_frozen BK148.out 0; have hfz37_1 := blk_frozen BK148.out 1))
                go_ret
                exact ⟨by first | rfl | (simp [errW_none, errW_some] <;> rfl) | (simp [*, errW_none, errW_some] <;> rfl), by repeat (first | (with_reducible first | exact HB.out | apply below_alloc | apply pw_below_drewN | apply below_drew1 | refine below_set ?_ GE148.out) | exact HB.out)⟩
            · rw [if_neg c28] at H
              have c28b0 : decide (0 ≤ a2) = false := decide_eq_false c28
              clear c28
              obtain rfl := Option.some.inj H
              go_enter Tryd.func11, Tryd.ntmps11
              go_wp2_with (first | ((with_reducible refine gate_dst (N := 4) rfl ?_); refine box_event ?hg (N := 4) ?hd (cs := #[.int .u32 a0_0, .int .u8 a0_1]) (t := 24) ?hr ?_; (case hd => rfl); (case hg => rfl); (case hr => first | (go_simp; done) | (go_simp; rfl)); intro gb148 hg w38 hbox hb; have n0_ := Aside0.mk (below_step (by repeat (first | (with_reducible first | exact HB.out | apply below_alloc | apply pw_below_drewN | apply below_drew1) | exact HB.out)) hb); have n1_ := Aside0.mk (hbox); have n2_ := Aside0.mk ((by rw [hg]; exact (below_size (by repeat (first | (with_reducible first | exact HB.out | apply below_alloc | apply pw_below_drewN | apply below_drew1) | exact HB.out))) : w.heap.size ≤ gb148)); have n3_ := Aside0.mk ((by rw [hg]; exact (below_size (by repeat (first | (with_reducible first | exact HB.out | apply below_alloc | apply pw_below_drewN | apply below_drew1) | exact HB.out))) : w.heap.size ≤ gb148)); clear HB; have HB := n0_; have BK148 := n1_; have GW148 := n2_; have GE148 := n3_; clear n0_ n1_ n2_ n3_; clear hb hbox hg; have hcz39_0 : w38.cell? ⟨gb148, 0, none⟩ = some (.int .u32 a0_0) := (blk_cell BK148.out 0).trans rfl; have hcz39_1 : w38.cell? ⟨gb148, 1, none⟩ = some (.int .u8 a0_1) := (blk_cell BK148.out 1).trans rfl; have hfz39_0 := blk_frozen BK148.out 0; have hfz39_1 := blk_frozen BK148.out 1))
              go_ret
              exact ⟨by first | rfl | (simp [errW_none, errW_some] <;> rfl) | (simp [*, errW_none, errW_some] <;> rfl), by repeat (first | (with_reducible first | exact HB.out | apply below_alloc | apply pw_below_drewN | apply below_drew1 | refine below_set ?_ GE148.out) | exact HB.out)⟩
          · rw [if_neg c27] at H
            have c27b0 : decide (a1 ≤ 1000000000000) = false := decide_eq_false c27
            clear c27
            obtain rfl := Option.some.inj H
            go_enter Tryd.func11, Tryd.ntmps11
            go_wp2_with (first | ((with_reducible refine gate_dst (N := 4) rfl ?_); refine box_event ?hg (N := 4) ?hd (cs := #[.int .u32 a0_0, .int .u8 a0_1]) (t := 24) ?hr ?_; (case hd => rfl); (case hg => rfl); (case hr => first | (go_simp; done) | (go_simp; rfl)); intro gb148 hg w40 hbox hb; have n0_ := Aside0.mk (below_step (by repeat (first | (with_reducible first | exact HB.out | apply below_alloc | apply pw_below_drewN | apply below_drew1) | exact HB.out)) hb); have n1_ := Aside0.mk (hbox); have n2_ := Aside0.mk ((by rw [hg]; exact (below_size (by repeat (first | (with_reducible first | exact HB.out | apply below_alloc | apply pw_below_drewN | apply below_drew1) | exact HB.out))) : w.heap.size ≤ gb148)); have n3_ := Aside0.mk ((by rw [hg]; exact (below_size (by repeat (first | (with_reducible first | exact HB.out | apply below_alloc | apply pw_below_drewN | apply below_drew1) | exact HB.out))) : w.heap.size ≤ gb148)); clear HB; have HB := n0_; have BK148 := n1_; have GW148 := n2_; have GE148 := n3_; clear n0_ n1_ n2_ n3_; clear hb hbox hg; have hcz41_0 : w40.cell? ⟨gb148, 0, none⟩ = some (.int .u32 a0_0) := (blk_cell BK148.out 0).trans rfl; have hcz41_1 : w40.cell? ⟨gb148, 1, none⟩ = some (.int .u8 a0_1) := (blk_cell BK148.out 1).trans rfl; have hfz41_0 := blk_frozen BK148.out 0; have hfz41_1 := blk_frozen BK148.out 1))
            go_ret
            exact ⟨by first | rfl | (simp [errW_none, errW_some] <;> rfl) | (simp [*, errW_none, errW_some] <;> rfl), by repeat (first | (with_reducible first | exact HB.out | apply below_alloc | apply pw_below_drewN | apply below_drew1 | refine below_set ?_ GE148.out) | exact HB.out)⟩
        · rw [if_neg c26] at H
          have c26b0 : decide (0 ≤ a1) = false := decide_eq_false c26
          clear c26
          obtain rfl := Option.some.inj H
          go_enter Tryd.func11, Tryd.ntmps11
          go_wp2_with (first | ((with_reducible refine gate_dst (N := 4) rfl ?_); refine box_event ?hg (N := 4) ?hd (cs := #[.int .u32 a0_0, .int .u8 a0_1]) (t := 24) ?hr ?_; (case hd => rfl); (case hg => rfl); (case hr => first | (go_simp; done) | (go_simp; rfl)); intro gb148 hg w42 hbox hb; have n0_ := Aside0.mk (below_step (by repeat (first | (with_reducible first | exact HB.out | apply below_alloc | apply pw_below_drewN | apply below_drew1) | exact HB.out)) hb); have n1_ := Aside0.mk (hbox); have n2_ := Aside0.mk ((by rw [hg]; exact (below_size (by repeat (first | (with_reducible first | exact HB.out | apply below_alloc | apply pw_below_drewN | apply below_drew1) | exact HB.out))) : w.heap.size ≤ gb148)); have n3_ := Aside0.mk ((by rw [hg]; exact (below_size (by repeat (first | (with_reducible first | exact HB.out | apply below_alloc | apply pw_below_drewN | apply below_drew1) | exact HB.out))) : w.heap.size ≤ gb148)); clear HB; have HB := n0_; have BK148 := n1_; have GW148 := n2_; have GE148 := n3_; clear n0_ n1_ n2_ n3_; clear hb hbox hg; have hcz43_0 : w42.cell? ⟨gb148, 0, none⟩ = some (.int .u32 a0_0) := (blk_cell BK148.out 0).trans rfl; have hcz43_1 : w42.cell? ⟨gb148, 1, none⟩ = some (.int .u8 a0_1) := (blk_cell BK148.out 1).trans rfl; have hfz43_0 := blk_frozen BK148.out 0; have hfz43_1 := blk_frozen BK148.out 1))
          go_ret
          exact ⟨by first | rfl | (simp [errW_none, errW_some] <;> rfl) | (simp [*, errW_none, errW_some] <;> rfl), by repeat (first | (with_reducible first | exact HB.out | apply below_alloc | apply pw_below_drewN | apply below_drew1 | refine below_set ?_ GE148.out) | exact HB.out)⟩
      · rw [if_neg c25] at H
        have c25b0 : (a0_1 == 2) = false := beq_eq_false_iff_ne.mpr c25
        have c25b1 : (a0_1 != 2) = true := bne_iff_ne.mpr c25
        obtain rfl := Option.some.inj H
        go_enter Tryd.func11, Tryd.ntmps11
        go_wp2_with (first | ((with_reducible refine gate_dst (N := 4) rfl ?_); refine box_event ?hg (N := 4) ?hd (cs := #[.int .u32 a0_0, .int .u8 a0_1]) (t := 24) ?hr ?_; (case hd => rfl); (case hg => rfl); (case hr => first | (go_simp; done) | (go_simp; rfl)); intro gb148 hg w44 hbox hb; have n0_ := Aside0.mk (below_step (by repeat (first | (with_reducible first | exact HB.out | apply below_alloc | apply pw_below_drewN | apply below_drew1) | exact HB.out)) hb); have n1_ := Aside0.mk (hbox); have n2_ := Aside0.mk ((by rw [hg]; exact (below_size (by repeat (first | (with_reducible first | exact HB.out | apply below_alloc | apply pw_below_drewN | apply below_drew1) | exact HB.out))) : w.heap.size ≤ gb148)); have n3_ := Aside0.mk ((by rw [hg]; exact (below_size (by repeat (first | (with_reducible first | exact HB.out | apply below_alloc | apply pw_below_drewN | apply below_drew1) | exact HB.out))) : w.heap.size ≤ gb148)); clear HB; have HB := n0_; have BK148 := n1_; have GW148 := n2_; have GE148 := n3_; clear n0_ n1_ n2_ n3_; clear hb hbox hg; have hcz45_0 : w44.cell? ⟨gb148, 0, none⟩ = some (.int .u32 a0_0) := (blk_cell BK148.out 0).trans rfl; have hcz45_1 : w44.cell? ⟨gb148, 1, none⟩ = some (.int .u8 a0_1) := (blk_cell BK148.out 1).trans rfl; have hfz45_0 := blk_frozen BK148.out 0; have hfz45_1 := blk_frozen BK148.out 1))
        go_ret
        exact ⟨by first | rfl | (simp [errW_none, errW_some] <;> rfl) | (simp [*, errW_none, errW_some] <;> rfl), by repeat (first | (with_reducible first | exact HB.out | apply below_alloc | apply pw_below_drewN | apply below_drew1 | refine below_set ?_ GE148.out) | exact HB.out)⟩
  · rw [if_neg c5] at H
    have c5b0 : decide (a0_0 ≤ 1000000) = false := decide_eq_false c5
    clear c5
    obtain rfl := Option.some.inj H
    go_enter Tryd.func11, Tryd.ntmps11
    go_wp2_with (first | ((with_reducible refine gate_dst (N := 4) rfl ?_); refine box_event ?hg (N := 4) ?hd (cs := #[.int .u32 a0_0, .int .u8 a0_1]) (t := 24) ?hr ?_; (case hd => rfl); (case hg => rfl); (case hr => first | (go_simp; done) | (go_simp; rfl)); intro gb148 hg w46 hbox hb; have n0_ := Aside0.mk (below_step (by repeat (first | (with_reducible first | exact HB.out | apply below_alloc | apply pw_below_drewN | apply below_drew1) | exact HB.out)) hb); have n1_ := Aside0.mk (hbox); have n2_ := Aside0.mk ((by rw [hg]; exact (below_size (by repeat (first | (with_reducible first | exact HB.out | apply below_alloc | apply pw_below_drewN | apply below_drew1) | exact HB.out))) : w.heap.size ≤ gb148)); have n3_ := Aside0.mk ((by rw [hg]; exact (below_size (by repeat (first | (with_reducible first | exact HB.out | apply below_alloc | apply pw_below_drewN | apply below_drew1) | exact HB.out))) : w.heap.size ≤ gb148)); clear HB; have HB := n0_; have BK148 := n1_; have GW148 := n2_; have GE148 := n3_; clear n0_ n1_ n2_ n3_; clear hb hbox hg; have hcz47_0 : w46.cell? ⟨gb148, 0, none⟩ = some (.int .u32 a0_0) := (blk_cell BK148.out 0).trans rfl; have hcz47_1 : w46.cell? ⟨gb148, 1, none⟩ = some (.int .u8 a0_1) := (blk_cell BK148.out 1).trans rfl; have hfz47_0 := blk_frozen BK148.out 0; have hfz47_1 := blk_frozen BK148.out 1))
    go_ret
    exact ⟨by first | rfl | (simp [errW_none, errW_some] <;> rfl) | (simp [*, errW_none, errW_some] <;> rfl), by repeat (first | (with_reducible first | exact HB.out | apply below_alloc | apply pw_below_drewN | apply below_drew1 | refine below_set ?_ GE148.out) | exact HB.out)⟩

/-! ### api_Code: function 12 -/
open Go.Proofs.YtldicnmpegkicaaDoor.M (Laid Laid.below Laid.et as_hit)
def api_Code.f (a0 : Option Int) : Option Int := some (a0.getD 0)
set_option maxHeartbeats 8000000 in
theorem api_Code.calls (a0 : Option Int) (r : Int) (w : World) (hG : Laid w) (h : api_Code.f a0 = some r) :
    Calls Tryd.prog 12 #[errW a0] w fun e w' => e = .returned (.int .i64 r) ∧ Below w.heap.size w w' := by
  unfold api_Code.f at h
  obtain rfl := Option.some.inj h
  cases a0 with
  | none =>
    go_enter Tryd.func12, Tryd.ntmps12
    simp only [errW_none]
    go_wp2
    go_ret
    exact ⟨rfl, Below.refl _ _⟩
  | some c =>
    have hw : Laid (w.alloc (.cells #[.int .i64 0] 38)) := Laid.below hG (below_alloc (Below.refl _ _) _)
    have hit := as_hit c ⟨w.heap.size, 0, none⟩ (.int .i64 0) (w.alloc (.cells #[.int .i64 0] 38)) hw.et (by simp) (by simp)
    have HIT := Aside0.mk hit
    clear hit hw hG
    go_enter Tryd.func12, Tryd.ntmps12
    simp only [errW_some]
    go_wp2_with (go_at_call 24; refine HIT.out.mono ?_; rintro e w' ⟨rfl, rfl⟩)
    go_ret
    exact ⟨rfl, by repeat (first | exact Below.refl _ _ | apply below_alloc | apply pw_below_drewN | apply below_drew1 | (refine below_set ?_ (Nat.le_refl _)))⟩


/-! ### arrearsref03_Add: function 25 -/
def arrearsref03_Add.f (a0_0 : Int) (a0_1 : Int) (a0_2 : Int) (a0_3 : Int) (a0_4 : Int) (a0_5 : Int) (a0_6 : Int) (a0_7 : Int) (a1_0 : Int) (a1_1 : Int) (a1_2 : Int) (a1_3 : Int) (a1_4 : Int) (a1_5 : Int) (a1_6 : Int) (a1_7 : Int) : Option (Int × Int × Int × Int × Int × Int × Int × Int × Bool) :=
  if (0 ≤ a0_0 ∧ a0_0 ≤ 65535) ∧ (0 ≤ a0_1 ∧ a0_1 ≤ 65535) ∧ (0 ≤ a0_2 ∧ a0_2 ≤ 65535) ∧ (0 ≤ a0_3 ∧ a0_3 ≤ 65535) ∧ (0 ≤ a0_4 ∧ a0_4 ≤ 65535) ∧ (0 ≤ a0_5 ∧ a0_5 ≤ 65535) ∧ (0 ≤ a0_6 ∧ a0_6 ≤ 65535) ∧ (0 ≤ a0_7 ∧ a0_7 ≤ 65535) ∧ (0 ≤ a1_0 ∧ a1_0 ≤ 65535) ∧ (0 ≤ a1_1 ∧ a1_1 ≤ 65535) ∧ (0 ≤ a1_2 ∧ a1_2 ≤ 65535) ∧ (0 ≤ a1_3 ∧ a1_3 ≤ 65535) ∧ (0 ≤ a1_4 ∧ a1_4 ≤ 65535) ∧ (0 ≤ a1_5 ∧ a1_5 ≤ 65535) ∧ (0 ≤ a1_6 ∧ a1_6 ≤ 65535) ∧ (0 ≤ a1_7 ∧ a1_7 ≤ 65535) then some ((a0_0 + a1_0) % 65536, (a0_1 + a1_1 + ((a0_0 + a1_0) / 65536)) % 65536, (a0_2 + a1_2 + ((a0_1 + a1_1 + ((a0_0 + a1_0) / 65536)) / 65536)) % 65536, (a0_3 + a1_3 + ((a0_2 + a1_2 + ((a0_1 + a1_1 + ((a0_0 + a1_0) / 65536)) / 65536)) / 65536)) % 65536, (a0_4 + a1_4 + ((a0_3 + a1_3 + ((a0_2 + a1_2 + ((a0_1 + a1_1 + ((a0_0 + a1_0) / 65536)) / 65536)) / 65536)) / 65536)) % 65536, (a0_5 + a1_5 + ((a0_4 + a1_4 + ((a0_3 + a1_3 + ((a0_2 + a1_2 + ((a0_1 + a1_1 + ((a0_0 + a1_0) / 65536)) / 65536)) / 65536)) / 65536)) / 65536)) % 65536, (a0_6 + a1_6 + ((a0_5 + a1_5 + ((a0_4 + a1_4 + ((a0_3 + a1_3 + ((a0_2 + a1_2 + ((a0_1 + a1_1 + ((a0_0 + a1_0) / 65536)) / 65536)) / 65536)) / 65536)) / 65536)) / 65536)) % 65536, (a0_7 + a1_7 + ((a0_6 + a1_6 + ((a0_5 + a1_5 + ((a0_4 + a1_4 + ((a0_3 + a1_3 + ((a0_2 + a1_2 + ((a0_1 + a1_1 + ((a0_0 + a1_0) / 65536)) / 65536)) / 65536)) / 65536)) / 65536)) / 65536)) / 65536)) % 65536, ((a0_7 + a1_7 + ((a0_6 + a1_6 + ((a0_5 + a1_5 + ((a0_4 + a1_4 + ((a0_3 + a1_3 + ((a0_2 + a1_2 + ((a0_1 + a1_1 + ((a0_0 + a1_0) / 65536)) / 65536)) / 65536)) / 65536)) / 65536)) / 65536)) / 65536)) / 65536) == 0) else none
theorem carry_bd {x y o : Int} (hx : 0 ≤ x ∧ x ≤ 65535) (hy : 0 ≤ y ∧ y ≤ 65535) (ho : 0 ≤ o ∧ o ≤ 1) : 0 ≤ (x + y + o) / 65536 ∧ (x + y + o) / 65536 ≤ 1 := by omega
theorem carry_bd0 {x y : Int} (hx : 0 ≤ x ∧ x ≤ 65535) (hy : 0 ≤ y ∧ y ≤ 65535) : 0 ≤ (x + y) / 65536 ∧ (x + y) / 65536 ≤ 1 := by omega
set_option maxHeartbeats 8000000 in
theorem add_ok (x0 x1 x2 x3 x4 x5 x6 x7 y0 y1 y2 y3 y4 y5 y6 y7 o1 o2 o3 o4 o5 o6 o7 o8 : Int) (hx0 : 0 ≤ x0 ∧ x0 ≤ 65535) (hy0 : 0 ≤ y0 ∧ y0 ≤ 65535) (hx1 : 0 ≤ x1 ∧ x1 ≤ 65535) (hy1 : 0 ≤ y1 ∧ y1 ≤ 65535) (hx2 : 0 ≤ x2 ∧ x2 ≤ 65535) (hy2 : 0 ≤ y2 ∧ y2 ≤ 65535) (hx3 : 0 ≤ x3 ∧ x3 ≤ 65535) (hy3 : 0 ≤ y3 ∧ y3 ≤ 65535) (hx4 : 0 ≤ x4 ∧ x4 ≤ 65535) (hy4 : 0 ≤ y4 ∧ y4 ≤ 65535) (hx5 : 0 ≤ x5 ∧ x5 ≤ 65535) (hy5 : 0 ≤ y5 ∧ y5 ≤ 65535) (hx6 : 0 ≤ x6 ∧ x6 ≤ 65535) (hy6 : 0 ≤ y6 ∧ y6 ≤ 65535) (hx7 : 0 ≤ x7 ∧ x7 ≤ 65535) (hy7 : 0 ≤ y7 ∧ y7 ≤ 65535) (ho1 : 0 ≤ o1 ∧ o1 ≤ 1) (e1 : (x0 + y0) / 65536 = o1) (ho2 : 0 ≤ o2 ∧ o2 ≤ 1) (e2 : (x1 + y1 + o1) / 65536 = o2) (ho3 : 0 ≤ o3 ∧ o3 ≤ 1) (e3 : (x2 + y2 + o2) / 65536 = o3) (ho4 : 0 ≤ o4 ∧ o4 ≤ 1) (e4 : (x3 + y3 + o3) / 65536 = o4) (ho5 : 0 ≤ o5 ∧ o5 ≤ 1) (e5 : (x4 + y4 + o4) / 65536 = o5) (ho6 : 0 ≤ o6 ∧ o6 ≤ 1) (e6 : (x5 + y5 + o5) / 65536 = o6) (ho7 : 0 ≤ o7 ∧ o7 ≤ 1) (e7 : (x6 + y6 + o6) / 65536 = o7) (ho8 : 0 ≤ o8 ∧ o8 ≤ 1) (e8 : (x7 + y7 + o7) / 65536 = o8) (w : World) :
    Calls Tryd.prog 25 #[.agg #[.int .u32 x0, .int .u32 x1, .int .u32 x2, .int .u32 x3, .int .u32 x4, .int .u32 x5, .int .u32 x6, .int .u32 x7], .agg #[.int .u32 y0, .int .u32 y1, .int .u32 y2, .int .u32 y3, .int .u32 y4, .int .u32 y5, .int .u32 y6, .int .u32 y7]] w fun e w' => e = .returned (.tuple #[.agg #[.int .u32 ((x0 + y0) % 65536), .int .u32 ((x1 + y1 + o1) % 65536), .int .u32 ((x2 + y2 + o2) % 65536), .int .u32 ((x3 + y3 + o3) % 65536), .int .u32 ((x4 + y4 + o4) % 65536), .int .u32 ((x5 + y5 + o5) % 65536), .int .u32 ((x6 + y6 + o6) % 65536), .int .u32 ((x7 + y7 + o7) % 65536)], .bool (o8 == 0)]) ∧ Below w.heap.size w w' := by
  go_enter Tryd.func25, Tryd.ntmps25
  go_wp2_with (first | ((with_reducible refine gate_dst (N := 2) rfl ?_); (try (refine gate_guard (by rfl) ?_; dsimp only)); refine box_event ?hg (N := 2) ?hd (cs := #[.int .u32 x0, .int .u32 x1, .int .u32 x2, .int .u32 x3, .int .u32 x4, .int .u32 x5, .int .u32 x6, .int .u32 x7]) (t := 61) ?hr ?_; (case hd => rfl); (case hg => rfl); (case hr => first | (go_simp; done) | (go_simp; rfl)); intro gb2 hg w2 hbox hb; have BK2 := Aside0.mk hbox; have HB := Aside0.mk hb; have GE2 := Aside0.mk (Nat.le_of_eq hg.symm : w.heap.size ≤ gb2); clear hbox hb hg) | ((with_reducible refine gate_dst (N := 3) rfl ?_); (try (refine gate_guard (by rfl) ?_; dsimp only)); refine box_event ?hg (N := 3) ?hd (cs := #[.int .u32 y0, .int .u32 y1, .int .u32 y2, .int .u32 y3, .int .u32 y4, .int .u32 y5, .int .u32 y6, .int .u32 y7]) (t := 61) ?hr ?_; (case hd => rfl); (case hg => rfl); (case hr => first | (go_simp; done) | (go_simp; rfl)); intro gb3 hg w3 hbox hb; have n2_ := Aside0.mk (blk_below BK2.out hb); have NB2_3 := Aside0.mk (by rw [hg]; exact Nat.ne_of_lt (blk_lt BK2.out) : gb2 ≠ gb3); have m_ := Aside0.mk (below_step HB.out hb); have GE3 := Aside0.mk (Nat.le_trans (below_size HB.out) (Nat.le_of_eq hg.symm) : w.heap.size ≤ gb3); clear HB; have HB := m_; clear m_; clear BK2; have BK2 := n2_; clear n2_; have BK3 := Aside0.mk hbox; clear hbox hb hg) | ((with_reducible refine gate_dst (N := 4) rfl ?_); (try (refine gate_guard (by rfl) ?_; dsimp only)); refine box_event ?hg (N := 4) ?hd (cs := #[.int .u32 0, .int .u32 0, .int .u32 0, .int .u32 0, .int .u32 0, .int .u32 0, .int .u32 0, .int .u32 0]) (t := 61) ?hr ?_; (case hd => rfl); (case hg => rfl); (case hr => first | (go_simp; done) | (go_simp; rfl)); intro gb4 hg w4 hbox hb; have n2_ := Aside0.mk (blk_below BK2.out hb); have NB2_4 := Aside0.mk (by rw [hg]; exact Nat.ne_of_lt (blk_lt BK2.out) : gb2 ≠ gb4); have n3_ := Aside0.mk (blk_below BK3.out hb); have NB3_4 := Aside0.mk (by rw [hg]; exact Nat.ne_of_lt (blk_lt BK3.out) : gb3 ≠ gb4); have m_ := Aside0.mk (below_step HB.out hb); have GE4 := Aside0.mk (Nat.le_trans (below_size HB.out) (Nat.le_of_eq hg.symm) : w.heap.size ≤ gb4); clear HB; have HB := m_; clear m_; clear BK2; have BK2 := n2_; clear n2_; clear BK3; have BK3 := n3_; clear n3_; have BK4 := Aside0.mk hbox; clear hbox hb hg) | ((with_reducible refine gate_dst (N := 6) rfl ?_); (try (refine gate_guard (by rfl) ?_; dsimp only)); refine box_event ?hg (N := 6) ?hd (cs := #[.int .u32 0, .int .u32 0, .int .u32 0, .int .u32 0, .int .u32 0, .int .u32 0, .int .u32 0, .int .u32 0]) (t := 61) ?hr ?_; (case hd => rfl); (case hg => rfl); (case hr => first | (go_simp; done) | (go_simp; rfl)); intro gb6 hg w6 hbox hb; have n2_ := Aside0.mk (blk_below BK2.out hb); have NB2_6 := Aside0.mk (by rw [hg]; exact Nat.ne_of_lt (blk_lt BK2.out) : gb2 ≠ gb6); have n3_ := Aside0.mk (blk_below BK3.out hb); have NB3_6 := Aside0.mk (by rw [hg]; exact Nat.ne_of_lt (blk_lt BK3.out) : gb3 ≠ gb6); have n4_ := Aside0.mk (blk_below BK4.out hb); have NB4_6 := Aside0.mk (by rw [hg]; exact Nat.ne_of_lt (blk_lt BK4.out) : gb4 ≠ gb6); have m_ := Aside0.mk (below_step HB.out hb); have GE6 := Aside0.mk (Nat.le_trans (below_size HB.out) (Nat.le_of_eq hg.symm) : w.heap.size ≤ gb6); clear HB; have HB := m_; clear m_; clear BK2; have BK2 := n2_; clear n2_; clear BK3; have BK3 := n3_; clear n3_; clear BK4; have BK4 := n4_; clear n4_; have BK6 := Aside0.mk hbox; clear hbox hb hg))
  have hc2_0 : w6.cell? ⟨gb2, 0, none⟩ = some (.int .u32 x0) := (blk_cell BK2.out 0).trans rfl
  have hf2_0 := blk_frozen BK2.out 0
  have hc2_1 : w6.cell? ⟨gb2, 1, none⟩ = some (.int .u32 x1) := (blk_cell BK2.out 1).trans rfl
  have hf2_1 := blk_frozen BK2.out 1
  have hc2_2 : w6.cell? ⟨gb2, 2, none⟩ = some (.int .u32 x2) := (blk_cell BK2.out 2).trans rfl
  have hf2_2 := blk_frozen BK2.out 2
  have hc2_3 : w6.cell? ⟨gb2, 3, none⟩ = some (.int .u32 x3) := (blk_cell BK2.out 3).trans rfl
  have hf2_3 := blk_frozen BK2.out 3
  have hc2_4 : w6.cell? ⟨gb2, 4, none⟩ = some (.int .u32 x4) := (blk_cell BK2.out 4).trans rfl
  have hf2_4 := blk_frozen BK2.out 4
  have hc2_5 : w6.cell? ⟨gb2, 5, none⟩ = some (.int .u32 x5) := (blk_cell BK2.out 5).trans rfl
  have hf2_5 := blk_frozen BK2.out 5
  have hc2_6 : w6.cell? ⟨gb2, 6, none⟩ = some (.int .u32 x6) := (blk_cell BK2.out 6).trans rfl
  have hf2_6 := blk_frozen BK2.out 6
  have hc2_7 : w6.cell? ⟨gb2, 7, none⟩ = some (.int .u32 x7) := (blk_cell BK2.out 7).trans rfl
  have hf2_7 := blk_frozen BK2.out 7
  have hc3_0 : w6.cell? ⟨gb3, 0, none⟩ = some (.int .u32 y0) := (blk_cell BK3.out 0).trans rfl
  have hf3_0 := blk_frozen BK3.out 0
  have hc3_1 : w6.cell? ⟨gb3, 1, none⟩ = some (.int .u32 y1) := (blk_cell BK3.out 1).trans rfl
  have hf3_1 := blk_frozen BK3.out 1
  have hc3_2 : w6.cell? ⟨gb3, 2, none⟩ = some (.int .u32 y2) := (blk_cell BK3.out 2).trans rfl
  have hf3_2 := blk_frozen BK3.out 2
  have hc3_3 : w6.cell? ⟨gb3, 3, none⟩ = some (.int .u32 y3) := (blk_cell BK3.out 3).trans rfl
  have hf3_3 := blk_frozen BK3.out 3
  have hc3_4 : w6.cell? ⟨gb3, 4, none⟩ = some (.int .u32 y4) := (blk_cell BK3.out 4).trans rfl
  have hf3_4 := blk_frozen BK3.out 4
  have hc3_5 : w6.cell? ⟨gb3, 5, none⟩ = some (.int .u32 y5) := (blk_cell BK3.out 5).trans rfl
  have hf3_5 := blk_frozen BK3.out 5
  have hc3_6 : w6.cell? ⟨gb3, 6, none⟩ = some (.int .u32 y6) := (blk_cell BK3.out 6).trans rfl
  have hf3_6 := blk_frozen BK3.out 6
  have hc3_7 : w6.cell? ⟨gb3, 7, none⟩ = some (.int .u32 y7) := (blk_cell BK3.out 7).trans rfl
  have hf3_7 := blk_frozen BK3.out 7
  have hc4_0 : w6.cell? ⟨gb4, 0, none⟩ = some (.int .u32 0) := (blk_cell BK4.out 0).trans rfl
  have hf4_0 := blk_frozen BK4.out 0
  have hc4_1 : w6.cell? ⟨gb4, 1, none⟩ = some (.int .u32 0) := (blk_cell BK4.out 1).trans rfl
  have hf4_1 := blk_frozen BK4.out 1
  have hc4_2 : w6.cell? ⟨gb4, 2, none⟩ = some (.int .u32 0) := (blk_cell BK4.out 2).trans rfl
  have hf4_2 := blk_frozen BK4.out 2
  have hc4_3 : w6.cell? ⟨gb4, 3, none⟩ = some (.int .u32 0) := (blk_cell BK4.out 3).trans rfl
  have hf4_3 := blk_frozen BK4.out 3
  have hc4_4 : w6.cell? ⟨gb4, 4, none⟩ = some (.int .u32 0) := (blk_cell BK4.out 4).trans rfl
  have hf4_4 := blk_frozen BK4.out 4
  have hc4_5 : w6.cell? ⟨gb4, 5, none⟩ = some (.int .u32 0) := (blk_cell BK4.out 5).trans rfl
  have hf4_5 := blk_frozen BK4.out 5
  have hc4_6 : w6.cell? ⟨gb4, 6, none⟩ = some (.int .u32 0) := (blk_cell BK4.out 6).trans rfl
  have hf4_6 := blk_frozen BK4.out 6
  have hc4_7 : w6.cell? ⟨gb4, 7, none⟩ = some (.int .u32 0) := (blk_cell BK4.out 7).trans rfl
  have hf4_7 := blk_frozen BK4.out 7
  have hc6_0 : w6.cell? ⟨gb6, 0, none⟩ = some (.int .u32 0) := (blk_cell BK6.out 0).trans rfl
  have hf6_0 := blk_frozen BK6.out 0
  have hc6_1 : w6.cell? ⟨gb6, 1, none⟩ = some (.int .u32 0) := (blk_cell BK6.out 1).trans rfl
  have hf6_1 := blk_frozen BK6.out 1
  have hc6_2 : w6.cell? ⟨gb6, 2, none⟩ = some (.int .u32 0) := (blk_cell BK6.out 2).trans rfl
  have hf6_2 := blk_frozen BK6.out 2
  have hc6_3 : w6.cell? ⟨gb6, 3, none⟩ = some (.int .u32 0) := (blk_cell BK6.out 3).trans rfl
  have hf6_3 := blk_frozen BK6.out 3
  have hc6_4 : w6.cell? ⟨gb6, 4, none⟩ = some (.int .u32 0) := (blk_cell BK6.out 4).trans rfl
  have hf6_4 := blk_frozen BK6.out 4
  have hc6_5 : w6.cell? ⟨gb6, 5, none⟩ = some (.int .u32 0) := (blk_cell BK6.out 5).trans rfl
  have hf6_5 := blk_frozen BK6.out 5
  have hc6_6 : w6.cell? ⟨gb6, 6, none⟩ = some (.int .u32 0) := (blk_cell BK6.out 6).trans rfl
  have hf6_6 := blk_frozen BK6.out 6
  have hc6_7 : w6.cell? ⟨gb6, 7, none⟩ = some (.int .u32 0) := (blk_cell BK6.out 7).trans rfl
  have hf6_7 := blk_frozen BK6.out 7
  have nb2_3 := NB2_3.out
  have nc2_3 := Ne.symm NB2_3.out
  have nb2_4 := NB2_4.out
  have nc2_4 := Ne.symm NB2_4.out
  have nb3_4 := NB3_4.out
  have nc3_4 := Ne.symm NB3_4.out
  have nb2_6 := NB2_6.out
  have nc2_6 := Ne.symm NB2_6.out
  have nb3_6 := NB3_6.out
  have nc3_6 := Ne.symm NB3_6.out
  have nb4_6 := NB4_6.out
  have nc4_6 := Ne.symm NB4_6.out
  refine wp_loop_rounds 9 ?_
  rw [rounds_succ]
  go_wp2
  repeat (go_quiet (fail); try go_wp2)
  simp only [e1]
  rw [rounds_succ]
  go_wp2
  repeat (go_quiet (fail); try go_wp2)
  simp only [e2]
  rw [rounds_succ]
  go_wp2
  repeat (go_quiet (fail); try go_wp2)
  simp only [e3]
  rw [rounds_succ]
  go_wp2
  repeat (go_quiet (fail); try go_wp2)
  simp only [e4]
  rw [rounds_succ]
  go_wp2
  repeat (go_quiet (fail); try go_wp2)
  simp only [e5]
  rw [rounds_succ]
  go_wp2
  repeat (go_quiet (fail); try go_wp2)
  simp only [e6]
  rw [rounds_succ]
  go_wp2
  repeat (go_quiet (fail); try go_wp2)
  simp only [e7]
  rw [rounds_succ]
  go_wp2
  repeat (go_quiet (fail); try go_wp2)
  simp only [e8]
  rw [rounds_succ]
  go_wp2
  refine bodyPost_ret (results_ct (p := 4) (u := 5) (ty := 61) rfl _ _ gb4 61 #[.int .u32 ((x0 + y0) % 65536), .int .u32 ((x1 + y1 + o1) % 65536), .int .u32 ((x2 + y2 + o2) % 65536), .int .u32 ((x3 + y3 + o3) % 65536), .int .u32 ((x4 + y4 + o4) % 65536), .int .u32 ((x5 + y5 + o5) % 65536), .int .u32 ((x6 + y6 + o6) % 65536), .int .u32 ((x7 + y7 + o7) % 65536)] (0, 0) _ rfl ?hg Tryd.underlying61 rfl (by kernel_rfl)) rfl ⟨rfl, ?_⟩
  case hg =>
    refine blk_put (cs := #[.int .u32 ((x0 + y0) % 65536), .int .u32 ((x1 + y1 + o1) % 65536), .int .u32 ((x2 + y2 + o2) % 65536), .int .u32 ((x3 + y3 + o3) % 65536), .int .u32 ((x4 + y4 + o4) % 65536), .int .u32 ((x5 + y5 + o5) % 65536), .int .u32 ((x6 + y6 + o6) % 65536), .int .u32 0]) ?_ 7 _ rfl
    refine blk_put (cs := #[.int .u32 ((x0 + y0) % 65536), .int .u32 ((x1 + y1 + o1) % 65536), .int .u32 ((x2 + y2 + o2) % 65536), .int .u32 ((x3 + y3 + o3) % 65536), .int .u32 ((x4 + y4 + o4) % 65536), .int .u32 ((x5 + y5 + o5) % 65536), .int .u32 0, .int .u32 0]) ?_ 6 _ rfl
    refine blk_put (cs := #[.int .u32 ((x0 + y0) % 65536), .int .u32 ((x1 + y1 + o1) % 65536), .int .u32 ((x2 + y2 + o2) % 65536), .int .u32 ((x3 + y3 + o3) % 65536), .int .u32 ((x4 + y4 + o4) % 65536), .int .u32 0, .int .u32 0, .int .u32 0]) ?_ 5 _ rfl
    refine blk_put (cs := #[.int .u32 ((x0 + y0) % 65536), .int .u32 ((x1 + y1 + o1) % 65536), .int .u32 ((x2 + y2 + o2) % 65536), .int .u32 ((x3 + y3 + o3) % 65536), .int .u32 0, .int .u32 0, .int .u32 0, .int .u32 0]) ?_ 4 _ rfl
    refine blk_put (cs := #[.int .u32 ((x0 + y0) % 65536), .int .u32 ((x1 + y1 + o1) % 65536), .int .u32 ((x2 + y2 + o2) % 65536), .int .u32 0, .int .u32 0, .int .u32 0, .int .u32 0, .int .u32 0]) ?_ 3 _ rfl
    refine blk_put (cs := #[.int .u32 ((x0 + y0) % 65536), .int .u32 ((x1 + y1 + o1) % 65536), .int .u32 0, .int .u32 0, .int .u32 0, .int .u32 0, .int .u32 0, .int .u32 0]) ?_ 2 _ rfl
    refine blk_put (cs := #[.int .u32 ((x0 + y0) % 65536), .int .u32 0, .int .u32 0, .int .u32 0, .int .u32 0, .int .u32 0, .int .u32 0, .int .u32 0]) ?_ 1 _ rfl
    refine blk_put (cs := #[.int .u32 0, .int .u32 0, .int .u32 0, .int .u32 0, .int .u32 0, .int .u32 0, .int .u32 0, .int .u32 0]) ?_ 0 _ rfl
    refine blk_far ?_ NB4_6.out _
    refine blk_drewN ?_ _
    refine blk_far ?_ NB4_6.out _
    refine blk_drewN ?_ _
    refine blk_far ?_ NB4_6.out _
    refine blk_drewN ?_ _
    refine blk_far ?_ NB4_6.out _
    refine blk_drewN ?_ _
    refine blk_far ?_ NB4_6.out _
    refine blk_drewN ?_ _
    refine blk_far ?_ NB4_6.out _
    refine blk_drewN ?_ _
    refine blk_far ?_ NB4_6.out _
    refine blk_drewN ?_ _
    refine blk_far ?_ NB4_6.out _
    refine blk_drewN ?_ _
    exact BK4.out
  refine below_set ?_ GE4.out
  refine below_set ?_ GE4.out
  refine below_set ?_ GE4.out
  refine below_set ?_ GE4.out
  refine below_set ?_ GE4.out
  refine below_set ?_ GE4.out
  refine below_set ?_ GE4.out
  refine below_set ?_ GE4.out
  refine below_set ?_ GE6.out
  refine pw_below_drewN ?_ _
  refine below_set ?_ GE6.out
  refine pw_below_drewN ?_ _
  refine below_set ?_ GE6.out
  refine pw_below_drewN ?_ _
  refine below_set ?_ GE6.out
  refine pw_below_drewN ?_ _
  refine below_set ?_ GE6.out
  refine pw_below_drewN ?_ _
  refine below_set ?_ GE6.out
  refine pw_below_drewN ?_ _
  refine below_set ?_ GE6.out
  refine pw_below_drewN ?_ _
  refine below_set ?_ GE6.out
  refine pw_below_drewN ?_ _
  exact HB.out
theorem arrearsref03_Add.calls (a0_0 : Int) (a0_1 : Int) (a0_2 : Int) (a0_3 : Int) (a0_4 : Int) (a0_5 : Int) (a0_6 : Int) (a0_7 : Int) (a1_0 : Int) (a1_1 : Int) (a1_2 : Int) (a1_3 : Int) (a1_4 : Int) (a1_5 : Int) (a1_6 : Int) (a1_7 : Int) (r1 : Int) (r2 : Int) (r3 : Int) (r4 : Int) (r5 : Int) (r6 : Int) (r7 : Int) (r8 : Int) (r9 : Bool) (w : World) (h : arrearsref03_Add.f a0_0 a0_1 a0_2 a0_3 a0_4 a0_5 a0_6 a0_7 a1_0 a1_1 a1_2 a1_3 a1_4 a1_5 a1_6 a1_7 = some (r1, r2, r3, r4, r5, r6, r7, r8, r9)) :
    Calls Tryd.prog 25 #[.agg #[.int .u32 a0_0, .int .u32 a0_1, .int .u32 a0_2, .int .u32 a0_3, .int .u32 a0_4, .int .u32 a0_5, .int .u32 a0_6, .int .u32 a0_7], .agg #[.int .u32 a1_0, .int .u32 a1_1, .int .u32 a1_2, .int .u32 a1_3, .int .u32 a1_4, .int .u32 a1_5, .int .u32 a1_6, .int .u32 a1_7]] w fun e w' => e = .returned (.tuple #[.agg #[.int .u32 r1, .int .u32 r2, .int .u32 r3, .int .u32 r4, .int .u32 r5, .int .u32 r6, .int .u32 r7, .int .u32 r8], .bool r9]) ∧ Below w.heap.size w w' := by
  unfold arrearsref03_Add.f at h
  split at h
  · rename_i hb
    obtain ⟨h0, h1, h2, h3, h4, h5, h6, h7, g0, g1, g2, g3, g4, g5, g6, g7⟩ := hb
    simp only [Option.some.injEq, Prod.mk.injEq] at h
    obtain ⟨rfl, rfl, rfl, rfl, rfl, rfl, rfl, rfl, rfl⟩ := h
    have k1 := carry_bd0 h0 g0
    have k2 := carry_bd h1 g1 k1
    have k3 := carry_bd h2 g2 k2
    have k4 := carry_bd h3 g3 k3
    have k5 := carry_bd h4 g4 k4
    have k6 := carry_bd h5 g5 k5
    have k7 := carry_bd h6 g6 k6
    have k8 := carry_bd h7 g7 k7
    exact add_ok _ _ _ _ _ _ _ _ _ _ _ _ _ _ _ _ _ _ _ _ _ _ _ _ h0 g0 h1 g1 h2 g2 h3 g3 h4 g4 h5 g5 h6 g6 h7 g7 k1 rfl k2 rfl k3 rfl k4 rfl k5 rfl k6 rfl k7 rfl k8 rfl w
  · exact absurd h (by simp)


/-! ### arrearsref03_Of: function 27 -/
def arrearsref03_Of.f (a0 : Int) (a1 : Int) : Option (Int × Int × Int × Int × Int × Int × Int × Int) :=
  if (0 ≤ a0 ∧ a0 ≤ 18446744073709551615) ∧ (0 ≤ a1 ∧ a1 ≤ 18446744073709551615) then some (a1 % 65536, a1 / 65536 % 65536, a1 / 65536 / 65536 % 65536, a1 / 65536 / 65536 / 65536 % 65536, a0 % 65536, a0 / 65536 % 65536, a0 / 65536 / 65536 % 65536, a0 / 65536 / 65536 / 65536 % 65536) else none
set_option maxHeartbeats 4000000 in
theorem of_ok (a0 a1 : Int) (h0 : 0 ≤ a0 ∧ a0 ≤ 18446744073709551615) (h1 : 0 ≤ a1 ∧ a1 ≤ 18446744073709551615) (w : World) :
    Calls Tryd.prog 27 #[.int .u64 a0, .int .u64 a1] w fun e w' => e = .returned (.agg #[.int .u32 (a1 % 65536), .int .u32 (a1 / 65536 % 65536), .int .u32 (a1 / 65536 / 65536 % 65536), .int .u32 (a1 / 65536 / 65536 / 65536 % 65536), .int .u32 (a0 % 65536), .int .u32 (a0 / 65536 % 65536), .int .u32 (a0 / 65536 / 65536 % 65536), .int .u32 (a0 / 65536 / 65536 / 65536 % 65536)]) ∧ Below w.heap.size w w' := by
  go_enter Tryd.func27, Tryd.ntmps27
  go_wp2_with (first | ((with_reducible refine gate_dst (N := 4) rfl ?_); (try (refine gate_guard (by rfl) ?_; dsimp only)); refine box_event ?hg (N := 4) ?hd (cs := #[.int .u32 0, .int .u32 0, .int .u32 0, .int .u32 0, .int .u32 0, .int .u32 0, .int .u32 0, .int .u32 0]) (t := 61) ?hr ?_; (case hd => rfl); (case hg => rfl); (case hr => first | (go_simp; done) | (go_simp; rfl)); intro gb4 hg w4 hbox hb; have BK4 := Aside0.mk hbox; have GB4 := Aside0.mk hb; have HG4 := Aside0.mk (show w.heap.size ≤ gb4 from Nat.le_of_eq hg.symm); clear hbox hb hg) | ((with_reducible refine gate_dst (N := 5) rfl ?_); (try (refine gate_guard (by rfl) ?_; dsimp only)); refine box_event ?hg (N := 5) ?hd (cs := #[.int .u32 0, .int .u32 0, .int .u32 0, .int .u32 0, .int .u32 0, .int .u32 0, .int .u32 0, .int .u32 0]) (t := 61) ?hr ?_; (case hd => rfl); (case hg => rfl); (case hr => first | (go_simp; done) | (go_simp; rfl)); intro gb5 hg w5 hbox hb; have n0_ := Aside0.mk (blk_below BK4.out hb); have n1_ := Aside0.mk (below_step GB4.out hb); have NB := Aside0.mk (by rw [hg]; exact Nat.ne_of_lt (blk_lt BK4.out) : gb4 ≠ gb5); have HG5 := Aside0.mk (Nat.le_trans (below_size GB4.out) (Nat.le_of_eq hg.symm) : w.heap.size ≤ gb5); have BK5 := Aside0.mk hbox; clear BK4 GB4; have BK4 := n0_; have HB := n1_; clear n0_ n1_ hbox hb hg))
  have e5 := BK5.out
  have hc0 : w5.cell? ⟨gb5, 0, none⟩ = some (.int .u32 0) := (blk_cell e5 0).trans rfl
  have hf0 := blk_frozen e5 0
  have hc1 : w5.cell? ⟨gb5, 1, none⟩ = some (.int .u32 0) := (blk_cell e5 1).trans rfl
  have hf1 := blk_frozen e5 1
  have hc2 : w5.cell? ⟨gb5, 2, none⟩ = some (.int .u32 0) := (blk_cell e5 2).trans rfl
  have hf2 := blk_frozen e5 2
  have hc3 : w5.cell? ⟨gb5, 3, none⟩ = some (.int .u32 0) := (blk_cell e5 3).trans rfl
  have hf3 := blk_frozen e5 3
  have hc4 : w5.cell? ⟨gb5, 4, none⟩ = some (.int .u32 0) := (blk_cell e5 4).trans rfl
  have hf4 := blk_frozen e5 4
  have hc5 : w5.cell? ⟨gb5, 5, none⟩ = some (.int .u32 0) := (blk_cell e5 5).trans rfl
  have hf5 := blk_frozen e5 5
  have hc6 : w5.cell? ⟨gb5, 6, none⟩ = some (.int .u32 0) := (blk_cell e5 6).trans rfl
  have hf6 := blk_frozen e5 6
  have hc7 : w5.cell? ⟨gb5, 7, none⟩ = some (.int .u32 0) := (blk_cell e5 7).trans rfl
  have hf7 := blk_frozen e5 7
  have hd0 : w5.cell? ⟨gb4, 0, none⟩ = some (.int .u32 0) := (blk_cell BK4.out 0).trans rfl
  have hg0 := blk_frozen BK4.out 0
  have hd1 : w5.cell? ⟨gb4, 1, none⟩ = some (.int .u32 0) := (blk_cell BK4.out 1).trans rfl
  have hg1 := blk_frozen BK4.out 1
  have hd2 : w5.cell? ⟨gb4, 2, none⟩ = some (.int .u32 0) := (blk_cell BK4.out 2).trans rfl
  have hg2 := blk_frozen BK4.out 2
  have hd3 : w5.cell? ⟨gb4, 3, none⟩ = some (.int .u32 0) := (blk_cell BK4.out 3).trans rfl
  have hg3 := blk_frozen BK4.out 3
  have hd4 : w5.cell? ⟨gb4, 4, none⟩ = some (.int .u32 0) := (blk_cell BK4.out 4).trans rfl
  have hg4 := blk_frozen BK4.out 4
  have hd5 : w5.cell? ⟨gb4, 5, none⟩ = some (.int .u32 0) := (blk_cell BK4.out 5).trans rfl
  have hg5 := blk_frozen BK4.out 5
  have hd6 : w5.cell? ⟨gb4, 6, none⟩ = some (.int .u32 0) := (blk_cell BK4.out 6).trans rfl
  have hg6 := blk_frozen BK4.out 6
  have hd7 : w5.cell? ⟨gb4, 7, none⟩ = some (.int .u32 0) := (blk_cell BK4.out 7).trans rfl
  have hg7 := blk_frozen BK4.out 7
  have nb := NB.out
  have nb' := Ne.symm NB.out
  clear e5
  refine wp_loop_rounds 5 ?_
  rw [rounds_succ]
  go_wp2
  rw [rounds_succ]
  go_wp2
  rw [rounds_succ]
  go_wp2
  rw [rounds_succ]
  go_wp2
  rw [rounds_succ]
  go_wp2
  refine bodyPost_ret (v := .agg #[.int .u32 (a1 % 65536), .int .u32 (a1 / 65536 % 65536), .int .u32 (a1 / 65536 / 65536 % 65536), .int .u32 (a1 / 65536 / 65536 / 65536 % 65536), .int .u32 (a0 % 65536), .int .u32 (a0 / 65536 % 65536), .int .u32 (a0 / 65536 / 65536 % 65536), .int .u32 (a0 / 65536 / 65536 / 65536 % 65536)]) (results_single (r := .cell 4 61) rfl (.cell gb4 61 #[.int .u32 (a1 % 65536), .int .u32 (a1 / 65536 % 65536), .int .u32 (a1 / 65536 / 65536 % 65536), .int .u32 (a1 / 65536 / 65536 / 65536 % 65536), .int .u32 (a0 % 65536), .int .u32 (a0 / 65536 % 65536), .int .u32 (a0 / 65536 / 65536 % 65536), .int .u32 (a0 / 65536 / 65536 / 65536 % 65536)] (0, 0) _ rfl ?hg Tryd.underlying61 rfl (by kernel_rfl) .nil)) rfl ⟨rfl, ?_⟩
  case hg =>
    refine blk_put (cs := #[.int .u32 (a1 % 65536), .int .u32 (a1 / 65536 % 65536), .int .u32 (a1 / 65536 / 65536 % 65536), .int .u32 (a1 / 65536 / 65536 / 65536 % 65536), .int .u32 (a0 % 65536), .int .u32 (a0 / 65536 % 65536), .int .u32 (a0 / 65536 / 65536 % 65536), .int .u32 0]) ?_ 7 _ rfl
    refine blk_put (cs := #[.int .u32 (a1 % 65536), .int .u32 (a1 / 65536 % 65536), .int .u32 (a1 / 65536 / 65536 % 65536), .int .u32 (a1 / 65536 / 65536 / 65536 % 65536), .int .u32 (a0 % 65536), .int .u32 (a0 / 65536 % 65536), .int .u32 0, .int .u32 0]) ?_ 6 _ rfl
    refine blk_put (cs := #[.int .u32 (a1 % 65536), .int .u32 (a1 / 65536 % 65536), .int .u32 (a1 / 65536 / 65536 % 65536), .int .u32 (a1 / 65536 / 65536 / 65536 % 65536), .int .u32 (a0 % 65536), .int .u32 0, .int .u32 0, .int .u32 0]) ?_ 5 _ rfl
    refine blk_put (cs := #[.int .u32 (a1 % 65536), .int .u32 (a1 / 65536 % 65536), .int .u32 (a1 / 65536 / 65536 % 65536), .int .u32 (a1 / 65536 / 65536 / 65536 % 65536), .int .u32 0, .int .u32 0, .int .u32 0, .int .u32 0]) ?_ 4 _ rfl
    refine blk_put (cs := #[.int .u32 (a1 % 65536), .int .u32 (a1 / 65536 % 65536), .int .u32 (a1 / 65536 / 65536 % 65536), .int .u32 0, .int .u32 0, .int .u32 0, .int .u32 0, .int .u32 0]) ?_ 3 _ rfl
    refine blk_put (cs := #[.int .u32 (a1 % 65536), .int .u32 (a1 / 65536 % 65536), .int .u32 0, .int .u32 0, .int .u32 0, .int .u32 0, .int .u32 0, .int .u32 0]) ?_ 2 _ rfl
    refine blk_put (cs := #[.int .u32 (a1 % 65536), .int .u32 0, .int .u32 0, .int .u32 0, .int .u32 0, .int .u32 0, .int .u32 0, .int .u32 0]) ?_ 1 _ rfl
    refine blk_put (cs := #[.int .u32 0, .int .u32 0, .int .u32 0, .int .u32 0, .int .u32 0, .int .u32 0, .int .u32 0, .int .u32 0]) ?_ 0 _ rfl
    refine blk_far ?_ NB.out _
    refine blk_far ?_ NB.out _
    refine blk_far ?_ NB.out _
    refine blk_far ?_ NB.out _
    refine blk_far ?_ NB.out _
    refine blk_far ?_ NB.out _
    refine blk_far ?_ NB.out _
    refine blk_far ?_ NB.out _
    exact BK4.out
  refine below_set ?_ HG4.out
  refine below_set ?_ HG4.out
  refine below_set ?_ HG4.out
  refine below_set ?_ HG4.out
  refine below_set ?_ HG4.out
  refine below_set ?_ HG4.out
  refine below_set ?_ HG4.out
  refine below_set ?_ HG4.out
  refine below_set ?_ HG5.out
  refine below_set ?_ HG5.out
  refine below_set ?_ HG5.out
  refine below_set ?_ HG5.out
  refine below_set ?_ HG5.out
  refine below_set ?_ HG5.out
  refine below_set ?_ HG5.out
  refine below_set ?_ HG5.out
  exact HB.out
theorem arrearsref03_Of.calls (a0 : Int) (a1 : Int) (r1 : Int) (r2 : Int) (r3 : Int) (r4 : Int) (r5 : Int) (r6 : Int) (r7 : Int) (r8 : Int) (w : World) (h : arrearsref03_Of.f a0 a1 = some (r1, r2, r3, r4, r5, r6, r7, r8)) :
    Calls Tryd.prog 27 #[.int .u64 a0, .int .u64 a1] w fun e w' => e = .returned (.agg #[.int .u32 r1, .int .u32 r2, .int .u32 r3, .int .u32 r4, .int .u32 r5, .int .u32 r6, .int .u32 r7, .int .u32 r8]) ∧ Below w.heap.size w w' := by
  unfold arrearsref03_Of.f at h
  split at h
  · rename_i hb
    simp only [Option.some.injEq, Prod.mk.injEq] at h
    obtain ⟨rfl, rfl, rfl, rfl, rfl, rfl, rfl, rfl⟩ := h
    exact of_ok _ _ hb.1 hb.2 w
  · exact absurd h (by simp)


end Go.Proofs.YtldicnmpegkicaaDoor.PYieldReckons
