-- Printed by a wrapper of this session's round the kit's print.py; Lean checks it.
import Derived.Test.YtbncddmmngcdkaaDoorPSplitPaysx0
namespace Go.Proofs.YtbncddmmngcdkaaDoor.PSplitPays
open Go.RowKit Go.Proofs.YtbncddmmngcdkaaDoorW.PrintWords Go.Proofs.YtbncddmmngcdkaaDoorW.PrintLast Go.Proofs.YtbncddmmngcdkaaDoorW.PrintMore
attribute [local go_sem] max2_int min2_int max_two min_two max_three min_three max_four min_four   -- for this text's walks alone
set_option linter.unusedVariables false
set_option linter.unusedSimpArgs false

/-! ### arrearsref11_Parts: function 10 -/
def arrearsref11_Parts.least (x a : Int) : Int := if x > a then a else x
def arrearsref11_Parts.f (a0_0 : Int) (a0_1 : Int) (a0_2 : Int) (a1 : Int) (a2 : Int) : Option (Int × Int × Int × Int) :=
  if (0 ≤ a0_0 ∧ a0_0 ≤ 9223372036854775807) ∧ (0 ≤ a0_1 ∧ a0_1 ≤ 9223372036854775807) ∧ (0 ≤ a0_2 ∧ a0_2 ≤ 9223372036854775807) ∧ (0 ≤ a2 ∧ a2 ≤ 9223372036854775807) then
    (if a1 = 0 then some (arrearsref11_Parts.least a0_0 a2, arrearsref11_Parts.least a0_1 (a2 - arrearsref11_Parts.least a0_0 a2), arrearsref11_Parts.least a0_2 (a2 - arrearsref11_Parts.least a0_0 a2 - arrearsref11_Parts.least a0_1 (a2 - arrearsref11_Parts.least a0_0 a2)), a2 - arrearsref11_Parts.least a0_0 a2 - arrearsref11_Parts.least a0_1 (a2 - arrearsref11_Parts.least a0_0 a2) - arrearsref11_Parts.least a0_2 (a2 - arrearsref11_Parts.least a0_0 a2 - arrearsref11_Parts.least a0_1 (a2 - arrearsref11_Parts.least a0_0 a2)))
    else if a1 = 1 then some (0, arrearsref11_Parts.least a0_1 a2, arrearsref11_Parts.least a0_2 (a2 - arrearsref11_Parts.least a0_1 a2), a2 - arrearsref11_Parts.least a0_1 a2 - arrearsref11_Parts.least a0_2 (a2 - arrearsref11_Parts.least a0_1 a2))
    else if a1 = 2 then some (0, 0, arrearsref11_Parts.least a0_2 a2, a2 - arrearsref11_Parts.least a0_2 a2) else none) else none
theorem parts_ix0 (x y z : Value) (W : World) : (Instr.index 33 (.agg #[x, y, z]) (.int .i64 0)).run Tryd.prog W = .ok x W := by
  simp [Instr.index, run_underlying Tryd.underlying33, asIntOf, go_sem]
theorem parts_ix1 (x y z : Value) (W : World) : (Instr.index 33 (.agg #[x, y, z]) (.int .i64 1)).run Tryd.prog W = .ok y W := by
  simp [Instr.index, run_underlying Tryd.underlying33, asIntOf, go_sem]
theorem parts_ix2 (x y z : Value) (W : World) : (Instr.index 33 (.agg #[x, y, z]) (.int .i64 2)).run Tryd.prog W = .ok z W := by
  simp [Instr.index, run_underlying Tryd.underlying33, asIntOf, go_sem]
set_option maxHeartbeats 4000000 in
theorem parts_0_ooo (o0 o1 o2 a : Int) (h0 : 0 ≤ o0 ∧ o0 ≤ 9223372036854775807) (h1 : 0 ≤ o1 ∧ o1 ≤ 9223372036854775807) (h2 : 0 ≤ o2 ∧ o2 ≤ 9223372036854775807) (ha : 0 ≤ a ∧ a ≤ 9223372036854775807) (c0 : ¬ o0 > a) (c1 : ¬ o1 > a - o0) (c2 : ¬ o2 > a - o0 - o1) (w : World) :
    Calls Tryd.prog 10 #[.agg #[.int .i64 o0, .int .i64 o1, .int .i64 o2], .int .i64 0, .int .i64 a] w fun e w' => e = .returned (.tuple #[.agg #[.int .i64 (o0), .int .i64 (o1), .int .i64 (o2)], .int .i64 (a - o0 - o1 - o2)]) ∧ Below w.heap.size w w' := by
  go_enter Tryd.func10, Tryd.ntmps10
  go_wp2_with (first | ((with_reducible refine gate_dst (N := 3) rfl ?_); (try (refine gate_guard (by rfl) ?_; dsimp only)); refine box_event ?hg (N := 3) ?hd (cs := #[.int .i64 o0, .int .i64 o1, .int .i64 o2]) (t := 33) ?hr ?_; (case hd => rfl); (case hg => rfl); (case hr => first | (go_simp; done) | (go_simp; rfl)); intro gb3 hg w3 hbox hb; have BK3 := Aside0.mk hbox; have HB := Aside0.mk hb; have GE3 := Aside0.mk (Nat.le_of_eq hg.symm : w.heap.size ≤ gb3); clear hbox hb hg) | ((with_reducible refine gate_dst (N := 6) rfl ?_); (try (refine gate_guard (by rfl) ?_; dsimp only)); refine box_event ?hg (N := 6) ?hd (cs := #[.int .i64 0, .int .i64 0, .int .i64 0]) (t := 33) ?hr ?_; (case hd => rfl); (case hg => rfl); (case hr => first | (go_simp; done) | (go_simp; rfl)); intro gb6 hg w6 hbox hb; have n3_ := Aside0.mk (blk_below BK3.out hb); have NB3_6 := Aside0.mk (by rw [hg]; exact Nat.ne_of_lt (blk_lt BK3.out) : gb3 ≠ gb6); have m_ := Aside0.mk (below_step HB.out hb); have GE6 := Aside0.mk (Nat.le_trans (below_size HB.out) (Nat.le_of_eq hg.symm) : w.heap.size ≤ gb6); clear HB; have HB := m_; clear m_; clear BK3; have BK3 := n3_; clear n3_; have BK6 := Aside0.mk hbox; clear hbox hb hg) | ((with_reducible refine gate_dst (N := 8) rfl ?_); (try (refine gate_guard (by rfl) ?_; dsimp only)); refine box_event ?hg (N := 8) ?hd (cs := #[.int .i64 0, .int .i64 0, .int .i64 0]) (t := 33) ?hr ?_; (case hd => rfl); (case hg => rfl); (case hr => first | (go_simp; done) | (go_simp; rfl)); intro gb8 hg w8 hbox hb; have n3_ := Aside0.mk (blk_below BK3.out hb); have NB3_8 := Aside0.mk (by rw [hg]; exact Nat.ne_of_lt (blk_lt BK3.out) : gb3 ≠ gb8); have n6_ := Aside0.mk (blk_below BK6.out hb); have NB6_8 := Aside0.mk (by rw [hg]; exact Nat.ne_of_lt (blk_lt BK6.out) : gb6 ≠ gb8); have m_ := Aside0.mk (below_step HB.out hb); have GE8 := Aside0.mk (Nat.le_trans (below_size HB.out) (Nat.le_of_eq hg.symm) : w.heap.size ≤ gb8); clear HB; have HB := m_; clear m_; clear BK3; have BK3 := n3_; clear n3_; clear BK6; have BK6 := n6_; clear n6_; have BK8 := Aside0.mk hbox; clear hbox hb hg; have hc3_0 : w8.cell? ⟨gb3, 0, none⟩ = some (.int .i64 o0) := (blk_cell BK3.out 0).trans rfl; have hf3_0 := blk_frozen BK3.out 0; have hc3_1 : w8.cell? ⟨gb3, 1, none⟩ = some (.int .i64 o1) := (blk_cell BK3.out 1).trans rfl; have hf3_1 := blk_frozen BK3.out 1; have hc3_2 : w8.cell? ⟨gb3, 2, none⟩ = some (.int .i64 o2) := (blk_cell BK3.out 2).trans rfl; have hf3_2 := blk_frozen BK3.out 2))
  have hc6_0 : w8.cell? ⟨gb6, 0, none⟩ = some (.int .i64 0) := (blk_cell BK6.out 0).trans rfl
  have hf6_0 := blk_frozen BK6.out 0
  have hc6_1 : w8.cell? ⟨gb6, 1, none⟩ = some (.int .i64 0) := (blk_cell BK6.out 1).trans rfl
  have hf6_1 := blk_frozen BK6.out 1
  have hc6_2 : w8.cell? ⟨gb6, 2, none⟩ = some (.int .i64 0) := (blk_cell BK6.out 2).trans rfl
  have hf6_2 := blk_frozen BK6.out 2
  have hc8_0 : w8.cell? ⟨gb8, 0, none⟩ = some (.int .i64 0) := (blk_cell BK8.out 0).trans rfl
  have hf8_0 := blk_frozen BK8.out 0
  have hc8_1 : w8.cell? ⟨gb8, 1, none⟩ = some (.int .i64 0) := (blk_cell BK8.out 1).trans rfl
  have hf8_1 := blk_frozen BK8.out 1
  have hc8_2 : w8.cell? ⟨gb8, 2, none⟩ = some (.int .i64 0) := (blk_cell BK8.out 2).trans rfl
  have hf8_2 := blk_frozen BK8.out 2
  have nb := NB6_8.out
  have nb' := Ne.symm NB6_8.out
  clear hc3_0 hc3_1 hc3_2 hf3_0 hf3_1 hf3_2
  have ix0 := parts_ix0 (.int .i64 o0) (.int .i64 o1) (.int .i64 o2)
  have ix1 := parts_ix1 (.int .i64 o0) (.int .i64 o1) (.int .i64 o2)
  have ix2 := parts_ix2 (.int .i64 o0) (.int .i64 o1) (.int .i64 o2)
  refine wp_loop_rounds 4 ?_
  rw [rounds_succ]
  go_wp2
  rw [rounds_succ]
  go_wp2
  rw [rounds_succ]
  go_wp2
  rw [rounds_succ]
  go_wp2
  refine bodyPost_ret (results_ct (p := 6) (u := 7) (ty := 33) rfl _ _ gb6 33 #[.int .i64 (o0), .int .i64 (o1), .int .i64 (o2)] (0, 0) _ rfl ?hg Tryd.underlying33 rfl (by kernel_rfl)) rfl ⟨rfl, ?_⟩
  case hg =>
    refine blk_put (cs := #[.int .i64 (o0), .int .i64 (o1), .int .i64 0]) ?_ 2 _ rfl
    refine blk_put (cs := #[.int .i64 (o0), .int .i64 0, .int .i64 0]) ?_ 1 _ rfl
    refine blk_put (cs := #[.int .i64 0, .int .i64 0, .int .i64 0]) ?_ 0 _ rfl
    refine blk_far ?_ NB6_8.out _
    refine blk_far ?_ NB6_8.out _
    refine blk_far ?_ NB6_8.out _
    exact BK6.out
  refine below_set ?_ GE6.out
  refine below_set ?_ GE6.out
  refine below_set ?_ GE6.out
  refine below_set ?_ GE8.out
  refine below_set ?_ GE8.out
  refine below_set ?_ GE8.out
  exact HB.out
set_option maxHeartbeats 4000000 in
theorem parts_0_ooa (o0 o1 o2 a : Int) (h0 : 0 ≤ o0 ∧ o0 ≤ 9223372036854775807) (h1 : 0 ≤ o1 ∧ o1 ≤ 9223372036854775807) (h2 : 0 ≤ o2 ∧ o2 ≤ 9223372036854775807) (ha : 0 ≤ a ∧ a ≤ 9223372036854775807) (c0 : ¬ o0 > a) (c1 : ¬ o1 > a - o0) (c2 : o2 > a - o0 - o1) (w : World) :
    Calls Tryd.prog 10 #[.agg #[.int .i64 o0, .int .i64 o1, .int .i64 o2], .int .i64 0, .int .i64 a] w fun e w' => e = .returned (.tuple #[.agg #[.int .i64 (o0), .int .i64 (o1), .int .i64 (a - o0 - o1)], .int .i64 (0)]) ∧ Below w.heap.size w w' := by
  go_enter Tryd.func10, Tryd.ntmps10
  go_wp2_with (first | ((with_reducible refine gate_dst (N := 3) rfl ?_); (try (refine gate_guard (by rfl) ?_; dsimp only)); refine box_event ?hg (N := 3) ?hd (cs := #[.int .i64 o0, .int .i64 o1, .int .i64 o2]) (t := 33) ?hr ?_; (case hd => rfl); (case hg => rfl); (case hr => first | (go_simp; done) | (go_simp; rfl)); intro gb3 hg w3 hbox hb; have BK3 := Aside0.mk hbox; have HB := Aside0.mk hb; have GE3 := Aside0.mk (Nat.le_of_eq hg.symm : w.heap.size ≤ gb3); clear hbox hb hg) | ((with_reducible refine gate_dst (N := 6) rfl ?_); (try (refine gate_guard (by rfl) ?_; dsimp only)); refine box_event ?hg (N := 6) ?hd (cs := #[.int .i64 0, .int .i64 0, .int .i64 0]) (t := 33) ?hr ?_; (case hd => rfl); (case hg => rfl); (case hr => first | (go_simp; done) | (go_simp; rfl)); intro gb6 hg w6 hbox hb; have n3_ := Aside0.mk (blk_below BK3.out hb); have NB3_6 := Aside0.mk (by rw [hg]; exact Nat.ne_of_lt (blk_lt BK3.out) : gb3 ≠ gb6); have m_ := Aside0.mk (below_step HB.out hb); have GE6 := Aside0.mk (Nat.le_trans (below_size HB.out) (Nat.le_of_eq hg.symm) : w.heap.size ≤ gb6); clear HB; have HB := m_; clear m_; clear BK3; have BK3 := n3_; clear n3_; have BK6 := Aside0.mk hbox; clear hbox hb hg) | ((with_reducible refine gate_dst (N := 8) rfl ?_); (try (refine gate_guard (by rfl) ?_; dsimp only)); refine box_event ?hg (N := 8) ?hd (cs := #[.int .i64 0, .int .i64 0, .int .i64 0]) (t := 33) ?hr ?_; (case hd => rfl); (case hg => rfl); (case hr => first | (go_simp; done) | (go_simp; rfl)); intro gb8 hg w8 hbox hb; have n3_ := Aside0.mk (blk_below BK3.out hb); have NB3_8 := Aside0.mk (by rw [hg]; exact Nat.ne_of_lt (blk_lt BK3.out) : gb3 ≠ gb8); have n6_ := Aside0.mk (blk_below BK6.out hb); have NB6_8 := Aside0.mk (by rw [hg]; exact Nat.ne_of_lt (blk_lt BK6.out) : gb6 ≠ gb8); have m_ := Aside0.mk (below_step HB.out hb); have GE8 := Aside0.mk (Nat.le_trans (below_size HB.out) (Nat.le_of_eq hg.symm) : w.heap.size ≤ gb8); clear HB; have HB := m_; clear m_; clear BK3; have BK3 := n3_; clear n3_; clear BK6; have BK6 := n6_; clear n6_; have BK8 := Aside0.mk hbox; clear hbox hb hg; have hc3_0 : w8.cell? ⟨gb3, 0, none⟩ = some (.int .i64 o0) := (blk_cell BK3.out 0).trans rfl; have hf3_0 := blk_frozen BK3.out 0; have hc3_1 : w8.cell? ⟨gb3, 1, none⟩ = some (.int .i64 o1) := (blk_cell BK3.out 1).trans rfl; have hf3_1 := blk_frozen BK3.out 1; have hc3_2 : w8.cell? ⟨gb3, 2, none⟩ = some (.int .i64 o2) := (blk_cell BK3.out 2).trans rfl; have hf3_2 := blk_frozen BK3.out 2))
  have hc6_0 : w8.cell? ⟨gb6, 0, none⟩ = some (.int .i64 0) := (blk_cell BK6.out 0).trans rfl
  have hf6_0 := blk_frozen BK6.out 0
  have hc6_1 : w8.cell? ⟨gb6, 1, none⟩ = some (.int .i64 0) := (blk_cell BK6.out 1).trans rfl
  have hf6_1 := blk_frozen BK6.out 1
  have hc6_2 : w8.cell? ⟨gb6, 2, none⟩ = some (.int .i64 0) := (blk_cell BK6.out 2).trans rfl
  have hf6_2 := blk_frozen BK6.out 2
  have hc8_0 : w8.cell? ⟨gb8, 0, none⟩ = some (.int .i64 0) := (blk_cell BK8.out 0).trans rfl
  have hf8_0 := blk_frozen BK8.out 0
  have hc8_1 : w8.cell? ⟨gb8, 1, none⟩ = some (.int .i64 0) := (blk_cell BK8.out 1).trans rfl
  have hf8_1 := blk_frozen BK8.out 1
  have hc8_2 : w8.cell? ⟨gb8, 2, none⟩ = some (.int .i64 0) := (blk_cell BK8.out 2).trans rfl
  have hf8_2 := blk_frozen BK8.out 2
  have nb := NB6_8.out
  have nb' := Ne.symm NB6_8.out
  clear hc3_0 hc3_1 hc3_2 hf3_0 hf3_1 hf3_2
  have ix0 := parts_ix0 (.int .i64 o0) (.int .i64 o1) (.int .i64 o2)
  have ix1 := parts_ix1 (.int .i64 o0) (.int .i64 o1) (.int .i64 o2)
  have ix2 := parts_ix2 (.int .i64 o0) (.int .i64 o1) (.int .i64 o2)
  refine wp_loop_rounds 4 ?_
  rw [rounds_succ]
  go_wp2
  rw [rounds_succ]
  go_wp2
  rw [rounds_succ]
  go_wp2
  rw [rounds_succ]
  go_wp2
  refine bodyPost_ret (results_ct (p := 6) (u := 7) (ty := 33) rfl _ _ gb6 33 #[.int .i64 (o0), .int .i64 (o1), .int .i64 (a - o0 - o1)] (0, 0) _ rfl ?hg Tryd.underlying33 rfl (by kernel_rfl)) rfl ⟨rfl, ?_⟩
  case hg =>
    refine blk_put (cs := #[.int .i64 (o0), .int .i64 (o1), .int .i64 0]) ?_ 2 _ rfl
    refine blk_put (cs := #[.int .i64 (o0), .int .i64 0, .int .i64 0]) ?_ 1 _ rfl
    refine blk_put (cs := #[.int .i64 0, .int .i64 0, .int .i64 0]) ?_ 0 _ rfl
    refine blk_far ?_ NB6_8.out _
    refine blk_far ?_ NB6_8.out _
    refine blk_far ?_ NB6_8.out _
    exact BK6.out
  refine below_set ?_ GE6.out
  refine below_set ?_ GE6.out
  refine below_set ?_ GE6.out
  refine below_set ?_ GE8.out
  refine below_set ?_ GE8.out
  refine below_set ?_ GE8.out
  exact HB.out
set_option maxHeartbeats 4000000 in
theorem parts_0_oap (o0 o1 o2 a : Int) (h0 : 0 ≤ o0 ∧ o0 ≤ 9223372036854775807) (h1 : 0 ≤ o1 ∧ o1 ≤ 9223372036854775807) (h2 : 0 ≤ o2 ∧ o2 ≤ 9223372036854775807) (ha : 0 ≤ a ∧ a ≤ 9223372036854775807) (c0 : ¬ o0 > a) (c1 : o1 > a - o0) (c2 : o2 > 0) (w : World) :
    Calls Tryd.prog 10 #[.agg #[.int .i64 o0, .int .i64 o1, .int .i64 o2], .int .i64 0, .int .i64 a] w fun e w' => e = .returned (.tuple #[.agg #[.int .i64 (o0), .int .i64 (a - o0), .int .i64 (0)], .int .i64 (0)]) ∧ Below w.heap.size w w' := by
  go_enter Tryd.func10, Tryd.ntmps10
  go_wp2_with (first | ((with_reducible refine gate_dst (N := 3) rfl ?_); (try (refine gate_guard (by rfl) ?_; dsimp only)); refine box_event ?hg (N := 3) ?hd (cs := #[.int .i64 o0, .int .i64 o1, .int .i64 o2]) (t := 33) ?hr ?_; (case hd => rfl); (case hg => rfl); (case hr => first | (go_simp; done) | (go_simp; rfl)); intro gb3 hg w3 hbox hb; have BK3 := Aside0.mk hbox; have HB := Aside0.mk hb; have GE3 := Aside0.mk (Nat.le_of_eq hg.symm : w.heap.size ≤ gb3); clear hbox hb hg) | ((with_reducible refine gate_dst (N := 6) rfl ?_); (try (refine gate_guard (by rfl) ?_; dsimp only)); refine box_event ?hg (N := 6) ?hd (cs := #[.int .i64 0, .int .i64 0, .int .i64 0]) (t := 33) ?hr ?_; (case hd => rfl); (case hg => rfl); (case hr => first | (go_simp; done) | (go_simp; rfl)); intro gb6 hg w6 hbox hb; have n3_ := Aside0.mk (blk_below BK3.out hb); have NB3_6 := Aside0.mk (by rw [hg]; exact Nat.ne_of_lt (blk_lt BK3.out) : gb3 ≠ gb6); have m_ := Aside0.mk (below_step HB.out hb); have GE6 := Aside0.mk (Nat.le_trans (below_size HB.out) (Nat.le_of_eq hg.symm) : w.heap.size ≤ gb6); clear HB; have HB := m_; clear m_; clear BK3; have BK3 := n3_; clear n3_; have BK6 := Aside0.mk hbox; clear hbox hb hg) | ((with_reducible refine gate_dst (N := 8) rfl ?_); (try (refine gate_guard (by rfl) ?_; dsimp only)); refine box_event ?hg (N := 8) ?hd (cs := #[.int .i64 0, .int .i64 0, .int .i64 0]) (t := 33) ?hr ?_; (case hd => rfl); (case hg => rfl); (case hr => first | (go_simp; done) | (go_simp; rfl)); intro gb8 hg w8 hbox hb; have n3_ := Aside0.mk (blk_below BK3.out hb); have NB3_8 := Aside0.mk (by rw [hg]; exact Nat.ne_of_lt (blk_lt BK3.out) : gb3 ≠ gb8); have n6_ := Aside0.mk (blk_below BK6.out hb); have NB6_8 := Aside0.mk (by rw [hg]; exact Nat.ne_of_lt (blk_lt BK6.out) : gb6 ≠ gb8); have m_ := Aside0.mk (below_step HB.out hb); have GE8 := Aside0.mk (Nat.le_trans (below_size HB.out) (Nat.le_of_eq hg.symm) : w.heap.size ≤ gb8); clear HB; have HB := m_; clear m_; clear BK3; have BK3 := n3_; clear n3_; clear BK6; have BK6 := n6_; clear n6_; have BK8 := Aside0.mk hbox; clear hbox hb hg; have hc3_0 : w8.cell? ⟨gb3, 0, none⟩ = some (.int .i64 o0) := (blk_cell BK3.out 0).trans rfl; have hf3_0 := blk_frozen BK3.out 0; have hc3_1 : w8.cell? ⟨gb3, 1, none⟩ = some (.int .i64 o1) := (blk_cell BK3.out 1).trans rfl; have hf3_1 := blk_frozen BK3.out 1; have hc3_2 : w8.cell? ⟨gb3, 2, none⟩ = some (.int .i64 o2) := (blk_cell BK3.out 2).trans rfl; have hf3_2 := blk_frozen BK3.out 2))
  have hc6_0 : w8.cell? ⟨gb6, 0, none⟩ = some (.int .i64 0) := (blk_cell BK6.out 0).trans rfl
  have hf6_0 := blk_frozen BK6.out 0
  have hc6_1 : w8.cell? ⟨gb6, 1, none⟩ = some (.int .i64 0) := (blk_cell BK6.out 1).trans rfl
  have hf6_1 := blk_frozen BK6.out 1
  have hc6_2 : w8.cell? ⟨gb6, 2, none⟩ = some (.int .i64 0) := (blk_cell BK6.out 2).trans rfl
  have hf6_2 := blk_frozen BK6.out 2
  have hc8_0 : w8.cell? ⟨gb8, 0, none⟩ = some (.int .i64 0) := (blk_cell BK8.out 0).trans rfl
  have hf8_0 := blk_frozen BK8.out 0
  have hc8_1 : w8.cell? ⟨gb8, 1, none⟩ = some (.int .i64 0) := (blk_cell BK8.out 1).trans rfl
  have hf8_1 := blk_frozen BK8.out 1
  have hc8_2 : w8.cell? ⟨gb8, 2, none⟩ = some (.int .i64 0) := (blk_cell BK8.out 2).trans rfl
  have hf8_2 := blk_frozen BK8.out 2
  have nb := NB6_8.out
  have nb' := Ne.symm NB6_8.out
  clear hc3_0 hc3_1 hc3_2 hf3_0 hf3_1 hf3_2
  have ix0 := parts_ix0 (.int .i64 o0) (.int .i64 o1) (.int .i64 o2)
  have ix1 := parts_ix1 (.int .i64 o0) (.int .i64 o1) (.int .i64 o2)
  have ix2 := parts_ix2 (.int .i64 o0) (.int .i64 o1) (.int .i64 o2)
  refine wp_loop_rounds 4 ?_
  rw [rounds_succ]
  go_wp2
  rw [rounds_succ]
  go_wp2
  rw [rounds_succ]
  go_wp2
  rw [rounds_succ]
  go_wp2
  refine bodyPost_ret (results_ct (p := 6) (u := 7) (ty := 33) rfl _ _ gb6 33 #[.int .i64 (o0), .int .i64 (a - o0), .int .i64 (0)] (0, 0) _ rfl ?hg Tryd.underlying33 rfl (by kernel_rfl)) rfl ⟨rfl, ?_⟩
  case hg =>
    refine blk_put (cs := #[.int .i64 (o0), .int .i64 (a - o0), .int .i64 0]) ?_ 2 _ rfl
    refine blk_put (cs := #[.int .i64 (o0), .int .i64 0, .int .i64 0]) ?_ 1 _ rfl
    refine blk_put (cs := #[.int .i64 0, .int .i64 0, .int .i64 0]) ?_ 0 _ rfl
    refine blk_far ?_ NB6_8.out _
    refine blk_far ?_ NB6_8.out _
    refine blk_far ?_ NB6_8.out _
    exact BK6.out
  refine below_set ?_ GE6.out
  refine below_set ?_ GE6.out
  refine below_set ?_ GE6.out
  refine below_set ?_ GE8.out
  refine below_set ?_ GE8.out
  refine below_set ?_ GE8.out
  exact HB.out
set_option maxHeartbeats 4000000 in
theorem parts_0_oaz (o0 o1 a : Int) (h0 : 0 ≤ o0 ∧ o0 ≤ 9223372036854775807) (h1 : 0 ≤ o1 ∧ o1 ≤ 9223372036854775807) (ha : 0 ≤ a ∧ a ≤ 9223372036854775807) (c0 : ¬ o0 > a) (c1 : o1 > a - o0) (w : World) :
    Calls Tryd.prog 10 #[.agg #[.int .i64 o0, .int .i64 o1, .int .i64 0], .int .i64 0, .int .i64 a] w fun e w' => e = .returned (.tuple #[.agg #[.int .i64 (o0), .int .i64 (a - o0), .int .i64 (0)], .int .i64 (0)]) ∧ Below w.heap.size w w' := by
  go_enter Tryd.func10, Tryd.ntmps10
  go_wp2_with (first | ((with_reducible refine gate_dst (N := 3) rfl ?_); (try (refine gate_guard (by rfl) ?_; dsimp only)); refine box_event ?hg (N := 3) ?hd (cs := #[.int .i64 o0, .int .i64 o1, .int .i64 0]) (t := 33) ?hr ?_; (case hd => rfl); (case hg => rfl); (case hr => first | (go_simp; done) | (go_simp; rfl)); intro gb3 hg w3 hbox hb; have BK3 := Aside0.mk hbox; have HB := Aside0.mk hb; have GE3 := Aside0.mk (Nat.le_of_eq hg.symm : w.heap.size ≤ gb3); clear hbox hb hg) | ((with_reducible refine gate_dst (N := 6) rfl ?_); (try (refine gate_guard (by rfl) ?_; dsimp only)); refine box_event ?hg (N := 6) ?hd (cs := #[.int .i64 0, .int .i64 0, .int .i64 0]) (t := 33) ?hr ?_; (case hd => rfl); (case hg => rfl); (case hr => first | (go_simp; done) | (go_simp; rfl)); intro gb6 hg w6 hbox hb; have n3_ := Aside0.mk (blk_below BK3.out hb); have NB3_6 := Aside0.mk (by rw [hg]; exact Nat.ne_of_lt (blk_lt BK3.out) : gb3 ≠ gb6); have m_ := Aside0.mk (below_step HB.out hb); have GE6 := Aside0.mk (Nat.le_trans (below_size HB.out) (Nat.le_of_eq hg.symm) : w.heap.size ≤ gb6); clear HB; have HB := m_; clear m_; clear BK3; have BK3 := n3_; clear n3_; have BK6 := Aside0.mk hbox; clear hbox hb hg) | ((with_reducible refine gate_dst (N := 8) rfl ?_); (try (refine gate_guard (by rfl) ?_; dsimp only)); refine box_event ?hg (N := 8) ?hd (cs := #[.int .i64 0, .int .i64 0, .int .i64 0]) (t := 33) ?hr ?_; (case hd => rfl); (case hg => rfl); (case hr => first | (go_simp; done) | (go_simp; rfl)); intro gb8 hg w8 hbox hb; have n3_ := Aside0.mk (blk_below BK3.out hb); have NB3_8 := Aside0.mk (by rw [hg]; exact Nat.ne_of_lt (blk_lt BK3.out) : gb3 ≠ gb8); have n6_ := Aside0.mk (blk_below BK6.out hb); have NB6_8 := Aside0.mk (by rw [hg]; exact Nat.ne_of_lt (blk_lt BK6.out) : gb6 ≠ gb8); have m_ := Aside0.mk (below_step HB.out hb); have GE8 := Aside0.mk (Nat.le_trans (below_size HB.out) (Nat.le_of_eq hg.symm) : w.heap.size ≤ gb8); clear HB; have HB := m_; clear m_; clear BK3; have BK3 := n3_; clear n3_; clear BK6; have BK6 := n6_; clear n6_; have BK8 := Aside0.mk hbox; clear hbox hb hg; have hc3_0 : w8.cell? ⟨gb3, 0, none⟩ = some (.int .i64 o0) := (blk_cell BK3.out 0).trans rfl; have hf3_0 := blk_frozen BK3.out 0; have hc3_1 : w8.cell? ⟨gb3, 1, none⟩ = some (.int .i64 o1) := (blk_cell BK3.out 1).trans rfl; have hf3_1 := blk_frozen BK3.out 1; have hc3_2 : w8.cell? ⟨gb3, 2, none⟩ = some (.int .i64 0) := (blk_cell BK3.out 2).trans rfl; have hf3_2 := blk_frozen BK3.out 2))
  have hc6_0 : w8.cell? ⟨gb6, 0, none⟩ = some (.int .i64 0) := (blk_cell BK6.out 0).trans rfl
  have hf6_0 := blk_frozen BK6.out 0
  have hc6_1 : w8.cell? ⟨gb6, 1, none⟩ = some (.int .i64 0) := (blk_cell BK6.out 1).trans rfl
  have hf6_1 := blk_frozen BK6.out 1
  have hc6_2 : w8.cell? ⟨gb6, 2, none⟩ = some (.int .i64 0) := (blk_cell BK6.out 2).trans rfl
  have hf6_2 := blk_frozen BK6.out 2
  have hc8_0 : w8.cell? ⟨gb8, 0, none⟩ = some (.int .i64 0) := (blk_cell BK8.out 0).trans rfl
  have hf8_0 := blk_frozen BK8.out 0
  have hc8_1 : w8.cell? ⟨gb8, 1, none⟩ = some (.int .i64 0) := (blk_cell BK8.out 1).trans rfl
  have hf8_1 := blk_frozen BK8.out 1
  have hc8_2 : w8.cell? ⟨gb8, 2, none⟩ = some (.int .i64 0) := (blk_cell BK8.out 2).trans rfl
  have hf8_2 := blk_frozen BK8.out 2
  have nb := NB6_8.out
  have nb' := Ne.symm NB6_8.out
  clear hc3_0 hc3_1 hc3_2 hf3_0 hf3_1 hf3_2
  have ix0 := parts_ix0 (.int .i64 o0) (.int .i64 o1) (.int .i64 0)
  have ix1 := parts_ix1 (.int .i64 o0) (.int .i64 o1) (.int .i64 0)
  have ix2 := parts_ix2 (.int .i64 o0) (.int .i64 o1) (.int .i64 0)
  refine wp_loop_rounds 4 ?_
  rw [rounds_succ]
  go_wp2
  rw [rounds_succ]
  go_wp2
  rw [rounds_succ]
  go_wp2
  rw [rounds_succ]
  go_wp2
  refine bodyPost_ret (results_ct (p := 6) (u := 7) (ty := 33) rfl _ _ gb6 33 #[.int .i64 (o0), .int .i64 (a - o0), .int .i64 (0)] (0, 0) _ rfl ?hg Tryd.underlying33 rfl (by kernel_rfl)) rfl ⟨rfl, ?_⟩
  case hg =>
    refine blk_put (cs := #[.int .i64 (o0), .int .i64 (a - o0), .int .i64 0]) ?_ 2 _ rfl
    refine blk_put (cs := #[.int .i64 (o0), .int .i64 0, .int .i64 0]) ?_ 1 _ rfl
    refine blk_put (cs := #[.int .i64 0, .int .i64 0, .int .i64 0]) ?_ 0 _ rfl
    refine blk_far ?_ NB6_8.out _
    refine blk_far ?_ NB6_8.out _
    refine blk_far ?_ NB6_8.out _
    exact BK6.out
  refine below_set ?_ GE6.out
  refine below_set ?_ GE6.out
  refine below_set ?_ GE6.out
  refine below_set ?_ GE8.out
  refine below_set ?_ GE8.out
  refine below_set ?_ GE8.out
  exact HB.out
set_option maxHeartbeats 4000000 in
theorem parts_0_app (o0 o1 o2 a : Int) (h0 : 0 ≤ o0 ∧ o0 ≤ 9223372036854775807) (h1 : 0 ≤ o1 ∧ o1 ≤ 9223372036854775807) (h2 : 0 ≤ o2 ∧ o2 ≤ 9223372036854775807) (ha : 0 ≤ a ∧ a ≤ 9223372036854775807) (c0 : o0 > a) (c1 : o1 > 0) (c2 : o2 > 0) (w : World) :
    Calls Tryd.prog 10 #[.agg #[.int .i64 o0, .int .i64 o1, .int .i64 o2], .int .i64 0, .int .i64 a] w fun e w' => e = .returned (.tuple #[.agg #[.int .i64 (a), .int .i64 (0), .int .i64 (0)], .int .i64 (0)]) ∧ Below w.heap.size w w' := by
  go_enter Tryd.func10, Tryd.ntmps10
  go_wp2_with (first | ((with_reducible refine gate_dst (N := 3) rfl ?_); (try (refine gate_guard (by rfl) ?_; dsimp only)); refine box_event ?hg (N := 3) ?hd (cs := #[.int .i64 o0, .int .i64 o1, .int .i64 o2]) (t := 33) ?hr ?_; (case hd => rfl); (case hg => rfl); (case hr => first | (go_simp; done) | (go_simp; rfl)); intro gb3 hg w3 hbox hb; have BK3 := Aside0.mk hbox; have HB := Aside0.mk hb; have GE3 := Aside0.mk (Nat.le_of_eq hg.symm : w.heap.size ≤ gb3); clear hbox hb hg) | ((with_reducible refine gate_dst (N := 6) rfl ?_); (try (refine gate_guard (by rfl) ?_; dsimp only)); refine box_event ?hg (N := 6) ?hd (cs := #[.int .i64 0, .int .i64 0, .int .i64 0]) (t := 33) ?hr ?_; (case hd => rfl); (case hg => rfl); (case hr => first | (go_simp; done) | (go_simp; rfl)); intro gb6 hg w6 hbox hb; have n3_ := Aside0.mk (blk_below BK3.out hb); have NB3_6 := Aside0.mk (by rw [hg]; exact Nat.ne_of_lt (blk_lt BK3.out) : gb3 ≠ gb6); have m_ := Aside0.mk (below_step HB.out hb); have GE6 := Aside0.mk (Nat.le_trans (below_size HB.out) (Nat.le_of_eq hg.symm) : w.heap.size ≤ gb6); clear HB; have HB := m_; clear m_; clear BK3; have BK3 := n3_; clear n3_; have BK6 := Aside0.mk hbox; clear hbox hb hg) | ((with_reducible refine gate_dst (N := 8) rfl ?_); (try (refine gate_guard (by rfl) ?_; dsimp only)); refine box_event ?hg (N := 8) ?hd (cs := #[.int .i64 0, .int .i64 0, .int .i64 0]) (t := 33) ?hr ?_; (case hd => rfl); (case hg => rfl); (case hr => first | (go_simp; done) | (go_simp; rfl)); intro gb8 hg w8 hbox hb; have n3_ := Aside0.mk (blk_below BK3.out hb); have NB3_8 := Aside0.mk (by rw [hg]; exact Nat.ne_of_lt (blk_lt BK3.out) : gb3 ≠ gb8); have n6_ := Aside0.mk (blk_below BK6.out hb); have NB6_8 := Aside0.mk (by rw [hg]; exact Nat.ne_of_lt (blk_lt BK6.out) : gb6 ≠ gb8); have m_ := Aside0.mk (below_step HB.out hb); have GE8 := Aside0.mk (Nat.le_trans (below_size HB.out) (Nat.le_of_eq hg.symm) : w.heap.size ≤ gb8); clear HB; have HB := m_; clear m_; clear BK3; have BK3 := n3_; clear n3_; clear BK6; have BK6 := n6_; clear n6_; have BK8 := Aside0.mk hbox; clear hbox hb hg; have hc3_0 : w8.cell? ⟨gb3, 0, none⟩ = some (.int .i64 o0) := (blk_cell BK3.out 0).trans rfl; have hf3_0 := blk_frozen BK3.out 0; have hc3_1 : w8.cell? ⟨gb3, 1, none⟩ = some (.int .i64 o1) := (blk_cell BK3.out 1).trans rfl; have hf3_1 := blk_frozen BK3.out 1; have hc3_2 : w8.cell? ⟨gb3, 2, none⟩ = some (.int .i64 o2) := (blk_cell BK3.out 2).trans rfl; have hf3_2 := blk_frozen BK3.out 2))
  have hc6_0 : w8.cell? ⟨gb6, 0, none⟩ = some (.int .i64 0) := (blk_cell BK6.out 0).trans rfl
  have hf6_0 := blk_frozen BK6.out 0
  have hc6_1 : w8.cell? ⟨gb6, 1, none⟩ = some (.int .i64 0) := (blk_cell BK6.out 1).trans rfl
  have hf6_1 := blk_frozen BK6.out 1
  have hc6_2 : w8.cell? ⟨gb6, 2, none⟩ = some (.int .i64 0) := (blk_cell BK6.out 2).trans rfl
  have hf6_2 := blk_frozen BK6.out 2
  have hc8_0 : w8.cell? ⟨gb8, 0, none⟩ = some (.int .i64 0) := (blk_cell BK8.out 0).trans rfl
  have hf8_0 := blk_frozen BK8.out 0
  have hc8_1 : w8.cell? ⟨gb8, 1, none⟩ = some (.int .i64 0) := (blk_cell BK8.out 1).trans rfl
  have hf8_1 := blk_frozen BK8.out 1
  have hc8_2 : w8.cell? ⟨gb8, 2, none⟩ = some (.int .i64 0) := (blk_cell BK8.out 2).trans rfl
  have hf8_2 := blk_frozen BK8.out 2
  have nb := NB6_8.out
  have nb' := Ne.symm NB6_8.out
  clear hc3_0 hc3_1 hc3_2 hf3_0 hf3_1 hf3_2
  have ix0 := parts_ix0 (.int .i64 o0) (.int .i64 o1) (.int .i64 o2)
  have ix1 := parts_ix1 (.int .i64 o0) (.int .i64 o1) (.int .i64 o2)
  have ix2 := parts_ix2 (.int .i64 o0) (.int .i64 o1) (.int .i64 o2)
  refine wp_loop_rounds 4 ?_
  rw [rounds_succ]
  go_wp2
  rw [rounds_succ]
  go_wp2
  rw [rounds_succ]
  go_wp2
  rw [rounds_succ]
  go_wp2
  refine bodyPost_ret (results_ct (p := 6) (u := 7) (ty := 33) rfl _ _ gb6 33 #[.int .i64 (a), .int .i64 (0), .int .i64 (0)] (0, 0) _ rfl ?hg Tryd.underlying33 rfl (by kernel_rfl)) rfl ⟨rfl, ?_⟩
  case hg =>
    refine blk_put (cs := #[.int .i64 (a), .int .i64 (0), .int .i64 0]) ?_ 2 _ rfl
    refine blk_put (cs := #[.int .i64 (a), .int .i64 0, .int .i64 0]) ?_ 1 _ rfl
    refine blk_put (cs := #[.int .i64 0, .int .i64 0, .int .i64 0]) ?_ 0 _ rfl
    refine blk_far ?_ NB6_8.out _
    refine blk_far ?_ NB6_8.out _
    refine blk_far ?_ NB6_8.out _
    exact BK6.out
  refine below_set ?_ GE6.out
  refine below_set ?_ GE6.out
  refine below_set ?_ GE6.out
  refine below_set ?_ GE8.out
  refine below_set ?_ GE8.out
  refine below_set ?_ GE8.out
  exact HB.out
set_option maxHeartbeats 4000000 in
theorem parts_0_apz (o0 o1 a : Int) (h0 : 0 ≤ o0 ∧ o0 ≤ 9223372036854775807) (h1 : 0 ≤ o1 ∧ o1 ≤ 9223372036854775807) (ha : 0 ≤ a ∧ a ≤ 9223372036854775807) (c0 : o0 > a) (c1 : o1 > 0) (w : World) :
    Calls Tryd.prog 10 #[.agg #[.int .i64 o0, .int .i64 o1, .int .i64 0], .int .i64 0, .int .i64 a] w fun e w' => e = .returned (.tuple #[.agg #[.int .i64 (a), .int .i64 (0), .int .i64 (0)], .int .i64 (0)]) ∧ Below w.heap.size w w' := by
  go_enter Tryd.func10, Tryd.ntmps10
  go_wp2_with (first | ((with_reducible refine gate_dst (N := 3) rfl ?_); (try (refine gate_guard (by rfl) ?_; dsimp only)); refine box_event ?hg (N := 3) ?hd (cs := #[.int .i64 o0, .int .i64 o1, .int .i64 0]) (t := 33) ?hr ?_; (case hd => rfl); (case hg => rfl); (case hr => first | (go_simp; done) | (go_simp; rfl)); intro gb3 hg w3 hbox hb; have BK3 := Aside0.mk hbox; have HB := Aside0.mk hb; have GE3 := Aside0.mk (Nat.le_of_eq hg.symm : w.heap.size ≤ gb3); clear hbox hb hg) | ((with_reducible refine gate_dst (N := 6) rfl ?_); (try (refine gate_guard (by rfl) ?_; dsimp only)); refine box_event ?hg (N := 6) ?hd (cs := #[.int .i64 0, .int .i64 0, .int .i64 0]) (t := 33) ?hr ?_; (case hd => rfl); (case hg => rfl); (case hr => first | (go_simp; done) | (go_simp; rfl)); intro gb6 hg w6 hbox hb; have n3_ := Aside0.mk (blk_below BK3.out hb); have NB3_6 := Aside0.mk (by rw [hg]; exact Nat.ne_of_lt (blk_lt BK3.out) : gb3 ≠ gb6); have m_ := Aside0.mk (below_step HB.out hb); have GE6 := Aside0.mk (Nat.le_trans (below_size HB.out) (Nat.le_of_eq hg.symm) : w.heap.size ≤ gb6); clear HB; have HB := m_; clear m_; clear BK3; have BK3 := n3_; clear n3_; have BK6 := Aside0.mk hbox; clear hbox hb hg) | ((with_reducible refine gate_dst (N := 8) rfl ?_); (try (refine gate_guard (by rfl) ?_; dsimp only)); refine box_event ?hg (N := 8) ?hd (cs := #[.int .i64 0, .int .i64 0, .int .i64 0]) (t := 33) ?hr ?_; (case hd => rfl); (case hg => rfl); (case hr => first | (go_simp; done) | (go_simp; rfl)); intro gb8 hg w8 hbox hb; have n3_ := Aside0.mk (blk_below BK3.out hb); have NB3_8 := Aside0.mk (by rw [hg]; exact Nat.ne_of_lt (blk_lt BK3.out) : gb3 ≠ gb8); have n6_ := Aside0.mk (blk_below BK6.out hb); have NB6_8 := Aside0.mk (by rw [hg]; exact Nat.ne_of_lt (blk_lt BK6.out) : gb6 ≠ gb8); have m_ := Aside0.mk (below_step HB.out hb); have GE8 := Aside0.mk (Nat.le_trans (below_size HB.out) (Nat.le_of_eq hg.symm) : w.heap.size ≤ gb8); clear HB; have HB := m_; clear m_; clear BK3; have BK3 := n3_; clear n3_; clear BK6; have BK6 := n6_; clear n6_; have BK8 := Aside0.mk hbox; clear hbox hb hg; have hc3_0 : w8.cell? ⟨gb3, 0, none⟩ = some (.int .i64 o0) := (blk_cell BK3.out 0).trans rfl; have hf3_0 := blk_frozen BK3.out 0; have hc3_1 : w8.cell? ⟨gb3, 1, none⟩ = some (.int .i64 o1) := (blk_cell BK3.out 1).trans rfl; have hf3_1 := blk_frozen BK3.out 1; have hc3_2 : w8.cell? ⟨gb3, 2, none⟩ = some (.int .i64 0) := (blk_cell BK3.out 2).trans rfl; have hf3_2 := blk_frozen BK3.out 2))
  have hc6_0 : w8.cell? ⟨gb6, 0, none⟩ = some (.int .i64 0) := (blk_cell BK6.out 0).trans rfl
  have hf6_0 := blk_frozen BK6.out 0
  have hc6_1 : w8.cell? ⟨gb6, 1, none⟩ = some (.int .i64 0) := (blk_cell BK6.out 1).trans rfl
  have hf6_1 := blk_frozen BK6.out 1
  have hc6_2 : w8.cell? ⟨gb6, 2, none⟩ = some (.int .i64 0) := (blk_cell BK6.out 2).trans rfl
  have hf6_2 := blk_frozen BK6.out 2
  have hc8_0 : w8.cell? ⟨gb8, 0, none⟩ = some (.int .i64 0) := (blk_cell BK8.out 0).trans rfl
  have hf8_0 := blk_frozen BK8.out 0
  have hc8_1 : w8.cell? ⟨gb8, 1, none⟩ = some (.int .i64 0) := (blk_cell BK8.out 1).trans rfl
  have hf8_1 := blk_frozen BK8.out 1
  have hc8_2 : w8.cell? ⟨gb8, 2, none⟩ = some (.int .i64 0) := (blk_cell BK8.out 2).trans rfl
  have hf8_2 := blk_frozen BK8.out 2
  have nb := NB6_8.out
  have nb' := Ne.symm NB6_8.out
  clear hc3_0 hc3_1 hc3_2 hf3_0 hf3_1 hf3_2
  have ix0 := parts_ix0 (.int .i64 o0) (.int .i64 o1) (.int .i64 0)
  have ix1 := parts_ix1 (.int .i64 o0) (.int .i64 o1) (.int .i64 0)
  have ix2 := parts_ix2 (.int .i64 o0) (.int .i64 o1) (.int .i64 0)
  refine wp_loop_rounds 4 ?_
  rw [rounds_succ]
  go_wp2
  rw [rounds_succ]
  go_wp2
  rw [rounds_succ]
  go_wp2
  rw [rounds_succ]
  go_wp2
  refine bodyPost_ret (results_ct (p := 6) (u := 7) (ty := 33) rfl _ _ gb6 33 #[.int .i64 (a), .int .i64 (0), .int .i64 (0)] (0, 0) _ rfl ?hg Tryd.underlying33 rfl (by kernel_rfl)) rfl ⟨rfl, ?_⟩
  case hg =>
    refine blk_put (cs := #[.int .i64 (a), .int .i64 (0), .int .i64 0]) ?_ 2 _ rfl
    refine blk_put (cs := #[.int .i64 (a), .int .i64 0, .int .i64 0]) ?_ 1 _ rfl
    refine blk_put (cs := #[.int .i64 0, .int .i64 0, .int .i64 0]) ?_ 0 _ rfl
    refine blk_far ?_ NB6_8.out _
    refine blk_far ?_ NB6_8.out _
    refine blk_far ?_ NB6_8.out _
    exact BK6.out
  refine below_set ?_ GE6.out
  refine below_set ?_ GE6.out
  refine below_set ?_ GE6.out
  refine below_set ?_ GE8.out
  refine below_set ?_ GE8.out
  refine below_set ?_ GE8.out
  exact HB.out
set_option maxHeartbeats 4000000 in
theorem parts_0_azp (o0 o2 a : Int) (h0 : 0 ≤ o0 ∧ o0 ≤ 9223372036854775807) (h2 : 0 ≤ o2 ∧ o2 ≤ 9223372036854775807) (ha : 0 ≤ a ∧ a ≤ 9223372036854775807) (c0 : o0 > a) (c2 : o2 > 0) (w : World) :
    Calls Tryd.prog 10 #[.agg #[.int .i64 o0, .int .i64 0, .int .i64 o2], .int .i64 0, .int .i64 a] w fun e w' => e = .returned (.tuple #[.agg #[.int .i64 (a), .int .i64 (0), .int .i64 (0)], .int .i64 (0)]) ∧ Below w.heap.size w w' := by
  go_enter Tryd.func10, Tryd.ntmps10
  go_wp2_with (first | ((with_reducible refine gate_dst (N := 3) rfl ?_); (try (refine gate_guard (by rfl) ?_; dsimp only)); refine box_event ?hg (N := 3) ?hd (cs := #[.int .i64 o0, .int .i64 0, .int .i64 o2]) (t := 33) ?hr ?_; (case hd => rfl); (case hg => rfl); (case hr => first | (go_simp; done) | (go_simp; rfl)); intro gb3 hg w3 hbox hb; have BK3 := Aside0.mk hbox; have HB := Aside0.mk hb; have GE3 := Aside0.mk (Nat.le_of_eq hg.symm : w.heap.size ≤ gb3); clear hbox hb hg) | ((with_reducible refine gate_dst (N := 6) rfl ?_); (try (refine gate_guard (by rfl) ?_; dsimp only)); refine box_event ?hg (N := 6) ?hd (cs := #[.int .i64 0, .int .i64 0, .int .i64 0]) (t := 33) ?hr ?_; (case hd => rfl); (case hg => rfl); (case hr => first | (go_simp; done) | (go_simp; rfl)); intro gb6 hg w6 hbox hb; have n3_ := Aside0.mk (blk_below BK3.out hb); have NB3_6 := Aside0.mk (by rw [hg]; exact Nat.ne_of_lt (blk_lt BK3.out) : gb3 ≠ gb6); have m_ := Aside0.mk (below_step HB.out hb); have GE6 := Aside0.mk (Nat.le_trans (below_size HB.out) (Nat.le_of_eq hg.symm) : w.heap.size ≤ gb6); clear HB; have HB := m_; clear m_; clear BK3; have BK3 := n3_; clear n3_; have BK6 := Aside0.mk hbox; clear hbox hb hg) | ((with_reducible refine gate_dst (N := 8) rfl ?_); (try (refine gate_guard (by rfl) ?_; dsimp only)); refine box_event ?hg (N := 8) ?hd (cs := #[.int .i64 0, .int .i64 0, .int .i64 0]) (t := 33) ?hr ?_; (case hd => rfl); (case hg => rfl); (case hr => first | (go_simp; done) | (go_simp; rfl)); intro gb8 hg w8 hbox hb; have n3_ := Aside0.mk (blk_below BK3.out hb); have NB3_8 := Aside0.mk (by rw [hg]; exact Nat.ne_of_lt (blk_lt BK3.out) : gb3 ≠ gb8); have n6_ := Aside0.mk (blk_below BK6.out hb); have NB6_8 := Aside0.mk (by rw [hg]; exact Nat.ne_of_lt (blk_lt BK6.out) : gb6 ≠ gb8); have m_ := Aside0.mk (below_step HB.out hb); have GE8 := Aside0.mk (Nat.le_trans (below_size HB.out) (Nat.le_of_eq hg.symm) : w.heap.size ≤ gb8); clear HB; have HB := m_; clear m_; clear BK3; have BK3 := n3_; clear n3_; clear BK6; have BK6 := n6_; clear n6_; have BK8 := Aside0.mk hbox; clear hbox hb hg; have hc3_0 : w8.cell? ⟨gb3, 0, none⟩ = some (.int .i64 o0) := (blk_cell BK3.out 0).trans rfl; have hf3_0 := blk_frozen BK3.out 0; have hc3_1 : w8.cell? ⟨gb3, 1, none⟩ = some (.int .i64 0) := (blk_cell BK3.out 1).trans rfl; have hf3_1 := blk_frozen BK3.out 1; have hc3_2 : w8.cell? ⟨gb3, 2, none⟩ = some (.int .i64 o2) := (blk_cell BK3.out 2).trans rfl; have hf3_2 := blk_frozen BK3.out 2))
  have hc6_0 : w8.cell? ⟨gb6, 0, none⟩ = some (.int .i64 0) := (blk_cell BK6.out 0).trans rfl
  have hf6_0 := blk_frozen BK6.out 0
  have hc6_1 : w8.cell? ⟨gb6, 1, none⟩ = some (.int .i64 0) := (blk_cell BK6.out 1).trans rfl
  have hf6_1 := blk_frozen BK6.out 1
  have hc6_2 : w8.cell? ⟨gb6, 2, none⟩ = some (.int .i64 0) := (blk_cell BK6.out 2).trans rfl
  have hf6_2 := blk_frozen BK6.out 2
  have hc8_0 : w8.cell? ⟨gb8, 0, none⟩ = some (.int .i64 0) := (blk_cell BK8.out 0).trans rfl
  have hf8_0 := blk_frozen BK8.out 0
  have hc8_1 : w8.cell? ⟨gb8, 1, none⟩ = some (.int .i64 0) := (blk_cell BK8.out 1).trans rfl
  have hf8_1 := blk_frozen BK8.out 1
  have hc8_2 : w8.cell? ⟨gb8, 2, none⟩ = some (.int .i64 0) := (blk_cell BK8.out 2).trans rfl
  have hf8_2 := blk_frozen BK8.out 2
  have nb := NB6_8.out
  have nb' := Ne.symm NB6_8.out
  clear hc3_0 hc3_1 hc3_2 hf3_0 hf3_1 hf3_2
  have ix0 := parts_ix0 (.int .i64 o0) (.int .i64 0) (.int .i64 o2)
  have ix1 := parts_ix1 (.int .i64 o0) (.int .i64 0) (.int .i64 o2)
  have ix2 := parts_ix2 (.int .i64 o0) (.int .i64 0) (.int .i64 o2)
  refine wp_loop_rounds 4 ?_
  rw [rounds_succ]
  go_wp2
  rw [rounds_succ]
  go_wp2
  rw [rounds_succ]
  go_wp2
  rw [rounds_succ]
  go_wp2
  refine bodyPost_ret (results_ct (p := 6) (u := 7) (ty := 33) rfl _ _ gb6 33 #[.int .i64 (a), .int .i64 (0), .int .i64 (0)] (0, 0) _ rfl ?hg Tryd.underlying33 rfl (by kernel_rfl)) rfl ⟨rfl, ?_⟩
  case hg =>
    refine blk_put (cs := #[.int .i64 (a), .int .i64 (0), .int .i64 0]) ?_ 2 _ rfl
    refine blk_put (cs := #[.int .i64 (a), .int .i64 0, .int .i64 0]) ?_ 1 _ rfl
    refine blk_put (cs := #[.int .i64 0, .int .i64 0, .int .i64 0]) ?_ 0 _ rfl
    refine blk_far ?_ NB6_8.out _
    refine blk_far ?_ NB6_8.out _
    refine blk_far ?_ NB6_8.out _
    exact BK6.out
  refine below_set ?_ GE6.out
  refine below_set ?_ GE6.out
  refine below_set ?_ GE6.out
  refine below_set ?_ GE8.out
  refine below_set ?_ GE8.out
  refine below_set ?_ GE8.out
  exact HB.out
set_option maxHeartbeats 4000000 in
theorem parts_0_azz (o0 a : Int) (h0 : 0 ≤ o0 ∧ o0 ≤ 9223372036854775807) (ha : 0 ≤ a ∧ a ≤ 9223372036854775807) (c0 : o0 > a) (w : World) :
    Calls Tryd.prog 10 #[.agg #[.int .i64 o0, .int .i64 0, .int .i64 0], .int .i64 0, .int .i64 a] w fun e w' => e = .returned (.tuple #[.agg #[.int .i64 (a), .int .i64 (0), .int .i64 (0)], .int .i64 (0)]) ∧ Below w.heap.size w w' := by
  go_enter Tryd.func10, Tryd.ntmps10
  go_wp2_with (first | ((with_reducible refine gate_dst (N := 3) rfl ?_); (try (refine gate_guard (by rfl) ?_; dsimp only)); refine box_event ?hg (N := 3) ?hd (cs := #[.int .i64 o0, .int .i64 0, .int .i64 0]) (t := 33) ?hr ?_; (case hd => rfl); (case hg => rfl); (case hr => first | (go_simp; done) | (go_simp; rfl)); intro gb3 hg w3 hbox hb; have BK3 := Aside0.mk hbox; have HB := Aside0.mk hb; have GE3 := Aside0.mk (Nat.le_of_eq hg.symm : w.heap.size ≤ gb3); clear hbox hb hg) | ((with_reducible refine gate_dst (N := 6) rfl ?_); (try (refine gate_guard (by rfl) ?_; dsimp only)); refine box_event ?hg (N := 6) ?hd (cs := #[.int .i64 0, .int .i64 0, .int .i64 0]) (t := 33) ?hr ?_; (case hd => rfl); (case hg => rfl); (case hr => first | (go_simp; done) | (go_simp; rfl)); intro gb6 hg w6 hbox hb; have n3_ := Aside0.mk (blk_below BK3.out hb); have NB3_6 := Aside0.mk (by rw [hg]; exact Nat.ne_of_lt (blk_lt BK3.out) : gb3 ≠ gb6); have m_ := Aside0.mk (below_step HB.out hb); have GE6 := Aside0.mk (Nat.le_trans (below_size HB.out) (Nat.le_of_eq hg.symm) : w.heap.size ≤ gb6); clear HB; have HB := m_; clear m_; clear BK3; have BK3 := n3_; clear n3_; have BK6 := Aside0.mk hbox; clear hbox hb hg) | ((with_reducible refine gate_dst (N := 8) rfl ?_); (try (refine gate_guard (by rfl) ?_; dsimp only)); refine box_event ?hg (N := 8) ?hd (cs := #[.int .i64 0, .int .i64 0, .int .i64 0]) (t := 33) ?hr ?_; (case hd => rfl); (case hg => rfl); (case hr => first | (go_simp; done) | (go_simp; rfl)); intro gb8 hg w8 hbox hb; have n3_ := Aside0.mk (blk_below BK3.out hb); have NB3_8 := Aside0.mk (by rw [hg]; exact Nat.ne_of_lt (blk_lt BK3.out) : gb3 ≠ gb8); have n6_ := Aside0.mk (blk_below BK6.out hb); have NB6_8 := Aside0.mk (by rw [hg]; exact Nat.ne_of_lt (blk_lt BK6.out) : gb6 ≠ gb8); have m_ := Aside0.mk (below_step HB.out hb); have GE8 := Aside0.mk (Nat.le_trans (below_size HB.out) (Nat.le_of_eq hg.symm) : w.heap.size ≤ gb8); clear HB; have HB := m_; clear m_; clear BK3; have BK3 := n3_; clear n3_; clear BK6; have BK6 := n6_; clear n6_; have BK8 := Aside0.mk hbox; clear hbox hb hg; have hc3_0 : w8.cell? ⟨gb3, 0, none⟩ = some (.int .i64 o0) := (blk_cell BK3.out 0).trans rfl; have hf3_0 := blk_frozen BK3.out 0; have hc3_1 : w8.cell? ⟨gb3, 1, none⟩ = some (.int .i64 0) := (blk_cell BK3.out 1).trans rfl; have hf3_1 := blk_frozen BK3.out 1; have hc3_2 : w8.cell? ⟨gb3, 2, none⟩ = some (.int .i64 0) := (blk_cell BK3.out 2).trans rfl; have hf3_2 := blk_frozen BK3.out 2))
  have hc6_0 : w8.cell? ⟨gb6, 0, none⟩ = some (.int .i64 0) := (blk_cell BK6.out 0).trans rfl
  have hf6_0 := blk_frozen BK6.out 0
  have hc6_1 : w8.cell? ⟨gb6, 1, none⟩ = some (.int .i64 0) := (blk_cell BK6.out 1).trans rfl
  have hf6_1 := blk_frozen BK6.out 1
  have hc6_2 : w8.cell? ⟨gb6, 2, none⟩ = some (.int .i64 0) := (blk_cell BK6.out 2).trans rfl
  have hf6_2 := blk_frozen BK6.out 2
  have hc8_0 : w8.cell? ⟨gb8, 0, none⟩ = some (.int .i64 0) := (blk_cell BK8.out 0).trans rfl
  have hf8_0 := blk_frozen BK8.out 0
  have hc8_1 : w8.cell? ⟨gb8, 1, none⟩ = some (.int .i64 0) := (blk_cell BK8.out 1).trans rfl
  have hf8_1 := blk_frozen BK8.out 1
  have hc8_2 : w8.cell? ⟨gb8, 2, none⟩ = some (.int .i64 0) := (blk_cell BK8.out 2).trans rfl
  have hf8_2 := blk_frozen BK8.out 2
  have nb := NB6_8.out
  have nb' := Ne.symm NB6_8.out
  clear hc3_0 hc3_1 hc3_2 hf3_0 hf3_1 hf3_2
  have ix0 := parts_ix0 (.int .i64 o0) (.int .i64 0) (.int .i64 0)
  have ix1 := parts_ix1 (.int .i64 o0) (.int .i64 0) (.int .i64 0)
  have ix2 := parts_ix2 (.int .i64 o0) (.int .i64 0) (.int .i64 0)
  refine wp_loop_rounds 4 ?_
  rw [rounds_succ]
  go_wp2
  rw [rounds_succ]
  go_wp2
  rw [rounds_succ]
  go_wp2
  rw [rounds_succ]
  go_wp2
  refine bodyPost_ret (results_ct (p := 6) (u := 7) (ty := 33) rfl _ _ gb6 33 #[.int .i64 (a), .int .i64 (0), .int .i64 (0)] (0, 0) _ rfl ?hg Tryd.underlying33 rfl (by kernel_rfl)) rfl ⟨rfl, ?_⟩
  case hg =>
    refine blk_put (cs := #[.int .i64 (a), .int .i64 (0), .int .i64 0]) ?_ 2 _ rfl
    refine blk_put (cs := #[.int .i64 (a), .int .i64 0, .int .i64 0]) ?_ 1 _ rfl
    refine blk_put (cs := #[.int .i64 0, .int .i64 0, .int .i64 0]) ?_ 0 _ rfl
    refine blk_far ?_ NB6_8.out _
    refine blk_far ?_ NB6_8.out _
    refine blk_far ?_ NB6_8.out _
    exact BK6.out
  refine below_set ?_ GE6.out
  refine below_set ?_ GE6.out
  refine below_set ?_ GE6.out
  refine below_set ?_ GE8.out
  refine below_set ?_ GE8.out
  refine below_set ?_ GE8.out
  exact HB.out
set_option maxHeartbeats 4000000 in
theorem parts_1_oo (o0 o1 o2 a : Int) (h0 : 0 ≤ o0 ∧ o0 ≤ 9223372036854775807) (h1 : 0 ≤ o1 ∧ o1 ≤ 9223372036854775807) (h2 : 0 ≤ o2 ∧ o2 ≤ 9223372036854775807) (ha : 0 ≤ a ∧ a ≤ 9223372036854775807) (c1 : ¬ o1 > a) (c2 : ¬ o2 > a - o1) (w : World) :
    Calls Tryd.prog 10 #[.agg #[.int .i64 o0, .int .i64 o1, .int .i64 o2], .int .i64 1, .int .i64 a] w fun e w' => e = .returned (.tuple #[.agg #[.int .i64 (0), .int .i64 (o1), .int .i64 (o2)], .int .i64 (a - o1 - o2)]) ∧ Below w.heap.size w w' := by
  go_enter Tryd.func10, Tryd.ntmps10
  go_wp2_with (first | ((with_reducible refine gate_dst (N := 3) rfl ?_); (try (refine gate_guard (by rfl) ?_; dsimp only)); refine box_event ?hg (N := 3) ?hd (cs := #[.int .i64 o0, .int .i64 o1, .int .i64 o2]) (t := 33) ?hr ?_; (case hd => rfl); (case hg => rfl); (case hr => first | (go_simp; done) | (go_simp; rfl)); intro gb3 hg w3 hbox hb; have BK3 := Aside0.mk hbox; have HB := Aside0.mk hb; have GE3 := Aside0.mk (Nat.le_of_eq hg.symm : w.heap.size ≤ gb3); clear hbox hb hg) | ((with_reducible refine gate_dst (N := 6) rfl ?_); (try (refine gate_guard (by rfl) ?_; dsimp only)); refine box_event ?hg (N := 6) ?hd (cs := #[.int .i64 0, .int .i64 0, .int .i64 0]) (t := 33) ?hr ?_; (case hd => rfl); (case hg => rfl); (case hr => first | (go_simp; done) | (go_simp; rfl)); intro gb6 hg w6 hbox hb; have n3_ := Aside0.mk (blk_below BK3.out hb); have NB3_6 := Aside0.mk (by rw [hg]; exact Nat.ne_of_lt (blk_lt BK3.out) : gb3 ≠ gb6); have m_ := Aside0.mk (below_step HB.out hb); have GE6 := Aside0.mk (Nat.le_trans (below_size HB.out) (Nat.le_of_eq hg.symm) : w.heap.size ≤ gb6); clear HB; have HB := m_; clear m_; clear BK3; have BK3 := n3_; clear n3_; have BK6 := Aside0.mk hbox; clear hbox hb hg) | ((with_reducible refine gate_dst (N := 8) rfl ?_); (try (refine gate_guard (by rfl) ?_; dsimp only)); refine box_event ?hg (N := 8) ?hd (cs := #[.int .i64 0, .int .i64 0, .int .i64 0]) (t := 33) ?hr ?_; (case hd => rfl); (case hg => rfl); (case hr => first | (go_simp; done) | (go_simp; rfl)); intro gb8 hg w8 hbox hb; have n3_ := Aside0.mk (blk_below BK3.out hb); have NB3_8 := Aside0.mk (by rw [hg]; exact Nat.ne_of_lt (blk_lt BK3.out) : gb3 ≠ gb8); have n6_ := Aside0.mk (blk_below BK6.out hb); have NB6_8 := Aside0.mk (by rw [hg]; exact Nat.ne_of_lt (blk_lt BK6.out) : gb6 ≠ gb8); have m_ := Aside0.mk (below_step HB.out hb); have GE8 := Aside0.mk (Nat.le_trans (below_size HB.out) (Nat.le_of_eq hg.symm) : w.heap.size ≤ gb8); clear HB; have HB := m_; clear m_; clear BK3; have BK3 := n3_; clear n3_; clear BK6; have BK6 := n6_; clear n6_; have BK8 := Aside0.mk hbox; clear hbox hb hg; have hc3_0 : w8.cell? ⟨gb3, 0, none⟩ = some (.int .i64 o0) := (blk_cell BK3.out 0).trans rfl; have hf3_0 := blk_frozen BK3.out 0; have hc3_1 : w8.cell? ⟨gb3, 1, none⟩ = some (.int .i64 o1) := (blk_cell BK3.out 1).trans rfl; have hf3_1 := blk_frozen BK3.out 1; have hc3_2 : w8.cell? ⟨gb3, 2, none⟩ = some (.int .i64 o2) := (blk_cell BK3.out 2).trans rfl; have hf3_2 := blk_frozen BK3.out 2))
  have hc6_0 : w8.cell? ⟨gb6, 0, none⟩ = some (.int .i64 0) := (blk_cell BK6.out 0).trans rfl
  have hf6_0 := blk_frozen BK6.out 0
  have hc6_1 : w8.cell? ⟨gb6, 1, none⟩ = some (.int .i64 0) := (blk_cell BK6.out 1).trans rfl
  have hf6_1 := blk_frozen BK6.out 1
  have hc6_2 : w8.cell? ⟨gb6, 2, none⟩ = some (.int .i64 0) := (blk_cell BK6.out 2).trans rfl
  have hf6_2 := blk_frozen BK6.out 2
  have hc8_0 : w8.cell? ⟨gb8, 0, none⟩ = some (.int .i64 0) := (blk_cell BK8.out 0).trans rfl
  have hf8_0 := blk_frozen BK8.out 0
  have hc8_1 : w8.cell? ⟨gb8, 1, none⟩ = some (.int .i64 0) := (blk_cell BK8.out 1).trans rfl
  have hf8_1 := blk_frozen BK8.out 1
  have hc8_2 : w8.cell? ⟨gb8, 2, none⟩ = some (.int .i64 0) := (blk_cell BK8.out 2).trans rfl
  have hf8_2 := blk_frozen BK8.out 2
  have nb := NB6_8.out
  have nb' := Ne.symm NB6_8.out
  clear hc3_0 hc3_1 hc3_2 hf3_0 hf3_1 hf3_2
  have ix0 := parts_ix0 (.int .i64 o0) (.int .i64 o1) (.int .i64 o2)
  have ix1 := parts_ix1 (.int .i64 o0) (.int .i64 o1) (.int .i64 o2)
  have ix2 := parts_ix2 (.int .i64 o0) (.int .i64 o1) (.int .i64 o2)
  refine wp_loop_rounds 4 ?_
  rw [rounds_succ]
  go_wp2
  rw [rounds_succ]
  go_wp2
  rw [rounds_succ]
  go_wp2
  rw [rounds_succ]
  go_wp2
  refine bodyPost_ret (results_ct (p := 6) (u := 7) (ty := 33) rfl _ _ gb6 33 #[.int .i64 (0), .int .i64 (o1), .int .i64 (o2)] (0, 0) _ rfl ?hg Tryd.underlying33 rfl (by kernel_rfl)) rfl ⟨rfl, ?_⟩
  case hg =>
    refine blk_put (cs := #[.int .i64 (0), .int .i64 (o1), .int .i64 0]) ?_ 2 _ rfl
    refine blk_put (cs := #[.int .i64 (0), .int .i64 0, .int .i64 0]) ?_ 1 _ rfl
    refine blk_put (cs := #[.int .i64 0, .int .i64 0, .int .i64 0]) ?_ 0 _ rfl
    refine blk_far ?_ NB6_8.out _
    refine blk_far ?_ NB6_8.out _
    exact BK6.out
  refine below_set ?_ GE6.out
  refine below_set ?_ GE6.out
  refine below_set ?_ GE6.out
  refine below_set ?_ GE8.out
  refine below_set ?_ GE8.out
  exact HB.out
set_option maxHeartbeats 4000000 in
theorem parts_1_oa (o0 o1 o2 a : Int) (h0 : 0 ≤ o0 ∧ o0 ≤ 9223372036854775807) (h1 : 0 ≤ o1 ∧ o1 ≤ 9223372036854775807) (h2 : 0 ≤ o2 ∧ o2 ≤ 9223372036854775807) (ha : 0 ≤ a ∧ a ≤ 9223372036854775807) (c1 : ¬ o1 > a) (c2 : o2 > a - o1) (w : World) :
    Calls Tryd.prog 10 #[.agg #[.int .i64 o0, .int .i64 o1, .int .i64 o2], .int .i64 1, .int .i64 a] w fun e w' => e = .returned (.tuple #[.agg #[.int .i64 (0), .int .i64 (o1), .int .i64 (a - o1)], .int .i64 (0)]) ∧ Below w.heap.size w w' := by
  go_enter Tryd.func10, Tryd.ntmps10
  go_wp2_with (first | ((with_reducible refine gate_dst (N := 3) rfl ?_); (try (refine gate_guard (by rfl) ?_; dsimp only)); refine box_event ?hg (N := 3) ?hd (cs := #[.int .i64 o0, .int .i64 o1, .int .i64 o2]) (t := 33) ?hr ?_; (case hd => rfl); (case hg => rfl); (case hr => first | (go_simp; done) | (go_simp; rfl)); intro gb3 hg w3 hbox hb; have BK3 := Aside0.mk hbox; have HB := Aside0.mk hb; have GE3 := Aside0.mk (Nat.le_of_eq hg.symm : w.heap.size ≤ gb3); clear hbox hb hg) | ((with_reducible refine gate_dst (N := 6) rfl ?_); (try (refine gate_guard (by rfl) ?_; dsimp only)); refine box_event ?hg (N := 6) ?hd (cs := #[.int .i64 0, .int .i64 0, .int .i64 0]) (t := 33) ?hr ?_; (case hd => rfl); (case hg => rfl); (case hr => first | (go_simp; done) | (go_simp; rfl)); intro gb6 hg w6 hbox hb; have n3_ := Aside0.mk (blk_below BK3.out hb); have NB3_6 := Aside0.mk (by rw [hg]; exact Nat.ne_of_lt (blk_lt BK3.out) : gb3 ≠ gb6); have m_ := Aside0.mk (below_step HB.out hb); have GE6 := Aside0.mk (Nat.le_trans (below_size HB.out) (Nat.le_of_eq hg.symm) : w.heap.size ≤ gb6); clear HB; have HB := m_; clear m_; clear BK3; have BK3 := n3_; clear n3_; have BK6 := Aside0.mk hbox; clear hbox hb hg) | ((with_reducible refine gate_dst (N := 8) rfl ?_); (try (refine gate_guard (by rfl) ?_; dsimp only)); refine box_event ?hg (N := 8) ?hd (cs := #[.int .i64 0, .int .i64 0, .int .i64 0]) (t := 33) ?hr ?_; (case hd => rfl); (case hg => rfl); (case hr => first | (go_simp; done) | (go_simp; rfl)); intro gb8 hg w8 hbox hb; have n3_ := Aside0.mk (blk_below BK3.out hb); have NB3_8 := Aside0.mk (by rw [hg]; exact Nat.ne_of_lt (blk_lt BK3.out) : gb3 ≠ gb8); have n6_ := Aside0.mk (blk_below BK6.out hb); have NB6_8 := Aside0.mk (by rw [hg]; exact Nat.ne_of_lt (blk_lt BK6.out) : gb6 ≠ gb8); have m_ := Aside0.mk (below_step HB.out hb); have GE8 := Aside0.mk (Nat.le_trans (below_size HB.out) (Nat.le_of_eq hg.symm) : w.heap.size ≤ gb8); clear HB; have HB := m_; clear m_; clear BK3; have BK3 := n3_; clear n3_; clear BK6; have BK6 := n6_; clear n6_; have BK8 := Aside0.mk hbox; clear hbox hb hg; have hc3_0 : w8.cell? ⟨gb3, 0, none⟩ = some (.int .i64 o0) := (blk_cell BK3.out 0).trans rfl; have hf3_0 := blk_frozen BK3.out 0; have hc3_1 : w8.cell? ⟨gb3, 1, none⟩ = some (.int .i64 o1) := (blk_cell BK3.out 1).trans rfl; have hf3_1 := blk_frozen BK3.out 1; have hc3_2 : w8.cell? ⟨gb3, 2, none⟩ = some (.int .i64 o2) := (blk_cell BK3.out 2).trans rfl; have hf3_2 := blk_frozen BK3.out 2))
  have hc6_0 : w8.cell? ⟨gb6, 0, none⟩ = some (.int .i64 0) := (blk_cell BK6.out 0).trans rfl
  have hf6_0 := blk_frozen BK6.out 0
  have hc6_1 : w8.cell? ⟨gb6, 1, none⟩ = some (.int .i64 0) := (blk_cell BK6.out 1).trans rfl
  have hf6_1 := blk_frozen BK6.out 1
  have hc6_2 : w8.cell? ⟨gb6, 2, none⟩ = some (.int .i64 0) := (blk_cell BK6.out 2).trans rfl
  have hf6_2 := blk_frozen BK6.out 2
  have hc8_0 : w8.cell? ⟨gb8, 0, none⟩ = some (.int .i64 0) := (blk_cell BK8.out 0).trans rfl
  have hf8_0 := blk_frozen BK8.out 0
  have hc8_1 : w8.cell? ⟨gb8, 1, none⟩ = some (.int .i64 0) := (blk_cell BK8.out 1).trans rfl
  have hf8_1 := blk_frozen BK8.out 1
  have hc8_2 : w8.cell? ⟨gb8, 2, none⟩ = some (.int .i64 0) := (blk_cell BK8.out 2).trans rfl
  have hf8_2 := blk_frozen BK8.out 2
  have nb := NB6_8.out
  have nb' := Ne.symm NB6_8.out
  clear hc3_0 hc3_1 hc3_2 hf3_0 hf3_1 hf3_2
  have ix0 := parts_ix0 (.int .i64 o0) (.int .i64 o1) (.int .i64 o2)
  have ix1 := parts_ix1 (.int .i64 o0) (.int .i64 o1) (.int .i64 o2)
  have ix2 := parts_ix2 (.int .i64 o0) (.int .i64 o1) (.int .i64 o2)
  refine wp_loop_rounds 4 ?_
  rw [rounds_succ]
  go_wp2
  rw [rounds_succ]
  go_wp2
  rw [rounds_succ]
  go_wp2
  rw [rounds_succ]
  go_wp2
  refine bodyPost_ret (results_ct (p := 6) (u := 7) (ty := 33) rfl _ _ gb6 33 #[.int .i64 (0), .int .i64 (o1), .int .i64 (a - o1)] (0, 0) _ rfl ?hg Tryd.underlying33 rfl (by kernel_rfl)) rfl ⟨rfl, ?_⟩
  case hg =>
    refine blk_put (cs := #[.int .i64 (0), .int .i64 (o1), .int .i64 0]) ?_ 2 _ rfl
    refine blk_put (cs := #[.int .i64 (0), .int .i64 0, .int .i64 0]) ?_ 1 _ rfl
    refine blk_put (cs := #[.int .i64 0, .int .i64 0, .int .i64 0]) ?_ 0 _ rfl
    refine blk_far ?_ NB6_8.out _
    refine blk_far ?_ NB6_8.out _
    exact BK6.out
  refine below_set ?_ GE6.out
  refine below_set ?_ GE6.out
  refine below_set ?_ GE6.out
  refine below_set ?_ GE8.out
  refine below_set ?_ GE8.out
  exact HB.out
set_option maxHeartbeats 4000000 in
theorem parts_1_ap (o0 o1 o2 a : Int) (h0 : 0 ≤ o0 ∧ o0 ≤ 9223372036854775807) (h1 : 0 ≤ o1 ∧ o1 ≤ 9223372036854775807) (h2 : 0 ≤ o2 ∧ o2 ≤ 9223372036854775807) (ha : 0 ≤ a ∧ a ≤ 9223372036854775807) (c1 : o1 > a) (c2 : o2 > 0) (w : World) :
    Calls Tryd.prog 10 #[.agg #[.int .i64 o0, .int .i64 o1, .int .i64 o2], .int .i64 1, .int .i64 a] w fun e w' => e = .returned (.tuple #[.agg #[.int .i64 (0), .int .i64 (a), .int .i64 (0)], .int .i64 (0)]) ∧ Below w.heap.size w w' := by
  go_enter Tryd.func10, Tryd.ntmps10
  go_wp2_with (first | ((with_reducible refine gate_dst (N := 3) rfl ?_); (try (refine gate_guard (by rfl) ?_; dsimp only)); refine box_event ?hg (N := 3) ?hd (cs := #[.int .i64 o0, .int .i64 o1, .int .i64 o2]) (t := 33) ?hr ?_; (case hd => rfl); (case hg => rfl); (case hr => first | (go_simp; done) | (go_simp; rfl)); intro gb3 hg w3 hbox hb; have BK3 := Aside0.mk hbox; have HB := Aside0.mk hb; have GE3 := Aside0.mk (Nat.le_of_eq hg.symm : w.heap.size ≤ gb3); clear hbox hb hg) | ((with_reducible refine gate_dst (N := 6) rfl ?_); (try (refine gate_guard (by rfl) ?_; dsimp only)); refine box_event ?hg (N := 6) ?hd (cs := #[.int .i64 0, .int .i64 0, .int .i64 0]) (t := 33) ?hr ?_; (case hd => rfl); (case hg => rfl); (case hr => first | (go_simp; done) | (go_simp; rfl)); intro gb6 hg w6 hbox hb; have n3_ := Aside0.mk (blk_below BK3.out hb); have NB3_6 := Aside0.mk (by rw [hg]; exact Nat.ne_of_lt (blk_lt BK3.out) : gb3 ≠ gb6); have m_ := Aside0.mk (below_step HB.out hb); have GE6 := Aside0.mk (Nat.le_trans (below_size HB.out) (Nat.le_of_eq hg.symm) : w.heap.size ≤ gb6); clear HB; have HB := m_; clear m_; clear BK3; have BK3 := n3_; clear n3_; have BK6 := Aside0.mk hbox; clear hbox hb hg) | ((with_reducible refine gate_dst (N := 8) rfl ?_); (try (refine gate_guard (by rfl) ?_; dsimp only)); refine box_event ?hg (N := 8) ?hd (cs := #[.int .i64 0, .int .i64 0, .int .i64 0]) (t := 33) ?hr ?_; (case hd => rfl); (case hg => rfl); (case hr => first | (go_simp; done) | (go_simp; rfl)); intro gb8 hg w8 hbox hb; have n3_ := Aside0.mk (blk_below BK3.out hb); have NB3_8 := Aside0.mk (by rw [hg]; exact Nat.ne_of_lt (blk_lt BK3.out) : gb3 ≠ gb8); have n6_ := Aside0.mk (blk_below BK6.out hb); have NB6_8 := Aside0.mk (by rw [hg]; exact Nat.ne_of_lt (blk_lt BK6.out) : gb6 ≠ gb8); have m_ := Aside0.mk (below_step HB.out hb); have GE8 := Aside0.mk (Nat.le_trans (below_size HB.out) (Nat.le_of_eq hg.symm) : w.heap.size ≤ gb8); clear HB; have HB := m_; clear m_; clear BK3; have BK3 := n3_; clear n3_; clear BK6; have BK6 := n6_; clear n6_; have BK8 := Aside0.mk hbox; clear hbox hb hg; have hc3_0 : w8.cell? ⟨gb3, 0, none⟩ = some (.int .i64 o0) := (blk_cell BK3.out 0).trans rfl; have hf3_0 := blk_frozen BK3.out 0; have hc3_1 : w8.cell? ⟨gb3, 1, none⟩ = some (.int .i64 o1) := (blk_cell BK3.out 1).trans rfl; have hf3_1 := blk_frozen BK3.out 1; have hc3_2 : w8.cell? ⟨gb3, 2, none⟩ = some (.int .i64 o2) := (blk_cell BK3.out 2).trans rfl; have hf3_2 := blk_frozen BK3.out 2))
  have hc6_0 : w8.cell? ⟨gb6, 0, none⟩ = some (.int .i64 0) := (blk_cell BK6.out 0).trans rfl
  have hf6_0 := blk_frozen BK6.out 0
  have hc6_1 : w8.cell? ⟨gb6, 1, none⟩ = some (.int .i64 0) := (blk_cell BK6.out 1).trans rfl
  have hf6_1 := blk_frozen BK6.out 1
  have hc6_2 : w8.cell? ⟨gb6, 2, none⟩ = some (.int .i64 0) := (blk_cell BK6.out 2).trans rfl
  have hf6_2 := blk_frozen BK6.out 2
  have hc8_0 : w8.cell? ⟨gb8, 0, none⟩ = some (.int .i64 0) := (blk_cell BK8.out 0).trans rfl
  have hf8_0 := blk_frozen BK8.out 0
  have hc8_1 : w8.cell? ⟨gb8, 1, none⟩ = some (.int .i64 0) := (blk_cell BK8.out 1).trans rfl
  have hf8_1 := blk_frozen BK8.out 1
  have hc8_2 : w8.cell? ⟨gb8, 2, none⟩ = some (.int .i64 0) := (blk_cell BK8.out 2).trans rfl
  have hf8_2 := blk_frozen BK8.out 2
  have nb := NB6_8.out
  have nb' := Ne.symm NB6_8.out
  clear hc3_0 hc3_1 hc3_2 hf3_0 hf3_1 hf3_2
  have ix0 := parts_ix0 (.int .i64 o0) (.int .i64 o1) (.int .i64 o2)
  have ix1 := parts_ix1 (.int .i64 o0) (.int .i64 o1) (.int .i64 o2)
  have ix2 := parts_ix2 (.int .i64 o0) (.int .i64 o1) (.int .i64 o2)
  refine wp_loop_rounds 4 ?_
  rw [rounds_succ]
  go_wp2
  rw [rounds_succ]
  go_wp2
  rw [rounds_succ]
  go_wp2
  rw [rounds_succ]
  go_wp2
  refine bodyPost_ret (results_ct (p := 6) (u := 7) (ty := 33) rfl _ _ gb6 33 #[.int .i64 (0), .int .i64 (a), .int .i64 (0)] (0, 0) _ rfl ?hg Tryd.underlying33 rfl (by kernel_rfl)) rfl ⟨rfl, ?_⟩
  case hg =>
    refine blk_put (cs := #[.int .i64 (0), .int .i64 (a), .int .i64 0]) ?_ 2 _ rfl
    refine blk_put (cs := #[.int .i64 (0), .int .i64 0, .int .i64 0]) ?_ 1 _ rfl
    refine blk_put (cs := #[.int .i64 0, .int .i64 0, .int .i64 0]) ?_ 0 _ rfl
    refine blk_far ?_ NB6_8.out _
    refine blk_far ?_ NB6_8.out _
    exact BK6.out
  refine below_set ?_ GE6.out
  refine below_set ?_ GE6.out
  refine below_set ?_ GE6.out
  refine below_set ?_ GE8.out
  refine below_set ?_ GE8.out
  exact HB.out
set_option maxHeartbeats 4000000 in
theorem parts_1_az (o0 o1 a : Int) (h0 : 0 ≤ o0 ∧ o0 ≤ 9223372036854775807) (h1 : 0 ≤ o1 ∧ o1 ≤ 9223372036854775807) (ha : 0 ≤ a ∧ a ≤ 9223372036854775807) (c1 : o1 > a) (w : World) :
    Calls Tryd.prog 10 #[.agg #[.int .i64 o0, .int .i64 o1, .int .i64 0], .int .i64 1, .int .i64 a] w fun e w' => e = .returned (.tuple #[.agg #[.int .i64 (0), .int .i64 (a), .int .i64 (0)], .int .i64 (0)]) ∧ Below w.heap.size w w' := by
  go_enter Tryd.func10, Tryd.ntmps10
  go_wp2_with (first | ((with_reducible refine gate_dst (N := 3) rfl ?_); (try (refine gate_guard (by rfl) ?_; dsimp only)); refine box_event ?hg (N := 3) ?hd (cs := #[.int .i64 o0, .int .i64 o1, .int .i64 0]) (t := 33) ?hr ?_; (case hd => rfl); (case hg => rfl); (case hr => first | (go_simp; done) | (go_simp; rfl)); intro gb3 hg w3 hbox hb; have BK3 := Aside0.mk hbox; have HB := Aside0.mk hb; have GE3 := Aside0.mk (Nat.le_of_eq hg.symm : w.heap.size ≤ gb3); clear hbox hb hg) | ((with_reducible refine gate_dst (N := 6) rfl ?_); (try (refine gate_guard (by rfl) ?_; dsimp only)); refine box_event ?hg (N := 6) ?hd (cs := #[.int .i64 0, .int .i64 0, .int .i64 0]) (t := 33) ?hr ?_; (case hd => rfl); (case hg => rfl); (case hr => first | (go_simp; done) | (go_simp; rfl)); intro gb6 hg w6 hbox hb; have n3_ := Aside0.mk (blk_below BK3.out hb); have NB3_6 := Aside0.mk (by rw [hg]; exact Nat.ne_of_lt (blk_lt BK3.out) : gb3 ≠ gb6); have m_ := Aside0.mk (below_step HB.out hb); have GE6 := Aside0.mk (Nat.le_trans (below_size HB.out) (Nat.le_of_eq hg.symm) : w.heap.size ≤ gb6); clear HB; have HB := m_; clear m_; clear BK3; have BK3 := n3_; clear n3_; have BK6 := Aside0.mk hbox; clear hbox hb hg) | ((with_reducible refine gate_dst (N := 8) rfl ?_); (try (refine gate_guard (by rfl) ?_; dsimp only)); refine box_event ?hg (N := 8) ?hd (cs := #[.int .i64 0, .int .i64 0, .int .i64 0]) (t := 33) ?hr ?_; (case hd => rfl); (case hg => rfl); (case hr => first | (go_simp; done) | (go_simp; rfl)); intro gb8 hg w8 hbox hb; have n3_ := Aside0.mk (blk_below BK3.out hb); have NB3_8 := Aside0.mk (by rw [hg]; exact Nat.ne_of_lt (blk_lt BK3.out) : gb3 ≠ gb8); have n6_ := Aside0.mk (blk_below BK6.out hb); have NB6_8 := Aside0.mk (by rw [hg]; exact Nat.ne_of_lt (blk_lt BK6.out) : gb6 ≠ gb8); have m_ := Aside0.mk (below_step HB.out hb); have GE8 := Aside0.mk (Nat.le_trans (below_size HB.out) (Nat.le_of_eq hg.symm) : w.heap.size ≤ gb8); clear HB; have HB := m_; clear m_; clear BK3; have BK3 := n3_; clear n3_; clear BK6; have BK6 := n6_; clear n6_; have BK8 := Aside0.mk hbox; clear hbox hb hg; have hc3_0 : w8.cell? ⟨gb3, 0, none⟩ = some (.int .i64 o0) := (blk_cell BK3.out 0).trans rfl; have hf3_0 := blk_frozen BK3.out 0; have hc3_1 : w8.cell? ⟨gb3, 1, none⟩ = some (.int .i64 o1) := (blk_cell BK3.out 1).trans rfl; have hf3_1 := blk_frozen BK3.out 1; have hc3_2 : w8.cell? ⟨gb3, 2, none⟩ = some (.int .i64 0) := (blk_cell BK3.out 2).trans rfl; have hf3_2 := blk_frozen BK3.out 2))
  have hc6_0 : w8.cell? ⟨gb6, 0, none⟩ = some (.int .i64 0) := (blk_cell BK6.out 0).trans rfl
  have hf6_0 := blk_frozen BK6.out 0
  have hc6_1 : w8.cell? ⟨gb6, 1, none⟩ = some (.int .i64 0) := (blk_cell BK6.out 1).trans rfl
  have hf6_1 := blk_frozen BK6.out 1
  have hc6_2 : w8.cell? ⟨gb6, 2, none⟩ = some (.int .i64 0) := (blk_cell BK6.out 2).trans rfl
  have hf6_2 := blk_frozen BK6.out 2
  have hc8_0 : w8.cell? ⟨gb8, 0, none⟩ = some (.int .i64 0) := (blk_cell BK8.out 0).trans rfl
  have hf8_0 := blk_frozen BK8.out 0
  have hc8_1 : w8.cell? ⟨gb8, 1, none⟩ = some (.int .i64 0) := (blk_cell BK8.out 1).trans rfl
  have hf8_1 := blk_frozen BK8.out 1
  have hc8_2 : w8.cell? ⟨gb8, 2, none⟩ = some (.int .i64 0) := (blk_cell BK8.out 2).trans rfl
  have hf8_2 := blk_frozen BK8.out 2
  have nb := NB6_8.out
  have nb' := Ne.symm NB6_8.out
  clear hc3_0 hc3_1 hc3_2 hf3_0 hf3_1 hf3_2
  have ix0 := parts_ix0 (.int .i64 o0) (.int .i64 o1) (.int .i64 0)
  have ix1 := parts_ix1 (.int .i64 o0) (.int .i64 o1) (.int .i64 0)
  have ix2 := parts_ix2 (.int .i64 o0) (.int .i64 o1) (.int .i64 0)
  refine wp_loop_rounds 4 ?_
  rw [rounds_succ]
  go_wp2
  rw [rounds_succ]
  go_wp2
  rw [rounds_succ]
  go_wp2
  rw [rounds_succ]
  go_wp2
  refine bodyPost_ret (results_ct (p := 6) (u := 7) (ty := 33) rfl _ _ gb6 33 #[.int .i64 (0), .int .i64 (a), .int .i64 (0)] (0, 0) _ rfl ?hg Tryd.underlying33 rfl (by kernel_rfl)) rfl ⟨rfl, ?_⟩
  case hg =>
    refine blk_put (cs := #[.int .i64 (0), .int .i64 (a), .int .i64 0]) ?_ 2 _ rfl
    refine blk_put (cs := #[.int .i64 (0), .int .i64 0, .int .i64 0]) ?_ 1 _ rfl
    refine blk_put (cs := #[.int .i64 0, .int .i64 0, .int .i64 0]) ?_ 0 _ rfl
    refine blk_far ?_ NB6_8.out _
    refine blk_far ?_ NB6_8.out _
    exact BK6.out
  refine below_set ?_ GE6.out
  refine below_set ?_ GE6.out
  refine below_set ?_ GE6.out
  refine below_set ?_ GE8.out
  refine below_set ?_ GE8.out
  exact HB.out
set_option maxHeartbeats 4000000 in
theorem parts_2_o (o0 o1 o2 a : Int) (h0 : 0 ≤ o0 ∧ o0 ≤ 9223372036854775807) (h1 : 0 ≤ o1 ∧ o1 ≤ 9223372036854775807) (h2 : 0 ≤ o2 ∧ o2 ≤ 9223372036854775807) (ha : 0 ≤ a ∧ a ≤ 9223372036854775807) (c2 : ¬ o2 > a) (w : World) :
    Calls Tryd.prog 10 #[.agg #[.int .i64 o0, .int .i64 o1, .int .i64 o2], .int .i64 2, .int .i64 a] w fun e w' => e = .returned (.tuple #[.agg #[.int .i64 (0), .int .i64 (0), .int .i64 (o2)], .int .i64 (a - o2)]) ∧ Below w.heap.size w w' := by
  go_enter Tryd.func10, Tryd.ntmps10
  go_wp2_with (first | ((with_reducible refine gate_dst (N := 3) rfl ?_); (try (refine gate_guard (by rfl) ?_; dsimp only)); refine box_event ?hg (N := 3) ?hd (cs := #[.int .i64 o0, .int .i64 o1, .int .i64 o2]) (t := 33) ?hr ?_; (case hd => rfl); (case hg => rfl); (case hr => first | (go_simp; done) | (go_simp; rfl)); intro gb3 hg w3 hbox hb; have BK3 := Aside0.mk hbox; have HB := Aside0.mk hb; have GE3 := Aside0.mk (Nat.le_of_eq hg.symm : w.heap.size ≤ gb3); clear hbox hb hg) | ((with_reducible refine gate_dst (N := 6) rfl ?_); (try (refine gate_guard (by rfl) ?_; dsimp only)); refine box_event ?hg (N := 6) ?hd (cs := #[.int .i64 0, .int .i64 0, .int .i64 0]) (t := 33) ?hr ?_; (case hd => rfl); (case hg => rfl); (case hr => first | (go_simp; done) | (go_simp; rfl)); intro gb6 hg w6 hbox hb; have n3_ := Aside0.mk (blk_below BK3.out hb); have NB3_6 := Aside0.mk (by rw [hg]; exact Nat.ne_of_lt (blk_lt BK3.out) : gb3 ≠ gb6); have m_ := Aside0.mk (below_step HB.out hb); have GE6 := Aside0.mk (Nat.le_trans (below_size HB.out) (Nat.le_of_eq hg.symm) : w.heap.size ≤ gb6); clear HB; have HB := m_; clear m_; clear BK3; have BK3 := n3_; clear n3_; have BK6 := Aside0.mk hbox; clear hbox hb hg) | ((with_reducible refine gate_dst (N := 8) rfl ?_); (try (refine gate_guard (by rfl) ?_; dsimp only)); refine box_event ?hg (N := 8) ?hd (cs := #[.int .i64 0, .int .i64 0, .int .i64 0]) (t := 33) ?hr ?_; (case hd => rfl); (case hg => rfl); (case hr => first | (go_simp; done) | (go_simp; rfl)); intro gb8 hg w8 hbox hb; have n3_ := Aside0.mk (blk_below BK3.out hb); have NB3_8 := Aside0.mk (by rw [hg]; exact Nat.ne_of_lt (blk_lt BK3.out) : gb3 ≠ gb8); have n6_ := Aside0.mk (blk_below BK6.out hb); have NB6_8 := Aside0.mk (by rw [hg]; exact Nat.ne_of_lt (blk_lt BK6.out) : gb6 ≠ gb8); have m_ := Aside0.mk (below_step HB.out hb); have GE8 := Aside0.mk (Nat.le_trans (below_size HB.out) (Nat.le_of_eq hg.symm) : w.heap.size ≤ gb8); clear HB; have HB := m_; clear m_; clear BK3; have BK3 := n3_; clear n3_; clear BK6; have BK6 := n6_; clear n6_; have BK8 := Aside0.mk hbox; clear hbox hb hg; have hc3_0 : w8.cell? ⟨gb3, 0, none⟩ = some (.int .i64 o0) := (blk_cell BK3.out 0).trans rfl; have hf3_0 := blk_frozen BK3.out 0; have hc3_1 : w8.cell? ⟨gb3, 1, none⟩ = some (.int .i64 o1) := (blk_cell BK3.out 1).trans rfl; have hf3_1 := blk_frozen BK3.out 1; have hc3_2 : w8.cell? ⟨gb3, 2, none⟩ = some (.int .i64 o2) := (blk_cell BK3.out 2).trans rfl; have hf3_2 := blk_frozen BK3.out 2))
  have hc6_0 : w8.cell? ⟨gb6, 0, none⟩ = some (.int .i64 0) := (blk_cell BK6.out 0).trans rfl
  have hf6_0 := blk_frozen BK6.out 0
  have hc6_1 : w8.cell? ⟨gb6, 1, none⟩ = some (.int .i64 0) := (blk_cell BK6.out 1).trans rfl
  have hf6_1 := blk_frozen BK6.out 1
  have hc6_2 : w8.cell? ⟨gb6, 2, none⟩ = some (.int .i64 0) := (blk_cell BK6.out 2).trans rfl
  have hf6_2 := blk_frozen BK6.out 2
  have hc8_0 : w8.cell? ⟨gb8, 0, none⟩ = some (.int .i64 0) := (blk_cell BK8.out 0).trans rfl
  have hf8_0 := blk_frozen BK8.out 0
  have hc8_1 : w8.cell? ⟨gb8, 1, none⟩ = some (.int .i64 0) := (blk_cell BK8.out 1).trans rfl
  have hf8_1 := blk_frozen BK8.out 1
  have hc8_2 : w8.cell? ⟨gb8, 2, none⟩ = some (.int .i64 0) := (blk_cell BK8.out 2).trans rfl
  have hf8_2 := blk_frozen BK8.out 2
  have nb := NB6_8.out
  have nb' := Ne.symm NB6_8.out
  clear hc3_0 hc3_1 hc3_2 hf3_0 hf3_1 hf3_2
  have ix0 := parts_ix0 (.int .i64 o0) (.int .i64 o1) (.int .i64 o2)
  have ix1 := parts_ix1 (.int .i64 o0) (.int .i64 o1) (.int .i64 o2)
  have ix2 := parts_ix2 (.int .i64 o0) (.int .i64 o1) (.int .i64 o2)
  refine wp_loop_rounds 4 ?_
  rw [rounds_succ]
  go_wp2
  rw [rounds_succ]
  go_wp2
  rw [rounds_succ]
  go_wp2
  rw [rounds_succ]
  go_wp2
  refine bodyPost_ret (results_ct (p := 6) (u := 7) (ty := 33) rfl _ _ gb6 33 #[.int .i64 (0), .int .i64 (0), .int .i64 (o2)] (0, 0) _ rfl ?hg Tryd.underlying33 rfl (by kernel_rfl)) rfl ⟨rfl, ?_⟩
  case hg =>
    refine blk_put (cs := #[.int .i64 (0), .int .i64 (0), .int .i64 0]) ?_ 2 _ rfl
    refine blk_put (cs := #[.int .i64 (0), .int .i64 0, .int .i64 0]) ?_ 1 _ rfl
    refine blk_put (cs := #[.int .i64 0, .int .i64 0, .int .i64 0]) ?_ 0 _ rfl
    refine blk_far ?_ NB6_8.out _
    exact BK6.out
  refine below_set ?_ GE6.out
  refine below_set ?_ GE6.out
  refine below_set ?_ GE6.out
  refine below_set ?_ GE8.out
  exact HB.out
set_option maxHeartbeats 4000000 in
theorem parts_2_a (o0 o1 o2 a : Int) (h0 : 0 ≤ o0 ∧ o0 ≤ 9223372036854775807) (h1 : 0 ≤ o1 ∧ o1 ≤ 9223372036854775807) (h2 : 0 ≤ o2 ∧ o2 ≤ 9223372036854775807) (ha : 0 ≤ a ∧ a ≤ 9223372036854775807) (c2 : o2 > a) (w : World) :
    Calls Tryd.prog 10 #[.agg #[.int .i64 o0, .int .i64 o1, .int .i64 o2], .int .i64 2, .int .i64 a] w fun e w' => e = .returned (.tuple #[.agg #[.int .i64 (0), .int .i64 (0), .int .i64 (a)], .int .i64 (0)]) ∧ Below w.heap.size w w' := by
  go_enter Tryd.func10, Tryd.ntmps10
  go_wp2_with (first | ((with_reducible refine gate_dst (N := 3) rfl ?_); (try (refine gate_guard (by rfl) ?_; dsimp only)); refine box_event ?hg (N := 3) ?hd (cs := #[.int .i64 o0, .int .i64 o1, .int .i64 o2]) (t := 33) ?hr ?_; (case hd => rfl); (case hg => rfl); (case hr => first | (go_simp; done) | (go_simp; rfl)); intro gb3 hg w3 hbox hb; have BK3 := Aside0.mk hbox; have HB := Aside0.mk hb; have GE3 := Aside0.mk (Nat.le_of_eq hg.symm : w.heap.size ≤ gb3); clear hbox hb hg) | ((with_reducible refine gate_dst (N := 6) rfl ?_); (try (refine gate_guard (by rfl) ?_; dsimp only)); refine box_event ?hg (N := 6) ?hd (cs := #[.int .i64 0, .int .i64 0, .int .i64 0]) (t := 33) ?hr ?_; (case hd => rfl); (case hg => rfl); (case hr => first | (go_simp; done) | (go_simp; rfl)); intro gb6 hg w6 hbox hb; have n3_ := Aside0.mk (blk_below BK3.out hb); have NB3_6 := Aside0.mk (by rw [hg]; exact Nat.ne_of_lt (blk_lt BK3.out) : gb3 ≠ gb6); have m_ := Aside0.mk (below_step HB.out hb); have GE6 := Aside0.mk (Nat.le_trans (below_size HB.out) (Nat.le_of_eq hg.symm) : w.heap.size ≤ gb6); clear HB; have HB := m_; clear m_; clear BK3; have BK3 := n3_; clear n3_; have BK6 := Aside0.mk hbox; clear hbox hb hg) | ((with_reducible refine gate_dst (N := 8) rfl ?_); (try (refine gate_guard (by rfl) ?_; dsimp only)); refine box_event ?hg (N := 8) ?hd (cs := #[.int .i64 0, .int .i64 0, .int .i64 0]) (t := 33) ?hr ?_; (case hd => rfl); (case hg => rfl); (case hr => first | (go_simp; done) | (go_simp; rfl)); intro gb8 hg w8 hbox hb; have n3_ := Aside0.mk (blk_below BK3.out hb); have NB3_8 := Aside0.mk (by rw [hg]; exact Nat.ne_of_lt (blk_lt BK3.out) : gb3 ≠ gb8); have n6_ := Aside0.mk (blk_below BK6.out hb); have NB6_8 := Aside0.mk (by rw [hg]; exact Nat.ne_of_lt (blk_lt BK6.out) : gb6 ≠ gb8); have m_ := Aside0.mk (below_step HB.out hb); have GE8 := Aside0.mk (Nat.le_trans (below_size HB.out) (Nat.le_of_eq hg.symm) : w.heap.size ≤ gb8); clear HB; have HB := m_; clear m_; clear BK3; have BK3 := n3_; clear n3_; clear BK6; have BK6 := n6_; clear n6_; have BK8 := Aside0.mk hbox; clear hbox hb hg; have hc3_0 : w8.cell? ⟨gb3, 0, none⟩ = some (.int .i64 o0) := (blk_cell BK3.out 0).trans rfl; have hf3_0 := blk_frozen BK3.out 0; have hc3_1 : w8.cell? ⟨gb3, 1, none⟩ = some (.int .i64 o1) := (blk_cell BK3.out 1).trans rfl; have hf3_1 := blk_frozen BK3.out 1; have hc3_2 : w8.cell? ⟨gb3, 2, none⟩ = some (.int .i64 o2) := (blk_cell BK3.out 2).trans rfl; have hf3_2 := blk_frozen BK3.out 2))
  have hc6_0 : w8.cell? ⟨gb6, 0, none⟩ = some (.int .i64 0) := (blk_cell BK6.out 0).trans rfl
  have hf6_0 := blk_frozen BK6.out 0
  have hc6_1 : w8.cell? ⟨gb6, 1, none⟩ = some (.int .i64 0) := (blk_cell BK6.out 1).trans rfl
  have hf6_1 := blk_frozen BK6.out 1
  have hc6_2 : w8.cell? ⟨gb6, 2, none⟩ = some (.int .i64 0) := (blk_cell BK6.out 2).trans rfl
  have hf6_2 := blk_frozen BK6.out 2
  have hc8_0 : w8.cell? ⟨gb8, 0, none⟩ = some (.int .i64 0) := (blk_cell BK8.out 0).trans rfl
  have hf8_0 := blk_frozen BK8.out 0
  have hc8_1 : w8.cell? ⟨gb8, 1, none⟩ = some (.int .i64 0) := (blk_cell BK8.out 1).trans rfl
  have hf8_1 := blk_frozen BK8.out 1
  have hc8_2 : w8.cell? ⟨gb8, 2, none⟩ = some (.int .i64 0) := (blk_cell BK8.out 2).trans rfl
  have hf8_2 := blk_frozen BK8.out 2
  have nb := NB6_8.out
  have nb' := Ne.symm NB6_8.out
  clear hc3_0 hc3_1 hc3_2 hf3_0 hf3_1 hf3_2
  have ix0 := parts_ix0 (.int .i64 o0) (.int .i64 o1) (.int .i64 o2)
  have ix1 := parts_ix1 (.int .i64 o0) (.int .i64 o1) (.int .i64 o2)
  have ix2 := parts_ix2 (.int .i64 o0) (.int .i64 o1) (.int .i64 o2)
  refine wp_loop_rounds 4 ?_
  rw [rounds_succ]
  go_wp2
  rw [rounds_succ]
  go_wp2
  rw [rounds_succ]
  go_wp2
  rw [rounds_succ]
  go_wp2
  refine bodyPost_ret (results_ct (p := 6) (u := 7) (ty := 33) rfl _ _ gb6 33 #[.int .i64 (0), .int .i64 (0), .int .i64 (a)] (0, 0) _ rfl ?hg Tryd.underlying33 rfl (by kernel_rfl)) rfl ⟨rfl, ?_⟩
  case hg =>
    refine blk_put (cs := #[.int .i64 (0), .int .i64 (0), .int .i64 0]) ?_ 2 _ rfl
    refine blk_put (cs := #[.int .i64 (0), .int .i64 0, .int .i64 0]) ?_ 1 _ rfl
    refine blk_put (cs := #[.int .i64 0, .int .i64 0, .int .i64 0]) ?_ 0 _ rfl
    refine blk_far ?_ NB6_8.out _
    exact BK6.out
  refine below_set ?_ GE6.out
  refine below_set ?_ GE6.out
  refine below_set ?_ GE6.out
  refine below_set ?_ GE8.out
  exact HB.out
theorem arrearsref11_Parts.calls (o0 : Int) (o1 : Int) (o2 : Int) (F : Int) (a : Int) (r1 : Int) (r2 : Int) (r3 : Int) (r4 : Int) (w : World) (h : arrearsref11_Parts.f o0 o1 o2 F a = some (r1, r2, r3, r4)) :
    Calls Tryd.prog 10 #[.agg #[.int .i64 o0, .int .i64 o1, .int .i64 o2], .int .i64 F, .int .i64 a] w fun e w' => e = .returned (.tuple #[.agg #[.int .i64 r1, .int .i64 r2, .int .i64 r3], .int .i64 r4]) ∧ Below w.heap.size w w' := by
  unfold arrearsref11_Parts.f at h
  by_cases hb : (0 ≤ o0 ∧ o0 ≤ 9223372036854775807) ∧ (0 ≤ o1 ∧ o1 ≤ 9223372036854775807) ∧ (0 ≤ o2 ∧ o2 ≤ 9223372036854775807) ∧ (0 ≤ a ∧ a ≤ 9223372036854775807)
  · rw [if_pos hb] at h
    obtain ⟨h0, h1, h2, h3⟩ := hb
    by_cases k0 : F = 0
    · rw [if_pos k0] at h
      subst k0
      simp only [Option.some.injEq, Prod.mk.injEq] at h
      obtain ⟨rfl, rfl, rfl, rfl⟩ := h
      by_cases c0 : o0 > a
      · rw [show arrearsref11_Parts.least o0 (a) = a from if_pos c0, Int.sub_self]
        by_cases c1 : o1 > 0
        · rw [show arrearsref11_Parts.least o1 0 = 0 from if_pos c1]
          (try rw [Int.sub_zero])
          by_cases c2 : o2 > 0
          · rw [show arrearsref11_Parts.least o2 0 = 0 from if_pos c2]
            (try rw [Int.sub_zero])
            exact parts_0_app _ _ _ _ h0 h1 h2 h3 c0 c1 c2 w
          · obtain rfl : o2 = 0 := by omega
            rw [show arrearsref11_Parts.least 0 0 = 0 from rfl]
            (try rw [Int.sub_zero])
            exact parts_0_apz _ _ _ h0 h1 h3 c0 c1 w
        · obtain rfl : o1 = 0 := by omega
          rw [show arrearsref11_Parts.least 0 0 = 0 from rfl]
          (try rw [Int.sub_zero])
          by_cases c2 : o2 > 0
          · rw [show arrearsref11_Parts.least o2 0 = 0 from if_pos c2]
            (try rw [Int.sub_zero])
            exact parts_0_azp _ _ _ h0 h2 h3 c0 c2 w
          · obtain rfl : o2 = 0 := by omega
            rw [show arrearsref11_Parts.least 0 0 = 0 from rfl]
            (try rw [Int.sub_zero])
            exact parts_0_azz _ _ h0 h3 c0 w
      · rw [show arrearsref11_Parts.least o0 (a) = o0 from if_neg c0]
        by_cases c1 : o1 > a - o0
        · rw [show arrearsref11_Parts.least o1 (a - o0) = a - o0 from if_pos c1, Int.sub_self]
          by_cases c2 : o2 > 0
          · rw [show arrearsref11_Parts.least o2 0 = 0 from if_pos c2]
            (try rw [Int.sub_zero])
            exact parts_0_oap _ _ _ _ h0 h1 h2 h3 c0 c1 c2 w
          · obtain rfl : o2 = 0 := by omega
            rw [show arrearsref11_Parts.least 0 0 = 0 from rfl]
            (try rw [Int.sub_zero])
            exact parts_0_oaz _ _ _ h0 h1 h3 c0 c1 w
        · rw [show arrearsref11_Parts.least o1 (a - o0) = o1 from if_neg c1]
          by_cases c2 : o2 > a - o0 - o1
          · rw [show arrearsref11_Parts.least o2 (a - o0 - o1) = a - o0 - o1 from if_pos c2, Int.sub_self]
            exact parts_0_ooa _ _ _ _ h0 h1 h2 h3 c0 c1 c2 w
          · rw [show arrearsref11_Parts.least o2 (a - o0 - o1) = o2 from if_neg c2]
            exact parts_0_ooo _ _ _ _ h0 h1 h2 h3 c0 c1 c2 w
    · rw [if_neg k0] at h
      by_cases k1 : F = 1
      · rw [if_pos k1] at h
        subst k1
        simp only [Option.some.injEq, Prod.mk.injEq] at h
        obtain ⟨rfl, rfl, rfl, rfl⟩ := h
        by_cases c1 : o1 > a
        · rw [show arrearsref11_Parts.least o1 (a) = a from if_pos c1, Int.sub_self]
          by_cases c2 : o2 > 0
          · rw [show arrearsref11_Parts.least o2 0 = 0 from if_pos c2]
            (try rw [Int.sub_zero])
            exact parts_1_ap _ _ _ _ h0 h1 h2 h3 c1 c2 w
          · obtain rfl : o2 = 0 := by omega
            rw [show arrearsref11_Parts.least 0 0 = 0 from rfl]
            (try rw [Int.sub_zero])
            exact parts_1_az _ _ _ h0 h1 h3 c1 w
        · rw [show arrearsref11_Parts.least o1 (a) = o1 from if_neg c1]
          by_cases c2 : o2 > a - o1
          · rw [show arrearsref11_Parts.least o2 (a - o1) = a - o1 from if_pos c2, Int.sub_self]
            exact parts_1_oa _ _ _ _ h0 h1 h2 h3 c1 c2 w
          · rw [show arrearsref11_Parts.least o2 (a - o1) = o2 from if_neg c2]
            exact parts_1_oo _ _ _ _ h0 h1 h2 h3 c1 c2 w
      · rw [if_neg k1] at h
        by_cases k2 : F = 2
        · rw [if_pos k2] at h
          subst k2
          simp only [Option.some.injEq, Prod.mk.injEq] at h
          obtain ⟨rfl, rfl, rfl, rfl⟩ := h
          by_cases c2 : o2 > a
          · rw [show arrearsref11_Parts.least o2 (a) = a from if_pos c2, Int.sub_self]
            exact parts_2_a _ _ _ _ h0 h1 h2 h3 c2 w
          · rw [show arrearsref11_Parts.least o2 (a) = o2 from if_neg c2]
            exact parts_2_o _ _ _ _ h0 h1 h2 h3 c2 w
        · rw [if_neg k2] at h; exact absurd h (by simp)
  · rw [if_neg hb] at h; exact absurd h (by simp)


/-! ### arrearslaw11_own: function 11 -/
def arrearslaw11_own.f (a0_0 : Int) (a0_1 : Int) (a0_2 : Int) : Option (Int × Int × Int) := some (a0_0, a0_1, a0_2)
set_option maxHeartbeats 8000000 in
set_option maxRecDepth 100000 in
theorem arrearslaw11_own.calls (a0_0 : Int) (a0_1 : Int) (a0_2 : Int) (r1 : Int) (r2 : Int) (r3 : Int) (w : World) (h : arrearslaw11_own.f a0_0 a0_1 a0_2 = some (r1, r2, r3)) :
    Calls Tryd.prog 11 #[.agg #[.int .i64 a0_0, .int .i64 a0_1, .int .i64 a0_2]] w fun e w' => e = .returned (.agg #[.int .i64 r1, .int .i64 r2, .int .i64 r3]) ∧ Below w.heap.size w w' := by
  have hu24 := Tryd.underlying24
  have hu33 := Tryd.underlying33
  have HB := Aside0.mk (Below.refl w.heap.size w)
  have H : (some (a0_0, a0_1, a0_2)) = some (r1, r2, r3) := h
  clear h
  simp only [Option.some.injEq, Prod.mk.injEq] at H
  obtain ⟨rfl, rfl, rfl⟩ := H
  go_enter Tryd.func11, Tryd.ntmps11
  go_wp2_with (first | ((with_reducible refine gate_dst (N := 1) rfl ?_); refine box_event ?hg (N := 1) ?hd (cs := #[.int .i64 a0_0, .int .i64 a0_1, .int .i64 a0_2]) (t := 24) ?hr ?_; (case hd => rfl); (case hg => rfl); (case hr => first | (go_simp; done) | (go_simp; rfl)); intro gb133 hg w2 hbox hb; have n0_ := Aside0.mk (below_step (by repeat (first | (with_reducible first | exact HB.out | apply below_alloc | apply pw_below_drewN | apply below_drew1) | exact HB.out)) hb); have n1_ := Aside0.mk (hbox); have n2_ := Aside0.mk ((by rw [hg]; exact (below_size (by repeat (first | (with_reducible first | exact HB.out | apply below_alloc | apply pw_below_drewN | apply below_drew1) | exact HB.out))) : w.heap.size ≤ gb133)); have n3_ := Aside0.mk ((by rw [hg]; exact (below_size (by repeat (first | (with_reducible first | exact HB.out | apply below_alloc | apply pw_below_drewN | apply below_drew1) | exact HB.out))) : w.heap.size ≤ gb133)); clear HB; have HB := n0_; have BK133 := n1_; have GW133 := n2_; have GE133 := n3_; clear n0_ n1_ n2_ n3_; clear hb hbox hg) | ((with_reducible refine gate_dst (N := 2) rfl ?_); refine box_event ?hg (N := 2) ?hd (cs := #[.int .i64 0, .int .i64 0, .int .i64 0]) (t := 33) ?hr ?_; (case hd => rfl); (case hg => rfl); (case hr => first | (go_simp; done) | (go_simp; rfl)); intro gb134 hg w3 hbox hb; have n0_ := Aside0.mk (blk_below (g := gb133) (o := .cells #[.int .i64 a0_0, .int .i64 a0_1, .int .i64 a0_2] 24 (0, 0)) (by (with_reducible repeat (first | refine blk_drewN ?_ _ | refine blk_drew ?_ | refine blk_alloc ?_ _)); exact BK133.out) hb); have n1_ := Aside0.mk (below_step (by repeat (first | (with_reducible first | exact HB.out | apply below_alloc | apply pw_below_drewN | apply below_drew1 | refine below_set ?_ GE133.out) | exact HB.out)) hb); have n2_ := Aside0.mk (hbox); have n3_ := Aside0.mk ((by rw [hg]; exact (below_size (by repeat (first | (with_reducible first | exact HB.out | apply below_alloc | apply pw_below_drewN | apply below_drew1 | refine below_set ?_ GE133.out) | exact HB.out))) : w.heap.size ≤ gb134)); have n4_ := Aside0.mk ((by rw [hg]; exact (below_size (by repeat (first | (with_reducible first | exact HB.out | apply below_alloc | apply pw_below_drewN | apply below_drew1 | refine below_set ?_ GE133.out) | exact HB.out))) : w.heap.size ≤ gb134)); have n5_ := Aside0.mk ((by rw [hg]; exact Nat.ne_of_lt (blk_lt (g := gb133) (o := .cells #[.int .i64 a0_0, .int .i64 a0_1, .int .i64 a0_2] 24 (0, 0)) (by (with_reducible repeat (first | refine blk_drewN ?_ _ | refine blk_drew ?_ | refine blk_alloc ?_ _)); exact BK133.out)) : gb133 ≠ gb134)); have n6_ := Aside0.mk ((by rw [hg]; exact Nat.ne_of_gt (blk_lt (g := gb133) (o := .cells #[.int .i64 a0_0, .int .i64 a0_1, .int .i64 a0_2] 24 (0, 0)) (by (with_reducible repeat (first | refine blk_drewN ?_ _ | refine blk_drew ?_ | refine blk_alloc ?_ _)); exact BK133.out)) : gb134 ≠ gb133)); clear BK133; clear HB; have BK133 := n0_; have HB := n1_; have BK134 := n2_; have GW134 := n3_; have GE134 := n4_; have NB133_134 := n5_; have NB134_133 := n6_; clear n0_ n1_ n2_ n3_ n4_ n5_ n6_; clear hb hbox hg; have hnb4 := NB133_134.out; have hnc4 := NB134_133.out; have hcz5_0 : w3.cell? ⟨gb133, 0, none⟩ = some (.int .i64 a0_0) := (blk_cell BK133.out 0).trans rfl; have hcz5_1 : w3.cell? ⟨gb133, 1, none⟩ = some (.int .i64 a0_1) := (blk_cell BK133.out 1).trans rfl; have hcz5_2 : w3.cell? ⟨gb133, 2, none⟩ = some (.int .i64 a0_2) := (blk_cell BK133.out 2).trans rfl; have hfz5_0 := blk_frozen BK133.out 0; have hfz5_1 := blk_frozen BK133.out 1; have hfz5_2 := blk_frozen BK133.out 2; have hcz6_0 : w3.cell? ⟨gb134, 0, none⟩ = some (.int .i64 0) := (blk_cell BK134.out 0).trans rfl; have hcz6_1 : w3.cell? ⟨gb134, 1, none⟩ = some (.int .i64 0) := (blk_cell BK134.out 1).trans rfl; have hcz6_2 : w3.cell? ⟨gb134, 2, none⟩ = some (.int .i64 0) := (blk_cell BK134.out 2).trans rfl; have hfz6_0 := blk_frozen BK134.out 0; have hfz6_1 := blk_frozen BK134.out 1; have hfz6_2 := blk_frozen BK134.out 2))
  refine bodyPost_ret (results_cell_row rfl _ _ gb134 33 #[.int .i64 a0_0, .int .i64 a0_1, .int .i64 a0_2] (0, 0) _ rfl (by (with_reducible repeat (first | refine blk_drewN ?_ _ | refine blk_drew ?_ | refine blk_alloc ?_ _)); refine blk_put (cs := #[.int .i64 a0_0, .int .i64 a0_1, .int .i64 0]) ?_ 2 _ rfl; (with_reducible repeat (first | refine blk_drewN ?_ _ | refine blk_drew ?_ | refine blk_alloc ?_ _)); refine blk_put (cs := #[.int .i64 a0_0, .int .i64 0, .int .i64 0]) ?_ 1 _ rfl; (with_reducible repeat (first | refine blk_drewN ?_ _ | refine blk_drew ?_ | refine blk_alloc ?_ _)); refine blk_put (cs := #[.int .i64 0, .int .i64 0, .int .i64 0]) ?_ 0 _ rfl; (with_reducible repeat (first | refine blk_drewN ?_ _ | refine blk_drew ?_ | refine blk_alloc ?_ _)); exact BK134.out) Tryd.underlying33 rfl (by kernel_rfl)) rfl ?_
  exact ⟨by first | rfl | (simp [errW_none, errW_some] <;> rfl) | (simp [*, errW_none, errW_some] <;> rfl), by repeat (first | (with_reducible first | exact HB.out | apply below_alloc | apply pw_below_drewN | apply below_drew1 | refine below_set ?_ GE133.out | refine below_set ?_ GE134.out) | exact HB.out)⟩

end Go.Proofs.YtbncddmmngcdkaaDoor.PSplitPays
