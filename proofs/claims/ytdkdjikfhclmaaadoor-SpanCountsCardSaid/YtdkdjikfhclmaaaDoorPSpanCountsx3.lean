-- Printed by a wrapper of this session's round the kit's print.py; Lean checks it.
import Derived.Test.YtdkdjikfhclmaaaDoorPSpanCountsx0
import Derived.Test.YtdkdjikfhclmaaaDoorPSpanCountsx1
import Derived.Test.YtdkdjikfhclmaaaDoorPSpanCountsx2
namespace Go.Proofs.YtdkdjikfhclmaaaDoor.PSpanCounts
open Go.RowKit Go.Proofs.YtdkdjikfhclmaaaDoorW.PrintWords Go.Proofs.YtdkdjikfhclmaaaDoorW.PrintLast Go.Proofs.YtdkdjikfhclmaaaDoorW.PrintMore
attribute [local go_sem] max2_int min2_int max_two min_two max_three min_three max_four min_four   -- for this text's walks alone
set_option linter.unusedVariables false
set_option linter.unusedSimpArgs false

/-! ### date_Read: function 24 -/
/-- What strconv.Atoi tells, the error apart. -/
def atoiV (l : List UInt8) : Int := match Go.Lib.atoiAll l with | .ok v => v | .range => Go.Lib.atoiSat l | _ => 0
def date_Read.f (k : Nat) (a0 : ByteArray) : Option (Int × Option Int) :=
  if a0.size = 10 then
    (date_Civil_Number.f k (atoiV (a0.extract 0 4).data.toList) (atoiV (a0.extract 5 7).data.toList) (atoiV (a0.extract 8 10).data.toList)).bind fun n =>
      if n.2.isNone = true then (date_Day_Text.f k n.1).bind fun t => (if (t.toList == a0.toList) = true then some (n.1, none) else some (0, some 15))
      else some (0, some 15)
  else some (0, some 15)
theorem date_Read.mono : ∀ a0 k, LeO (date_Read.f k a0) (date_Read.f (k + 1) a0) := by
  intro a0 k
  unfold date_Read.f
  repeat' first
      | (with_reducible exact date_Civil_Number.mono _ _ _ _)
      | (with_reducible exact date_Day_Text.mono _ _)
      | (with_reducible exact LeO.refl _)
      | (with_reducible refine LeO.ite ?_ ?_)
      | (with_reducible refine LeO.bind ?_ (fun _ => ?_))
theorem atoi_any (s : ByteArray) (hs : s.size ≤ 10) (W : World) (hG : Go.Proofs.YtdkdjikfhclmaaaDoor.M.Laid W) : Calls Tryd.prog 28 #[.string s] W fun e w' => (∃ ev, e = .returned (.tuple #[.int .i64 (atoiV s.data.toList), ev])) ∧ Below W.heap.size W w' := by
  rcases hA : Go.Lib.atoiAll s.data.toList with v | _ | _
  · refine (Tryd.strconv_Atoi_ok s (by omega) v hA W).mono ?_
    rintro e w' ⟨rfl, hw⟩
    refine ⟨⟨_, by simp [atoiV, hA]; rfl⟩, ?_⟩
    rcases hw with rfl | ⟨t, rfl⟩
    · exact Below.refl _ _
    · exact Go.Joins.below_bytesWorld _ _ _ _ (Nat.le_refl _)
  · obtain ⟨tp, p, hv⟩ := hG.syn
    refine (Any.strconv_Atoi_syntax_var Tryd.laysC172 s (by omega) hA tp p W hv).mono ?_
    rintro e w' ⟨N, rfl, -, -, hb⟩
    exact ⟨⟨_, by simp [atoiV, hA]; rfl⟩, hb⟩
  · obtain ⟨tp, p, hv⟩ := hG.rng
    refine (Any.strconv_Atoi_range_var Tryd.laysC172 s (by omega) hA tp p W hv).mono ?_
    rintro e w' ⟨N, rfl, -, -, hb⟩
    exact ⟨⟨_, by simp [atoiV, hA]; rfl⟩, hb⟩
theorem atoi_at (s : ByteArray) (v : Int) (hv : atoiV s.data.toList = v) (hs : s.size ≤ 10) (W : World) (hG : Go.Proofs.YtdkdjikfhclmaaaDoor.M.Laid W) : Calls Tryd.prog 28 #[.string s] W fun e w' => (∃ ev, e = .returned (.tuple #[.int .i64 v, ev])) ∧ Below W.heap.size W w' := hv ▸ atoi_any s hs W hG
set_option maxHeartbeats 4000000 in
theorem read_len (s : ByteArray) (h1 : ((s.size : Int) == 10) = false) (h2 : ((s.size : Int) != 10) = true) (w : World) :
    Calls Tryd.prog 24 #[.string s] w fun e w' => e = .returned (.tuple #[.int .i32 0, errW (some 15)]) ∧ Below w.heap.size w w' := by
  have i0 : ∀ w, (Instr.index 64 (.agg #[.int .i64 0, .int .i64 4, .int .i64 5, .int .i64 7, .int .i64 8, .int .i64 10]) (.int .i64 0)).run Tryd.prog w = .ok (.agg #[.int .i64 0, .int .i64 4]) w := fun _ => by kernel_rfl
  have i1 : ∀ w, (Instr.index 64 (.agg #[.int .i64 0, .int .i64 4, .int .i64 5, .int .i64 7, .int .i64 8, .int .i64 10]) (.int .i64 1)).run Tryd.prog w = .ok (.agg #[.int .i64 5, .int .i64 7]) w := fun _ => by kernel_rfl
  have i2 : ∀ w, (Instr.index 64 (.agg #[.int .i64 0, .int .i64 4, .int .i64 5, .int .i64 7, .int .i64 8, .int .i64 10]) (.int .i64 2)).run Tryd.prog w = .ok (.agg #[.int .i64 8, .int .i64 10]) w := fun _ => by kernel_rfl
  go_enter Tryd.func24, Tryd.ntmps24
  go_wp2_with (first | ((with_reducible refine gate_dst (N := 4) rfl ?_); (try (refine gate_guard (by rfl) ?_; dsimp only)); refine box_event ?hg (N := 4) ?hd (cs := #[.int .i64 0, .int .i64 0, .int .i64 0]) (t := 62) ?hr ?_; (case hd => rfl); (case hg => rfl); (case hr => first | (go_simp; done) | (go_simp; rfl)); intro gb4 hg w4 hbox hb; have BK4 := Aside0.mk hbox; have HB := Aside0.mk hb; have GE4 := Aside0.mk (Nat.le_of_eq hg.symm : w.heap.size ≤ gb4); clear hbox hb hg))
  refine wp_loop_rounds 1 ?_
  rw [rounds_succ]
  go_wp2_with (first | ((with_reducible refine gate_dst (N := 6) rfl ?_); (try (refine gate_guard (by rfl) ?_; dsimp only)); refine box_event ?hg (N := 6) ?hd (cs := #[.int .i64 0, .int .i64 0]) (t := 63) ?hr ?_; (case hd => rfl); (case hg => rfl); (case hr => first | (go_simp; done) | (go_simp; rfl)); intro gb6 hg w6 hbox hb; have m_ := Aside0.mk (below_step HB.out hb); have GE6 := Aside0.mk (Nat.le_trans (below_size HB.out) (Nat.le_of_eq hg.symm) : w.heap.size ≤ gb6); clear HB; have HB := m_; clear m_; have hc6_0 : w6.cell? ⟨gb6, 0, none⟩ = some (.int .i64 0) := (blk_cell hbox 0).trans rfl; have hc6_1 : w6.cell? ⟨gb6, 1, none⟩ = some (.int .i64 0) := (blk_cell hbox 1).trans rfl; have hf6_0 := blk_frozen hbox 0; have hf6_1 := blk_frozen hbox 1; clear hbox hb hg))
  go_ret2
  exact ⟨by simp [errW_some], by repeat (first | exact HB.out | refine below_set ?_ GE6.out)⟩
set_option maxHeartbeats 8000000 in
theorem read_num (k : Nat) (a0 : ByteArray) (hs : a0.size = 10) (n c : Int) (v0 v1 v2 : Int) (e0 : atoiV (a0.extract 0 4).data.toList = v0) (e1 : atoiV (a0.extract 5 7).data.toList = v1) (e2 : atoiV (a0.extract 8 10).data.toList = v2) (hN : date_Civil_Number.f k v0 v1 v2 = some (n, some c)) (w : World) (hG : Go.Proofs.YtdkdjikfhclmaaaDoor.M.Laid w) :
    Calls Tryd.prog 24 #[.string a0] w fun e w' => e = .returned (.tuple #[.int .i32 0, errW (some 15)]) ∧ Below w.heap.size w w' := by
  have E0 := Aside0.mk e0
  have E1 := Aside0.mk e1
  have E2 := Aside0.mk e2
  clear e0 e1 e2
  have i0 : ∀ w, (Instr.index 64 (.agg #[.int .i64 0, .int .i64 4, .int .i64 5, .int .i64 7, .int .i64 8, .int .i64 10]) (.int .i64 0)).run Tryd.prog w = .ok (.agg #[.int .i64 0, .int .i64 4]) w := fun _ => by kernel_rfl
  have i1 : ∀ w, (Instr.index 64 (.agg #[.int .i64 0, .int .i64 4, .int .i64 5, .int .i64 7, .int .i64 8, .int .i64 10]) (.int .i64 1)).run Tryd.prog w = .ok (.agg #[.int .i64 5, .int .i64 7]) w := fun _ => by kernel_rfl
  have i2 : ∀ w, (Instr.index 64 (.agg #[.int .i64 0, .int .i64 4, .int .i64 5, .int .i64 7, .int .i64 8, .int .i64 10]) (.int .i64 2)).run Tryd.prog w = .ok (.agg #[.int .i64 8, .int .i64 10]) w := fun _ => by kernel_rfl
  have HG := Aside0.mk hG
  clear hG
  have HN := Aside0.mk hN
  clear hN
  go_enter Tryd.func24, Tryd.ntmps24
  go_wp2_with (first | ((with_reducible refine gate_dst (N := 4) rfl ?_); (try (refine gate_guard (by rfl) ?_; dsimp only)); refine box_event ?hg (N := 4) ?hd (cs := #[.int .i64 0, .int .i64 0, .int .i64 0]) (t := 62) ?hr ?_; (case hd => rfl); (case hg => rfl); (case hr => first | (go_simp; done) | (go_simp; rfl)); intro gb4 hg w4 hbox hb; have BK4 := Aside0.mk hbox; have HB := Aside0.mk hb; have GE4 := Aside0.mk (Nat.le_of_eq hg.symm : w.heap.size ≤ gb4); clear hbox hb hg))
  refine wp_loop_rounds 4 ?_
  rw [rounds_succ]
  go_wp2_with (first | ((with_reducible refine gate_dst (N := 6) rfl ?_); (try (refine gate_guard (by rfl) ?_; dsimp only)); refine box_event ?hg (N := 6) ?hd (cs := #[.int .i64 0, .int .i64 0]) (t := 63) ?hr ?_; (case hd => rfl); (case hg => rfl); (case hr => first | (go_simp; done) | (go_simp; rfl)); intro gb6_0 hg w6_0 hbox hb; have n0_ := Aside0.mk (blk_below (BK4.out) hb); have m_ := Aside0.mk (below_step (HB.out) hb); have NE := Aside0.mk (by rw [hg]; exact Nat.ne_of_lt (blk_lt (BK4.out)) : gb4 ≠ gb6_0); have GE6 := Aside0.mk (Nat.le_trans (below_size (HB.out)) (Nat.le_of_eq hg.symm) : w.heap.size ≤ gb6_0); clear BK4 HB; have BK4 := n0_; have HB := m_; clear n0_ m_; have hc6_0 : w6_0.cell? ⟨gb6_0, 0, none⟩ = some (.int .i64 0) := (blk_cell hbox 0).trans rfl; have hc6_1 : w6_0.cell? ⟨gb6_0, 1, none⟩ = some (.int .i64 0) := (blk_cell hbox 1).trans rfl; have hf6_0 := blk_frozen hbox 0; have hf6_1 := blk_frozen hbox 1; clear hbox hb hg) | (go_at_call 28; (with_reducible refine (atoi_at (a0.extract 0 4) v0 E0.out (by first | (simp [ByteArray.size_extract]; done) | (simp [ByteArray.size_extract]; omega)) _ (Go.Proofs.YtdkdjikfhclmaaaDoor.M.Laid.below HG.out (below_set (below_set HB.out GE6.out) GE6.out))).mono ?_); rintro e w7_0 ⟨⟨ev0, rfl⟩, hb⟩; have n0_ := Aside0.mk (blk_below (blk_far (blk_far BK4.out (p := ⟨gb6_0, 0, none⟩) NE.out _) (p := ⟨gb6_0, 1, none⟩) NE.out _) hb); have m_ := Aside0.mk (below_step (below_set (below_set HB.out GE6.out) GE6.out) hb); clear BK4 HB; have BK4 := n0_; have HB := m_; clear n0_ m_ hc6_0 hc6_1 hf6_0 hf6_1; have hc4_0 : w7_0.cell? ⟨gb4, 0, none⟩ = some (.int .i64 0) := (blk_cell BK4.out 0).trans rfl; have hf4_0 := blk_frozen BK4.out 0; have hc4_1 : w7_0.cell? ⟨gb4, 1, none⟩ = some (.int .i64 0) := (blk_cell BK4.out 1).trans rfl; have hf4_1 := blk_frozen BK4.out 1; have hc4_2 : w7_0.cell? ⟨gb4, 2, none⟩ = some (.int .i64 0) := (blk_cell BK4.out 2).trans rfl; have hf4_2 := blk_frozen BK4.out 2; clear hb NE GE6))
  rw [rounds_succ]
  go_wp2_with (first | ((with_reducible refine gate_dst (N := 6) rfl ?_); (try (refine gate_guard (by rfl) ?_; dsimp only)); refine box_event ?hg (N := 6) ?hd (cs := #[.int .i64 0, .int .i64 0]) (t := 63) ?hr ?_; (case hd => rfl); (case hg => rfl); (case hr => first | (go_simp; done) | (go_simp; rfl)); intro gb6_1 hg w6_1 hbox hb; have n0_ := Aside0.mk (blk_below (blk_put (cs' := #[.int .i64 v0, .int .i64 0, .int .i64 0]) BK4.out 0 (.int .i64 v0) rfl) hb); have m_ := Aside0.mk (below_step (below_set HB.out GE4.out) hb); have NE := Aside0.mk (by rw [hg]; exact Nat.ne_of_lt (blk_lt (blk_put (cs' := #[.int .i64 v0, .int .i64 0, .int .i64 0]) BK4.out 0 (.int .i64 v0) rfl)) : gb4 ≠ gb6_1); have GE6 := Aside0.mk (Nat.le_trans (below_size (below_set HB.out GE4.out)) (Nat.le_of_eq hg.symm) : w.heap.size ≤ gb6_1); clear BK4 HB; have BK4 := n0_; have HB := m_; clear n0_ m_; have hc6_0 : w6_1.cell? ⟨gb6_1, 0, none⟩ = some (.int .i64 0) := (blk_cell hbox 0).trans rfl; have hc6_1 : w6_1.cell? ⟨gb6_1, 1, none⟩ = some (.int .i64 0) := (blk_cell hbox 1).trans rfl; have hf6_0 := blk_frozen hbox 0; have hf6_1 := blk_frozen hbox 1; clear hbox hb hg) | (go_at_call 28; (with_reducible refine (atoi_at (a0.extract 5 7) v1 E1.out (by first | (simp [ByteArray.size_extract]; done) | (simp [ByteArray.size_extract]; omega)) _ (Go.Proofs.YtdkdjikfhclmaaaDoor.M.Laid.below HG.out (below_set (below_set HB.out GE6.out) GE6.out))).mono ?_); rintro e w7_1 ⟨⟨ev1, rfl⟩, hb⟩; have n0_ := Aside0.mk (blk_below (blk_far (blk_far BK4.out (p := ⟨gb6_1, 0, none⟩) NE.out _) (p := ⟨gb6_1, 1, none⟩) NE.out _) hb); have m_ := Aside0.mk (below_step (below_set (below_set HB.out GE6.out) GE6.out) hb); clear BK4 HB; have BK4 := n0_; have HB := m_; clear n0_ m_ hc6_0 hc6_1 hf6_0 hf6_1; have hc4_0 : w7_1.cell? ⟨gb4, 0, none⟩ = some (.int .i64 v0) := (blk_cell BK4.out 0).trans rfl; have hf4_0 := blk_frozen BK4.out 0; have hc4_1 : w7_1.cell? ⟨gb4, 1, none⟩ = some (.int .i64 0) := (blk_cell BK4.out 1).trans rfl; have hf4_1 := blk_frozen BK4.out 1; have hc4_2 : w7_1.cell? ⟨gb4, 2, none⟩ = some (.int .i64 0) := (blk_cell BK4.out 2).trans rfl; have hf4_2 := blk_frozen BK4.out 2; clear hb NE GE6))
  rw [rounds_succ]
  go_wp2_with (first | ((with_reducible refine gate_dst (N := 6) rfl ?_); (try (refine gate_guard (by rfl) ?_; dsimp only)); refine box_event ?hg (N := 6) ?hd (cs := #[.int .i64 0, .int .i64 0]) (t := 63) ?hr ?_; (case hd => rfl); (case hg => rfl); (case hr => first | (go_simp; done) | (go_simp; rfl)); intro gb6_2 hg w6_2 hbox hb; have n0_ := Aside0.mk (blk_below (blk_put (cs' := #[.int .i64 v0, .int .i64 v1, .int .i64 0]) BK4.out 1 (.int .i64 v1) rfl) hb); have m_ := Aside0.mk (below_step (below_set HB.out GE4.out) hb); have NE := Aside0.mk (by rw [hg]; exact Nat.ne_of_lt (blk_lt (blk_put (cs' := #[.int .i64 v0, .int .i64 v1, .int .i64 0]) BK4.out 1 (.int .i64 v1) rfl)) : gb4 ≠ gb6_2); have GE6 := Aside0.mk (Nat.le_trans (below_size (below_set HB.out GE4.out)) (Nat.le_of_eq hg.symm) : w.heap.size ≤ gb6_2); clear BK4 HB; have BK4 := n0_; have HB := m_; clear n0_ m_; have hc6_0 : w6_2.cell? ⟨gb6_2, 0, none⟩ = some (.int .i64 0) := (blk_cell hbox 0).trans rfl; have hc6_1 : w6_2.cell? ⟨gb6_2, 1, none⟩ = some (.int .i64 0) := (blk_cell hbox 1).trans rfl; have hf6_0 := blk_frozen hbox 0; have hf6_1 := blk_frozen hbox 1; clear hbox hb hg) | (go_at_call 28; (with_reducible refine (atoi_at (a0.extract 8 10) v2 E2.out (by first | (simp [ByteArray.size_extract]; done) | (simp [ByteArray.size_extract]; omega)) _ (Go.Proofs.YtdkdjikfhclmaaaDoor.M.Laid.below HG.out (below_set (below_set HB.out GE6.out) GE6.out))).mono ?_); rintro e w7_2 ⟨⟨ev2, rfl⟩, hb⟩; have n0_ := Aside0.mk (blk_below (blk_far (blk_far BK4.out (p := ⟨gb6_2, 0, none⟩) NE.out _) (p := ⟨gb6_2, 1, none⟩) NE.out _) hb); have m_ := Aside0.mk (below_step (below_set (below_set HB.out GE6.out) GE6.out) hb); clear BK4 HB; have BK4 := n0_; have HB := m_; clear n0_ m_ hc6_0 hc6_1 hf6_0 hf6_1; have hc4_0 : w7_2.cell? ⟨gb4, 0, none⟩ = some (.int .i64 v0) := (blk_cell BK4.out 0).trans rfl; have hf4_0 := blk_frozen BK4.out 0; have hc4_1 : w7_2.cell? ⟨gb4, 1, none⟩ = some (.int .i64 v1) := (blk_cell BK4.out 1).trans rfl; have hf4_1 := blk_frozen BK4.out 1; have hc4_2 : w7_2.cell? ⟨gb4, 2, none⟩ = some (.int .i64 0) := (blk_cell BK4.out 2).trans rfl; have hf4_2 := blk_frozen BK4.out 2; clear hb NE GE6))
  rw [rounds_succ]
  go_wp2_with (first | (go_at_call 29; (with_reducible refine (date_Civil_Number.calls k _ _ _ n (some c) _ HN.out).mono ?_); rintro e w8 ⟨rfl, hb⟩; have m_ := Aside0.mk (below_step (below_set HB.out GE4.out) hb); clear HB; have HB := m_; clear m_ hb; simp only [errW_none, errW_some]))
  go_ret2
  exact ⟨by simp [errW_some], HB.out⟩
set_option maxHeartbeats 8000000 in
theorem read_yes (k : Nat) (a0 : ByteArray) (hs : a0.size = 10) (n : Int) (t : ByteArray) (v0 v1 v2 : Int) (e0 : atoiV (a0.extract 0 4).data.toList = v0) (e1 : atoiV (a0.extract 5 7).data.toList = v1) (e2 : atoiV (a0.extract 8 10).data.toList = v2) (hN : date_Civil_Number.f k v0 v1 v2 = some (n, none)) (hT : date_Day_Text.f k n = some t) (ht : (t.toList == a0.toList) = true) (w : World) (hG : Go.Proofs.YtdkdjikfhclmaaaDoor.M.Laid w) :
    Calls Tryd.prog 24 #[.string a0] w fun e w' => e = .returned (.tuple #[.int .i32 n, errW none]) ∧ Below w.heap.size w w' := by
  have E0 := Aside0.mk e0
  have E1 := Aside0.mk e1
  have E2 := Aside0.mk e2
  clear e0 e1 e2
  have i0 : ∀ w, (Instr.index 64 (.agg #[.int .i64 0, .int .i64 4, .int .i64 5, .int .i64 7, .int .i64 8, .int .i64 10]) (.int .i64 0)).run Tryd.prog w = .ok (.agg #[.int .i64 0, .int .i64 4]) w := fun _ => by kernel_rfl
  have i1 : ∀ w, (Instr.index 64 (.agg #[.int .i64 0, .int .i64 4, .int .i64 5, .int .i64 7, .int .i64 8, .int .i64 10]) (.int .i64 1)).run Tryd.prog w = .ok (.agg #[.int .i64 5, .int .i64 7]) w := fun _ => by kernel_rfl
  have i2 : ∀ w, (Instr.index 64 (.agg #[.int .i64 0, .int .i64 4, .int .i64 5, .int .i64 7, .int .i64 8, .int .i64 10]) (.int .i64 2)).run Tryd.prog w = .ok (.agg #[.int .i64 8, .int .i64 10]) w := fun _ => by kernel_rfl
  have HG := Aside0.mk hG
  clear hG
  have HN := Aside0.mk hN
  clear hN
  have HT := Aside0.mk hT
  clear hT
  go_enter Tryd.func24, Tryd.ntmps24
  go_wp2_with (first | ((with_reducible refine gate_dst (N := 4) rfl ?_); (try (refine gate_guard (by rfl) ?_; dsimp only)); refine box_event ?hg (N := 4) ?hd (cs := #[.int .i64 0, .int .i64 0, .int .i64 0]) (t := 62) ?hr ?_; (case hd => rfl); (case hg => rfl); (case hr => first | (go_simp; done) | (go_simp; rfl)); intro gb4 hg w4 hbox hb; have BK4 := Aside0.mk hbox; have HB := Aside0.mk hb; have GE4 := Aside0.mk (Nat.le_of_eq hg.symm : w.heap.size ≤ gb4); clear hbox hb hg))
  refine wp_loop_rounds 4 ?_
  rw [rounds_succ]
  go_wp2_with (first | ((with_reducible refine gate_dst (N := 6) rfl ?_); (try (refine gate_guard (by rfl) ?_; dsimp only)); refine box_event ?hg (N := 6) ?hd (cs := #[.int .i64 0, .int .i64 0]) (t := 63) ?hr ?_; (case hd => rfl); (case hg => rfl); (case hr => first | (go_simp; done) | (go_simp; rfl)); intro gb6_0 hg w6_0 hbox hb; have n0_ := Aside0.mk (blk_below (BK4.out) hb); have m_ := Aside0.mk (below_step (HB.out) hb); have NE := Aside0.mk (by rw [hg]; exact Nat.ne_of_lt (blk_lt (BK4.out)) : gb4 ≠ gb6_0); have GE6 := Aside0.mk (Nat.le_trans (below_size (HB.out)) (Nat.le_of_eq hg.symm) : w.heap.size ≤ gb6_0); clear BK4 HB; have BK4 := n0_; have HB := m_; clear n0_ m_; have hc6_0 : w6_0.cell? ⟨gb6_0, 0, none⟩ = some (.int .i64 0) := (blk_cell hbox 0).trans rfl; have hc6_1 : w6_0.cell? ⟨gb6_0, 1, none⟩ = some (.int .i64 0) := (blk_cell hbox 1).trans rfl; have hf6_0 := blk_frozen hbox 0; have hf6_1 := blk_frozen hbox 1; clear hbox hb hg) | (go_at_call 28; (with_reducible refine (atoi_at (a0.extract 0 4) v0 E0.out (by first | (simp [ByteArray.size_extract]; done) | (simp [ByteArray.size_extract]; omega)) _ (Go.Proofs.YtdkdjikfhclmaaaDoor.M.Laid.below HG.out (below_set (below_set HB.out GE6.out) GE6.out))).mono ?_); rintro e w7_0 ⟨⟨ev0, rfl⟩, hb⟩; have n0_ := Aside0.mk (blk_below (blk_far (blk_far BK4.out (p := ⟨gb6_0, 0, none⟩) NE.out _) (p := ⟨gb6_0, 1, none⟩) NE.out _) hb); have m_ := Aside0.mk (below_step (below_set (below_set HB.out GE6.out) GE6.out) hb); clear BK4 HB; have BK4 := n0_; have HB := m_; clear n0_ m_ hc6_0 hc6_1 hf6_0 hf6_1; have hc4_0 : w7_0.cell? ⟨gb4, 0, none⟩ = some (.int .i64 0) := (blk_cell BK4.out 0).trans rfl; have hf4_0 := blk_frozen BK4.out 0; have hc4_1 : w7_0.cell? ⟨gb4, 1, none⟩ = some (.int .i64 0) := (blk_cell BK4.out 1).trans rfl; have hf4_1 := blk_frozen BK4.out 1; have hc4_2 : w7_0.cell? ⟨gb4, 2, none⟩ = some (.int .i64 0) := (blk_cell BK4.out 2).trans rfl; have hf4_2 := blk_frozen BK4.out 2; clear hb NE GE6))
  rw [rounds_succ]
  go_wp2_with (first | ((with_reducible refine gate_dst (N := 6) rfl ?_); (try (refine gate_guard (by rfl) ?_; dsimp only)); refine box_event ?hg (N := 6) ?hd (cs := #[.int .i64 0, .int .i64 0]) (t := 63) ?hr ?_; (case hd => rfl); (case hg => rfl); (case hr => first | (go_simp; done) | (go_simp; rfl)); intro gb6_1 hg w6_1 hbox hb; have n0_ := Aside0.mk (blk_below (blk_put (cs' := #[.int .i64 v0, .int .i64 0, .int .i64 0]) BK4.out 0 (.int .i64 v0) rfl) hb); have m_ := Aside0.mk (below_step (below_set HB.out GE4.out) hb); have NE := Aside0.mk (by rw [hg]; exact Nat.ne_of_lt (blk_lt (blk_put (cs' := #[.int .i64 v0, .int .i64 0, .int .i64 0]) BK4.out 0 (.int .i64 v0) rfl)) : gb4 ≠ gb6_1); have GE6 := Aside0.mk (Nat.le_trans (below_size (below_set HB.out GE4.out)) (Nat.le_of_eq hg.symm) : w.heap.size ≤ gb6_1); clear BK4 HB; have BK4 := n0_; have HB := m_; clear n0_ m_; have hc6_0 : w6_1.cell? ⟨gb6_1, 0, none⟩ = some (.int .i64 0) := (blk_cell hbox 0).trans rfl; have hc6_1 : w6_1.cell? ⟨gb6_1, 1, none⟩ = some (.int .i64 0) := (blk_cell hbox 1).trans rfl; have hf6_0 := blk_frozen hbox 0; have hf6_1 := blk_frozen hbox 1; clear hbox hb hg) | (go_at_call 28; (with_reducible refine (atoi_at (a0.extract 5 7) v1 E1.out (by first | (simp [ByteArray.size_extract]; done) | (simp [ByteArray.size_extract]; omega)) _ (Go.Proofs.YtdkdjikfhclmaaaDoor.M.Laid.below HG.out (below_set (below_set HB.out GE6.out) GE6.out))).mono ?_); rintro e w7_1 ⟨⟨ev1, rfl⟩, hb⟩; have n0_ := Aside0.mk (blk_below (blk_far (blk_far BK4.out (p := ⟨gb6_1, 0, none⟩) NE.out _) (p := ⟨gb6_1, 1, none⟩) NE.out _) hb); have m_ := Aside0.mk (below_step (below_set (below_set HB.out GE6.out) GE6.out) hb); clear BK4 HB; have BK4 := n0_; have HB := m_; clear n0_ m_ hc6_0 hc6_1 hf6_0 hf6_1; have hc4_0 : w7_1.cell? ⟨gb4, 0, none⟩ = some (.int .i64 v0) := (blk_cell BK4.out 0).trans rfl; have hf4_0 := blk_frozen BK4.out 0; have hc4_1 : w7_1.cell? ⟨gb4, 1, none⟩ = some (.int .i64 0) := (blk_cell BK4.out 1).trans rfl; have hf4_1 := blk_frozen BK4.out 1; have hc4_2 : w7_1.cell? ⟨gb4, 2, none⟩ = some (.int .i64 0) := (blk_cell BK4.out 2).trans rfl; have hf4_2 := blk_frozen BK4.out 2; clear hb NE GE6))
  rw [rounds_succ]
  go_wp2_with (first | ((with_reducible refine gate_dst (N := 6) rfl ?_); (try (refine gate_guard (by rfl) ?_; dsimp only)); refine box_event ?hg (N := 6) ?hd (cs := #[.int .i64 0, .int .i64 0]) (t := 63) ?hr ?_; (case hd => rfl); (case hg => rfl); (case hr => first | (go_simp; done) | (go_simp; rfl)); intro gb6_2 hg w6_2 hbox hb; have n0_ := Aside0.mk (blk_below (blk_put (cs' := #[.int .i64 v0, .int .i64 v1, .int .i64 0]) BK4.out 1 (.int .i64 v1) rfl) hb); have m_ := Aside0.mk (below_step (below_set HB.out GE4.out) hb); have NE := Aside0.mk (by rw [hg]; exact Nat.ne_of_lt (blk_lt (blk_put (cs' := #[.int .i64 v0, .int .i64 v1, .int .i64 0]) BK4.out 1 (.int .i64 v1) rfl)) : gb4 ≠ gb6_2); have GE6 := Aside0.mk (Nat.le_trans (below_size (below_set HB.out GE4.out)) (Nat.le_of_eq hg.symm) : w.heap.size ≤ gb6_2); clear BK4 HB; have BK4 := n0_; have HB := m_; clear n0_ m_; have hc6_0 : w6_2.cell? ⟨gb6_2, 0, none⟩ = some (.int .i64 0) := (blk_cell hbox 0).trans rfl; have hc6_1 : w6_2.cell? ⟨gb6_2, 1, none⟩ = some (.int .i64 0) := (blk_cell hbox 1).trans rfl; have hf6_0 := blk_frozen hbox 0; have hf6_1 := blk_frozen hbox 1; clear hbox hb hg) | (go_at_call 28; (with_reducible refine (atoi_at (a0.extract 8 10) v2 E2.out (by first | (simp [ByteArray.size_extract]; done) | (simp [ByteArray.size_extract]; omega)) _ (Go.Proofs.YtdkdjikfhclmaaaDoor.M.Laid.below HG.out (below_set (below_set HB.out GE6.out) GE6.out))).mono ?_); rintro e w7_2 ⟨⟨ev2, rfl⟩, hb⟩; have n0_ := Aside0.mk (blk_below (blk_far (blk_far BK4.out (p := ⟨gb6_2, 0, none⟩) NE.out _) (p := ⟨gb6_2, 1, none⟩) NE.out _) hb); have m_ := Aside0.mk (below_step (below_set (below_set HB.out GE6.out) GE6.out) hb); clear BK4 HB; have BK4 := n0_; have HB := m_; clear n0_ m_ hc6_0 hc6_1 hf6_0 hf6_1; have hc4_0 : w7_2.cell? ⟨gb4, 0, none⟩ = some (.int .i64 v0) := (blk_cell BK4.out 0).trans rfl; have hf4_0 := blk_frozen BK4.out 0; have hc4_1 : w7_2.cell? ⟨gb4, 1, none⟩ = some (.int .i64 v1) := (blk_cell BK4.out 1).trans rfl; have hf4_1 := blk_frozen BK4.out 1; have hc4_2 : w7_2.cell? ⟨gb4, 2, none⟩ = some (.int .i64 0) := (blk_cell BK4.out 2).trans rfl; have hf4_2 := blk_frozen BK4.out 2; clear hb NE GE6))
  rw [rounds_succ]
  go_wp2_with (first | (go_at_call 29; (with_reducible refine (date_Civil_Number.calls k _ _ _ n none _ HN.out).mono ?_); rintro e w8 ⟨rfl, hb⟩; have m_ := Aside0.mk (below_step (below_set HB.out GE4.out) hb); clear HB; have HB := m_; clear m_ hb; simp only [errW_none, errW_some]) | (go_at_call 30; (with_reducible refine (date_Day_Text.calls k _ _ _ (Go.Proofs.YtdkdjikfhclmaaaDoor.M.Laid.below HG.out HB.out) HT.out).mono ?_); rintro e w9 ⟨rfl, hb⟩; have m_ := Aside0.mk (below_step HB.out hb); clear HB; have HB := m_; clear m_ hb))
  go_ret2
  exact ⟨by simp [errW_some, errW_none], HB.out⟩
set_option maxHeartbeats 8000000 in
theorem read_no (k : Nat) (a0 : ByteArray) (hs : a0.size = 10) (n : Int) (t : ByteArray) (v0 v1 v2 : Int) (e0 : atoiV (a0.extract 0 4).data.toList = v0) (e1 : atoiV (a0.extract 5 7).data.toList = v1) (e2 : atoiV (a0.extract 8 10).data.toList = v2) (hN : date_Civil_Number.f k v0 v1 v2 = some (n, none)) (hT : date_Day_Text.f k n = some t) (ht : (t.toList == a0.toList) = false) (w : World) (hG : Go.Proofs.YtdkdjikfhclmaaaDoor.M.Laid w) :
    Calls Tryd.prog 24 #[.string a0] w fun e w' => e = .returned (.tuple #[.int .i32 0, errW (some 15)]) ∧ Below w.heap.size w w' := by
  have E0 := Aside0.mk e0
  have E1 := Aside0.mk e1
  have E2 := Aside0.mk e2
  clear e0 e1 e2
  have i0 : ∀ w, (Instr.index 64 (.agg #[.int .i64 0, .int .i64 4, .int .i64 5, .int .i64 7, .int .i64 8, .int .i64 10]) (.int .i64 0)).run Tryd.prog w = .ok (.agg #[.int .i64 0, .int .i64 4]) w := fun _ => by kernel_rfl
  have i1 : ∀ w, (Instr.index 64 (.agg #[.int .i64 0, .int .i64 4, .int .i64 5, .int .i64 7, .int .i64 8, .int .i64 10]) (.int .i64 1)).run Tryd.prog w = .ok (.agg #[.int .i64 5, .int .i64 7]) w := fun _ => by kernel_rfl
  have i2 : ∀ w, (Instr.index 64 (.agg #[.int .i64 0, .int .i64 4, .int .i64 5, .int .i64 7, .int .i64 8, .int .i64 10]) (.int .i64 2)).run Tryd.prog w = .ok (.agg #[.int .i64 8, .int .i64 10]) w := fun _ => by kernel_rfl
  have HG := Aside0.mk hG
  clear hG
  have HN := Aside0.mk hN
  clear hN
  have HT := Aside0.mk hT
  clear hT
  go_enter Tryd.func24, Tryd.ntmps24
  go_wp2_with (first | ((with_reducible refine gate_dst (N := 4) rfl ?_); (try (refine gate_guard (by rfl) ?_; dsimp only)); refine box_event ?hg (N := 4) ?hd (cs := #[.int .i64 0, .int .i64 0, .int .i64 0]) (t := 62) ?hr ?_; (case hd => rfl); (case hg => rfl); (case hr => first | (go_simp; done) | (go_simp; rfl)); intro gb4 hg w4 hbox hb; have BK4 := Aside0.mk hbox; have HB := Aside0.mk hb; have GE4 := Aside0.mk (Nat.le_of_eq hg.symm : w.heap.size ≤ gb4); clear hbox hb hg))
  refine wp_loop_rounds 4 ?_
  rw [rounds_succ]
  go_wp2_with (first | ((with_reducible refine gate_dst (N := 6) rfl ?_); (try (refine gate_guard (by rfl) ?_; dsimp only)); refine box_event ?hg (N := 6) ?hd (cs := #[.int .i64 0, .int .i64 0]) (t := 63) ?hr ?_; (case hd => rfl); (case hg => rfl); (case hr => first | (go_simp; done) | (go_simp; rfl)); intro gb6_0 hg w6_0 hbox hb; have n0_ := Aside0.mk (blk_below (BK4.out) hb); have m_ := Aside0.mk (below_step (HB.out) hb); have NE := Aside0.mk (by rw [hg]; exact Nat.ne_of_lt (blk_lt (BK4.out)) : gb4 ≠ gb6_0); have GE6 := Aside0.mk (Nat.le_trans (below_size (HB.out)) (Nat.le_of_eq hg.symm) : w.heap.size ≤ gb6_0); clear BK4 HB; have BK4 := n0_; have HB := m_; clear n0_ m_; have hc6_0 : w6_0.cell? ⟨gb6_0, 0, none⟩ = some (.int .i64 0) := (blk_cell hbox 0).trans rfl; have hc6_1 : w6_0.cell? ⟨gb6_0, 1, none⟩ = some (.int .i64 0) := (blk_cell hbox 1).trans rfl; have hf6_0 := blk_frozen hbox 0; have hf6_1 := blk_frozen hbox 1; clear hbox hb hg) | (go_at_call 28; (with_reducible refine (atoi_at (a0.extract 0 4) v0 E0.out (by first | (simp [ByteArray.size_extract]; done) | (simp [ByteArray.size_extract]; omega)) _ (Go.Proofs.YtdkdjikfhclmaaaDoor.M.Laid.below HG.out (below_set (below_set HB.out GE6.out) GE6.out))).mono ?_); rintro e w7_0 ⟨⟨ev0, rfl⟩, hb⟩; have n0_ := Aside0.mk (blk_below (blk_far (blk_far BK4.out (p := ⟨gb6_0, 0, none⟩) NE.out _) (p := ⟨gb6_0, 1, none⟩) NE.out _) hb); have m_ := Aside0.mk (below_step (below_set (below_set HB.out GE6.out) GE6.out) hb); clear BK4 HB; have BK4 := n0_; have HB := m_; clear n0_ m_ hc6_0 hc6_1 hf6_0 hf6_1; have hc4_0 : w7_0.cell? ⟨gb4, 0, none⟩ = some (.int .i64 0) := (blk_cell BK4.out 0).trans rfl; have hf4_0 := blk_frozen BK4.out 0; have hc4_1 : w7_0.cell? ⟨gb4, 1, none⟩ = some (.int .i64 0) := (blk_cell BK4.out 1).trans rfl; have hf4_1 := blk_frozen BK4.out 1; have hc4_2 : w7_0.cell? ⟨gb4, 2, none⟩ = some (.int .i64 0) := (blk_cell BK4.out 2).trans rfl; have hf4_2 := blk_frozen BK4.out 2; clear hb NE GE6))
  rw [rounds_succ]
  go_wp2_with (first | ((with_reducible refine gate_dst (N := 6) rfl ?_); (try (refine gate_guard (by rfl) ?_; dsimp only)); refine box_event ?hg (N := 6) ?hd (cs := #[.int .i64 0, .int .i64 0]) (t := 63) ?hr ?_; (case hd => rfl); (case hg => rfl); (case hr => first | (go_simp; done) | (go_simp; rfl)); intro gb6_1 hg w6_1 hbox hb; have n0_ := Aside0.mk (blk_below (blk_put (cs' := #[.int .i64 v0, .int .i64 0, .int .i64 0]) BK4.out 0 (.int .i64 v0) rfl) hb); have m_ := Aside0.mk (below_step (below_set HB.out GE4.out) hb); have NE := Aside0.mk (by rw [hg]; exact Nat.ne_of_lt (blk_lt (blk_put (cs' := #[.int .i64 v0, .int .i64 0, .int .i64 0]) BK4.out 0 (.int .i64 v0) rfl)) : gb4 ≠ gb6_1); have GE6 := Aside0.mk (Nat.le_trans (below_size (below_set HB.out GE4.out)) (Nat.le_of_eq hg.symm) : w.heap.size ≤ gb6_1); clear BK4 HB; have BK4 := n0_; have HB := m_; clear n0_ m_; have hc6_0 : w6_1.cell? ⟨gb6_1, 0, none⟩ = some (.int .i64 0) := (blk_cell hbox 0).trans rfl; have hc6_1 : w6_1.cell? ⟨gb6_1, 1, none⟩ = some (.int .i64 0) := (blk_cell hbox 1).trans rfl; have hf6_0 := blk_frozen hbox 0; have hf6_1 := blk_frozen hbox 1; clear hbox hb hg) | (go_at_call 28; (with_reducible refine (atoi_at (a0.extract 5 7) v1 E1.out (by first | (simp [ByteArray.size_extract]; done) | (simp [ByteArray.size_extract]; omega)) _ (Go.Proofs.YtdkdjikfhclmaaaDoor.M.Laid.below HG.out (below_set (below_set HB.out GE6.out) GE6.out))).mono ?_); rintro e w7_1 ⟨⟨ev1, rfl⟩, hb⟩; have n0_ := Aside0.mk (blk_below (blk_far (blk_far BK4.out (p := ⟨gb6_1, 0, none⟩) NE.out _) (p := ⟨gb6_1, 1, none⟩) NE.out _) hb); have m_ := Aside0.mk (below_step (below_set (below_set HB.out GE6.out) GE6.out) hb); clear BK4 HB; have BK4 := n0_; have HB := m_; clear n0_ m_ hc6_0 hc6_1 hf6_0 hf6_1; have hc4_0 : w7_1.cell? ⟨gb4, 0, none⟩ = some (.int .i64 v0) := (blk_cell BK4.out 0).trans rfl; have hf4_0 := blk_frozen BK4.out 0; have hc4_1 : w7_1.cell? ⟨gb4, 1, none⟩ = some (.int .i64 0) := (blk_cell BK4.out 1).trans rfl; have hf4_1 := blk_frozen BK4.out 1; have hc4_2 : w7_1.cell? ⟨gb4, 2, none⟩ = some (.int .i64 0) := (blk_cell BK4.out 2).trans rfl; have hf4_2 := blk_frozen BK4.out 2; clear hb NE GE6))
  rw [rounds_succ]
  go_wp2_with (first | ((with_reducible refine gate_dst (N := 6) rfl ?_); (try (refine gate_guard (by rfl) ?_; dsimp only)); refine box_event ?hg (N := 6) ?hd (cs := #[.int .i64 0, .int .i64 0]) (t := 63) ?hr ?_; (case hd => rfl); (case hg => rfl); (case hr => first | (go_simp; done) | (go_simp; rfl)); intro gb6_2 hg w6_2 hbox hb; have n0_ := Aside0.mk (blk_below (blk_put (cs' := #[.int .i64 v0, .int .i64 v1, .int .i64 0]) BK4.out 1 (.int .i64 v1) rfl) hb); have m_ := Aside0.mk (below_step (below_set HB.out GE4.out) hb); have NE := Aside0.mk (by rw [hg]; exact Nat.ne_of_lt (blk_lt (blk_put (cs' := #[.int .i64 v0, .int .i64 v1, .int .i64 0]) BK4.out 1 (.int .i64 v1) rfl)) : gb4 ≠ gb6_2); have GE6 := Aside0.mk (Nat.le_trans (below_size (below_set HB.out GE4.out)) (Nat.le_of_eq hg.symm) : w.heap.size ≤ gb6_2); clear BK4 HB; have BK4 := n0_; have HB := m_; clear n0_ m_; have hc6_0 : w6_2.cell? ⟨gb6_2, 0, none⟩ = some (.int .i64 0) := (blk_cell hbox 0).trans rfl; have hc6_1 : w6_2.cell? ⟨gb6_2, 1, none⟩ = some (.int .i64 0) := (blk_cell hbox 1).trans rfl; have hf6_0 := blk_frozen hbox 0; have hf6_1 := blk_frozen hbox 1; clear hbox hb hg) | (go_at_call 28; (with_reducible refine (atoi_at (a0.extract 8 10) v2 E2.out (by first | (simp [ByteArray.size_extract]; done) | (simp [ByteArray.size_extract]; omega)) _ (Go.Proofs.YtdkdjikfhclmaaaDoor.M.Laid.below HG.out (below_set (below_set HB.out GE6.out) GE6.out))).mono ?_); rintro e w7_2 ⟨⟨ev2, rfl⟩, hb⟩; have n0_ := Aside0.mk (blk_below (blk_far (blk_far BK4.out (p := ⟨gb6_2, 0, none⟩) NE.out _) (p := ⟨gb6_2, 1, none⟩) NE.out _) hb); have m_ := Aside0.mk (below_step (below_set (below_set HB.out GE6.out) GE6.out) hb); clear BK4 HB; have BK4 := n0_; have HB := m_; clear n0_ m_ hc6_0 hc6_1 hf6_0 hf6_1; have hc4_0 : w7_2.cell? ⟨gb4, 0, none⟩ = some (.int .i64 v0) := (blk_cell BK4.out 0).trans rfl; have hf4_0 := blk_frozen BK4.out 0; have hc4_1 : w7_2.cell? ⟨gb4, 1, none⟩ = some (.int .i64 v1) := (blk_cell BK4.out 1).trans rfl; have hf4_1 := blk_frozen BK4.out 1; have hc4_2 : w7_2.cell? ⟨gb4, 2, none⟩ = some (.int .i64 0) := (blk_cell BK4.out 2).trans rfl; have hf4_2 := blk_frozen BK4.out 2; clear hb NE GE6))
  rw [rounds_succ]
  go_wp2_with (first | (go_at_call 29; (with_reducible refine (date_Civil_Number.calls k _ _ _ n none _ HN.out).mono ?_); rintro e w8 ⟨rfl, hb⟩; have m_ := Aside0.mk (below_step (below_set HB.out GE4.out) hb); clear HB; have HB := m_; clear m_ hb; simp only [errW_none, errW_some]) | (go_at_call 30; (with_reducible refine (date_Day_Text.calls k _ _ _ (Go.Proofs.YtdkdjikfhclmaaaDoor.M.Laid.below HG.out HB.out) HT.out).mono ?_); rintro e w9 ⟨rfl, hb⟩; have m_ := Aside0.mk (below_step HB.out hb); clear HB; have HB := m_; clear m_ hb))
  go_ret2
  exact ⟨by simp [errW_some, errW_none], HB.out⟩
theorem date_Read.calls (k : Nat) (a0 : ByteArray) (r1 : Int) (r2 : Option Int) (w : World) (hG : Go.Proofs.YtdkdjikfhclmaaaDoor.M.Laid w) (h : date_Read.f k a0 = some (r1, r2)) :
    Calls Tryd.prog 24 #[.string a0] w fun e w' => e = .returned (.tuple #[.int .i32 r1, errW r2]) ∧ Below w.heap.size w w' := by
  unfold date_Read.f at h
  by_cases hs : a0.size = 10
  · rw [if_pos hs] at h
    cases hN : date_Civil_Number.f k (atoiV (a0.extract 0 4).data.toList) (atoiV (a0.extract 5 7).data.toList) (atoiV (a0.extract 8 10).data.toList) with
    | none => rw [hN] at h; cases h
    | some x =>
      obtain ⟨n, c⟩ := x
      rw [hN] at h
      simp only [Option.bind_some] at h
      cases c with
      | some c =>
        simp only [Option.isNone_some, Bool.false_eq_true, if_false, Option.some.injEq, Prod.mk.injEq] at h
        obtain ⟨rfl, rfl⟩ := h
        exact read_num k a0 hs n c _ _ _ rfl rfl rfl hN w hG
      | none =>
        simp only [Option.isNone_none, if_true] at h
        cases hT : date_Day_Text.f k n with
        | none => rw [hT] at h; cases h
        | some t =>
          rw [hT] at h
          simp only [Option.bind_some] at h
          cases ht : (t.toList == a0.toList) with
          | true =>
            rw [ht] at h
            simp only [if_true, Option.some.injEq, Prod.mk.injEq] at h
            obtain ⟨rfl, rfl⟩ := h
            exact read_yes k a0 hs n t _ _ _ rfl rfl rfl hN hT ht w hG
          | false =>
            rw [ht] at h
            simp only [Bool.false_eq_true, if_false, Option.some.injEq, Prod.mk.injEq] at h
            obtain ⟨rfl, rfl⟩ := h
            exact read_no k a0 hs n t _ _ _ rfl rfl rfl hN hT ht w hG
  · rw [if_neg hs] at h
    simp only [Option.some.injEq, Prod.mk.injEq] at h
    obtain ⟨rfl, rfl⟩ := h
    have h1 : ((a0.size : Int) == 10) = false := by rw [beq_eq_false_iff_ne]; omega
    exact read_len a0 h1 (by rw [bne, h1]; rfl) w


/-! ### arrearslaw06_awake: function 8 -/
def arrearslaw06_awake.f (k : Nat)  : Option (Bool) := (date_Read.f k (⟨#[50, 48, 50, 51, 45, 48, 50, 45, 50, 56]⟩ : ByteArray)).bind fun bt144 => ((span_Days.f k 2 bt144.1 (wrap32 (bt144.1 + 1))).bind fun bt146 => (if bt144.2.isNone = true then (if bt146.2.isNone = true then (if bt146.1 = 3 then ((span_Year.f 1).bind fun t150 => (some (t150 == 365))) else (some false)) else (some false)) else (some false)))
theorem arrearslaw06_awake.mono : ∀ k, LeO (arrearslaw06_awake.f k ) (arrearslaw06_awake.f (k + 1) ) := by
  intro  k
  unfold arrearslaw06_awake.f
  repeat' first
      | (with_reducible exact date_Read.mono _ _)
      | (with_reducible exact span_Days.mono _ _ _ _)
      | (with_reducible exact LeO.refl _)
      | (with_reducible exact LeO.none _)
      | (with_reducible refine LeO.ite ?_ ?_)
      | (with_reducible refine LeO.bind ?_ (fun _ => ?_))
      | exact date_Read.mono _ _
      | exact span_Days.mono _ _ _ _
      | exact LeO.none _
      | refine LeO.ite ?_ ?_
      | refine LeO.bind ?_ (fun _ => ?_)
set_option maxHeartbeats 8000000 in
set_option maxRecDepth 100000 in
theorem arrearslaw06_awake.calls (k : Nat)  (r : Bool) (w : World) (hG : Go.Proofs.YtdkdjikfhclmaaaDoor.M.Laid w) (h : arrearslaw06_awake.f k  = some r) :
    Calls Tryd.prog 8 #[] w fun e w' => e = .returned (.bool r) ∧ Below w.heap.size w w' := by
  have hu28 := Tryd.underlying28
  have hu44 := Tryd.underlying44
  have HB := Aside0.mk (Below.refl w.heap.size w)
  have HG := Aside0.mk hG
  clear hG
  have H : ((date_Read.f k (⟨#[50, 48, 50, 51, 45, 48, 50, 45, 50, 56]⟩ : ByteArray)).bind fun bt144 => ((span_Days.f k 2 bt144.1 (wrap32 (bt144.1 + 1))).bind fun bt146 => (if bt144.2.isNone = true then (if bt146.2.isNone = true then (if bt146.1 = 3 then ((span_Year.f 1).bind fun t150 => (some (t150 == 365))) else (some false)) else (some false)) else (some false)))) = some r := h
  clear h
  replace H := Option.bind_eq_some_iff.mp H
  obtain ⟨⟨t144, t145⟩, A10, H⟩ := H
  replace H : ((span_Days.f k 2 t144 (wrap32 (t144 + 1))).bind fun bt146 => (if t145.isNone = true then (if bt146.2.isNone = true then (if bt146.1 = 3 then ((span_Year.f 1).bind fun t150 => (some (t150 == 365))) else (some false)) else (some false)) else (some false))) = some r := H
  have A1 := Aside0.mk A10
  clear A10
  replace H := Option.bind_eq_some_iff.mp H
  obtain ⟨⟨t146, t147⟩, A20, H⟩ := H
  replace H : (if t145.isNone = true then (if t147.isNone = true then (if t146 = 3 then ((span_Year.f 1).bind fun t150 => (some (t150 == 365))) else (some false)) else (some false)) else (some false)) = some r := H
  have A2 := Aside0.mk A20
  clear A20
  rcases t145 with _ | q148
  · have H1 : (if t147.isNone = true then (if t146 = 3 then ((span_Year.f 1).bind fun t150 => (some (t150 == 365))) else (some false)) else (some false)) = some r := by rw [if_pos (show (none : Option Int).isNone = true by rfl)] at H; exact H
    clear H
    have H := H1
    clear H1
    try simp only [errW_none, errW_some]
    rcases t147 with _ | q149
    · have H1 : (if t146 = 3 then ((span_Year.f 1).bind fun t150 => (some (t150 == 365))) else (some false)) = some r := by rw [if_pos (show (none : Option Int).isNone = true by rfl)] at H; exact H
      clear H
      have H := H1
      clear H1
      try simp only [errW_none, errW_some]
      by_cases c3 : t146 = 3
      · rw [if_pos c3] at H
        have c3b0 : (t146 == 3) = true := beq_iff_eq.mpr c3
        have c3b1 : (t146 != 3) = false := bne_eq_false_iff_eq.mpr c3
        clear c3
        replace H := Option.bind_eq_some_iff.mp H
        obtain ⟨t150, A40, H⟩ := H
        replace H : (some (t150 == 365)) = some r := H
        have A4 := Aside0.mk A40
        clear A40
        obtain rfl := Option.some.inj H
        go_enter Tryd.func8, Tryd.ntmps8
        go_wp2_with (first | ((with_reducible refine gate_callee (f := 24) rfl ?_); refine goesL_ (some 6) rfl rfl Tryd.func24 (by kernel_rfl) rfl #[.string (⟨#[50, 48, 50, 51, 45, 48, 50, 45, 50, 56]⟩ : ByteArray)] rfl (by (try simp only [List.map_toArray, List.map_cons, List.map_nil]); first | done | rfl | (simp only [List.length_drop, List.length_take]; rfl)) ?_; (with_reducible refine (date_Read.calls k (⟨#[50, 48, 50, 51, 45, 48, 50, 45, 50, 56]⟩ : ByteArray) t144 none _ ?hGL A1.out).mono ?_); (case hGL => exact Go.Proofs.YtdkdjikfhclmaaaDoor.M.Laid.below HG.out (by repeat (first | (with_reducible first | exact HB.out | apply below_alloc | apply pw_below_drewN | apply below_drew1) | exact HB.out))); rintro e w5 ⟨rfl, hb⟩; refine ⟨_, rfl, ?_⟩; have n0_ := Aside0.mk (below_step (by repeat (first | (with_reducible first | exact HB.out | apply below_alloc | apply pw_below_drewN | apply below_drew1) | exact HB.out)) hb); clear HB; have HB := n0_; clear n0_; (try clear hb); (try clear hb2); (try clear hk); (try clear hi); (try simp only [errW_none, errW_some])) | ((with_reducible refine gate_callee (f := 10) rfl ?_); refine goesL_ (some 13) rfl rfl Tryd.func10 (by kernel_rfl) rfl #[.int .u8 2, .int .i32 t144, .int .i32 (wrap32 (t144 + 1))] rfl (by (try simp only [List.map_toArray, List.map_cons, List.map_nil]); first | done | rfl | (simp only [List.length_drop, List.length_take]; rfl)) ?_; (with_reducible refine (span_Days.calls k 2 t144 (wrap32 (t144 + 1)) t146 none _ A2.out).mono ?_); rintro e w6 ⟨rfl, hb⟩; refine ⟨_, rfl, ?_⟩; have n0_ := Aside0.mk (below_step (by repeat (first | (with_reducible first | exact HB.out | apply below_alloc | apply pw_below_drewN | apply below_drew1) | exact HB.out)) hb); clear HB; have HB := n0_; clear n0_; (try clear hb); (try clear hb2); (try clear hk); (try clear hi); (try simp only [errW_none, errW_some])) | (go_at_call 17; (with_reducible refine (span_Year.calls 1 t150 _ A4.out).mono ?_); rintro e w' ⟨rfl, ⟨nd, rfl⟩⟩))
        go_ret
        exact ⟨by first | rfl | (simp [errW_none, errW_some] <;> rfl) | (simp [*, errW_none, errW_some] <;> rfl), by repeat (first | (with_reducible first | exact HB.out | apply below_alloc | apply pw_below_drewN | apply below_drew1) | exact HB.out)⟩
      · rw [if_neg c3] at H
        have c3b0 : (t146 == 3) = false := beq_eq_false_iff_ne.mpr c3
        have c3b1 : (t146 != 3) = true := bne_iff_ne.mpr c3
        obtain rfl := Option.some.inj H
        go_enter Tryd.func8, Tryd.ntmps8
        go_wp2_with (first | ((with_reducible refine gate_callee (f := 24) rfl ?_); refine goesL_ (some 6) rfl rfl Tryd.func24 (by kernel_rfl) rfl #[.string (⟨#[50, 48, 50, 51, 45, 48, 50, 45, 50, 56]⟩ : ByteArray)] rfl (by (try simp only [List.map_toArray, List.map_cons, List.map_nil]); first | done | rfl | (simp only [List.length_drop, List.length_take]; rfl)) ?_; (with_reducible refine (date_Read.calls k (⟨#[50, 48, 50, 51, 45, 48, 50, 45, 50, 56]⟩ : ByteArray) t144 none _ ?hGL A1.out).mono ?_); (case hGL => exact Go.Proofs.YtdkdjikfhclmaaaDoor.M.Laid.below HG.out (by repeat (first | (with_reducible first | exact HB.out | apply below_alloc | apply pw_below_drewN | apply below_drew1) | exact HB.out))); rintro e w7 ⟨rfl, hb⟩; refine ⟨_, rfl, ?_⟩; have n0_ := Aside0.mk (below_step (by repeat (first | (with_reducible first | exact HB.out | apply below_alloc | apply pw_below_drewN | apply below_drew1) | exact HB.out)) hb); clear HB; have HB := n0_; clear n0_; (try clear hb); (try clear hb2); (try clear hk); (try clear hi); (try simp only [errW_none, errW_some])) | ((with_reducible refine gate_callee (f := 10) rfl ?_); refine goesL_ (some 13) rfl rfl Tryd.func10 (by kernel_rfl) rfl #[.int .u8 2, .int .i32 t144, .int .i32 (wrap32 (t144 + 1))] rfl (by (try simp only [List.map_toArray, List.map_cons, List.map_nil]); first | done | rfl | (simp only [List.length_drop, List.length_take]; rfl)) ?_; (with_reducible refine (span_Days.calls k 2 t144 (wrap32 (t144 + 1)) t146 none _ A2.out).mono ?_); rintro e w8 ⟨rfl, hb⟩; refine ⟨_, rfl, ?_⟩; have n0_ := Aside0.mk (below_step (by repeat (first | (with_reducible first | exact HB.out | apply below_alloc | apply pw_below_drewN | apply below_drew1) | exact HB.out)) hb); clear HB; have HB := n0_; clear n0_; (try clear hb); (try clear hb2); (try clear hk); (try clear hi); (try simp only [errW_none, errW_some])))
        go_ret
        exact ⟨by first | rfl | (simp [errW_none, errW_some] <;> rfl) | (simp [*, errW_none, errW_some] <;> rfl), by repeat (first | (with_reducible first | exact HB.out | apply below_alloc | apply pw_below_drewN | apply below_drew1) | exact HB.out)⟩
    · have H1 : (some false) = some r := by rw [if_neg (show ¬ (some q149).isNone = true by simp)] at H; exact H
      clear H
      have H := H1
      clear H1
      try simp only [errW_none, errW_some]
      obtain rfl := Option.some.inj H
      go_enter Tryd.func8, Tryd.ntmps8
      go_wp2_with (first | ((with_reducible refine gate_callee (f := 24) rfl ?_); refine goesL_ (some 6) rfl rfl Tryd.func24 (by kernel_rfl) rfl #[.string (⟨#[50, 48, 50, 51, 45, 48, 50, 45, 50, 56]⟩ : ByteArray)] rfl (by (try simp only [List.map_toArray, List.map_cons, List.map_nil]); first | done | rfl | (simp only [List.length_drop, List.length_take]; rfl)) ?_; (with_reducible refine (date_Read.calls k (⟨#[50, 48, 50, 51, 45, 48, 50, 45, 50, 56]⟩ : ByteArray) t144 none _ ?hGL A1.out).mono ?_); (case hGL => exact Go.Proofs.YtdkdjikfhclmaaaDoor.M.Laid.below HG.out (by repeat (first | (with_reducible first | exact HB.out | apply below_alloc | apply pw_below_drewN | apply below_drew1) | exact HB.out))); rintro e w9 ⟨rfl, hb⟩; refine ⟨_, rfl, ?_⟩; have n0_ := Aside0.mk (below_step (by repeat (first | (with_reducible first | exact HB.out | apply below_alloc | apply pw_below_drewN | apply below_drew1) | exact HB.out)) hb); clear HB; have HB := n0_; clear n0_; (try clear hb); (try clear hb2); (try clear hk); (try clear hi); (try simp only [errW_none, errW_some])) | ((with_reducible refine gate_callee (f := 10) rfl ?_); refine goesL_ (some 13) rfl rfl Tryd.func10 (by kernel_rfl) rfl #[.int .u8 2, .int .i32 t144, .int .i32 (wrap32 (t144 + 1))] rfl (by (try simp only [List.map_toArray, List.map_cons, List.map_nil]); first | done | rfl | (simp only [List.length_drop, List.length_take]; rfl)) ?_; (with_reducible refine (span_Days.calls k 2 t144 (wrap32 (t144 + 1)) t146 (some q149) _ A2.out).mono ?_); rintro e w10 ⟨rfl, hb⟩; refine ⟨_, rfl, ?_⟩; have n0_ := Aside0.mk (below_step (by repeat (first | (with_reducible first | exact HB.out | apply below_alloc | apply pw_below_drewN | apply below_drew1) | exact HB.out)) hb); clear HB; have HB := n0_; clear n0_; (try clear hb); (try clear hb2); (try clear hk); (try clear hi); (try simp only [errW_none, errW_some])))
      go_ret
      exact ⟨by first | rfl | (simp [errW_none, errW_some] <;> rfl) | (simp [*, errW_none, errW_some] <;> rfl), by repeat (first | (with_reducible first | exact HB.out | apply below_alloc | apply pw_below_drewN | apply below_drew1) | exact HB.out)⟩
  · have H1 : (some false) = some r := by rw [if_neg (show ¬ (some q148).isNone = true by simp)] at H; exact H
    clear H
    have H := H1
    clear H1
    try simp only [errW_none, errW_some]
    obtain rfl := Option.some.inj H
    go_enter Tryd.func8, Tryd.ntmps8
    go_wp2_with (first | ((with_reducible refine gate_callee (f := 24) rfl ?_); refine goesL_ (some 6) rfl rfl Tryd.func24 (by kernel_rfl) rfl #[.string (⟨#[50, 48, 50, 51, 45, 48, 50, 45, 50, 56]⟩ : ByteArray)] rfl (by (try simp only [List.map_toArray, List.map_cons, List.map_nil]); first | done | rfl | (simp only [List.length_drop, List.length_take]; rfl)) ?_; (with_reducible refine (date_Read.calls k (⟨#[50, 48, 50, 51, 45, 48, 50, 45, 50, 56]⟩ : ByteArray) t144 (some q148) _ ?hGL A1.out).mono ?_); (case hGL => exact Go.Proofs.YtdkdjikfhclmaaaDoor.M.Laid.below HG.out (by repeat (first | (with_reducible first | exact HB.out | apply below_alloc | apply pw_below_drewN | apply below_drew1) | exact HB.out))); rintro e w11 ⟨rfl, hb⟩; refine ⟨_, rfl, ?_⟩; have n0_ := Aside0.mk (below_step (by repeat (first | (with_reducible first | exact HB.out | apply below_alloc | apply pw_below_drewN | apply below_drew1) | exact HB.out)) hb); clear HB; have HB := n0_; clear n0_; (try clear hb); (try clear hb2); (try clear hk); (try clear hi); (try simp only [errW_none, errW_some])) | ((with_reducible refine gate_callee (f := 10) rfl ?_); refine goesL_ (some 13) rfl rfl Tryd.func10 (by kernel_rfl) rfl #[.int .u8 2, .int .i32 t144, .int .i32 (wrap32 (t144 + 1))] rfl (by (try simp only [List.map_toArray, List.map_cons, List.map_nil]); first | done | rfl | (simp only [List.length_drop, List.length_take]; rfl)) ?_; (with_reducible refine (span_Days.calls k 2 t144 (wrap32 (t144 + 1)) t146 t147 _ A2.out).mono ?_); rintro e w12 ⟨rfl, hb⟩; refine ⟨_, rfl, ?_⟩; have n0_ := Aside0.mk (below_step (by repeat (first | (with_reducible first | exact HB.out | apply below_alloc | apply pw_below_drewN | apply below_drew1) | exact HB.out)) hb); clear HB; have HB := n0_; clear n0_; (try clear hb); (try clear hb2); (try clear hk); (try clear hi); (try simp only [errW_none, errW_some])))
    go_ret
    exact ⟨by first | rfl | (simp [errW_none, errW_some] <;> rfl) | (simp [*, errW_none, errW_some] <;> rfl), by repeat (first | (with_reducible first | exact HB.out | apply below_alloc | apply pw_below_drewN | apply below_drew1) | exact HB.out)⟩

/-! ### arrearslaw06_right: function 18 -/
def arrearslaw06_right.f (a0 : Int) : Option (Bool) := if a0 ≥ 0 then (some (decide (a0 ≤ 3652058))) else (some false)
set_option maxHeartbeats 8000000 in
set_option maxRecDepth 100000 in
theorem arrearslaw06_right.calls (a0 : Int) (r : Bool) (w : World) (h : arrearslaw06_right.f a0 = some r) :
    Calls Tryd.prog 18 #[.int .i32 a0] w fun e w' => e = .returned (.bool r) ∧ Drawn0 w w' := by
  have H : (if a0 ≥ 0 then (some (decide (a0 ≤ 3652058))) else (some false)) = some r := h
  clear h
  by_cases c2 : a0 ≥ 0
  · rw [if_pos c2] at H
    have c2b0 : decide (0 ≤ a0) = true := decide_eq_true c2
    clear c2
    obtain rfl := Option.some.inj H
    go_enter Tryd.func18, Tryd.ntmps18
    go_wp2
    go_ret
    exact ⟨by first | rfl | (simp; done) | (simp [*]; done), by repeat (first | exact Drawn0.refl _ | apply Drawn0.step)⟩
  · rw [if_neg c2] at H
    have c2b0 : decide (0 ≤ a0) = false := decide_eq_false c2
    clear c2
    obtain rfl := Option.some.inj H
    go_enter Tryd.func18, Tryd.ntmps18
    go_wp2
    go_ret
    exact ⟨by first | rfl | (simp; done) | (simp [*]; done), by repeat (first | exact Drawn0.refl _ | apply Drawn0.step)⟩

/-! ### api_Code: function 19 -/
open Go.Proofs.YtdkdjikfhclmaaaDoor.M (Laid Laid.below Laid.et as_hit)
def api_Code.f (a0 : Option Int) : Option Int := some (a0.getD 0)
set_option maxHeartbeats 8000000 in
theorem api_Code.calls (a0 : Option Int) (r : Int) (w : World) (hG : Laid w) (h : api_Code.f a0 = some r) :
    Calls Tryd.prog 19 #[errW a0] w fun e w' => e = .returned (.int .i64 r) ∧ Below w.heap.size w w' := by
  unfold api_Code.f at h
  obtain rfl := Option.some.inj h
  cases a0 with
  | none =>
    go_enter Tryd.func19, Tryd.ntmps19
    simp only [errW_none]
    go_wp2
    go_ret
    exact ⟨rfl, Below.refl _ _⟩
  | some c =>
    have hw : Laid (w.alloc (.cells #[.int .i64 0] 44)) := Laid.below hG (below_alloc (Below.refl _ _) _)
    have hit := as_hit c ⟨w.heap.size, 0, none⟩ (.int .i64 0) (w.alloc (.cells #[.int .i64 0] 44)) hw.et (by simp) (by simp)
    have HIT := Aside0.mk hit
    clear hit hw hG
    go_enter Tryd.func19, Tryd.ntmps19
    simp only [errW_some]
    go_wp2_with (go_at_call 27; refine HIT.out.mono ?_; rintro e w' ⟨rfl, rfl⟩)
    go_ret
    exact ⟨rfl, by repeat (first | exact Below.refl _ _ | apply below_alloc | apply pw_below_drewN | apply below_drew1 | (refine below_set ?_ (Nat.le_refl _)))⟩


/-! ### arrearsref05_Leap: function 12 -/
def arrearsref05_Leap.f (a0 : Int) : Option (Bool) := if a0 < 1 then (some false) else (if a0 > 9999 then (some false) else (if (Int.tmod a0 4) > 0 then (some false) else (if (Int.tmod a0 100) > 0 then (some true) else (some ((Int.tmod a0 400) == 0)))))
set_option maxHeartbeats 8000000 in
set_option maxRecDepth 100000 in
theorem arrearsref05_Leap.calls (a0 : Int) (r : Bool) (w : World) (h : arrearsref05_Leap.f a0 = some r) :
    Calls Tryd.prog 12 #[.int .i64 a0] w fun e w' => e = .returned (.bool r) ∧ Drawn0 w w' := by
  have H : (if a0 < 1 then (some false) else (if a0 > 9999 then (some false) else (if (Int.tmod a0 4) > 0 then (some false) else (if (Int.tmod a0 100) > 0 then (some true) else (some ((Int.tmod a0 400) == 0)))))) = some r := h
  clear h
  by_cases c2 : a0 < 1
  · rw [if_pos c2] at H
    have c2b0 : decide (a0 < 1) = true := decide_eq_true c2
    clear c2
    obtain rfl := Option.some.inj H
    go_enter Tryd.func12, Tryd.ntmps12
    go_wp2
    go_ret
    exact ⟨by first | rfl | (simp; done) | (simp [*]; done), by repeat (first | exact Drawn0.refl _ | apply Drawn0.step)⟩
  · rw [if_neg c2] at H
    have c2b0 : decide (a0 < 1) = false := decide_eq_false c2
    clear c2
    by_cases c3 : a0 > 9999
    · rw [if_pos c3] at H
      have c3b0 : decide (9999 < a0) = true := decide_eq_true c3
      clear c3
      obtain rfl := Option.some.inj H
      go_enter Tryd.func12, Tryd.ntmps12
      go_wp2
      go_ret
      exact ⟨by first | rfl | (simp; done) | (simp [*]; done), by repeat (first | exact Drawn0.refl _ | apply Drawn0.step)⟩
    · rw [if_neg c3] at H
      have c3b0 : decide (9999 < a0) = false := decide_eq_false c3
      clear c3
      by_cases c4 : (Int.tmod a0 4) > 0
      · rw [if_pos c4] at H
        have c4b0 : decide (0 < (Int.tmod a0 4)) = true := decide_eq_true c4
        clear c4
        obtain rfl := Option.some.inj H
        go_enter Tryd.func12, Tryd.ntmps12
        go_wp2
        go_ret
        exact ⟨by first | rfl | (simp; done) | (simp [*]; done), by repeat (first | exact Drawn0.refl _ | apply Drawn0.step)⟩
      · rw [if_neg c4] at H
        have c4b0 : decide (0 < (Int.tmod a0 4)) = false := decide_eq_false c4
        clear c4
        by_cases c5 : (Int.tmod a0 100) > 0
        · rw [if_pos c5] at H
          have c5b0 : decide (0 < (Int.tmod a0 100)) = true := decide_eq_true c5
          clear c5
          obtain rfl := Option.some.inj H
          go_enter Tryd.func12, Tryd.ntmps12
          go_wp2
          go_ret
          exact ⟨by first | rfl | (simp; done) | (simp [*]; done), by repeat (first | exact Drawn0.refl _ | apply Drawn0.step)⟩
        · rw [if_neg c5] at H
          have c5b0 : decide (0 < (Int.tmod a0 100)) = false := decide_eq_false c5
          clear c5
          obtain rfl := Option.some.inj H
          go_enter Tryd.func12, Tryd.ntmps12
          go_wp2
          go_ret
          exact ⟨by first | rfl | (simp; done) | (simp [*]; done), by repeat (first | exact Drawn0.refl _ | apply Drawn0.step)⟩

/-! ### arrearsref05_Length: function 23 -/
def arrearsref05_Length.j0 : Nat → Int → Int → Bool → Option (Int)
  | 0, _, _, _ => none
  | k + 1, x0, x1, x19 => if x19 = true then (some 0) else ((some (([31, 28, 31, 30, 31, 30, 31, 31, 30, 31, 30, 31] : List Int) : List Int)).bind fun y151 => (if 0 ≤ (wrap64 (x1 - 1)) then (if (wrap64 (x1 - 1)) < (y151.length : Int) then (if x1 = 2 then ((arrearsref05_Leap.f x0).bind fun t155 => (if t155 = true then (some (wrap64 ((rd y151 (wrap64 (x1 - 1))) + 1))) else (some (rd y151 (wrap64 (x1 - 1)))))) else (some (rd y151 (wrap64 (x1 - 1))))) else (none)) else (none)))
def arrearsref05_Length.f (k : Nat) (a0 : Int) (a1 : Int) : Option (Int) := if a0 < 1 then (arrearsref05_Length.j0 k a0 a1 true) else (if a0 > 9999 then (arrearsref05_Length.j0 k a0 a1 true) else (if a1 < 1 then (arrearsref05_Length.j0 k a0 a1 true) else (arrearsref05_Length.j0 k a0 a1 (decide (a1 > 12)))))
theorem arrearsref05_Length.mono_l : ∀ k, (∀ y0 y1 y2, LeO (arrearsref05_Length.j0 k y0 y1 y2) (arrearsref05_Length.j0 (k + 1) y0 y1 y2))
  | 0 => fun _ _ _ r h => by simp [arrearsref05_Length.j0] at h
  | k + 1 => by
    have ih0 := arrearsref05_Length.mono_l k
    · intro y0 y1 y2
      unfold arrearsref05_Length.j0
      repeat' first
      | (with_reducible exact ih0 _ _ _)
      | (with_reducible exact LeO.refl _)
      | (with_reducible exact LeO.none _)
      | (with_reducible refine LeO.ite ?_ ?_)
      | (with_reducible refine LeO.bind ?_ (fun _ => ?_))
      | exact ih0 _ _ _
      | exact LeO.none _
      | refine LeO.ite ?_ ?_
      | refine LeO.bind ?_ (fun _ => ?_)
theorem arrearsref05_Length.mono : ∀ a0 a1 k, LeO (arrearsref05_Length.f k a0 a1) (arrearsref05_Length.f (k + 1) a0 a1) := by
  intro a0 a1 k
  have ih0 := arrearsref05_Length.mono_l k
  unfold arrearsref05_Length.f
  repeat' first
      | (with_reducible exact ih0 _ _ _)
      | (with_reducible exact LeO.refl _)
      | (with_reducible exact LeO.none _)
      | (with_reducible refine LeO.ite ?_ ?_)
      | (with_reducible refine LeO.bind ?_ (fun _ => ?_))
      | exact ih0 _ _ _
      | exact LeO.none _
      | refine LeO.ite ?_ ?_
      | refine LeO.bind ?_ (fun _ => ?_)
set_option maxHeartbeats 8000000 in
set_option maxRecDepth 100000 in
theorem arrearsref05_Length.calls (k : Nat) (a0 : Int) (a1 : Int) (r : Int) (w : World) (h : arrearsref05_Length.f k a0 a1 = some r) :
    Calls Tryd.prog 23 #[.int .i64 a0, .int .i64 a1] w fun e w' => e = .returned (.int .i64 r) ∧ Below w.heap.size w w' := by
  have HB := Aside0.mk (Below.refl w.heap.size w)
  have H : (if a0 < 1 then (arrearsref05_Length.j0 k a0 a1 true) else (if a0 > 9999 then (arrearsref05_Length.j0 k a0 a1 true) else (if a1 < 1 then (arrearsref05_Length.j0 k a0 a1 true) else (arrearsref05_Length.j0 k a0 a1 (decide (a1 > 12)))))) = some r := h
  clear h
  have HC3 := Aside0.mk H
  clear H
  go_enter Tryd.func23, Tryd.ntmps23
  go_upto_region 1 with (fail)
  go_cut [19] (fun v19 wc => ∃ (kq : Nat) (x19_2 : Bool), v19 = .bool x19_2 ∧ Aside0 (arrearsref05_Length.j0 kq a0 a1 x19_2 = some r) ∧ Aside0 (kq ≤ k) ∧ Aside0 (Below w.heap.size w wc))
  case first =>
    have H := HC3.out
    clear HC3
    by_cases c4 : a0 < 1
    · rw [if_pos c4] at H
      have c4b0 : decide (a0 < 1) = true := decide_eq_true c4
      clear c4
      (first | rw [c4b0] | (simp only [i64_w, i32_w]; rw [c4b0]) | skip)
      have H' := Aside0.mk H
      clear H
      go_wp2
      go_meet
      case rel => exact ⟨_, (true), (by first | rfl | (simp; done) | (simp [*]; done)), H', ⟨by first | omega | exact Nat.le_refl _⟩, ⟨by repeat (first | (with_reducible first | exact HB.out | apply below_alloc | apply pw_below_drewN | apply below_drew1) | exact HB.out)⟩⟩
    · rw [if_neg c4] at H
      have c4b0 : decide (a0 < 1) = false := decide_eq_false c4
      clear c4
      (first | rw [c4b0] | (simp only [i64_w, i32_w]; rw [c4b0]) | skip)
      by_cases c5 : a0 > 9999
      · rw [if_pos c5] at H
        have c5b0 : decide (9999 < a0) = true := decide_eq_true c5
        clear c5
        have H' := Aside0.mk H
        clear H
        go_wp2
        go_meet
        case rel => exact ⟨_, (true), (by first | rfl | (simp; done) | (simp [*]; done)), H', ⟨by first | omega | exact Nat.le_refl _⟩, ⟨by repeat (first | (with_reducible first | exact HB.out | apply below_alloc | apply pw_below_drewN | apply below_drew1) | exact HB.out)⟩⟩
      · rw [if_neg c5] at H
        have c5b0 : decide (9999 < a0) = false := decide_eq_false c5
        clear c5
        by_cases c6 : a1 < 1
        · rw [if_pos c6] at H
          have c6b0 : decide (a1 < 1) = true := decide_eq_true c6
          clear c6
          have H' := Aside0.mk H
          clear H
          go_wp2
          go_meet
          case rel => exact ⟨_, (true), (by first | rfl | (simp; done) | (simp [*]; done)), H', ⟨by first | omega | exact Nat.le_refl _⟩, ⟨by repeat (first | (with_reducible first | exact HB.out | apply below_alloc | apply pw_below_drewN | apply below_drew1) | exact HB.out)⟩⟩
        · rw [if_neg c6] at H
          have c6b0 : decide (a1 < 1) = false := decide_eq_false c6
          clear c6
          have H' := Aside0.mk H
          clear H
          go_wp2
          go_meet
          case rel => exact ⟨_, (decide (a1 > 12)), (by first | rfl | (simp; done) | (simp [*]; done)), H', ⟨by first | omega | exact Nat.le_refl _⟩, ⟨by repeat (first | (with_reducible first | exact HB.out | apply below_alloc | apply pw_below_drewN | apply below_drew1) | exact HB.out)⟩⟩
  case rest =>
    clear HC3
    try clear c2
    try clear p2
    try clear c4
    try clear c4b0
    try clear c5
    try clear c5b0
    try clear c6
    try clear c6b0
    obtain ⟨kq, x19_2, rfl, HA, HJ2, HB⟩ := hcut
    cases kq with
    | zero => exact absurd HA.out (by simp [arrearsref05_Length.j0])
    | succ kj2 =>
      have H := HA.out
      clear HA
      simp only [arrearsref05_Length.j0] at H
      by_cases c7 : x19_2 = true
      · subst c7
        have H1 : (some 0) = some r := by rw [if_pos rfl] at H; exact H
        clear H
        have H := H1
        clear H1
        obtain rfl := Option.some.inj H
        go_wp2
        go_ret
        exact ⟨by first | rfl | (simp [errW_none, errW_some] <;> rfl) | (simp [*, errW_none, errW_some] <;> rfl), by repeat (first | (with_reducible first | exact HB.out | apply below_alloc | apply pw_below_drewN | apply below_drew1) | exact HB.out)⟩
      · replace c7 := Bool.eq_false_iff.mpr c7
        subst c7
        have H1 : ((some (([31, 28, 31, 30, 31, 30, 31, 31, 30, 31, 30, 31] : List Int) : List Int)).bind fun y151 => (if 0 ≤ (wrap64 (a1 - 1)) then (if (wrap64 (a1 - 1)) < (y151.length : Int) then (if a1 = 2 then ((arrearsref05_Leap.f a0).bind fun t155 => (if t155 = true then (some (wrap64 ((rd y151 (wrap64 (a1 - 1))) + 1))) else (some (rd y151 (wrap64 (a1 - 1)))))) else (some (rd y151 (wrap64 (a1 - 1))))) else (none)) else (none))) = some r := by rw [if_neg (show ¬ (false = true) by decide)] at H; exact H
        clear H
        have H := H1
        clear H1
        obtain ⟨y151, hy151⟩ : ∃ y_ : List Int, y_ = (([31, 28, 31, 30, 31, 30, 31, 31, 30, 31, 30, 31] : List Int)) := ⟨_, rfl⟩
        replace H : (if 0 ≤ (wrap64 (a1 - 1)) then (if (wrap64 (a1 - 1)) < (y151.length : Int) then (if a1 = 2 then ((arrearsref05_Leap.f a0).bind fun t155 => (if t155 = true then (some (wrap64 ((rd y151 (wrap64 (a1 - 1))) + 1))) else (some (rd y151 (wrap64 (a1 - 1)))))) else (some (rd y151 (wrap64 (a1 - 1))))) else (none)) else (none)) = some r := by first | (rw [hy151]; with_reducible exact H) | (have H2_ := (Option.bind_some _ _).symm.trans H; rw [hy151]; with_reducible exact H2_) | (have H2_ := (Option.bind_some _ _).symm.trans H; with_reducible exact H2_) | with_reducible exact H | (rw [hy151]; exact H) | exact H
        have Ny151 := Aside0.mk hy151
        clear hy151
        obtain ⟨ji8, hji8⟩ : ∃ j_ : Int, (wrap64 (a1 - 1)) = j_ := ⟨_, rfl⟩
        replace H : (if 0 ≤ (ji8) then (if (ji8) < (y151.length : Int) then (if a1 = 2 then ((arrearsref05_Leap.f a0).bind fun t155 => (if t155 = true then (some (wrap64 ((rd y151 (ji8)) + 1))) else (some (rd y151 (ji8))))) else (some (rd y151 (ji8)))) else (none)) else (none)) = some r := by first | (rw [hji8] at H; exact H) | (simp only [hji8] at H ⊢; exact H)
        have hji8w : (IntKind.i64.wrap (a1 - 1)) = ji8 := (i64_w _).trans hji8
        by_cases c9 : 0 ≤ (ji8)
        · rw [if_pos c9] at H
          have c9b0 : decide (0 ≤ (ji8)) = true := decide_eq_true c9
          clear c9
          by_cases c10 : (ji8) < (y151.length : Int)
          · rw [if_pos c10] at H
            have c10b0 : decide ((ji8) < (y151.length : Int)) = true := decide_eq_true c10
            clear c10
            by_cases c11 : a1 = 2
            · rw [if_pos c11] at H
              have c11b0 : (a1 == 2) = true := beq_iff_eq.mpr c11
              have c11b1 : (a1 != 2) = false := bne_eq_false_iff_eq.mpr c11
              clear c11
              replace H := Option.bind_eq_some_iff.mp H
              obtain ⟨t155, A120, H⟩ := H
              replace H : (if t155 = true then (some (wrap64 ((rd y151 (ji8)) + 1))) else (some (rd y151 (ji8)))) = some r := H
              have A12 := Aside0.mk A120
              clear A120
              by_cases c13 : t155 = true
              · subst c13
                have H1 : (some (wrap64 ((rd y151 (ji8)) + 1))) = some r := by rw [if_pos rfl] at H; exact H
                clear H
                have H := H1
                clear H1
                obtain rfl := Option.some.inj H
                go_wp2_with (first | ((with_reducible refine gate_dst (N := 20) rfl ?_); refine Kd.R_lit (Kd.int .i64) _ 3 ?hg (N := 20) ?hd (xs := ([31, 28, 31, 30, 31, 30, 31, 31, 30, 31, 30, 31] : List Int)) (inner := [.int .i64 31, .int .i64 28, .int .i64 31, .int .i64 30, .int .i64 31, .int .i64 30, .int .i64 31, .int .i64 31, .int .i64 30, .int .i64 31, .int .i64 30, .int .i64 31]) (ok := fun _ => True) (okp := fun _ => True) ?hr ?hp (fun _ hk => hk) trivial (Below.refl _ _) (Nat.le_refl _) (by simp) ?_; (case hd => rfl); (case hg => rfl); (case hr => first | (go_simp; done) | (go_simp; rfl)); (case hp => exact (Reps.one (show Kd.M (Kd.int .i64) _ _ _ 31 [.int .i64 31] from rfl) (Reps.one (show Kd.M (Kd.int .i64) _ _ _ 28 [.int .i64 28] from rfl) (Reps.one (show Kd.M (Kd.int .i64) _ _ _ 31 [.int .i64 31] from rfl) (Reps.one (show Kd.M (Kd.int .i64) _ _ _ 30 [.int .i64 30] from rfl) (Reps.one (show Kd.M (Kd.int .i64) _ _ _ 31 [.int .i64 31] from rfl) (Reps.one (show Kd.M (Kd.int .i64) _ _ _ 30 [.int .i64 30] from rfl) (Reps.one (show Kd.M (Kd.int .i64) _ _ _ 31 [.int .i64 31] from rfl) (Reps.one (show Kd.M (Kd.int .i64) _ _ _ 31 [.int .i64 31] from rfl) (Reps.one (show Kd.M (Kd.int .i64) _ _ _ 30 [.int .i64 30] from rfl) (Reps.one (show Kd.M (Kd.int .i64) _ _ _ 31 [.int .i64 31] from rfl) (Reps.one (show Kd.M (Kd.int .i64) _ _ _ 30 [.int .i64 30] from rfl) (Reps.one (show Kd.M (Kd.int .i64) _ _ _ 31 [.int .i64 31] from rfl) (Reps.none _ _)))))))))))))); intro v152 w14 ho15 hb hg_ hnew_; clear hg_ hnew_; (first | rw [← Ny151.out] at ho15 | (simp only [Int.reduceToNat] at ho15; rw [← Ny151.out] at ho15)); have n0_ := Aside0.mk (Kd.R_lower ho15 (below_size (by repeat (first | (with_reducible first | exact HB.out | apply below_alloc | apply pw_below_drewN | apply below_drew1) | exact HB.out)))); have n1_ := Aside0.mk (below_step (by repeat (first | (with_reducible first | exact HB.out | apply below_alloc | apply pw_below_drewN | apply below_drew1) | exact HB.out)) hb); clear HB; have HO153 := n0_; have HB := n1_; clear n0_ n1_; clear hb ho15; obtain ⟨Ao16, co16, eo16⟩ := Kd.R_slice HO153.out; subst eo16; have p154 : 0 ≤ ((ji8) : Int) := of_decide_eq_true (by first | (with_reducible assumption) | assumption); have q154 : (ji8) < (y151.length : Int) := of_decide_eq_true (by first | (with_reducible assumption) | assumption); obtain ⟨ad154, e154, hx154_0⟩ := Kd.at_int (Kd.R_reads' HO153.out).2.2 (ji8) p154 q154; cases e154; replace p154 := eq_true p154; replace q154 := eq_true q154) | (go_at_call 12; (with_reducible refine (arrearsref05_Leap.calls a0 true _ A12.out).mono ?_); rintro e w' ⟨rfl, ⟨nd, rfl⟩⟩))
                go_ret
                exact ⟨by first | rfl | (simp [errW_none, errW_some] <;> rfl) | (simp only [← hji8]; first | rfl | (simp [errW_none, errW_some] <;> rfl)) | (simp [*, errW_none, errW_some] <;> rfl), by repeat (first | (with_reducible first | exact HB.out | apply below_alloc | apply pw_below_drewN | apply below_drew1) | exact HB.out)⟩
              · replace c13 := Bool.eq_false_iff.mpr c13
                subst c13
                have H1 : (some (rd y151 (ji8))) = some r := by rw [if_neg (show ¬ (false = true) by decide)] at H; exact H
                clear H
                have H := H1
                clear H1
                obtain rfl := Option.some.inj H
                go_wp2_with (first | ((with_reducible refine gate_dst (N := 20) rfl ?_); refine Kd.R_lit (Kd.int .i64) _ 3 ?hg (N := 20) ?hd (xs := ([31, 28, 31, 30, 31, 30, 31, 31, 30, 31, 30, 31] : List Int)) (inner := [.int .i64 31, .int .i64 28, .int .i64 31, .int .i64 30, .int .i64 31, .int .i64 30, .int .i64 31, .int .i64 31, .int .i64 30, .int .i64 31, .int .i64 30, .int .i64 31]) (ok := fun _ => True) (okp := fun _ => True) ?hr ?hp (fun _ hk => hk) trivial (Below.refl _ _) (Nat.le_refl _) (by simp) ?_; (case hd => rfl); (case hg => rfl); (case hr => first | (go_simp; done) | (go_simp; rfl)); (case hp => exact (Reps.one (show Kd.M (Kd.int .i64) _ _ _ 31 [.int .i64 31] from rfl) (Reps.one (show Kd.M (Kd.int .i64) _ _ _ 28 [.int .i64 28] from rfl) (Reps.one (show Kd.M (Kd.int .i64) _ _ _ 31 [.int .i64 31] from rfl) (Reps.one (show Kd.M (Kd.int .i64) _ _ _ 30 [.int .i64 30] from rfl) (Reps.one (show Kd.M (Kd.int .i64) _ _ _ 31 [.int .i64 31] from rfl) (Reps.one (show Kd.M (Kd.int .i64) _ _ _ 30 [.int .i64 30] from rfl) (Reps.one (show Kd.M (Kd.int .i64) _ _ _ 31 [.int .i64 31] from rfl) (Reps.one (show Kd.M (Kd.int .i64) _ _ _ 31 [.int .i64 31] from rfl) (Reps.one (show Kd.M (Kd.int .i64) _ _ _ 30 [.int .i64 30] from rfl) (Reps.one (show Kd.M (Kd.int .i64) _ _ _ 31 [.int .i64 31] from rfl) (Reps.one (show Kd.M (Kd.int .i64) _ _ _ 30 [.int .i64 30] from rfl) (Reps.one (show Kd.M (Kd.int .i64) _ _ _ 31 [.int .i64 31] from rfl) (Reps.none _ _)))))))))))))); intro v152 w17 ho18 hb hg_ hnew_; clear hg_ hnew_; (first | rw [← Ny151.out] at ho18 | (simp only [Int.reduceToNat] at ho18; rw [← Ny151.out] at ho18)); have n0_ := Aside0.mk (Kd.R_lower ho18 (below_size (by repeat (first | (with_reducible first | exact HB.out | apply below_alloc | apply pw_below_drewN | apply below_drew1) | exact HB.out)))); have n1_ := Aside0.mk (below_step (by repeat (first | (with_reducible first | exact HB.out | apply below_alloc | apply pw_below_drewN | apply below_drew1) | exact HB.out)) hb); clear HB; have HO153 := n0_; have HB := n1_; clear n0_ n1_; clear hb ho18; obtain ⟨Ao19, co19, eo19⟩ := Kd.R_slice HO153.out; subst eo19; have p154 : 0 ≤ ((ji8) : Int) := of_decide_eq_true (by first | (with_reducible assumption) | assumption); have q154 : (ji8) < (y151.length : Int) := of_decide_eq_true (by first | (with_reducible assumption) | assumption); obtain ⟨ad154, e154, hx154_0⟩ := Kd.at_int (Kd.R_reads' HO153.out).2.2 (ji8) p154 q154; cases e154; replace p154 := eq_true p154; replace q154 := eq_true q154) | (go_at_call 12; (with_reducible refine (arrearsref05_Leap.calls a0 false _ A12.out).mono ?_); rintro e w' ⟨rfl, ⟨nd, rfl⟩⟩))
                go_ret
                exact ⟨by first | rfl | (simp [errW_none, errW_some] <;> rfl) | (simp only [← hji8]; first | rfl | (simp [errW_none, errW_some] <;> rfl)) | (simp [*, errW_none, errW_some] <;> rfl), by repeat (first | (with_reducible first | exact HB.out | apply below_alloc | apply pw_below_drewN | apply below_drew1) | exact HB.out)⟩
            · rw [if_neg c11] at H
              have c11b0 : (a1 == 2) = false := beq_eq_false_iff_ne.mpr c11
              have c11b1 : (a1 != 2) = true := bne_iff_ne.mpr c11
              obtain rfl := Option.some.inj H
              go_wp2_with (first | ((with_reducible refine gate_dst (N := 20) rfl ?_); refine Kd.R_lit (Kd.int .i64) _ 3 ?hg (N := 20) ?hd (xs := ([31, 28, 31, 30, 31, 30, 31, 31, 30, 31, 30, 31] : List Int)) (inner := [.int .i64 31, .int .i64 28, .int .i64 31, .int .i64 30, .int .i64 31, .int .i64 30, .int .i64 31, .int .i64 31, .int .i64 30, .int .i64 31, .int .i64 30, .int .i64 31]) (ok := fun _ => True) (okp := fun _ => True) ?hr ?hp (fun _ hk => hk) trivial (Below.refl _ _) (Nat.le_refl _) (by simp) ?_; (case hd => rfl); (case hg => rfl); (case hr => first | (go_simp; done) | (go_simp; rfl)); (case hp => exact (Reps.one (show Kd.M (Kd.int .i64) _ _ _ 31 [.int .i64 31] from rfl) (Reps.one (show Kd.M (Kd.int .i64) _ _ _ 28 [.int .i64 28] from rfl) (Reps.one (show Kd.M (Kd.int .i64) _ _ _ 31 [.int .i64 31] from rfl) (Reps.one (show Kd.M (Kd.int .i64) _ _ _ 30 [.int .i64 30] from rfl) (Reps.one (show Kd.M (Kd.int .i64) _ _ _ 31 [.int .i64 31] from rfl) (Reps.one (show Kd.M (Kd.int .i64) _ _ _ 30 [.int .i64 30] from rfl) (Reps.one (show Kd.M (Kd.int .i64) _ _ _ 31 [.int .i64 31] from rfl) (Reps.one (show Kd.M (Kd.int .i64) _ _ _ 31 [.int .i64 31] from rfl) (Reps.one (show Kd.M (Kd.int .i64) _ _ _ 30 [.int .i64 30] from rfl) (Reps.one (show Kd.M (Kd.int .i64) _ _ _ 31 [.int .i64 31] from rfl) (Reps.one (show Kd.M (Kd.int .i64) _ _ _ 30 [.int .i64 30] from rfl) (Reps.one (show Kd.M (Kd.int .i64) _ _ _ 31 [.int .i64 31] from rfl) (Reps.none _ _)))))))))))))); intro v152 w20 ho21 hb hg_ hnew_; clear hg_ hnew_; (first | rw [← Ny151.out] at ho21 | (simp only [Int.reduceToNat] at ho21; rw [← Ny151.out] at ho21)); have n0_ := Aside0.mk (Kd.R_lower ho21 (below_size (by repeat (first | (with_reducible first | exact HB.out | apply below_alloc | apply pw_below_drewN | apply below_drew1) | exact HB.out)))); have n1_ := Aside0.mk (below_step (by repeat (first | (with_reducible first | exact HB.out | apply below_alloc | apply pw_below_drewN | apply below_drew1) | exact HB.out)) hb); clear HB; have HO153 := n0_; have HB := n1_; clear n0_ n1_; clear hb ho21; obtain ⟨Ao22, co22, eo22⟩ := Kd.R_slice HO153.out; subst eo22; have p154 : 0 ≤ ((ji8) : Int) := of_decide_eq_true (by first | (with_reducible assumption) | assumption); have q154 : (ji8) < (y151.length : Int) := of_decide_eq_true (by first | (with_reducible assumption) | assumption); obtain ⟨ad154, e154, hx154_0⟩ := Kd.at_int (Kd.R_reads' HO153.out).2.2 (ji8) p154 q154; cases e154; replace p154 := eq_true p154; replace q154 := eq_true q154))
              go_ret
              exact ⟨by first | rfl | (simp [errW_none, errW_some] <;> rfl) | (simp only [← hji8]; first | rfl | (simp [errW_none, errW_some] <;> rfl)) | (simp [*, errW_none, errW_some] <;> rfl), by repeat (first | (with_reducible first | exact HB.out | apply below_alloc | apply pw_below_drewN | apply below_drew1) | exact HB.out)⟩
          · rw [if_neg c10] at H
            exact absurd H (by simp)
        · rw [if_neg c9] at H
          exact absurd H (by simp)

/-! ### arrearsref05_Civil: function 22 -/
mutual
def arrearsref05_Civil.j1 : Nat → Int → Int → Option (Int × Int × Int)
  | 0, _, _ => none
  | k + 1, x0, x3 => arrearsref05_Civil.l1 k x0 x3 1
def arrearsref05_Civil.l1 : Nat → Int → Int → Int → Option (Int × Int × Int)
  | 0, _, _, _ => none
  | k + 1, x0, x3, x5 => (arrearsref05_Length.f k x3 x5).bind fun t158 => (if x0 ≥ t158 then ((arrearsref05_Length.f k x3 x5).bind fun t159 => (arrearsref05_Civil.l1 k (wrap64 (x0 - t159)) x3 (wrap64 (x5 + 1)))) else (some (x3, x5, wrap64 (x0 + 1))))
def arrearsref05_Civil.l0 : Nat → Int → Int → Option (Int × Int × Int)
  | 0, _, _ => none
  | k + 1, x0, x3 => (arrearsref05_Leap.f x3).bind fun t157 => (if t157 = true then (if x0 < 366 then (arrearsref05_Civil.j1 k x0 x3) else (arrearsref05_Civil.l0 k (wrap64 (x0 - 366)) (wrap64 (x3 + 1)))) else (if x0 < 365 then (arrearsref05_Civil.j1 k x0 x3) else (arrearsref05_Civil.l0 k (wrap64 (x0 - 365)) (wrap64 (x3 + 1)))))
end
def arrearsref05_Civil.f (k : Nat) (a0 : Int) : Option (Int × Int × Int) := arrearsref05_Civil.l0 k (Int.tmod a0 146097) (wrap64 (1 + (wrap64 (400 * (wrap64 (Int.tdiv a0 146097))))))
theorem arrearsref05_Civil.mono_l : ∀ k, (∀ y0 y1, LeO (arrearsref05_Civil.j1 k y0 y1) (arrearsref05_Civil.j1 (k + 1) y0 y1)) ∧ (∀ y0 y1 y2, LeO (arrearsref05_Civil.l1 k y0 y1 y2) (arrearsref05_Civil.l1 (k + 1) y0 y1 y2)) ∧ (∀ y0 y1, LeO (arrearsref05_Civil.l0 k y0 y1) (arrearsref05_Civil.l0 (k + 1) y0 y1))
  | 0 => ⟨fun _ _ r h => by simp [arrearsref05_Civil.j1] at h, fun _ _ _ r h => by simp [arrearsref05_Civil.l1] at h, fun _ _ r h => by simp [arrearsref05_Civil.l0] at h⟩
  | k + 1 => by
    obtain ⟨ih0, ih1, ih2⟩ := arrearsref05_Civil.mono_l k
    refine ⟨?_, ?_, ?_⟩
    · intro y0 y1
      unfold arrearsref05_Civil.j1
      repeat' first
      | (with_reducible exact ih0 _ _)
      | (with_reducible exact ih1 _ _ _)
      | (with_reducible exact ih2 _ _)
      | (with_reducible exact arrearsref05_Length.mono _ _ _)
      | (with_reducible exact LeO.refl _)
      | (with_reducible exact LeO.none _)
      | (with_reducible refine LeO.ite ?_ ?_)
      | (with_reducible refine LeO.bind ?_ (fun _ => ?_))
      | exact ih0 _ _
      | exact ih1 _ _ _
      | exact ih2 _ _
      | exact arrearsref05_Length.mono _ _ _
      | exact LeO.none _
      | refine LeO.ite ?_ ?_
      | refine LeO.bind ?_ (fun _ => ?_)
    · intro y0 y1 y2
      unfold arrearsref05_Civil.l1
      repeat' first
      | (with_reducible exact ih0 _ _)
      | (with_reducible exact ih1 _ _ _)
      | (with_reducible exact ih2 _ _)
      | (with_reducible exact arrearsref05_Length.mono _ _ _)
      | (with_reducible exact LeO.refl _)
      | (with_reducible exact LeO.none _)
      | (with_reducible refine LeO.ite ?_ ?_)
      | (with_reducible refine LeO.bind ?_ (fun _ => ?_))
      | exact ih0 _ _
      | exact ih1 _ _ _
      | exact ih2 _ _
      | exact arrearsref05_Length.mono _ _ _
      | exact LeO.none _
      | refine LeO.ite ?_ ?_
      | refine LeO.bind ?_ (fun _ => ?_)
    · intro y0 y1
      unfold arrearsref05_Civil.l0
      repeat' first
      | (with_reducible exact ih0 _ _)
      | (with_reducible exact ih1 _ _ _)
      | (with_reducible exact ih2 _ _)
      | (with_reducible exact arrearsref05_Length.mono _ _ _)
      | (with_reducible exact LeO.refl _)
      | (with_reducible exact LeO.none _)
      | (with_reducible refine LeO.ite ?_ ?_)
      | (with_reducible refine LeO.bind ?_ (fun _ => ?_))
      | exact ih0 _ _
      | exact ih1 _ _ _
      | exact ih2 _ _
      | exact arrearsref05_Length.mono _ _ _
      | exact LeO.none _
      | refine LeO.ite ?_ ?_
      | refine LeO.bind ?_ (fun _ => ?_)
theorem arrearsref05_Civil.mono : ∀ a0 k, LeO (arrearsref05_Civil.f k a0) (arrearsref05_Civil.f (k + 1) a0) := by
  intro a0 k
  obtain ⟨ih0, ih1, ih2⟩ := arrearsref05_Civil.mono_l k
  unfold arrearsref05_Civil.f
  repeat' first
      | (with_reducible exact ih0 _ _)
      | (with_reducible exact ih1 _ _ _)
      | (with_reducible exact ih2 _ _)
      | (with_reducible exact arrearsref05_Length.mono _ _ _)
      | (with_reducible exact LeO.refl _)
      | (with_reducible exact LeO.none _)
      | (with_reducible refine LeO.ite ?_ ?_)
      | (with_reducible refine LeO.bind ?_ (fun _ => ?_))
      | exact ih0 _ _
      | exact ih1 _ _ _
      | exact ih2 _ _
      | exact arrearsref05_Length.mono _ _ _
      | exact LeO.none _
      | refine LeO.ite ?_ ?_
      | refine LeO.bind ?_ (fun _ => ?_)
set_option maxHeartbeats 8000000 in
set_option maxRecDepth 100000 in
theorem arrearsref05_Civil.calls (k : Nat) (a0 : Int) (r1 : Int) (r2 : Int) (r3 : Int) (w : World) (h : arrearsref05_Civil.f k a0 = some (r1, r2, r3)) :
    Calls Tryd.prog 22 #[.int .i64 a0] w fun e w' => e = .returned (.agg #[.int .i64 r1, .int .i64 r2, .int .i64 r3]) ∧ Below w.heap.size w w' := by
  have hu26 := Tryd.underlying26
  have HB := Aside0.mk (Below.refl w.heap.size w)
  have H : (arrearsref05_Civil.l0 k (Int.tmod a0 146097) (wrap64 (1 + (wrap64 (400 * (wrap64 (Int.tdiv a0 146097))))))) = some (r1, r2, r3) := h
  clear h
  have HC2 := Aside0.mk H
  clear H
  go_enter Tryd.func22, Tryd.ntmps22
  go_upto_block 0 with (first | ((with_reducible refine gate_dst (N := 2) rfl ?_); refine box_event ?hg (N := 2) ?hd (cs := #[.int .i64 0, .int .i64 0, .int .i64 0]) (t := 26) ?hr ?_; (case hd => rfl); (case hg => rfl); (case hr => first | (go_simp; done) | (go_simp; rfl)); intro gb156 hg w3 hbox hb; have n0_ := Aside0.mk (below_step (by repeat (first | (with_reducible first | exact HB.out | apply below_alloc | apply pw_below_drewN | apply below_drew1) | exact HB.out)) hb); have n1_ := Aside0.mk (hbox); have n2_ := Aside0.mk ((by rw [hg]; exact (below_size (by repeat (first | (with_reducible first | exact HB.out | apply below_alloc | apply pw_below_drewN | apply below_drew1) | exact HB.out))) : w.heap.size ≤ gb156)); have n3_ := Aside0.mk ((by rw [hg]; exact (below_size (by repeat (first | (with_reducible first | exact HB.out | apply below_alloc | apply pw_below_drewN | apply below_drew1) | exact HB.out))) : w.heap.size ≤ gb156)); clear HB; have HB := n0_; have BK156 := n1_; have GW156 := n2_; have GE156 := n3_; clear n0_ n1_ n2_ n3_; clear hb hbox hg))
  (try simp only [Act.put, List.setIfInBounds_toArray, List.set_cons_zero, List.set_cons_succ])
  go_cut [0, 3] (fun v0 v3 wc => ∃ (kq : Nat) (x0_1 : Int) (x3_1 : Int), v0 = .int .i64 x0_1 ∧ v3 = .int .i64 x3_1 ∧ Aside0 (arrearsref05_Civil.j1 kq x0_1 x3_1 = some (r1, r2, r3)) ∧ Aside0 (kq ≤ k) ∧ Aside0 (wc.heap[gb156]? = some (.cells #[.int .i64 0, .int .i64 0, .int .i64 0] 26 (0, 0))) ∧ Aside0 (Below w.heap.size w wc))
  case first =>
    have H := HC2.out
    clear HC2
    have H' := Aside0.mk H
    clear H
    go_wp2
    go_loopg [0, 3] k (fun kq v0 v3 w' => ∃ (x0_1 : Int) (x3_1 : Int), v0 = .int .i64 x0_1 ∧ v3 = .int .i64 x3_1 ∧ Aside0 (arrearsref05_Civil.l0 kq x0_1 x3_1 = some (r1, r2, r3)) ∧ Aside0 (kq ≤ k) ∧ Aside0 (w'.heap[gb156]? = some (.cells #[.int .i64 0, .int .i64 0, .int .i64 0] 26 (0, 0))) ∧ Aside0 (Below w.heap.size w w'))
    case atStart => exact ⟨(Int.tmod a0 146097), (wrap64 (1 + (wrap64 (400 * (wrap64 (Int.tdiv a0 146097)))))), (by first | rfl | (simp; done) | (simp [*]; done)), (by first | rfl | (simp; done) | (simp [*]; done)), H', ⟨Nat.le_refl _⟩, ⟨by (with_reducible repeat (first | refine blk_drewN ?_ _ | refine blk_drew ?_ | refine blk_alloc ?_ _)); exact BK156.out⟩, ⟨by repeat (first | (with_reducible first | exact HB.out | apply below_alloc | apply pw_below_drewN | apply below_drew1 | refine below_set ?_ GE156.out) | exact HB.out)⟩⟩
    case round =>
      clear H'
      try clear c2
      try clear p2
      obtain ⟨x0_1, x3_1, rfl, rfl, HA, HK1, BK156, HB⟩ := hrel
      cases gk with
      | zero => exact absurd HA.out (by simp [arrearsref05_Civil.l0])
      | succ k1 =>
        have H := HA.out
        clear HA
        simp only [arrearsref05_Civil.l0] at H
        replace H := Option.bind_eq_some_iff.mp H
        obtain ⟨t157, A40, H⟩ := H
        replace H : (if t157 = true then (if x0_1 < 366 then (arrearsref05_Civil.j1 k1 x0_1 x3_1) else (arrearsref05_Civil.l0 k1 (wrap64 (x0_1 - 366)) (wrap64 (x3_1 + 1)))) else (if x0_1 < 365 then (arrearsref05_Civil.j1 k1 x0_1 x3_1) else (arrearsref05_Civil.l0 k1 (wrap64 (x0_1 - 365)) (wrap64 (x3_1 + 1))))) = some (r1, r2, r3) := H
        have A4 := Aside0.mk A40
        clear A40
        by_cases c5 : t157 = true
        · subst c5
          have H1 : (if x0_1 < 366 then (arrearsref05_Civil.j1 k1 x0_1 x3_1) else (arrearsref05_Civil.l0 k1 (wrap64 (x0_1 - 366)) (wrap64 (x3_1 + 1)))) = some (r1, r2, r3) := by rw [if_pos rfl] at H; exact H
          clear H
          have H := H1
          clear H1
          by_cases c6 : x0_1 < 366
          · rw [if_pos c6] at H
            have c6b0 : decide (x0_1 < 366) = true := decide_eq_true c6
            clear c6
            (first | rw [c6b0] | (simp only [i64_w, i32_w]; rw [c6b0]) | skip)
            have H' := Aside0.mk H
            clear H
            go_wp2_with (first | ((with_reducible refine gate_callee (f := 12) rfl ?_); refine goesL_ (some 13) rfl rfl Tryd.func12 (by kernel_rfl) rfl #[.int .i64 x3_1] rfl (by (try simp only [List.map_toArray, List.map_cons, List.map_nil]); first | done | rfl | (simp only [List.length_drop, List.length_take]; rfl)) ?_; (with_reducible refine (arrearsref05_Leap.calls x3_1 true _ A4.out).mono ?_); rintro e w' ⟨rfl, ⟨nd, rfl⟩⟩; refine ⟨_, rfl, ?_⟩))
            go_meet
            case rel => exact ⟨_, (x0_1), (x3_1), (by first | rfl | (simp; done) | (simp [*]; done)), (by first | rfl | (simp; done) | (simp [*]; done)), H', ⟨by have := HK1.out; first | omega | exact Nat.le_refl _⟩, ⟨by (with_reducible repeat (first | refine blk_drewN ?_ _ | refine blk_drew ?_ | refine blk_alloc ?_ _)); exact BK156.out⟩, ⟨by repeat (first | (with_reducible first | exact HB.out | apply below_alloc | apply pw_below_drewN | apply below_drew1 | refine below_set ?_ GE156.out) | exact HB.out)⟩⟩
          · rw [if_neg c6] at H
            have c6b0 : decide (x0_1 < 366) = false := decide_eq_false c6
            clear c6
            (first | rw [c6b0] | (simp only [i64_w, i32_w]; rw [c6b0]) | skip)
            have H' := Aside0.mk H
            clear H
            go_wp2_with (first | ((with_reducible refine gate_callee (f := 12) rfl ?_); refine goesL_ (some 13) rfl rfl Tryd.func12 (by kernel_rfl) rfl #[.int .i64 x3_1] rfl (by (try simp only [List.map_toArray, List.map_cons, List.map_nil]); first | done | rfl | (simp only [List.length_drop, List.length_take]; rfl)) ?_; (with_reducible refine (arrearsref05_Leap.calls x3_1 true _ A4.out).mono ?_); rintro e w' ⟨rfl, ⟨nd, rfl⟩⟩; refine ⟨_, rfl, ?_⟩))
            go_roundg k1
            case measure => have := HK1.out; omega
            case rel => exact ⟨(wrap64 (x0_1 - 366)), (wrap64 (x3_1 + 1)), (by first | rfl | (simp; done) | (simp [*]; done)), (by first | rfl | (simp; done) | (simp [*]; done)), H', ⟨by have := HK1.out; omega⟩, ⟨by (with_reducible repeat (first | refine blk_drewN ?_ _ | refine blk_drew ?_ | refine blk_alloc ?_ _)); exact BK156.out⟩, ⟨by repeat (first | (with_reducible first | exact HB.out | apply below_alloc | apply pw_below_drewN | apply below_drew1 | refine below_set ?_ GE156.out) | exact HB.out)⟩⟩
        · replace c5 := Bool.eq_false_iff.mpr c5
          subst c5
          have H1 : (if x0_1 < 365 then (arrearsref05_Civil.j1 k1 x0_1 x3_1) else (arrearsref05_Civil.l0 k1 (wrap64 (x0_1 - 365)) (wrap64 (x3_1 + 1)))) = some (r1, r2, r3) := by rw [if_neg (show ¬ (false = true) by decide)] at H; exact H
          clear H
          have H := H1
          clear H1
          by_cases c7 : x0_1 < 365
          · rw [if_pos c7] at H
            have c7b0 : decide (x0_1 < 365) = true := decide_eq_true c7
            clear c7
            have H' := Aside0.mk H
            clear H
            go_wp2_with (first | ((with_reducible refine gate_callee (f := 12) rfl ?_); refine goesL_ (some 13) rfl rfl Tryd.func12 (by kernel_rfl) rfl #[.int .i64 x3_1] rfl (by (try simp only [List.map_toArray, List.map_cons, List.map_nil]); first | done | rfl | (simp only [List.length_drop, List.length_take]; rfl)) ?_; (with_reducible refine (arrearsref05_Leap.calls x3_1 false _ A4.out).mono ?_); rintro e w' ⟨rfl, ⟨nd, rfl⟩⟩; refine ⟨_, rfl, ?_⟩))
            go_meet
            case rel => exact ⟨_, (x0_1), (x3_1), (by first | rfl | (simp; done) | (simp [*]; done)), (by first | rfl | (simp; done) | (simp [*]; done)), H', ⟨by have := HK1.out; first | omega | exact Nat.le_refl _⟩, ⟨by (with_reducible repeat (first | refine blk_drewN ?_ _ | refine blk_drew ?_ | refine blk_alloc ?_ _)); exact BK156.out⟩, ⟨by repeat (first | (with_reducible first | exact HB.out | apply below_alloc | apply pw_below_drewN | apply below_drew1 | refine below_set ?_ GE156.out) | exact HB.out)⟩⟩
          · rw [if_neg c7] at H
            have c7b0 : decide (x0_1 < 365) = false := decide_eq_false c7
            clear c7
            have H' := Aside0.mk H
            clear H
            go_wp2_with (first | ((with_reducible refine gate_callee (f := 12) rfl ?_); refine goesL_ (some 13) rfl rfl Tryd.func12 (by kernel_rfl) rfl #[.int .i64 x3_1] rfl (by (try simp only [List.map_toArray, List.map_cons, List.map_nil]); first | done | rfl | (simp only [List.length_drop, List.length_take]; rfl)) ?_; (with_reducible refine (arrearsref05_Leap.calls x3_1 false _ A4.out).mono ?_); rintro e w' ⟨rfl, ⟨nd, rfl⟩⟩; refine ⟨_, rfl, ?_⟩))
            go_roundg k1
            case measure => have := HK1.out; omega
            case rel => exact ⟨(wrap64 (x0_1 - 365)), (wrap64 (x3_1 + 1)), (by first | rfl | (simp; done) | (simp [*]; done)), (by first | rfl | (simp; done) | (simp [*]; done)), H', ⟨by have := HK1.out; omega⟩, ⟨by (with_reducible repeat (first | refine blk_drewN ?_ _ | refine blk_drew ?_ | refine blk_alloc ?_ _)); exact BK156.out⟩, ⟨by repeat (first | (with_reducible first | exact HB.out | apply below_alloc | apply pw_below_drewN | apply below_drew1 | refine below_set ?_ GE156.out) | exact HB.out)⟩⟩
  case rest =>
    clear HC2
    try clear c1
    try clear c2
    try clear p2
    try clear c5
    try clear c6
    try clear c6b0
    try clear p6
    try clear c7
    try clear c7b0
    try clear p2
    obtain ⟨kq, x0_1, x3_1, rfl, rfl, HA, HJ1, BK156, HB⟩ := hcut
    cases kq with
    | zero => exact absurd HA.out (by simp [arrearsref05_Civil.j1])
    | succ kj1 =>
      have H := HA.out
      clear HA
      simp only [arrearsref05_Civil.j1] at H
      have H' := Aside0.mk H
      clear H
      go_wp2
      go_loopg [0, 5] kj1 (fun kq v0 v5 w' => ∃ (x0_2 : Int) (x5_2 : Int), v0 = .int .i64 x0_2 ∧ v5 = .int .i64 x5_2 ∧ Aside0 (arrearsref05_Civil.l1 kq x0_2 x3_1 x5_2 = some (r1, r2, r3)) ∧ Aside0 (kq ≤ kj1) ∧ Aside0 (w'.heap[gb156]? = some (.cells #[.int .i64 0, .int .i64 0, .int .i64 0] 26 (0, 0))) ∧ Aside0 (Below w.heap.size w w'))
      case atStart => exact ⟨(x0_1), (1), (by first | rfl | (simp; done) | (simp [*]; done)), (by first | rfl | (simp; done) | (simp [*]; done)), H', ⟨Nat.le_refl _⟩, ⟨by (with_reducible repeat (first | refine blk_drewN ?_ _ | refine blk_drew ?_ | refine blk_alloc ?_ _)); exact BK156.out⟩, ⟨by repeat (first | (with_reducible first | exact HB.out | apply below_alloc | apply pw_below_drewN | apply below_drew1 | refine below_set ?_ GE156.out) | exact HB.out)⟩⟩
      case round =>
        clear H'
        try clear c1
        try clear c2
        try clear p2
        try clear c5
        try clear c6
        try clear c6b0
        try clear p6
        try clear c7
        try clear c7b0
        try clear p2
        try clear p6
        obtain ⟨x0_2, x5_2, rfl, rfl, HA, HK2, BK156, HB⟩ := hrel
        cases gk with
        | zero => exact absurd HA.out (by simp [arrearsref05_Civil.l1])
        | succ k2 =>
          have H := HA.out
          clear HA
          simp only [arrearsref05_Civil.l1] at H
          replace H := Option.bind_eq_some_iff.mp H
          obtain ⟨t158, A80, H⟩ := H
          replace H : (if x0_2 ≥ t158 then ((arrearsref05_Length.f k2 x3_1 x5_2).bind fun t159 => (arrearsref05_Civil.l1 k2 (wrap64 (x0_2 - t159)) x3_1 (wrap64 (x5_2 + 1)))) else (some (x3_1, x5_2, wrap64 (x0_2 + 1)))) = some (r1, r2, r3) := H
          have A8 := Aside0.mk A80
          clear A80
          by_cases c9 : x0_2 ≥ t158
          · rw [if_pos c9] at H
            have c9b0 : decide (t158 ≤ x0_2) = true := decide_eq_true c9
            clear c9
            replace H := Option.bind_eq_some_iff.mp H
            obtain ⟨t159, A100, H⟩ := H
            replace H : (arrearsref05_Civil.l1 k2 (wrap64 (x0_2 - t159)) x3_1 (wrap64 (x5_2 + 1))) = some (r1, r2, r3) := H
            have A10 := Aside0.mk A100
            clear A100
            have H' := Aside0.mk H
            clear H
            go_wp2_with (first | ((with_reducible refine gate_callee (f := 23) rfl ?_); refine goesL_ (some 25) rfl rfl Tryd.func23 (by kernel_rfl) rfl #[.int .i64 x3_1, .int .i64 x5_2] rfl (by (try simp only [List.map_toArray, List.map_cons, List.map_nil]); first | done | rfl | (simp only [List.length_drop, List.length_take]; rfl)) ?_; (with_reducible refine (arrearsref05_Length.calls k2 x3_1 x5_2 t158 _ A8.out).mono ?_); rintro e w11 ⟨rfl, hb⟩; refine ⟨_, rfl, ?_⟩; have n0_ := Aside0.mk (blk_below (g := gb156) (o := .cells #[.int .i64 0, .int .i64 0, .int .i64 0] 26 (0, 0)) (by (with_reducible repeat (first | refine blk_drewN ?_ _ | refine blk_drew ?_ | refine blk_alloc ?_ _)); exact BK156.out) hb); have n1_ := Aside0.mk (below_step (by repeat (first | (with_reducible first | exact HB.out | apply below_alloc | apply pw_below_drewN | apply below_drew1 | refine below_set ?_ GE156.out) | exact HB.out)) hb); clear BK156; clear HB; have BK156 := n0_; have HB := n1_; clear n0_ n1_; (try clear hb); (try clear hb2); (try clear hk); (try clear hi)) | ((with_reducible refine gate_callee (f := 23) rfl ?_); refine goesL_ (some 30) rfl rfl Tryd.func23 (by kernel_rfl) rfl #[.int .i64 x3_1, .int .i64 x5_2] rfl (by (try simp only [List.map_toArray, List.map_cons, List.map_nil]); first | done | rfl | (simp only [List.length_drop, List.length_take]; rfl)) ?_; (with_reducible refine (arrearsref05_Length.calls k2 x3_1 x5_2 t159 _ A10.out).mono ?_); rintro e w12 ⟨rfl, hb⟩; refine ⟨_, rfl, ?_⟩; have n0_ := Aside0.mk (blk_below (g := gb156) (o := .cells #[.int .i64 0, .int .i64 0, .int .i64 0] 26 (0, 0)) (by (with_reducible repeat (first | refine blk_drewN ?_ _ | refine blk_drew ?_ | refine blk_alloc ?_ _)); exact BK156.out) hb); have n1_ := Aside0.mk (below_step (by repeat (first | (with_reducible first | exact HB.out | apply below_alloc | apply pw_below_drewN | apply below_drew1 | refine below_set ?_ GE156.out) | exact HB.out)) hb); clear BK156; clear HB; have BK156 := n0_; have HB := n1_; clear n0_ n1_; (try clear hb); (try clear hb2); (try clear hk); (try clear hi)))
            go_roundg k2
            case measure => have := HJ1.out; have := HK2.out; omega
            case rel => exact ⟨(wrap64 (x0_2 - t159)), (wrap64 (x5_2 + 1)), (by first | rfl | (simp; done) | (simp [*]; done)), (by first | rfl | (simp; done) | (simp [*]; done)), H', ⟨by have := HJ1.out; have := HK2.out; omega⟩, ⟨by (with_reducible repeat (first | refine blk_drewN ?_ _ | refine blk_drew ?_ | refine blk_alloc ?_ _)); exact BK156.out⟩, ⟨by repeat (first | (with_reducible first | exact HB.out | apply below_alloc | apply pw_below_drewN | apply below_drew1 | refine below_set ?_ GE156.out) | exact HB.out)⟩⟩
          · rw [if_neg c9] at H
            have c9b0 : decide (t158 ≤ x0_2) = false := decide_eq_false c9
            clear c9
            simp only [Option.some.injEq, Prod.mk.injEq] at H
            obtain ⟨rfl, rfl, rfl⟩ := H
            go_wp2_with (first | ((with_reducible refine gate_callee (f := 23) rfl ?_); refine goesL_ (some 25) rfl rfl Tryd.func23 (by kernel_rfl) rfl #[.int .i64 x3_1, .int .i64 x5_2] rfl (by (try simp only [List.map_toArray, List.map_cons, List.map_nil]); first | done | rfl | (simp only [List.length_drop, List.length_take]; rfl)) ?_; (with_reducible refine (arrearsref05_Length.calls k2 x3_1 x5_2 t158 _ A8.out).mono ?_); rintro e w13 ⟨rfl, hb⟩; refine ⟨_, rfl, ?_⟩; have n0_ := Aside0.mk (blk_below (g := gb156) (o := .cells #[.int .i64 0, .int .i64 0, .int .i64 0] 26 (0, 0)) (by (with_reducible repeat (first | refine blk_drewN ?_ _ | refine blk_drew ?_ | refine blk_alloc ?_ _)); exact BK156.out) hb); have n1_ := Aside0.mk (below_step (by repeat (first | (with_reducible first | exact HB.out | apply below_alloc | apply pw_below_drewN | apply below_drew1 | refine below_set ?_ GE156.out) | exact HB.out)) hb); clear BK156; clear HB; have BK156 := n0_; have HB := n1_; clear n0_ n1_; (try clear hb); (try clear hb2); (try clear hk); (try clear hi); have hcz14_0 : w13.cell? ⟨gb156, 0, none⟩ = some (.int .i64 0) := (blk_cell BK156.out 0).trans rfl; have hcz14_1 : w13.cell? ⟨gb156, 1, none⟩ = some (.int .i64 0) := (blk_cell BK156.out 1).trans rfl; have hcz14_2 : w13.cell? ⟨gb156, 2, none⟩ = some (.int .i64 0) := (blk_cell BK156.out 2).trans rfl; have hfz14_0 := blk_frozen BK156.out 0; have hfz14_1 := blk_frozen BK156.out 1; have hfz14_2 := blk_frozen BK156.out 2))
            refine bodyPost_ret (results_cell_row rfl _ _ gb156 26 #[.int .i64 x3_1, .int .i64 x5_2, .int .i64 (wrap64 (x0_2 + 1))] (0, 0) _ rfl (by (with_reducible repeat (first | refine blk_drewN ?_ _ | refine blk_drew ?_ | refine blk_alloc ?_ _)); refine blk_put (cs := #[.int .i64 x3_1, .int .i64 x5_2, .int .i64 0]) ?_ 2 _ rfl; (with_reducible repeat (first | refine blk_drewN ?_ _ | refine blk_drew ?_ | refine blk_alloc ?_ _)); refine blk_put (cs := #[.int .i64 x3_1, .int .i64 0, .int .i64 0]) ?_ 1 _ rfl; (with_reducible repeat (first | refine blk_drewN ?_ _ | refine blk_drew ?_ | refine blk_alloc ?_ _)); refine blk_put (cs := #[.int .i64 0, .int .i64 0, .int .i64 0]) ?_ 0 _ rfl; (with_reducible repeat (first | refine blk_drewN ?_ _ | refine blk_drew ?_ | refine blk_alloc ?_ _)); exact BK156.out) Tryd.underlying26 rfl (by kernel_rfl)) rfl ?_
            exact ⟨by first | rfl | (simp [errW_none, errW_some] <;> rfl) | (simp [*, errW_none, errW_some] <;> rfl), by repeat (first | (with_reducible first | exact HB.out | apply below_alloc | apply pw_below_drewN | apply below_drew1 | refine below_set ?_ GE156.out) | exact HB.out)⟩

end Go.Proofs.YtdkdjikfhclmaaaDoor.PSpanCounts
