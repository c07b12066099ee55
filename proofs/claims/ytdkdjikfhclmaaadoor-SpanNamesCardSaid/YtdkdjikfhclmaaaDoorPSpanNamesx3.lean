-- Printed by a wrapper of this session's round the kit's print.py; Lean checks it.
import Derived.Test.YtdkdjikfhclmaaaDoorPSpanNamesx0
import Derived.Test.YtdkdjikfhclmaaaDoorPSpanNamesx1
import Derived.Test.YtdkdjikfhclmaaaDoorPSpanNamesx2
namespace Go.Proofs.YtdkdjikfhclmaaaDoor.PSpanNames
open Go.RowKit Go.Proofs.YtdkdjikfhclmaaaDoorW.PrintWords Go.Proofs.YtdkdjikfhclmaaaDoorW.PrintLast Go.Proofs.YtdkdjikfhclmaaaDoorW.PrintMore
attribute [local go_sem] max2_int min2_int max_two min_two max_three min_three max_four min_four   -- for this text's walks alone
set_option linter.unusedVariables false
set_option linter.unusedSimpArgs false

/-! ### date_Read: function 24 -/
/-- What strconv.Atoi tells, the error apart. -/
def atoiV (l : List UInt8) : Int := match Go.Lib.atoiAll l with | .ok v => v | .range => Go.Lib.atoiSat l | _ => 0
def date_Read.f (k : Nat) (a0 : ByteArray) : Option (Int × Option Int) :=
  if a0.size = 10 then
    (date_Civil_Number.f k (atoiV (a0.extract 0 4).data.toList) (atoiV (a0.extract 5 7).data.toList) (atoiV (a0.extract 8 10).data.toList)).bind fun n =>
      if n.2.isNone = true then (date_Day_Text.f k n.1).bind fun t => (if (t.toList == a0.toList) = true then some (n.1, none) else some (0, some 15))
      else some (0, some 15)
  else some (0, some 15)
theorem date_Read.mono : ∀ a0 k, LeO (date_Read.f k a0) (date_Read.f (k + 1) a0) := by
  intro a0 k
  unfold date_Read.f
  repeat' first
      | (with_reducible exact date_Civil_Number.mono _ _ _ _)
      | (with_reducible exact date_Day_Text.mono _ _)
      | (with_reducible exact LeO.refl _)
      | (with_reducible refine LeO.ite ?_ ?_)
      | (with_reducible refine LeO.bind ?_ (fun _ => ?_))
theorem atoi_any (s : ByteArray) (hs : s.size ≤ 10) (W : World) (hG : Go.Proofs.YtdkdjikfhclmaaaDoor.M.Laid W) : Calls Tryd.prog 28 #[.string s] W fun e w' => (∃ ev, e = .returned (.tuple #[.int .i64 (atoiV s.data.toList), ev])) ∧ Below W.heap.size W w' := by
  rcases hA : Go.Lib.atoiAll s.data.toList with v | _ | _
  · refine (Tryd.strconv_Atoi_ok s (by omega) v hA W).mono ?_
    rintro e w' ⟨rfl, hw⟩
    refine ⟨⟨_, by simp [atoiV, hA]; rfl⟩, ?_⟩
    rcases hw with rfl | ⟨t, rfl⟩
    · exact Below.refl _ _
    · exact Go.Joins.below_bytesWorld _ _ _ _ (Nat.le_refl _)
  · obtain ⟨tp, p, hv⟩ := hG.syn
    refine (Any.strconv_Atoi_syntax_var Tryd.laysC172 s (by omega) hA tp p W hv).mono ?_
    rintro e w' ⟨N, rfl, -, -, hb⟩
    exact ⟨⟨_, by simp [atoiV, hA]; rfl⟩, hb⟩
  · obtain ⟨tp, p, hv⟩ := hG.rng
    refine (Any.strconv_Atoi_range_var Tryd.laysC172 s (by omega) hA tp p W hv).mono ?_
    rintro e w' ⟨N, rfl, -, -, hb⟩
    exact ⟨⟨_, by simp [atoiV, hA]; rfl⟩, hb⟩
theorem atoi_at (s : ByteArray) (v : Int) (hv : atoiV s.data.toList = v) (hs : s.size ≤ 10) (W : World) (hG : Go.Proofs.YtdkdjikfhclmaaaDoor.M.Laid W) : Calls Tryd.prog 28 #[.string s] W fun e w' => (∃ ev, e = .returned (.tuple #[.int .i64 v, ev])) ∧ Below W.heap.size W w' := hv ▸ atoi_any s hs W hG
set_option maxHeartbeats 4000000 in
theorem read_len (s : ByteArray) (h1 : ((s.size : Int) == 10) = false) (h2 : ((s.size : Int) != 10) = true) (w : World) :
    Calls Tryd.prog 24 #[.string s] w fun e w' => e = .returned (.tuple #[.int .i32 0, errW (some 15)]) ∧ Below w.heap.size w w' := by
  have i0 : ∀ w, (Instr.index 64 (.agg #[.int .i64 0, .int .i64 4, .int .i64 5, .int .i64 7, .int .i64 8, .int .i64 10]) (.int .i64 0)).run Tryd.prog w = .ok (.agg #[.int .i64 0, .int .i64 4]) w := fun _ => by kernel_rfl
  have i1 : ∀ w, (Instr.index 64 (.agg #[.int .i64 0, .int .i64 4, .int .i64 5, .int .i64 7, .int .i64 8, .int .i64 10]) (.int .i64 1)).run Tryd.prog w = .ok (.agg #[.int .i64 5, .int .i64 7]) w := fun _ => by kernel_rfl
  have i2 : ∀ w, (Instr.index 64 (.agg #[.int .i64 0, .int .i64 4, .int .i64 5, .int .i64 7, .int .i64 8, .int .i64 10]) (.int .i64 2)).run Tryd.prog w = .ok (.agg #[.int .i64 8, .int .i64 10]) w := fun _ => by kernel_rfl
  go_enter Tryd.func24, Tryd.ntmps24
  go_wp2_with (first | ((with_reducible refine gate_dst (N := 4) rfl ?_); (try (refine gate_guard (by rfl) ?_; dsimp only)); refine box_event ?hg (N := 4) ?hd (cs := #[.int .i64 0, .int .i64 0, .int .i64 0]) (t := 62) ?hr ?_; (case hd => rfl); (case hg => rfl); (case hr => first | (go_simp; done) | (go_simp; rfl)); intro gb4 hg w4 hbox hb; have BK4 := Aside0.mk hbox; have HB := Aside0.mk hb; have GE4 := Aside0.mk (Nat.le_of_eq hg.symm : w.heap.size ≤ gb4); clear hbox hb hg))
  refine wp_loop_rounds 1 ?_
  rw [rounds_succ]
  go_wp2_with (first | ((with_reducible refine gate_dst (N := 6) rfl ?_); (try (refine gate_guard (by rfl) ?_; dsimp only)); refine box_event ?hg (N := 6) ?hd (cs := #[.int .i64 0, .int .i64 0]) (t := 63) ?hr ?_; (case hd => rfl); (case hg => rfl); (case hr => first | (go_simp; done) | (go_simp; rfl)); intro gb6 hg w6 hbox hb; have m_ := Aside0.mk (below_step HB.out hb); have GE6 := Aside0.mk (Nat.le_trans (below_size HB.out) (Nat.le_of_eq hg.symm) : w.heap.size ≤ gb6); clear HB; have HB := m_; clear m_; have hc6_0 : w6.cell? ⟨gb6, 0, none⟩ = some (.int .i64 0) := (blk_cell hbox 0).trans rfl; have hc6_1 : w6.cell? ⟨gb6, 1, none⟩ = some (.int .i64 0) := (blk_cell hbox 1).trans rfl; have hf6_0 := blk_frozen hbox 0; have hf6_1 := blk_frozen hbox 1; clear hbox hb hg))
  go_ret2
  exact ⟨by simp [errW_some], by repeat (first | exact HB.out | refine below_set ?_ GE6.out)⟩
set_option maxHeartbeats 8000000 in
theorem read_num (k : Nat) (a0 : ByteArray) (hs : a0.size = 10) (n c : Int) (v0 v1 v2 : Int) (e0 : atoiV (a0.extract 0 4).data.toList = v0) (e1 : atoiV (a0.extract 5 7).data.toList = v1) (e2 : atoiV (a0.extract 8 10).data.toList = v2) (hN : date_Civil_Number.f k v0 v1 v2 = some (n, some c)) (w : World) (hG : Go.Proofs.YtdkdjikfhclmaaaDoor.M.Laid w) :
    Calls Tryd.prog 24 #[.string a0] w fun e w' => e = .returned (.tuple #[.int .i32 0, errW (some 15)]) ∧ Below w.heap.size w w' := by
  have E0 := Aside0.mk e0
  have E1 := Aside0.mk e1
  have E2 := Aside0.mk e2
  clear e0 e1 e2
  have i0 : ∀ w, (Instr.index 64 (.agg #[.int .i64 0, .int .i64 4, .int .i64 5, .int .i64 7, .int .i64 8, .int .i64 10]) (.int .i64 0)).run Tryd.prog w = .ok (.agg #[.int .i64 0, .int .i64 4]) w := fun _ => by kernel_rfl
  have i1 : ∀ w, (Instr.index 64 (.agg #[.int .i64 0, .int .i64 4, .int .i64 5, .int .i64 7, .int .i64 8, .int .i64 10]) (.int .i64 1)).run Tryd.prog w = .ok (.agg #[.int .i64 5, .int .i64 7]) w := fun _ => by kernel_rfl
  have i2 : ∀ w, (Instr.index 64 (.agg #[.int .i64 0, .int .i64 4, .int .i64 5, .int .i64 7, .int .i64 8, .int .i64 10]) (.int .i64 2)).run Tryd.prog w = .ok (.agg #[.int .i64 8, .int .i64 10]) w := fun _ => by kernel_rfl
  have HG := Aside0.mk hG
  clear hG
  have HN := Aside0.mk hN
  clear hN
  go_enter Tryd.func24, Tryd.ntmps24
  go_wp2_with (first | ((with_reducible refine gate_dst (N := 4) rfl ?_); (try (refine gate_guard (by rfl) ?_; dsimp only)); refine box_event ?hg (N := 4) ?hd (cs := #[.int .i64 0, .int .i64 0, .int .i64 0]) (t := 62) ?hr ?_; (case hd => rfl); (case hg => rfl); (case hr => first | (go_simp; done) | (go_simp; rfl)); intro gb4 hg w4 hbox hb; have BK4 := Aside0.mk hbox; have HB := Aside0.mk hb; have GE4 := Aside0.mk (Nat.le_of_eq hg.symm : w.heap.size ≤ gb4); clear hbox hb hg))
  refine wp_loop_rounds 4 ?_
  rw [rounds_succ]
  go_wp2_with (first | ((with_reducible refine gate_dst (N := 6) rfl ?_); (try (refine gate_guard (by rfl) ?_; dsimp only)); refine box_event ?hg (N := 6) ?hd (cs := #[.int .i64 0, .int .i64 0]) (t := 63) ?hr ?_; (case hd => rfl); (case hg => rfl); (case hr => first | (go_simp; done) | (go_simp; rfl)); intro gb6_0 hg w6_0 hbox hb; have n0_ := Aside0.mk (blk_below (BK4.out) hb); have m_ := Aside0.mk (below_step (HB.out) hb); have NE := Aside0.mk (by rw [hg]; exact Nat.ne_of_lt (blk_lt (BK4.out)) : gb4 ≠ gb6_0); have GE6 := Aside0.mk (Nat.le_trans (below_size (HB.out)) (Nat.le_of_eq hg.symm) : w.heap.size ≤ gb6_0); clear BK4 HB; have BK4 := n0_; have HB := m_; clear n0_ m_; have hc6_0 : w6_0.cell? ⟨gb6_0, 0, none⟩ = some (.int .i64 0) := (blk_cell hbox 0).trans rfl; have hc6_1 : w6_0.cell? ⟨gb6_0, 1, none⟩ = some (.int .i64 0) := (blk_cell hbox 1).trans rfl; have hf6_0 := blk_frozen hbox 0; have hf6_1 := blk_frozen hbox 1; clear hbox hb hg) | (go_at_call 28; (with_reducible refine (atoi_at (a0.extract 0 4) v0 E0.out (by first | (simp [ByteArray.size_extract]; done) | (simp [ByteArray.size_extract]; omega)) _ (Go.Proofs.YtdkdjikfhclmaaaDoor.M.Laid.below HG.out (below_set (below_set HB.out GE6.out) GE6.out))).mono ?_); rintro e w7_0 ⟨⟨ev0, rfl⟩, hb⟩; have n0_ := Aside0.mk (blk_below (blk_far (blk_far BK4.out (p := ⟨gb6_0, 0, none⟩) NE.out _) (p := ⟨gb6_0, 1, none⟩) NE.out _) hb); have m_ := Aside0.mk (below_step (below_set (below_set HB.out GE6.out) GE6.out) hb); clear BK4 HB; have BK4 := n0_; have HB := m_; clear n0_ m_ hc6_0 hc6_1 hf6_0 hf6_1; have hc4_0 : w7_0.cell? ⟨gb4, 0, none⟩ = some (.int .i64 0) := (blk_cell BK4.out 0).trans rfl; have hf4_0 := blk_frozen BK4.out 0; have hc4_1 : w7_0.cell? ⟨gb4, 1, none⟩ = some (.int .i64 0) := (blk_cell BK4.out 1).trans rfl; have hf4_1 := blk_frozen BK4.out 1; have hc4_2 : w7_0.cell? ⟨gb4, 2, none⟩ = some (.int .i64 0) := (blk_cell BK4.out 2).trans rfl; have hf4_2 := blk_frozen BK4.out 2; clear hb NE GE6))
  rw [rounds_succ]
  go_wp2_with (first | ((with_reducible refine gate_dst (N := 6) rfl ?_); (try (refine gate_guard (by rfl) ?_; dsimp only)); refine box_event ?hg (N := 6) ?hd (cs := #[.int .i64 0, .int .i64 0]) (t := 63) ?hr ?_; (case hd => rfl); (case hg => rfl); (case hr => first | (go_simp; done) | (go_simp; rfl)); intro gb6_1 hg w6_1 hbox hb; have n0_ := Aside0.mk (blk_below (blk_put (cs' := #[.int .i64 v0, .int .i64 0, .int .i64 0]) BK4.out 0 (.int .i64 v0) rfl) hb); have m_ := Aside0.mk (below_step (below_set HB.out GE4.out) hb); have NE := Aside0.mk (by rw [hg]; exact Nat.ne_of_lt (blk_lt (blk_put (cs' := #[.int .i64 v0, .int .i64 0, .int .i64 0]) BK4.out 0 (.int .i64 v0) rfl)) : gb4 ≠ gb6_1); have GE6 := Aside0.mk (Nat.le_trans (below_size (below_set HB.out GE4.out)) (Nat.le_of_eq hg.symm) : w.heap.size ≤ gb6_1); clear BK4 HB; have BK4 := n0_; have HB := m_; clear n0_ m_; have hc6_0 : w6_1.cell? ⟨gb6_1, 0, none⟩ = some (.int .i64 0) := (blk_cell hbox 0).trans rfl; have hc6_1 : w6_1.cell? ⟨gb6_1, 1, none⟩ = some (.int .i64 0) := (blk_cell hbox 1).trans rfl; have hf6_0 := blk_frozen hbox 0; have hf6_1 := blk_frozen hbox 1; clear hbox hb hg) | (go_at_call 28; (with_reducible refine (atoi_at (a0.extract 5 7) v1 E1.out (by first | (simp [ByteArray.size_extract]; done) | (simp [ByteArray.size_extract]; omega)) _ (Go.Proofs.YtdkdjikfhclmaaaDoor.M.Laid.below HG.out (below_set (below_set HB.out GE6.out) GE6.out))).mono ?_); rintro e w7_1 ⟨⟨ev1, rfl⟩, hb⟩; have n0_ := Aside0.mk (blk_below (blk_far (blk_far BK4.out (p := ⟨gb6_1, 0, none⟩) NE.out _) (p := ⟨gb6_1, 1, none⟩) NE.out _) hb); have m_ := Aside0.mk (below_step (below_set (below_set HB.out GE6.out) GE6.out) hb); clear BK4 HB; have BK4 := n0_; have HB := m_; clear n0_ m_ hc6_0 hc6_1 hf6_0 hf6_1; have hc4_0 : w7_1.cell? ⟨gb4, 0, none⟩ = some (.int .i64 v0) := (blk_cell BK4.out 0).trans rfl; have hf4_0 := blk_frozen BK4.out 0; have hc4_1 : w7_1.cell? ⟨gb4, 1, none⟩ = some (.int .i64 0) := (blk_cell BK4.out 1).trans rfl; have hf4_1 := blk_frozen BK4.out 1; have hc4_2 : w7_1.cell? ⟨gb4, 2, none⟩ = some (.int .i64 0) := (blk_cell BK4.out 2).trans rfl; have hf4_2 := blk_frozen BK4.out 2; clear hb NE GE6))
  rw [rounds_succ]
  go_wp2_with (first | ((with_reducible refine gate_dst (N := 6) rfl ?_); (try (refine gate_guard (by rfl) ?_; dsimp only)); refine box_event ?hg (N := 6) ?hd (cs := #[.int .i64 0, .int .i64 0]) (t := 63) ?hr ?_; (case hd => rfl); (case hg => rfl); (case hr => first | (go_simp; done) | (go_simp; rfl)); intro gb6_2 hg w6_2 hbox hb; have n0_ := Aside0.mk (blk_below (blk_put (cs' := #[.int .i64 v0, .int .i64 v1, .int .i64 0]) BK4.out 1 (.int .i64 v1) rfl) hb); have m_ := Aside0.mk (below_step (below_set HB.out GE4.out) hb); have NE := Aside0.mk (by rw [hg]; exact Nat.ne_of_lt (blk_lt (blk_put (cs' := #[.int .i64 v0, .int .i64 v1, .int .i64 0]) BK4.out 1 (.int .i64 v1) rfl)) : gb4 ≠ gb6_2); have GE6 := Aside0.mk (Nat.le_trans (below_size (below_set HB.out GE4.out)) (Nat.le_of_eq hg.symm) : w.heap.size ≤ gb6_2); clear BK4 HB; have BK4 := n0_; have HB := m_; clear n0_ m_; have hc6_0 : w6_2.cell? ⟨gb6_2, 0, none⟩ = some (.int .i64 0) := (blk_cell hbox 0).trans rfl; have hc6_1 : w6_2.cell? ⟨gb6_2, 1, none⟩ = some (.int .i64 0) := (blk_cell hbox 1).trans rfl; have hf6_0 := blk_frozen hbox 0; have hf6_1 := blk_frozen hbox 1; clear hbox hb hg) | (go_at_call 28; (with_reducible refine (atoi_at (a0.extract 8 10) v2 E2.out (by first | (simp [ByteArray.size_extract]; done) | (simp [ByteArray.size_extract]; omega)) _ (Go.Proofs.YtdkdjikfhclmaaaDoor.M.Laid.below HG.out (below_set (below_set HB.out GE6.out) GE6.out))).mono ?_); rintro e w7_2 ⟨⟨ev2, rfl⟩, hb⟩; have n0_ := Aside0.mk (blk_below (blk_far (blk_far BK4.out (p := ⟨gb6_2, 0, none⟩) NE.out _) (p := ⟨gb6_2, 1, none⟩) NE.out _) hb); have m_ := Aside0.mk (below_step (below_set (below_set HB.out GE6.out) GE6.out) hb); clear BK4 HB; have BK4 := n0_; have HB := m_; clear n0_ m_ hc6_0 hc6_1 hf6_0 hf6_1; have hc4_0 : w7_2.cell? ⟨gb4, 0, none⟩ = some (.int .i64 v0) := (blk_cell BK4.out 0).trans rfl; have hf4_0 := blk_frozen BK4.out 0; have hc4_1 : w7_2.cell? ⟨gb4, 1, none⟩ = some (.int .i64 v1) := (blk_cell BK4.out 1).trans rfl; have hf4_1 := blk_frozen BK4.out 1; have hc4_2 : w7_2.cell? ⟨gb4, 2, none⟩ = some (.int .i64 0) := (blk_cell BK4.out 2).trans rfl; have hf4_2 := blk_frozen BK4.out 2; clear hb NE GE6))
  rw [rounds_succ]
  go_wp2_with (first | (go_at_call 29; (with_reducible refine (date_Civil_Number.calls k _ _ _ n (some c) _ HN.out).mono ?_); rintro e w8 ⟨rfl, hb⟩; have m_ := Aside0.mk (below_step (below_set HB.out GE4.out) hb); clear HB; have HB := m_; clear m_ hb; simp only [errW_none, errW_some]))
  go_ret2
  exact ⟨by simp [errW_some], HB.out⟩
set_option maxHeartbeats 8000000 in
theorem read_yes (k : Nat) (a0 : ByteArray) (hs : a0.size = 10) (n : Int) (t : ByteArray) (v0 v1 v2 : Int) (e0 : atoiV (a0.extract 0 4).data.toList = v0) (e1 : atoiV (a0.extract 5 7).data.toList = v1) (e2 : atoiV (a0.extract 8 10).data.toList = v2) (hN : date_Civil_Number.f k v0 v1 v2 = some (n, none)) (hT : date_Day_Text.f k n = some t) (ht : (t.toList == a0.toList) = true) (w : World) (hG : Go.Proofs.YtdkdjikfhclmaaaDoor.M.Laid w) :
    Calls Tryd.prog 24 #[.string a0] w fun e w' => e = .returned (.tuple #[.int .i32 n, errW none]) ∧ Below w.heap.size w w' := by
  have E0 := Aside0.mk e0
  have E1 := Aside0.mk e1
  have E2 := Aside0.mk e2
  clear e0 e1 e2
  have i0 : ∀ w, (Instr.index 64 (.agg #[.int .i64 0, .int .i64 4, .int .i64 5, .int .i64 7, .int .i64 8, .int .i64 10]) (.int .i64 0)).run Tryd.prog w = .ok (.agg #[.int .i64 0, .int .i64 4]) w := fun _ => by kernel_rfl
  have i1 : ∀ w, (Instr.index 64 (.agg #[.int .i64 0, .int .i64 4, .int .i64 5, .int .i64 7, .int .i64 8, .int .i64 10]) (.int .i64 1)).run Tryd.prog w = .ok (.agg #[.int .i64 5, .int .i64 7]) w := fun _ => by kernel_rfl
  have i2 : ∀ w, (Instr.index 64 (.agg #[.int .i64 0, .int .i64 4, .int .i64 5, .int .i64 7, .int .i64 8, .int .i64 10]) (.int .i64 2)).run Tryd.prog w = .ok (.agg #[.int .i64 8, .int .i64 10]) w := fun _ => by kernel_rfl
  have HG := Aside0.mk hG
  clear hG
  have HN := Aside0.mk hN
  clear hN
  have HT := Aside0.mk hT
  clear hT
  go_enter Tryd.func24, Tryd.ntmps24
  go_wp2_with (first | ((with_reducible refine gate_dst (N := 4) rfl ?_); (try (refine gate_guard (by rfl) ?_; dsimp only)); refine box_event ?hg (N := 4) ?hd (cs := #[.int .i64 0, .int .i64 0, .int .i64 0]) (t := 62) ?hr ?_; (case hd => rfl); (case hg => rfl); (case hr => first | (go_simp; done) | (go_simp; rfl)); intro gb4 hg w4 hbox hb; have BK4 := Aside0.mk hbox; have HB := Aside0.mk hb; have GE4 := Aside0.mk (Nat.le_of_eq hg.symm : w.heap.size ≤ gb4); clear hbox hb hg))
  refine wp_loop_rounds 4 ?_
  rw [rounds_succ]
  go_wp2_with (first | ((with_reducible refine gate_dst (N := 6) rfl ?_); (try (refine gate_guard (by rfl) ?_; dsimp only)); refine box_event ?hg (N := 6) ?hd (cs := #[.int .i64 0, .int .i64 0]) (t := 63) ?hr ?_; (case hd => rfl); (case hg => rfl); (case hr => first | (go_simp; done) | (go_simp; rfl)); intro gb6_0 hg w6_0 hbox hb; have n0_ := Aside0.mk (blk_below (BK4.out) hb); have m_ := Aside0.mk (below_step (HB.out) hb); have NE := Aside0.mk (by rw [hg]; exact Nat.ne_of_lt (blk_lt (BK4.out)) : gb4 ≠ gb6_0); have GE6 := Aside0.mk (Nat.le_trans (below_size (HB.out)) (Nat.le_of_eq hg.symm) : w.heap.size ≤ gb6_0); clear BK4 HB; have BK4 := n0_; have HB := m_; clear n0_ m_; have hc6_0 : w6_0.cell? ⟨gb6_0, 0, none⟩ = some (.int .i64 0) := (blk_cell hbox 0).trans rfl; have hc6_1 : w6_0.cell? ⟨gb6_0, 1, none⟩ = some (.int .i64 0) := (blk_cell hbox 1).trans rfl; have hf6_0 := blk_frozen hbox 0; have hf6_1 := blk_frozen hbox 1; clear hbox hb hg) | (go_at_call 28; (with_reducible refine (atoi_at (a0.extract 0 4) v0 E0.out (by first | (simp [ByteArray.size_extract]; done) | (simp [ByteArray.size_extract]; omega)) _ (Go.Proofs.YtdkdjikfhclmaaaDoor.M.Laid.below HG.out (below_set (below_set HB.out GE6.out) GE6.out))).mono ?_); rintro e w7_0 ⟨⟨ev0, rfl⟩, hb⟩; have n0_ := Aside0.mk (blk_below (blk_far (blk_far BK4.out (p := ⟨gb6_0, 0, none⟩) NE.out _) (p := ⟨gb6_0, 1, none⟩) NE.out _) hb); have m_ := Aside0.mk (below_step (below_set (below_set HB.out GE6.out) GE6.out) hb); clear BK4 HB; have BK4 := n0_; have HB := m_; clear n0_ m_ hc6_0 hc6_1 hf6_0 hf6_1; have hc4_0 : w7_0.cell? ⟨gb4, 0, none⟩ = some (.int .i64 0) := (blk_cell BK4.out 0).trans rfl; have hf4_0 := blk_frozen BK4.out 0; have hc4_1 : w7_0.cell? ⟨gb4, 1, none⟩ = some (.int .i64 0) := (blk_cell BK4.out 1).trans rfl; have hf4_1 := blk_frozen BK4.out 1; have hc4_2 : w7_0.cell? ⟨gb4, 2, none⟩ = some (.int .i64 0) := (blk_cell BK4.out 2).trans rfl; have hf4_2 := blk_frozen BK4.out 2; clear hb NE GE6))
  rw [rounds_succ]
  go_wp2_with (first | ((with_reducible refine gate_dst (N := 6) rfl ?_); (try (refine gate_guard (by rfl) ?_; dsimp only)); refine box_event ?hg (N := 6) ?hd (cs := #[.int .i64 0, .int .i64 0]) (t := 63) ?hr ?_; (case hd => rfl); (case hg => rfl); (case hr => first | (go_simp; done) | (go_simp; rfl)); intro gb6_1 hg w6_1 hbox hb; have n0_ := Aside0.mk (blk_below (blk_put (cs' := #[.int .i64 v0, .int .i64 0, .int .i64 0]) BK4.out 0 (.int .i64 v0) rfl) hb); have m_ := Aside0.mk (below_step (below_set HB.out GE4.out) hb); have NE := Aside0.mk (by rw [hg]; exact Nat.ne_of_lt (blk_lt (blk_put (cs' := #[.int .i64 v0, .int .i64 0, .int .i64 0]) BK4.out 0 (.int .i64 v0) rfl)) : gb4 ≠ gb6_1); have GE6 := Aside0.mk (Nat.le_trans (below_size (below_set HB.out GE4.out)) (Nat.le_of_eq hg.symm) : w.heap.size ≤ gb6_1); clear BK4 HB; have BK4 := n0_; have HB := m_; clear n0_ m_; have hc6_0 : w6_1.cell? ⟨gb6_1, 0, none⟩ = some (.int .i64 0) := (blk_cell hbox 0).trans rfl; have hc6_1 : w6_1.cell? ⟨gb6_1, 1, none⟩ = some (.int .i64 0) := (blk_cell hbox 1).trans rfl; have hf6_0 := blk_frozen hbox 0; have hf6_1 := blk_frozen hbox 1; clear hbox hb hg) | (go_at_call 28; (with_reducible refine (atoi_at (a0.extract 5 7) v1 E1.out (by first | (simp [ByteArray.size_extract]; done) | (simp [ByteArray.size_extract]; omega)) _ (Go.Proofs.YtdkdjikfhclmaaaDoor.M.Laid.below HG.out (below_set (below_set HB.out GE6.out) GE6.out))).mono ?_); rintro e w7_1 ⟨⟨ev1, rfl⟩, hb⟩; have n0_ := Aside0.mk (blk_below (blk_far (blk_far BK4.out (p := ⟨gb6_1, 0, none⟩) NE.out _) (p := ⟨gb6_1, 1, none⟩) NE.out _) hb); have m_ := Aside0.mk (below_step (below_set (below_set HB.out GE6.out) GE6.out) hb); clear BK4 HB; have BK4 := n0_; have HB := m_; clear n0_ m_ hc6_0 hc6_1 hf6_0 hf6_1; have hc4_0 : w7_1.cell? ⟨gb4, 0, none⟩ = some (.int .i64 v0) := (blk_cell BK4.out 0).trans rfl; have hf4_0 := blk_frozen BK4.out 0; have hc4_1 : w7_1.cell? ⟨gb4, 1, none⟩ = some (.int .i64 0) := (blk_cell BK4.out 1).trans rfl; have hf4_1 := blk_frozen BK4.out 1; have hc4_2 : w7_1.cell? ⟨gb4, 2, none⟩ = some (.int .i64 0) := (blk_cell BK4.out 2).trans rfl; have hf4_2 := blk_frozen BK4.out 2; clear hb NE GE6))
  rw [rounds_succ]
  go_wp2_with (first | ((with_reducible refine gate_dst (N := 6) rfl ?_); (try (refine gate_guard (by rfl) ?_; dsimp only)); refine box_event ?hg (N := 6) ?hd (cs := #[.int .i64 0, .int .i64 0]) (t := 63) ?hr ?_; (case hd => rfl); (case hg => rfl); (case hr => first | (go_simp; done) | (go_simp; rfl)); intro gb6_2 hg w6_2 hbox hb; have n0_ := Aside0.mk (blk_below (blk_put (cs' := #[.int .i64 v0, .int .i64 v1, .int .i64 0]) BK4.out 1 (.int .i64 v1) rfl) hb); have m_ := Aside0.mk (below_step (below_set HB.out GE4.out) hb); have NE := Aside0.mk (by rw [hg]; exact Nat.ne_of_lt (blk_lt (blk_put (cs' := #[.int .i64 v0, .int .i64 v1, .int .i64 0]) BK4.out 1 (.int .i64 v1) rfl)) : gb4 ≠ gb6_2); have GE6 := Aside0.mk (Nat.le_trans (below_size (below_set HB.out GE4.out)) (Nat.le_of_eq hg.symm) : w.heap.size ≤ gb6_2); clear BK4 HB; have BK4 := n0_; have HB := m_; clear n0_ m_; have hc6_0 : w6_2.cell? ⟨gb6_2, 0, none⟩ = some (.int .i64 0) := (blk_cell hbox 0).trans rfl; have hc6_1 : w6_2.cell? ⟨gb6_2, 1, none⟩ = some (.int .i64 0) := (blk_cell hbox 1).trans rfl; have hf6_0 := blk_frozen hbox 0; have hf6_1 := blk_frozen hbox 1; clear hbox hb hg) | (go_at_call 28; (with_reducible refine (atoi_at (a0.extract 8 10) v2 E2.out (by first | (simp [ByteArray.size_extract]; done) | (simp [ByteArray.size_extract]; omega)) _ (Go.Proofs.YtdkdjikfhclmaaaDoor.M.Laid.below HG.out (below_set (below_set HB.out GE6.out) GE6.out))).mono ?_); rintro e w7_2 ⟨⟨ev2, rfl⟩, hb⟩; have n0_ := Aside0.mk (blk_below (blk_far (blk_far BK4.out (p := ⟨gb6_2, 0, none⟩) NE.out _) (p := ⟨gb6_2, 1, none⟩) NE.out _) hb); have m_ := Aside0.mk (below_step (below_set (below_set HB.out GE6.out) GE6.out) hb); clear BK4 HB; have BK4 := n0_; have HB := m_; clear n0_ m_ hc6_0 hc6_1 hf6_0 hf6_1; have hc4_0 : w7_2.cell? ⟨gb4, 0, none⟩ = some (.int .i64 v0) := (blk_cell BK4.out 0).trans rfl; have hf4_0 := blk_frozen BK4.out 0; have hc4_1 : w7_2.cell? ⟨gb4, 1, none⟩ = some (.int .i64 v1) := (blk_cell BK4.out 1).trans rfl; have hf4_1 := blk_frozen BK4.out 1; have hc4_2 : w7_2.cell? ⟨gb4, 2, none⟩ = some (.int .i64 0) := (blk_cell BK4.out 2).trans rfl; have hf4_2 := blk_frozen BK4.out 2; clear hb NE GE6))
  rw [rounds_succ]
  go_wp2_with (first | (go_at_call 29; (with_reducible refine (date_Civil_Number.calls k _ _ _ n none _ HN.out).mono ?_); rintro e w8 ⟨rfl, hb⟩; have m_ := Aside0.mk (below_step (below_set HB.out GE4.out) hb); clear HB; have HB := m_; clear m_ hb; simp only [errW_none, errW_some]) | (go_at_call 30; (with_reducible refine (date_Day_Text.calls k _ _ _ (Go.Proofs.YtdkdjikfhclmaaaDoor.M.Laid.below HG.out HB.out) HT.out).mono ?_); rintro e w9 ⟨rfl, hb⟩; have m_ := Aside0.mk (below_step HB.out hb); clear HB; have HB := m_; clear m_ hb))
  go_ret2
  exact ⟨by simp [errW_some, errW_none], HB.out⟩
set_option maxHeartbeats 8000000 in
theorem read_no (k : Nat) (a0 : ByteArray) (hs : a0.size = 10) (n : Int) (t : ByteArray) (v0 v1 v2 : Int) (e0 : atoiV (a0.extract 0 4).data.toList = v0) (e1 : atoiV (a0.extract 5 7).data.toList = v1) (e2 : atoiV (a0.extract 8 10).data.toList = v2) (hN : date_Civil_Number.f k v0 v1 v2 = some (n, none)) (hT : date_Day_Text.f k n = some t) (ht : (t.toList == a0.toList) = false) (w : World) (hG : Go.Proofs.YtdkdjikfhclmaaaDoor.M.Laid w) :
    Calls Tryd.prog 24 #[.string a0] w fun e w' => e = .returned (.tuple #[.int .i32 0, errW (some 15)]) ∧ Below w.heap.size w w' := by
  have E0 := Aside0.mk e0
  have E1 := Aside0.mk e1
  have E2 := Aside0.mk e2
  clear e0 e1 e2
  have i0 : ∀ w, (Instr.index 64 (.agg #[.int .i64 0, .int .i64 4, .int .i64 5, .int .i64 7, .int .i64 8, .int .i64 10]) (.int .i64 0)).run Tryd.prog w = .ok (.agg #[.int .i64 0, .int .i64 4]) w := fun _ => by kernel_rfl
  have i1 : ∀ w, (Instr.index 64 (.agg #[.int .i64 0, .int .i64 4, .int .i64 5, .int .i64 7, .int .i64 8, .int .i64 10]) (.int .i64 1)).run Tryd.prog w = .ok (.agg #[.int .i64 5, .int .i64 7]) w := fun _ => by kernel_rfl
  have i2 : ∀ w, (Instr.index 64 (.agg #[.int .i64 0, .int .i64 4, .int .i64 5, .int .i64 7, .int .i64 8, .int .i64 10]) (.int .i64 2)).run Tryd.prog w = .ok (.agg #[.int .i64 8, .int .i64 10]) w := fun _ => by kernel_rfl
  have HG := Aside0.mk hG
  clear hG
  have HN := Aside0.mk hN
  clear hN
  have HT := Aside0.mk hT
  clear hT
  go_enter Tryd.func24, Tryd.ntmps24
  go_wp2_with (first | ((with_reducible refine gate_dst (N := 4) rfl ?_); (try (refine gate_guard (by rfl) ?_; dsimp only)); refine box_event ?hg (N := 4) ?hd (cs := #[.int .i64 0, .int .i64 0, .int .i64 0]) (t := 62) ?hr ?_; (case hd => rfl); (case hg => rfl); (case hr => first | (go_simp; done) | (go_simp; rfl)); intro gb4 hg w4 hbox hb; have BK4 := Aside0.mk hbox; have HB := Aside0.mk hb; have GE4 := Aside0.mk (Nat.le_of_eq hg.symm : w.heap.size ≤ gb4); clear hbox hb hg))
  refine wp_loop_rounds 4 ?_
  rw [rounds_succ]
  go_wp2_with (first | ((with_reducible refine gate_dst (N := 6) rfl ?_); (try (refine gate_guard (by rfl) ?_; dsimp only)); refine box_event ?hg (N := 6) ?hd (cs := #[.int .i64 0, .int .i64 0]) (t := 63) ?hr ?_; (case hd => rfl); (case hg => rfl); (case hr => first | (go_simp; done) | (go_simp; rfl)); intro gb6_0 hg w6_0 hbox hb; have n0_ := Aside0.mk (blk_below (BK4.out) hb); have m_ := Aside0.mk (below_step (HB.out) hb); have NE := Aside0.mk (by rw [hg]; exact Nat.ne_of_lt (blk_lt (BK4.out)) : gb4 ≠ gb6_0); have GE6 := Aside0.mk (Nat.le_trans (below_size (HB.out)) (Nat.le_of_eq hg.symm) : w.heap.size ≤ gb6_0); clear BK4 HB; have BK4 := n0_; have HB := m_; clear n0_ m_; have hc6_0 : w6_0.cell? ⟨gb6_0, 0, none⟩ = some (.int .i64 0) := (blk_cell hbox 0).trans rfl; have hc6_1 : w6_0.cell? ⟨gb6_0, 1, none⟩ = some (.int .i64 0) := (blk_cell hbox 1).trans rfl; have hf6_0 := blk_frozen hbox 0; have hf6_1 := blk_frozen hbox 1; clear hbox hb hg) | (go_at_call 28; (with_reducible refine (atoi_at (a0.extract 0 4) v0 E0.out (by first | (simp [ByteArray.size_extract]; done) | (simp [ByteArray.size_extract]; omega)) _ (Go.Proofs.YtdkdjikfhclmaaaDoor.M.Laid.below HG.out (below_set (below_set HB.out GE6.out) GE6.out))).mono ?_); rintro e w7_0 ⟨⟨ev0, rfl⟩, hb⟩; have n0_ := Aside0.mk (blk_below (blk_far (blk_far BK4.out (p := ⟨gb6_0, 0, none⟩) NE.out _) (p := ⟨gb6_0, 1, none⟩) NE.out _) hb); have m_ := Aside0.mk (below_step (below_set (below_set HB.out GE6.out) GE6.out) hb); clear BK4 HB; have BK4 := n0_; have HB := m_; clear n0_ m_ hc6_0 hc6_1 hf6_0 hf6_1; have hc4_0 : w7_0.cell? ⟨gb4, 0, none⟩ = some (.int .i64 0) := (blk_cell BK4.out 0).trans rfl; have hf4_0 := blk_frozen BK4.out 0; have hc4_1 : w7_0.cell? ⟨gb4, 1, none⟩ = some (.int .i64 0) := (blk_cell BK4.out 1).trans rfl; have hf4_1 := blk_frozen BK4.out 1; have hc4_2 : w7_0.cell? ⟨gb4, 2, none⟩ = some (.int .i64 0) := (blk_cell BK4.out 2).trans rfl; have hf4_2 := blk_frozen BK4.out 2; clear hb NE GE6))
  rw [rounds_succ]
  go_wp2_with (first | ((with_reducible refine gate_dst (N := 6) rfl ?_); (try (refine gate_guard (by rfl) ?_; dsimp only)); refine box_event ?hg (N := 6) ?hd (cs := #[.int .i64 0, .int .i64 0]) (t := 63) ?hr ?_; (case hd => rfl); (case hg => rfl); (case hr => first | (go_simp; done) | (go_simp; rfl)); intro gb6_1 hg w6_1 hbox hb; have n0_ := Aside0.mk (blk_below (blk_put (cs' := #[.int .i64 v0, .int .i64 0, .int .i64 0]) BK4.out 0 (.int .i64 v0) rfl) hb); have m_ := Aside0.mk (below_step (below_set HB.out GE4.out) hb); have NE := Aside0.mk (by rw [hg]; exact Nat.ne_of_lt (blk_lt (blk_put (cs' := #[.int .i64 v0, .int .i64 0, .int .i64 0]) BK4.out 0 (.int .i64 v0) rfl)) : gb4 ≠ gb6_1); have GE6 := Aside0.mk (Nat.le_trans (below_size (below_set HB.out GE4.out)) (Nat.le_of_eq hg.symm) : w.heap.size ≤ gb6_1); clear BK4 HB; have BK4 := n0_; have HB := m_; clear n0_ m_; have hc6_0 : w6_1.cell? ⟨gb6_1, 0, none⟩ = some (.int .i64 0) := (blk_cell hbox 0).trans rfl; have hc6_1 : w6_1.cell? ⟨gb6_1, 1, none⟩ = some (.int .i64 0) := (blk_cell hbox 1).trans rfl; have hf6_0 := blk_frozen hbox 0; have hf6_1 := blk_frozen hbox 1; clear hbox hb hg) | (go_at_call 28; (with_reducible refine (atoi_at (a0.extract 5 7) v1 E1.out (by first | (simp [ByteArray.size_extract]; done) | (simp [ByteArray.size_extract]; omega)) _ (Go.Proofs.YtdkdjikfhclmaaaDoor.M.Laid.below HG.out (below_set (below_set HB.out GE6.out) GE6.out))).mono ?_); rintro e w7_1 ⟨⟨ev1, rfl⟩, hb⟩; have n0_ := Aside0.mk (blk_below (blk_far (blk_far BK4.out (p := ⟨gb6_1, 0, none⟩) NE.out _) (p := ⟨gb6_1, 1, none⟩) NE.out _) hb); have m_ := Aside0.mk (below_step (below_set (below_set HB.out GE6.out) GE6.out) hb); clear BK4 HB; have BK4 := n0_; have HB := m_; clear n0_ m_ hc6_0 hc6_1 hf6_0 hf6_1; have hc4_0 : w7_1.cell? ⟨gb4, 0, none⟩ = some (.int .i64 v0) := (blk_cell BK4.out 0).trans rfl; have hf4_0 := blk_frozen BK4.out 0; have hc4_1 : w7_1.cell? ⟨gb4, 1, none⟩ = some (.int .i64 0) := (blk_cell BK4.out 1).trans rfl; have hf4_1 := blk_frozen BK4.out 1; have hc4_2 : w7_1.cell? ⟨gb4, 2, none⟩ = some (.int .i64 0) := (blk_cell BK4.out 2).trans rfl; have hf4_2 := blk_frozen BK4.out 2; clear hb NE GE6))
  rw [rounds_succ]
  go_wp2_with (first | ((with_reducible refine gate_dst (N := 6) rfl ?_); (try (refine gate_guard (by rfl) ?_; dsimp only)); refine box_event ?hg (N := 6) ?hd (cs := #[.int .i64 0, .int .i64 0]) (t := 63) ?hr ?_; (case hd => rfl); (case hg => rfl); (case hr => first | (go_simp; done) | (go_simp; rfl)); intro gb6_2 hg w6_2 hbox hb; have n0_ := Aside0.mk (blk_below (blk_put (cs' := #[.int .i64 v0, .int .i64 v1, .int .i64 0]) BK4.out 1 (.int .i64 v1) rfl) hb); have m_ := Aside0.mk (below_step (below_set HB.out GE4.out) hb); have NE := Aside0.mk (by rw [hg]; exact Nat.ne_of_lt (blk_lt (blk_put (cs' := #[.int .i64 v0, .int .i64 v1, .int .i64 0]) BK4.out 1 (.int .i64 v1) rfl)) : gb4 ≠ gb6_2); have GE6 := Aside0.mk (Nat.le_trans (below_size (below_set HB.out GE4.out)) (Nat.le_of_eq hg.symm) : w.heap.size ≤ gb6_2); clear BK4 HB; have BK4 := n0_; have HB := m_; clear n0_ m_; have hc6_0 : w6_2.cell? ⟨gb6_2, 0, none⟩ = some (.int .i64 0) := (blk_cell hbox 0).trans rfl; have hc6_1 : w6_2.cell? ⟨gb6_2, 1, none⟩ = some (.int .i64 0) := (blk_cell hbox 1).trans rfl; have hf6_0 := blk_frozen hbox 0; have hf6_1 := blk_frozen hbox 1; clear hbox hb hg) | (go_at_call 28; (with_reducible refine (atoi_at (a0.extract 8 10) v2 E2.out (by first | (simp [ByteArray.size_extract]; done) | (simp [ByteArray.size_extract]; omega)) _ (Go.Proofs.YtdkdjikfhclmaaaDoor.M.Laid.below HG.out (below_set (below_set HB.out GE6.out) GE6.out))).mono ?_); rintro e w7_2 ⟨⟨ev2, rfl⟩, hb⟩; have n0_ := Aside0.mk (blk_below (blk_far (blk_far BK4.out (p := ⟨gb6_2, 0, none⟩) NE.out _) (p := ⟨gb6_2, 1, none⟩) NE.out _) hb); have m_ := Aside0.mk (below_step (below_set (below_set HB.out GE6.out) GE6.out) hb); clear BK4 HB; have BK4 := n0_; have HB := m_; clear n0_ m_ hc6_0 hc6_1 hf6_0 hf6_1; have hc4_0 : w7_2.cell? ⟨gb4, 0, none⟩ = some (.int .i64 v0) := (blk_cell BK4.out 0).trans rfl; have hf4_0 := blk_frozen BK4.out 0; have hc4_1 : w7_2.cell? ⟨gb4, 1, none⟩ = some (.int .i64 v1) := (blk_cell BK4.out 1).trans rfl; have hf4_1 := blk_frozen BK4.out 1; have hc4_2 : w7_2.cell? ⟨gb4, 2, none⟩ = some (.int .i64 0) := (blk_cell BK4.out 2).trans rfl; have hf4_2 := blk_frozen BK4.out 2; clear hb NE GE6))
  rw [rounds_succ]
  go_wp2_with (first | (go_at_call 29; (with_reducible refine (date_Civil_Number.calls k _ _ _ n none _ HN.out).mono ?_); rintro e w8 ⟨rfl, hb⟩; have m_ := Aside0.mk (below_step (below_set HB.out GE4.out) hb); clear HB; have HB := m_; clear m_ hb; simp only [errW_none, errW_some]) | (go_at_call 30; (with_reducible refine (date_Day_Text.calls k _ _ _ (Go.Proofs.YtdkdjikfhclmaaaDoor.M.Laid.below HG.out HB.out) HT.out).mono ?_); rintro e w9 ⟨rfl, hb⟩; have m_ := Aside0.mk (below_step HB.out hb); clear HB; have HB := m_; clear m_ hb))
  go_ret2
  exact ⟨by simp [errW_some, errW_none], HB.out⟩
theorem date_Read.calls (k : Nat) (a0 : ByteArray) (r1 : Int) (r2 : Option Int) (w : World) (hG : Go.Proofs.YtdkdjikfhclmaaaDoor.M.Laid w) (h : date_Read.f k a0 = some (r1, r2)) :
    Calls Tryd.prog 24 #[.string a0] w fun e w' => e = .returned (.tuple #[.int .i32 r1, errW r2]) ∧ Below w.heap.size w w' := by
  unfold date_Read.f at h
  by_cases hs : a0.size = 10
  · rw [if_pos hs] at h
    cases hN : date_Civil_Number.f k (atoiV (a0.extract 0 4).data.toList) (atoiV (a0.extract 5 7).data.toList) (atoiV (a0.extract 8 10).data.toList) with
    | none => rw [hN] at h; cases h
    | some x =>
      obtain ⟨n, c⟩ := x
      rw [hN] at h
      simp only [Option.bind_some] at h
      cases c with
      | some c =>
        simp only [Option.isNone_some, Bool.false_eq_true, if_false, Option.some.injEq, Prod.mk.injEq] at h
        obtain ⟨rfl, rfl⟩ := h
        exact read_num k a0 hs n c _ _ _ rfl rfl rfl hN w hG
      | none =>
        simp only [Option.isNone_none, if_true] at h
        cases hT : date_Day_Text.f k n with
        | none => rw [hT] at h; cases h
        | some t =>
          rw [hT] at h
          simp only [Option.bind_some] at h
          cases ht : (t.toList == a0.toList) with
          | true =>
            rw [ht] at h
            simp only [if_true, Option.some.injEq, Prod.mk.injEq] at h
            obtain ⟨rfl, rfl⟩ := h
            exact read_yes k a0 hs n t _ _ _ rfl rfl rfl hN hT ht w hG
          | false =>
            rw [ht] at h
            simp only [Bool.false_eq_true, if_false, Option.some.injEq, Prod.mk.injEq] at h
            obtain ⟨rfl, rfl⟩ := h
            exact read_no k a0 hs n t _ _ _ rfl rfl rfl hN hT ht w hG
  · rw [if_neg hs] at h
    simp only [Option.some.injEq, Prod.mk.injEq] at h
    obtain ⟨rfl, rfl⟩ := h
    have h1 : ((a0.size : Int) == 10) = false := by rw [beq_eq_false_iff_ne]; omega
    exact read_len a0 h1 (by rw [bne, h1]; rfl) w


/-! ### arrearslaw06_awake: function 8 -/
def arrearslaw06_awake.f (k : Nat)  : Option (Bool) := (date_Read.f k (⟨#[50, 48, 50, 51, 45, 48, 50, 45, 50, 56]⟩ : ByteArray)).bind fun bt144 => ((span_Days.f k 2 bt144.1 (wrap32 (bt144.1 + 1))).bind fun bt146 => (if bt144.2.isNone = true then (if bt146.2.isNone = true then (if bt146.1 = 3 then ((span_Year.f 1).bind fun t150 => (some (t150 == 365))) else (some false)) else (some false)) else (some false)))
theorem arrearslaw06_awake.mono : ∀ k, LeO (arrearslaw06_awake.f k ) (arrearslaw06_awake.f (k + 1) ) := by
  intro  k
  unfold arrearslaw06_awake.f
  repeat' first
      | (with_reducible exact date_Read.mono _ _)
      | (with_reducible exact span_Days.mono _ _ _ _)
      | (with_reducible exact LeO.refl _)
      | (with_reducible exact LeO.none _)
      | (with_reducible refine LeO.ite ?_ ?_)
      | (with_reducible refine LeO.bind ?_ (fun _ => ?_))
      | exact date_Read.mono _ _
      | exact span_Days.mono _ _ _ _
      | exact LeO.none _
      | refine LeO.ite ?_ ?_
      | refine LeO.bind ?_ (fun _ => ?_)
set_option maxHeartbeats 8000000 in
set_option maxRecDepth 100000 in
theorem arrearslaw06_awake.calls (k : Nat)  (r : Bool) (w : World) (hG : Go.Proofs.YtdkdjikfhclmaaaDoor.M.Laid w) (h : arrearslaw06_awake.f k  = some r) :
    Calls Tryd.prog 8 #[] w fun e w' => e = .returned (.bool r) ∧ Below w.heap.size w w' := by
  have hu28 := Tryd.underlying28
  have hu44 := Tryd.underlying44
  have HB := Aside0.mk (Below.refl w.heap.size w)
  have HG := Aside0.mk hG
  clear hG
  have H : ((date_Read.f k (⟨#[50, 48, 50, 51, 45, 48, 50, 45, 50, 56]⟩ : ByteArray)).bind fun bt144 => ((span_Days.f k 2 bt144.1 (wrap32 (bt144.1 + 1))).bind fun bt146 => (if bt144.2.isNone = true then (if bt146.2.isNone = true then (if bt146.1 = 3 then ((span_Year.f 1).bind fun t150 => (some (t150 == 365))) else (some false)) else (some false)) else (some false)))) = some r := h
  clear h
  replace H := Option.bind_eq_some_iff.mp H
  obtain ⟨⟨t144, t145⟩, A10, H⟩ := H
  replace H : ((span_Days.f k 2 t144 (wrap32 (t144 + 1))).bind fun bt146 => (if t145.isNone = true then (if bt146.2.isNone = true then (if bt146.1 = 3 then ((span_Year.f 1).bind fun t150 => (some (t150 == 365))) else (some false)) else (some false)) else (some false))) = some r := H
  have A1 := Aside0.mk A10
  clear A10
  replace H := Option.bind_eq_some_iff.mp H
  obtain ⟨⟨t146, t147⟩, A20, H⟩ := H
  replace H : (if t145.isNone = true then (if t147.isNone = true then (if t146 = 3 then ((span_Year.f 1).bind fun t150 => (some (t150 == 365))) else (some false)) else (some false)) else (some false)) = some r := H
  have A2 := Aside0.mk A20
  clear A20
  rcases t145 with _ | q148
  · have H1 : (if t147.isNone = true then (if t146 = 3 then ((span_Year.f 1).bind fun t150 => (some (t150 == 365))) else (some false)) else (some false)) = some r := by rw [if_pos (show (none : Option Int).isNone = true by rfl)] at H; exact H
    clear H
    have H := H1
    clear H1
    try simp only [errW_none, errW_some]
    rcases t147 with _ | q149
    · have H1 : (if t146 = 3 then ((span_Year.f 1).bind fun t150 => (some (t150 == 365))) else (some false)) = some r := by rw [if_pos (show (none : Option Int).isNone = true by rfl)] at H; exact H
      clear H
      have H := H1
      clear H1
      try simp only [errW_none, errW_some]
      by_cases c3 : t146 = 3
      · rw [if_pos c3] at H
        have c3b0 : (t146 == 3) = true := beq_iff_eq.mpr c3
        have c3b1 : (t146 != 3) = false := bne_eq_false_iff_eq.mpr c3
        clear c3
        replace H := Option.bind_eq_some_iff.mp H
        obtain ⟨t150, A40, H⟩ := H
        replace H : (some (t150 == 365)) = some r := H
        have A4 := Aside0.mk A40
        clear A40
        obtain rfl := Option.some.inj H
        go_enter Tryd.func8, Tryd.ntmps8
        go_wp2_with (first | ((with_reducible refine gate_callee (f := 24) rfl ?_); refine goesL_ (some 6) rfl rfl Tryd.func24 (by kernel_rfl) rfl #[.string (⟨#[50, 48, 50, 51, 45, 48, 50, 45, 50, 56]⟩ : ByteArray)] rfl (by (try simp only [List.map_toArray, List.map_cons, List.map_nil]); first | done | rfl | (simp only [List.length_drop, List.length_take]; rfl)) ?_; (with_reducible refine (date_Read.calls k (⟨#[50, 48, 50, 51, 45, 48, 50, 45, 50, 56]⟩ : ByteArray) t144 none _ ?hGL A1.out).mono ?_); (case hGL => exact Go.Proofs.YtdkdjikfhclmaaaDoor.M.Laid.below HG.out (by repeat (first | (with_reducible first | exact HB.out | apply below_alloc | apply pw_below_drewN | apply below_drew1) | exact HB.out))); rintro e w5 ⟨rfl, hb⟩; refine ⟨_, rfl, ?_⟩; have n0_ := Aside0.mk (below_step (by repeat (first | (with_reducible first | exact HB.out | apply below_alloc | apply pw_below_drewN | apply below_drew1) | exact HB.out)) hb); clear HB; have HB := n0_; clear n0_; (try clear hb); (try clear hb2); (try clear hk); (try clear hi); (try simp only [errW_none, errW_some])) | ((with_reducible refine gate_callee (f := 10) rfl ?_); refine goesL_ (some 13) rfl rfl Tryd.func10 (by kernel_rfl) rfl #[.int .u8 2, .int .i32 t144, .int .i32 (wrap32 (t144 + 1))] rfl (by (try simp only [List.map_toArray, List.map_cons, List.map_nil]); first | done | rfl | (simp only [List.length_drop, List.length_take]; rfl)) ?_; (with_reducible refine (span_Days.calls k 2 t144 (wrap32 (t144 + 1)) t146 none _ A2.out).mono ?_); rintro e w6 ⟨rfl, hb⟩; refine ⟨_, rfl, ?_⟩; have n0_ := Aside0.mk (below_step (by repeat (first | (with_reducible first | exact HB.out | apply below_alloc | apply pw_below_drewN | apply below_drew1) | exact HB.out)) hb); clear HB; have HB := n0_; clear n0_; (try clear hb); (try clear hb2); (try clear hk); (try clear hi); (try simp only [errW_none, errW_some])) | (go_at_call 17; (with_reducible refine (span_Year.calls 1 t150 _ A4.out).mono ?_); rintro e w' ⟨rfl, ⟨nd, rfl⟩⟩))
        go_ret
        exact ⟨by first | rfl | (simp [errW_none, errW_some] <;> rfl) | (simp [*, errW_none, errW_some] <;> rfl), by repeat (first | (with_reducible first | exact HB.out | apply below_alloc | apply pw_below_drewN | apply below_drew1) | exact HB.out)⟩
      · rw [if_neg c3] at H
        have c3b0 : (t146 == 3) = false := beq_eq_false_iff_ne.mpr c3
        have c3b1 : (t146 != 3) = true := bne_iff_ne.mpr c3
        obtain rfl := Option.some.inj H
        go_enter Tryd.func8, Tryd.ntmps8
        go_wp2_with (first | ((with_reducible refine gate_callee (f := 24) rfl ?_); refine goesL_ (some 6) rfl rfl Tryd.func24 (by kernel_rfl) rfl #[.string (⟨#[50, 48, 50, 51, 45, 48, 50, 45, 50, 56]⟩ : ByteArray)] rfl (by (try simp only [List.map_toArray, List.map_cons, List.map_nil]); first | done | rfl | (simp only [List.length_drop, List.length_take]; rfl)) ?_; (with_reducible refine (date_Read.calls k (⟨#[50, 48, 50, 51, 45, 48, 50, 45, 50, 56]⟩ : ByteArray) t144 none _ ?hGL A1.out).mono ?_); (case hGL => exact Go.Proofs.YtdkdjikfhclmaaaDoor.M.Laid.below HG.out (by repeat (first | (with_reducible first | exact HB.out | apply below_alloc | apply pw_below_drewN | apply below_drew1) | exact HB.out))); rintro e w7 ⟨rfl, hb⟩; refine ⟨_, rfl, ?_⟩; have n0_ := Aside0.mk (below_step (by repeat (first | (with_reducible first | exact HB.out | apply below_alloc | apply pw_below_drewN | apply below_drew1) | exact HB.out)) hb); clear HB; have HB := n0_; clear n0_; (try clear hb); (try clear hb2); (try clear hk); (try clear hi); (try simp only [errW_none, errW_some])) | ((with_reducible refine gate_callee (f := 10) rfl ?_); refine goesL_ (some 13) rfl rfl Tryd.func10 (by kernel_rfl) rfl #[.int .u8 2, .int .i32 t144, .int .i32 (wrap32 (t144 + 1))] rfl (by (try simp only [List.map_toArray, List.map_cons, List.map_nil]); first | done | rfl | (simp only [List.length_drop, List.length_take]; rfl)) ?_; (with_reducible refine (span_Days.calls k 2 t144 (wrap32 (t144 + 1)) t146 none _ A2.out).mono ?_); rintro e w8 ⟨rfl, hb⟩; refine ⟨_, rfl, ?_⟩; have n0_ := Aside0.mk (below_step (by repeat (first | (with_reducible first | exact HB.out | apply below_alloc | apply pw_below_drewN | apply below_drew1) | exact HB.out)) hb); clear HB; have HB := n0_; clear n0_; (try clear hb); (try clear hb2); (try clear hk); (try clear hi); (try simp only [errW_none, errW_some])))
        go_ret
        exact ⟨by first | rfl | (simp [errW_none, errW_some] <;> rfl) | (simp [*, errW_none, errW_some] <;> rfl), by repeat (first | (with_reducible first | exact HB.out | apply below_alloc | apply pw_below_drewN | apply below_drew1) | exact HB.out)⟩
    · have H1 : (some false) = some r := by rw [if_neg (show ¬ (some q149).isNone = true by simp)] at H; exact H
      clear H
      have H := H1
      clear H1
      try simp only [errW_none, errW_some]
      obtain rfl := Option.some.inj H
      go_enter Tryd.func8, Tryd.ntmps8
      go_wp2_with (first | ((with_reducible refine gate_callee (f := 24) rfl ?_); refine goesL_ (some 6) rfl rfl Tryd.func24 (by kernel_rfl) rfl #[.string (⟨#[50, 48, 50, 51, 45, 48, 50, 45, 50, 56]⟩ : ByteArray)] rfl (by (try simp only [List.map_toArray, List.map_cons, List.map_nil]); first | done | rfl | (simp only [List.length_drop, List.length_take]; rfl)) ?_; (with_reducible refine (date_Read.calls k (⟨#[50, 48, 50, 51, 45, 48, 50, 45, 50, 56]⟩ : ByteArray) t144 none _ ?hGL A1.out).mono ?_); (case hGL => exact Go.Proofs.YtdkdjikfhclmaaaDoor.M.Laid.below HG.out (by repeat (first | (with_reducible first | exact HB.out | apply below_alloc | apply pw_below_drewN | apply below_drew1) | exact HB.out))); rintro e w9 ⟨rfl, hb⟩; refine ⟨_, rfl, ?_⟩; have n0_ := Aside0.mk (below_step (by repeat (first | (with_reducible first | exact HB.out | apply below_alloc | apply pw_below_drewN | apply below_drew1) | exact HB.out)) hb); clear HB; have HB := n0_; clear n0_; (try clear hb); (try clear hb2); (try clear hk); (try clear hi); (try simp only [errW_none, errW_some])) | ((with_reducible refine gate_callee (f := 10) rfl ?_); refine goesL_ (some 13) rfl rfl Tryd.func10 (by kernel_rfl) rfl #[.int .u8 2, .int .i32 t144, .int .i32 (wrap32 (t144 + 1))] rfl (by (try simp only [List.map_toArray, List.map_cons, List.map_nil]); first | done | rfl | (simp only [List.length_drop, List.length_take]; rfl)) ?_; (with_reducible refine (span_Days.calls k 2 t144 (wrap32 (t144 + 1)) t146 (some q149) _ A2.out).mono ?_); rintro e w10 ⟨rfl, hb⟩; refine ⟨_, rfl, ?_⟩; have n0_ := Aside0.mk (below_step (by repeat (first | (with_reducible first | exact HB.out | apply below_alloc | apply pw_below_drewN | apply below_drew1) | exact HB.out)) hb); clear HB; have HB := n0_; clear n0_; (try clear hb); (try clear hb2); (try clear hk); (try clear hi); (try simp only [errW_none, errW_some])))
      go_ret
      exact ⟨by first | rfl | (simp [errW_none, errW_some] <;> rfl) | (simp [*, errW_none, errW_some] <;> rfl), by repeat (first | (with_reducible first | exact HB.out | apply below_alloc | apply pw_below_drewN | apply below_drew1) | exact HB.out)⟩
  · have H1 : (some false) = some r := by rw [if_neg (show ¬ (some q148).isNone = true by simp)] at H; exact H
    clear H
    have H := H1
    clear H1
    try simp only [errW_none, errW_some]
    obtain rfl := Option.some.inj H
    go_enter Tryd.func8, Tryd.ntmps8
    go_wp2_with (first | ((with_reducible refine gate_callee (f := 24) rfl ?_); refine goesL_ (some 6) rfl rfl Tryd.func24 (by kernel_rfl) rfl #[.string (⟨#[50, 48, 50, 51, 45, 48, 50, 45, 50, 56]⟩ : ByteArray)] rfl (by (try simp only [List.map_toArray, List.map_cons, List.map_nil]); first | done | rfl | (simp only [List.length_drop, List.length_take]; rfl)) ?_; (with_reducible refine (date_Read.calls k (⟨#[50, 48, 50, 51, 45, 48, 50, 45, 50, 56]⟩ : ByteArray) t144 (some q148) _ ?hGL A1.out).mono ?_); (case hGL => exact Go.Proofs.YtdkdjikfhclmaaaDoor.M.Laid.below HG.out (by repeat (first | (with_reducible first | exact HB.out | apply below_alloc | apply pw_below_drewN | apply below_drew1) | exact HB.out))); rintro e w11 ⟨rfl, hb⟩; refine ⟨_, rfl, ?_⟩; have n0_ := Aside0.mk (below_step (by repeat (first | (with_reducible first | exact HB.out | apply below_alloc | apply pw_below_drewN | apply below_drew1) | exact HB.out)) hb); clear HB; have HB := n0_; clear n0_; (try clear hb); (try clear hb2); (try clear hk); (try clear hi); (try simp only [errW_none, errW_some])) | ((with_reducible refine gate_callee (f := 10) rfl ?_); refine goesL_ (some 13) rfl rfl Tryd.func10 (by kernel_rfl) rfl #[.int .u8 2, .int .i32 t144, .int .i32 (wrap32 (t144 + 1))] rfl (by (try simp only [List.map_toArray, List.map_cons, List.map_nil]); first | done | rfl | (simp only [List.length_drop, List.length_take]; rfl)) ?_; (with_reducible refine (span_Days.calls k 2 t144 (wrap32 (t144 + 1)) t146 t147 _ A2.out).mono ?_); rintro e w12 ⟨rfl, hb⟩; refine ⟨_, rfl, ?_⟩; have n0_ := Aside0.mk (below_step (by repeat (first | (with_reducible first | exact HB.out | apply below_alloc | apply pw_below_drewN | apply below_drew1) | exact HB.out)) hb); clear HB; have HB := n0_; clear n0_; (try clear hb); (try clear hb2); (try clear hk); (try clear hi); (try simp only [errW_none, errW_some])))
    go_ret
    exact ⟨by first | rfl | (simp [errW_none, errW_some] <;> rfl) | (simp [*, errW_none, errW_some] <;> rfl), by repeat (first | (with_reducible first | exact HB.out | apply below_alloc | apply pw_below_drewN | apply below_drew1) | exact HB.out)⟩

/-! ### span_Name: function 15 -/
def span_Name.f (a0 : Int) : Option (ByteArray) := if a0 = 1 then (some (⟨#[97, 99, 116, 117, 97, 108]⟩ : ByteArray)) else (if a0 = 2 then (some (⟨#[116, 104, 105, 114, 116, 121]⟩ : ByteArray)) else (some (⟨#[]⟩ : ByteArray)))
set_option maxHeartbeats 8000000 in
set_option maxRecDepth 100000 in
theorem span_Name.calls (a0 : Int) (r : ByteArray) (w : World) (h : span_Name.f a0 = some r) :
    Calls Tryd.prog 15 #[.int .u8 a0] w fun e w' => e = .returned (.string r) ∧ Drawn0 w w' := by
  have H : (if a0 = 1 then (some (⟨#[97, 99, 116, 117, 97, 108]⟩ : ByteArray)) else (if a0 = 2 then (some (⟨#[116, 104, 105, 114, 116, 121]⟩ : ByteArray)) else (some (⟨#[]⟩ : ByteArray)))) = some r := h
  clear h
  by_cases c2 : a0 = 1
  · rw [if_pos c2] at H
    have c2b0 : (a0 == 1) = true := beq_iff_eq.mpr c2
    have c2b1 : (a0 != 1) = false := bne_eq_false_iff_eq.mpr c2
    clear c2
    obtain rfl := Option.some.inj H
    go_enter Tryd.func15, Tryd.ntmps15
    go_wp2
    go_ret
    exact ⟨by first | rfl | (simp; done) | (simp [*]; done), by repeat (first | exact Drawn0.refl _ | apply Drawn0.step)⟩
  · rw [if_neg c2] at H
    have c2b0 : (a0 == 1) = false := beq_eq_false_iff_ne.mpr c2
    have c2b1 : (a0 != 1) = true := bne_iff_ne.mpr c2
    by_cases c3 : a0 = 2
    · rw [if_pos c3] at H
      have c3b0 : (a0 == 2) = true := beq_iff_eq.mpr c3
      have c3b1 : (a0 != 2) = false := bne_eq_false_iff_eq.mpr c3
      clear c3
      obtain rfl := Option.some.inj H
      go_enter Tryd.func15, Tryd.ntmps15
      go_wp2
      go_ret
      exact ⟨by first | rfl | (simp; done) | (simp [*]; done), by repeat (first | exact Drawn0.refl _ | apply Drawn0.step)⟩
    · rw [if_neg c3] at H
      have c3b0 : (a0 == 2) = false := beq_eq_false_iff_ne.mpr c3
      have c3b1 : (a0 != 2) = true := bne_iff_ne.mpr c3
      obtain rfl := Option.some.inj H
      go_enter Tryd.func15, Tryd.ntmps15
      go_wp2
      go_ret
      exact ⟨by first | rfl | (simp; done) | (simp [*]; done), by repeat (first | exact Drawn0.refl _ | apply Drawn0.step)⟩

/-! ### span_Basis: function 14 -/
def span_Basis.l0 : Nat → ByteArray → Int → Option (Int)
  | 0, _, _ => none
  | k + 1, x0, x3 => if x3 ≤ 2 then ((span_Name.f x3).bind fun t151 => (if t151.toList = x0.toList then (some x3) else (span_Basis.l0 k x0 ((x3 + 1) % 256)))) else (some 0)
def span_Basis.f (k : Nat) (a0 : ByteArray) : Option (Int) := span_Basis.l0 k a0 1
theorem span_Basis.mono_l : ∀ k, (∀ y0 y1, LeO (span_Basis.l0 k y0 y1) (span_Basis.l0 (k + 1) y0 y1))
  | 0 => fun _ _ r h => by simp [span_Basis.l0] at h
  | k + 1 => by
    have ih0 := span_Basis.mono_l k
    · intro y0 y1
      unfold span_Basis.l0
      repeat' first
      | (with_reducible exact ih0 _ _)
      | (with_reducible exact LeO.refl _)
      | (with_reducible exact LeO.none _)
      | (with_reducible refine LeO.ite ?_ ?_)
      | (with_reducible refine LeO.bind ?_ (fun _ => ?_))
      | exact ih0 _ _
      | exact LeO.none _
      | refine LeO.ite ?_ ?_
      | refine LeO.bind ?_ (fun _ => ?_)
theorem span_Basis.mono : ∀ a0 k, LeO (span_Basis.f k a0) (span_Basis.f (k + 1) a0) := by
  intro a0 k
  have ih0 := span_Basis.mono_l k
  unfold span_Basis.f
  repeat' first
      | (with_reducible exact ih0 _ _)
      | (with_reducible exact LeO.refl _)
      | (with_reducible exact LeO.none _)
      | (with_reducible refine LeO.ite ?_ ?_)
      | (with_reducible refine LeO.bind ?_ (fun _ => ?_))
      | exact ih0 _ _
      | exact LeO.none _
      | refine LeO.ite ?_ ?_
      | refine LeO.bind ?_ (fun _ => ?_)
set_option maxHeartbeats 8000000 in
set_option maxRecDepth 100000 in
theorem span_Basis.calls (k : Nat) (a0 : ByteArray) (r : Int) (w : World) (h : span_Basis.f k a0 = some r) :
    Calls Tryd.prog 14 #[.string a0] w fun e w' => e = .returned (.int .u8 r) ∧ Drawn0 w w' := by
  have H : (span_Basis.l0 k a0 1) = some r := h
  clear h
  have H' := Aside0.mk H
  clear H
  go_enter Tryd.func14, Tryd.ntmps14
  go_wp2
  go_loopg [3] k (fun kq v3 w' => ∃ (x3_1 : Int), v3 = .int .u8 x3_1 ∧ Aside0 (span_Basis.l0 kq a0 x3_1 = some r) ∧ Aside0 (kq ≤ k) ∧ Drawn0 w w')
  case atStart => exact ⟨(1), (by first | rfl | (simp; done) | (simp [*]; done)), H', ⟨Nat.le_refl _⟩, by repeat (first | exact Drawn0.refl _ | apply Drawn0.step)⟩
  case round =>
    clear H'
    try clear c1
    obtain ⟨x3_1, rfl, HA, HK1, ⟨m1, rfl⟩⟩ := hrel
    cases gk with
    | zero => exact absurd HA.out (by simp [span_Basis.l0])
    | succ k1 =>
      have H := HA.out
      clear HA
      simp only [span_Basis.l0] at H
      by_cases c2 : x3_1 ≤ 2
      · rw [if_pos c2] at H
        have c2b0 : decide (x3_1 ≤ 2) = true := decide_eq_true c2
        clear c2
        replace H := Option.bind_eq_some_iff.mp H
        obtain ⟨t151, A30, H⟩ := H
        replace H : (if t151.toList = a0.toList then (some x3_1) else (span_Basis.l0 k1 a0 ((x3_1 + 1) % 256))) = some r := H
        have A3 := Aside0.mk A30
        clear A30
        by_cases c4 : t151.toList = a0.toList
        · rw [if_pos c4] at H
          have c4b0 : (t151.toList == a0.toList) = true := beq_iff_eq.mpr c4
          have c4b1 : (t151.toList != a0.toList) = false := bne_eq_false_iff_eq.mpr c4
          clear c4
          obtain rfl := Option.some.inj H
          go_wp2_with (first | ((with_reducible refine gate_callee (f := 15) rfl ?_); refine goesL_ (some 9) rfl rfl Tryd.func15 (by kernel_rfl) rfl #[.int .u8 x3_1] rfl (by (try simp only [List.map_toArray, List.map_cons, List.map_nil]); first | done | rfl | (simp only [List.length_drop, List.length_take]; rfl)) ?_; (with_reducible refine (span_Name.calls x3_1 t151 _ A3.out).mono ?_); rintro e w' ⟨rfl, ⟨nd, rfl⟩⟩; refine ⟨_, rfl, ?_⟩))
          go_ret
          exact ⟨by first | rfl | (simp; done) | (simp [*]; done), by repeat (first | exact Drawn0.refl _ | apply Drawn0.step)⟩
        · rw [if_neg c4] at H
          have c4b0 : (t151.toList == a0.toList) = false := beq_eq_false_iff_ne.mpr c4
          have c4b1 : (t151.toList != a0.toList) = true := bne_iff_ne.mpr c4
          have H' := Aside0.mk H
          clear H
          go_wp2_with (first | ((with_reducible refine gate_callee (f := 15) rfl ?_); refine goesL_ (some 9) rfl rfl Tryd.func15 (by kernel_rfl) rfl #[.int .u8 x3_1] rfl (by (try simp only [List.map_toArray, List.map_cons, List.map_nil]); first | done | rfl | (simp only [List.length_drop, List.length_take]; rfl)) ?_; (with_reducible refine (span_Name.calls x3_1 t151 _ A3.out).mono ?_); rintro e w' ⟨rfl, ⟨nd, rfl⟩⟩; refine ⟨_, rfl, ?_⟩))
          go_roundg k1
          case measure => have := HK1.out; omega
          case rel => exact ⟨((x3_1 + 1) % 256), (by first | rfl | (simp; done) | (simp [*]; done)), H', ⟨by have := HK1.out; omega⟩, by repeat (first | exact Drawn0.refl _ | apply Drawn0.step)⟩
      · rw [if_neg c2] at H
        have c2b0 : decide (x3_1 ≤ 2) = false := decide_eq_false c2
        clear c2
        obtain rfl := Option.some.inj H
        go_wp2
        go_ret
        exact ⟨by first | rfl | (simp; done) | (simp [*]; done), by repeat (first | exact Drawn0.refl _ | apply Drawn0.step)⟩

/-! ### arrearsref06_Name: function 16 -/
def arrearsref06_Name.f (a0 : Int) : Option (ByteArray) := (some (([(⟨#[]⟩ : ByteArray), (⟨#[97, 99, 116, 117, 97, 108]⟩ : ByteArray), (⟨#[116, 104, 105, 114, 116, 121]⟩ : ByteArray), (⟨#[]⟩ : ByteArray)] : List ByteArray) : List ByteArray)).bind fun y152 => (if 0 ≤ (mn a0 3) then (if (mn a0 3) < (y152.length : Int) then (some (rdOf ByteArray.empty y152 (mn a0 3))) else (none)) else (none))
set_option maxHeartbeats 8000000 in
set_option maxRecDepth 100000 in
theorem arrearsref06_Name.calls (a0 : Int) (r : ByteArray) (w : World) (h : arrearsref06_Name.f a0 = some r) :
    Calls Tryd.prog 16 #[.int .u8 a0] w fun e w' => e = .returned (.string r) ∧ Below w.heap.size w w' := by
  have HB := Aside0.mk (Below.refl w.heap.size w)
  have H : ((some (([(⟨#[]⟩ : ByteArray), (⟨#[97, 99, 116, 117, 97, 108]⟩ : ByteArray), (⟨#[116, 104, 105, 114, 116, 121]⟩ : ByteArray), (⟨#[]⟩ : ByteArray)] : List ByteArray) : List ByteArray)).bind fun y152 => (if 0 ≤ (mn a0 3) then (if (mn a0 3) < (y152.length : Int) then (some (rdOf ByteArray.empty y152 (mn a0 3))) else (none)) else (none))) = some r := h
  clear h
  obtain ⟨y152, hy152⟩ : ∃ y_ : List ByteArray, y_ = (([(⟨#[]⟩ : ByteArray), (⟨#[97, 99, 116, 117, 97, 108]⟩ : ByteArray), (⟨#[116, 104, 105, 114, 116, 121]⟩ : ByteArray), (⟨#[]⟩ : ByteArray)] : List ByteArray)) := ⟨_, rfl⟩
  replace H : (if 0 ≤ (mn a0 3) then (if (mn a0 3) < (y152.length : Int) then (some (rdOf ByteArray.empty y152 (mn a0 3))) else (none)) else (none)) = some r := by first | (rw [hy152]; with_reducible exact H) | (have H2_ := (Option.bind_some _ _).symm.trans H; rw [hy152]; with_reducible exact H2_) | (have H2_ := (Option.bind_some _ _).symm.trans H; with_reducible exact H2_) | with_reducible exact H | (rw [hy152]; exact H) | exact H
  have Ny152 := Aside0.mk hy152
  clear hy152
  obtain ⟨ji2, hji2⟩ : ∃ j_ : Int, (mn a0 3) = j_ := ⟨_, rfl⟩
  replace H : (if 0 ≤ (ji2) then (if (ji2) < (y152.length : Int) then (some (rdOf ByteArray.empty y152 (ji2))) else (none)) else (none)) = some r := by first | (rw [hji2] at H; exact H) | (simp only [hji2] at H ⊢; exact H)
  (try (have hji2h : ji2 ≤ 3 := by (rw [← hji2]; unfold mn; (repeat' split) <;> omega)))
  (try (have hji2g : ji2 ≤ 64 := by omega))
  have hji2_ : (if 3 < a0 then 3 else a0) = ji2 := hji2
  by_cases c3 : 0 ≤ (ji2)
  · rw [if_pos c3] at H
    have c3b0 : decide (0 ≤ (ji2)) = true := decide_eq_true c3
    clear c3
    by_cases c4 : (ji2) < (y152.length : Int)
    · rw [if_pos c4] at H
      have c4b0 : decide ((ji2) < (y152.length : Int)) = true := decide_eq_true c4
      clear c4
      obtain rfl := Option.some.inj H
      go_enter Tryd.func16, Tryd.ntmps16
      go_wp2_with (first | ((with_reducible refine gate_dst (N := 3) rfl ?_); refine Kd.R_lit Kd.string _ 9 ?hg (N := 3) ?hd (xs := ([(⟨#[]⟩ : ByteArray), (⟨#[97, 99, 116, 117, 97, 108]⟩ : ByteArray), (⟨#[116, 104, 105, 114, 116, 121]⟩ : ByteArray), (⟨#[]⟩ : ByteArray)] : List ByteArray)) (inner := [.string (⟨#[]⟩ : ByteArray), .string (⟨#[97, 99, 116, 117, 97, 108]⟩ : ByteArray), .string (⟨#[116, 104, 105, 114, 116, 121]⟩ : ByteArray), .string (⟨#[]⟩ : ByteArray)]) (ok := fun _ => True) (okp := fun _ => True) ?hr ?hp (fun _ hk => hk) trivial (Below.refl _ _) (Nat.le_refl _) (by simp) ?_; (case hd => rfl); (case hg => rfl); (case hr => first | (go_simp; done) | (go_simp; rfl)); (case hp => exact (Reps.one (show Kd.M Kd.string _ _ _ (⟨#[]⟩ : ByteArray) [.string (⟨#[]⟩ : ByteArray)] from rfl) (Reps.one (show Kd.M Kd.string _ _ _ (⟨#[97, 99, 116, 117, 97, 108]⟩ : ByteArray) [.string (⟨#[97, 99, 116, 117, 97, 108]⟩ : ByteArray)] from rfl) (Reps.one (show Kd.M Kd.string _ _ _ (⟨#[116, 104, 105, 114, 116, 121]⟩ : ByteArray) [.string (⟨#[116, 104, 105, 114, 116, 121]⟩ : ByteArray)] from rfl) (Reps.one (show Kd.M Kd.string _ _ _ (⟨#[]⟩ : ByteArray) [.string (⟨#[]⟩ : ByteArray)] from rfl) (Reps.none _ _)))))); intro v153 w5 ho6 hb hg_ hnew_; clear hg_ hnew_; (first | rw [← Ny152.out] at ho6 | (simp only [Int.reduceToNat] at ho6; rw [← Ny152.out] at ho6)); have n0_ := Aside0.mk (Kd.R_lower ho6 (below_size (by repeat (first | (with_reducible first | exact HB.out | apply below_alloc | apply pw_below_drewN | apply below_drew1) | exact HB.out)))); have n1_ := Aside0.mk (below_step (by repeat (first | (with_reducible first | exact HB.out | apply below_alloc | apply pw_below_drewN | apply below_drew1) | exact HB.out)) hb); clear HB; have HO154 := n0_; have HB := n1_; clear n0_ n1_; clear hb ho6; obtain ⟨Ao7, co7, eo7⟩ := Kd.R_slice HO154.out; subst eo7; have p155 : 0 ≤ ((ji2) : Int) := of_decide_eq_true (by first | (with_reducible assumption) | assumption); have q155 : (ji2) < (y152.length : Int) := of_decide_eq_true (by first | (with_reducible assumption) | assumption); obtain ⟨ad155, e155, hx155_0⟩ := Kd.at_string (Kd.R_reads' HO154.out).2.2 (ji2) p155 q155; cases e155; replace p155 := eq_true p155; replace q155 := eq_true q155))
      go_ret
      exact ⟨by first | rfl | (simp [errW_none, errW_some] <;> rfl) | (simp only [← hji2]; first | rfl | (simp [errW_none, errW_some] <;> rfl)) | (simp [*, errW_none, errW_some] <;> rfl), by repeat (first | (with_reducible first | exact HB.out | apply below_alloc | apply pw_below_drewN | apply below_drew1) | exact HB.out)⟩
    · rw [if_neg c4] at H
      exact absurd H (by simp)
  · rw [if_neg c3] at H
    exact absurd H (by simp)

end Go.Proofs.YtdkdjikfhclmaaaDoor.PSpanNames
