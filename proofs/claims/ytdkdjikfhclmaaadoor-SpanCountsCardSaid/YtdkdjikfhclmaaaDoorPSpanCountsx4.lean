-- Printed by a wrapper of this session's round the kit's print.py; Lean checks it.
import Derived.Test.YtdkdjikfhclmaaaDoorPSpanCountsx0
import Derived.Test.YtdkdjikfhclmaaaDoorPSpanCountsx2
import Derived.Test.YtdkdjikfhclmaaaDoorPSpanCountsx3
namespace Go.Proofs.YtdkdjikfhclmaaaDoor.PSpanCounts
open Go.RowKit Go.Proofs.YtdkdjikfhclmaaaDoorW.PrintWords Go.Proofs.YtdkdjikfhclmaaaDoorW.PrintLast Go.Proofs.YtdkdjikfhclmaaaDoorW.PrintMore
attribute [local go_sem] max2_int min2_int max_two min_two max_three min_three max_four min_four   -- for this text's walks alone
set_option linter.unusedVariables false
set_option linter.unusedSimpArgs false

/-! ### arrearsref06_Days: function 20 -/
def arrearsref06_Days.f (k : Nat) (a0 : Bool) (a1 : Int) (a2 : Int) : Option (Int) := if a0 = true then ((arrearsref05_Civil.f k a1).bind fun bt160 => ((arrearsref05_Civil.f k a2).bind fun bt163 => (if bt160.2.2 = 31 then (if bt163.2.2 = 31 then (if 30 = 30 then (some (wrap64 ((wrap64 ((wrap64 ((wrap64 (360 * (wrap64 (bt163.1 - bt160.1)))) + (wrap64 (30 * (wrap64 (bt163.2.1 - bt160.2.1)))))) + 30)) - 30))) else (some (wrap64 ((wrap64 ((wrap64 ((wrap64 (360 * (wrap64 (bt163.1 - bt160.1)))) + (wrap64 (30 * (wrap64 (bt163.2.1 - bt160.2.1)))))) + bt163.2.2)) - 30)))) else (some (wrap64 ((wrap64 ((wrap64 ((wrap64 (360 * (wrap64 (bt163.1 - bt160.1)))) + (wrap64 (30 * (wrap64 (bt163.2.1 - bt160.2.1)))))) + bt163.2.2)) - 30)))) else (if bt163.2.2 = 31 then (if bt160.2.2 = 30 then (some (wrap64 ((wrap64 ((wrap64 ((wrap64 (360 * (wrap64 (bt163.1 - bt160.1)))) + (wrap64 (30 * (wrap64 (bt163.2.1 - bt160.2.1)))))) + 30)) - bt160.2.2))) else (some (wrap64 ((wrap64 ((wrap64 ((wrap64 (360 * (wrap64 (bt163.1 - bt160.1)))) + (wrap64 (30 * (wrap64 (bt163.2.1 - bt160.2.1)))))) + bt163.2.2)) - bt160.2.2)))) else (some (wrap64 ((wrap64 ((wrap64 ((wrap64 (360 * (wrap64 (bt163.1 - bt160.1)))) + (wrap64 (30 * (wrap64 (bt163.2.1 - bt160.2.1)))))) + bt163.2.2)) - bt160.2.2))))))) else (some (wrap64 (a2 - a1)))
theorem arrearsref06_Days.mono : ∀ a0 a1 a2 k, LeO (arrearsref06_Days.f k a0 a1 a2) (arrearsref06_Days.f (k + 1) a0 a1 a2) := by
  intro a0 a1 a2 k
  unfold arrearsref06_Days.f
  repeat' first
      | (with_reducible exact arrearsref05_Civil.mono _ _)
      | (with_reducible exact LeO.refl _)
      | (with_reducible exact LeO.none _)
      | (with_reducible refine LeO.ite ?_ ?_)
      | (with_reducible refine LeO.bind ?_ (fun _ => ?_))
      | exact arrearsref05_Civil.mono _ _
      | exact LeO.none _
      | refine LeO.ite ?_ ?_
      | refine LeO.bind ?_ (fun _ => ?_)
set_option maxHeartbeats 8000000 in
set_option maxRecDepth 100000 in
theorem arrearsref06_Days.calls (k : Nat) (a0 : Bool) (a1 : Int) (a2 : Int) (r : Int) (w : World) (h : arrearsref06_Days.f k a0 a1 a2 = some r) :
    Calls Tryd.prog 20 #[.bool a0, .int .i64 a1, .int .i64 a2] w fun e w' => e = .returned (.int .i64 r) ∧ Below w.heap.size w w' := by
  have hu26 := Tryd.underlying26
  have HB := Aside0.mk (Below.refl w.heap.size w)
  have H : (if a0 = true then ((arrearsref05_Civil.f k a1).bind fun bt160 => ((arrearsref05_Civil.f k a2).bind fun bt163 => (if bt160.2.2 = 31 then (if bt163.2.2 = 31 then (if 30 = 30 then (some (wrap64 ((wrap64 ((wrap64 ((wrap64 (360 * (wrap64 (bt163.1 - bt160.1)))) + (wrap64 (30 * (wrap64 (bt163.2.1 - bt160.2.1)))))) + 30)) - 30))) else (some (wrap64 ((wrap64 ((wrap64 ((wrap64 (360 * (wrap64 (bt163.1 - bt160.1)))) + (wrap64 (30 * (wrap64 (bt163.2.1 - bt160.2.1)))))) + bt163.2.2)) - 30)))) else (some (wrap64 ((wrap64 ((wrap64 ((wrap64 (360 * (wrap64 (bt163.1 - bt160.1)))) + (wrap64 (30 * (wrap64 (bt163.2.1 - bt160.2.1)))))) + bt163.2.2)) - 30)))) else (if bt163.2.2 = 31 then (if bt160.2.2 = 30 then (some (wrap64 ((wrap64 ((wrap64 ((wrap64 (360 * (wrap64 (bt163.1 - bt160.1)))) + (wrap64 (30 * (wrap64 (bt163.2.1 - bt160.2.1)))))) + 30)) - bt160.2.2))) else (some (wrap64 ((wrap64 ((wrap64 ((wrap64 (360 * (wrap64 (bt163.1 - bt160.1)))) + (wrap64 (30 * (wrap64 (bt163.2.1 - bt160.2.1)))))) + bt163.2.2)) - bt160.2.2)))) else (some (wrap64 ((wrap64 ((wrap64 ((wrap64 (360 * (wrap64 (bt163.1 - bt160.1)))) + (wrap64 (30 * (wrap64 (bt163.2.1 - bt160.2.1)))))) + bt163.2.2)) - bt160.2.2))))))) else (some (wrap64 (a2 - a1)))) = some r := h
  clear h
  by_cases c4 : a0 = true
  · subst c4
    have H1 : ((arrearsref05_Civil.f k a1).bind fun bt160 => ((arrearsref05_Civil.f k a2).bind fun bt163 => (if bt160.2.2 = 31 then (if bt163.2.2 = 31 then (if 30 = 30 then (some (wrap64 ((wrap64 ((wrap64 ((wrap64 (360 * (wrap64 (bt163.1 - bt160.1)))) + (wrap64 (30 * (wrap64 (bt163.2.1 - bt160.2.1)))))) + 30)) - 30))) else (some (wrap64 ((wrap64 ((wrap64 ((wrap64 (360 * (wrap64 (bt163.1 - bt160.1)))) + (wrap64 (30 * (wrap64 (bt163.2.1 - bt160.2.1)))))) + bt163.2.2)) - 30)))) else (some (wrap64 ((wrap64 ((wrap64 ((wrap64 (360 * (wrap64 (bt163.1 - bt160.1)))) + (wrap64 (30 * (wrap64 (bt163.2.1 - bt160.2.1)))))) + bt163.2.2)) - 30)))) else (if bt163.2.2 = 31 then (if bt160.2.2 = 30 then (some (wrap64 ((wrap64 ((wrap64 ((wrap64 (360 * (wrap64 (bt163.1 - bt160.1)))) + (wrap64 (30 * (wrap64 (bt163.2.1 - bt160.2.1)))))) + 30)) - bt160.2.2))) else (some (wrap64 ((wrap64 ((wrap64 ((wrap64 (360 * (wrap64 (bt163.1 - bt160.1)))) + (wrap64 (30 * (wrap64 (bt163.2.1 - bt160.2.1)))))) + bt163.2.2)) - bt160.2.2)))) else (some (wrap64 ((wrap64 ((wrap64 ((wrap64 (360 * (wrap64 (bt163.1 - bt160.1)))) + (wrap64 (30 * (wrap64 (bt163.2.1 - bt160.2.1)))))) + bt163.2.2)) - bt160.2.2))))))) = some r := by rw [if_pos rfl] at H; exact H
    clear H
    have H := H1
    clear H1
    replace H := Option.bind_eq_some_iff.mp H
    obtain ⟨⟨t160, t161, t162⟩, A50, H⟩ := H
    replace H : ((arrearsref05_Civil.f k a2).bind fun bt163 => (if t162 = 31 then (if bt163.2.2 = 31 then (if 30 = 30 then (some (wrap64 ((wrap64 ((wrap64 ((wrap64 (360 * (wrap64 (bt163.1 - t160)))) + (wrap64 (30 * (wrap64 (bt163.2.1 - t161)))))) + 30)) - 30))) else (some (wrap64 ((wrap64 ((wrap64 ((wrap64 (360 * (wrap64 (bt163.1 - t160)))) + (wrap64 (30 * (wrap64 (bt163.2.1 - t161)))))) + bt163.2.2)) - 30)))) else (some (wrap64 ((wrap64 ((wrap64 ((wrap64 (360 * (wrap64 (bt163.1 - t160)))) + (wrap64 (30 * (wrap64 (bt163.2.1 - t161)))))) + bt163.2.2)) - 30)))) else (if bt163.2.2 = 31 then (if t162 = 30 then (some (wrap64 ((wrap64 ((wrap64 ((wrap64 (360 * (wrap64 (bt163.1 - t160)))) + (wrap64 (30 * (wrap64 (bt163.2.1 - t161)))))) + 30)) - t162))) else (some (wrap64 ((wrap64 ((wrap64 ((wrap64 (360 * (wrap64 (bt163.1 - t160)))) + (wrap64 (30 * (wrap64 (bt163.2.1 - t161)))))) + bt163.2.2)) - t162)))) else (some (wrap64 ((wrap64 ((wrap64 ((wrap64 (360 * (wrap64 (bt163.1 - t160)))) + (wrap64 (30 * (wrap64 (bt163.2.1 - t161)))))) + bt163.2.2)) - t162)))))) = some r := H
    have A5 := Aside0.mk A50
    clear A50
    replace H := Option.bind_eq_some_iff.mp H
    obtain ⟨⟨t163, t164, t165⟩, A60, H⟩ := H
    replace H : (if t162 = 31 then (if t165 = 31 then (if 30 = 30 then (some (wrap64 ((wrap64 ((wrap64 ((wrap64 (360 * (wrap64 (t163 - t160)))) + (wrap64 (30 * (wrap64 (t164 - t161)))))) + 30)) - 30))) else (some (wrap64 ((wrap64 ((wrap64 ((wrap64 (360 * (wrap64 (t163 - t160)))) + (wrap64 (30 * (wrap64 (t164 - t161)))))) + t165)) - 30)))) else (some (wrap64 ((wrap64 ((wrap64 ((wrap64 (360 * (wrap64 (t163 - t160)))) + (wrap64 (30 * (wrap64 (t164 - t161)))))) + t165)) - 30)))) else (if t165 = 31 then (if t162 = 30 then (some (wrap64 ((wrap64 ((wrap64 ((wrap64 (360 * (wrap64 (t163 - t160)))) + (wrap64 (30 * (wrap64 (t164 - t161)))))) + 30)) - t162))) else (some (wrap64 ((wrap64 ((wrap64 ((wrap64 (360 * (wrap64 (t163 - t160)))) + (wrap64 (30 * (wrap64 (t164 - t161)))))) + t165)) - t162)))) else (some (wrap64 ((wrap64 ((wrap64 ((wrap64 (360 * (wrap64 (t163 - t160)))) + (wrap64 (30 * (wrap64 (t164 - t161)))))) + t165)) - t162))))) = some r := H
    have A6 := Aside0.mk A60
    clear A60
    by_cases c7 : t162 = 31
    · rw [if_pos c7] at H
      have c7b0 : (t162 == 31) = true := beq_iff_eq.mpr c7
      have c7b1 : (t162 != 31) = false := bne_eq_false_iff_eq.mpr c7
      clear c7
      by_cases c8 : t165 = 31
      · rw [if_pos c8] at H
        have c8b0 : (t165 == 31) = true := beq_iff_eq.mpr c8
        have c8b1 : (t165 != 31) = false := bne_eq_false_iff_eq.mpr c8
        clear c8
        by_cases c9 : 30 = 30
        · rw [if_pos c9] at H
          have c9b0 : (30 == 30) = true := beq_iff_eq.mpr c9
          have c9b1 : (30 != 30) = false := bne_eq_false_iff_eq.mpr c9
          clear c9
          obtain rfl := Option.some.inj H
          go_enter Tryd.func20, Tryd.ntmps20
          go_upto_region 4 with (first | ((with_reducible refine gate_callee (f := 22) rfl ?_); refine goesL_ (some 15) rfl rfl Tryd.func22 (by kernel_rfl) rfl #[.int .i64 a1] rfl (by (try simp only [List.map_toArray, List.map_cons, List.map_nil]); first | done | rfl | (simp only [List.length_drop, List.length_take]; rfl)) ?_; (with_reducible refine (arrearsref05_Civil.calls k a1 t160 t161 t162 _ A5.out).mono ?_); rintro e w10 ⟨rfl, hb⟩; refine ⟨_, rfl, ?_⟩; have n0_ := Aside0.mk (below_step (by repeat (first | (with_reducible first | exact HB.out | apply below_alloc | apply pw_below_drewN | apply below_drew1) | exact HB.out)) hb); clear HB; have HB := n0_; clear n0_; (try clear hb); (try clear hb2); (try clear hk); (try clear hi)) | ((with_reducible refine gate_callee (f := 22) rfl ?_); refine goesL_ (some 17) rfl rfl Tryd.func22 (by kernel_rfl) rfl #[.int .i64 a2] rfl (by (try simp only [List.map_toArray, List.map_cons, List.map_nil]); first | done | rfl | (simp only [List.length_drop, List.length_take]; rfl)) ?_; (with_reducible refine (arrearsref05_Civil.calls k a2 t163 t164 t165 _ A6.out).mono ?_); rintro e w11 ⟨rfl, hb⟩; refine ⟨_, rfl, ?_⟩; have n0_ := Aside0.mk (below_step (by repeat (first | (with_reducible first | exact HB.out | apply below_alloc | apply pw_below_drewN | apply below_drew1) | exact HB.out)) hb); clear HB; have HB := n0_; clear n0_; (try clear hb); (try clear hb2); (try clear hk); (try clear hi)) | ((with_reducible refine gate_dst (N := 7) rfl ?_); refine box_event ?hg (N := 7) ?hd (cs := #[.int .i64 0, .int .i64 0, .int .i64 0]) (t := 26) ?hr ?_; (case hd => rfl); (case hg => rfl); (case hr => first | (go_simp; done) | (go_simp; rfl)); intro gb166 hg w12 hbox hb; have n0_ := Aside0.mk (below_step (by repeat (first | (with_reducible first | exact HB.out | apply below_alloc | apply pw_below_drewN | apply below_drew1) | exact HB.out)) hb); have n1_ := Aside0.mk (hbox); have n2_ := Aside0.mk ((by rw [hg]; exact (below_size (by repeat (first | (with_reducible first | exact HB.out | apply below_alloc | apply pw_below_drewN | apply below_drew1) | exact HB.out))) : w.heap.size ≤ gb166)); have n3_ := Aside0.mk ((by rw [hg]; exact (below_size (by repeat (first | (with_reducible first | exact HB.out | apply below_alloc | apply pw_below_drewN | apply below_drew1) | exact HB.out))) : w.heap.size ≤ gb166)); clear HB; have HB := n0_; have BK166 := n1_; have GW166 := n2_; have GE166 := n3_; clear n0_ n1_ n2_ n3_; clear hb hbox hg) | ((with_reducible refine gate_dst (N := 8) rfl ?_); refine box_event ?hg (N := 8) ?hd (cs := #[.int .i64 0, .int .i64 0, .int .i64 0]) (t := 26) ?hr ?_; (case hd => rfl); (case hg => rfl); (case hr => first | (go_simp; done) | (go_simp; rfl)); intro gb167 hg w13 hbox hb; have n0_ := Aside0.mk (blk_below (g := gb166) (o := .cells #[.int .i64 0, .int .i64 0, .int .i64 0] 26 (0, 0)) (by (with_reducible repeat (first | refine blk_drewN ?_ _ | refine blk_drew ?_ | refine blk_alloc ?_ _)); exact BK166.out) hb); have n1_ := Aside0.mk (below_step (by repeat (first | (with_reducible first | exact HB.out | apply below_alloc | apply pw_below_drewN | apply below_drew1 | refine below_set ?_ GE166.out) | exact HB.out)) hb); have n2_ := Aside0.mk (hbox); have n3_ := Aside0.mk ((by rw [hg]; exact (below_size (by repeat (first | (with_reducible first | exact HB.out | apply below_alloc | apply pw_below_drewN | apply below_drew1 | refine below_set ?_ GE166.out) | exact HB.out))) : w.heap.size ≤ gb167)); have n4_ := Aside0.mk ((by rw [hg]; exact (below_size (by repeat (first | (with_reducible first | exact HB.out | apply below_alloc | apply pw_below_drewN | apply below_drew1 | refine below_set ?_ GE166.out) | exact HB.out))) : w.heap.size ≤ gb167)); have n5_ := Aside0.mk ((by rw [hg]; exact Nat.ne_of_lt (blk_lt (g := gb166) (o := .cells #[.int .i64 0, .int .i64 0, .int .i64 0] 26 (0, 0)) (by (with_reducible repeat (first | refine blk_drewN ?_ _ | refine blk_drew ?_ | refine blk_alloc ?_ _)); exact BK166.out)) : gb166 ≠ gb167)); have n6_ := Aside0.mk ((by rw [hg]; exact Nat.ne_of_gt (blk_lt (g := gb166) (o := .cells #[.int .i64 0, .int .i64 0, .int .i64 0] 26 (0, 0)) (by (with_reducible repeat (first | refine blk_drewN ?_ _ | refine blk_drew ?_ | refine blk_alloc ?_ _)); exact BK166.out)) : gb167 ≠ gb166)); clear BK166; clear HB; have BK166 := n0_; have HB := n1_; have BK167 := n2_; have GW167 := n3_; have GE167 := n4_; have NB166_167 := n5_; have NB167_166 := n6_; clear n0_ n1_ n2_ n3_ n4_ n5_ n6_; clear hb hbox hg; have hnb14 := NB166_167.out; have hnc14 := NB167_166.out; have hcz15_0 : w13.cell? ⟨gb166, 0, none⟩ = some (.int .i64 0) := (blk_cell BK166.out 0).trans rfl; have hcz15_1 : w13.cell? ⟨gb166, 1, none⟩ = some (.int .i64 0) := (blk_cell BK166.out 1).trans rfl; have hcz15_2 : w13.cell? ⟨gb166, 2, none⟩ = some (.int .i64 0) := (blk_cell BK166.out 2).trans rfl; have hfz15_0 := blk_frozen BK166.out 0; have hfz15_1 := blk_frozen BK166.out 1; have hfz15_2 := blk_frozen BK166.out 2; have hcz16_0 : w13.cell? ⟨gb167, 0, none⟩ = some (.int .i64 0) := (blk_cell BK167.out 0).trans rfl; have hcz16_1 : w13.cell? ⟨gb167, 1, none⟩ = some (.int .i64 0) := (blk_cell BK167.out 1).trans rfl; have hcz16_2 : w13.cell? ⟨gb167, 2, none⟩ = some (.int .i64 0) := (blk_cell BK167.out 2).trans rfl; have hfz16_0 := blk_frozen BK167.out 0; have hfz16_1 := blk_frozen BK167.out 1; have hfz16_2 := blk_frozen BK167.out 2))
          generalize hW : World.setCell _ _ _ = W
          have BA : W.heap[gb166]? = some (.cells #[.int .i64 t160, .int .i64 t161, .int .i64 t162] 26 (0, 0)) := by rw [← hW]; exact blk_far (blk_far (blk_far (blk_put (blk_put (blk_put BK166.out 0 _ rfl) 1 _ rfl) 2 _ rfl) NB166_167.out _) NB166_167.out _) NB166_167.out _
          have BB : W.heap[gb167]? = some (.cells #[.int .i64 t163, .int .i64 t164, .int .i64 t165] 26 (0, 0)) := by rw [← hW]; exact blk_put (blk_put (blk_put (blk_far (blk_far (blk_far BK167.out NB167_166.out _) NB167_166.out _) NB167_166.out _) 0 _ rfl) 1 _ rfl) 2 _ rfl
          have HBW := Aside0.mk (by rw [← hW]; exact below_set (below_set (below_set (below_set (below_set (below_set HB.out GE166.out) GE166.out) GE166.out) GE167.out) GE167.out) GE167.out : Below w.heap.size w W)
          have hqa0 : W.cell? ⟨gb166, 0, none⟩ = some (.int .i64 t160) := (blk_cell BA 0).trans rfl
          have hra0 := blk_frozen BA 0
          have hqa1 : W.cell? ⟨gb166, 1, none⟩ = some (.int .i64 t161) := (blk_cell BA 1).trans rfl
          have hra1 := blk_frozen BA 1
          have hqa2 : W.cell? ⟨gb166, 2, none⟩ = some (.int .i64 t162) := (blk_cell BA 2).trans rfl
          have hra2 := blk_frozen BA 2
          have hqb0 : W.cell? ⟨gb167, 0, none⟩ = some (.int .i64 t163) := (blk_cell BB 0).trans rfl
          have hrb0 := blk_frozen BB 0
          have hqb1 : W.cell? ⟨gb167, 1, none⟩ = some (.int .i64 t164) := (blk_cell BB 1).trans rfl
          have hrb1 := blk_frozen BB 1
          have hqb2 : W.cell? ⟨gb167, 2, none⟩ = some (.int .i64 t165) := (blk_cell BB 2).trans rfl
          have hrb2 := blk_frozen BB 2
          clear BA BB hW HB
          clear hcz15_0 hcz15_1 hcz15_2 hcz16_0 hcz16_1 hcz16_2 hfz15_0 hfz15_1 hfz15_2 hfz16_0 hfz16_1 hfz16_2
          have HB := HBW
          clear HBW
          go_wp2
          go_ret
          exact ⟨by first | rfl | (simp [errW_none, errW_some] <;> rfl) | (simp [*, errW_none, errW_some] <;> rfl), by repeat (first | (with_reducible first | exact HB.out | apply below_alloc | apply pw_below_drewN | apply below_drew1 | refine below_set ?_ GE166.out | refine below_set ?_ GE167.out) | exact HB.out)⟩
        · exact absurd rfl c9
      · rw [if_neg c8] at H
        have c8b0 : (t165 == 31) = false := beq_eq_false_iff_ne.mpr c8
        have c8b1 : (t165 != 31) = true := bne_iff_ne.mpr c8
        obtain rfl := Option.some.inj H
        go_enter Tryd.func20, Tryd.ntmps20
        go_upto_region 4 with (first | ((with_reducible refine gate_callee (f := 22) rfl ?_); refine goesL_ (some 15) rfl rfl Tryd.func22 (by kernel_rfl) rfl #[.int .i64 a1] rfl (by (try simp only [List.map_toArray, List.map_cons, List.map_nil]); first | done | rfl | (simp only [List.length_drop, List.length_take]; rfl)) ?_; (with_reducible refine (arrearsref05_Civil.calls k a1 t160 t161 t162 _ A5.out).mono ?_); rintro e w24 ⟨rfl, hb⟩; refine ⟨_, rfl, ?_⟩; have n0_ := Aside0.mk (below_step (by repeat (first | (with_reducible first | exact HB.out | apply below_alloc | apply pw_below_drewN | apply below_drew1) | exact HB.out)) hb); clear HB; have HB := n0_; clear n0_; (try clear hb); (try clear hb2); (try clear hk); (try clear hi)) | ((with_reducible refine gate_callee (f := 22) rfl ?_); refine goesL_ (some 17) rfl rfl Tryd.func22 (by kernel_rfl) rfl #[.int .i64 a2] rfl (by (try simp only [List.map_toArray, List.map_cons, List.map_nil]); first | done | rfl | (simp only [List.length_drop, List.length_take]; rfl)) ?_; (with_reducible refine (arrearsref05_Civil.calls k a2 t163 t164 t165 _ A6.out).mono ?_); rintro e w25 ⟨rfl, hb⟩; refine ⟨_, rfl, ?_⟩; have n0_ := Aside0.mk (below_step (by repeat (first | (with_reducible first | exact HB.out | apply below_alloc | apply pw_below_drewN | apply below_drew1) | exact HB.out)) hb); clear HB; have HB := n0_; clear n0_; (try clear hb); (try clear hb2); (try clear hk); (try clear hi)) | ((with_reducible refine gate_dst (N := 7) rfl ?_); refine box_event ?hg (N := 7) ?hd (cs := #[.int .i64 0, .int .i64 0, .int .i64 0]) (t := 26) ?hr ?_; (case hd => rfl); (case hg => rfl); (case hr => first | (go_simp; done) | (go_simp; rfl)); intro gb166 hg w26 hbox hb; have n0_ := Aside0.mk (below_step (by repeat (first | (with_reducible first | exact HB.out | apply below_alloc | apply pw_below_drewN | apply below_drew1) | exact HB.out)) hb); have n1_ := Aside0.mk (hbox); have n2_ := Aside0.mk ((by rw [hg]; exact (below_size (by repeat (first | (with_reducible first | exact HB.out | apply below_alloc | apply pw_below_drewN | apply below_drew1) | exact HB.out))) : w.heap.size ≤ gb166)); have n3_ := Aside0.mk ((by rw [hg]; exact (below_size (by repeat (first | (with_reducible first | exact HB.out | apply below_alloc | apply pw_below_drewN | apply below_drew1) | exact HB.out))) : w.heap.size ≤ gb166)); clear HB; have HB := n0_; have BK166 := n1_; have GW166 := n2_; have GE166 := n3_; clear n0_ n1_ n2_ n3_; clear hb hbox hg) | ((with_reducible refine gate_dst (N := 8) rfl ?_); refine box_event ?hg (N := 8) ?hd (cs := #[.int .i64 0, .int .i64 0, .int .i64 0]) (t := 26) ?hr ?_; (case hd => rfl); (case hg => rfl); (case hr => first | (go_simp; done) | (go_simp; rfl)); intro gb167 hg w27 hbox hb; have n0_ := Aside0.mk (blk_below (g := gb166) (o := .cells #[.int .i64 0, .int .i64 0, .int .i64 0] 26 (0, 0)) (by (with_reducible repeat (first | refine blk_drewN ?_ _ | refine blk_drew ?_ | refine blk_alloc ?_ _)); exact BK166.out) hb); have n1_ := Aside0.mk (below_step (by repeat (first | (with_reducible first | exact HB.out | apply below_alloc | apply pw_below_drewN | apply below_drew1 | refine below_set ?_ GE166.out) | exact HB.out)) hb); have n2_ := Aside0.mk (hbox); have n3_ := Aside0.mk ((by rw [hg]; exact (below_size (by repeat (first | (with_reducible first | exact HB.out | apply below_alloc | apply pw_below_drewN | apply below_drew1 | refine below_set ?_ GE166.out) | exact HB.out))) : w.heap.size ≤ gb167)); have n4_ := Aside0.mk ((by rw [hg]; exact (below_size (by repeat (first | (with_reducible first | exact HB.out | apply below_alloc | apply pw_below_drewN | apply below_drew1 | refine below_set ?_ GE166.out) | exact HB.out))) : w.heap.size ≤ gb167)); have n5_ := Aside0.mk ((by rw [hg]; exact Nat.ne_of_lt (blk_lt (g := gb166) (o := .cells #[.int .i64 0, .int .i64 0, .int .i64 0] 26 (0, 0)) (by (with_reducible repeat (first | refine blk_drewN ?_ _ | refine blk_drew ?_ | refine blk_alloc ?_ _)); exact BK166.out)) : gb166 ≠ gb167)); have n6_ := Aside0.mk ((by rw [hg]; exact Nat.ne_of_gt (blk_lt (g := gb166) (o := .cells #[.int .i64 0, .int .i64 0, .int .i64 0] 26 (0, 0)) (by (with_reducible repeat (first | refine blk_drewN ?_ _ | refine blk_drew ?_ | refine blk_alloc ?_ _)); exact BK166.out)) : gb167 ≠ gb166)); clear BK166; clear HB; have BK166 := n0_; have HB := n1_; have BK167 := n2_; have GW167 := n3_; have GE167 := n4_; have NB166_167 := n5_; have NB167_166 := n6_; clear n0_ n1_ n2_ n3_ n4_ n5_ n6_; clear hb hbox hg; have hnb28 := NB166_167.out; have hnc28 := NB167_166.out; have hcz29_0 : w27.cell? ⟨gb166, 0, none⟩ = some (.int .i64 0) := (blk_cell BK166.out 0).trans rfl; have hcz29_1 : w27.cell? ⟨gb166, 1, none⟩ = some (.int .i64 0) := (blk_cell BK166.out 1).trans rfl; have hcz29_2 : w27.cell? ⟨gb166, 2, none⟩ = some (.int .i64 0) := (blk_cell BK166.out 2).trans rfl; have hfz29_0 := blk_frozen BK166.out 0; have hfz29_1 := blk_frozen BK166.out 1; have hfz29_2 := blk_frozen BK166.out 2; have hcz30_0 : w27.cell? ⟨gb167, 0, none⟩ = some (.int .i64 0) := (blk_cell BK167.out 0).trans rfl; have hcz30_1 : w27.cell? ⟨gb167, 1, none⟩ = some (.int .i64 0) := (blk_cell BK167.out 1).trans rfl; have hcz30_2 : w27.cell? ⟨gb167, 2, none⟩ = some (.int .i64 0) := (blk_cell BK167.out 2).trans rfl; have hfz30_0 := blk_frozen BK167.out 0; have hfz30_1 := blk_frozen BK167.out 1; have hfz30_2 := blk_frozen BK167.out 2))
        generalize hW : World.setCell _ _ _ = W
        have BA : W.heap[gb166]? = some (.cells #[.int .i64 t160, .int .i64 t161, .int .i64 t162] 26 (0, 0)) := by rw [← hW]; exact blk_far (blk_far (blk_far (blk_put (blk_put (blk_put BK166.out 0 _ rfl) 1 _ rfl) 2 _ rfl) NB166_167.out _) NB166_167.out _) NB166_167.out _
        have BB : W.heap[gb167]? = some (.cells #[.int .i64 t163, .int .i64 t164, .int .i64 t165] 26 (0, 0)) := by rw [← hW]; exact blk_put (blk_put (blk_put (blk_far (blk_far (blk_far BK167.out NB167_166.out _) NB167_166.out _) NB167_166.out _) 0 _ rfl) 1 _ rfl) 2 _ rfl
        have HBW := Aside0.mk (by rw [← hW]; exact below_set (below_set (below_set (below_set (below_set (below_set HB.out GE166.out) GE166.out) GE166.out) GE167.out) GE167.out) GE167.out : Below w.heap.size w W)
        have hqa0 : W.cell? ⟨gb166, 0, none⟩ = some (.int .i64 t160) := (blk_cell BA 0).trans rfl
        have hra0 := blk_frozen BA 0
        have hqa1 : W.cell? ⟨gb166, 1, none⟩ = some (.int .i64 t161) := (blk_cell BA 1).trans rfl
        have hra1 := blk_frozen BA 1
        have hqa2 : W.cell? ⟨gb166, 2, none⟩ = some (.int .i64 t162) := (blk_cell BA 2).trans rfl
        have hra2 := blk_frozen BA 2
        have hqb0 : W.cell? ⟨gb167, 0, none⟩ = some (.int .i64 t163) := (blk_cell BB 0).trans rfl
        have hrb0 := blk_frozen BB 0
        have hqb1 : W.cell? ⟨gb167, 1, none⟩ = some (.int .i64 t164) := (blk_cell BB 1).trans rfl
        have hrb1 := blk_frozen BB 1
        have hqb2 : W.cell? ⟨gb167, 2, none⟩ = some (.int .i64 t165) := (blk_cell BB 2).trans rfl
        have hrb2 := blk_frozen BB 2
        clear BA BB hW HB
        clear hcz29_0 hcz29_1 hcz29_2 hcz30_0 hcz30_1 hcz30_2 hfz29_0 hfz29_1 hfz29_2 hfz30_0 hfz30_1 hfz30_2
        have HB := HBW
        clear HBW
        go_wp2
        go_ret
        exact ⟨by first | rfl | (simp [errW_none, errW_some] <;> rfl) | (simp [*, errW_none, errW_some] <;> rfl), by repeat (first | (with_reducible first | exact HB.out | apply below_alloc | apply pw_below_drewN | apply below_drew1 | refine below_set ?_ GE166.out | refine below_set ?_ GE167.out) | exact HB.out)⟩
    · rw [if_neg c7] at H
      have c7b0 : (t162 == 31) = false := beq_eq_false_iff_ne.mpr c7
      have c7b1 : (t162 != 31) = true := bne_iff_ne.mpr c7
      by_cases c31 : t165 = 31
      · rw [if_pos c31] at H
        have c31b0 : (t165 == 31) = true := beq_iff_eq.mpr c31
        have c31b1 : (t165 != 31) = false := bne_eq_false_iff_eq.mpr c31
        clear c31
        by_cases c32 : t162 = 30
        · rw [if_pos c32] at H
          have c32b0 : (t162 == 30) = true := beq_iff_eq.mpr c32
          have c32b1 : (t162 != 30) = false := bne_eq_false_iff_eq.mpr c32
          clear c32
          obtain rfl := Option.some.inj H
          go_enter Tryd.func20, Tryd.ntmps20
          go_upto_region 4 with (first | ((with_reducible refine gate_callee (f := 22) rfl ?_); refine goesL_ (some 15) rfl rfl Tryd.func22 (by kernel_rfl) rfl #[.int .i64 a1] rfl (by (try simp only [List.map_toArray, List.map_cons, List.map_nil]); first | done | rfl | (simp only [List.length_drop, List.length_take]; rfl)) ?_; (with_reducible refine (arrearsref05_Civil.calls k a1 t160 t161 t162 _ A5.out).mono ?_); rintro e w33 ⟨rfl, hb⟩; refine ⟨_, rfl, ?_⟩; have n0_ := Aside0.mk (below_step (by repeat (first | (with_reducible first | exact HB.out | apply below_alloc | apply pw_below_drewN | apply below_drew1) | exact HB.out)) hb); clear HB; have HB := n0_; clear n0_; (try clear hb); (try clear hb2); (try clear hk); (try clear hi)) | ((with_reducible refine gate_callee (f := 22) rfl ?_); refine goesL_ (some 17) rfl rfl Tryd.func22 (by kernel_rfl) rfl #[.int .i64 a2] rfl (by (try simp only [List.map_toArray, List.map_cons, List.map_nil]); first | done | rfl | (simp only [List.length_drop, List.length_take]; rfl)) ?_; (with_reducible refine (arrearsref05_Civil.calls k a2 t163 t164 t165 _ A6.out).mono ?_); rintro e w34 ⟨rfl, hb⟩; refine ⟨_, rfl, ?_⟩; have n0_ := Aside0.mk (below_step (by repeat (first | (with_reducible first | exact HB.out | apply below_alloc | apply pw_below_drewN | apply below_drew1) | exact HB.out)) hb); clear HB; have HB := n0_; clear n0_; (try clear hb); (try clear hb2); (try clear hk); (try clear hi)) | ((with_reducible refine gate_dst (N := 7) rfl ?_); refine box_event ?hg (N := 7) ?hd (cs := #[.int .i64 0, .int .i64 0, .int .i64 0]) (t := 26) ?hr ?_; (case hd => rfl); (case hg => rfl); (case hr => first | (go_simp; done) | (go_simp; rfl)); intro gb166 hg w35 hbox hb; have n0_ := Aside0.mk (below_step (by repeat (first | (with_reducible first | exact HB.out | apply below_alloc | apply pw_below_drewN | apply below_drew1) | exact HB.out)) hb); have n1_ := Aside0.mk (hbox); have n2_ := Aside0.mk ((by rw [hg]; exact (below_size (by repeat (first | (with_reducible first | exact HB.out | apply below_alloc | apply pw_below_drewN | apply below_drew1) | exact HB.out))) : w.heap.size ≤ gb166)); have n3_ := Aside0.mk ((by rw [hg]; exact (below_size (by repeat (first | (with_reducible first | exact HB.out | apply below_alloc | apply pw_below_drewN | apply below_drew1) | exact HB.out))) : w.heap.size ≤ gb166)); clear HB; have HB := n0_; have BK166 := n1_; have GW166 := n2_; have GE166 := n3_; clear n0_ n1_ n2_ n3_; clear hb hbox hg) | ((with_reducible refine gate_dst (N := 8) rfl ?_); refine box_event ?hg (N := 8) ?hd (cs := #[.int .i64 0, .int .i64 0, .int .i64 0]) (t := 26) ?hr ?_; (case hd => rfl); (case hg => rfl); (case hr => first | (go_simp; done) | (go_simp; rfl)); intro gb167 hg w36 hbox hb; have n0_ := Aside0.mk (blk_below (g := gb166) (o := .cells #[.int .i64 0, .int .i64 0, .int .i64 0] 26 (0, 0)) (by (with_reducible repeat (first | refine blk_drewN ?_ _ | refine blk_drew ?_ | refine blk_alloc ?_ _)); exact BK166.out) hb); have n1_ := Aside0.mk (below_step (by repeat (first | (with_reducible first | exact HB.out | apply below_alloc | apply pw_below_drewN | apply below_drew1 | refine below_set ?_ GE166.out) | exact HB.out)) hb); have n2_ := Aside0.mk (hbox); have n3_ := Aside0.mk ((by rw [hg]; exact (below_size (by repeat (first | (with_reducible first | exact HB.out | apply below_alloc | apply pw_below_drewN | apply below_drew1 | refine below_set ?_ GE166.out) | exact HB.out))) : w.heap.size ≤ gb167)); have n4_ := Aside0.mk ((by rw [hg]; exact (below_size (by repeat (first | (with_reducible first | exact HB.out | apply below_alloc | apply pw_below_drewN | apply below_drew1 | refine below_set ?_ GE166.out) | exact HB.out))) : w.heap.size ≤ gb167)); have n5_ := Aside0.mk ((by rw [hg]; exact Nat.ne_of_lt (blk_lt (g := gb166) (o := .cells #[.int .i64 0, .int .i64 0, .int .i64 0] 26 (0, 0)) (by (with_reducible repeat (first | refine blk_drewN ?_ _ | refine blk_drew ?_ | refine blk_alloc ?_ _)); exact BK166.out)) : gb166 ≠ gb167)); have n6_ := Aside0.mk ((by rw [hg]; exact Nat.ne_of_gt (blk_lt (g := gb166) (o := .cells #[.int .i64 0, .int .i64 0, .int .i64 0] 26 (0, 0)) (by (with_reducible repeat (first | refine blk_drewN ?_ _ | refine blk_drew ?_ | refine blk_alloc ?_ _)); exact BK166.out)) : gb167 ≠ gb166)); clear BK166; clear HB; have BK166 := n0_; have HB := n1_; have BK167 := n2_; have GW167 := n3_; have GE167 := n4_; have NB166_167 := n5_; have NB167_166 := n6_; clear n0_ n1_ n2_ n3_ n4_ n5_ n6_; clear hb hbox hg; have hnb37 := NB166_167.out; have hnc37 := NB167_166.out; have hcz38_0 : w36.cell? ⟨gb166, 0, none⟩ = some (.int .i64 0) := (blk_cell BK166.out 0).trans rfl; have hcz38_1 : w36.cell? ⟨gb166, 1, none⟩ = some (.int .i64 0) := (blk_cell BK166.out 1).trans rfl; have hcz38_2 : w36.cell? ⟨gb166, 2, none⟩ = some (.int .i64 0) := (blk_cell BK166.out 2).trans rfl; have hfz38_0 := blk_frozen BK166.out 0; have hfz38_1 := blk_frozen BK166.out 1; have hfz38_2 := blk_frozen BK166.out 2; have hcz39_0 : w36.cell? ⟨gb167, 0, none⟩ = some (.int .i64 0) := (blk_cell BK167.out 0).trans rfl; have hcz39_1 : w36.cell? ⟨gb167, 1, none⟩ = some (.int .i64 0) := (blk_cell BK167.out 1).trans rfl; have hcz39_2 : w36.cell? ⟨gb167, 2, none⟩ = some (.int .i64 0) := (blk_cell BK167.out 2).trans rfl; have hfz39_0 := blk_frozen BK167.out 0; have hfz39_1 := blk_frozen BK167.out 1; have hfz39_2 := blk_frozen BK167.out 2))
          generalize hW : World.setCell _ _ _ = W
          have BA : W.heap[gb166]? = some (.cells #[.int .i64 t160, .int .i64 t161, .int .i64 t162] 26 (0, 0)) := by rw [← hW]; exact blk_far (blk_far (blk_far (blk_put (blk_put (blk_put BK166.out 0 _ rfl) 1 _ rfl) 2 _ rfl) NB166_167.out _) NB166_167.out _) NB166_167.out _
          have BB : W.heap[gb167]? = some (.cells #[.int .i64 t163, .int .i64 t164, .int .i64 t165] 26 (0, 0)) := by rw [← hW]; exact blk_put (blk_put (blk_put (blk_far (blk_far (blk_far BK167.out NB167_166.out _) NB167_166.out _) NB167_166.out _) 0 _ rfl) 1 _ rfl) 2 _ rfl
          have HBW := Aside0.mk (by rw [← hW]; exact below_set (below_set (below_set (below_set (below_set (below_set HB.out GE166.out) GE166.out) GE166.out) GE167.out) GE167.out) GE167.out : Below w.heap.size w W)
          have hqa0 : W.cell? ⟨gb166, 0, none⟩ = some (.int .i64 t160) := (blk_cell BA 0).trans rfl
          have hra0 := blk_frozen BA 0
          have hqa1 : W.cell? ⟨gb166, 1, none⟩ = some (.int .i64 t161) := (blk_cell BA 1).trans rfl
          have hra1 := blk_frozen BA 1
          have hqa2 : W.cell? ⟨gb166, 2, none⟩ = some (.int .i64 t162) := (blk_cell BA 2).trans rfl
          have hra2 := blk_frozen BA 2
          have hqb0 : W.cell? ⟨gb167, 0, none⟩ = some (.int .i64 t163) := (blk_cell BB 0).trans rfl
          have hrb0 := blk_frozen BB 0
          have hqb1 : W.cell? ⟨gb167, 1, none⟩ = some (.int .i64 t164) := (blk_cell BB 1).trans rfl
          have hrb1 := blk_frozen BB 1
          have hqb2 : W.cell? ⟨gb167, 2, none⟩ = some (.int .i64 t165) := (blk_cell BB 2).trans rfl
          have hrb2 := blk_frozen BB 2
          clear BA BB hW HB
          clear hcz38_0 hcz38_1 hcz38_2 hcz39_0 hcz39_1 hcz39_2 hfz38_0 hfz38_1 hfz38_2 hfz39_0 hfz39_1 hfz39_2
          have HB := HBW
          clear HBW
          go_wp2
          go_ret
          exact ⟨by first | rfl | (simp [errW_none, errW_some] <;> rfl) | (simp [*, errW_none, errW_some] <;> rfl), by repeat (first | (with_reducible first | exact HB.out | apply below_alloc | apply pw_below_drewN | apply below_drew1 | refine below_set ?_ GE166.out | refine below_set ?_ GE167.out) | exact HB.out)⟩
        · rw [if_neg c32] at H
          have c32b0 : (t162 == 30) = false := beq_eq_false_iff_ne.mpr c32
          have c32b1 : (t162 != 30) = true := bne_iff_ne.mpr c32
          obtain rfl := Option.some.inj H
          go_enter Tryd.func20, Tryd.ntmps20
          go_upto_region 4 with (first | ((with_reducible refine gate_callee (f := 22) rfl ?_); refine goesL_ (some 15) rfl rfl Tryd.func22 (by kernel_rfl) rfl #[.int .i64 a1] rfl (by (try simp only [List.map_toArray, List.map_cons, List.map_nil]); first | done | rfl | (simp only [List.length_drop, List.length_take]; rfl)) ?_; (with_reducible refine (arrearsref05_Civil.calls k a1 t160 t161 t162 _ A5.out).mono ?_); rintro e w40 ⟨rfl, hb⟩; refine ⟨_, rfl, ?_⟩; have n0_ := Aside0.mk (below_step (by repeat (first | (with_reducible first | exact HB.out | apply below_alloc | apply pw_below_drewN | apply below_drew1) | exact HB.out)) hb); clear HB; have HB := n0_; clear n0_; (try clear hb); (try clear hb2); (try clear hk); (try clear hi)) | ((with_reducible refine gate_callee (f := 22) rfl ?_); refine goesL_ (some 17) rfl rfl Tryd.func22 (by kernel_rfl) rfl #[.int .i64 a2] rfl (by (try simp only [List.map_toArray, List.map_cons, List.map_nil]); first | done | rfl | (simp only [List.length_drop, List.length_take]; rfl)) ?_; (with_reducible refine (arrearsref05_Civil.calls k a2 t163 t164 t165 _ A6.out).mono ?_); rintro e w41 ⟨rfl, hb⟩; refine ⟨_, rfl, ?_⟩; have n0_ := Aside0.mk (below_step (by repeat (first | (with_reducible first | exact HB.out | apply below_alloc | apply pw_below_drewN | apply below_drew1) | exact HB.out)) hb); clear HB; have HB := n0_; clear n0_; (try clear hb); (try clear hb2); (try clear hk); (try clear hi)) | ((with_reducible refine gate_dst (N := 7) rfl ?_); refine box_event ?hg (N := 7) ?hd (cs := #[.int .i64 0, .int .i64 0, .int .i64 0]) (t := 26) ?hr ?_; (case hd => rfl); (case hg => rfl); (case hr => first | (go_simp; done) | (go_simp; rfl)); intro gb166 hg w42 hbox hb; have n0_ := Aside0.mk (below_step (by repeat (first | (with_reducible first | exact HB.out | apply below_alloc | apply pw_below_drewN | apply below_drew1) | exact HB.out)) hb); have n1_ := Aside0.mk (hbox); have n2_ := Aside0.mk ((by rw [hg]; exact (below_size (by repeat (first | (with_reducible first | exact HB.out | apply below_alloc | apply pw_below_drewN | apply below_drew1) | exact HB.out))) : w.heap.size ≤ gb166)); have n3_ := Aside0.mk ((by rw [hg]; exact (below_size (by repeat (first | (with_reducible first | exact HB.out | apply below_alloc | apply pw_below_drewN | apply below_drew1) | exact HB.out))) : w.heap.size ≤ gb166)); clear HB; have HB := n0_; have BK166 := n1_; have GW166 := n2_; have GE166 := n3_; clear n0_ n1_ n2_ n3_; clear hb hbox hg) | ((with_reducible refine gate_dst (N := 8) rfl ?_); refine box_event ?hg (N := 8) ?hd (cs := #[.int .i64 0, .int .i64 0, .int .i64 0]) (t := 26) ?hr ?_; (case hd => rfl); (case hg => rfl); (case hr => first | (go_simp; done) | (go_simp; rfl)); intro gb167 hg w43 hbox hb; have n0_ := Aside0.mk (blk_below (g := gb166) (o := .cells #[.int .i64 0, .int .i64 0, .int .i64 0] 26 (0, 0)) (by (with_reducible repeat (first | refine blk_drewN ?_ _ | refine blk_drew ?_ | refine blk_alloc ?_ _)); exact BK166.out) hb); have n1_ := Aside0.mk (below_step (by repeat (first | (with_reducible first | exact HB.out | apply below_alloc | apply pw_below_drewN | apply below_drew1 | refine below_set ?_ GE166.out) | exact HB.out)) hb); have n2_ := Aside0.mk (hbox); have n3_ := Aside0.mk ((by rw [hg]; exact (below_size (by repeat (first | (with_reducible first | exact HB.out | apply below_alloc | apply pw_below_drewN | apply below_drew1 | refine below_set ?_ GE166.out) | exact HB.out))) : w.heap.size ≤ gb167)); have n4_ := Aside0.mk ((by rw [hg]; exact (below_size (by repeat (first | (with_reducible first | exact HB.out | apply below_alloc | apply pw_below_drewN | apply below_drew1 | refine below_set ?_ GE166.out) | exact HB.out))) : w.heap.size ≤ gb167)); have n5_ := Aside0.mk ((by rw [hg]; exact Nat.ne_of_lt (blk_lt (g := gb166) (o := .cells #[.int .i64 0, .int .i64 0, .int .i64 0] 26 (0, 0)) (by (with_reducible repeat (first | refine blk_drewN ?_ _ | refine blk_drew ?_ | refine blk_alloc ?_ _)); exact BK166.out)) : gb166 ≠ gb167)); have n6_ := Aside0.mk ((by rw [hg]; exact Nat.ne_of_gt (blk_lt (g := gb166) (o := .cells #[.int .i64 0, .int .i64 0, .int .i64 0] 26 (0, 0)) (by (with_reducible repeat (first | refine blk_drewN ?_ _ | refine blk_drew ?_ | refine blk_alloc ?_ _)); exact BK166.out)) : gb167 ≠ gb166)); clear BK166; clear HB; have BK166 := n0_; have HB := n1_; have BK167 := n2_; have GW167 := n3_; have GE167 := n4_; have NB166_167 := n5_; have NB167_166 := n6_; clear n0_ n1_ n2_ n3_ n4_ n5_ n6_; clear hb hbox hg; have hnb44 := NB166_167.out; have hnc44 := NB167_166.out; have hcz45_0 : w43.cell? ⟨gb166, 0, none⟩ = some (.int .i64 0) := (blk_cell BK166.out 0).trans rfl; have hcz45_1 : w43.cell? ⟨gb166, 1, none⟩ = some (.int .i64 0) := (blk_cell BK166.out 1).trans rfl; have hcz45_2 : w43.cell? ⟨gb166, 2, none⟩ = some (.int .i64 0) := (blk_cell BK166.out 2).trans rfl; have hfz45_0 := blk_frozen BK166.out 0; have hfz45_1 := blk_frozen BK166.out 1; have hfz45_2 := blk_frozen BK166.out 2; have hcz46_0 : w43.cell? ⟨gb167, 0, none⟩ = some (.int .i64 0) := (blk_cell BK167.out 0).trans rfl; have hcz46_1 : w43.cell? ⟨gb167, 1, none⟩ = some (.int .i64 0) := (blk_cell BK167.out 1).trans rfl; have hcz46_2 : w43.cell? ⟨gb167, 2, none⟩ = some (.int .i64 0) := (blk_cell BK167.out 2).trans rfl; have hfz46_0 := blk_frozen BK167.out 0; have hfz46_1 := blk_frozen BK167.out 1; have hfz46_2 := blk_frozen BK167.out 2))
          generalize hW : World.setCell _ _ _ = W
          have BA : W.heap[gb166]? = some (.cells #[.int .i64 t160, .int .i64 t161, .int .i64 t162] 26 (0, 0)) := by rw [← hW]; exact blk_far (blk_far (blk_far (blk_put (blk_put (blk_put BK166.out 0 _ rfl) 1 _ rfl) 2 _ rfl) NB166_167.out _) NB166_167.out _) NB166_167.out _
          have BB : W.heap[gb167]? = some (.cells #[.int .i64 t163, .int .i64 t164, .int .i64 t165] 26 (0, 0)) := by rw [← hW]; exact blk_put (blk_put (blk_put (blk_far (blk_far (blk_far BK167.out NB167_166.out _) NB167_166.out _) NB167_166.out _) 0 _ rfl) 1 _ rfl) 2 _ rfl
          have HBW := Aside0.mk (by rw [← hW]; exact below_set (below_set (below_set (below_set (below_set (below_set HB.out GE166.out) GE166.out) GE166.out) GE167.out) GE167.out) GE167.out : Below w.heap.size w W)
          have hqa0 : W.cell? ⟨gb166, 0, none⟩ = some (.int .i64 t160) := (blk_cell BA 0).trans rfl
          have hra0 := blk_frozen BA 0
          have hqa1 : W.cell? ⟨gb166, 1, none⟩ = some (.int .i64 t161) := (blk_cell BA 1).trans rfl
          have hra1 := blk_frozen BA 1
          have hqa2 : W.cell? ⟨gb166, 2, none⟩ = some (.int .i64 t162) := (blk_cell BA 2).trans rfl
          have hra2 := blk_frozen BA 2
          have hqb0 : W.cell? ⟨gb167, 0, none⟩ = some (.int .i64 t163) := (blk_cell BB 0).trans rfl
          have hrb0 := blk_frozen BB 0
          have hqb1 : W.cell? ⟨gb167, 1, none⟩ = some (.int .i64 t164) := (blk_cell BB 1).trans rfl
          have hrb1 := blk_frozen BB 1
          have hqb2 : W.cell? ⟨gb167, 2, none⟩ = some (.int .i64 t165) := (blk_cell BB 2).trans rfl
          have hrb2 := blk_frozen BB 2
          clear BA BB hW HB
          clear hcz45_0 hcz45_1 hcz45_2 hcz46_0 hcz46_1 hcz46_2 hfz45_0 hfz45_1 hfz45_2 hfz46_0 hfz46_1 hfz46_2
          have HB := HBW
          clear HBW
          go_wp2
          go_ret
          exact ⟨by first | rfl | (simp [errW_none, errW_some] <;> rfl) | (simp [*, errW_none, errW_some] <;> rfl), by repeat (first | (with_reducible first | exact HB.out | apply below_alloc | apply pw_below_drewN | apply below_drew1 | refine below_set ?_ GE166.out | refine below_set ?_ GE167.out) | exact HB.out)⟩
      · rw [if_neg c31] at H
        have c31b0 : (t165 == 31) = false := beq_eq_false_iff_ne.mpr c31
        have c31b1 : (t165 != 31) = true := bne_iff_ne.mpr c31
        obtain rfl := Option.some.inj H
        go_enter Tryd.func20, Tryd.ntmps20
        go_upto_region 4 with (first | ((with_reducible refine gate_callee (f := 22) rfl ?_); refine goesL_ (some 15) rfl rfl Tryd.func22 (by kernel_rfl) rfl #[.int .i64 a1] rfl (by (try simp only [List.map_toArray, List.map_cons, List.map_nil]); first | done | rfl | (simp only [List.length_drop, List.length_take]; rfl)) ?_; (with_reducible refine (arrearsref05_Civil.calls k a1 t160 t161 t162 _ A5.out).mono ?_); rintro e w47 ⟨rfl, hb⟩; refine ⟨_, rfl, ?_⟩; have n0_ := Aside0.mk (below_step (by repeat (first | (with_reducible first | exact HB.out | apply below_alloc | apply pw_below_drewN | apply below_drew1) | exact HB.out)) hb); clear HB; have HB := n0_; clear n0_; (try clear hb); (try clear hb2); (try clear hk); (try clear hi)) | ((with_reducible refine gate_callee (f := 22) rfl ?_); refine goesL_ (some 17) rfl rfl Tryd.func22 (by kernel_rfl) rfl #[.int .i64 a2] rfl (by (try simp only [List.map_toArray, List.map_cons, List.map_nil]); first | done | rfl | (simp only [List.length_drop, List.length_take]; rfl)) ?_; (with_reducible refine (arrearsref05_Civil.calls k a2 t163 t164 t165 _ A6.out).mono ?_); rintro e w48 ⟨rfl, hb⟩; refine ⟨_, rfl, ?_⟩; have n0_ := Aside0.mk (below_step (by repeat (first | (with_reducible first | exact HB.out | apply below_alloc | apply pw_below_drewN | apply below_drew1) | exact HB.out)) hb); clear HB; have HB := n0_; clear n0_; (try clear hb); (try clear hb2); (try clear hk); (try clear hi)) | ((with_reducible refine gate_dst (N := 7) rfl ?_); refine box_event ?hg (N := 7) ?hd (cs := #[.int .i64 0, .int .i64 0, .int .i64 0]) (t := 26) ?hr ?_; (case hd => rfl); (case hg => rfl); (case hr => first | (go_simp; done) | (go_simp; rfl)); intro gb166 hg w49 hbox hb; have n0_ := Aside0.mk (below_step (by repeat (first | (with_reducible first | exact HB.out | apply below_alloc | apply pw_below_drewN | apply below_drew1) | exact HB.out)) hb); have n1_ := Aside0.mk (hbox); have n2_ := Aside0.mk ((by rw [hg]; exact (below_size (by repeat (first | (with_reducible first | exact HB.out | apply below_alloc | apply pw_below_drewN | apply below_drew1) | exact HB.out))) : w.heap.size ≤ gb166)); have n3_ := Aside0.mk ((by rw [hg]; exact (below_size (by repeat (first | (with_reducible first | exact HB.out | apply below_alloc | apply pw_below_drewN | apply below_drew1) | exact HB.out))) : w.heap.size ≤ gb166)); clear HB; have HB := n0_; have BK166 := n1_; have GW166 := n2_; have GE166 := n3_; clear n0_ n1_ n2_ n3_; clear hb hbox hg) | ((with_reducible refine gate_dst (N := 8) rfl ?_); refine box_event ?hg (N := 8) ?hd (cs := #[.int .i64 0, .int .i64 0, .int .i64 0]) (t := 26) ?hr ?_; (case hd => rfl); (case hg => rfl); (case hr => first | (go_simp; done) | (go_simp; rfl)); intro gb167 hg w50 hbox hb; have n0_ := Aside0.mk (blk_below (g := gb166) (o := .cells #[.int .i64 0, .int .i64 0, .int .i64 0] 26 (0, 0)) (by (with_reducible repeat (first | refine blk_drewN ?_ _ | refine blk_drew ?_ | refine blk_alloc ?_ _)); exact BK166.out) hb); have n1_ := Aside0.mk (below_step (by repeat (first | (with_reducible first | exact HB.out | apply below_alloc | apply pw_below_drewN | apply below_drew1 | refine below_set ?_ GE166.out) | exact HB.out)) hb); have n2_ := Aside0.mk (hbox); have n3_ := Aside0.mk ((by rw [hg]; exact (below_size (by repeat (first | (with_reducible first | exact HB.out | apply below_alloc | apply pw_below_drewN | apply below_drew1 | refine below_set ?_ GE166.out) | exact HB.out))) : w.heap.size ≤ gb167)); have n4_ := Aside0.mk ((by rw [hg]; exact (below_size (by repeat (first | (with_reducible first | exact HB.out | apply below_alloc | apply pw_below_drewN | apply below_drew1 | refine below_set ?_ GE166.out) | exact HB.out))) : w.heap.size ≤ gb167)); have n5_ := Aside0.mk ((by rw [hg]; exact Nat.ne_of_lt (blk_lt (g := gb166) (o := .cells #[.int .i64 0, .int .i64 0, .int .i64 0] 26 (0, 0)) (by (with_reducible repeat (first | refine blk_drewN ?_ _ | refine blk_drew ?_ | refine blk_alloc ?_ _)); exact BK166.out)) : gb166 ≠ gb167)); have n6_ := Aside0.mk ((by rw [hg]; exact Nat.ne_of_gt (blk_lt (g := gb166) (o := .cells #[.int .i64 0, .int .i64 0, .int .i64 0] 26 (0, 0)) (by (with_reducible repeat (first | refine blk_drewN ?_ _ | refine blk_drew ?_ | refine blk_alloc ?_ _)); exact BK166.out)) : gb167 ≠ gb166)); clear BK166; clear HB; have BK166 := n0_; have HB := n1_; have BK167 := n2_; have GW167 := n3_; have GE167 := n4_; have NB166_167 := n5_; have NB167_166 := n6_; clear n0_ n1_ n2_ n3_ n4_ n5_ n6_; clear hb hbox hg; have hnb51 := NB166_167.out; have hnc51 := NB167_166.out; have hcz52_0 : w50.cell? ⟨gb166, 0, none⟩ = some (.int .i64 0) := (blk_cell BK166.out 0).trans rfl; have hcz52_1 : w50.cell? ⟨gb166, 1, none⟩ = some (.int .i64 0) := (blk_cell BK166.out 1).trans rfl; have hcz52_2 : w50.cell? ⟨gb166, 2, none⟩ = some (.int .i64 0) := (blk_cell BK166.out 2).trans rfl; have hfz52_0 := blk_frozen BK166.out 0; have hfz52_1 := blk_frozen BK166.out 1; have hfz52_2 := blk_frozen BK166.out 2; have hcz53_0 : w50.cell? ⟨gb167, 0, none⟩ = some (.int .i64 0) := (blk_cell BK167.out 0).trans rfl; have hcz53_1 : w50.cell? ⟨gb167, 1, none⟩ = some (.int .i64 0) := (blk_cell BK167.out 1).trans rfl; have hcz53_2 : w50.cell? ⟨gb167, 2, none⟩ = some (.int .i64 0) := (blk_cell BK167.out 2).trans rfl; have hfz53_0 := blk_frozen BK167.out 0; have hfz53_1 := blk_frozen BK167.out 1; have hfz53_2 := blk_frozen BK167.out 2))
        generalize hW : World.setCell _ _ _ = W
        have BA : W.heap[gb166]? = some (.cells #[.int .i64 t160, .int .i64 t161, .int .i64 t162] 26 (0, 0)) := by rw [← hW]; exact blk_far (blk_far (blk_far (blk_put (blk_put (blk_put BK166.out 0 _ rfl) 1 _ rfl) 2 _ rfl) NB166_167.out _) NB166_167.out _) NB166_167.out _
        have BB : W.heap[gb167]? = some (.cells #[.int .i64 t163, .int .i64 t164, .int .i64 t165] 26 (0, 0)) := by rw [← hW]; exact blk_put (blk_put (blk_put (blk_far (blk_far (blk_far BK167.out NB167_166.out _) NB167_166.out _) NB167_166.out _) 0 _ rfl) 1 _ rfl) 2 _ rfl
        have HBW := Aside0.mk (by rw [← hW]; exact below_set (below_set (below_set (below_set (below_set (below_set HB.out GE166.out) GE166.out) GE166.out) GE167.out) GE167.out) GE167.out : Below w.heap.size w W)
        have hqa0 : W.cell? ⟨gb166, 0, none⟩ = some (.int .i64 t160) := (blk_cell BA 0).trans rfl
        have hra0 := blk_frozen BA 0
        have hqa1 : W.cell? ⟨gb166, 1, none⟩ = some (.int .i64 t161) := (blk_cell BA 1).trans rfl
        have hra1 := blk_frozen BA 1
        have hqa2 : W.cell? ⟨gb166, 2, none⟩ = some (.int .i64 t162) := (blk_cell BA 2).trans rfl
        have hra2 := blk_frozen BA 2
        have hqb0 : W.cell? ⟨gb167, 0, none⟩ = some (.int .i64 t163) := (blk_cell BB 0).trans rfl
        have hrb0 := blk_frozen BB 0
        have hqb1 : W.cell? ⟨gb167, 1, none⟩ = some (.int .i64 t164) := (blk_cell BB 1).trans rfl
        have hrb1 := blk_frozen BB 1
        have hqb2 : W.cell? ⟨gb167, 2, none⟩ = some (.int .i64 t165) := (blk_cell BB 2).trans rfl
        have hrb2 := blk_frozen BB 2
        clear BA BB hW HB
        clear hcz52_0 hcz52_1 hcz52_2 hcz53_0 hcz53_1 hcz53_2 hfz52_0 hfz52_1 hfz52_2 hfz53_0 hfz53_1 hfz53_2
        have HB := HBW
        clear HBW
        go_wp2
        go_ret
        exact ⟨by first | rfl | (simp [errW_none, errW_some] <;> rfl) | (simp [*, errW_none, errW_some] <;> rfl), by repeat (first | (with_reducible first | exact HB.out | apply below_alloc | apply pw_below_drewN | apply below_drew1 | refine below_set ?_ GE166.out | refine below_set ?_ GE167.out) | exact HB.out)⟩
  · replace c4 := Bool.eq_false_iff.mpr c4
    subst c4
    have H1 : (some (wrap64 (a2 - a1))) = some r := by rw [if_neg (show ¬ (false = true) by decide)] at H; exact H
    clear H
    have H := H1
    clear H1
    obtain rfl := Option.some.inj H
    go_enter Tryd.func20, Tryd.ntmps20
    go_wp2
    go_ret
    exact ⟨by first | rfl | (simp [errW_none, errW_some] <;> rfl) | (simp [*, errW_none, errW_some] <;> rfl), by repeat (first | (with_reducible first | exact HB.out | apply below_alloc | apply pw_below_drewN | apply below_drew1) | exact HB.out)⟩

/-! ### arrearslaw06_SpanCounts: function 6 -/
def arrearslaw06_SpanCounts.j0 : Nat → Int → Int → Int → Int → Option Int → Bool → Option (Bool)
  | 0, _, _, _, _, _, _ => none
  | k + 1, x0, x1, x2, x7, x8, x38 => if x38 = true then (if x7 = 0 then ((api_Code.f x8).bind fun t175 => (some (t175 == 1))) else (some false)) else (if x8.isNone = true then ((arrearsref06_Days.f k (x0 == 2) (wrap64 (x1)) (wrap64 (x2))).bind fun t177 => (if x7 = t177 then (some (decide (x7 ≥ 0))) else (some false))) else (some false))
def arrearslaw06_SpanCounts.f (k : Nat) (a0 : Int) (a1 : Int) (a2 : Int) : Option (Bool) := (arrearslaw06_awake.f k).bind fun t168 => (if t168 = true then ((span_Days.f k a0 a1 a2).bind fun bt169 => (if a0 = 1 then ((arrearslaw06_right.f a1).bind fun t171 => (if t171 = true then ((arrearslaw06_right.f a2).bind fun t172 => (if t172 = true then (arrearslaw06_SpanCounts.j0 k a0 a1 a2 bt169.1 bt169.2 (decide (a2 < a1))) else (arrearslaw06_SpanCounts.j0 k a0 a1 a2 bt169.1 bt169.2 true))) else (arrearslaw06_SpanCounts.j0 k a0 a1 a2 bt169.1 bt169.2 true))) else (if a0 = 2 then ((arrearslaw06_right.f a1).bind fun t173 => (if t173 = true then ((arrearslaw06_right.f a2).bind fun t174 => (if t174 = true then (arrearslaw06_SpanCounts.j0 k a0 a1 a2 bt169.1 bt169.2 (decide (a2 < a1))) else (arrearslaw06_SpanCounts.j0 k a0 a1 a2 bt169.1 bt169.2 true))) else (arrearslaw06_SpanCounts.j0 k a0 a1 a2 bt169.1 bt169.2 true))) else (arrearslaw06_SpanCounts.j0 k a0 a1 a2 bt169.1 bt169.2 true)))) else (some false))
theorem arrearslaw06_SpanCounts.mono_l : ∀ k, (∀ y0 y1 y2 y3 y4 y5, LeO (arrearslaw06_SpanCounts.j0 k y0 y1 y2 y3 y4 y5) (arrearslaw06_SpanCounts.j0 (k + 1) y0 y1 y2 y3 y4 y5))
  | 0 => fun _ _ _ _ _ _ r h => by simp [arrearslaw06_SpanCounts.j0] at h
  | k + 1 => by
    have ih0 := arrearslaw06_SpanCounts.mono_l k
    · intro y0 y1 y2 y3 y4 y5
      unfold arrearslaw06_SpanCounts.j0
      repeat' first
      | (with_reducible exact ih0 _ _ _ _ _ _)
      | (with_reducible exact arrearslaw06_awake.mono _)
      | (with_reducible exact arrearsref06_Days.mono _ _ _ _)
      | (with_reducible exact span_Days.mono _ _ _ _)
      | (with_reducible exact LeO.refl _)
      | (with_reducible exact LeO.none _)
      | (with_reducible refine LeO.ite ?_ ?_)
      | (with_reducible refine LeO.bind ?_ (fun _ => ?_))
      | exact ih0 _ _ _ _ _ _
      | exact arrearslaw06_awake.mono _
      | exact arrearsref06_Days.mono _ _ _ _
      | exact span_Days.mono _ _ _ _
      | exact LeO.none _
      | refine LeO.ite ?_ ?_
      | refine LeO.bind ?_ (fun _ => ?_)
theorem arrearslaw06_SpanCounts.mono : ∀ a0 a1 a2 k, LeO (arrearslaw06_SpanCounts.f k a0 a1 a2) (arrearslaw06_SpanCounts.f (k + 1) a0 a1 a2) := by
  intro a0 a1 a2 k
  have ih0 := arrearslaw06_SpanCounts.mono_l k
  unfold arrearslaw06_SpanCounts.f
  repeat' first
      | (with_reducible exact ih0 _ _ _ _ _ _)
      | (with_reducible exact arrearslaw06_awake.mono _)
      | (with_reducible exact arrearsref06_Days.mono _ _ _ _)
      | (with_reducible exact span_Days.mono _ _ _ _)
      | (with_reducible exact LeO.refl _)
      | (with_reducible exact LeO.none _)
      | (with_reducible refine LeO.ite ?_ ?_)
      | (with_reducible refine LeO.bind ?_ (fun _ => ?_))
      | exact ih0 _ _ _ _ _ _
      | exact arrearslaw06_awake.mono _
      | exact arrearsref06_Days.mono _ _ _ _
      | exact span_Days.mono _ _ _ _
      | exact LeO.none _
      | refine LeO.ite ?_ ?_
      | refine LeO.bind ?_ (fun _ => ?_)
set_option maxHeartbeats 8000000 in
set_option maxRecDepth 100000 in
theorem arrearslaw06_SpanCounts.calls (k : Nat) (a0 : Int) (a1 : Int) (a2 : Int) (r : Bool) (w : World) (hG : Go.Proofs.YtdkdjikfhclmaaaDoor.M.Laid w) (h : arrearslaw06_SpanCounts.f k a0 a1 a2 = some r) (hr : r = true) :
    Calls Tryd.prog 6 #[.int .u8 a0, .int .i32 a1, .int .i32 a2] w fun e w' => e = .returned (.bool r) ∧ Below w.heap.size w w' := by
  have hu28 := Tryd.underlying28
  have hu44 := Tryd.underlying44
  have HB := Aside0.mk (Below.refl w.heap.size w)
  have HG := Aside0.mk hG
  clear hG
  have HR := Aside0.mk hr
  clear hr
  have H : ((arrearslaw06_awake.f k).bind fun t168 => (if t168 = true then ((span_Days.f k a0 a1 a2).bind fun bt169 => (if a0 = 1 then ((arrearslaw06_right.f a1).bind fun t171 => (if t171 = true then ((arrearslaw06_right.f a2).bind fun t172 => (if t172 = true then (arrearslaw06_SpanCounts.j0 k a0 a1 a2 bt169.1 bt169.2 (decide (a2 < a1))) else (arrearslaw06_SpanCounts.j0 k a0 a1 a2 bt169.1 bt169.2 true))) else (arrearslaw06_SpanCounts.j0 k a0 a1 a2 bt169.1 bt169.2 true))) else (if a0 = 2 then ((arrearslaw06_right.f a1).bind fun t173 => (if t173 = true then ((arrearslaw06_right.f a2).bind fun t174 => (if t174 = true then (arrearslaw06_SpanCounts.j0 k a0 a1 a2 bt169.1 bt169.2 (decide (a2 < a1))) else (arrearslaw06_SpanCounts.j0 k a0 a1 a2 bt169.1 bt169.2 true))) else (arrearslaw06_SpanCounts.j0 k a0 a1 a2 bt169.1 bt169.2 true))) else (arrearslaw06_SpanCounts.j0 k a0 a1 a2 bt169.1 bt169.2 true)))) else (some false))) = some r := h
  clear h
  replace H := Option.bind_eq_some_iff.mp H
  obtain ⟨t168, A40, H⟩ := H
  replace H : (if t168 = true then ((span_Days.f k a0 a1 a2).bind fun bt169 => (if a0 = 1 then ((arrearslaw06_right.f a1).bind fun t171 => (if t171 = true then ((arrearslaw06_right.f a2).bind fun t172 => (if t172 = true then (arrearslaw06_SpanCounts.j0 k a0 a1 a2 bt169.1 bt169.2 (decide (a2 < a1))) else (arrearslaw06_SpanCounts.j0 k a0 a1 a2 bt169.1 bt169.2 true))) else (arrearslaw06_SpanCounts.j0 k a0 a1 a2 bt169.1 bt169.2 true))) else (if a0 = 2 then ((arrearslaw06_right.f a1).bind fun t173 => (if t173 = true then ((arrearslaw06_right.f a2).bind fun t174 => (if t174 = true then (arrearslaw06_SpanCounts.j0 k a0 a1 a2 bt169.1 bt169.2 (decide (a2 < a1))) else (arrearslaw06_SpanCounts.j0 k a0 a1 a2 bt169.1 bt169.2 true))) else (arrearslaw06_SpanCounts.j0 k a0 a1 a2 bt169.1 bt169.2 true))) else (arrearslaw06_SpanCounts.j0 k a0 a1 a2 bt169.1 bt169.2 true)))) else (some false)) = some r := H
  have A4 := Aside0.mk A40
  clear A40
  by_cases c5 : t168 = true
  · subst c5
    have H1 : ((span_Days.f k a0 a1 a2).bind fun bt169 => (if a0 = 1 then ((arrearslaw06_right.f a1).bind fun t171 => (if t171 = true then ((arrearslaw06_right.f a2).bind fun t172 => (if t172 = true then (arrearslaw06_SpanCounts.j0 k a0 a1 a2 bt169.1 bt169.2 (decide (a2 < a1))) else (arrearslaw06_SpanCounts.j0 k a0 a1 a2 bt169.1 bt169.2 true))) else (arrearslaw06_SpanCounts.j0 k a0 a1 a2 bt169.1 bt169.2 true))) else (if a0 = 2 then ((arrearslaw06_right.f a1).bind fun t173 => (if t173 = true then ((arrearslaw06_right.f a2).bind fun t174 => (if t174 = true then (arrearslaw06_SpanCounts.j0 k a0 a1 a2 bt169.1 bt169.2 (decide (a2 < a1))) else (arrearslaw06_SpanCounts.j0 k a0 a1 a2 bt169.1 bt169.2 true))) else (arrearslaw06_SpanCounts.j0 k a0 a1 a2 bt169.1 bt169.2 true))) else (arrearslaw06_SpanCounts.j0 k a0 a1 a2 bt169.1 bt169.2 true)))) = some r := by rw [if_pos rfl] at H; exact H
    clear H
    have H := H1
    clear H1
    replace H := Option.bind_eq_some_iff.mp H
    obtain ⟨⟨t169, t170⟩, A60, H⟩ := H
    replace H : (if a0 = 1 then ((arrearslaw06_right.f a1).bind fun t171 => (if t171 = true then ((arrearslaw06_right.f a2).bind fun t172 => (if t172 = true then (arrearslaw06_SpanCounts.j0 k a0 a1 a2 t169 t170 (decide (a2 < a1))) else (arrearslaw06_SpanCounts.j0 k a0 a1 a2 t169 t170 true))) else (arrearslaw06_SpanCounts.j0 k a0 a1 a2 t169 t170 true))) else (if a0 = 2 then ((arrearslaw06_right.f a1).bind fun t173 => (if t173 = true then ((arrearslaw06_right.f a2).bind fun t174 => (if t174 = true then (arrearslaw06_SpanCounts.j0 k a0 a1 a2 t169 t170 (decide (a2 < a1))) else (arrearslaw06_SpanCounts.j0 k a0 a1 a2 t169 t170 true))) else (arrearslaw06_SpanCounts.j0 k a0 a1 a2 t169 t170 true))) else (arrearslaw06_SpanCounts.j0 k a0 a1 a2 t169 t170 true))) = some r := H
    have A6 := Aside0.mk A60
    clear A60
    have HC7 := Aside0.mk H
    clear H
    go_enter Tryd.func6, Tryd.ntmps6
    go_upto_region 4 with (first | ((with_reducible refine gate_callee (f := 8) rfl ?_); refine goesL_ (some 9) rfl rfl Tryd.func8 (by kernel_rfl) rfl #[] rfl (by (try simp only [List.map_toArray, List.map_cons, List.map_nil]); first | done | rfl | (simp only [List.length_drop, List.length_take]; rfl)) ?_; (with_reducible refine (arrearslaw06_awake.calls k  true _ ?hGL A4.out).mono ?_); (case hGL => exact Go.Proofs.YtdkdjikfhclmaaaDoor.M.Laid.below HG.out (by repeat (first | (with_reducible first | exact HB.out | apply below_alloc | apply pw_below_drewN | apply below_drew1) | exact HB.out))); rintro e w8 ⟨rfl, hb⟩; refine ⟨_, rfl, ?_⟩; have n0_ := Aside0.mk (below_step (by repeat (first | (with_reducible first | exact HB.out | apply below_alloc | apply pw_below_drewN | apply below_drew1) | exact HB.out)) hb); clear HB; have HB := n0_; clear n0_; (try clear hb); (try clear hb2); (try clear hk); (try clear hi)) | ((with_reducible refine gate_callee (f := 10) rfl ?_); refine goesL_ (some 15) rfl rfl Tryd.func10 (by kernel_rfl) rfl #[.int .u8 a0, .int .i32 a1, .int .i32 a2] rfl (by (try simp only [List.map_toArray, List.map_cons, List.map_nil]); first | done | rfl | (simp only [List.length_drop, List.length_take]; rfl)) ?_; (with_reducible refine (span_Days.calls k a0 a1 a2 t169 t170 _ A6.out).mono ?_); rintro e w9 ⟨rfl, hb⟩; refine ⟨_, rfl, ?_⟩; have n0_ := Aside0.mk (below_step (by repeat (first | (with_reducible first | exact HB.out | apply below_alloc | apply pw_below_drewN | apply below_drew1) | exact HB.out)) hb); clear HB; have HB := n0_; clear n0_; (try clear hb); (try clear hb2); (try clear hk); (try clear hi); (try simp only [errW_none, errW_some])))
    (try simp only [Act.put, List.setIfInBounds_toArray, List.set_cons_zero, List.set_cons_succ])
    go_cut [38] (fun v38 wc => ∃ (kq : Nat) (x38_6 : Bool), v38 = .bool x38_6 ∧ Aside0 (arrearslaw06_SpanCounts.j0 kq a0 a1 a2 t169 t170 x38_6 = some r) ∧ Aside0 (kq ≤ k) ∧ Aside0 (Below w.heap.size w wc))
    case first =>
      have H := HC7.out
      clear HC7
      by_cases c10 : a0 = 1
      · rw [if_pos c10] at H
        have c10b0 : (a0 == 1) = true := beq_iff_eq.mpr c10
        have c10b1 : (a0 != 1) = false := bne_eq_false_iff_eq.mpr c10
        clear c10
        (first | rw [c10b0] | (simp only [i64_w, i32_w]; rw [c10b0]) | skip)
        replace H := Option.bind_eq_some_iff.mp H
        obtain ⟨t171, A110, H⟩ := H
        replace H : (if t171 = true then ((arrearslaw06_right.f a2).bind fun t172 => (if t172 = true then (arrearslaw06_SpanCounts.j0 k a0 a1 a2 t169 t170 (decide (a2 < a1))) else (arrearslaw06_SpanCounts.j0 k a0 a1 a2 t169 t170 true))) else (arrearslaw06_SpanCounts.j0 k a0 a1 a2 t169 t170 true)) = some r := H
        have A11 := Aside0.mk A110
        clear A110
        by_cases c12 : t171 = true
        · subst c12
          have H1 : ((arrearslaw06_right.f a2).bind fun t172 => (if t172 = true then (arrearslaw06_SpanCounts.j0 k a0 a1 a2 t169 t170 (decide (a2 < a1))) else (arrearslaw06_SpanCounts.j0 k a0 a1 a2 t169 t170 true))) = some r := by rw [if_pos rfl] at H; exact H
          clear H
          have H := H1
          clear H1
          replace H := Option.bind_eq_some_iff.mp H
          obtain ⟨t172, A130, H⟩ := H
          replace H : (if t172 = true then (arrearslaw06_SpanCounts.j0 k a0 a1 a2 t169 t170 (decide (a2 < a1))) else (arrearslaw06_SpanCounts.j0 k a0 a1 a2 t169 t170 true)) = some r := H
          have A13 := Aside0.mk A130
          clear A130
          by_cases c14 : t172 = true
          · subst c14
            have H1 : (arrearslaw06_SpanCounts.j0 k a0 a1 a2 t169 t170 (decide (a2 < a1))) = some r := by rw [if_pos rfl] at H; exact H
            clear H
            have H := H1
            clear H1
            have H' := Aside0.mk H
            clear H
            go_wp2_with (first | (go_at_call 18; (with_reducible refine (arrearslaw06_right.calls a1 true _ A11.out).mono ?_); rintro e w' ⟨rfl, ⟨nd, rfl⟩⟩) | (go_at_call 18; (with_reducible refine (arrearslaw06_right.calls a2 true _ A13.out).mono ?_); rintro e w' ⟨rfl, ⟨nd, rfl⟩⟩))
            go_meet
            case rel => exact ⟨_, (decide (a2 < a1)), (by first | rfl | (simp; done) | (simp [*]; done) | (exfalso; simp at *; omega)), H', ⟨by first | omega | exact Nat.le_refl _⟩, ⟨by repeat (first | (with_reducible first | exact HB.out | apply below_alloc | apply pw_below_drewN | apply below_drew1) | exact HB.out)⟩⟩
          · replace c14 := Bool.eq_false_iff.mpr c14
            subst c14
            have H1 : (arrearslaw06_SpanCounts.j0 k a0 a1 a2 t169 t170 true) = some r := by rw [if_neg (show ¬ (false = true) by decide)] at H; exact H
            clear H
            have H := H1
            clear H1
            have H' := Aside0.mk H
            clear H
            go_wp2_with (first | (go_at_call 18; (with_reducible refine (arrearslaw06_right.calls a1 true _ A11.out).mono ?_); rintro e w' ⟨rfl, ⟨nd, rfl⟩⟩) | (go_at_call 18; (with_reducible refine (arrearslaw06_right.calls a2 false _ A13.out).mono ?_); rintro e w' ⟨rfl, ⟨nd, rfl⟩⟩))
            go_meet
            case rel => exact ⟨_, (true), (by first | rfl | (simp; done) | (simp [*]; done) | (exfalso; simp at *; omega)), H', ⟨by first | omega | exact Nat.le_refl _⟩, ⟨by repeat (first | (with_reducible first | exact HB.out | apply below_alloc | apply pw_below_drewN | apply below_drew1) | exact HB.out)⟩⟩
        · replace c12 := Bool.eq_false_iff.mpr c12
          subst c12
          have H1 : (arrearslaw06_SpanCounts.j0 k a0 a1 a2 t169 t170 true) = some r := by rw [if_neg (show ¬ (false = true) by decide)] at H; exact H
          clear H
          have H := H1
          clear H1
          have H' := Aside0.mk H
          clear H
          go_wp2_with (first | (go_at_call 18; (with_reducible refine (arrearslaw06_right.calls a1 false _ A11.out).mono ?_); rintro e w' ⟨rfl, ⟨nd, rfl⟩⟩))
          go_meet
          case rel => exact ⟨_, (true), (by first | rfl | (simp; done) | (simp [*]; done) | (exfalso; simp at *; omega)), H', ⟨by first | omega | exact Nat.le_refl _⟩, ⟨by repeat (first | (with_reducible first | exact HB.out | apply below_alloc | apply pw_below_drewN | apply below_drew1) | exact HB.out)⟩⟩
      · rw [if_neg c10] at H
        have c10b0 : (a0 == 1) = false := beq_eq_false_iff_ne.mpr c10
        have c10b1 : (a0 != 1) = true := bne_iff_ne.mpr c10
        (first | rw [c10b0] | (simp only [i64_w, i32_w]; rw [c10b0]) | skip)
        by_cases c15 : a0 = 2
        · rw [if_pos c15] at H
          have c15b0 : (a0 == 2) = true := beq_iff_eq.mpr c15
          have c15b1 : (a0 != 2) = false := bne_eq_false_iff_eq.mpr c15
          clear c15
          replace H := Option.bind_eq_some_iff.mp H
          obtain ⟨t173, A160, H⟩ := H
          replace H : (if t173 = true then ((arrearslaw06_right.f a2).bind fun t174 => (if t174 = true then (arrearslaw06_SpanCounts.j0 k a0 a1 a2 t169 t170 (decide (a2 < a1))) else (arrearslaw06_SpanCounts.j0 k a0 a1 a2 t169 t170 true))) else (arrearslaw06_SpanCounts.j0 k a0 a1 a2 t169 t170 true)) = some r := H
          have A16 := Aside0.mk A160
          clear A160
          by_cases c17 : t173 = true
          · subst c17
            have H1 : ((arrearslaw06_right.f a2).bind fun t174 => (if t174 = true then (arrearslaw06_SpanCounts.j0 k a0 a1 a2 t169 t170 (decide (a2 < a1))) else (arrearslaw06_SpanCounts.j0 k a0 a1 a2 t169 t170 true))) = some r := by rw [if_pos rfl] at H; exact H
            clear H
            have H := H1
            clear H1
            replace H := Option.bind_eq_some_iff.mp H
            obtain ⟨t174, A180, H⟩ := H
            replace H : (if t174 = true then (arrearslaw06_SpanCounts.j0 k a0 a1 a2 t169 t170 (decide (a2 < a1))) else (arrearslaw06_SpanCounts.j0 k a0 a1 a2 t169 t170 true)) = some r := H
            have A18 := Aside0.mk A180
            clear A180
            by_cases c19 : t174 = true
            · subst c19
              have H1 : (arrearslaw06_SpanCounts.j0 k a0 a1 a2 t169 t170 (decide (a2 < a1))) = some r := by rw [if_pos rfl] at H; exact H
              clear H
              have H := H1
              clear H1
              have H' := Aside0.mk H
              clear H
              go_wp2_with (first | (go_at_call 18; (with_reducible refine (arrearslaw06_right.calls a1 true _ A16.out).mono ?_); rintro e w' ⟨rfl, ⟨nd, rfl⟩⟩) | (go_at_call 18; (with_reducible refine (arrearslaw06_right.calls a2 true _ A18.out).mono ?_); rintro e w' ⟨rfl, ⟨nd, rfl⟩⟩))
              go_meet
              case rel => exact ⟨_, (decide (a2 < a1)), (by first | rfl | (simp; done) | (simp [*]; done) | (exfalso; simp at *; omega)), H', ⟨by first | omega | exact Nat.le_refl _⟩, ⟨by repeat (first | (with_reducible first | exact HB.out | apply below_alloc | apply pw_below_drewN | apply below_drew1) | exact HB.out)⟩⟩
            · replace c19 := Bool.eq_false_iff.mpr c19
              subst c19
              have H1 : (arrearslaw06_SpanCounts.j0 k a0 a1 a2 t169 t170 true) = some r := by rw [if_neg (show ¬ (false = true) by decide)] at H; exact H
              clear H
              have H := H1
              clear H1
              have H' := Aside0.mk H
              clear H
              go_wp2_with (first | (go_at_call 18; (with_reducible refine (arrearslaw06_right.calls a1 true _ A16.out).mono ?_); rintro e w' ⟨rfl, ⟨nd, rfl⟩⟩) | (go_at_call 18; (with_reducible refine (arrearslaw06_right.calls a2 false _ A18.out).mono ?_); rintro e w' ⟨rfl, ⟨nd, rfl⟩⟩))
              go_meet
              case rel => exact ⟨_, (true), (by first | rfl | (simp; done) | (simp [*]; done) | (exfalso; simp at *; omega)), H', ⟨by first | omega | exact Nat.le_refl _⟩, ⟨by repeat (first | (with_reducible first | exact HB.out | apply below_alloc | apply pw_below_drewN | apply below_drew1) | exact HB.out)⟩⟩
          · replace c17 := Bool.eq_false_iff.mpr c17
            subst c17
            have H1 : (arrearslaw06_SpanCounts.j0 k a0 a1 a2 t169 t170 true) = some r := by rw [if_neg (show ¬ (false = true) by decide)] at H; exact H
            clear H
            have H := H1
            clear H1
            have H' := Aside0.mk H
            clear H
            go_wp2_with (first | (go_at_call 18; (with_reducible refine (arrearslaw06_right.calls a1 false _ A16.out).mono ?_); rintro e w' ⟨rfl, ⟨nd, rfl⟩⟩))
            go_meet
            case rel => exact ⟨_, (true), (by first | rfl | (simp; done) | (simp [*]; done) | (exfalso; simp at *; omega)), H', ⟨by first | omega | exact Nat.le_refl _⟩, ⟨by repeat (first | (with_reducible first | exact HB.out | apply below_alloc | apply pw_below_drewN | apply below_drew1) | exact HB.out)⟩⟩
        · rw [if_neg c15] at H
          have c15b0 : (a0 == 2) = false := beq_eq_false_iff_ne.mpr c15
          have c15b1 : (a0 != 2) = true := bne_iff_ne.mpr c15
          have H' := Aside0.mk H
          clear H
          go_wp2
          go_meet
          case rel => exact ⟨_, (true), (by first | rfl | (simp; done) | (simp [*]; done) | (exfalso; simp at *; omega)), H', ⟨by first | omega | exact Nat.le_refl _⟩, ⟨by repeat (first | (with_reducible first | exact HB.out | apply below_alloc | apply pw_below_drewN | apply below_drew1) | exact HB.out)⟩⟩
    case rest =>
      clear HC7
      try clear c1
      try clear p2
      try clear c5
      try clear c6
      try clear c8
      try clear c10
      try clear c10b0
      try clear c10b1
      try clear c12
      try clear c14
      try clear c15
      try clear c15b0
      try clear c15b1
      try clear c17
      try clear c19
      obtain ⟨kq, x38_6, rfl, HA, HJ6, HB⟩ := hcut
      cases kq with
      | zero => exact absurd HA.out (by simp [arrearslaw06_SpanCounts.j0])
      | succ kj6 =>
        have H := HA.out
        clear HA
        simp only [arrearslaw06_SpanCounts.j0] at H
        by_cases c20 : x38_6 = true
        · subst c20
          have H1 : (if t169 = 0 then ((api_Code.f t170).bind fun t175 => (some (t175 == 1))) else (some false)) = some r := by rw [if_pos rfl] at H; exact H
          clear H
          have H := H1
          clear H1
          by_cases c21 : t169 = 0
          · rw [if_pos c21] at H
            have c21b0 : (t169 == 0) = true := beq_iff_eq.mpr c21
            have c21b1 : (t169 != 0) = false := bne_eq_false_iff_eq.mpr c21
            clear c21
            replace H := Option.bind_eq_some_iff.mp H
            obtain ⟨t175, A220, H⟩ := H
            replace H : (some (t175 == 1)) = some r := H
            have A22 := Aside0.mk A220
            clear A220
            obtain rfl := Option.some.inj H
            have CA22 := fun W (hGW : Go.Proofs.YtdkdjikfhclmaaaDoor.M.Laid W) => api_Code.calls t170 t175 W hGW A22.out
            try simp only [errW_none, errW_some] at CA22
            go_wp2_with (first | (go_at_call 19; (with_reducible refine (CA22 _ ?hGL).mono ?_); (case hGL => exact Go.Proofs.YtdkdjikfhclmaaaDoor.M.Laid.below HG.out (by repeat (first | (with_reducible first | exact HB.out | apply below_alloc | apply pw_below_drewN | apply below_drew1) | exact HB.out))); rintro e w23 ⟨rfl, hb⟩; have n0_ := Aside0.mk (below_step (by repeat (first | (with_reducible first | exact HB.out | apply below_alloc | apply pw_below_drewN | apply below_drew1) | exact HB.out)) hb); clear HB; have HB := n0_; clear n0_; (try clear hb); (try clear hb2); (try clear hk); (try clear hi)))
            go_ret
            exact ⟨by first | rfl | (simp [errW_none, errW_some] <;> rfl) | (simp [*, errW_none, errW_some] <;> rfl), by repeat (first | (with_reducible first | exact HB.out | apply below_alloc | apply pw_below_drewN | apply below_drew1) | exact HB.out)⟩
          · rw [if_neg c21] at H
            have c21b0 : (t169 == 0) = false := beq_eq_false_iff_ne.mpr c21
            have c21b1 : (t169 != 0) = true := bne_iff_ne.mpr c21
            exact absurd (H.trans (congrArg some HR.out)) (by simp)
        · replace c20 := Bool.eq_false_iff.mpr c20
          subst c20
          have H1 : (if t170.isNone = true then ((arrearsref06_Days.f kj6 (a0 == 2) (wrap64 (a1)) (wrap64 (a2))).bind fun t177 => (if t169 = t177 then (some (decide (t169 ≥ 0))) else (some false))) else (some false)) = some r := by rw [if_neg (show ¬ (false = true) by decide)] at H; exact H
          clear H
          have H := H1
          clear H1
          rcases t170 with _ | q176
          · have H1 : ((arrearsref06_Days.f kj6 (a0 == 2) (wrap64 (a1)) (wrap64 (a2))).bind fun t177 => (if t169 = t177 then (some (decide (t169 ≥ 0))) else (some false))) = some r := by rw [if_pos (show (none : Option Int).isNone = true by rfl)] at H; exact H
            clear H
            have H := H1
            clear H1
            try simp only [errW_none, errW_some]
            replace H := Option.bind_eq_some_iff.mp H
            obtain ⟨t177, A240, H⟩ := H
            replace H : (if t169 = t177 then (some (decide (t169 ≥ 0))) else (some false)) = some r := H
            have A24 := Aside0.mk A240
            clear A240
            by_cases c25 : t169 = t177
            · rw [if_pos c25] at H
              have c25b0 : (t169 == t177) = true := beq_iff_eq.mpr c25
              have c25b1 : (t169 != t177) = false := bne_eq_false_iff_eq.mpr c25
              clear c25
              obtain rfl := Option.some.inj H
              go_wp2_with (first | (go_at_call 20; (with_reducible refine (arrearsref06_Days.calls kj6 (a0 == 2) (wrap64 (a1)) (wrap64 (a2)) t177 _ A24.out).mono ?_); rintro e w26 ⟨rfl, hb⟩; have n0_ := Aside0.mk (below_step (by repeat (first | (with_reducible first | exact HB.out | apply below_alloc | apply pw_below_drewN | apply below_drew1) | exact HB.out)) hb); clear HB; have HB := n0_; clear n0_; (try clear hb); (try clear hb2); (try clear hk); (try clear hi)))
              go_ret
              exact ⟨by first | rfl | (simp [errW_none, errW_some] <;> rfl) | (simp [*, errW_none, errW_some] <;> rfl), by repeat (first | (with_reducible first | exact HB.out | apply below_alloc | apply pw_below_drewN | apply below_drew1) | exact HB.out)⟩
            · rw [if_neg c25] at H
              have c25b0 : (t169 == t177) = false := beq_eq_false_iff_ne.mpr c25
              have c25b1 : (t169 != t177) = true := bne_iff_ne.mpr c25
              exact absurd (H.trans (congrArg some HR.out)) (by simp)
          · have H1 : (some false) = some r := by rw [if_neg (show ¬ (some q176).isNone = true by simp)] at H; exact H
            clear H
            have H := H1
            clear H1
            try simp only [errW_none, errW_some]
            exact absurd (H.trans (congrArg some HR.out)) (by simp)
  · replace c5 := Bool.eq_false_iff.mpr c5
    subst c5
    have H1 : (some false) = some r := by rw [if_neg (show ¬ (false = true) by decide)] at H; exact H
    clear H
    have H := H1
    clear H1
    exact absurd (H.trans (congrArg some HR.out)) (by simp)
end Go.Proofs.YtdkdjikfhclmaaaDoor.PSpanCounts
