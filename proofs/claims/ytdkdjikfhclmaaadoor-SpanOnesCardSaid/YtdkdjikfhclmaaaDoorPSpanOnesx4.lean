-- Printed by a wrapper of this session's round the kit's print.py; Lean checks it.
import Derived.Test.YtdkdjikfhclmaaaDoorPSpanOnesx0
import Derived.Test.YtdkdjikfhclmaaaDoorPSpanOnesx3
namespace Go.Proofs.YtdkdjikfhclmaaaDoor.PSpanOnes
open Go.RowKit Go.Proofs.YtdkdjikfhclmaaaDoorW.PrintWords Go.Proofs.YtdkdjikfhclmaaaDoorW.PrintLast Go.Proofs.YtdkdjikfhclmaaaDoorW.PrintMore
attribute [local go_sem] max2_int min2_int max_two min_two max_three min_three max_four min_four   -- for this text's walks alone
set_option linter.unusedVariables false
set_option linter.unusedSimpArgs false

/-! ### arrearsref06_One: function 21 -/
def arrearsref06_One.f (k : Nat) (a0 : Bool) (a1 : Int) : Option (Int) := if a0 = true then ((arrearsref05_Civil.f k a1).bind fun bt171 => ((arrearsref05_Length.f k bt171.1 bt171.2.1).bind fun t175 => (if bt171.2.2 < t175 then (some 1) else (if t175 = 31 then (some 0) else (some (wrap64 (31 - t175))))))) else (some 1)
theorem arrearsref06_One.mono : ∀ a0 a1 k, LeO (arrearsref06_One.f k a0 a1) (arrearsref06_One.f (k + 1) a0 a1) := by
  intro a0 a1 k
  unfold arrearsref06_One.f
  repeat' first
      | (with_reducible exact arrearsref05_Civil.mono _ _)
      | (with_reducible exact arrearsref05_Length.mono _ _ _)
      | (with_reducible exact LeO.refl _)
      | (with_reducible exact LeO.none _)
      | (with_reducible refine LeO.ite ?_ ?_)
      | (with_reducible refine LeO.bind ?_ (fun _ => ?_))
      | exact arrearsref05_Civil.mono _ _
      | exact arrearsref05_Length.mono _ _ _
      | exact LeO.none _
      | refine LeO.ite ?_ ?_
      | refine LeO.bind ?_ (fun _ => ?_)
set_option maxHeartbeats 8000000 in
set_option maxRecDepth 100000 in
theorem arrearsref06_One.calls (k : Nat) (a0 : Bool) (a1 : Int) (r : Int) (w : World) (h : arrearsref06_One.f k a0 a1 = some r) :
    Calls Tryd.prog 21 #[.bool a0, .int .i64 a1] w fun e w' => e = .returned (.int .i64 r) ∧ Below w.heap.size w w' := by
  have hu26 := Tryd.underlying26
  have HB := Aside0.mk (Below.refl w.heap.size w)
  have H : (if a0 = true then ((arrearsref05_Civil.f k a1).bind fun bt171 => ((arrearsref05_Length.f k bt171.1 bt171.2.1).bind fun t175 => (if bt171.2.2 < t175 then (some 1) else (if t175 = 31 then (some 0) else (some (wrap64 (31 - t175))))))) else (some 1)) = some r := h
  clear h
  by_cases c3 : a0 = true
  · subst c3
    have H1 : ((arrearsref05_Civil.f k a1).bind fun bt171 => ((arrearsref05_Length.f k bt171.1 bt171.2.1).bind fun t175 => (if bt171.2.2 < t175 then (some 1) else (if t175 = 31 then (some 0) else (some (wrap64 (31 - t175))))))) = some r := by rw [if_pos rfl] at H; exact H
    clear H
    have H := H1
    clear H1
    replace H := Option.bind_eq_some_iff.mp H
    obtain ⟨⟨t171, t172, t173⟩, A40, H⟩ := H
    replace H : ((arrearsref05_Length.f k t171 t172).bind fun t175 => (if t173 < t175 then (some 1) else (if t175 = 31 then (some 0) else (some (wrap64 (31 - t175)))))) = some r := H
    have A4 := Aside0.mk A40
    clear A40
    replace H := Option.bind_eq_some_iff.mp H
    obtain ⟨t175, A50, H⟩ := H
    replace H : (if t173 < t175 then (some 1) else (if t175 = 31 then (some 0) else (some (wrap64 (31 - t175))))) = some r := H
    have A5 := Aside0.mk A50
    clear A50
    by_cases c6 : t173 < t175
    · rw [if_pos c6] at H
      have c6b0 : decide (t173 < t175) = true := decide_eq_true c6
      clear c6
      obtain rfl := Option.some.inj H
      go_enter Tryd.func21, Tryd.ntmps21
      go_wp2_with (first | ((with_reducible refine gate_callee (f := 22) rfl ?_); refine goesL_ (some 10) rfl rfl Tryd.func22 (by kernel_rfl) rfl #[.int .i64 a1] rfl (by (try simp only [List.map_toArray, List.map_cons, List.map_nil]); first | done | rfl | (simp only [List.length_drop, List.length_take]; rfl)) ?_; (with_reducible refine (arrearsref05_Civil.calls k a1 t171 t172 t173 _ A4.out).mono ?_); rintro e w7 ⟨rfl, hb⟩; refine ⟨_, rfl, ?_⟩; have n0_ := Aside0.mk (below_step (by repeat (first | (with_reducible first | exact HB.out | apply below_alloc | apply pw_below_drewN | apply below_drew1) | exact HB.out)) hb); clear HB; have HB := n0_; clear n0_; (try clear hb); (try clear hb2); (try clear hk); (try clear hi)) | ((with_reducible refine gate_dst (N := 5) rfl ?_); refine box_event ?hg (N := 5) ?hd (cs := #[.int .i64 0, .int .i64 0, .int .i64 0]) (t := 26) ?hr ?_; (case hd => rfl); (case hg => rfl); (case hr => first | (go_simp; done) | (go_simp; rfl)); intro gb174 hg w8 hbox hb; have n0_ := Aside0.mk (below_step (by repeat (first | (with_reducible first | exact HB.out | apply below_alloc | apply pw_below_drewN | apply below_drew1) | exact HB.out)) hb); have n1_ := Aside0.mk (hbox); have n2_ := Aside0.mk ((by rw [hg]; exact (below_size (by repeat (first | (with_reducible first | exact HB.out | apply below_alloc | apply pw_below_drewN | apply below_drew1) | exact HB.out))) : w.heap.size ≤ gb174)); have n3_ := Aside0.mk ((by rw [hg]; exact (below_size (by repeat (first | (with_reducible first | exact HB.out | apply below_alloc | apply pw_below_drewN | apply below_drew1) | exact HB.out))) : w.heap.size ≤ gb174)); clear HB; have HB := n0_; have BK174 := n1_; have GW174 := n2_; have GE174 := n3_; clear n0_ n1_ n2_ n3_; clear hb hbox hg; have hcz9_0 : w8.cell? ⟨gb174, 0, none⟩ = some (.int .i64 0) := (blk_cell BK174.out 0).trans rfl; have hcz9_1 : w8.cell? ⟨gb174, 1, none⟩ = some (.int .i64 0) := (blk_cell BK174.out 1).trans rfl; have hcz9_2 : w8.cell? ⟨gb174, 2, none⟩ = some (.int .i64 0) := (blk_cell BK174.out 2).trans rfl; have hfz9_0 := blk_frozen BK174.out 0; have hfz9_1 := blk_frozen BK174.out 1; have hfz9_2 := blk_frozen BK174.out 2) | ((with_reducible refine gate_callee (f := 23) rfl ?_); refine goesL_ (some 15) rfl rfl Tryd.func23 (by kernel_rfl) rfl #[.int .i64 t171, .int .i64 t172] rfl (by (try simp only [List.map_toArray, List.map_cons, List.map_nil]); first | done | rfl | (simp only [List.length_drop, List.length_take]; rfl)) ?_; (with_reducible refine (arrearsref05_Length.calls k t171 t172 t175 _ A5.out).mono ?_); rintro e w10 ⟨rfl, hb⟩; refine ⟨_, rfl, ?_⟩; have n0_ := Aside0.mk (blk_below (g := gb174) (o := .cells #[.int .i64 t171, .int .i64 t172, .int .i64 t173] 26 (0, 0)) (by (with_reducible repeat (first | refine blk_drewN ?_ _ | refine blk_drew ?_ | refine blk_alloc ?_ _)); refine blk_put (cs := #[.int .i64 t171, .int .i64 t172, .int .i64 0]) ?_ 2 _ rfl; (with_reducible repeat (first | refine blk_drewN ?_ _ | refine blk_drew ?_ | refine blk_alloc ?_ _)); refine blk_put (cs := #[.int .i64 t171, .int .i64 0, .int .i64 0]) ?_ 1 _ rfl; (with_reducible repeat (first | refine blk_drewN ?_ _ | refine blk_drew ?_ | refine blk_alloc ?_ _)); refine blk_put (cs := #[.int .i64 0, .int .i64 0, .int .i64 0]) ?_ 0 _ rfl; (with_reducible repeat (first | refine blk_drewN ?_ _ | refine blk_drew ?_ | refine blk_alloc ?_ _)); exact BK174.out) hb); have n1_ := Aside0.mk (below_step (by repeat (first | (with_reducible first | exact HB.out | apply below_alloc | apply pw_below_drewN | apply below_drew1 | refine below_set ?_ GE174.out) | exact HB.out)) hb); clear BK174; clear HB; have BK174 := n0_; have HB := n1_; clear n0_ n1_; (try clear hb); (try clear hb2); (try clear hk); (try clear hi); have hcz11_0 : w10.cell? ⟨gb174, 0, none⟩ = some (.int .i64 t171) := (blk_cell BK174.out 0).trans rfl; have hcz11_1 : w10.cell? ⟨gb174, 1, none⟩ = some (.int .i64 t172) := (blk_cell BK174.out 1).trans rfl; have hcz11_2 : w10.cell? ⟨gb174, 2, none⟩ = some (.int .i64 t173) := (blk_cell BK174.out 2).trans rfl; have hfz11_0 := blk_frozen BK174.out 0; have hfz11_1 := blk_frozen BK174.out 1; have hfz11_2 := blk_frozen BK174.out 2))
      go_ret
      exact ⟨by first | rfl | (simp [errW_none, errW_some] <;> rfl) | (simp [*, errW_none, errW_some] <;> rfl), by repeat (first | (with_reducible first | exact HB.out | apply below_alloc | apply pw_below_drewN | apply below_drew1 | refine below_set ?_ GE174.out) | exact HB.out)⟩
    · rw [if_neg c6] at H
      have c6b0 : decide (t173 < t175) = false := decide_eq_false c6
      clear c6
      by_cases c12 : t175 = 31
      · rw [if_pos c12] at H
        have c12b0 : (t175 == 31) = true := beq_iff_eq.mpr c12
        have c12b1 : (t175 != 31) = false := bne_eq_false_iff_eq.mpr c12
        clear c12
        obtain rfl := Option.some.inj H
        go_enter Tryd.func21, Tryd.ntmps21
        go_wp2_with (first | ((with_reducible refine gate_callee (f := 22) rfl ?_); refine goesL_ (some 10) rfl rfl Tryd.func22 (by kernel_rfl) rfl #[.int .i64 a1] rfl (by (try simp only [List.map_toArray, List.map_cons, List.map_nil]); first | done | rfl | (simp only [List.length_drop, List.length_take]; rfl)) ?_; (with_reducible refine (arrearsref05_Civil.calls k a1 t171 t172 t173 _ A4.out).mono ?_); rintro e w13 ⟨rfl, hb⟩; refine ⟨_, rfl, ?_⟩; have n0_ := Aside0.mk (below_step (by repeat (first | (with_reducible first | exact HB.out | apply below_alloc | apply pw_below_drewN | apply below_drew1) | exact HB.out)) hb); clear HB; have HB := n0_; clear n0_; (try clear hb); (try clear hb2); (try clear hk); (try clear hi)) | ((with_reducible refine gate_dst (N := 5) rfl ?_); refine box_event ?hg (N := 5) ?hd (cs := #[.int .i64 0, .int .i64 0, .int .i64 0]) (t := 26) ?hr ?_; (case hd => rfl); (case hg => rfl); (case hr => first | (go_simp; done) | (go_simp; rfl)); intro gb174 hg w14 hbox hb; have n0_ := Aside0.mk (below_step (by repeat (first | (with_reducible first | exact HB.out | apply below_alloc | apply pw_below_drewN | apply below_drew1) | exact HB.out)) hb); have n1_ := Aside0.mk (hbox); have n2_ := Aside0.mk ((by rw [hg]; exact (below_size (by repeat (first | (with_reducible first | exact HB.out | apply below_alloc | apply pw_below_drewN | apply below_drew1) | exact HB.out))) : w.heap.size ≤ gb174)); have n3_ := Aside0.mk ((by rw [hg]; exact (below_size (by repeat (first | (with_reducible first | exact HB.out | apply below_alloc | apply pw_below_drewN | apply below_drew1) | exact HB.out))) : w.heap.size ≤ gb174)); clear HB; have HB := n0_; have BK174 := n1_; have GW174 := n2_; have GE174 := n3_; clear n0_ n1_ n2_ n3_; clear hb hbox hg; have hcz15_0 : w14.cell? ⟨gb174, 0, none⟩ = some (.int .i64 0) := (blk_cell BK174.out 0).trans rfl; have hcz15_1 : w14.cell? ⟨gb174, 1, none⟩ = some (.int .i64 0) := (blk_cell BK174.out 1).trans rfl; have hcz15_2 : w14.cell? ⟨gb174, 2, none⟩ = some (.int .i64 0) := (blk_cell BK174.out 2).trans rfl; have hfz15_0 := blk_frozen BK174.out 0; have hfz15_1 := blk_frozen BK174.out 1; have hfz15_2 := blk_frozen BK174.out 2) | ((with_reducible refine gate_callee (f := 23) rfl ?_); refine goesL_ (some 15) rfl rfl Tryd.func23 (by kernel_rfl) rfl #[.int .i64 t171, .int .i64 t172] rfl (by (try simp only [List.map_toArray, List.map_cons, List.map_nil]); first | done | rfl | (simp only [List.length_drop, List.length_take]; rfl)) ?_; (with_reducible refine (arrearsref05_Length.calls k t171 t172 t175 _ A5.out).mono ?_); rintro e w16 ⟨rfl, hb⟩; refine ⟨_, rfl, ?_⟩; have n0_ := Aside0.mk (blk_below (g := gb174) (o := .cells #[.int .i64 t171, .int .i64 t172, .int .i64 t173] 26 (0, 0)) (by (with_reducible repeat (first | refine blk_drewN ?_ _ | refine blk_drew ?_ | refine blk_alloc ?_ _)); refine blk_put (cs := #[.int .i64 t171, .int .i64 t172, .int .i64 0]) ?_ 2 _ rfl; (with_reducible repeat (first | refine blk_drewN ?_ _ | refine blk_drew ?_ | refine blk_alloc ?_ _)); refine blk_put (cs := #[.int .i64 t171, .int .i64 0, .int .i64 0]) ?_ 1 _ rfl; (with_reducible repeat (first | refine blk_drewN ?_ _ | refine blk_drew ?_ | refine blk_alloc ?_ _)); refine blk_put (cs := #[.int .i64 0, .int .i64 0, .int .i64 0]) ?_ 0 _ rfl; (with_reducible repeat (first | refine blk_drewN ?_ _ | refine blk_drew ?_ | refine blk_alloc ?_ _)); exact BK174.out) hb); have n1_ := Aside0.mk (below_step (by repeat (first | (with_reducible first | exact HB.out | apply below_alloc | apply pw_below_drewN | apply below_drew1 | refine below_set ?_ GE174.out) | exact HB.out)) hb); clear BK174; clear HB; have BK174 := n0_; have HB := n1_; clear n0_ n1_; (try clear hb); (try clear hb2); (try clear hk); (try clear hi); have hcz17_0 : w16.cell? ⟨gb174, 0, none⟩ = some (.int .i64 t171) := (blk_cell BK174.out 0).trans rfl; have hcz17_1 : w16.cell? ⟨gb174, 1, none⟩ = some (.int .i64 t172) := (blk_cell BK174.out 1).trans rfl; have hcz17_2 : w16.cell? ⟨gb174, 2, none⟩ = some (.int .i64 t173) := (blk_cell BK174.out 2).trans rfl; have hfz17_0 := blk_frozen BK174.out 0; have hfz17_1 := blk_frozen BK174.out 1; have hfz17_2 := blk_frozen BK174.out 2))
        go_ret
        exact ⟨by first | rfl | (simp [errW_none, errW_some] <;> rfl) | (simp [*, errW_none, errW_some] <;> rfl), by repeat (first | (with_reducible first | exact HB.out | apply below_alloc | apply pw_below_drewN | apply below_drew1 | refine below_set ?_ GE174.out) | exact HB.out)⟩
      · rw [if_neg c12] at H
        have c12b0 : (t175 == 31) = false := beq_eq_false_iff_ne.mpr c12
        have c12b1 : (t175 != 31) = true := bne_iff_ne.mpr c12
        obtain rfl := Option.some.inj H
        go_enter Tryd.func21, Tryd.ntmps21
        go_wp2_with (first | ((with_reducible refine gate_callee (f := 22) rfl ?_); refine goesL_ (some 10) rfl rfl Tryd.func22 (by kernel_rfl) rfl #[.int .i64 a1] rfl (by (try simp only [List.map_toArray, List.map_cons, List.map_nil]); first | done | rfl | (simp only [List.length_drop, List.length_take]; rfl)) ?_; (with_reducible refine (arrearsref05_Civil.calls k a1 t171 t172 t173 _ A4.out).mono ?_); rintro e w18 ⟨rfl, hb⟩; refine ⟨_, rfl, ?_⟩; have n0_ := Aside0.mk (below_step (by repeat (first | (with_reducible first | exact HB.out | apply below_alloc | apply pw_below_drewN | apply below_drew1) | exact HB.out)) hb); clear HB; have HB := n0_; clear n0_; (try clear hb); (try clear hb2); (try clear hk); (try clear hi)) | ((with_reducible refine gate_dst (N := 5) rfl ?_); refine box_event ?hg (N := 5) ?hd (cs := #[.int .i64 0, .int .i64 0, .int .i64 0]) (t := 26) ?hr ?_; (case hd => rfl); (case hg => rfl); (case hr => first | (go_simp; done) | (go_simp; rfl)); intro gb174 hg w19 hbox hb; have n0_ := Aside0.mk (below_step (by repeat (first | (with_reducible first | exact HB.out | apply below_alloc | apply pw_below_drewN | apply below_drew1) | exact HB.out)) hb); have n1_ := Aside0.mk (hbox); have n2_ := Aside0.mk ((by rw [hg]; exact (below_size (by repeat (first | (with_reducible first | exact HB.out | apply below_alloc | apply pw_below_drewN | apply below_drew1) | exact HB.out))) : w.heap.size ≤ gb174)); have n3_ := Aside0.mk ((by rw [hg]; exact (below_size (by repeat (first | (with_reducible first | exact HB.out | apply below_alloc | apply pw_below_drewN | apply below_drew1) | exact HB.out))) : w.heap.size ≤ gb174)); clear HB; have HB := n0_; have BK174 := n1_; have GW174 := n2_; have GE174 := n3_; clear n0_ n1_ n2_ n3_; clear hb hbox hg; have hcz20_0 : w19.cell? ⟨gb174, 0, none⟩ = some (.int .i64 0) := (blk_cell BK174.out 0).trans rfl; have hcz20_1 : w19.cell? ⟨gb174, 1, none⟩ = some (.int .i64 0) := (blk_cell BK174.out 1).trans rfl; have hcz20_2 : w19.cell? ⟨gb174, 2, none⟩ = some (.int .i64 0) := (blk_cell BK174.out 2).trans rfl; have hfz20_0 := blk_frozen BK174.out 0; have hfz20_1 := blk_frozen BK174.out 1; have hfz20_2 := blk_frozen BK174.out 2) | ((with_reducible refine gate_callee (f := 23) rfl ?_); refine goesL_ (some 15) rfl rfl Tryd.func23 (by kernel_rfl) rfl #[.int .i64 t171, .int .i64 t172] rfl (by (try simp only [List.map_toArray, List.map_cons, List.map_nil]); first | done | rfl | (simp only [List.length_drop, List.length_take]; rfl)) ?_; (with_reducible refine (arrearsref05_Length.calls k t171 t172 t175 _ A5.out).mono ?_); rintro e w21 ⟨rfl, hb⟩; refine ⟨_, rfl, ?_⟩; have n0_ := Aside0.mk (blk_below (g := gb174) (o := .cells #[.int .i64 t171, .int .i64 t172, .int .i64 t173] 26 (0, 0)) (by (with_reducible repeat (first | refine blk_drewN ?_ _ | refine blk_drew ?_ | refine blk_alloc ?_ _)); refine blk_put (cs := #[.int .i64 t171, .int .i64 t172, .int .i64 0]) ?_ 2 _ rfl; (with_reducible repeat (first | refine blk_drewN ?_ _ | refine blk_drew ?_ | refine blk_alloc ?_ _)); refine blk_put (cs := #[.int .i64 t171, .int .i64 0, .int .i64 0]) ?_ 1 _ rfl; (with_reducible repeat (first | refine blk_drewN ?_ _ | refine blk_drew ?_ | refine blk_alloc ?_ _)); refine blk_put (cs := #[.int .i64 0, .int .i64 0, .int .i64 0]) ?_ 0 _ rfl; (with_reducible repeat (first | refine blk_drewN ?_ _ | refine blk_drew ?_ | refine blk_alloc ?_ _)); exact BK174.out) hb); have n1_ := Aside0.mk (below_step (by repeat (first | (with_reducible first | exact HB.out | apply below_alloc | apply pw_below_drewN | apply below_drew1 | refine below_set ?_ GE174.out) | exact HB.out)) hb); clear BK174; clear HB; have BK174 := n0_; have HB := n1_; clear n0_ n1_; (try clear hb); (try clear hb2); (try clear hk); (try clear hi); have hcz22_0 : w21.cell? ⟨gb174, 0, none⟩ = some (.int .i64 t171) := (blk_cell BK174.out 0).trans rfl; have hcz22_1 : w21.cell? ⟨gb174, 1, none⟩ = some (.int .i64 t172) := (blk_cell BK174.out 1).trans rfl; have hcz22_2 : w21.cell? ⟨gb174, 2, none⟩ = some (.int .i64 t173) := (blk_cell BK174.out 2).trans rfl; have hfz22_0 := blk_frozen BK174.out 0; have hfz22_1 := blk_frozen BK174.out 1; have hfz22_2 := blk_frozen BK174.out 2))
        go_ret
        exact ⟨by first | rfl | (simp [errW_none, errW_some] <;> rfl) | (simp [*, errW_none, errW_some] <;> rfl), by repeat (first | (with_reducible first | exact HB.out | apply below_alloc | apply pw_below_drewN | apply below_drew1 | refine below_set ?_ GE174.out) | exact HB.out)⟩
  · replace c3 := Bool.eq_false_iff.mpr c3
    subst c3
    have H1 : (some 1) = some r := by rw [if_neg (show ¬ (false = true) by decide)] at H; exact H
    clear H
    have H := H1
    clear H1
    obtain rfl := Option.some.inj H
    go_enter Tryd.func21, Tryd.ntmps21
    go_wp2
    go_ret
    exact ⟨by first | rfl | (simp [errW_none, errW_some] <;> rfl) | (simp [*, errW_none, errW_some] <;> rfl), by repeat (first | (with_reducible first | exact HB.out | apply below_alloc | apply pw_below_drewN | apply below_drew1) | exact HB.out)⟩

/-! ### arrearslaw06_SpanOnes: function 7 -/
mutual
def arrearslaw06_SpanOnes.j0 : Nat → Int → Int → Int → Option Int → Bool → Option (Bool)
  | 0, _, _, _, _, _ => none
  | k + 1, x0, x1, x5, x6, x35 => if x35 = true then (if x5 = 0 then ((api_Code.f x6).bind fun t179 => (some (t179 == 1))) else (some false)) else (if x6.isNone = true then ((arrearsref06_One.f k (x0 == 2) (wrap64 (x1))).bind fun t181 => (if x5 = t181 then (if x5 < 0 then (arrearslaw06_SpanOnes.j1 k x0 x1 true) else (arrearslaw06_SpanOnes.j1 k x0 x1 (decide (x5 > 3)))) else (arrearslaw06_SpanOnes.j1 k x0 x1 true))) else (arrearslaw06_SpanOnes.j1 k x0 x1 true))
def arrearslaw06_SpanOnes.j1 : Nat → Int → Int → Bool → Option (Bool)
  | 0, _, _, _ => none
  | k + 1, x0, x1, x61 => if x61 = true then (some false) else ((arrearsref05_Civil.f k (wrap64 (x1))).bind fun bt182 => ((arrearsref05_Length.f k bt182.1 bt182.2.1).bind fun t186 => (if (wrap64 ((wrap64 ((wrap64 ((wrap64 (x1)) - bt182.2.2)) + 1)) + t186)) > 3652058 then (some true) else (arrearslaw06_SpanOnes.l0 k x0 (wrap64 ((wrap64 ((wrap64 (x1)) - bt182.2.2)) + 1)) t186 0 t186 0))))
def arrearslaw06_SpanOnes.l0 : Nat → Int → Int → Int → Int → Int → Int → Option (Bool)
  | 0, _, _, _, _, _, _ => none
  | k + 1, x0, x8, x9, x10, x80, x81 => if x81 < x80 then ((span_One.f k x0 (wrap32 (wrap64 (x8 + x81)))).bind fun bt187 => (if bt187.2.isNone = true then (arrearslaw06_SpanOnes.l0 k x0 x8 x9 (wrap64 (x10 + bt187.1)) x80 (wrap64 (x81 + 1))) else (some false))) else (if x0 = 1 then (if x10 = x9 then (some true) else (if x0 = 2 then (some (x10 == 30)) else (some false))) else (if x0 = 2 then (some (x10 == 30)) else (some false)))
end
def arrearslaw06_SpanOnes.f (k : Nat) (a0 : Int) (a1 : Int) : Option (Bool) := (arrearslaw06_awake.f k).bind fun t176 => (if t176 = true then ((span_One.f k a0 a1).bind fun bt177 => (if a0 = 1 then (if a1 < 0 then (arrearslaw06_SpanOnes.j0 k a0 a1 bt177.1 bt177.2 true) else (arrearslaw06_SpanOnes.j0 k a0 a1 bt177.1 bt177.2 (decide (a1 ≥ 3652058)))) else (if a0 = 2 then (if a1 < 0 then (arrearslaw06_SpanOnes.j0 k a0 a1 bt177.1 bt177.2 true) else (arrearslaw06_SpanOnes.j0 k a0 a1 bt177.1 bt177.2 (decide (a1 ≥ 3652058)))) else (arrearslaw06_SpanOnes.j0 k a0 a1 bt177.1 bt177.2 true)))) else (some false))
theorem arrearslaw06_SpanOnes.mono_l : ∀ k, (∀ y0 y1 y2 y3 y4, LeO (arrearslaw06_SpanOnes.j0 k y0 y1 y2 y3 y4) (arrearslaw06_SpanOnes.j0 (k + 1) y0 y1 y2 y3 y4)) ∧ (∀ y0 y1 y2, LeO (arrearslaw06_SpanOnes.j1 k y0 y1 y2) (arrearslaw06_SpanOnes.j1 (k + 1) y0 y1 y2)) ∧ (∀ y0 y1 y2 y3 y4 y5, LeO (arrearslaw06_SpanOnes.l0 k y0 y1 y2 y3 y4 y5) (arrearslaw06_SpanOnes.l0 (k + 1) y0 y1 y2 y3 y4 y5))
  | 0 => ⟨fun _ _ _ _ _ r h => by simp [arrearslaw06_SpanOnes.j0] at h, fun _ _ _ r h => by simp [arrearslaw06_SpanOnes.j1] at h, fun _ _ _ _ _ _ r h => by simp [arrearslaw06_SpanOnes.l0] at h⟩
  | k + 1 => by
    obtain ⟨ih0, ih1, ih2⟩ := arrearslaw06_SpanOnes.mono_l k
    refine ⟨?_, ?_, ?_⟩
    · intro y0 y1 y2 y3 y4
      unfold arrearslaw06_SpanOnes.j0
      repeat' first
      | (with_reducible exact ih0 _ _ _ _ _)
      | (with_reducible exact ih1 _ _ _)
      | (with_reducible exact ih2 _ _ _ _ _ _)
      | (with_reducible exact arrearslaw06_awake.mono _)
      | (with_reducible exact arrearsref05_Civil.mono _ _)
      | (with_reducible exact arrearsref05_Length.mono _ _ _)
      | (with_reducible exact arrearsref06_One.mono _ _ _)
      | (with_reducible exact span_One.mono _ _ _)
      | (with_reducible exact LeO.refl _)
      | (with_reducible exact LeO.none _)
      | (with_reducible refine LeO.ite ?_ ?_)
      | (with_reducible refine LeO.bind ?_ (fun _ => ?_))
      | exact ih0 _ _ _ _ _
      | exact ih1 _ _ _
      | exact ih2 _ _ _ _ _ _
      | exact arrearslaw06_awake.mono _
      | exact arrearsref05_Civil.mono _ _
      | exact arrearsref05_Length.mono _ _ _
      | exact arrearsref06_One.mono _ _ _
      | exact span_One.mono _ _ _
      | exact LeO.none _
      | refine LeO.ite ?_ ?_
      | refine LeO.bind ?_ (fun _ => ?_)
    · intro y0 y1 y2
      unfold arrearslaw06_SpanOnes.j1
      repeat' first
      | (with_reducible exact ih0 _ _ _ _ _)
      | (with_reducible exact ih1 _ _ _)
      | (with_reducible exact ih2 _ _ _ _ _ _)
      | (with_reducible exact arrearslaw06_awake.mono _)
      | (with_reducible exact arrearsref05_Civil.mono _ _)
      | (with_reducible exact arrearsref05_Length.mono _ _ _)
      | (with_reducible exact arrearsref06_One.mono _ _ _)
      | (with_reducible exact span_One.mono _ _ _)
      | (with_reducible exact LeO.refl _)
      | (with_reducible exact LeO.none _)
      | (with_reducible refine LeO.ite ?_ ?_)
      | (with_reducible refine LeO.bind ?_ (fun _ => ?_))
      | exact ih0 _ _ _ _ _
      | exact ih1 _ _ _
      | exact ih2 _ _ _ _ _ _
      | exact arrearslaw06_awake.mono _
      | exact arrearsref05_Civil.mono _ _
      | exact arrearsref05_Length.mono _ _ _
      | exact arrearsref06_One.mono _ _ _
      | exact span_One.mono _ _ _
      | exact LeO.none _
      | refine LeO.ite ?_ ?_
      | refine LeO.bind ?_ (fun _ => ?_)
    · intro y0 y1 y2 y3 y4 y5
      unfold arrearslaw06_SpanOnes.l0
      repeat' first
      | (with_reducible exact ih0 _ _ _ _ _)
      | (with_reducible exact ih1 _ _ _)
      | (with_reducible exact ih2 _ _ _ _ _ _)
      | (with_reducible exact arrearslaw06_awake.mono _)
      | (with_reducible exact arrearsref05_Civil.mono _ _)
      | (with_reducible exact arrearsref05_Length.mono _ _ _)
      | (with_reducible exact arrearsref06_One.mono _ _ _)
      | (with_reducible exact span_One.mono _ _ _)
      | (with_reducible exact LeO.refl _)
      | (with_reducible exact LeO.none _)
      | (with_reducible refine LeO.ite ?_ ?_)
      | (with_reducible refine LeO.bind ?_ (fun _ => ?_))
      | exact ih0 _ _ _ _ _
      | exact ih1 _ _ _
      | exact ih2 _ _ _ _ _ _
      | exact arrearslaw06_awake.mono _
      | exact arrearsref05_Civil.mono _ _
      | exact arrearsref05_Length.mono _ _ _
      | exact arrearsref06_One.mono _ _ _
      | exact span_One.mono _ _ _
      | exact LeO.none _
      | refine LeO.ite ?_ ?_
      | refine LeO.bind ?_ (fun _ => ?_)
theorem arrearslaw06_SpanOnes.mono : ∀ a0 a1 k, LeO (arrearslaw06_SpanOnes.f k a0 a1) (arrearslaw06_SpanOnes.f (k + 1) a0 a1) := by
  intro a0 a1 k
  obtain ⟨ih0, ih1, ih2⟩ := arrearslaw06_SpanOnes.mono_l k
  unfold arrearslaw06_SpanOnes.f
  repeat' first
      | (with_reducible exact ih0 _ _ _ _ _)
      | (with_reducible exact ih1 _ _ _)
      | (with_reducible exact ih2 _ _ _ _ _ _)
      | (with_reducible exact arrearslaw06_awake.mono _)
      | (with_reducible exact arrearsref05_Civil.mono _ _)
      | (with_reducible exact arrearsref05_Length.mono _ _ _)
      | (with_reducible exact arrearsref06_One.mono _ _ _)
      | (with_reducible exact span_One.mono _ _ _)
      | (with_reducible exact LeO.refl _)
      | (with_reducible exact LeO.none _)
      | (with_reducible refine LeO.ite ?_ ?_)
      | (with_reducible refine LeO.bind ?_ (fun _ => ?_))
      | exact ih0 _ _ _ _ _
      | exact ih1 _ _ _
      | exact ih2 _ _ _ _ _ _
      | exact arrearslaw06_awake.mono _
      | exact arrearsref05_Civil.mono _ _
      | exact arrearsref05_Length.mono _ _ _
      | exact arrearsref06_One.mono _ _ _
      | exact span_One.mono _ _ _
      | exact LeO.none _
      | refine LeO.ite ?_ ?_
      | refine LeO.bind ?_ (fun _ => ?_)
set_option maxHeartbeats 8000000 in
set_option maxRecDepth 100000 in
theorem arrearslaw06_SpanOnes.calls (k : Nat) (a0 : Int) (a1 : Int) (r : Bool) (w : World) (hG : Go.Proofs.YtdkdjikfhclmaaaDoor.M.Laid w) (h : arrearslaw06_SpanOnes.f k a0 a1 = some r) (hr : r = true) :
    Calls Tryd.prog 7 #[.int .u8 a0, .int .i32 a1] w fun e w' => e = .returned (.bool r) ∧ Below w.heap.size w w' := by
  have hu26 := Tryd.underlying26
  have hu28 := Tryd.underlying28
  have hu44 := Tryd.underlying44
  have HB := Aside0.mk (Below.refl w.heap.size w)
  have HG := Aside0.mk hG
  clear hG
  have HR := Aside0.mk hr
  clear hr
  have H : ((arrearslaw06_awake.f k).bind fun t176 => (if t176 = true then ((span_One.f k a0 a1).bind fun bt177 => (if a0 = 1 then (if a1 < 0 then (arrearslaw06_SpanOnes.j0 k a0 a1 bt177.1 bt177.2 true) else (arrearslaw06_SpanOnes.j0 k a0 a1 bt177.1 bt177.2 (decide (a1 ≥ 3652058)))) else (if a0 = 2 then (if a1 < 0 then (arrearslaw06_SpanOnes.j0 k a0 a1 bt177.1 bt177.2 true) else (arrearslaw06_SpanOnes.j0 k a0 a1 bt177.1 bt177.2 (decide (a1 ≥ 3652058)))) else (arrearslaw06_SpanOnes.j0 k a0 a1 bt177.1 bt177.2 true)))) else (some false))) = some r := h
  clear h
  replace H := Option.bind_eq_some_iff.mp H
  obtain ⟨t176, A30, H⟩ := H
  replace H : (if t176 = true then ((span_One.f k a0 a1).bind fun bt177 => (if a0 = 1 then (if a1 < 0 then (arrearslaw06_SpanOnes.j0 k a0 a1 bt177.1 bt177.2 true) else (arrearslaw06_SpanOnes.j0 k a0 a1 bt177.1 bt177.2 (decide (a1 ≥ 3652058)))) else (if a0 = 2 then (if a1 < 0 then (arrearslaw06_SpanOnes.j0 k a0 a1 bt177.1 bt177.2 true) else (arrearslaw06_SpanOnes.j0 k a0 a1 bt177.1 bt177.2 (decide (a1 ≥ 3652058)))) else (arrearslaw06_SpanOnes.j0 k a0 a1 bt177.1 bt177.2 true)))) else (some false)) = some r := H
  have A3 := Aside0.mk A30
  clear A30
  by_cases c4 : t176 = true
  · subst c4
    have H1 : ((span_One.f k a0 a1).bind fun bt177 => (if a0 = 1 then (if a1 < 0 then (arrearslaw06_SpanOnes.j0 k a0 a1 bt177.1 bt177.2 true) else (arrearslaw06_SpanOnes.j0 k a0 a1 bt177.1 bt177.2 (decide (a1 ≥ 3652058)))) else (if a0 = 2 then (if a1 < 0 then (arrearslaw06_SpanOnes.j0 k a0 a1 bt177.1 bt177.2 true) else (arrearslaw06_SpanOnes.j0 k a0 a1 bt177.1 bt177.2 (decide (a1 ≥ 3652058)))) else (arrearslaw06_SpanOnes.j0 k a0 a1 bt177.1 bt177.2 true)))) = some r := by rw [if_pos rfl] at H; exact H
    clear H
    have H := H1
    clear H1
    replace H := Option.bind_eq_some_iff.mp H
    obtain ⟨⟨t177, t178⟩, A50, H⟩ := H
    replace H : (if a0 = 1 then (if a1 < 0 then (arrearslaw06_SpanOnes.j0 k a0 a1 t177 t178 true) else (arrearslaw06_SpanOnes.j0 k a0 a1 t177 t178 (decide (a1 ≥ 3652058)))) else (if a0 = 2 then (if a1 < 0 then (arrearslaw06_SpanOnes.j0 k a0 a1 t177 t178 true) else (arrearslaw06_SpanOnes.j0 k a0 a1 t177 t178 (decide (a1 ≥ 3652058)))) else (arrearslaw06_SpanOnes.j0 k a0 a1 t177 t178 true))) = some r := H
    have A5 := Aside0.mk A50
    clear A50
    have HC6 := Aside0.mk H
    clear H
    go_enter Tryd.func7, Tryd.ntmps7
    go_upto_region 4 with (first | ((with_reducible refine gate_callee (f := 8) rfl ?_); refine goesL_ (some 14) rfl rfl Tryd.func8 (by kernel_rfl) rfl #[] rfl (by (try simp only [List.map_toArray, List.map_cons, List.map_nil]); first | done | rfl | (simp only [List.length_drop, List.length_take]; rfl)) ?_; (with_reducible refine (arrearslaw06_awake.calls k  true _ ?hGL A3.out).mono ?_); (case hGL => exact Go.Proofs.YtdkdjikfhclmaaaDoor.M.Laid.below HG.out (by repeat (first | (with_reducible first | exact HB.out | apply below_alloc | apply pw_below_drewN | apply below_drew1) | exact HB.out))); rintro e w7 ⟨rfl, hb⟩; refine ⟨_, rfl, ?_⟩; have n0_ := Aside0.mk (below_step (by repeat (first | (with_reducible first | exact HB.out | apply below_alloc | apply pw_below_drewN | apply below_drew1) | exact HB.out)) hb); clear HB; have HB := n0_; clear n0_; (try clear hb); (try clear hb2); (try clear hk); (try clear hi)) | ((with_reducible refine gate_callee (f := 11) rfl ?_); refine goesL_ (some 19) rfl rfl Tryd.func11 (by kernel_rfl) rfl #[.int .u8 a0, .int .i32 a1] rfl (by (try simp only [List.map_toArray, List.map_cons, List.map_nil]); first | done | rfl | (simp only [List.length_drop, List.length_take]; rfl)) ?_; (with_reducible refine (span_One.calls k a0 a1 t177 t178 _ A5.out).mono ?_); rintro e w8 ⟨rfl, hb⟩; refine ⟨_, rfl, ?_⟩; have n0_ := Aside0.mk (below_step (by repeat (first | (with_reducible first | exact HB.out | apply below_alloc | apply pw_below_drewN | apply below_drew1) | exact HB.out)) hb); clear HB; have HB := n0_; clear n0_; (try clear hb); (try clear hb2); (try clear hk); (try clear hi); (try simp only [errW_none, errW_some])))
    (try simp only [Act.put, List.setIfInBounds_toArray, List.set_cons_zero, List.set_cons_succ])
    go_cut [35] (fun v35 wc => ∃ (kq : Nat) (x35_5 : Bool), v35 = .bool x35_5 ∧ Aside0 (arrearslaw06_SpanOnes.j0 kq a0 a1 t177 t178 x35_5 = some r) ∧ Aside0 (kq ≤ k) ∧ Aside0 (Below w.heap.size w wc))
    case first =>
      have H := HC6.out
      clear HC6
      by_cases c9 : a0 = 1
      · rw [if_pos c9] at H
        have c9b0 : (a0 == 1) = true := beq_iff_eq.mpr c9
        have c9b1 : (a0 != 1) = false := bne_eq_false_iff_eq.mpr c9
        clear c9
        (first | rw [c9b0] | (simp only [i64_w, i32_w]; rw [c9b0]) | skip)
        by_cases c10 : a1 < 0
        · rw [if_pos c10] at H
          have c10b0 : decide (a1 < 0) = true := decide_eq_true c10
          clear c10
          have H' := Aside0.mk H
          clear H
          go_wp2
          go_meet
          case rel => exact ⟨_, (true), (by first | rfl | (simp; done) | (simp [*]; done) | (exfalso; simp at *; omega)), H', ⟨by first | omega | exact Nat.le_refl _⟩, ⟨by repeat (first | (with_reducible first | exact HB.out | apply below_alloc | apply pw_below_drewN | apply below_drew1) | exact HB.out)⟩⟩
        · rw [if_neg c10] at H
          have c10b0 : decide (a1 < 0) = false := decide_eq_false c10
          clear c10
          have H' := Aside0.mk H
          clear H
          go_wp2
          go_meet
          case rel => exact ⟨_, (decide (a1 ≥ 3652058)), (by first | rfl | (simp; done) | (simp [*]; done) | (exfalso; simp at *; omega)), H', ⟨by first | omega | exact Nat.le_refl _⟩, ⟨by repeat (first | (with_reducible first | exact HB.out | apply below_alloc | apply pw_below_drewN | apply below_drew1) | exact HB.out)⟩⟩
      · rw [if_neg c9] at H
        have c9b0 : (a0 == 1) = false := beq_eq_false_iff_ne.mpr c9
        have c9b1 : (a0 != 1) = true := bne_iff_ne.mpr c9
        (first | rw [c9b0] | (simp only [i64_w, i32_w]; rw [c9b0]) | skip)
        by_cases c11 : a0 = 2
        · rw [if_pos c11] at H
          have c11b0 : (a0 == 2) = true := beq_iff_eq.mpr c11
          have c11b1 : (a0 != 2) = false := bne_eq_false_iff_eq.mpr c11
          clear c11
          by_cases c12 : a1 < 0
          · rw [if_pos c12] at H
            have c12b0 : decide (a1 < 0) = true := decide_eq_true c12
            clear c12
            have H' := Aside0.mk H
            clear H
            go_wp2
            go_meet
            case rel => exact ⟨_, (true), (by first | rfl | (simp; done) | (simp [*]; done) | (exfalso; simp at *; omega)), H', ⟨by first | omega | exact Nat.le_refl _⟩, ⟨by repeat (first | (with_reducible first | exact HB.out | apply below_alloc | apply pw_below_drewN | apply below_drew1) | exact HB.out)⟩⟩
          · rw [if_neg c12] at H
            have c12b0 : decide (a1 < 0) = false := decide_eq_false c12
            clear c12
            have H' := Aside0.mk H
            clear H
            go_wp2
            go_meet
            case rel => exact ⟨_, (decide (a1 ≥ 3652058)), (by first | rfl | (simp; done) | (simp [*]; done) | (exfalso; simp at *; omega)), H', ⟨by first | omega | exact Nat.le_refl _⟩, ⟨by repeat (first | (with_reducible first | exact HB.out | apply below_alloc | apply pw_below_drewN | apply below_drew1) | exact HB.out)⟩⟩
        · rw [if_neg c11] at H
          have c11b0 : (a0 == 2) = false := beq_eq_false_iff_ne.mpr c11
          have c11b1 : (a0 != 2) = true := bne_iff_ne.mpr c11
          have H' := Aside0.mk H
          clear H
          go_wp2
          go_meet
          case rel => exact ⟨_, (true), (by first | rfl | (simp; done) | (simp [*]; done) | (exfalso; simp at *; omega)), H', ⟨by first | omega | exact Nat.le_refl _⟩, ⟨by repeat (first | (with_reducible first | exact HB.out | apply below_alloc | apply pw_below_drewN | apply below_drew1) | exact HB.out)⟩⟩
    case rest =>
      clear HC6
      try clear c1
      try clear p2
      try clear c4
      try clear c7
      try clear c8
      try clear c9
      try clear c9b0
      try clear c9b1
      try clear c10
      try clear c10b0
      try clear c11
      try clear c11b0
      try clear c11b1
      try clear c12
      try clear c12b0
      obtain ⟨kq, x35_5, rfl, HA, HJ5, HB⟩ := hcut
      cases kq with
      | zero => exact absurd HA.out (by simp [arrearslaw06_SpanOnes.j0])
      | succ kj5 =>
        have H := HA.out
        clear HA
        simp only [arrearslaw06_SpanOnes.j0] at H
        by_cases c13 : x35_5 = true
        · subst c13
          have H1 : (if t177 = 0 then ((api_Code.f t178).bind fun t179 => (some (t179 == 1))) else (some false)) = some r := by rw [if_pos rfl] at H; exact H
          clear H
          have H := H1
          clear H1
          by_cases c14 : t177 = 0
          · rw [if_pos c14] at H
            have c14b0 : (t177 == 0) = true := beq_iff_eq.mpr c14
            have c14b1 : (t177 != 0) = false := bne_eq_false_iff_eq.mpr c14
            clear c14
            replace H := Option.bind_eq_some_iff.mp H
            obtain ⟨t179, A150, H⟩ := H
            replace H : (some (t179 == 1)) = some r := H
            have A15 := Aside0.mk A150
            clear A150
            obtain rfl := Option.some.inj H
            have CA15 := fun W (hGW : Go.Proofs.YtdkdjikfhclmaaaDoor.M.Laid W) => api_Code.calls t178 t179 W hGW A15.out
            try simp only [errW_none, errW_some] at CA15
            go_wp2_with (first | (go_at_call 19; (with_reducible refine (CA15 _ ?hGL).mono ?_); (case hGL => exact Go.Proofs.YtdkdjikfhclmaaaDoor.M.Laid.below HG.out (by repeat (first | (with_reducible first | exact HB.out | apply below_alloc | apply pw_below_drewN | apply below_drew1) | exact HB.out))); rintro e w16 ⟨rfl, hb⟩; have n0_ := Aside0.mk (below_step (by repeat (first | (with_reducible first | exact HB.out | apply below_alloc | apply pw_below_drewN | apply below_drew1) | exact HB.out)) hb); clear HB; have HB := n0_; clear n0_; (try clear hb); (try clear hb2); (try clear hk); (try clear hi)))
            go_ret
            exact ⟨by first | rfl | (simp [errW_none, errW_some] <;> rfl) | (simp [*, errW_none, errW_some] <;> rfl), by repeat (first | (with_reducible first | exact HB.out | apply below_alloc | apply pw_below_drewN | apply below_drew1) | exact HB.out)⟩
          · rw [if_neg c14] at H
            have c14b0 : (t177 == 0) = false := beq_eq_false_iff_ne.mpr c14
            have c14b1 : (t177 != 0) = true := bne_iff_ne.mpr c14
            exact absurd (H.trans (congrArg some HR.out)) (by simp)
        · replace c13 := Bool.eq_false_iff.mpr c13
          subst c13
          have H1 : (if t178.isNone = true then ((arrearsref06_One.f kj5 (a0 == 2) (wrap64 (a1))).bind fun t181 => (if t177 = t181 then (if t177 < 0 then (arrearslaw06_SpanOnes.j1 kj5 a0 a1 true) else (arrearslaw06_SpanOnes.j1 kj5 a0 a1 (decide (t177 > 3)))) else (arrearslaw06_SpanOnes.j1 kj5 a0 a1 true))) else (arrearslaw06_SpanOnes.j1 kj5 a0 a1 true)) = some r := by rw [if_neg (show ¬ (false = true) by decide)] at H; exact H
          clear H
          have H := H1
          clear H1
          have HC17 := Aside0.mk H
          clear H
          go_upto_region 6 with (fail)
          go_cut [61] (fun v61 wc => ∃ (kq : Nat) (x61_16 : Bool), v61 = .bool x61_16 ∧ Aside0 (arrearslaw06_SpanOnes.j1 kq a0 a1 x61_16 = some r) ∧ Aside0 (kq ≤ kj5) ∧ Aside0 (Below w.heap.size w wc))
          case first =>
            have H := HC17.out
            clear HC17
            rcases t178 with _ | q180
            · have H1 : ((arrearsref06_One.f kj5 (a0 == 2) (wrap64 (a1))).bind fun t181 => (if t177 = t181 then (if t177 < 0 then (arrearslaw06_SpanOnes.j1 kj5 a0 a1 true) else (arrearslaw06_SpanOnes.j1 kj5 a0 a1 (decide (t177 > 3)))) else (arrearslaw06_SpanOnes.j1 kj5 a0 a1 true))) = some r := by rw [if_pos (show (none : Option Int).isNone = true by rfl)] at H; exact H
              clear H
              have H := H1
              clear H1
              try simp only [errW_none, errW_some]
              replace H := Option.bind_eq_some_iff.mp H
              obtain ⟨t181, A180, H⟩ := H
              replace H : (if t177 = t181 then (if t177 < 0 then (arrearslaw06_SpanOnes.j1 kj5 a0 a1 true) else (arrearslaw06_SpanOnes.j1 kj5 a0 a1 (decide (t177 > 3)))) else (arrearslaw06_SpanOnes.j1 kj5 a0 a1 true)) = some r := H
              have A18 := Aside0.mk A180
              clear A180
              by_cases c19 : t177 = t181
              · rw [if_pos c19] at H
                have c19b0 : (t177 == t181) = true := beq_iff_eq.mpr c19
                have c19b1 : (t177 != t181) = false := bne_eq_false_iff_eq.mpr c19
                clear c19
                (first | rw [c19b0] | (simp only [i64_w, i32_w]; rw [c19b0]) | skip)
                by_cases c20 : t177 < 0
                · rw [if_pos c20] at H
                  have c20b0 : decide (t177 < 0) = true := decide_eq_true c20
                  clear c20
                  have H' := Aside0.mk H
                  clear H
                  go_wp2_with (first | (go_at_call 21; (with_reducible refine (arrearsref06_One.calls kj5 (a0 == 2) (wrap64 (a1)) t181 _ A18.out).mono ?_); rintro e w21 ⟨rfl, hb⟩; have n0_ := Aside0.mk (below_step (by repeat (first | (with_reducible first | exact HB.out | apply below_alloc | apply pw_below_drewN | apply below_drew1) | exact HB.out)) hb); clear HB; have HB := n0_; clear n0_; (try clear hb); (try clear hb2); (try clear hk); (try clear hi)))
                  go_meet
                  case rel => exact ⟨_, (true), (by first | rfl | (simp; done) | (simp [*]; done) | (exfalso; simp at *; omega)), H', ⟨by have := HJ5.out; first | omega | exact Nat.le_refl _⟩, ⟨by repeat (first | (with_reducible first | exact HB.out | apply below_alloc | apply pw_below_drewN | apply below_drew1) | exact HB.out)⟩⟩
                · rw [if_neg c20] at H
                  have c20b0 : decide (t177 < 0) = false := decide_eq_false c20
                  clear c20
                  have H' := Aside0.mk H
                  clear H
                  go_wp2_with (first | (go_at_call 21; (with_reducible refine (arrearsref06_One.calls kj5 (a0 == 2) (wrap64 (a1)) t181 _ A18.out).mono ?_); rintro e w22 ⟨rfl, hb⟩; have n0_ := Aside0.mk (below_step (by repeat (first | (with_reducible first | exact HB.out | apply below_alloc | apply pw_below_drewN | apply below_drew1) | exact HB.out)) hb); clear HB; have HB := n0_; clear n0_; (try clear hb); (try clear hb2); (try clear hk); (try clear hi)))
                  go_meet
                  case rel => exact ⟨_, (decide (t177 > 3)), (by first | rfl | (simp; done) | (simp [*]; done) | (exfalso; simp at *; omega)), H', ⟨by have := HJ5.out; first | omega | exact Nat.le_refl _⟩, ⟨by repeat (first | (with_reducible first | exact HB.out | apply below_alloc | apply pw_below_drewN | apply below_drew1) | exact HB.out)⟩⟩
              · rw [if_neg c19] at H
                have c19b0 : (t177 == t181) = false := beq_eq_false_iff_ne.mpr c19
                have c19b1 : (t177 != t181) = true := bne_iff_ne.mpr c19
                (first | rw [c19b0] | (simp only [i64_w, i32_w]; rw [c19b0]) | skip)
                have H' := Aside0.mk H
                clear H
                go_wp2_with (first | (go_at_call 21; (with_reducible refine (arrearsref06_One.calls kj5 (a0 == 2) (wrap64 (a1)) t181 _ A18.out).mono ?_); rintro e w23 ⟨rfl, hb⟩; have n0_ := Aside0.mk (below_step (by repeat (first | (with_reducible first | exact HB.out | apply below_alloc | apply pw_below_drewN | apply below_drew1) | exact HB.out)) hb); clear HB; have HB := n0_; clear n0_; (try clear hb); (try clear hb2); (try clear hk); (try clear hi)))
                go_meet
                case rel => exact ⟨_, (true), (by first | rfl | (simp; done) | (simp [*]; done) | (exfalso; simp at *; omega)), H', ⟨by have := HJ5.out; first | omega | exact Nat.le_refl _⟩, ⟨by repeat (first | (with_reducible first | exact HB.out | apply below_alloc | apply pw_below_drewN | apply below_drew1) | exact HB.out)⟩⟩
            · have H1 : (arrearslaw06_SpanOnes.j1 kj5 a0 a1 true) = some r := by rw [if_neg (show ¬ (some q180).isNone = true by simp)] at H; exact H
              clear H
              have H := H1
              clear H1
              try simp only [errW_none, errW_some]
              have H' := Aside0.mk H
              clear H
              go_wp2
              go_meet
              case rel => exact ⟨_, (true), (by first | rfl | (simp; done) | (simp [*]; done) | (exfalso; simp at *; omega)), H', ⟨by have := HJ5.out; first | omega | exact Nat.le_refl _⟩, ⟨by repeat (first | (with_reducible first | exact HB.out | apply below_alloc | apply pw_below_drewN | apply below_drew1) | exact HB.out)⟩⟩
          case rest =>
            clear HC17
            try clear c1
            try clear q1
            try clear c2
            try clear p2
            try clear c4
            try clear p6
            try clear c7
            try clear c8
            try clear c9
            try clear c9b0
            try clear c9b1
            try clear c10
            try clear c10b0
            try clear c11
            try clear c11b0
            try clear c11b1
            try clear c12
            try clear c12b0
            try clear c13
            try clear c14
            try clear c14b0
            try clear c14b1
            try clear q18
            try clear c19
            try clear c19b0
            try clear c19b1
            try clear c20
            try clear c20b0
            try clear p2
            try clear q180
            obtain ⟨kq, x61_16, rfl, HA, HJ16, HB⟩ := hcut
            cases kq with
            | zero => exact absurd HA.out (by simp [arrearslaw06_SpanOnes.j1])
            | succ kj16 =>
              have H := HA.out
              clear HA
              simp only [arrearslaw06_SpanOnes.j1] at H
              by_cases c24 : x61_16 = true
              · subst c24
                have H1 : (some false) = some r := by rw [if_pos rfl] at H; exact H
                clear H
                have H := H1
                clear H1
                exact absurd (H.trans (congrArg some HR.out)) (by simp)
              · replace c24 := Bool.eq_false_iff.mpr c24
                subst c24
                have H1 : ((arrearsref05_Civil.f kj16 (wrap64 (a1))).bind fun bt182 => ((arrearsref05_Length.f kj16 bt182.1 bt182.2.1).bind fun t186 => (if (wrap64 ((wrap64 ((wrap64 ((wrap64 (a1)) - bt182.2.2)) + 1)) + t186)) > 3652058 then (some true) else (arrearslaw06_SpanOnes.l0 kj16 a0 (wrap64 ((wrap64 ((wrap64 (a1)) - bt182.2.2)) + 1)) t186 0 t186 0)))) = some r := by rw [if_neg (show ¬ (false = true) by decide)] at H; exact H
                clear H
                have H := H1
                clear H1
                replace H := Option.bind_eq_some_iff.mp H
                obtain ⟨⟨t182, t183, t184⟩, A250, H⟩ := H
                replace H : ((arrearsref05_Length.f kj16 t182 t183).bind fun t186 => (if (wrap64 ((wrap64 ((wrap64 ((wrap64 (a1)) - t184)) + 1)) + t186)) > 3652058 then (some true) else (arrearslaw06_SpanOnes.l0 kj16 a0 (wrap64 ((wrap64 ((wrap64 (a1)) - t184)) + 1)) t186 0 t186 0))) = some r := H
                have A25 := Aside0.mk A250
                clear A250
                replace H := Option.bind_eq_some_iff.mp H
                obtain ⟨t186, A260, H⟩ := H
                replace H : (if (wrap64 ((wrap64 ((wrap64 ((wrap64 (a1)) - t184)) + 1)) + t186)) > 3652058 then (some true) else (arrearslaw06_SpanOnes.l0 kj16 a0 (wrap64 ((wrap64 ((wrap64 (a1)) - t184)) + 1)) t186 0 t186 0)) = some r := H
                have A26 := Aside0.mk A260
                clear A260
                by_cases c27 : (wrap64 ((wrap64 ((wrap64 ((wrap64 (a1)) - t184)) + 1)) + t186)) > 3652058
                · rw [if_pos c27] at H
                  have c27b0 : decide (3652058 < (wrap64 ((wrap64 ((wrap64 ((wrap64 (a1)) - t184)) + 1)) + t186))) = true := decide_eq_true c27
                  clear c27
                  obtain rfl := Option.some.inj H
                  go_wp2_with (first | ((with_reducible refine gate_callee (f := 22) rfl ?_); refine goesL_ (some 64) rfl rfl Tryd.func22 (by kernel_rfl) rfl #[.int .i64 (wrap64 (a1))] rfl (by (try simp only [List.map_toArray, List.map_cons, List.map_nil]); first | done | rfl | (simp only [List.length_drop, List.length_take]; rfl)) ?_; (with_reducible refine (arrearsref05_Civil.calls kj16 (wrap64 (a1)) t182 t183 t184 _ A25.out).mono ?_); rintro e w28 ⟨rfl, hb⟩; refine ⟨_, rfl, ?_⟩; have n0_ := Aside0.mk (below_step (by repeat (first | (with_reducible first | exact HB.out | apply below_alloc | apply pw_below_drewN | apply below_drew1) | exact HB.out)) hb); clear HB; have HB := n0_; clear n0_; (try clear hb); (try clear hb2); (try clear hk); (try clear hi)) | ((with_reducible refine gate_dst (N := 7) rfl ?_); refine box_event ?hg (N := 7) ?hd (cs := #[.int .i64 0, .int .i64 0, .int .i64 0]) (t := 26) ?hr ?_; (case hd => rfl); (case hg => rfl); (case hr => first | (go_simp; done) | (go_simp; rfl)); intro gb185 hg w29 hbox hb; have n0_ := Aside0.mk (below_step (by repeat (first | (with_reducible first | exact HB.out | apply below_alloc | apply pw_below_drewN | apply below_drew1) | exact HB.out)) hb); have n1_ := Aside0.mk (hbox); have n2_ := Aside0.mk ((by rw [hg]; exact (below_size (by repeat (first | (with_reducible first | exact HB.out | apply below_alloc | apply pw_below_drewN | apply below_drew1) | exact HB.out))) : w.heap.size ≤ gb185)); have n3_ := Aside0.mk ((by rw [hg]; exact (below_size (by repeat (first | (with_reducible first | exact HB.out | apply below_alloc | apply pw_below_drewN | apply below_drew1) | exact HB.out))) : w.heap.size ≤ gb185)); clear HB; have HB := n0_; have BK185 := n1_; have GW185 := n2_; have GE185 := n3_; clear n0_ n1_ n2_ n3_; clear hb hbox hg; have hcz30_0 : w29.cell? ⟨gb185, 0, none⟩ = some (.int .i64 0) := (blk_cell BK185.out 0).trans rfl; have hcz30_1 : w29.cell? ⟨gb185, 1, none⟩ = some (.int .i64 0) := (blk_cell BK185.out 1).trans rfl; have hcz30_2 : w29.cell? ⟨gb185, 2, none⟩ = some (.int .i64 0) := (blk_cell BK185.out 2).trans rfl; have hfz30_0 := blk_frozen BK185.out 0; have hfz30_1 := blk_frozen BK185.out 1; have hfz30_2 := blk_frozen BK185.out 2) | ((with_reducible refine gate_callee (f := 23) rfl ?_); refine goesL_ (some 75) rfl rfl Tryd.func23 (by kernel_rfl) rfl #[.int .i64 t182, .int .i64 t183] rfl (by (try simp only [List.map_toArray, List.map_cons, List.map_nil]); first | done | rfl | (simp only [List.length_drop, List.length_take]; rfl)) ?_; (with_reducible refine (arrearsref05_Length.calls kj16 t182 t183 t186 _ A26.out).mono ?_); rintro e w31 ⟨rfl, hb⟩; refine ⟨_, rfl, ?_⟩; have n0_ := Aside0.mk (blk_below (g := gb185) (o := .cells #[.int .i64 t182, .int .i64 t183, .int .i64 t184] 26 (0, 0)) (by (with_reducible repeat (first | refine blk_drewN ?_ _ | refine blk_drew ?_ | refine blk_alloc ?_ _)); refine blk_put (cs := #[.int .i64 t182, .int .i64 t183, .int .i64 0]) ?_ 2 _ rfl; (with_reducible repeat (first | refine blk_drewN ?_ _ | refine blk_drew ?_ | refine blk_alloc ?_ _)); refine blk_put (cs := #[.int .i64 t182, .int .i64 0, .int .i64 0]) ?_ 1 _ rfl; (with_reducible repeat (first | refine blk_drewN ?_ _ | refine blk_drew ?_ | refine blk_alloc ?_ _)); refine blk_put (cs := #[.int .i64 0, .int .i64 0, .int .i64 0]) ?_ 0 _ rfl; (with_reducible repeat (first | refine blk_drewN ?_ _ | refine blk_drew ?_ | refine blk_alloc ?_ _)); exact BK185.out) hb); have n1_ := Aside0.mk (below_step (by repeat (first | (with_reducible first | exact HB.out | apply below_alloc | apply pw_below_drewN | apply below_drew1 | refine below_set ?_ GE185.out) | exact HB.out)) hb); clear BK185; clear HB; have BK185 := n0_; have HB := n1_; clear n0_ n1_; (try clear hb); (try clear hb2); (try clear hk); (try clear hi)))
                  go_ret
                  exact ⟨by first | rfl | (simp [errW_none, errW_some] <;> rfl) | (simp [*, errW_none, errW_some] <;> rfl), by repeat (first | (with_reducible first | exact HB.out | apply below_alloc | apply pw_below_drewN | apply below_drew1 | refine below_set ?_ GE185.out) | exact HB.out)⟩
                · rw [if_neg c27] at H
                  have c27b0 : decide (3652058 < (wrap64 ((wrap64 ((wrap64 ((wrap64 (a1)) - t184)) + 1)) + t186))) = false := decide_eq_false c27
                  clear c27
                  have H' := Aside0.mk H
                  clear H
                  go_wp2_with (first | ((with_reducible refine gate_callee (f := 22) rfl ?_); refine goesL_ (some 64) rfl rfl Tryd.func22 (by kernel_rfl) rfl #[.int .i64 (wrap64 (a1))] rfl (by (try simp only [List.map_toArray, List.map_cons, List.map_nil]); first | done | rfl | (simp only [List.length_drop, List.length_take]; rfl)) ?_; (with_reducible refine (arrearsref05_Civil.calls kj16 (wrap64 (a1)) t182 t183 t184 _ A25.out).mono ?_); rintro e w32 ⟨rfl, hb⟩; refine ⟨_, rfl, ?_⟩; have n0_ := Aside0.mk (below_step (by repeat (first | (with_reducible first | exact HB.out | apply below_alloc | apply pw_below_drewN | apply below_drew1) | exact HB.out)) hb); clear HB; have HB := n0_; clear n0_; (try clear hb); (try clear hb2); (try clear hk); (try clear hi)) | ((with_reducible refine gate_dst (N := 7) rfl ?_); refine box_event ?hg (N := 7) ?hd (cs := #[.int .i64 0, .int .i64 0, .int .i64 0]) (t := 26) ?hr ?_; (case hd => rfl); (case hg => rfl); (case hr => first | (go_simp; done) | (go_simp; rfl)); intro gb185 hg w33 hbox hb; have n0_ := Aside0.mk (below_step (by repeat (first | (with_reducible first | exact HB.out | apply below_alloc | apply pw_below_drewN | apply below_drew1) | exact HB.out)) hb); have n1_ := Aside0.mk (hbox); have n2_ := Aside0.mk ((by rw [hg]; exact (below_size (by repeat (first | (with_reducible first | exact HB.out | apply below_alloc | apply pw_below_drewN | apply below_drew1) | exact HB.out))) : w.heap.size ≤ gb185)); have n3_ := Aside0.mk ((by rw [hg]; exact (below_size (by repeat (first | (with_reducible first | exact HB.out | apply below_alloc | apply pw_below_drewN | apply below_drew1) | exact HB.out))) : w.heap.size ≤ gb185)); clear HB; have HB := n0_; have BK185 := n1_; have GW185 := n2_; have GE185 := n3_; clear n0_ n1_ n2_ n3_; clear hb hbox hg; have hcz34_0 : w33.cell? ⟨gb185, 0, none⟩ = some (.int .i64 0) := (blk_cell BK185.out 0).trans rfl; have hcz34_1 : w33.cell? ⟨gb185, 1, none⟩ = some (.int .i64 0) := (blk_cell BK185.out 1).trans rfl; have hcz34_2 : w33.cell? ⟨gb185, 2, none⟩ = some (.int .i64 0) := (blk_cell BK185.out 2).trans rfl; have hfz34_0 := blk_frozen BK185.out 0; have hfz34_1 := blk_frozen BK185.out 1; have hfz34_2 := blk_frozen BK185.out 2) | ((with_reducible refine gate_callee (f := 23) rfl ?_); refine goesL_ (some 75) rfl rfl Tryd.func23 (by kernel_rfl) rfl #[.int .i64 t182, .int .i64 t183] rfl (by (try simp only [List.map_toArray, List.map_cons, List.map_nil]); first | done | rfl | (simp only [List.length_drop, List.length_take]; rfl)) ?_; (with_reducible refine (arrearsref05_Length.calls kj16 t182 t183 t186 _ A26.out).mono ?_); rintro e w35 ⟨rfl, hb⟩; refine ⟨_, rfl, ?_⟩; have n0_ := Aside0.mk (blk_below (g := gb185) (o := .cells #[.int .i64 t182, .int .i64 t183, .int .i64 t184] 26 (0, 0)) (by (with_reducible repeat (first | refine blk_drewN ?_ _ | refine blk_drew ?_ | refine blk_alloc ?_ _)); refine blk_put (cs := #[.int .i64 t182, .int .i64 t183, .int .i64 0]) ?_ 2 _ rfl; (with_reducible repeat (first | refine blk_drewN ?_ _ | refine blk_drew ?_ | refine blk_alloc ?_ _)); refine blk_put (cs := #[.int .i64 t182, .int .i64 0, .int .i64 0]) ?_ 1 _ rfl; (with_reducible repeat (first | refine blk_drewN ?_ _ | refine blk_drew ?_ | refine blk_alloc ?_ _)); refine blk_put (cs := #[.int .i64 0, .int .i64 0, .int .i64 0]) ?_ 0 _ rfl; (with_reducible repeat (first | refine blk_drewN ?_ _ | refine blk_drew ?_ | refine blk_alloc ?_ _)); exact BK185.out) hb); have n1_ := Aside0.mk (below_step (by repeat (first | (with_reducible first | exact HB.out | apply below_alloc | apply pw_below_drewN | apply below_drew1 | refine below_set ?_ GE185.out) | exact HB.out)) hb); clear BK185; clear HB; have BK185 := n0_; have HB := n1_; clear n0_ n1_; (try clear hb); (try clear hb2); (try clear hk); (try clear hi)))
                  go_loopg [10, 81] kj16 (fun kq v10 v81 w' => ∃ (x10_3 : Int) (x81_3 : Int), v10 = .int .i64 x10_3 ∧ v81 = .int .i64 x81_3 ∧ Aside0 (arrearslaw06_SpanOnes.l0 kq a0 (wrap64 ((wrap64 ((wrap64 (a1)) - t184)) + 1)) t186 x10_3 t186 x81_3 = some r) ∧ Aside0 (kq ≤ kj16) ∧ Aside0 (w'.heap[gb185]? = some (.cells #[.int .i64 t182, .int .i64 t183, .int .i64 t184] 26 (0, 0))) ∧ Aside0 (Below w.heap.size w w'))
                  case atStart => exact ⟨(0), (0), (by first | rfl | (simp; done) | (simp [*]; done) | (exfalso; simp at *; omega)), (by first | rfl | (simp; done) | (simp [*]; done) | (exfalso; simp at *; omega)), H', ⟨Nat.le_refl _⟩, ⟨by (with_reducible repeat (first | refine blk_drewN ?_ _ | refine blk_drew ?_ | refine blk_alloc ?_ _)); exact BK185.out⟩, ⟨by repeat (first | (with_reducible first | exact HB.out | apply below_alloc | apply pw_below_drewN | apply below_drew1 | refine below_set ?_ GE185.out) | exact HB.out)⟩⟩
                  case round =>
                    clear H'
                    try clear c1
                    try clear q1
                    try clear c2
                    try clear p2
                    try clear c4
                    try clear p6
                    try clear c7
                    try clear c8
                    try clear c9
                    try clear c9b0
                    try clear c9b1
                    try clear c10
                    try clear c10b0
                    try clear c11
                    try clear c11b0
                    try clear c11b1
                    try clear c12
                    try clear c12b0
                    try clear c13
                    try clear c14
                    try clear c14b0
                    try clear c14b1
                    try clear q18
                    try clear c19
                    try clear c19b0
                    try clear c19b1
                    try clear c20
                    try clear c20b0
                    try clear c22
                    try clear c23
                    try clear c24
                    try clear c27
                    try clear c27b0
                    try clear hcz30_0
                    try clear hcz30_1
                    try clear hcz30_2
                    try clear hcz34_0
                    try clear hcz34_1
                    try clear hcz34_2
                    try clear hfz30_0
                    try clear hfz30_1
                    try clear hfz30_2
                    try clear hfz34_0
                    try clear hfz34_1
                    try clear hfz34_2
                    try clear p2
                    try clear p6
                    try clear q1
                    try clear q18
                    try clear q180
                    obtain ⟨x10_3, x81_3, rfl, rfl, HA, HK3, BK185, HB⟩ := hrel
                    cases gk with
                    | zero => exact absurd HA.out (by simp [arrearslaw06_SpanOnes.l0])
                    | succ k3 =>
                      have H := HA.out
                      clear HA
                      simp only [arrearslaw06_SpanOnes.l0] at H
                      by_cases c36 : x81_3 < t186
                      · rw [if_pos c36] at H
                        have c36b0 : decide (x81_3 < t186) = true := decide_eq_true c36
                        clear c36
                        replace H := Option.bind_eq_some_iff.mp H
                        obtain ⟨⟨t187, t188⟩, A370, H⟩ := H
                        replace H : (if t188.isNone = true then (arrearslaw06_SpanOnes.l0 k3 a0 (wrap64 ((wrap64 ((wrap64 (a1)) - t184)) + 1)) t186 (wrap64 (x10_3 + t187)) t186 (wrap64 (x81_3 + 1))) else (some false)) = some r := H
                        have A37 := Aside0.mk A370
                        clear A370
                        rcases t188 with _ | q189
                        · have H1 : (arrearslaw06_SpanOnes.l0 k3 a0 (wrap64 ((wrap64 ((wrap64 (a1)) - t184)) + 1)) t186 (wrap64 (x10_3 + t187)) t186 (wrap64 (x81_3 + 1))) = some r := by rw [if_pos (show (none : Option Int).isNone = true by rfl)] at H; exact H
                          clear H
                          have H := H1
                          clear H1
                          try simp only [errW_none, errW_some]
                          have H' := Aside0.mk H
                          clear H
                          go_wp2_with (first | ((with_reducible refine gate_callee (f := 11) rfl ?_); refine goesL_ (some 90) rfl rfl Tryd.func11 (by kernel_rfl) rfl #[.int .u8 a0, .int .i32 (wrap32 (wrap64 ((wrap64 ((wrap64 ((wrap64 (a1)) - t184)) + 1)) + x81_3)))] rfl (by (try simp only [List.map_toArray, List.map_cons, List.map_nil]); first | done | rfl | (simp only [List.length_drop, List.length_take]; rfl)) ?_; (with_reducible refine (span_One.calls k3 a0 (wrap32 (wrap64 ((wrap64 ((wrap64 ((wrap64 (a1)) - t184)) + 1)) + x81_3))) t187 none _ A37.out).mono ?_); rintro e w38 ⟨rfl, hb⟩; refine ⟨_, rfl, ?_⟩; have n0_ := Aside0.mk (blk_below (g := gb185) (o := .cells #[.int .i64 t182, .int .i64 t183, .int .i64 t184] 26 (0, 0)) (by (with_reducible repeat (first | refine blk_drewN ?_ _ | refine blk_drew ?_ | refine blk_alloc ?_ _)); exact BK185.out) hb); have n1_ := Aside0.mk (below_step (by repeat (first | (with_reducible first | exact HB.out | apply below_alloc | apply pw_below_drewN | apply below_drew1 | refine below_set ?_ GE185.out) | exact HB.out)) hb); clear BK185; clear HB; have BK185 := n0_; have HB := n1_; clear n0_ n1_; (try clear hb); (try clear hb2); (try clear hk); (try clear hi); (try simp only [errW_none, errW_some])))
                          go_roundg k3
                          case measure => have := HJ5.out; have := HJ16.out; have := HK3.out; omega
                          case rel => exact ⟨(wrap64 (x10_3 + t187)), (wrap64 (x81_3 + 1)), (by first | rfl | (simp; done) | (simp [*]; done) | (exfalso; simp at *; omega)), (by first | rfl | (simp; done) | (simp [*]; done) | (exfalso; simp at *; omega)), H', ⟨by have := HJ5.out; have := HJ16.out; have := HK3.out; omega⟩, ⟨by (with_reducible repeat (first | refine blk_drewN ?_ _ | refine blk_drew ?_ | refine blk_alloc ?_ _)); exact BK185.out⟩, ⟨by repeat (first | (with_reducible first | exact HB.out | apply below_alloc | apply pw_below_drewN | apply below_drew1 | refine below_set ?_ GE185.out) | exact HB.out)⟩⟩
                        · have H1 : (some false) = some r := by rw [if_neg (show ¬ (some q189).isNone = true by simp)] at H; exact H
                          clear H
                          have H := H1
                          clear H1
                          try simp only [errW_none, errW_some]
                          exact absurd (H.trans (congrArg some HR.out)) (by simp)
                      · rw [if_neg c36] at H
                        have c36b0 : decide (x81_3 < t186) = false := decide_eq_false c36
                        clear c36
                        by_cases c40 : a0 = 1
                        · rw [if_pos c40] at H
                          have c40b0 : (a0 == 1) = true := beq_iff_eq.mpr c40
                          have c40b1 : (a0 != 1) = false := bne_eq_false_iff_eq.mpr c40
                          clear c40
                          by_cases c41 : x10_3 = t186
                          · rw [if_pos c41] at H
                            have c41b0 : (x10_3 == t186) = true := beq_iff_eq.mpr c41
                            have c41b1 : (x10_3 != t186) = false := bne_eq_false_iff_eq.mpr c41
                            clear c41
                            obtain rfl := Option.some.inj H
                            go_wp2
                            go_ret
                            exact ⟨by first | rfl | (simp [errW_none, errW_some] <;> rfl) | (simp [*, errW_none, errW_some] <;> rfl), by repeat (first | (with_reducible first | exact HB.out | apply below_alloc | apply pw_below_drewN | apply below_drew1 | refine below_set ?_ GE185.out) | exact HB.out)⟩
                          · rw [if_neg c41] at H
                            have c41b0 : (x10_3 == t186) = false := beq_eq_false_iff_ne.mpr c41
                            have c41b1 : (x10_3 != t186) = true := bne_iff_ne.mpr c41
                            by_cases c42 : a0 = 2
                            · rw [if_pos c42] at H
                              have c42b0 : (a0 == 2) = true := beq_iff_eq.mpr c42
                              have c42b1 : (a0 != 2) = false := bne_eq_false_iff_eq.mpr c42
                              clear c42
                              obtain rfl := Option.some.inj H
                              go_wp2
                              go_ret
                              exact ⟨by first | rfl | (simp [errW_none, errW_some] <;> rfl) | (simp [*, errW_none, errW_some] <;> rfl), by repeat (first | (with_reducible first | exact HB.out | apply below_alloc | apply pw_below_drewN | apply below_drew1 | refine below_set ?_ GE185.out) | exact HB.out)⟩
                            · rw [if_neg c42] at H
                              have c42b0 : (a0 == 2) = false := beq_eq_false_iff_ne.mpr c42
                              have c42b1 : (a0 != 2) = true := bne_iff_ne.mpr c42
                              obtain rfl := Option.some.inj H
                              go_wp2
                              go_ret
                              exact ⟨by first | rfl | (simp [errW_none, errW_some] <;> rfl) | (simp [*, errW_none, errW_some] <;> rfl), by repeat (first | (with_reducible first | exact HB.out | apply below_alloc | apply pw_below_drewN | apply below_drew1 | refine below_set ?_ GE185.out) | exact HB.out)⟩
                        · rw [if_neg c40] at H
                          have c40b0 : (a0 == 1) = false := beq_eq_false_iff_ne.mpr c40
                          have c40b1 : (a0 != 1) = true := bne_iff_ne.mpr c40
                          by_cases c43 : a0 = 2
                          · rw [if_pos c43] at H
                            have c43b0 : (a0 == 2) = true := beq_iff_eq.mpr c43
                            have c43b1 : (a0 != 2) = false := bne_eq_false_iff_eq.mpr c43
                            clear c43
                            obtain rfl := Option.some.inj H
                            go_wp2
                            go_ret
                            exact ⟨by first | rfl | (simp [errW_none, errW_some] <;> rfl) | (simp [*, errW_none, errW_some] <;> rfl), by repeat (first | (with_reducible first | exact HB.out | apply below_alloc | apply pw_below_drewN | apply below_drew1 | refine below_set ?_ GE185.out) | exact HB.out)⟩
                          · rw [if_neg c43] at H
                            have c43b0 : (a0 == 2) = false := beq_eq_false_iff_ne.mpr c43
                            have c43b1 : (a0 != 2) = true := bne_iff_ne.mpr c43
                            obtain rfl := Option.some.inj H
                            go_wp2
                            go_ret
                            exact ⟨by first | rfl | (simp [errW_none, errW_some] <;> rfl) | (simp [*, errW_none, errW_some] <;> rfl), by repeat (first | (with_reducible first | exact HB.out | apply below_alloc | apply pw_below_drewN | apply below_drew1 | refine below_set ?_ GE185.out) | exact HB.out)⟩
  · replace c4 := Bool.eq_false_iff.mpr c4
    subst c4
    have H1 : (some false) = some r := by rw [if_neg (show ¬ (false = true) by decide)] at H; exact H
    clear H
    have H := H1
    clear H1
    exact absurd (H.trans (congrArg some HR.out)) (by simp)
end Go.Proofs.YtdkdjikfhclmaaaDoor.PSpanOnes
