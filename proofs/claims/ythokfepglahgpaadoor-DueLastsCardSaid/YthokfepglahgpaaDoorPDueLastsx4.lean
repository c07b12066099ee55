-- Printed by a wrapper of this session's round the kit's print.py; Lean checks it.
import Derived.Test.YthokfepglahgpaaDoorPDueLastsx0
import Derived.Test.YthokfepglahgpaaDoorPDueLastsx1
import Derived.Test.YthokfepglahgpaaDoorPDueLastsx2
import Derived.Test.YthokfepglahgpaaDoorPDueLastsx3
namespace Go.Proofs.YthokfepglahgpaaDoor.PDueLasts
open Go.RowKit Go.Proofs.YthokfepglahgpaaDoorW.PrintWords Go.Proofs.YthokfepglahgpaaDoorW.PrintLast Go.Proofs.YthokfepglahgpaaDoorW.PrintMore
attribute [local go_sem] max2_int min2_int max_two min_two max_three min_three max_four min_four   -- for this text's walks alone
set_option linter.unusedVariables false
set_option linter.unusedSimpArgs false

/-! ### arrearslaw07_DueLasts: function 3 -/
def arrearslaw07_DueLasts.j0 : Nat → Int → Option Int → Bool → Int → Int → Int → Option (Bool)
  | 0, _, _, _, _, _, _ => none
  | k + 1, x6, x7, x33, x166000, x166001, x166002 => if x33 = true then (if x7.isNone = true then (some false) else (some true)) else ((date_Day_Civil.f k x6).bind fun bt169 => ((date_Civil_Last.f k x166000 x166001 x166002).bind fun t174 => (if t174 = true then (if bt169.2.2.2.isNone = true then ((date_Civil_Last.f k bt169.1 bt169.2.1 bt169.2.2.1).bind fun t176 => (some t176)) else (some false)) else (if x166002 ≤ 28 then (if bt169.2.2.2.isNone = true then (some (bt169.2.2.1 == x166002)) else (some false)) else (if bt169.2.2.2.isNone = true then (if bt169.2.2.1 = x166002 then (some true) else ((date_Civil_Last.f k bt169.1 bt169.2.1 bt169.2.2.1).bind fun t179 => (if t179 = true then (some (decide (bt169.2.2.1 < x166002))) else (some false)))) else (some false))))))
def arrearslaw07_DueLasts.f (k : Nat) (a0 : Int) (a1 : Int) : Option (Bool) := (arrearslaw07_awake.f k).bind fun t158 => (if t158 = true then ((due_Plain.f k a0 (wrap64 (Int.tmod a1 481))).bind fun bt159 => ((date_Day_Civil.f k a0).bind fun bt161 => (if bt159.2.isNone = true then (if bt161.2.2.2.isNone = true then (arrearslaw07_DueLasts.j0 k bt159.1 none false bt161.1 bt161.2.1 bt161.2.2.1) else (arrearslaw07_DueLasts.j0 k bt159.1 none true bt161.1 bt161.2.1 bt161.2.2.1)) else (arrearslaw07_DueLasts.j0 k bt159.1 (some (bt159.2.getD 0)) true bt161.1 bt161.2.1 bt161.2.2.1)))) else (some false))
theorem arrearslaw07_DueLasts.mono_l : ∀ k, (∀ y0 y1 y2 y3 y4 y5, LeO (arrearslaw07_DueLasts.j0 k y0 y1 y2 y3 y4 y5) (arrearslaw07_DueLasts.j0 (k + 1) y0 y1 y2 y3 y4 y5))
  | 0 => fun _ _ _ _ _ _ r h => by simp [arrearslaw07_DueLasts.j0] at h
  | k + 1 => by
    have ih0 := arrearslaw07_DueLasts.mono_l k
    · intro y0 y1 y2 y3 y4 y5
      unfold arrearslaw07_DueLasts.j0
      repeat' first
      | (with_reducible exact ih0 _ _ _ _ _ _)
      | (with_reducible exact arrearslaw07_awake.mono _)
      | (with_reducible exact date_Civil_Last.mono _ _ _ _)
      | (with_reducible exact date_Day_Civil.mono _ _)
      | (with_reducible exact due_Plain.mono _ _ _)
      | (with_reducible exact LeO.refl _)
      | (with_reducible exact LeO.none _)
      | (with_reducible refine LeO.ite ?_ ?_)
      | (with_reducible refine LeO.bind ?_ (fun _ => ?_))
      | exact ih0 _ _ _ _ _ _
      | exact arrearslaw07_awake.mono _
      | exact date_Civil_Last.mono _ _ _ _
      | exact date_Day_Civil.mono _ _
      | exact due_Plain.mono _ _ _
      | exact LeO.none _
      | refine LeO.ite ?_ ?_
      | refine LeO.bind ?_ (fun _ => ?_)
theorem arrearslaw07_DueLasts.mono : ∀ a0 a1 k, LeO (arrearslaw07_DueLasts.f k a0 a1) (arrearslaw07_DueLasts.f (k + 1) a0 a1) := by
  intro a0 a1 k
  have ih0 := arrearslaw07_DueLasts.mono_l k
  unfold arrearslaw07_DueLasts.f
  repeat' first
      | (with_reducible exact ih0 _ _ _ _ _ _)
      | (with_reducible exact arrearslaw07_awake.mono _)
      | (with_reducible exact date_Civil_Last.mono _ _ _ _)
      | (with_reducible exact date_Day_Civil.mono _ _)
      | (with_reducible exact due_Plain.mono _ _ _)
      | (with_reducible exact LeO.refl _)
      | (with_reducible exact LeO.none _)
      | (with_reducible refine LeO.ite ?_ ?_)
      | (with_reducible refine LeO.bind ?_ (fun _ => ?_))
      | exact ih0 _ _ _ _ _ _
      | exact arrearslaw07_awake.mono _
      | exact date_Civil_Last.mono _ _ _ _
      | exact date_Day_Civil.mono _ _
      | exact due_Plain.mono _ _ _
      | exact LeO.none _
      | refine LeO.ite ?_ ?_
      | refine LeO.bind ?_ (fun _ => ?_)
set_option maxHeartbeats 8000000 in
set_option maxRecDepth 100000 in
theorem arrearslaw07_DueLasts.calls (k : Nat) (a0 : Int) (a1 : Int) (r : Bool) (w : World) (hG : Go.Proofs.YthokfepglahgpaaDoor.M.Laid w) (h : arrearslaw07_DueLasts.f k a0 a1 = some r) (hr : r = true) :
    Calls Tryd.prog 3 #[.int .i32 a0, .int .u16 a1] w fun e w' => e = .returned (.bool r) ∧ Below w.heap.size w w' := by
  have hu30 := Tryd.underlying30
  have hu26 := Tryd.underlying26
  have hu45 := Tryd.underlying45
  have HB := Aside0.mk (Below.refl w.heap.size w)
  have HG := Aside0.mk hG
  clear hG
  have HR := Aside0.mk hr
  clear hr
  have H : ((arrearslaw07_awake.f k).bind fun t158 => (if t158 = true then ((due_Plain.f k a0 (wrap64 (Int.tmod a1 481))).bind fun bt159 => ((date_Day_Civil.f k a0).bind fun bt161 => (if bt159.2.isNone = true then (if bt161.2.2.2.isNone = true then (arrearslaw07_DueLasts.j0 k bt159.1 none false bt161.1 bt161.2.1 bt161.2.2.1) else (arrearslaw07_DueLasts.j0 k bt159.1 none true bt161.1 bt161.2.1 bt161.2.2.1)) else (arrearslaw07_DueLasts.j0 k bt159.1 (some (bt159.2.getD 0)) true bt161.1 bt161.2.1 bt161.2.2.1)))) else (some false))) = some r := h
  clear h
  replace H := Option.bind_eq_some_iff.mp H
  obtain ⟨t158, A30, H⟩ := H
  replace H : (if t158 = true then ((due_Plain.f k a0 (wrap64 (Int.tmod a1 481))).bind fun bt159 => ((date_Day_Civil.f k a0).bind fun bt161 => (if bt159.2.isNone = true then (if bt161.2.2.2.isNone = true then (arrearslaw07_DueLasts.j0 k bt159.1 none false bt161.1 bt161.2.1 bt161.2.2.1) else (arrearslaw07_DueLasts.j0 k bt159.1 none true bt161.1 bt161.2.1 bt161.2.2.1)) else (arrearslaw07_DueLasts.j0 k bt159.1 (some (bt159.2.getD 0)) true bt161.1 bt161.2.1 bt161.2.2.1)))) else (some false)) = some r := H
  have A3 := Aside0.mk A30
  clear A30
  by_cases c4 : t158 = true
  · subst c4
    have H1 : ((due_Plain.f k a0 (wrap64 (Int.tmod a1 481))).bind fun bt159 => ((date_Day_Civil.f k a0).bind fun bt161 => (if bt159.2.isNone = true then (if bt161.2.2.2.isNone = true then (arrearslaw07_DueLasts.j0 k bt159.1 none false bt161.1 bt161.2.1 bt161.2.2.1) else (arrearslaw07_DueLasts.j0 k bt159.1 none true bt161.1 bt161.2.1 bt161.2.2.1)) else (arrearslaw07_DueLasts.j0 k bt159.1 (some (bt159.2.getD 0)) true bt161.1 bt161.2.1 bt161.2.2.1)))) = some r := by rw [if_pos rfl] at H; exact H
    clear H
    have H := H1
    clear H1
    replace H := Option.bind_eq_some_iff.mp H
    obtain ⟨⟨t159, t160⟩, A50, H⟩ := H
    replace H : ((date_Day_Civil.f k a0).bind fun bt161 => (if t160.isNone = true then (if bt161.2.2.2.isNone = true then (arrearslaw07_DueLasts.j0 k t159 none false bt161.1 bt161.2.1 bt161.2.2.1) else (arrearslaw07_DueLasts.j0 k t159 none true bt161.1 bt161.2.1 bt161.2.2.1)) else (arrearslaw07_DueLasts.j0 k t159 (some (t160.getD 0)) true bt161.1 bt161.2.1 bt161.2.2.1))) = some r := H
    have A5 := Aside0.mk A50
    clear A50
    replace H := Option.bind_eq_some_iff.mp H
    obtain ⟨⟨t161, t162, t163, t164⟩, A60, H⟩ := H
    replace H : (if t160.isNone = true then (if t164.isNone = true then (arrearslaw07_DueLasts.j0 k t159 none false t161 t162 t163) else (arrearslaw07_DueLasts.j0 k t159 none true t161 t162 t163)) else (arrearslaw07_DueLasts.j0 k t159 (some (t160.getD 0)) true t161 t162 t163)) = some r := H
    have A6 := Aside0.mk A60
    clear A60
    have HC7 := Aside0.mk H
    clear H
    go_enter Tryd.func3, Tryd.ntmps3
    go_upto_region 6 with (first | ((with_reducible refine gate_callee (f := 9) rfl ?_); refine goesL_ (some 12) rfl rfl Tryd.func9 (by kernel_rfl) rfl #[] rfl (by (try simp only [List.map_toArray, List.map_cons, List.map_nil]); first | done | rfl | (simp only [List.length_drop, List.length_take]; rfl)) ?_; (with_reducible refine (arrearslaw07_awake.calls k  true _ ?hGL A3.out).mono ?_); (case hGL => exact Go.Proofs.YthokfepglahgpaaDoor.M.Laid.below HG.out (by repeat (first | (with_reducible first | exact HB.out | apply below_alloc | apply pw_below_drewN | apply below_drew1) | exact HB.out))); rintro e w8 ⟨rfl, hb⟩; refine ⟨_, rfl, ?_⟩; have n0_ := Aside0.mk (below_step (by repeat (first | (with_reducible first | exact HB.out | apply below_alloc | apply pw_below_drewN | apply below_drew1) | exact HB.out)) hb); clear HB; have HB := n0_; clear n0_; (try clear hb); (try clear hb2); (try clear hk); (try clear hi)) | ((with_reducible refine gate_callee (f := 10) rfl ?_); refine goesL_ (some 20) rfl rfl Tryd.func10 (by kernel_rfl) rfl #[.int .i32 a0, .int .i64 (wrap64 (Int.tmod a1 481))] rfl (by (try simp only [List.map_toArray, List.map_cons, List.map_nil]); first | done | rfl | (simp only [List.length_drop, List.length_take]; rfl)) ?_; (with_reducible refine (due_Plain.calls k a0 (wrap64 (Int.tmod a1 481)) t159 t160 _ A5.out).mono ?_); rintro e w9 ⟨rfl, hb⟩; refine ⟨_, rfl, ?_⟩; have n0_ := Aside0.mk (below_step (by repeat (first | (with_reducible first | exact HB.out | apply below_alloc | apply pw_below_drewN | apply below_drew1) | exact HB.out)) hb); clear HB; have HB := n0_; clear n0_; (try clear hb); (try clear hb2); (try clear hk); (try clear hi); (try simp only [errW_none, errW_some])) | ((with_reducible refine gate_callee (f := 11) rfl ?_); refine goesL_ (some 25) rfl rfl Tryd.func11 (by kernel_rfl) rfl #[.int .i32 a0] rfl (by (try simp only [List.map_toArray, List.map_cons, List.map_nil]); first | done | rfl | (simp only [List.length_drop, List.length_take]; rfl)) ?_; (with_reducible refine (date_Day_Civil.calls k a0 t161 t162 t163 t164 _ A6.out).mono ?_); rintro e w10 ⟨rfl, hb⟩; refine ⟨_, rfl, ?_⟩; have n0_ := Aside0.mk (below_step (by repeat (first | (with_reducible first | exact HB.out | apply below_alloc | apply pw_below_drewN | apply below_drew1) | exact HB.out)) hb); clear HB; have HB := n0_; clear n0_; (try clear hb); (try clear hb2); (try clear hk); (try clear hi); (try simp only [errW_none, errW_some])) | ((with_reducible refine gate_dst (N := 8) rfl ?_); refine box_event ?hg (N := 8) ?hd (cs := #[.int .i64 0, .int .i64 0, .int .i64 0]) (t := 30) ?hr ?_; (case hd => rfl); (case hg => rfl); (case hr => first | (go_simp; done) | (go_simp; rfl)); intro gb165 hg w11 hbox hb; have n0_ := Aside0.mk (below_step (by repeat (first | (with_reducible first | exact HB.out | apply below_alloc | apply pw_below_drewN | apply below_drew1) | exact HB.out)) hb); have n1_ := Aside0.mk (hbox); have n2_ := Aside0.mk ((by rw [hg]; exact (below_size (by repeat (first | (with_reducible first | exact HB.out | apply below_alloc | apply pw_below_drewN | apply below_drew1) | exact HB.out))) : w.heap.size ≤ gb165)); have n3_ := Aside0.mk ((by rw [hg]; exact (below_size (by repeat (first | (with_reducible first | exact HB.out | apply below_alloc | apply pw_below_drewN | apply below_drew1) | exact HB.out))) : w.heap.size ≤ gb165)); clear HB; have HB := n0_; have BK165 := n1_; have GW165 := n2_; have GE165 := n3_; clear n0_ n1_ n2_ n3_; clear hb hbox hg; have hcz12_0 : w11.cell? ⟨gb165, 0, none⟩ = some (.int .i64 0) := (blk_cell BK165.out 0).trans rfl; have hcz12_1 : w11.cell? ⟨gb165, 1, none⟩ = some (.int .i64 0) := (blk_cell BK165.out 1).trans rfl; have hcz12_2 : w11.cell? ⟨gb165, 2, none⟩ = some (.int .i64 0) := (blk_cell BK165.out 2).trans rfl; have hfz12_0 := blk_frozen BK165.out 0; have hfz12_1 := blk_frozen BK165.out 1; have hfz12_2 := blk_frozen BK165.out 2))
    (try simp only [Act.put, List.setIfInBounds_toArray, List.set_cons_zero, List.set_cons_succ])
    go_cut [33] (fun v33 wc => ∃ (kq : Nat) (x33_6 : Bool), v33 = .bool x33_6 ∧ Aside0 (arrearslaw07_DueLasts.j0 kq t159 t160 x33_6 t161 t162 t163 = some r) ∧ Aside0 (kq ≤ k) ∧ Aside0 (wc.heap[gb165]? = some (.cells #[.int .i64 t161, .int .i64 t162, .int .i64 t163] 30 (0, 0))) ∧ Aside0 (Below w.heap.size w wc))
    case first =>
      have H := HC7.out
      clear HC7
      rcases t160 with _ | q166
      · have H1 : (if t164.isNone = true then (arrearslaw07_DueLasts.j0 k t159 none false t161 t162 t163) else (arrearslaw07_DueLasts.j0 k t159 none true t161 t162 t163)) = some r := by rw [if_pos (show (none : Option Int).isNone = true by rfl)] at H; exact H
        clear H
        have H := H1
        clear H1
        try simp only [errW_none, errW_some]
        rcases t164 with _ | q167
        · have H1 : (arrearslaw07_DueLasts.j0 k t159 none false t161 t162 t163) = some r := by rw [if_pos (show (none : Option Int).isNone = true by rfl)] at H; exact H
          clear H
          have H := H1
          clear H1
          try simp only [errW_none, errW_some]
          have H' := Aside0.mk H
          clear H
          go_wp2
          go_meet
          case rel => exact ⟨_, (false), (by first | rfl | (simp; done) | (simp [*]; done) | (exfalso; simp at *; omega)), H', ⟨by first | omega | exact Nat.le_refl _⟩, ⟨by (with_reducible repeat (first | refine blk_drewN ?_ _ | refine blk_drew ?_ | refine blk_alloc ?_ _)); refine blk_put (cs := #[.int .i64 t161, .int .i64 t162, .int .i64 0]) ?_ 2 _ rfl; (with_reducible repeat (first | refine blk_drewN ?_ _ | refine blk_drew ?_ | refine blk_alloc ?_ _)); refine blk_put (cs := #[.int .i64 t161, .int .i64 0, .int .i64 0]) ?_ 1 _ rfl; (with_reducible repeat (first | refine blk_drewN ?_ _ | refine blk_drew ?_ | refine blk_alloc ?_ _)); refine blk_put (cs := #[.int .i64 0, .int .i64 0, .int .i64 0]) ?_ 0 _ rfl; (with_reducible repeat (first | refine blk_drewN ?_ _ | refine blk_drew ?_ | refine blk_alloc ?_ _)); exact BK165.out⟩, ⟨by repeat (first | (with_reducible first | exact HB.out | apply below_alloc | apply pw_below_drewN | apply below_drew1 | refine below_set ?_ GE165.out) | exact HB.out)⟩⟩
        · have H1 : (arrearslaw07_DueLasts.j0 k t159 none true t161 t162 t163) = some r := by rw [if_neg (show ¬ (some q167).isNone = true by simp)] at H; exact H
          clear H
          have H := H1
          clear H1
          try simp only [errW_none, errW_some]
          have H' := Aside0.mk H
          clear H
          go_wp2
          go_meet
          case rel => exact ⟨_, (true), (by first | rfl | (simp; done) | (simp [*]; done) | (exfalso; simp at *; omega)), H', ⟨by first | omega | exact Nat.le_refl _⟩, ⟨by (with_reducible repeat (first | refine blk_drewN ?_ _ | refine blk_drew ?_ | refine blk_alloc ?_ _)); refine blk_put (cs := #[.int .i64 t161, .int .i64 t162, .int .i64 0]) ?_ 2 _ rfl; (with_reducible repeat (first | refine blk_drewN ?_ _ | refine blk_drew ?_ | refine blk_alloc ?_ _)); refine blk_put (cs := #[.int .i64 t161, .int .i64 0, .int .i64 0]) ?_ 1 _ rfl; (with_reducible repeat (first | refine blk_drewN ?_ _ | refine blk_drew ?_ | refine blk_alloc ?_ _)); refine blk_put (cs := #[.int .i64 0, .int .i64 0, .int .i64 0]) ?_ 0 _ rfl; (with_reducible repeat (first | refine blk_drewN ?_ _ | refine blk_drew ?_ | refine blk_alloc ?_ _)); exact BK165.out⟩, ⟨by repeat (first | (with_reducible first | exact HB.out | apply below_alloc | apply pw_below_drewN | apply below_drew1 | refine below_set ?_ GE165.out) | exact HB.out)⟩⟩
      · have H1 : (arrearslaw07_DueLasts.j0 k t159 (some q166) true t161 t162 t163) = some r := by rw [if_neg (show ¬ (some q166).isNone = true by simp)] at H; exact H
        clear H
        have H := H1
        clear H1
        try simp only [errW_none, errW_some]
        have H' := Aside0.mk H
        clear H
        go_wp2
        go_meet
        case rel => exact ⟨_, (true), (by first | rfl | (simp; done) | (simp [*]; done) | (exfalso; simp at *; omega)), H', ⟨by first | omega | exact Nat.le_refl _⟩, ⟨by (with_reducible repeat (first | refine blk_drewN ?_ _ | refine blk_drew ?_ | refine blk_alloc ?_ _)); refine blk_put (cs := #[.int .i64 t161, .int .i64 t162, .int .i64 0]) ?_ 2 _ rfl; (with_reducible repeat (first | refine blk_drewN ?_ _ | refine blk_drew ?_ | refine blk_alloc ?_ _)); refine blk_put (cs := #[.int .i64 t161, .int .i64 0, .int .i64 0]) ?_ 1 _ rfl; (with_reducible repeat (first | refine blk_drewN ?_ _ | refine blk_drew ?_ | refine blk_alloc ?_ _)); refine blk_put (cs := #[.int .i64 0, .int .i64 0, .int .i64 0]) ?_ 0 _ rfl; (with_reducible repeat (first | refine blk_drewN ?_ _ | refine blk_drew ?_ | refine blk_alloc ?_ _)); exact BK165.out⟩, ⟨by repeat (first | (with_reducible first | exact HB.out | apply below_alloc | apply pw_below_drewN | apply below_drew1 | refine below_set ?_ GE165.out) | exact HB.out)⟩⟩
    case rest =>
      clear HC7
      try clear c1
      try clear q1
      try clear p2
      try clear c3
      try clear c4
      try clear p6
      try clear c9
      try clear c10
      try clear c11
      try clear hcz12_0
      try clear hcz12_1
      try clear hcz12_2
      try clear hfz12_0
      try clear hfz12_1
      try clear hfz12_2
      try clear q166
      try clear q167
      obtain ⟨kq, x33_6, rfl, HA, HJ6, BK165, HB⟩ := hcut
      cases kq with
      | zero => exact absurd HA.out (by simp [arrearslaw07_DueLasts.j0])
      | succ kj6 =>
        have H := HA.out
        clear HA
        simp only [arrearslaw07_DueLasts.j0] at H
        by_cases c13 : x33_6 = true
        · subst c13
          have H1 : (if t160.isNone = true then (some false) else (some true)) = some r := by rw [if_pos rfl] at H; exact H
          clear H
          have H := H1
          clear H1
          rcases t160 with _ | q168
          · have H1 : (some false) = some r := by rw [if_pos (show (none : Option Int).isNone = true by rfl)] at H; exact H
            clear H
            have H := H1
            clear H1
            try simp only [errW_none, errW_some]
            exact absurd (H.trans (congrArg some HR.out)) (by simp)
          · have H1 : (some true) = some r := by rw [if_neg (show ¬ (some q168).isNone = true by simp)] at H; exact H
            clear H
            have H := H1
            clear H1
            try simp only [errW_none, errW_some]
            obtain rfl := Option.some.inj H
            go_wp2
            go_ret
            exact ⟨by first | rfl | (simp [errW_none, errW_some] <;> rfl) | (simp [*, errW_none, errW_some] <;> rfl), by repeat (first | (with_reducible first | exact HB.out | apply below_alloc | apply pw_below_drewN | apply below_drew1 | refine below_set ?_ GE165.out) | exact HB.out)⟩
        · replace c13 := Bool.eq_false_iff.mpr c13
          subst c13
          have H1 : ((date_Day_Civil.f kj6 t159).bind fun bt169 => ((date_Civil_Last.f kj6 t161 t162 t163).bind fun t174 => (if t174 = true then (if bt169.2.2.2.isNone = true then ((date_Civil_Last.f kj6 bt169.1 bt169.2.1 bt169.2.2.1).bind fun t176 => (some t176)) else (some false)) else (if t163 ≤ 28 then (if bt169.2.2.2.isNone = true then (some (bt169.2.2.1 == t163)) else (some false)) else (if bt169.2.2.2.isNone = true then (if bt169.2.2.1 = t163 then (some true) else ((date_Civil_Last.f kj6 bt169.1 bt169.2.1 bt169.2.2.1).bind fun t179 => (if t179 = true then (some (decide (bt169.2.2.1 < t163))) else (some false)))) else (some false)))))) = some r := by rw [if_neg (show ¬ (false = true) by decide)] at H; exact H
          clear H
          have H := H1
          clear H1
          replace H := Option.bind_eq_some_iff.mp H
          obtain ⟨⟨t169, t170, t171, t172⟩, A140, H⟩ := H
          replace H : ((date_Civil_Last.f kj6 t161 t162 t163).bind fun t174 => (if t174 = true then (if t172.isNone = true then ((date_Civil_Last.f kj6 t169 t170 t171).bind fun t176 => (some t176)) else (some false)) else (if t163 ≤ 28 then (if t172.isNone = true then (some (t171 == t163)) else (some false)) else (if t172.isNone = true then (if t171 = t163 then (some true) else ((date_Civil_Last.f kj6 t169 t170 t171).bind fun t179 => (if t179 = true then (some (decide (t171 < t163))) else (some false)))) else (some false))))) = some r := H
          have A14 := Aside0.mk A140
          clear A140
          replace H := Option.bind_eq_some_iff.mp H
          obtain ⟨t174, A150, H⟩ := H
          replace H : (if t174 = true then (if t172.isNone = true then ((date_Civil_Last.f kj6 t169 t170 t171).bind fun t176 => (some t176)) else (some false)) else (if t163 ≤ 28 then (if t172.isNone = true then (some (t171 == t163)) else (some false)) else (if t172.isNone = true then (if t171 = t163 then (some true) else ((date_Civil_Last.f kj6 t169 t170 t171).bind fun t179 => (if t179 = true then (some (decide (t171 < t163))) else (some false)))) else (some false)))) = some r := H
          have A15 := Aside0.mk A150
          clear A150
          by_cases c16 : t174 = true
          · subst c16
            have H1 : (if t172.isNone = true then ((date_Civil_Last.f kj6 t169 t170 t171).bind fun t176 => (some t176)) else (some false)) = some r := by rw [if_pos rfl] at H; exact H
            clear H
            have H := H1
            clear H1
            rcases t172 with _ | q175
            · have H1 : ((date_Civil_Last.f kj6 t169 t170 t171).bind fun t176 => (some t176)) = some r := by rw [if_pos (show (none : Option Int).isNone = true by rfl)] at H; exact H
              clear H
              have H := H1
              clear H1
              try simp only [errW_none, errW_some]
              replace H := Option.bind_eq_some_iff.mp H
              obtain ⟨t176, A170, H⟩ := H
              replace H : (some t176) = some r := H
              have A17 := Aside0.mk A170
              clear A170
              obtain rfl := Option.some.inj H
              go_wp2_with (first | ((with_reducible refine gate_callee (f := 11) rfl ?_); refine goesL_ (some 38) rfl rfl Tryd.func11 (by kernel_rfl) rfl #[.int .i32 t159] rfl (by (try simp only [List.map_toArray, List.map_cons, List.map_nil]); first | done | rfl | (simp only [List.length_drop, List.length_take]; rfl)) ?_; (with_reducible refine (date_Day_Civil.calls kj6 t159 t169 t170 t171 none _ A14.out).mono ?_); rintro e w18 ⟨rfl, hb⟩; refine ⟨_, rfl, ?_⟩; have n0_ := Aside0.mk (blk_below (g := gb165) (o := .cells #[.int .i64 t161, .int .i64 t162, .int .i64 t163] 30 (0, 0)) (by (with_reducible repeat (first | refine blk_drewN ?_ _ | refine blk_drew ?_ | refine blk_alloc ?_ _)); exact BK165.out) hb); have n1_ := Aside0.mk (below_step (by repeat (first | (with_reducible first | exact HB.out | apply below_alloc | apply pw_below_drewN | apply below_drew1 | refine below_set ?_ GE165.out) | exact HB.out)) hb); clear BK165; clear HB; have BK165 := n0_; have HB := n1_; clear n0_ n1_; (try clear hb); (try clear hb2); (try clear hk); (try clear hi); (try simp only [errW_none, errW_some])) | ((with_reducible refine gate_dst (N := 10) rfl ?_); refine box_event ?hg (N := 10) ?hd (cs := #[.int .i64 0, .int .i64 0, .int .i64 0]) (t := 30) ?hr ?_; (case hd => rfl); (case hg => rfl); (case hr => first | (go_simp; done) | (go_simp; rfl)); intro gb173 hg w19 hbox hb; have n0_ := Aside0.mk (blk_below (g := gb165) (o := .cells #[.int .i64 t161, .int .i64 t162, .int .i64 t163] 30 (0, 0)) (by (with_reducible repeat (first | refine blk_drewN ?_ _ | refine blk_drew ?_ | refine blk_alloc ?_ _)); exact BK165.out) hb); have n1_ := Aside0.mk (below_step (by repeat (first | (with_reducible first | exact HB.out | apply below_alloc | apply pw_below_drewN | apply below_drew1 | refine below_set ?_ GE165.out) | exact HB.out)) hb); have n2_ := Aside0.mk (hbox); have n3_ := Aside0.mk ((by rw [hg]; exact (below_size (by repeat (first | (with_reducible first | exact HB.out | apply below_alloc | apply pw_below_drewN | apply below_drew1 | refine below_set ?_ GE165.out) | exact HB.out))) : w.heap.size ≤ gb173)); have n4_ := Aside0.mk ((by rw [hg]; exact (below_size (by repeat (first | (with_reducible first | exact HB.out | apply below_alloc | apply pw_below_drewN | apply below_drew1 | refine below_set ?_ GE165.out) | exact HB.out))) : w.heap.size ≤ gb173)); have n5_ := Aside0.mk ((by rw [hg]; exact Nat.ne_of_lt (blk_lt (g := gb165) (o := .cells #[.int .i64 t161, .int .i64 t162, .int .i64 t163] 30 (0, 0)) (by (with_reducible repeat (first | refine blk_drewN ?_ _ | refine blk_drew ?_ | refine blk_alloc ?_ _)); exact BK165.out)) : gb165 ≠ gb173)); have n6_ := Aside0.mk ((by rw [hg]; exact Nat.ne_of_gt (blk_lt (g := gb165) (o := .cells #[.int .i64 t161, .int .i64 t162, .int .i64 t163] 30 (0, 0)) (by (with_reducible repeat (first | refine blk_drewN ?_ _ | refine blk_drew ?_ | refine blk_alloc ?_ _)); exact BK165.out)) : gb173 ≠ gb165)); clear BK165; clear HB; have BK165 := n0_; have HB := n1_; have BK173 := n2_; have GW173 := n3_; have GE173 := n4_; have NB165_173 := n5_; have NB173_165 := n6_; clear n0_ n1_ n2_ n3_ n4_ n5_ n6_; clear hb hbox hg; have hnb20 := NB173_165.out; have hnc20 := NB165_173.out; have hcz21_0 : w19.cell? ⟨gb173, 0, none⟩ = some (.int .i64 0) := (blk_cell BK173.out 0).trans rfl; have hcz21_1 : w19.cell? ⟨gb173, 1, none⟩ = some (.int .i64 0) := (blk_cell BK173.out 1).trans rfl; have hcz21_2 : w19.cell? ⟨gb173, 2, none⟩ = some (.int .i64 0) := (blk_cell BK173.out 2).trans rfl; have hfz21_0 := blk_frozen BK173.out 0; have hfz21_1 := blk_frozen BK173.out 1; have hfz21_2 := blk_frozen BK173.out 2; have hcz22_0 : w19.cell? ⟨gb165, 0, none⟩ = some (.int .i64 t161) := (blk_cell BK165.out 0).trans rfl; have hcz22_1 : w19.cell? ⟨gb165, 1, none⟩ = some (.int .i64 t162) := (blk_cell BK165.out 1).trans rfl; have hcz22_2 : w19.cell? ⟨gb165, 2, none⟩ = some (.int .i64 t163) := (blk_cell BK165.out 2).trans rfl; have hfz22_0 := blk_frozen BK165.out 0; have hfz22_1 := blk_frozen BK165.out 1; have hfz22_2 := blk_frozen BK165.out 2) | ((with_reducible refine gate_callee (f := 12) rfl ?_); refine goesL_ (some 43) rfl rfl Tryd.func12 (by kernel_rfl) rfl #[.agg #[.int .i64 t161, .int .i64 t162, .int .i64 t163]] rfl (by (try simp only [List.map_toArray, List.map_cons, List.map_nil]); first | done | rfl | (simp only [List.length_drop, List.length_take]; rfl)) ?_; (with_reducible refine (date_Civil_Last.calls kj6 t161 t162 t163 true _ A15.out).mono ?_); rintro e w23 ⟨rfl, hb⟩; refine ⟨_, rfl, ?_⟩; have n0_ := Aside0.mk (blk_below (g := gb165) (o := .cells #[.int .i64 t161, .int .i64 t162, .int .i64 t163] 30 (0, 0)) (by (with_reducible repeat (first | refine blk_drewN ?_ _ | refine blk_drew ?_ | refine blk_alloc ?_ _)); refine blk_far ?_ NB165_173.out _; (with_reducible repeat (first | refine blk_drewN ?_ _ | refine blk_drew ?_ | refine blk_alloc ?_ _)); refine blk_far ?_ NB165_173.out _; (with_reducible repeat (first | refine blk_drewN ?_ _ | refine blk_drew ?_ | refine blk_alloc ?_ _)); refine blk_far ?_ NB165_173.out _; (with_reducible repeat (first | refine blk_drewN ?_ _ | refine blk_drew ?_ | refine blk_alloc ?_ _)); exact BK165.out) hb); have n1_ := Aside0.mk (blk_below (g := gb173) (o := .cells #[.int .i64 t169, .int .i64 t170, .int .i64 t171] 30 (0, 0)) (by (with_reducible repeat (first | refine blk_drewN ?_ _ | refine blk_drew ?_ | refine blk_alloc ?_ _)); refine blk_put (cs := #[.int .i64 t169, .int .i64 t170, .int .i64 0]) ?_ 2 _ rfl; (with_reducible repeat (first | refine blk_drewN ?_ _ | refine blk_drew ?_ | refine blk_alloc ?_ _)); refine blk_put (cs := #[.int .i64 t169, .int .i64 0, .int .i64 0]) ?_ 1 _ rfl; (with_reducible repeat (first | refine blk_drewN ?_ _ | refine blk_drew ?_ | refine blk_alloc ?_ _)); refine blk_put (cs := #[.int .i64 0, .int .i64 0, .int .i64 0]) ?_ 0 _ rfl; (with_reducible repeat (first | refine blk_drewN ?_ _ | refine blk_drew ?_ | refine blk_alloc ?_ _)); exact BK173.out) hb); have n2_ := Aside0.mk (below_step (by repeat (first | (with_reducible first | exact HB.out | apply below_alloc | apply pw_below_drewN | apply below_drew1 | refine below_set ?_ GE165.out | refine below_set ?_ GE173.out) | exact HB.out)) hb); clear BK165; clear BK173; clear HB; have BK165 := n0_; have BK173 := n1_; have HB := n2_; clear n0_ n1_ n2_; (try clear hb); (try clear hb2); (try clear hk); (try clear hi); have hcz24_0 : w23.cell? ⟨gb173, 0, none⟩ = some (.int .i64 t169) := (blk_cell BK173.out 0).trans rfl; have hcz24_1 : w23.cell? ⟨gb173, 1, none⟩ = some (.int .i64 t170) := (blk_cell BK173.out 1).trans rfl; have hcz24_2 : w23.cell? ⟨gb173, 2, none⟩ = some (.int .i64 t171) := (blk_cell BK173.out 2).trans rfl; have hfz24_0 := blk_frozen BK173.out 0; have hfz24_1 := blk_frozen BK173.out 1; have hfz24_2 := blk_frozen BK173.out 2) | (go_at_call 12; (with_reducible refine (date_Civil_Last.calls kj6 t169 t170 t171 t176 _ A17.out).mono ?_); rintro e w25 ⟨rfl, hb⟩; have n0_ := Aside0.mk (blk_below (g := gb165) (o := .cells #[.int .i64 t161, .int .i64 t162, .int .i64 t163] 30 (0, 0)) (by (with_reducible repeat (first | refine blk_drewN ?_ _ | refine blk_drew ?_ | refine blk_alloc ?_ _)); exact BK165.out) hb); have n1_ := Aside0.mk (blk_below (g := gb173) (o := .cells #[.int .i64 t169, .int .i64 t170, .int .i64 t171] 30 (0, 0)) (by (with_reducible repeat (first | refine blk_drewN ?_ _ | refine blk_drew ?_ | refine blk_alloc ?_ _)); exact BK173.out) hb); have n2_ := Aside0.mk (below_step (by repeat (first | (with_reducible first | exact HB.out | apply below_alloc | apply pw_below_drewN | apply below_drew1 | refine below_set ?_ GE165.out | refine below_set ?_ GE173.out) | exact HB.out)) hb); clear BK165; clear BK173; clear HB; have BK165 := n0_; have BK173 := n1_; have HB := n2_; clear n0_ n1_ n2_; (try clear hb); (try clear hb2); (try clear hk); (try clear hi)))
              go_ret
              exact ⟨by first | rfl | (simp [errW_none, errW_some] <;> rfl) | (simp [*, errW_none, errW_some] <;> rfl), by repeat (first | (with_reducible first | exact HB.out | apply below_alloc | apply pw_below_drewN | apply below_drew1 | refine below_set ?_ GE165.out | refine below_set ?_ GE173.out) | exact HB.out)⟩
            · have H1 : (some false) = some r := by rw [if_neg (show ¬ (some q175).isNone = true by simp)] at H; exact H
              clear H
              have H := H1
              clear H1
              try simp only [errW_none, errW_some]
              exact absurd (H.trans (congrArg some HR.out)) (by simp)
          · replace c16 := Bool.eq_false_iff.mpr c16
            subst c16
            have H1 : (if t163 ≤ 28 then (if t172.isNone = true then (some (t171 == t163)) else (some false)) else (if t172.isNone = true then (if t171 = t163 then (some true) else ((date_Civil_Last.f kj6 t169 t170 t171).bind fun t179 => (if t179 = true then (some (decide (t171 < t163))) else (some false)))) else (some false))) = some r := by rw [if_neg (show ¬ (false = true) by decide)] at H; exact H
            clear H
            have H := H1
            clear H1
            by_cases c32 : t163 ≤ 28
            · rw [if_pos c32] at H
              have c32b0 : decide (t163 ≤ 28) = true := decide_eq_true c32
              clear c32
              rcases t172 with _ | q177
              · have H1 : (some (t171 == t163)) = some r := by rw [if_pos (show (none : Option Int).isNone = true by rfl)] at H; exact H
                clear H
                have H := H1
                clear H1
                try simp only [errW_none, errW_some]
                obtain rfl := Option.some.inj H
                go_wp2_with (first | ((with_reducible refine gate_callee (f := 11) rfl ?_); refine goesL_ (some 38) rfl rfl Tryd.func11 (by kernel_rfl) rfl #[.int .i32 t159] rfl (by (try simp only [List.map_toArray, List.map_cons, List.map_nil]); first | done | rfl | (simp only [List.length_drop, List.length_take]; rfl)) ?_; (with_reducible refine (date_Day_Civil.calls kj6 t159 t169 t170 t171 none _ A14.out).mono ?_); rintro e w33 ⟨rfl, hb⟩; refine ⟨_, rfl, ?_⟩; have n0_ := Aside0.mk (blk_below (g := gb165) (o := .cells #[.int .i64 t161, .int .i64 t162, .int .i64 t163] 30 (0, 0)) (by (with_reducible repeat (first | refine blk_drewN ?_ _ | refine blk_drew ?_ | refine blk_alloc ?_ _)); exact BK165.out) hb); have n1_ := Aside0.mk (below_step (by repeat (first | (with_reducible first | exact HB.out | apply below_alloc | apply pw_below_drewN | apply below_drew1 | refine below_set ?_ GE165.out) | exact HB.out)) hb); clear BK165; clear HB; have BK165 := n0_; have HB := n1_; clear n0_ n1_; (try clear hb); (try clear hb2); (try clear hk); (try clear hi); (try simp only [errW_none, errW_some])) | ((with_reducible refine gate_dst (N := 10) rfl ?_); refine box_event ?hg (N := 10) ?hd (cs := #[.int .i64 0, .int .i64 0, .int .i64 0]) (t := 30) ?hr ?_; (case hd => rfl); (case hg => rfl); (case hr => first | (go_simp; done) | (go_simp; rfl)); intro gb173 hg w34 hbox hb; have n0_ := Aside0.mk (blk_below (g := gb165) (o := .cells #[.int .i64 t161, .int .i64 t162, .int .i64 t163] 30 (0, 0)) (by (with_reducible repeat (first | refine blk_drewN ?_ _ | refine blk_drew ?_ | refine blk_alloc ?_ _)); exact BK165.out) hb); have n1_ := Aside0.mk (below_step (by repeat (first | (with_reducible first | exact HB.out | apply below_alloc | apply pw_below_drewN | apply below_drew1 | refine below_set ?_ GE165.out) | exact HB.out)) hb); have n2_ := Aside0.mk (hbox); have n3_ := Aside0.mk ((by rw [hg]; exact (below_size (by repeat (first | (with_reducible first | exact HB.out | apply below_alloc | apply pw_below_drewN | apply below_drew1 | refine below_set ?_ GE165.out) | exact HB.out))) : w.heap.size ≤ gb173)); have n4_ := Aside0.mk ((by rw [hg]; exact (below_size (by repeat (first | (with_reducible first | exact HB.out | apply below_alloc | apply pw_below_drewN | apply below_drew1 | refine below_set ?_ GE165.out) | exact HB.out))) : w.heap.size ≤ gb173)); have n5_ := Aside0.mk ((by rw [hg]; exact Nat.ne_of_lt (blk_lt (g := gb165) (o := .cells #[.int .i64 t161, .int .i64 t162, .int .i64 t163] 30 (0, 0)) (by (with_reducible repeat (first | refine blk_drewN ?_ _ | refine blk_drew ?_ | refine blk_alloc ?_ _)); exact BK165.out)) : gb165 ≠ gb173)); have n6_ := Aside0.mk ((by rw [hg]; exact Nat.ne_of_gt (blk_lt (g := gb165) (o := .cells #[.int .i64 t161, .int .i64 t162, .int .i64 t163] 30 (0, 0)) (by (with_reducible repeat (first | refine blk_drewN ?_ _ | refine blk_drew ?_ | refine blk_alloc ?_ _)); exact BK165.out)) : gb173 ≠ gb165)); clear BK165; clear HB; have BK165 := n0_; have HB := n1_; have BK173 := n2_; have GW173 := n3_; have GE173 := n4_; have NB165_173 := n5_; have NB173_165 := n6_; clear n0_ n1_ n2_ n3_ n4_ n5_ n6_; clear hb hbox hg; have hnb35 := NB173_165.out; have hnc35 := NB165_173.out; have hcz36_0 : w34.cell? ⟨gb173, 0, none⟩ = some (.int .i64 0) := (blk_cell BK173.out 0).trans rfl; have hcz36_1 : w34.cell? ⟨gb173, 1, none⟩ = some (.int .i64 0) := (blk_cell BK173.out 1).trans rfl; have hcz36_2 : w34.cell? ⟨gb173, 2, none⟩ = some (.int .i64 0) := (blk_cell BK173.out 2).trans rfl; have hfz36_0 := blk_frozen BK173.out 0; have hfz36_1 := blk_frozen BK173.out 1; have hfz36_2 := blk_frozen BK173.out 2; have hcz37_0 : w34.cell? ⟨gb165, 0, none⟩ = some (.int .i64 t161) := (blk_cell BK165.out 0).trans rfl; have hcz37_1 : w34.cell? ⟨gb165, 1, none⟩ = some (.int .i64 t162) := (blk_cell BK165.out 1).trans rfl; have hcz37_2 : w34.cell? ⟨gb165, 2, none⟩ = some (.int .i64 t163) := (blk_cell BK165.out 2).trans rfl; have hfz37_0 := blk_frozen BK165.out 0; have hfz37_1 := blk_frozen BK165.out 1; have hfz37_2 := blk_frozen BK165.out 2) | ((with_reducible refine gate_callee (f := 12) rfl ?_); refine goesL_ (some 43) rfl rfl Tryd.func12 (by kernel_rfl) rfl #[.agg #[.int .i64 t161, .int .i64 t162, .int .i64 t163]] rfl (by (try simp only [List.map_toArray, List.map_cons, List.map_nil]); first | done | rfl | (simp only [List.length_drop, List.length_take]; rfl)) ?_; (with_reducible refine (date_Civil_Last.calls kj6 t161 t162 t163 false _ A15.out).mono ?_); rintro e w38 ⟨rfl, hb⟩; refine ⟨_, rfl, ?_⟩; have n0_ := Aside0.mk (blk_below (g := gb165) (o := .cells #[.int .i64 t161, .int .i64 t162, .int .i64 t163] 30 (0, 0)) (by (with_reducible repeat (first | refine blk_drewN ?_ _ | refine blk_drew ?_ | refine blk_alloc ?_ _)); refine blk_far ?_ NB165_173.out _; (with_reducible repeat (first | refine blk_drewN ?_ _ | refine blk_drew ?_ | refine blk_alloc ?_ _)); refine blk_far ?_ NB165_173.out _; (with_reducible repeat (first | refine blk_drewN ?_ _ | refine blk_drew ?_ | refine blk_alloc ?_ _)); refine blk_far ?_ NB165_173.out _; (with_reducible repeat (first | refine blk_drewN ?_ _ | refine blk_drew ?_ | refine blk_alloc ?_ _)); exact BK165.out) hb); have n1_ := Aside0.mk (blk_below (g := gb173) (o := .cells #[.int .i64 t169, .int .i64 t170, .int .i64 t171] 30 (0, 0)) (by (with_reducible repeat (first | refine blk_drewN ?_ _ | refine blk_drew ?_ | refine blk_alloc ?_ _)); refine blk_put (cs := #[.int .i64 t169, .int .i64 t170, .int .i64 0]) ?_ 2 _ rfl; (with_reducible repeat (first | refine blk_drewN ?_ _ | refine blk_drew ?_ | refine blk_alloc ?_ _)); refine blk_put (cs := #[.int .i64 t169, .int .i64 0, .int .i64 0]) ?_ 1 _ rfl; (with_reducible repeat (first | refine blk_drewN ?_ _ | refine blk_drew ?_ | refine blk_alloc ?_ _)); refine blk_put (cs := #[.int .i64 0, .int .i64 0, .int .i64 0]) ?_ 0 _ rfl; (with_reducible repeat (first | refine blk_drewN ?_ _ | refine blk_drew ?_ | refine blk_alloc ?_ _)); exact BK173.out) hb); have n2_ := Aside0.mk (below_step (by repeat (first | (with_reducible first | exact HB.out | apply below_alloc | apply pw_below_drewN | apply below_drew1 | refine below_set ?_ GE165.out | refine below_set ?_ GE173.out) | exact HB.out)) hb); clear BK165; clear BK173; clear HB; have BK165 := n0_; have BK173 := n1_; have HB := n2_; clear n0_ n1_ n2_; (try clear hb); (try clear hb2); (try clear hk); (try clear hi); have hcz39_0 : w38.cell? ⟨gb165, 0, none⟩ = some (.int .i64 t161) := (blk_cell BK165.out 0).trans rfl; have hcz39_1 : w38.cell? ⟨gb165, 1, none⟩ = some (.int .i64 t162) := (blk_cell BK165.out 1).trans rfl; have hcz39_2 : w38.cell? ⟨gb165, 2, none⟩ = some (.int .i64 t163) := (blk_cell BK165.out 2).trans rfl; have hfz39_0 := blk_frozen BK165.out 0; have hfz39_1 := blk_frozen BK165.out 1; have hfz39_2 := blk_frozen BK165.out 2; have hcz40_0 : w38.cell? ⟨gb173, 0, none⟩ = some (.int .i64 t169) := (blk_cell BK173.out 0).trans rfl; have hcz40_1 : w38.cell? ⟨gb173, 1, none⟩ = some (.int .i64 t170) := (blk_cell BK173.out 1).trans rfl; have hcz40_2 : w38.cell? ⟨gb173, 2, none⟩ = some (.int .i64 t171) := (blk_cell BK173.out 2).trans rfl; have hfz40_0 := blk_frozen BK173.out 0; have hfz40_1 := blk_frozen BK173.out 1; have hfz40_2 := blk_frozen BK173.out 2))
                go_ret
                exact ⟨by first | rfl | (simp [errW_none, errW_some] <;> rfl) | (simp [*, errW_none, errW_some] <;> rfl), by repeat (first | (with_reducible first | exact HB.out | apply below_alloc | apply pw_below_drewN | apply below_drew1 | refine below_set ?_ GE165.out | refine below_set ?_ GE173.out) | exact HB.out)⟩
              · have H1 : (some false) = some r := by rw [if_neg (show ¬ (some q177).isNone = true by simp)] at H; exact H
                clear H
                have H := H1
                clear H1
                try simp only [errW_none, errW_some]
                exact absurd (H.trans (congrArg some HR.out)) (by simp)
            · rw [if_neg c32] at H
              have c32b0 : decide (t163 ≤ 28) = false := decide_eq_false c32
              clear c32
              rcases t172 with _ | q178
              · have H1 : (if t171 = t163 then (some true) else ((date_Civil_Last.f kj6 t169 t170 t171).bind fun t179 => (if t179 = true then (some (decide (t171 < t163))) else (some false)))) = some r := by rw [if_pos (show (none : Option Int).isNone = true by rfl)] at H; exact H
                clear H
                have H := H1
                clear H1
                try simp only [errW_none, errW_some]
                by_cases c48 : t171 = t163
                · rw [if_pos c48] at H
                  have c48b0 : (t171 == t163) = true := beq_iff_eq.mpr c48
                  have c48b1 : (t171 != t163) = false := bne_eq_false_iff_eq.mpr c48
                  clear c48
                  obtain rfl := Option.some.inj H
                  go_wp2_with (first | ((with_reducible refine gate_callee (f := 11) rfl ?_); refine goesL_ (some 38) rfl rfl Tryd.func11 (by kernel_rfl) rfl #[.int .i32 t159] rfl (by (try simp only [List.map_toArray, List.map_cons, List.map_nil]); first | done | rfl | (simp only [List.length_drop, List.length_take]; rfl)) ?_; (with_reducible refine (date_Day_Civil.calls kj6 t159 t169 t170 t171 none _ A14.out).mono ?_); rintro e w49 ⟨rfl, hb⟩; refine ⟨_, rfl, ?_⟩; have n0_ := Aside0.mk (blk_below (g := gb165) (o := .cells #[.int .i64 t161, .int .i64 t162, .int .i64 t163] 30 (0, 0)) (by (with_reducible repeat (first | refine blk_drewN ?_ _ | refine blk_drew ?_ | refine blk_alloc ?_ _)); exact BK165.out) hb); have n1_ := Aside0.mk (below_step (by repeat (first | (with_reducible first | exact HB.out | apply below_alloc | apply pw_below_drewN | apply below_drew1 | refine below_set ?_ GE165.out) | exact HB.out)) hb); clear BK165; clear HB; have BK165 := n0_; have HB := n1_; clear n0_ n1_; (try clear hb); (try clear hb2); (try clear hk); (try clear hi); (try simp only [errW_none, errW_some])) | ((with_reducible refine gate_dst (N := 10) rfl ?_); refine box_event ?hg (N := 10) ?hd (cs := #[.int .i64 0, .int .i64 0, .int .i64 0]) (t := 30) ?hr ?_; (case hd => rfl); (case hg => rfl); (case hr => first | (go_simp; done) | (go_simp; rfl)); intro gb173 hg w50 hbox hb; have n0_ := Aside0.mk (blk_below (g := gb165) (o := .cells #[.int .i64 t161, .int .i64 t162, .int .i64 t163] 30 (0, 0)) (by (with_reducible repeat (first | refine blk_drewN ?_ _ | refine blk_drew ?_ | refine blk_alloc ?_ _)); exact BK165.out) hb); have n1_ := Aside0.mk (below_step (by repeat (first | (with_reducible first | exact HB.out | apply below_alloc | apply pw_below_drewN | apply below_drew1 | refine below_set ?_ GE165.out) | exact HB.out)) hb); have n2_ := Aside0.mk (hbox); have n3_ := Aside0.mk ((by rw [hg]; exact (below_size (by repeat (first | (with_reducible first | exact HB.out | apply below_alloc | apply pw_below_drewN | apply below_drew1 | refine below_set ?_ GE165.out) | exact HB.out))) : w.heap.size ≤ gb173)); have n4_ := Aside0.mk ((by rw [hg]; exact (below_size (by repeat (first | (with_reducible first | exact HB.out | apply below_alloc | apply pw_below_drewN | apply below_drew1 | refine below_set ?_ GE165.out) | exact HB.out))) : w.heap.size ≤ gb173)); have n5_ := Aside0.mk ((by rw [hg]; exact Nat.ne_of_lt (blk_lt (g := gb165) (o := .cells #[.int .i64 t161, .int .i64 t162, .int .i64 t163] 30 (0, 0)) (by (with_reducible repeat (first | refine blk_drewN ?_ _ | refine blk_drew ?_ | refine blk_alloc ?_ _)); exact BK165.out)) : gb165 ≠ gb173)); have n6_ := Aside0.mk ((by rw [hg]; exact Nat.ne_of_gt (blk_lt (g := gb165) (o := .cells #[.int .i64 t161, .int .i64 t162, .int .i64 t163] 30 (0, 0)) (by (with_reducible repeat (first | refine blk_drewN ?_ _ | refine blk_drew ?_ | refine blk_alloc ?_ _)); exact BK165.out)) : gb173 ≠ gb165)); clear BK165; clear HB; have BK165 := n0_; have HB := n1_; have BK173 := n2_; have GW173 := n3_; have GE173 := n4_; have NB165_173 := n5_; have NB173_165 := n6_; clear n0_ n1_ n2_ n3_ n4_ n5_ n6_; clear hb hbox hg; have hnb51 := NB173_165.out; have hnc51 := NB165_173.out; have hcz52_0 : w50.cell? ⟨gb173, 0, none⟩ = some (.int .i64 0) := (blk_cell BK173.out 0).trans rfl; have hcz52_1 : w50.cell? ⟨gb173, 1, none⟩ = some (.int .i64 0) := (blk_cell BK173.out 1).trans rfl; have hcz52_2 : w50.cell? ⟨gb173, 2, none⟩ = some (.int .i64 0) := (blk_cell BK173.out 2).trans rfl; have hfz52_0 := blk_frozen BK173.out 0; have hfz52_1 := blk_frozen BK173.out 1; have hfz52_2 := blk_frozen BK173.out 2; have hcz53_0 : w50.cell? ⟨gb165, 0, none⟩ = some (.int .i64 t161) := (blk_cell BK165.out 0).trans rfl; have hcz53_1 : w50.cell? ⟨gb165, 1, none⟩ = some (.int .i64 t162) := (blk_cell BK165.out 1).trans rfl; have hcz53_2 : w50.cell? ⟨gb165, 2, none⟩ = some (.int .i64 t163) := (blk_cell BK165.out 2).trans rfl; have hfz53_0 := blk_frozen BK165.out 0; have hfz53_1 := blk_frozen BK165.out 1; have hfz53_2 := blk_frozen BK165.out 2) | ((with_reducible refine gate_callee (f := 12) rfl ?_); refine goesL_ (some 43) rfl rfl Tryd.func12 (by kernel_rfl) rfl #[.agg #[.int .i64 t161, .int .i64 t162, .int .i64 t163]] rfl (by (try simp only [List.map_toArray, List.map_cons, List.map_nil]); first | done | rfl | (simp only [List.length_drop, List.length_take]; rfl)) ?_; (with_reducible refine (date_Civil_Last.calls kj6 t161 t162 t163 false _ A15.out).mono ?_); rintro e w54 ⟨rfl, hb⟩; refine ⟨_, rfl, ?_⟩; have n0_ := Aside0.mk (blk_below (g := gb165) (o := .cells #[.int .i64 t161, .int .i64 t162, .int .i64 t163] 30 (0, 0)) (by (with_reducible repeat (first | refine blk_drewN ?_ _ | refine blk_drew ?_ | refine blk_alloc ?_ _)); refine blk_far ?_ NB165_173.out _; (with_reducible repeat (first | refine blk_drewN ?_ _ | refine blk_drew ?_ | refine blk_alloc ?_ _)); refine blk_far ?_ NB165_173.out _; (with_reducible repeat (first | refine blk_drewN ?_ _ | refine blk_drew ?_ | refine blk_alloc ?_ _)); refine blk_far ?_ NB165_173.out _; (with_reducible repeat (first | refine blk_drewN ?_ _ | refine blk_drew ?_ | refine blk_alloc ?_ _)); exact BK165.out) hb); have n1_ := Aside0.mk (blk_below (g := gb173) (o := .cells #[.int .i64 t169, .int .i64 t170, .int .i64 t171] 30 (0, 0)) (by (with_reducible repeat (first | refine blk_drewN ?_ _ | refine blk_drew ?_ | refine blk_alloc ?_ _)); refine blk_put (cs := #[.int .i64 t169, .int .i64 t170, .int .i64 0]) ?_ 2 _ rfl; (with_reducible repeat (first | refine blk_drewN ?_ _ | refine blk_drew ?_ | refine blk_alloc ?_ _)); refine blk_put (cs := #[.int .i64 t169, .int .i64 0, .int .i64 0]) ?_ 1 _ rfl; (with_reducible repeat (first | refine blk_drewN ?_ _ | refine blk_drew ?_ | refine blk_alloc ?_ _)); refine blk_put (cs := #[.int .i64 0, .int .i64 0, .int .i64 0]) ?_ 0 _ rfl; (with_reducible repeat (first | refine blk_drewN ?_ _ | refine blk_drew ?_ | refine blk_alloc ?_ _)); exact BK173.out) hb); have n2_ := Aside0.mk (below_step (by repeat (first | (with_reducible first | exact HB.out | apply below_alloc | apply pw_below_drewN | apply below_drew1 | refine below_set ?_ GE165.out | refine below_set ?_ GE173.out) | exact HB.out)) hb); clear BK165; clear BK173; clear HB; have BK165 := n0_; have BK173 := n1_; have HB := n2_; clear n0_ n1_ n2_; (try clear hb); (try clear hb2); (try clear hk); (try clear hi); have hcz55_0 : w54.cell? ⟨gb165, 0, none⟩ = some (.int .i64 t161) := (blk_cell BK165.out 0).trans rfl; have hcz55_1 : w54.cell? ⟨gb165, 1, none⟩ = some (.int .i64 t162) := (blk_cell BK165.out 1).trans rfl; have hcz55_2 : w54.cell? ⟨gb165, 2, none⟩ = some (.int .i64 t163) := (blk_cell BK165.out 2).trans rfl; have hfz55_0 := blk_frozen BK165.out 0; have hfz55_1 := blk_frozen BK165.out 1; have hfz55_2 := blk_frozen BK165.out 2; have hcz56_0 : w54.cell? ⟨gb173, 0, none⟩ = some (.int .i64 t169) := (blk_cell BK173.out 0).trans rfl; have hcz56_1 : w54.cell? ⟨gb173, 1, none⟩ = some (.int .i64 t170) := (blk_cell BK173.out 1).trans rfl; have hcz56_2 : w54.cell? ⟨gb173, 2, none⟩ = some (.int .i64 t171) := (blk_cell BK173.out 2).trans rfl; have hfz56_0 := blk_frozen BK173.out 0; have hfz56_1 := blk_frozen BK173.out 1; have hfz56_2 := blk_frozen BK173.out 2))
                  go_ret
                  exact ⟨by first | rfl | (simp [errW_none, errW_some] <;> rfl) | (simp [*, errW_none, errW_some] <;> rfl), by repeat (first | (with_reducible first | exact HB.out | apply below_alloc | apply pw_below_drewN | apply below_drew1 | refine below_set ?_ GE165.out | refine below_set ?_ GE173.out) | exact HB.out)⟩
                · rw [if_neg c48] at H
                  have c48b0 : (t171 == t163) = false := beq_eq_false_iff_ne.mpr c48
                  have c48b1 : (t171 != t163) = true := bne_iff_ne.mpr c48
                  replace H := Option.bind_eq_some_iff.mp H
                  obtain ⟨t179, A570, H⟩ := H
                  replace H : (if t179 = true then (some (decide (t171 < t163))) else (some false)) = some r := H
                  have A57 := Aside0.mk A570
                  clear A570
                  by_cases c58 : t179 = true
                  · subst c58
                    have H1 : (some (decide (t171 < t163))) = some r := by rw [if_pos rfl] at H; exact H
                    clear H
                    have H := H1
                    clear H1
                    obtain rfl := Option.some.inj H
                    go_wp2_with (first | ((with_reducible refine gate_callee (f := 11) rfl ?_); refine goesL_ (some 38) rfl rfl Tryd.func11 (by kernel_rfl) rfl #[.int .i32 t159] rfl (by (try simp only [List.map_toArray, List.map_cons, List.map_nil]); first | done | rfl | (simp only [List.length_drop, List.length_take]; rfl)) ?_; (with_reducible refine (date_Day_Civil.calls kj6 t159 t169 t170 t171 none _ A14.out).mono ?_); rintro e w59 ⟨rfl, hb⟩; refine ⟨_, rfl, ?_⟩; have n0_ := Aside0.mk (blk_below (g := gb165) (o := .cells #[.int .i64 t161, .int .i64 t162, .int .i64 t163] 30 (0, 0)) (by (with_reducible repeat (first | refine blk_drewN ?_ _ | refine blk_drew ?_ | refine blk_alloc ?_ _)); exact BK165.out) hb); have n1_ := Aside0.mk (below_step (by repeat (first | (with_reducible first | exact HB.out | apply below_alloc | apply pw_below_drewN | apply below_drew1 | refine below_set ?_ GE165.out) | exact HB.out)) hb); clear BK165; clear HB; have BK165 := n0_; have HB := n1_; clear n0_ n1_; (try clear hb); (try clear hb2); (try clear hk); (try clear hi); (try simp only [errW_none, errW_some])) | ((with_reducible refine gate_dst (N := 10) rfl ?_); refine box_event ?hg (N := 10) ?hd (cs := #[.int .i64 0, .int .i64 0, .int .i64 0]) (t := 30) ?hr ?_; (case hd => rfl); (case hg => rfl); (case hr => first | (go_simp; done) | (go_simp; rfl)); intro gb173 hg w60 hbox hb; have n0_ := Aside0.mk (blk_below (g := gb165) (o := .cells #[.int .i64 t161, .int .i64 t162, .int .i64 t163] 30 (0, 0)) (by (with_reducible repeat (first | refine blk_drewN ?_ _ | refine blk_drew ?_ | refine blk_alloc ?_ _)); exact BK165.out) hb); have n1_ := Aside0.mk (below_step (by repeat (first | (with_reducible first | exact HB.out | apply below_alloc | apply pw_below_drewN | apply below_drew1 | refine below_set ?_ GE165.out) | exact HB.out)) hb); have n2_ := Aside0.mk (hbox); have n3_ := Aside0.mk ((by rw [hg]; exact (below_size (by repeat (first | (with_reducible first | exact HB.out | apply below_alloc | apply pw_below_drewN | apply below_drew1 | refine below_set ?_ GE165.out) | exact HB.out))) : w.heap.size ≤ gb173)); have n4_ := Aside0.mk ((by rw [hg]; exact (below_size (by repeat (first | (with_reducible first | exact HB.out | apply below_alloc | apply pw_below_drewN | apply below_drew1 | refine below_set ?_ GE165.out) | exact HB.out))) : w.heap.size ≤ gb173)); have n5_ := Aside0.mk ((by rw [hg]; exact Nat.ne_of_lt (blk_lt (g := gb165) (o := .cells #[.int .i64 t161, .int .i64 t162, .int .i64 t163] 30 (0, 0)) (by (with_reducible repeat (first | refine blk_drewN ?_ _ | refine blk_drew ?_ | refine blk_alloc ?_ _)); exact BK165.out)) : gb165 ≠ gb173)); have n6_ := Aside0.mk ((by rw [hg]; exact Nat.ne_of_gt (blk_lt (g := gb165) (o := .cells #[.int .i64 t161, .int .i64 t162, .int .i64 t163] 30 (0, 0)) (by (with_reducible repeat (first | refine blk_drewN ?_ _ | refine blk_drew ?_ | refine blk_alloc ?_ _)); exact BK165.out)) : gb173 ≠ gb165)); clear BK165; clear HB; have BK165 := n0_; have HB := n1_; have BK173 := n2_; have GW173 := n3_; have GE173 := n4_; have NB165_173 := n5_; have NB173_165 := n6_; clear n0_ n1_ n2_ n3_ n4_ n5_ n6_; clear hb hbox hg; have hnb61 := NB173_165.out; have hnc61 := NB165_173.out; have hcz62_0 : w60.cell? ⟨gb173, 0, none⟩ = some (.int .i64 0) := (blk_cell BK173.out 0).trans rfl; have hcz62_1 : w60.cell? ⟨gb173, 1, none⟩ = some (.int .i64 0) := (blk_cell BK173.out 1).trans rfl; have hcz62_2 : w60.cell? ⟨gb173, 2, none⟩ = some (.int .i64 0) := (blk_cell BK173.out 2).trans rfl; have hfz62_0 := blk_frozen BK173.out 0; have hfz62_1 := blk_frozen BK173.out 1; have hfz62_2 := blk_frozen BK173.out 2; have hcz63_0 : w60.cell? ⟨gb165, 0, none⟩ = some (.int .i64 t161) := (blk_cell BK165.out 0).trans rfl; have hcz63_1 : w60.cell? ⟨gb165, 1, none⟩ = some (.int .i64 t162) := (blk_cell BK165.out 1).trans rfl; have hcz63_2 : w60.cell? ⟨gb165, 2, none⟩ = some (.int .i64 t163) := (blk_cell BK165.out 2).trans rfl; have hfz63_0 := blk_frozen BK165.out 0; have hfz63_1 := blk_frozen BK165.out 1; have hfz63_2 := blk_frozen BK165.out 2) | ((with_reducible refine gate_callee (f := 12) rfl ?_); refine goesL_ (some 43) rfl rfl Tryd.func12 (by kernel_rfl) rfl #[.agg #[.int .i64 t161, .int .i64 t162, .int .i64 t163]] rfl (by (try simp only [List.map_toArray, List.map_cons, List.map_nil]); first | done | rfl | (simp only [List.length_drop, List.length_take]; rfl)) ?_; (with_reducible refine (date_Civil_Last.calls kj6 t161 t162 t163 false _ A15.out).mono ?_); rintro e w64 ⟨rfl, hb⟩; refine ⟨_, rfl, ?_⟩; have n0_ := Aside0.mk (blk_below (g := gb165) (o := .cells #[.int .i64 t161, .int .i64 t162, .int .i64 t163] 30 (0, 0)) (by (with_reducible repeat (first | refine blk_drewN ?_ _ | refine blk_drew ?_ | refine blk_alloc ?_ _)); refine blk_far ?_ NB165_173.out _; (with_reducible repeat (first | refine blk_drewN ?_ _ | refine blk_drew ?_ | refine blk_alloc ?_ _)); refine blk_far ?_ NB165_173.out _; (with_reducible repeat (first | refine blk_drewN ?_ _ | refine blk_drew ?_ | refine blk_alloc ?_ _)); refine blk_far ?_ NB165_173.out _; (with_reducible repeat (first | refine blk_drewN ?_ _ | refine blk_drew ?_ | refine blk_alloc ?_ _)); exact BK165.out) hb); have n1_ := Aside0.mk (blk_below (g := gb173) (o := .cells #[.int .i64 t169, .int .i64 t170, .int .i64 t171] 30 (0, 0)) (by (with_reducible repeat (first | refine blk_drewN ?_ _ | refine blk_drew ?_ | refine blk_alloc ?_ _)); refine blk_put (cs := #[.int .i64 t169, .int .i64 t170, .int .i64 0]) ?_ 2 _ rfl; (with_reducible repeat (first | refine blk_drewN ?_ _ | refine blk_drew ?_ | refine blk_alloc ?_ _)); refine blk_put (cs := #[.int .i64 t169, .int .i64 0, .int .i64 0]) ?_ 1 _ rfl; (with_reducible repeat (first | refine blk_drewN ?_ _ | refine blk_drew ?_ | refine blk_alloc ?_ _)); refine blk_put (cs := #[.int .i64 0, .int .i64 0, .int .i64 0]) ?_ 0 _ rfl; (with_reducible repeat (first | refine blk_drewN ?_ _ | refine blk_drew ?_ | refine blk_alloc ?_ _)); exact BK173.out) hb); have n2_ := Aside0.mk (below_step (by repeat (first | (with_reducible first | exact HB.out | apply below_alloc | apply pw_below_drewN | apply below_drew1 | refine below_set ?_ GE165.out | refine below_set ?_ GE173.out) | exact HB.out)) hb); clear BK165; clear BK173; clear HB; have BK165 := n0_; have BK173 := n1_; have HB := n2_; clear n0_ n1_ n2_; (try clear hb); (try clear hb2); (try clear hk); (try clear hi); have hcz65_0 : w64.cell? ⟨gb165, 0, none⟩ = some (.int .i64 t161) := (blk_cell BK165.out 0).trans rfl; have hcz65_1 : w64.cell? ⟨gb165, 1, none⟩ = some (.int .i64 t162) := (blk_cell BK165.out 1).trans rfl; have hcz65_2 : w64.cell? ⟨gb165, 2, none⟩ = some (.int .i64 t163) := (blk_cell BK165.out 2).trans rfl; have hfz65_0 := blk_frozen BK165.out 0; have hfz65_1 := blk_frozen BK165.out 1; have hfz65_2 := blk_frozen BK165.out 2; have hcz66_0 : w64.cell? ⟨gb173, 0, none⟩ = some (.int .i64 t169) := (blk_cell BK173.out 0).trans rfl; have hcz66_1 : w64.cell? ⟨gb173, 1, none⟩ = some (.int .i64 t170) := (blk_cell BK173.out 1).trans rfl; have hcz66_2 : w64.cell? ⟨gb173, 2, none⟩ = some (.int .i64 t171) := (blk_cell BK173.out 2).trans rfl; have hfz66_0 := blk_frozen BK173.out 0; have hfz66_1 := blk_frozen BK173.out 1; have hfz66_2 := blk_frozen BK173.out 2) | (go_at_call 12; (with_reducible refine (date_Civil_Last.calls kj6 t169 t170 t171 true _ A57.out).mono ?_); rintro e w67 ⟨rfl, hb⟩; have n0_ := Aside0.mk (blk_below (g := gb165) (o := .cells #[.int .i64 t161, .int .i64 t162, .int .i64 t163] 30 (0, 0)) (by (with_reducible repeat (first | refine blk_drewN ?_ _ | refine blk_drew ?_ | refine blk_alloc ?_ _)); exact BK165.out) hb); have n1_ := Aside0.mk (blk_below (g := gb173) (o := .cells #[.int .i64 t169, .int .i64 t170, .int .i64 t171] 30 (0, 0)) (by (with_reducible repeat (first | refine blk_drewN ?_ _ | refine blk_drew ?_ | refine blk_alloc ?_ _)); exact BK173.out) hb); have n2_ := Aside0.mk (below_step (by repeat (first | (with_reducible first | exact HB.out | apply below_alloc | apply pw_below_drewN | apply below_drew1 | refine below_set ?_ GE165.out | refine below_set ?_ GE173.out) | exact HB.out)) hb); clear BK165; clear BK173; clear HB; have BK165 := n0_; have BK173 := n1_; have HB := n2_; clear n0_ n1_ n2_; (try clear hb); (try clear hb2); (try clear hk); (try clear hi); have hcz68_0 : w67.cell? ⟨gb173, 0, none⟩ = some (.int .i64 t169) := (blk_cell BK173.out 0).trans rfl; have hcz68_1 : w67.cell? ⟨gb173, 1, none⟩ = some (.int .i64 t170) := (blk_cell BK173.out 1).trans rfl; have hcz68_2 : w67.cell? ⟨gb173, 2, none⟩ = some (.int .i64 t171) := (blk_cell BK173.out 2).trans rfl; have hfz68_0 := blk_frozen BK173.out 0; have hfz68_1 := blk_frozen BK173.out 1; have hfz68_2 := blk_frozen BK173.out 2; have hcz69_0 : w67.cell? ⟨gb165, 0, none⟩ = some (.int .i64 t161) := (blk_cell BK165.out 0).trans rfl; have hcz69_1 : w67.cell? ⟨gb165, 1, none⟩ = some (.int .i64 t162) := (blk_cell BK165.out 1).trans rfl; have hcz69_2 : w67.cell? ⟨gb165, 2, none⟩ = some (.int .i64 t163) := (blk_cell BK165.out 2).trans rfl; have hfz69_0 := blk_frozen BK165.out 0; have hfz69_1 := blk_frozen BK165.out 1; have hfz69_2 := blk_frozen BK165.out 2))
                    go_ret
                    exact ⟨by first | rfl | (simp [errW_none, errW_some] <;> rfl) | (simp [*, errW_none, errW_some] <;> rfl), by repeat (first | (with_reducible first | exact HB.out | apply below_alloc | apply pw_below_drewN | apply below_drew1 | refine below_set ?_ GE165.out | refine below_set ?_ GE173.out) | exact HB.out)⟩
                  · replace c58 := Bool.eq_false_iff.mpr c58
                    subst c58
                    have H1 : (some false) = some r := by rw [if_neg (show ¬ (false = true) by decide)] at H; exact H
                    clear H
                    have H := H1
                    clear H1
                    exact absurd (H.trans (congrArg some HR.out)) (by simp)
              · have H1 : (some false) = some r := by rw [if_neg (show ¬ (some q178).isNone = true by simp)] at H; exact H
                clear H
                have H := H1
                clear H1
                try simp only [errW_none, errW_some]
                exact absurd (H.trans (congrArg some HR.out)) (by simp)
  · replace c4 := Bool.eq_false_iff.mpr c4
    subst c4
    have H1 : (some false) = some r := by rw [if_neg (show ¬ (false = true) by decide)] at H; exact H
    clear H
    have H := H1
    clear H1
    exact absurd (H.trans (congrArg some HR.out)) (by simp)
end Go.Proofs.YthokfepglahgpaaDoor.PDueLasts
