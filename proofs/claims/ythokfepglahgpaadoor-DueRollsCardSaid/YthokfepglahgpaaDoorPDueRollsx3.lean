-- Printed by a wrapper of this session's round the kit's print.py; Lean checks it.
import Derived.Test.YthokfepglahgpaaDoorPDueRollsx0
import Derived.Test.YthokfepglahgpaaDoorPDueRollsx1
import Derived.Test.YthokfepglahgpaaDoorPDueRollsx2
namespace Go.Proofs.YthokfepglahgpaaDoor.PDueRolls
open Go.RowKit Go.Proofs.YthokfepglahgpaaDoorW.PrintWords Go.Proofs.YthokfepglahgpaaDoorW.PrintLast Go.Proofs.YthokfepglahgpaaDoorW.PrintMore
attribute [local go_sem] max2_int min2_int max_two min_two max_three min_three max_four min_four   -- for this text's walks alone
set_option linter.unusedVariables false
set_option linter.unusedSimpArgs false

/-! ### due_Plain: function 10 -/
def due_Plain.j0 : Nat → Int → Int → Bool → Option (Int × Option Int)
  | 0, _, _, _ => none
  | k + 1, x0, x1, x14 => if x14 = true then (some (0, some 1)) else ((date_Day_Civil.f k x0).bind fun bt124 => (if bt124.2.2.2.isNone = true then ((date_Civil_Last.f k bt124.1 bt124.2.1 bt124.2.2.1).bind fun t130 => ((date_Civil_Months.f k bt124.1 bt124.2.1 bt124.2.2.1 x1).bind fun bt131 => (if bt131.2.2.2.isNone = true then (if t130 = true then ((date_Length.f k bt131.1 bt131.2.1).bind fun t136 => ((date_Civil_Number.f k bt131.1 bt131.2.1 t136).bind fun bt137 => (some (bt137.1, bt137.2)))) else ((date_Civil_Number.f k bt131.1 bt131.2.1 bt131.2.2.1).bind fun bt139 => (some (bt139.1, bt139.2)))) else (some (0, some (bt131.2.2.2.getD 0)))))) else (some (0, some (bt124.2.2.2.getD 0)))))
def due_Plain.f (k : Nat) (a0 : Int) (a1 : Int) : Option (Int × Option Int) := if a1 < 0 then (due_Plain.j0 k a0 a1 true) else (due_Plain.j0 k a0 a1 (decide (a1 > 480)))
theorem due_Plain.mono_l : ∀ k, (∀ y0 y1 y2, LeO (due_Plain.j0 k y0 y1 y2) (due_Plain.j0 (k + 1) y0 y1 y2))
  | 0 => fun _ _ _ r h => by simp [due_Plain.j0] at h
  | k + 1 => by
    have ih0 := due_Plain.mono_l k
    · intro y0 y1 y2
      unfold due_Plain.j0
      repeat' first
      | (with_reducible exact ih0 _ _ _)
      | (with_reducible exact date_Civil_Last.mono _ _ _ _)
      | (with_reducible exact date_Civil_Months.mono _ _ _ _ _)
      | (with_reducible exact date_Civil_Number.mono _ _ _ _)
      | (with_reducible exact date_Day_Civil.mono _ _)
      | (with_reducible exact date_Length.mono _ _ _)
      | (with_reducible exact LeO.refl _)
      | (with_reducible exact LeO.none _)
      | (with_reducible refine LeO.ite ?_ ?_)
      | (with_reducible refine LeO.bind ?_ (fun _ => ?_))
      | exact ih0 _ _ _
      | exact date_Civil_Last.mono _ _ _ _
      | exact date_Civil_Months.mono _ _ _ _ _
      | exact date_Civil_Number.mono _ _ _ _
      | exact date_Day_Civil.mono _ _
      | exact date_Length.mono _ _ _
      | exact LeO.none _
      | refine LeO.ite ?_ ?_
      | refine LeO.bind ?_ (fun _ => ?_)
theorem due_Plain.mono : ∀ a0 a1 k, LeO (due_Plain.f k a0 a1) (due_Plain.f (k + 1) a0 a1) := by
  intro a0 a1 k
  have ih0 := due_Plain.mono_l k
  unfold due_Plain.f
  repeat' first
      | (with_reducible exact ih0 _ _ _)
      | (with_reducible exact date_Civil_Last.mono _ _ _ _)
      | (with_reducible exact date_Civil_Months.mono _ _ _ _ _)
      | (with_reducible exact date_Civil_Number.mono _ _ _ _)
      | (with_reducible exact date_Day_Civil.mono _ _)
      | (with_reducible exact date_Length.mono _ _ _)
      | (with_reducible exact LeO.refl _)
      | (with_reducible exact LeO.none _)
      | (with_reducible refine LeO.ite ?_ ?_)
      | (with_reducible refine LeO.bind ?_ (fun _ => ?_))
      | exact ih0 _ _ _
      | exact date_Civil_Last.mono _ _ _ _
      | exact date_Civil_Months.mono _ _ _ _ _
      | exact date_Civil_Number.mono _ _ _ _
      | exact date_Day_Civil.mono _ _
      | exact date_Length.mono _ _ _
      | exact LeO.none _
      | refine LeO.ite ?_ ?_
      | refine LeO.bind ?_ (fun _ => ?_)
set_option maxHeartbeats 8000000 in
set_option maxRecDepth 100000 in
theorem due_Plain.calls (k : Nat) (a0 : Int) (a1 : Int) (r1 : Int) (r2 : Option Int) (w : World) (h : due_Plain.f k a0 a1 = some (r1, r2)) :
    Calls Tryd.prog 10 #[.int .i32 a0, .int .i64 a1] w fun e w' => e = .returned (.tuple #[.int .i32 r1, errW r2]) ∧ Below w.heap.size w w' := by
  have hu30 := Tryd.underlying30
  have hu26 := Tryd.underlying26
  have hu45 := Tryd.underlying45
  have HB := Aside0.mk (Below.refl w.heap.size w)
  have H : (if a1 < 0 then (due_Plain.j0 k a0 a1 true) else (due_Plain.j0 k a0 a1 (decide (a1 > 480)))) = some (r1, r2) := h
  clear h
  have HC3 := Aside0.mk H
  clear H
  go_enter Tryd.func10, Tryd.ntmps10
  go_upto_region 1 with (fail)
  go_cut [14] (fun v14 wc => ∃ (kq : Nat) (x14_2 : Bool), v14 = .bool x14_2 ∧ Aside0 (due_Plain.j0 kq a0 a1 x14_2 = some (r1, r2)) ∧ Aside0 (kq ≤ k) ∧ Aside0 (Below w.heap.size w wc))
  case first =>
    have H := HC3.out
    clear HC3
    by_cases c4 : a1 < 0
    · rw [if_pos c4] at H
      have c4b0 : decide (a1 < 0) = true := decide_eq_true c4
      clear c4
      (first | rw [c4b0] | (simp only [i64_w, i32_w]; rw [c4b0]) | skip)
      have H' := Aside0.mk H
      clear H
      go_wp2
      go_meet
      case rel => exact ⟨_, (true), (by first | rfl | (simp; done) | (simp [*]; done)), H', ⟨by first | omega | exact Nat.le_refl _⟩, ⟨by repeat (first | (with_reducible first | exact HB.out | apply below_alloc | apply pw_below_drewN | apply below_drew1) | exact HB.out)⟩⟩
    · rw [if_neg c4] at H
      have c4b0 : decide (a1 < 0) = false := decide_eq_false c4
      clear c4
      (first | rw [c4b0] | (simp only [i64_w, i32_w]; rw [c4b0]) | skip)
      have H' := Aside0.mk H
      clear H
      go_wp2
      go_meet
      case rel => exact ⟨_, (decide (a1 > 480)), (by first | rfl | (simp; done) | (simp [*]; done)), H', ⟨by first | omega | exact Nat.le_refl _⟩, ⟨by repeat (first | (with_reducible first | exact HB.out | apply below_alloc | apply pw_below_drewN | apply below_drew1) | exact HB.out)⟩⟩
  case rest =>
    clear HC3
    try clear c1
    try clear p2
    try clear c4
    try clear c4b0
    obtain ⟨kq, x14_2, rfl, HA, HJ2, HB⟩ := hcut
    cases kq with
    | zero => exact absurd HA.out (by simp [due_Plain.j0])
    | succ kj2 =>
      have H := HA.out
      clear HA
      simp only [due_Plain.j0] at H
      by_cases c5 : x14_2 = true
      · subst c5
        have H1 : (some (0, some 1)) = some (r1, r2) := by rw [if_pos rfl] at H; exact H
        clear H
        have H := H1
        clear H1
        simp only [Option.some.injEq, Prod.mk.injEq] at H
        obtain ⟨rfl, rfl⟩ := H
        go_wp2
        go_ret2
        exact ⟨by first | rfl | (simp [errW_none, errW_some] <;> rfl) | (simp [*, errW_none, errW_some] <;> rfl), by repeat (first | (with_reducible first | exact HB.out | apply below_alloc | apply pw_below_drewN | apply below_drew1) | exact HB.out)⟩
      · replace c5 := Bool.eq_false_iff.mpr c5
        subst c5
        have H1 : ((date_Day_Civil.f kj2 a0).bind fun bt124 => (if bt124.2.2.2.isNone = true then ((date_Civil_Last.f kj2 bt124.1 bt124.2.1 bt124.2.2.1).bind fun t130 => ((date_Civil_Months.f kj2 bt124.1 bt124.2.1 bt124.2.2.1 a1).bind fun bt131 => (if bt131.2.2.2.isNone = true then (if t130 = true then ((date_Length.f kj2 bt131.1 bt131.2.1).bind fun t136 => ((date_Civil_Number.f kj2 bt131.1 bt131.2.1 t136).bind fun bt137 => (some (bt137.1, bt137.2)))) else ((date_Civil_Number.f kj2 bt131.1 bt131.2.1 bt131.2.2.1).bind fun bt139 => (some (bt139.1, bt139.2)))) else (some (0, some (bt131.2.2.2.getD 0)))))) else (some (0, some (bt124.2.2.2.getD 0))))) = some (r1, r2) := by rw [if_neg (show ¬ (false = true) by decide)] at H; exact H
        clear H
        have H := H1
        clear H1
        replace H := Option.bind_eq_some_iff.mp H
        obtain ⟨⟨t124, t125, t126, t127⟩, A60, H⟩ := H
        replace H : (if t127.isNone = true then ((date_Civil_Last.f kj2 t124 t125 t126).bind fun t130 => ((date_Civil_Months.f kj2 t124 t125 t126 a1).bind fun bt131 => (if bt131.2.2.2.isNone = true then (if t130 = true then ((date_Length.f kj2 bt131.1 bt131.2.1).bind fun t136 => ((date_Civil_Number.f kj2 bt131.1 bt131.2.1 t136).bind fun bt137 => (some (bt137.1, bt137.2)))) else ((date_Civil_Number.f kj2 bt131.1 bt131.2.1 bt131.2.2.1).bind fun bt139 => (some (bt139.1, bt139.2)))) else (some (0, some (bt131.2.2.2.getD 0)))))) else (some (0, some (t127.getD 0)))) = some (r1, r2) := H
        have A6 := Aside0.mk A60
        clear A60
        rcases t127 with _ | q129
        · have H1 : ((date_Civil_Last.f kj2 t124 t125 t126).bind fun t130 => ((date_Civil_Months.f kj2 t124 t125 t126 a1).bind fun bt131 => (if bt131.2.2.2.isNone = true then (if t130 = true then ((date_Length.f kj2 bt131.1 bt131.2.1).bind fun t136 => ((date_Civil_Number.f kj2 bt131.1 bt131.2.1 t136).bind fun bt137 => (some (bt137.1, bt137.2)))) else ((date_Civil_Number.f kj2 bt131.1 bt131.2.1 bt131.2.2.1).bind fun bt139 => (some (bt139.1, bt139.2)))) else (some (0, some (bt131.2.2.2.getD 0)))))) = some (r1, r2) := by rw [if_pos (show (none : Option Int).isNone = true by rfl)] at H; exact H
          clear H
          have H := H1
          clear H1
          try simp only [errW_none, errW_some]
          replace H := Option.bind_eq_some_iff.mp H
          obtain ⟨t130, A70, H⟩ := H
          replace H : ((date_Civil_Months.f kj2 t124 t125 t126 a1).bind fun bt131 => (if bt131.2.2.2.isNone = true then (if t130 = true then ((date_Length.f kj2 bt131.1 bt131.2.1).bind fun t136 => ((date_Civil_Number.f kj2 bt131.1 bt131.2.1 t136).bind fun bt137 => (some (bt137.1, bt137.2)))) else ((date_Civil_Number.f kj2 bt131.1 bt131.2.1 bt131.2.2.1).bind fun bt139 => (some (bt139.1, bt139.2)))) else (some (0, some (bt131.2.2.2.getD 0))))) = some (r1, r2) := H
          have A7 := Aside0.mk A70
          clear A70
          replace H := Option.bind_eq_some_iff.mp H
          obtain ⟨⟨t131, t132, t133, t134⟩, A80, H⟩ := H
          replace H : (if t134.isNone = true then (if t130 = true then ((date_Length.f kj2 t131 t132).bind fun t136 => ((date_Civil_Number.f kj2 t131 t132 t136).bind fun bt137 => (some (bt137.1, bt137.2)))) else ((date_Civil_Number.f kj2 t131 t132 t133).bind fun bt139 => (some (bt139.1, bt139.2)))) else (some (0, some (t134.getD 0)))) = some (r1, r2) := H
          have A8 := Aside0.mk A80
          clear A80
          rcases t134 with _ | q135
          · have H1 : (if t130 = true then ((date_Length.f kj2 t131 t132).bind fun t136 => ((date_Civil_Number.f kj2 t131 t132 t136).bind fun bt137 => (some (bt137.1, bt137.2)))) else ((date_Civil_Number.f kj2 t131 t132 t133).bind fun bt139 => (some (bt139.1, bt139.2)))) = some (r1, r2) := by rw [if_pos (show (none : Option Int).isNone = true by rfl)] at H; exact H
            clear H
            have H := H1
            clear H1
            try simp only [errW_none, errW_some]
            by_cases c9 : t130 = true
            · subst c9
              have H1 : ((date_Length.f kj2 t131 t132).bind fun t136 => ((date_Civil_Number.f kj2 t131 t132 t136).bind fun bt137 => (some (bt137.1, bt137.2)))) = some (r1, r2) := by rw [if_pos rfl] at H; exact H
              clear H
              have H := H1
              clear H1
              replace H := Option.bind_eq_some_iff.mp H
              obtain ⟨t136, A100, H⟩ := H
              replace H : ((date_Civil_Number.f kj2 t131 t132 t136).bind fun bt137 => (some (bt137.1, bt137.2))) = some (r1, r2) := H
              have A10 := Aside0.mk A100
              clear A100
              replace H := Option.bind_eq_some_iff.mp H
              obtain ⟨⟨t137, t138⟩, A110, H⟩ := H
              replace H : (some (t137, t138)) = some (r1, r2) := H
              have A11 := Aside0.mk A110
              clear A110
              simp only [Option.some.injEq, Prod.mk.injEq] at H
              obtain ⟨rfl, rfl⟩ := H
              go_wp2_with (first | ((with_reducible refine gate_callee (f := 11) rfl ?_); refine goesL_ (some 18) rfl rfl Tryd.func11 (by kernel_rfl) rfl #[.int .i32 a0] rfl (by (try simp only [List.map_toArray, List.map_cons, List.map_nil]); first | done | rfl | (simp only [List.length_drop, List.length_take]; rfl)) ?_; (with_reducible refine (date_Day_Civil.calls kj2 a0 t124 t125 t126 none _ A6.out).mono ?_); rintro e w12 ⟨rfl, hb⟩; refine ⟨_, rfl, ?_⟩; have n0_ := Aside0.mk (below_step (by repeat (first | (with_reducible first | exact HB.out | apply below_alloc | apply pw_below_drewN | apply below_drew1) | exact HB.out)) hb); clear HB; have HB := n0_; clear n0_; (try clear hb); (try clear hb2); (try clear hk); (try clear hi); (try simp only [errW_none, errW_some])) | ((with_reducible refine gate_dst (N := 6) rfl ?_); refine box_event ?hg (N := 6) ?hd (cs := #[.int .i64 0, .int .i64 0, .int .i64 0]) (t := 30) ?hr ?_; (case hd => rfl); (case hg => rfl); (case hr => first | (go_simp; done) | (go_simp; rfl)); intro gb128 hg w13 hbox hb; have n0_ := Aside0.mk (below_step (by repeat (first | (with_reducible first | exact HB.out | apply below_alloc | apply pw_below_drewN | apply below_drew1) | exact HB.out)) hb); have n1_ := Aside0.mk (hbox); have n2_ := Aside0.mk ((by rw [hg]; exact (below_size (by repeat (first | (with_reducible first | exact HB.out | apply below_alloc | apply pw_below_drewN | apply below_drew1) | exact HB.out))) : w.heap.size ≤ gb128)); have n3_ := Aside0.mk ((by rw [hg]; exact (below_size (by repeat (first | (with_reducible first | exact HB.out | apply below_alloc | apply pw_below_drewN | apply below_drew1) | exact HB.out))) : w.heap.size ≤ gb128)); clear HB; have HB := n0_; have BK128 := n1_; have GW128 := n2_; have GE128 := n3_; clear n0_ n1_ n2_ n3_; clear hb hbox hg; have hcz14_0 : w13.cell? ⟨gb128, 0, none⟩ = some (.int .i64 0) := (blk_cell BK128.out 0).trans rfl; have hcz14_1 : w13.cell? ⟨gb128, 1, none⟩ = some (.int .i64 0) := (blk_cell BK128.out 1).trans rfl; have hcz14_2 : w13.cell? ⟨gb128, 2, none⟩ = some (.int .i64 0) := (blk_cell BK128.out 2).trans rfl; have hfz14_0 := blk_frozen BK128.out 0; have hfz14_1 := blk_frozen BK128.out 1; have hfz14_2 := blk_frozen BK128.out 2) | ((with_reducible refine gate_callee (f := 12) rfl ?_); refine goesL_ (some 25) rfl rfl Tryd.func12 (by kernel_rfl) rfl #[.agg #[.int .i64 t124, .int .i64 t125, .int .i64 t126]] rfl (by (try simp only [List.map_toArray, List.map_cons, List.map_nil]); first | done | rfl | (simp only [List.length_drop, List.length_take]; rfl)) ?_; (with_reducible refine (date_Civil_Last.calls kj2 t124 t125 t126 true _ A7.out).mono ?_); rintro e w15 ⟨rfl, hb⟩; refine ⟨_, rfl, ?_⟩; have n0_ := Aside0.mk (blk_below (g := gb128) (o := .cells #[.int .i64 t124, .int .i64 t125, .int .i64 t126] 30 (0, 0)) (by (with_reducible repeat (first | refine blk_drewN ?_ _ | refine blk_drew ?_ | refine blk_alloc ?_ _)); refine blk_put (cs := #[.int .i64 t124, .int .i64 t125, .int .i64 0]) ?_ 2 _ rfl; (with_reducible repeat (first | refine blk_drewN ?_ _ | refine blk_drew ?_ | refine blk_alloc ?_ _)); refine blk_put (cs := #[.int .i64 t124, .int .i64 0, .int .i64 0]) ?_ 1 _ rfl; (with_reducible repeat (first | refine blk_drewN ?_ _ | refine blk_drew ?_ | refine blk_alloc ?_ _)); refine blk_put (cs := #[.int .i64 0, .int .i64 0, .int .i64 0]) ?_ 0 _ rfl; (with_reducible repeat (first | refine blk_drewN ?_ _ | refine blk_drew ?_ | refine blk_alloc ?_ _)); exact BK128.out) hb); have n1_ := Aside0.mk (below_step (by repeat (first | (with_reducible first | exact HB.out | apply below_alloc | apply pw_below_drewN | apply below_drew1 | refine below_set ?_ GE128.out) | exact HB.out)) hb); clear BK128; clear HB; have BK128 := n0_; have HB := n1_; clear n0_ n1_; (try clear hb); (try clear hb2); (try clear hk); (try clear hi); have hcz16_0 : w15.cell? ⟨gb128, 0, none⟩ = some (.int .i64 t124) := (blk_cell BK128.out 0).trans rfl; have hcz16_1 : w15.cell? ⟨gb128, 1, none⟩ = some (.int .i64 t125) := (blk_cell BK128.out 1).trans rfl; have hcz16_2 : w15.cell? ⟨gb128, 2, none⟩ = some (.int .i64 t126) := (blk_cell BK128.out 2).trans rfl; have hfz16_0 := blk_frozen BK128.out 0; have hfz16_1 := blk_frozen BK128.out 1; have hfz16_2 := blk_frozen BK128.out 2) | ((with_reducible refine gate_callee (f := 25) rfl ?_); refine goesL_ (some 29) rfl rfl Tryd.func25 (by kernel_rfl) rfl #[.agg #[.int .i64 t124, .int .i64 t125, .int .i64 t126], .int .i64 a1] rfl (by (try simp only [List.map_toArray, List.map_cons, List.map_nil]); first | done | rfl | (simp only [List.length_drop, List.length_take]; rfl)) ?_; (with_reducible refine (date_Civil_Months.calls kj2 t124 t125 t126 a1 t131 t132 t133 none _ A8.out).mono ?_); rintro e w17 ⟨rfl, hb⟩; refine ⟨_, rfl, ?_⟩; have n0_ := Aside0.mk (blk_below (g := gb128) (o := .cells #[.int .i64 t124, .int .i64 t125, .int .i64 t126] 30 (0, 0)) (by (with_reducible repeat (first | refine blk_drewN ?_ _ | refine blk_drew ?_ | refine blk_alloc ?_ _)); exact BK128.out) hb); have n1_ := Aside0.mk (below_step (by repeat (first | (with_reducible first | exact HB.out | apply below_alloc | apply pw_below_drewN | apply below_drew1 | refine below_set ?_ GE128.out) | exact HB.out)) hb); clear BK128; clear HB; have BK128 := n0_; have HB := n1_; clear n0_ n1_; (try clear hb); (try clear hb2); (try clear hk); (try clear hi); (try simp only [errW_none, errW_some]); have hcz18_0 : w17.cell? ⟨gb128, 0, none⟩ = some (.int .i64 t124) := (blk_cell BK128.out 0).trans rfl; have hcz18_1 : w17.cell? ⟨gb128, 1, none⟩ = some (.int .i64 t125) := (blk_cell BK128.out 1).trans rfl; have hcz18_2 : w17.cell? ⟨gb128, 2, none⟩ = some (.int .i64 t126) := (blk_cell BK128.out 2).trans rfl; have hfz18_0 := blk_frozen BK128.out 0; have hfz18_1 := blk_frozen BK128.out 1; have hfz18_2 := blk_frozen BK128.out 2) | ((with_reducible refine gate_callee (f := 26) rfl ?_); refine goesL_ (some 40) rfl rfl Tryd.func26 (by kernel_rfl) rfl #[.int .i64 t131, .int .i64 t132] rfl (by (try simp only [List.map_toArray, List.map_cons, List.map_nil]); first | done | rfl | (simp only [List.length_drop, List.length_take]; rfl)) ?_; (with_reducible refine (date_Length.calls kj2 t131 t132 t136 _ A10.out).mono ?_); rintro e w40 ⟨rfl, ⟨nd, hw40⟩⟩; refine ⟨_, rfl, ?_⟩; have n0_ := Aside0.mk (show w40.heap[gb128]? = some (.cells #[.int .i64 t131, .int .i64 t132, .int .i64 t133] 30 (0, 0)) by (rw [hw40]; exact blk_drewN (blk_put (blk_put (blk_put BK128.out 0 _ rfl) 1 _ rfl) 2 _ rfl) nd)); have n1_ := Aside0.mk (show Below w.heap.size w w40 by (rw [hw40]; exact pw_below_drewN (below_set (below_set (below_set HB.out GE128.out) GE128.out) GE128.out) nd)); clear BK128 HB hw40; have BK128 := n0_; have HB := n1_; clear n0_ n1_; have hcy_0 : w40.cell? ⟨gb128, 0, none⟩ = some (.int .i64 t131) := (blk_cell BK128.out 0).trans rfl; have hfy_0 := blk_frozen BK128.out 0; have hcy_1 : w40.cell? ⟨gb128, 1, none⟩ = some (.int .i64 t132) := (blk_cell BK128.out 1).trans rfl; have hfy_1 := blk_frozen BK128.out 1; have hcy_2 : w40.cell? ⟨gb128, 2, none⟩ = some (.int .i64 t133) := (blk_cell BK128.out 2).trans rfl; have hfy_2 := blk_frozen BK128.out 2) | ((with_reducible refine gate_callee (f := 27) rfl ?_); refine goesL_ (some 43) rfl rfl Tryd.func27 (by kernel_rfl) rfl #[.agg #[.int .i64 t131, .int .i64 t132, .int .i64 t136]] rfl (by (try simp only [List.map_toArray, List.map_cons, List.map_nil]); first | done | rfl | (simp only [List.length_drop, List.length_take]; rfl)) ?_; (with_reducible refine (date_Civil_Number.calls kj2 t131 t132 t136 t137 t138 _ A11.out).mono ?_); rintro e w19 ⟨rfl, hb⟩; refine ⟨_, rfl, ?_⟩; have n0_ := Aside0.mk (blk_below (g := gb128) (o := .cells #[.int .i64 t131, .int .i64 t132, .int .i64 t136] 30 (0, 0)) (by (with_reducible repeat (first | refine blk_drewN ?_ _ | refine blk_drew ?_ | refine blk_alloc ?_ _)); refine blk_put (cs := #[.int .i64 t131, .int .i64 t132, .int .i64 t133]) ?_ 2 _ rfl; (with_reducible repeat (first | refine blk_drewN ?_ _ | refine blk_drew ?_ | refine blk_alloc ?_ _)); exact BK128.out) hb); have n1_ := Aside0.mk (below_step (by repeat (first | (with_reducible first | exact HB.out | apply below_alloc | apply pw_below_drewN | apply below_drew1 | refine below_set ?_ GE128.out) | exact HB.out)) hb); clear BK128; clear HB; have BK128 := n0_; have HB := n1_; clear n0_ n1_; (try clear hb); (try clear hb2); (try clear hk); (try clear hi); (try simp only [errW_none, errW_some])))
              go_ret2
              exact ⟨by first | rfl | (simp [errW_none, errW_some] <;> rfl) | (simp [*, errW_none, errW_some] <;> rfl), by repeat (first | (with_reducible first | exact HB.out | apply below_alloc | apply pw_below_drewN | apply below_drew1 | refine below_set ?_ GE128.out) | exact HB.out)⟩
            · replace c9 := Bool.eq_false_iff.mpr c9
              subst c9
              have H1 : ((date_Civil_Number.f kj2 t131 t132 t133).bind fun bt139 => (some (bt139.1, bt139.2))) = some (r1, r2) := by rw [if_neg (show ¬ (false = true) by decide)] at H; exact H
              clear H
              have H := H1
              clear H1
              replace H := Option.bind_eq_some_iff.mp H
              obtain ⟨⟨t139, t140⟩, A200, H⟩ := H
              replace H : (some (t139, t140)) = some (r1, r2) := H
              have A20 := Aside0.mk A200
              clear A200
              simp only [Option.some.injEq, Prod.mk.injEq] at H
              obtain ⟨rfl, rfl⟩ := H
              go_wp2_with (first | ((with_reducible refine gate_callee (f := 11) rfl ?_); refine goesL_ (some 18) rfl rfl Tryd.func11 (by kernel_rfl) rfl #[.int .i32 a0] rfl (by (try simp only [List.map_toArray, List.map_cons, List.map_nil]); first | done | rfl | (simp only [List.length_drop, List.length_take]; rfl)) ?_; (with_reducible refine (date_Day_Civil.calls kj2 a0 t124 t125 t126 none _ A6.out).mono ?_); rintro e w21 ⟨rfl, hb⟩; refine ⟨_, rfl, ?_⟩; have n0_ := Aside0.mk (below_step (by repeat (first | (with_reducible first | exact HB.out | apply below_alloc | apply pw_below_drewN | apply below_drew1) | exact HB.out)) hb); clear HB; have HB := n0_; clear n0_; (try clear hb); (try clear hb2); (try clear hk); (try clear hi); (try simp only [errW_none, errW_some])) | ((with_reducible refine gate_dst (N := 6) rfl ?_); refine box_event ?hg (N := 6) ?hd (cs := #[.int .i64 0, .int .i64 0, .int .i64 0]) (t := 30) ?hr ?_; (case hd => rfl); (case hg => rfl); (case hr => first | (go_simp; done) | (go_simp; rfl)); intro gb128 hg w22 hbox hb; have n0_ := Aside0.mk (below_step (by repeat (first | (with_reducible first | exact HB.out | apply below_alloc | apply pw_below_drewN | apply below_drew1) | exact HB.out)) hb); have n1_ := Aside0.mk (hbox); have n2_ := Aside0.mk ((by rw [hg]; exact (below_size (by repeat (first | (with_reducible first | exact HB.out | apply below_alloc | apply pw_below_drewN | apply below_drew1) | exact HB.out))) : w.heap.size ≤ gb128)); have n3_ := Aside0.mk ((by rw [hg]; exact (below_size (by repeat (first | (with_reducible first | exact HB.out | apply below_alloc | apply pw_below_drewN | apply below_drew1) | exact HB.out))) : w.heap.size ≤ gb128)); clear HB; have HB := n0_; have BK128 := n1_; have GW128 := n2_; have GE128 := n3_; clear n0_ n1_ n2_ n3_; clear hb hbox hg; have hcz23_0 : w22.cell? ⟨gb128, 0, none⟩ = some (.int .i64 0) := (blk_cell BK128.out 0).trans rfl; have hcz23_1 : w22.cell? ⟨gb128, 1, none⟩ = some (.int .i64 0) := (blk_cell BK128.out 1).trans rfl; have hcz23_2 : w22.cell? ⟨gb128, 2, none⟩ = some (.int .i64 0) := (blk_cell BK128.out 2).trans rfl; have hfz23_0 := blk_frozen BK128.out 0; have hfz23_1 := blk_frozen BK128.out 1; have hfz23_2 := blk_frozen BK128.out 2) | ((with_reducible refine gate_callee (f := 12) rfl ?_); refine goesL_ (some 25) rfl rfl Tryd.func12 (by kernel_rfl) rfl #[.agg #[.int .i64 t124, .int .i64 t125, .int .i64 t126]] rfl (by (try simp only [List.map_toArray, List.map_cons, List.map_nil]); first | done | rfl | (simp only [List.length_drop, List.length_take]; rfl)) ?_; (with_reducible refine (date_Civil_Last.calls kj2 t124 t125 t126 false _ A7.out).mono ?_); rintro e w24 ⟨rfl, hb⟩; refine ⟨_, rfl, ?_⟩; have n0_ := Aside0.mk (blk_below (g := gb128) (o := .cells #[.int .i64 t124, .int .i64 t125, .int .i64 t126] 30 (0, 0)) (by (with_reducible repeat (first | refine blk_drewN ?_ _ | refine blk_drew ?_ | refine blk_alloc ?_ _)); refine blk_put (cs := #[.int .i64 t124, .int .i64 t125, .int .i64 0]) ?_ 2 _ rfl; (with_reducible repeat (first | refine blk_drewN ?_ _ | refine blk_drew ?_ | refine blk_alloc ?_ _)); refine blk_put (cs := #[.int .i64 t124, .int .i64 0, .int .i64 0]) ?_ 1 _ rfl; (with_reducible repeat (first | refine blk_drewN ?_ _ | refine blk_drew ?_ | refine blk_alloc ?_ _)); refine blk_put (cs := #[.int .i64 0, .int .i64 0, .int .i64 0]) ?_ 0 _ rfl; (with_reducible repeat (first | refine blk_drewN ?_ _ | refine blk_drew ?_ | refine blk_alloc ?_ _)); exact BK128.out) hb); have n1_ := Aside0.mk (below_step (by repeat (first | (with_reducible first | exact HB.out | apply below_alloc | apply pw_below_drewN | apply below_drew1 | refine below_set ?_ GE128.out) | exact HB.out)) hb); clear BK128; clear HB; have BK128 := n0_; have HB := n1_; clear n0_ n1_; (try clear hb); (try clear hb2); (try clear hk); (try clear hi); have hcz25_0 : w24.cell? ⟨gb128, 0, none⟩ = some (.int .i64 t124) := (blk_cell BK128.out 0).trans rfl; have hcz25_1 : w24.cell? ⟨gb128, 1, none⟩ = some (.int .i64 t125) := (blk_cell BK128.out 1).trans rfl; have hcz25_2 : w24.cell? ⟨gb128, 2, none⟩ = some (.int .i64 t126) := (blk_cell BK128.out 2).trans rfl; have hfz25_0 := blk_frozen BK128.out 0; have hfz25_1 := blk_frozen BK128.out 1; have hfz25_2 := blk_frozen BK128.out 2) | ((with_reducible refine gate_callee (f := 25) rfl ?_); refine goesL_ (some 29) rfl rfl Tryd.func25 (by kernel_rfl) rfl #[.agg #[.int .i64 t124, .int .i64 t125, .int .i64 t126], .int .i64 a1] rfl (by (try simp only [List.map_toArray, List.map_cons, List.map_nil]); first | done | rfl | (simp only [List.length_drop, List.length_take]; rfl)) ?_; (with_reducible refine (date_Civil_Months.calls kj2 t124 t125 t126 a1 t131 t132 t133 none _ A8.out).mono ?_); rintro e w26 ⟨rfl, hb⟩; refine ⟨_, rfl, ?_⟩; have n0_ := Aside0.mk (blk_below (g := gb128) (o := .cells #[.int .i64 t124, .int .i64 t125, .int .i64 t126] 30 (0, 0)) (by (with_reducible repeat (first | refine blk_drewN ?_ _ | refine blk_drew ?_ | refine blk_alloc ?_ _)); exact BK128.out) hb); have n1_ := Aside0.mk (below_step (by repeat (first | (with_reducible first | exact HB.out | apply below_alloc | apply pw_below_drewN | apply below_drew1 | refine below_set ?_ GE128.out) | exact HB.out)) hb); clear BK128; clear HB; have BK128 := n0_; have HB := n1_; clear n0_ n1_; (try clear hb); (try clear hb2); (try clear hk); (try clear hi); (try simp only [errW_none, errW_some]); have hcz27_0 : w26.cell? ⟨gb128, 0, none⟩ = some (.int .i64 t124) := (blk_cell BK128.out 0).trans rfl; have hcz27_1 : w26.cell? ⟨gb128, 1, none⟩ = some (.int .i64 t125) := (blk_cell BK128.out 1).trans rfl; have hcz27_2 : w26.cell? ⟨gb128, 2, none⟩ = some (.int .i64 t126) := (blk_cell BK128.out 2).trans rfl; have hfz27_0 := blk_frozen BK128.out 0; have hfz27_1 := blk_frozen BK128.out 1; have hfz27_2 := blk_frozen BK128.out 2) | ((with_reducible refine gate_callee (f := 27) rfl ?_); refine goesL_ (some 43) rfl rfl Tryd.func27 (by kernel_rfl) rfl #[.agg #[.int .i64 t131, .int .i64 t132, .int .i64 t133]] rfl (by (try simp only [List.map_toArray, List.map_cons, List.map_nil]); first | done | rfl | (simp only [List.length_drop, List.length_take]; rfl)) ?_; (with_reducible refine (date_Civil_Number.calls kj2 t131 t132 t133 t139 t140 _ A20.out).mono ?_); rintro e w28 ⟨rfl, hb⟩; refine ⟨_, rfl, ?_⟩; have n0_ := Aside0.mk (blk_below (g := gb128) (o := .cells #[.int .i64 t131, .int .i64 t132, .int .i64 t133] 30 (0, 0)) (by (with_reducible repeat (first | refine blk_drewN ?_ _ | refine blk_drew ?_ | refine blk_alloc ?_ _)); refine blk_put (cs := #[.int .i64 t131, .int .i64 t132, .int .i64 t126]) ?_ 2 _ rfl; (with_reducible repeat (first | refine blk_drewN ?_ _ | refine blk_drew ?_ | refine blk_alloc ?_ _)); refine blk_put (cs := #[.int .i64 t131, .int .i64 t125, .int .i64 t126]) ?_ 1 _ rfl; (with_reducible repeat (first | refine blk_drewN ?_ _ | refine blk_drew ?_ | refine blk_alloc ?_ _)); refine blk_put (cs := #[.int .i64 t124, .int .i64 t125, .int .i64 t126]) ?_ 0 _ rfl; (with_reducible repeat (first | refine blk_drewN ?_ _ | refine blk_drew ?_ | refine blk_alloc ?_ _)); exact BK128.out) hb); have n1_ := Aside0.mk (below_step (by repeat (first | (with_reducible first | exact HB.out | apply below_alloc | apply pw_below_drewN | apply below_drew1 | refine below_set ?_ GE128.out) | exact HB.out)) hb); clear BK128; clear HB; have BK128 := n0_; have HB := n1_; clear n0_ n1_; (try clear hb); (try clear hb2); (try clear hk); (try clear hi); (try simp only [errW_none, errW_some])))
              go_ret2
              exact ⟨by first | rfl | (simp [errW_none, errW_some] <;> rfl) | (simp [*, errW_none, errW_some] <;> rfl), by repeat (first | (with_reducible first | exact HB.out | apply below_alloc | apply pw_below_drewN | apply below_drew1 | refine below_set ?_ GE128.out) | exact HB.out)⟩
          · have H1 : (some (0, some q135)) = some (r1, r2) := by rw [if_neg (show ¬ (some q135).isNone = true by simp)] at H; exact H
            clear H
            have H := H1
            clear H1
            try simp only [errW_none, errW_some]
            simp only [Option.some.injEq, Prod.mk.injEq] at H
            obtain ⟨rfl, rfl⟩ := H
            go_wp2_with (first | ((with_reducible refine gate_callee (f := 11) rfl ?_); refine goesL_ (some 18) rfl rfl Tryd.func11 (by kernel_rfl) rfl #[.int .i32 a0] rfl (by (try simp only [List.map_toArray, List.map_cons, List.map_nil]); first | done | rfl | (simp only [List.length_drop, List.length_take]; rfl)) ?_; (with_reducible refine (date_Day_Civil.calls kj2 a0 t124 t125 t126 none _ A6.out).mono ?_); rintro e w29 ⟨rfl, hb⟩; refine ⟨_, rfl, ?_⟩; have n0_ := Aside0.mk (below_step (by repeat (first | (with_reducible first | exact HB.out | apply below_alloc | apply pw_below_drewN | apply below_drew1) | exact HB.out)) hb); clear HB; have HB := n0_; clear n0_; (try clear hb); (try clear hb2); (try clear hk); (try clear hi); (try simp only [errW_none, errW_some])) | ((with_reducible refine gate_dst (N := 6) rfl ?_); refine box_event ?hg (N := 6) ?hd (cs := #[.int .i64 0, .int .i64 0, .int .i64 0]) (t := 30) ?hr ?_; (case hd => rfl); (case hg => rfl); (case hr => first | (go_simp; done) | (go_simp; rfl)); intro gb128 hg w30 hbox hb; have n0_ := Aside0.mk (below_step (by repeat (first | (with_reducible first | exact HB.out | apply below_alloc | apply pw_below_drewN | apply below_drew1) | exact HB.out)) hb); have n1_ := Aside0.mk (hbox); have n2_ := Aside0.mk ((by rw [hg]; exact (below_size (by repeat (first | (with_reducible first | exact HB.out | apply below_alloc | apply pw_below_drewN | apply below_drew1) | exact HB.out))) : w.heap.size ≤ gb128)); have n3_ := Aside0.mk ((by rw [hg]; exact (below_size (by repeat (first | (with_reducible first | exact HB.out | apply below_alloc | apply pw_below_drewN | apply below_drew1) | exact HB.out))) : w.heap.size ≤ gb128)); clear HB; have HB := n0_; have BK128 := n1_; have GW128 := n2_; have GE128 := n3_; clear n0_ n1_ n2_ n3_; clear hb hbox hg; have hcz31_0 : w30.cell? ⟨gb128, 0, none⟩ = some (.int .i64 0) := (blk_cell BK128.out 0).trans rfl; have hcz31_1 : w30.cell? ⟨gb128, 1, none⟩ = some (.int .i64 0) := (blk_cell BK128.out 1).trans rfl; have hcz31_2 : w30.cell? ⟨gb128, 2, none⟩ = some (.int .i64 0) := (blk_cell BK128.out 2).trans rfl; have hfz31_0 := blk_frozen BK128.out 0; have hfz31_1 := blk_frozen BK128.out 1; have hfz31_2 := blk_frozen BK128.out 2) | ((with_reducible refine gate_callee (f := 12) rfl ?_); refine goesL_ (some 25) rfl rfl Tryd.func12 (by kernel_rfl) rfl #[.agg #[.int .i64 t124, .int .i64 t125, .int .i64 t126]] rfl (by (try simp only [List.map_toArray, List.map_cons, List.map_nil]); first | done | rfl | (simp only [List.length_drop, List.length_take]; rfl)) ?_; (with_reducible refine (date_Civil_Last.calls kj2 t124 t125 t126 t130 _ A7.out).mono ?_); rintro e w32 ⟨rfl, hb⟩; refine ⟨_, rfl, ?_⟩; have n0_ := Aside0.mk (blk_below (g := gb128) (o := .cells #[.int .i64 t124, .int .i64 t125, .int .i64 t126] 30 (0, 0)) (by (with_reducible repeat (first | refine blk_drewN ?_ _ | refine blk_drew ?_ | refine blk_alloc ?_ _)); refine blk_put (cs := #[.int .i64 t124, .int .i64 t125, .int .i64 0]) ?_ 2 _ rfl; (with_reducible repeat (first | refine blk_drewN ?_ _ | refine blk_drew ?_ | refine blk_alloc ?_ _)); refine blk_put (cs := #[.int .i64 t124, .int .i64 0, .int .i64 0]) ?_ 1 _ rfl; (with_reducible repeat (first | refine blk_drewN ?_ _ | refine blk_drew ?_ | refine blk_alloc ?_ _)); refine blk_put (cs := #[.int .i64 0, .int .i64 0, .int .i64 0]) ?_ 0 _ rfl; (with_reducible repeat (first | refine blk_drewN ?_ _ | refine blk_drew ?_ | refine blk_alloc ?_ _)); exact BK128.out) hb); have n1_ := Aside0.mk (below_step (by repeat (first | (with_reducible first | exact HB.out | apply below_alloc | apply pw_below_drewN | apply below_drew1 | refine below_set ?_ GE128.out) | exact HB.out)) hb); clear BK128; clear HB; have BK128 := n0_; have HB := n1_; clear n0_ n1_; (try clear hb); (try clear hb2); (try clear hk); (try clear hi); have hcz33_0 : w32.cell? ⟨gb128, 0, none⟩ = some (.int .i64 t124) := (blk_cell BK128.out 0).trans rfl; have hcz33_1 : w32.cell? ⟨gb128, 1, none⟩ = some (.int .i64 t125) := (blk_cell BK128.out 1).trans rfl; have hcz33_2 : w32.cell? ⟨gb128, 2, none⟩ = some (.int .i64 t126) := (blk_cell BK128.out 2).trans rfl; have hfz33_0 := blk_frozen BK128.out 0; have hfz33_1 := blk_frozen BK128.out 1; have hfz33_2 := blk_frozen BK128.out 2) | ((with_reducible refine gate_callee (f := 25) rfl ?_); refine goesL_ (some 29) rfl rfl Tryd.func25 (by kernel_rfl) rfl #[.agg #[.int .i64 t124, .int .i64 t125, .int .i64 t126], .int .i64 a1] rfl (by (try simp only [List.map_toArray, List.map_cons, List.map_nil]); first | done | rfl | (simp only [List.length_drop, List.length_take]; rfl)) ?_; (with_reducible refine (date_Civil_Months.calls kj2 t124 t125 t126 a1 t131 t132 t133 (some q135) _ A8.out).mono ?_); rintro e w34 ⟨rfl, hb⟩; refine ⟨_, rfl, ?_⟩; have n0_ := Aside0.mk (blk_below (g := gb128) (o := .cells #[.int .i64 t124, .int .i64 t125, .int .i64 t126] 30 (0, 0)) (by (with_reducible repeat (first | refine blk_drewN ?_ _ | refine blk_drew ?_ | refine blk_alloc ?_ _)); exact BK128.out) hb); have n1_ := Aside0.mk (below_step (by repeat (first | (with_reducible first | exact HB.out | apply below_alloc | apply pw_below_drewN | apply below_drew1 | refine below_set ?_ GE128.out) | exact HB.out)) hb); clear BK128; clear HB; have BK128 := n0_; have HB := n1_; clear n0_ n1_; (try clear hb); (try clear hb2); (try clear hk); (try clear hi); (try simp only [errW_none, errW_some]); have hcz35_0 : w34.cell? ⟨gb128, 0, none⟩ = some (.int .i64 t124) := (blk_cell BK128.out 0).trans rfl; have hcz35_1 : w34.cell? ⟨gb128, 1, none⟩ = some (.int .i64 t125) := (blk_cell BK128.out 1).trans rfl; have hcz35_2 : w34.cell? ⟨gb128, 2, none⟩ = some (.int .i64 t126) := (blk_cell BK128.out 2).trans rfl; have hfz35_0 := blk_frozen BK128.out 0; have hfz35_1 := blk_frozen BK128.out 1; have hfz35_2 := blk_frozen BK128.out 2))
            go_ret2
            exact ⟨by first | rfl | (simp [errW_none, errW_some] <;> rfl) | (simp [*, errW_none, errW_some] <;> rfl), by repeat (first | (with_reducible first | exact HB.out | apply below_alloc | apply pw_below_drewN | apply below_drew1 | refine below_set ?_ GE128.out) | exact HB.out)⟩
        · have H1 : (some (0, some q129)) = some (r1, r2) := by rw [if_neg (show ¬ (some q129).isNone = true by simp)] at H; exact H
          clear H
          have H := H1
          clear H1
          try simp only [errW_none, errW_some]
          simp only [Option.some.injEq, Prod.mk.injEq] at H
          obtain ⟨rfl, rfl⟩ := H
          go_wp2_with (first | ((with_reducible refine gate_callee (f := 11) rfl ?_); refine goesL_ (some 18) rfl rfl Tryd.func11 (by kernel_rfl) rfl #[.int .i32 a0] rfl (by (try simp only [List.map_toArray, List.map_cons, List.map_nil]); first | done | rfl | (simp only [List.length_drop, List.length_take]; rfl)) ?_; (with_reducible refine (date_Day_Civil.calls kj2 a0 t124 t125 t126 (some q129) _ A6.out).mono ?_); rintro e w36 ⟨rfl, hb⟩; refine ⟨_, rfl, ?_⟩; have n0_ := Aside0.mk (below_step (by repeat (first | (with_reducible first | exact HB.out | apply below_alloc | apply pw_below_drewN | apply below_drew1) | exact HB.out)) hb); clear HB; have HB := n0_; clear n0_; (try clear hb); (try clear hb2); (try clear hk); (try clear hi); (try simp only [errW_none, errW_some])) | ((with_reducible refine gate_dst (N := 6) rfl ?_); refine box_event ?hg (N := 6) ?hd (cs := #[.int .i64 0, .int .i64 0, .int .i64 0]) (t := 30) ?hr ?_; (case hd => rfl); (case hg => rfl); (case hr => first | (go_simp; done) | (go_simp; rfl)); intro gb128 hg w37 hbox hb; have n0_ := Aside0.mk (below_step (by repeat (first | (with_reducible first | exact HB.out | apply below_alloc | apply pw_below_drewN | apply below_drew1) | exact HB.out)) hb); have n1_ := Aside0.mk (hbox); have n2_ := Aside0.mk ((by rw [hg]; exact (below_size (by repeat (first | (with_reducible first | exact HB.out | apply below_alloc | apply pw_below_drewN | apply below_drew1) | exact HB.out))) : w.heap.size ≤ gb128)); have n3_ := Aside0.mk ((by rw [hg]; exact (below_size (by repeat (first | (with_reducible first | exact HB.out | apply below_alloc | apply pw_below_drewN | apply below_drew1) | exact HB.out))) : w.heap.size ≤ gb128)); clear HB; have HB := n0_; have BK128 := n1_; have GW128 := n2_; have GE128 := n3_; clear n0_ n1_ n2_ n3_; clear hb hbox hg; have hcz38_0 : w37.cell? ⟨gb128, 0, none⟩ = some (.int .i64 0) := (blk_cell BK128.out 0).trans rfl; have hcz38_1 : w37.cell? ⟨gb128, 1, none⟩ = some (.int .i64 0) := (blk_cell BK128.out 1).trans rfl; have hcz38_2 : w37.cell? ⟨gb128, 2, none⟩ = some (.int .i64 0) := (blk_cell BK128.out 2).trans rfl; have hfz38_0 := blk_frozen BK128.out 0; have hfz38_1 := blk_frozen BK128.out 1; have hfz38_2 := blk_frozen BK128.out 2))
          go_ret2
          exact ⟨by first | rfl | (simp [errW_none, errW_some] <;> rfl) | (simp [*, errW_none, errW_some] <;> rfl), by repeat (first | (with_reducible first | exact HB.out | apply below_alloc | apply pw_below_drewN | apply below_drew1 | refine below_set ?_ GE128.out) | exact HB.out)⟩

/-! ### strconv_Itoa: function 49 -/
open Go.Proofs.YthokfepglahgpaaDoor.M (Laid Laid.below Laid.pow)
def strconv_Itoa.f (a0 : Int) : Option ByteArray :=
  if -9223372036854775808 ≤ a0 ∧ a0 ≤ 9223372036854775807 then some ⟨(Go.Lib.itoa a0).toArray⟩ else none
theorem itoa_grow {B : Nat} {w W : World} (h : Below B w W) (hB : B ≤ W.heap.size) (os : Array Obj) : Below B w (Go.Sort.grow W os) :=
  h.trans ⟨rfl, rfl, rfl, by simp [Go.Sort.grow], fun k hk => by simp only [Go.Sort.grow]; exact Array.getElem?_append_left (Nat.lt_of_lt_of_le hk hB)⟩
theorem strconv_Itoa.calls (a0 : Int) (r : ByteArray) (w : World) (hG : Laid w) (h : strconv_Itoa.f a0 = some r) :
    Calls Tryd.prog 49 #[.int .i64 a0] w fun e w' => e = .returned (.string r) ∧ Below w.heap.size w w' := by
  unfold strconv_Itoa.f at h
  split at h
  · rename_i hb
    obtain rfl := Option.some.inj h
    refine (Tryd.strconv_Itoa a0 hb.1 hb.2 w hG.pow).mono ?_
    rintro e w' ⟨rfl, k, os, rfl⟩
    exact ⟨rfl, itoa_grow (pw_below_drewN (Below.refl _ _) _) (Nat.le_refl _) _⟩
  · exact absurd h (by simp)


/-! ### date_pad: function 39 -/
def date_pad.l0 : Nat → Int → ByteArray → Option (ByteArray)
  | 0, _, _ => none
  | k + 1, x1, x5 => if (x5.size : Int) < x1 then (if 1 + x5.size ≤ 9223372036854775807 then (date_pad.l0 k x1 ((⟨#[48]⟩ : ByteArray) ++ x5)) else (none)) else (some x5)
def date_pad.f (k : Nat) (a0 : Int) (a1 : Int) : Option (ByteArray) := (strconv_Itoa.f a0).bind fun t141 => (date_pad.l0 k a1 t141)
theorem date_pad.mono_l : ∀ k, (∀ y0 y1, LeO (date_pad.l0 k y0 y1) (date_pad.l0 (k + 1) y0 y1))
  | 0 => fun _ _ r h => by simp [date_pad.l0] at h
  | k + 1 => by
    have ih0 := date_pad.mono_l k
    · intro y0 y1
      unfold date_pad.l0
      repeat' first
      | (with_reducible exact ih0 _ _)
      | (with_reducible exact LeO.refl _)
      | (with_reducible exact LeO.none _)
      | (with_reducible refine LeO.ite ?_ ?_)
      | (with_reducible refine LeO.bind ?_ (fun _ => ?_))
      | exact ih0 _ _
      | exact LeO.none _
      | refine LeO.ite ?_ ?_
      | refine LeO.bind ?_ (fun _ => ?_)
theorem date_pad.mono : ∀ a0 a1 k, LeO (date_pad.f k a0 a1) (date_pad.f (k + 1) a0 a1) := by
  intro a0 a1 k
  have ih0 := date_pad.mono_l k
  unfold date_pad.f
  repeat' first
      | (with_reducible exact ih0 _ _)
      | (with_reducible exact LeO.refl _)
      | (with_reducible exact LeO.none _)
      | (with_reducible refine LeO.ite ?_ ?_)
      | (with_reducible refine LeO.bind ?_ (fun _ => ?_))
      | exact ih0 _ _
      | exact LeO.none _
      | refine LeO.ite ?_ ?_
      | refine LeO.bind ?_ (fun _ => ?_)
set_option maxHeartbeats 8000000 in
set_option maxRecDepth 100000 in
theorem date_pad.calls (k : Nat) (a0 : Int) (a1 : Int) (r : ByteArray) (w : World) (hG : Go.Proofs.YthokfepglahgpaaDoor.M.Laid w) (h : date_pad.f k a0 a1 = some r) :
    Calls Tryd.prog 39 #[.int .i64 a0, .int .i64 a1] w fun e w' => e = .returned (.string r) ∧ Below w.heap.size w w' := by
  have HB := Aside0.mk (Below.refl w.heap.size w)
  have HG := Aside0.mk hG
  clear hG
  have H : ((strconv_Itoa.f a0).bind fun t141 => (date_pad.l0 k a1 t141)) = some r := h
  clear h
  replace H := Option.bind_eq_some_iff.mp H
  obtain ⟨t141, A30, H⟩ := H
  replace H : (date_pad.l0 k a1 t141) = some r := H
  have A3 := Aside0.mk A30
  clear A30
  have H' := Aside0.mk H
  clear H
  go_enter Tryd.func39, Tryd.ntmps39
  go_wp2_with (first | ((with_reducible refine gate_callee (f := 49) rfl ?_); refine goesL_ (some 7) rfl rfl Tryd.func49 (by kernel_rfl) rfl #[.int .i64 a0] rfl (by (try simp only [List.map_toArray, List.map_cons, List.map_nil]); first | done | rfl | (simp only [List.length_drop, List.length_take]; rfl)) ?_; (with_reducible refine (strconv_Itoa.calls a0 t141 _ ?hGL A3.out).mono ?_); (case hGL => exact Go.Proofs.YthokfepglahgpaaDoor.M.Laid.below HG.out (by repeat (first | (with_reducible first | exact HB.out | apply below_alloc | apply pw_below_drewN | apply below_drew1) | exact HB.out))); rintro e w4 ⟨rfl, hb⟩; refine ⟨_, rfl, ?_⟩; have n0_ := Aside0.mk (below_step (by repeat (first | (with_reducible first | exact HB.out | apply below_alloc | apply pw_below_drewN | apply below_drew1) | exact HB.out)) hb); clear HB; have HB := n0_; clear n0_; (try clear hb); (try clear hb2); (try clear hk); (try clear hi)))
  go_loopg [5] k (fun kq v5 w' => ∃ (x5_1 : ByteArray), v5 = .string x5_1 ∧ Aside0 (date_pad.l0 kq a1 x5_1 = some r) ∧ Aside0 (kq ≤ k) ∧ Aside0 (Below w.heap.size w w'))
  case atStart => exact ⟨(t141), (by first | rfl | (simp; done) | (simp [*]; done)), H', ⟨Nat.le_refl _⟩, ⟨by repeat (first | (with_reducible first | exact HB.out | apply below_alloc | apply pw_below_drewN | apply below_drew1) | exact HB.out)⟩⟩
  case round =>
    clear H'
    try clear p2
    try clear c3
    try clear c4
    obtain ⟨x5_1, rfl, HA, HK1, HB⟩ := hrel
    cases gk with
    | zero => exact absurd HA.out (by simp [date_pad.l0])
    | succ k1 =>
      have H := HA.out
      clear HA
      simp only [date_pad.l0] at H
      by_cases c5 : (x5_1.size : Int) < a1
      · rw [if_pos c5] at H
        have c5b0 : decide ((x5_1.size : Int) < a1) = true := decide_eq_true c5
        clear c5
        by_cases c6 : 1 + x5_1.size ≤ 9223372036854775807
        · rw [if_pos c6] at H
          have c6b0 := eq_true c6
          have c6b1 : decide (1 + x5_1.size ≤ 9223372036854775807) = true := decide_eq_true c6
          try have c6b2 : (9223372036854775807 < 1 + x5_1.size) = False := eq_false (Nat.not_lt.2 c6)
          have H' := Aside0.mk H
          clear H
          go_wp2
          go_roundg k1
          case measure => have := HK1.out; omega
          case rel => exact ⟨((⟨#[48]⟩ : ByteArray) ++ x5_1), (by first | rfl | (simp; done) | (simp [*]; done)), H', ⟨by have := HK1.out; omega⟩, ⟨by repeat (first | (with_reducible first | exact HB.out | apply below_alloc | apply pw_below_drewN | apply below_drew1) | exact HB.out)⟩⟩
        · rw [if_neg c6] at H
          exact absurd H (by simp)
      · rw [if_neg c5] at H
        have c5b0 : decide ((x5_1.size : Int) < a1) = false := decide_eq_false c5
        clear c5
        obtain rfl := Option.some.inj H
        go_wp2
        go_ret
        exact ⟨by first | rfl | (simp [errW_none, errW_some] <;> rfl) | (simp [*, errW_none, errW_some] <;> rfl), by repeat (first | (with_reducible first | exact HB.out | apply below_alloc | apply pw_below_drewN | apply below_drew1) | exact HB.out)⟩

/-! ### date_Day_Text: function 24 -/
def date_Day_Text.f (k : Nat) (a0 : Int) : Option (ByteArray) := (date_Day_Civil.f k a0).bind fun bt142 => (if bt142.2.2.2.isNone = true then ((date_pad.f k bt142.1 4).bind fun t148 => (if t148.size + 1 ≤ 9223372036854775807 then ((date_pad.f k bt142.2.1 2).bind fun t149 => (if (t148 ++ (⟨#[45]⟩ : ByteArray)).size + t149.size ≤ 9223372036854775807 then (if ((t148 ++ (⟨#[45]⟩ : ByteArray)) ++ t149).size + 1 ≤ 9223372036854775807 then ((date_pad.f k bt142.2.2.1 2).bind fun t150 => (if (((t148 ++ (⟨#[45]⟩ : ByteArray)) ++ t149) ++ (⟨#[45]⟩ : ByteArray)).size + t150.size ≤ 9223372036854775807 then (some ((((t148 ++ (⟨#[45]⟩ : ByteArray)) ++ t149) ++ (⟨#[45]⟩ : ByteArray)) ++ t150)) else (none))) else (none)) else (none))) else (none))) else (some (⟨#[]⟩ : ByteArray)))
theorem date_Day_Text.mono : ∀ a0 k, LeO (date_Day_Text.f k a0) (date_Day_Text.f (k + 1) a0) := by
  intro a0 k
  unfold date_Day_Text.f
  repeat' first
      | (with_reducible exact date_Day_Civil.mono _ _)
      | (with_reducible exact date_pad.mono _ _ _)
      | (with_reducible exact LeO.refl _)
      | (with_reducible exact LeO.none _)
      | (with_reducible refine LeO.ite ?_ ?_)
      | (with_reducible refine LeO.bind ?_ (fun _ => ?_))
      | exact date_Day_Civil.mono _ _
      | exact date_pad.mono _ _ _
      | exact LeO.none _
      | refine LeO.ite ?_ ?_
      | refine LeO.bind ?_ (fun _ => ?_)
def date_Day_Text.T4 : Bool × List (List Nat × List Nat) := (true, [([], []), ([0], [0]), ([1], [1]), ([2], [2]), ([], []), ([4], [4]), ([5, 2], [5]), ([3, 6], [3, 6]), ([7], [7]), ([], []), ([9], [9]), ([10, 6], [10]), ([8, 11], [8, 11]), ([12, 11, 0, 1, 2, 3, 4, 5, 6, 7, 8, 9, 10, 11, 12], [12])])
def date_Day_Text.B4 : List Nat := [0, 1, 3, 7, 0, 16, 55, 127, 255, 0, 512, 1655, 4095, 8191]
theorem date_Day_Text.tab4 : rtab .any (opsOf Tryd.f24 4) = date_Day_Text.T4 := by kernel_rfl
theorem date_Day_Text.bits4 : waitsOk date_Day_Text.T4.2 date_Day_Text.B4 = true := by kernel_rfl
set_option maxHeartbeats 8000000 in
set_option maxRecDepth 100000 in
theorem date_Day_Text.calls (k : Nat) (a0 : Int) (r : ByteArray) (w : World) (hG : Go.Proofs.YthokfepglahgpaaDoor.M.Laid w) (h : date_Day_Text.f k a0 = some r) :
    Calls Tryd.prog 24 #[.int .i32 a0] w fun e w' => e = .returned (.string r) ∧ Below w.heap.size w w' := by
  have hu30 := Tryd.underlying30
  have hu26 := Tryd.underlying26
  have hu45 := Tryd.underlying45
  have HB := Aside0.mk (Below.refl w.heap.size w)
  have HG := Aside0.mk hG
  clear hG
  have H : ((date_Day_Civil.f k a0).bind fun bt142 => (if bt142.2.2.2.isNone = true then ((date_pad.f k bt142.1 4).bind fun t148 => (if t148.size + 1 ≤ 9223372036854775807 then ((date_pad.f k bt142.2.1 2).bind fun t149 => (if (t148 ++ (⟨#[45]⟩ : ByteArray)).size + t149.size ≤ 9223372036854775807 then (if ((t148 ++ (⟨#[45]⟩ : ByteArray)) ++ t149).size + 1 ≤ 9223372036854775807 then ((date_pad.f k bt142.2.2.1 2).bind fun t150 => (if (((t148 ++ (⟨#[45]⟩ : ByteArray)) ++ t149) ++ (⟨#[45]⟩ : ByteArray)).size + t150.size ≤ 9223372036854775807 then (some ((((t148 ++ (⟨#[45]⟩ : ByteArray)) ++ t149) ++ (⟨#[45]⟩ : ByteArray)) ++ t150)) else (none))) else (none)) else (none))) else (none))) else (some (⟨#[]⟩ : ByteArray)))) = some r := h
  clear h
  replace H := Option.bind_eq_some_iff.mp H
  obtain ⟨⟨t142, t143, t144, t145⟩, A20, H⟩ := H
  replace H : (if t145.isNone = true then ((date_pad.f k t142 4).bind fun t148 => (if t148.size + 1 ≤ 9223372036854775807 then ((date_pad.f k t143 2).bind fun t149 => (if (t148 ++ (⟨#[45]⟩ : ByteArray)).size + t149.size ≤ 9223372036854775807 then (if ((t148 ++ (⟨#[45]⟩ : ByteArray)) ++ t149).size + 1 ≤ 9223372036854775807 then ((date_pad.f k t144 2).bind fun t150 => (if (((t148 ++ (⟨#[45]⟩ : ByteArray)) ++ t149) ++ (⟨#[45]⟩ : ByteArray)).size + t150.size ≤ 9223372036854775807 then (some ((((t148 ++ (⟨#[45]⟩ : ByteArray)) ++ t149) ++ (⟨#[45]⟩ : ByteArray)) ++ t150)) else (none))) else (none)) else (none))) else (none))) else (some (⟨#[]⟩ : ByteArray))) = some r := H
  have A2 := Aside0.mk A20
  clear A20
  rcases t145 with _ | q147
  · have H1 : ((date_pad.f k t142 4).bind fun t148 => (if t148.size + 1 ≤ 9223372036854775807 then ((date_pad.f k t143 2).bind fun t149 => (if (t148 ++ (⟨#[45]⟩ : ByteArray)).size + t149.size ≤ 9223372036854775807 then (if ((t148 ++ (⟨#[45]⟩ : ByteArray)) ++ t149).size + 1 ≤ 9223372036854775807 then ((date_pad.f k t144 2).bind fun t150 => (if (((t148 ++ (⟨#[45]⟩ : ByteArray)) ++ t149) ++ (⟨#[45]⟩ : ByteArray)).size + t150.size ≤ 9223372036854775807 then (some ((((t148 ++ (⟨#[45]⟩ : ByteArray)) ++ t149) ++ (⟨#[45]⟩ : ByteArray)) ++ t150)) else (none))) else (none)) else (none))) else (none))) = some r := by rw [if_pos (show (none : Option Int).isNone = true by rfl)] at H; exact H
    clear H
    have H := H1
    clear H1
    try simp only [errW_none, errW_some]
    replace H := Option.bind_eq_some_iff.mp H
    obtain ⟨t148, A30, H⟩ := H
    replace H : (if t148.size + 1 ≤ 9223372036854775807 then ((date_pad.f k t143 2).bind fun t149 => (if (t148 ++ (⟨#[45]⟩ : ByteArray)).size + t149.size ≤ 9223372036854775807 then (if ((t148 ++ (⟨#[45]⟩ : ByteArray)) ++ t149).size + 1 ≤ 9223372036854775807 then ((date_pad.f k t144 2).bind fun t150 => (if (((t148 ++ (⟨#[45]⟩ : ByteArray)) ++ t149) ++ (⟨#[45]⟩ : ByteArray)).size + t150.size ≤ 9223372036854775807 then (some ((((t148 ++ (⟨#[45]⟩ : ByteArray)) ++ t149) ++ (⟨#[45]⟩ : ByteArray)) ++ t150)) else (none))) else (none)) else (none))) else (none)) = some r := H
    have A3 := Aside0.mk A30
    clear A30
    by_cases c4 : t148.size + 1 ≤ 9223372036854775807
    · rw [if_pos c4] at H
      have c4b0 := eq_true c4
      have c4b1 : decide (t148.size + 1 ≤ 9223372036854775807) = true := decide_eq_true c4
      try have c4b2 : (9223372036854775807 < t148.size + 1) = False := eq_false (Nat.not_lt.2 c4)
      replace H := Option.bind_eq_some_iff.mp H
      obtain ⟨t149, A50, H⟩ := H
      replace H : (if (t148 ++ (⟨#[45]⟩ : ByteArray)).size + t149.size ≤ 9223372036854775807 then (if ((t148 ++ (⟨#[45]⟩ : ByteArray)) ++ t149).size + 1 ≤ 9223372036854775807 then ((date_pad.f k t144 2).bind fun t150 => (if (((t148 ++ (⟨#[45]⟩ : ByteArray)) ++ t149) ++ (⟨#[45]⟩ : ByteArray)).size + t150.size ≤ 9223372036854775807 then (some ((((t148 ++ (⟨#[45]⟩ : ByteArray)) ++ t149) ++ (⟨#[45]⟩ : ByteArray)) ++ t150)) else (none))) else (none)) else (none)) = some r := H
      have A5 := Aside0.mk A50
      clear A50
      by_cases c6 : (t148 ++ (⟨#[45]⟩ : ByteArray)).size + t149.size ≤ 9223372036854775807
      · rw [if_pos c6] at H
        have c6b0 := eq_true c6
        have c6b1 : decide ((t148 ++ (⟨#[45]⟩ : ByteArray)).size + t149.size ≤ 9223372036854775807) = true := decide_eq_true c6
        try have c6b2 : (9223372036854775807 < (t148 ++ (⟨#[45]⟩ : ByteArray)).size + t149.size) = False := eq_false (Nat.not_lt.2 c6)
        try have c6b3 : (9223372036854775807 < t148.size + 1 + t149.size) = False := eq_false (by have q_ := c6; simp only [ByteArray.size_append, show (⟨#[45]⟩ : ByteArray).size = 1 from rfl] at q_; exact Nat.not_lt.2 q_)
        by_cases c7 : ((t148 ++ (⟨#[45]⟩ : ByteArray)) ++ t149).size + 1 ≤ 9223372036854775807
        · rw [if_pos c7] at H
          have c7b0 := eq_true c7
          have c7b1 : decide (((t148 ++ (⟨#[45]⟩ : ByteArray)) ++ t149).size + 1 ≤ 9223372036854775807) = true := decide_eq_true c7
          try have c7b2 : (9223372036854775807 < ((t148 ++ (⟨#[45]⟩ : ByteArray)) ++ t149).size + 1) = False := eq_false (Nat.not_lt.2 c7)
          try have c7b3 : (9223372036854775807 < t148.size + 1 + t149.size + 1) = False := eq_false (by have q_ := c7; simp only [ByteArray.size_append, show (⟨#[45]⟩ : ByteArray).size = 1 from rfl] at q_; exact Nat.not_lt.2 q_)
          replace H := Option.bind_eq_some_iff.mp H
          obtain ⟨t150, A80, H⟩ := H
          replace H : (if (((t148 ++ (⟨#[45]⟩ : ByteArray)) ++ t149) ++ (⟨#[45]⟩ : ByteArray)).size + t150.size ≤ 9223372036854775807 then (some ((((t148 ++ (⟨#[45]⟩ : ByteArray)) ++ t149) ++ (⟨#[45]⟩ : ByteArray)) ++ t150)) else (none)) = some r := H
          have A8 := Aside0.mk A80
          clear A80
          by_cases c9 : (((t148 ++ (⟨#[45]⟩ : ByteArray)) ++ t149) ++ (⟨#[45]⟩ : ByteArray)).size + t150.size ≤ 9223372036854775807
          · rw [if_pos c9] at H
            have c9b0 := eq_true c9
            have c9b1 : decide ((((t148 ++ (⟨#[45]⟩ : ByteArray)) ++ t149) ++ (⟨#[45]⟩ : ByteArray)).size + t150.size ≤ 9223372036854775807) = true := decide_eq_true c9
            try have c9b2 : (9223372036854775807 < (((t148 ++ (⟨#[45]⟩ : ByteArray)) ++ t149) ++ (⟨#[45]⟩ : ByteArray)).size + t150.size) = False := eq_false (Nat.not_lt.2 c9)
            try have c9b3 : (9223372036854775807 < t148.size + 1 + t149.size + 1 + t150.size) = False := eq_false (by have q_ := c9; simp only [ByteArray.size_append, show (⟨#[45]⟩ : ByteArray).size = 1 from rfl] at q_; exact Nat.not_lt.2 q_)
            obtain rfl := Option.some.inj H
            go_enter Tryd.func24, Tryd.ntmps24
            try go_wp2_with (first | ((with_reducible refine gate_callee (f := 11) rfl ?_); refine goesL_ (some 7) rfl rfl Tryd.func11 (by kernel_rfl) rfl #[.int .i32 a0] rfl (by (try simp only [List.map_toArray, List.map_cons, List.map_nil]); first | done | rfl | (simp only [List.length_drop, List.length_take]; rfl)) ?_; (with_reducible refine (date_Day_Civil.calls k a0 t142 t143 t144 none _ A2.out).mono ?_); rintro e w10 ⟨rfl, hb⟩; refine ⟨_, rfl, ?_⟩; have n0_ := Aside0.mk (below_step (by repeat (first | (with_reducible first | exact HB.out | apply below_alloc | apply pw_below_drewN | apply below_drew1) | exact HB.out)) hb); clear HB; have HB := n0_; clear n0_; (try clear hb); (try clear hb2); (try clear hk); (try clear hi); (try simp only [errW_none, errW_some])) | ((with_reducible refine gate_dst (N := 3) rfl ?_); refine box_event ?hg (N := 3) ?hd (cs := #[.int .i64 0, .int .i64 0, .int .i64 0]) (t := 30) ?hr ?_; (case hd => rfl); (case hg => rfl); (case hr => first | (go_simp; done) | (go_simp; rfl)); intro gb146 hg w11 hbox hb; have n0_ := Aside0.mk (below_step (by repeat (first | (with_reducible first | exact HB.out | apply below_alloc | apply pw_below_drewN | apply below_drew1) | exact HB.out)) hb); have n1_ := Aside0.mk (hbox); have n2_ := Aside0.mk ((by rw [hg]; exact (below_size (by repeat (first | (with_reducible first | exact HB.out | apply below_alloc | apply pw_below_drewN | apply below_drew1) | exact HB.out))) : w.heap.size ≤ gb146)); have n3_ := Aside0.mk ((by rw [hg]; exact (below_size (by repeat (first | (with_reducible first | exact HB.out | apply below_alloc | apply pw_below_drewN | apply below_drew1) | exact HB.out))) : w.heap.size ≤ gb146)); clear HB; have HB := n0_; have BK146 := n1_; have GW146 := n2_; have GE146 := n3_; clear n0_ n1_ n2_ n3_; clear hb hbox hg; have hcz12_0 : w11.cell? ⟨gb146, 0, none⟩ = some (.int .i64 0) := (blk_cell BK146.out 0).trans rfl; have hcz12_1 : w11.cell? ⟨gb146, 1, none⟩ = some (.int .i64 0) := (blk_cell BK146.out 1).trans rfl; have hcz12_2 : w11.cell? ⟨gb146, 2, none⟩ = some (.int .i64 0) := (blk_cell BK146.out 2).trans rfl; have hfz12_0 := blk_frozen BK146.out 0; have hfz12_1 := blk_frozen BK146.out 1; have hfz12_2 := blk_frozen BK146.out 2))
            have n0_ : Aside0 ((((w11.setCell ⟨gb146, 0, none⟩ (.int .i64 t142)).setCell ⟨gb146, 1, none⟩ (.int .i64 t143)).setCell ⟨gb146, 2, none⟩ (.int .i64 t144)).heap[gb146]? = some (.cells #[.int .i64 t142, .int .i64 t143, .int .i64 t144] 30 (0, 0))) := ⟨by (with_reducible repeat (first | refine blk_drewN ?_ _ | refine blk_drew ?_ | refine blk_alloc ?_ _)); refine blk_put (cs := #[.int .i64 t142, .int .i64 t143, .int .i64 0]) ?_ 2 _ rfl; (with_reducible repeat (first | refine blk_drewN ?_ _ | refine blk_drew ?_ | refine blk_alloc ?_ _)); refine blk_put (cs := #[.int .i64 t142, .int .i64 0, .int .i64 0]) ?_ 1 _ rfl; (with_reducible repeat (first | refine blk_drewN ?_ _ | refine blk_drew ?_ | refine blk_alloc ?_ _)); refine blk_put (cs := #[.int .i64 0, .int .i64 0, .int .i64 0]) ?_ 0 _ rfl; (with_reducible repeat (first | refine blk_drewN ?_ _ | refine blk_drew ?_ | refine blk_alloc ?_ _)); exact BK146.out⟩
            have n1_ : Aside0 (Below w.heap.size w (((w11.setCell ⟨gb146, 0, none⟩ (.int .i64 t142)).setCell ⟨gb146, 1, none⟩ (.int .i64 t143)).setCell ⟨gb146, 2, none⟩ (.int .i64 t144))) := ⟨by repeat (first | (with_reducible first | exact HB.out | apply below_alloc | apply pw_below_drewN | apply below_drew1 | refine below_set ?_ GE146.out) | exact HB.out)⟩
            (try clear BK146)
            (try clear HB)
            generalize (((w11.setCell ⟨gb146, 0, none⟩ (.int .i64 t142)).setCell ⟨gb146, 1, none⟩ (.int .i64 t143)).setCell ⟨gb146, 2, none⟩ (.int .i64 t144)) = w13 at n0_ n1_ ⊢
            have BK146 := n0_
            have HB := n1_
            clear n0_ n1_
            have n0_ := Aside0.mk (blk_drew BK146.out)
            have n1_ := Aside0.mk (below_drew1 HB.out)
            clear BK146
            clear HB
            have BK146 := n0_
            have HB := n1_
            clear n0_ n1_
            refine start_ (n := 14) (S := fun w' => w'.cell? ⟨gb146, 0, none⟩ = some (.int .i64 t142) ∧ w'.cell? ⟨gb146, 1, none⟩ = some (.int .i64 t143) ∧ w'.cell? ⟨gb146, 2, none⟩ = some (.int .i64 t144)) (ds := []) #[false, false, false, false, false, false, false, false, false, false, false, false, false, false] (by kernel_rfl) rfl rfl ⟨(blk_cell BK146.out 0).trans rfl, (blk_cell BK146.out 1).trans rfl, (blk_cell BK146.out 2).trans rfl⟩ (fun hHeld => ?_); refine with_tabW date_Day_Text.tab4 date_Day_Text.bits4 (fun HT_ HW_ => ?_)
            generalize w13.drew = w14 at BK146 HB hHeld ⊢
            refine pure_ (i := 0) (N := some 12) (v := ?_) (a' := ?_) #[true, false, false, false, false, false, false, false, false, false, false, false, false, false] rfl rfl (any_of HT_.out (by kernel_rfl)) (fun _ _ _ h => h) (Or.inl ⟨by rfl, ?_⟩) ?_ ?_
            rotate_left
            · intro w'
              go_simp
              with_reducible rfl
            rotate_left
            · simp only [Act.put, List.setIfInBounds_toArray, List.set_cons_zero, List.set_cons_succ, i64_w, i32_w]
              rfl
            refine pure_ (i := 4) (N := some 16) (v := ?_) (a' := ?_) #[true, false, false, false, true, false, false, false, false, false, false, false, false, false] rfl rfl (any_of HT_.out (by kernel_rfl)) (fun _ _ _ h => h) (Or.inl ⟨by rfl, ?_⟩) ?_ ?_
            rotate_left
            · intro w'
              go_simp
              with_reducible rfl
            rotate_left
            · simp only [Act.put, List.setIfInBounds_toArray, List.set_cons_zero, List.set_cons_succ, i64_w, i32_w]
              rfl
            refine pure_ (i := 9) (N := some 21) (v := ?_) (a' := ?_) #[true, false, false, false, true, false, false, false, false, true, false, false, false, false] rfl rfl (any_of HT_.out (by kernel_rfl)) (fun _ _ _ h => h) (Or.inl ⟨by rfl, ?_⟩) ?_ ?_
            rotate_left
            · intro w'
              go_simp
              with_reducible rfl
            rotate_left
            · simp only [Act.put, List.setIfInBounds_toArray, List.set_cons_zero, List.set_cons_succ, i64_w, i32_w]
              rfl
            refine take_ (i := 1) (N := some 13) (v := ?_) (a' := ?_) #[true, true, false, false, true, false, false, false, false, true, false, false, false, false] rfl rfl (take_ofW HT_.out HW_.out (by kernel_rfl)) (fun _ _ _ h => h) (Or.inl ⟨by rfl, ?_⟩) hHeld ?_ ?_
            rotate_left
            · rintro w' ⟨s0, s1, s2⟩
              go_simp
              with_reducible rfl
            rotate_left
            · simp only [Act.put, List.setIfInBounds_toArray, List.set_cons_zero, List.set_cons_succ, i64_w, i32_w]
              rfl
            refine take_ (i := 5) (N := some 17) (v := ?_) (a' := ?_) #[true, true, false, false, true, true, false, false, false, true, false, false, false, false] rfl rfl (take_ofW HT_.out HW_.out (by kernel_rfl)) (fun _ _ _ h => h) (Or.inl ⟨by rfl, ?_⟩) hHeld ?_ ?_
            rotate_left
            · rintro w' ⟨s0, s1, s2⟩
              go_simp
              with_reducible rfl
            rotate_left
            · simp only [Act.put, List.setIfInBounds_toArray, List.set_cons_zero, List.set_cons_succ, i64_w, i32_w]
              rfl
            refine take_ (i := 10) (N := some 22) (v := ?_) (a' := ?_) #[true, true, false, false, true, true, false, false, false, true, true, false, false, false] rfl rfl (take_ofW HT_.out HW_.out (by kernel_rfl)) (fun _ _ _ h => h) (Or.inl ⟨by rfl, ?_⟩) hHeld ?_ ?_
            rotate_left
            · rintro w' ⟨s0, s1, s2⟩
              go_simp
              with_reducible rfl
            rotate_left
            · simp only [Act.put, List.setIfInBounds_toArray, List.set_cons_zero, List.set_cons_succ, i64_w, i32_w]
              rfl
            refine one_ (i := 2) (N := some 14) #[true, true, true, false, true, true, false, false, false, true, true, false, false, false] rfl rfl (one_of HT_.out (by kernel_rfl)) (by decide) (fun K hK => ?_)
            refine goes_ Tryd.func39 (by kernel_rfl) rfl #[.int .i64 t142, .int .i64 4] (by rfl) rfl rfl (by (try simp only [List.map_toArray, List.map_cons, List.map_nil]); first | done | rfl | (simp only [List.length_drop, List.length_take]; rfl)) ?_
            with_reducible refine (date_pad.calls k t142 4 t148 _ ?hGL A3.out).mono ?_
            case hGL => exact Go.Proofs.YthokfepglahgpaaDoor.M.Laid.below HG.out (by repeat (first | (with_reducible first | exact HB.out | apply below_alloc | apply pw_below_drewN | apply below_drew1 | refine below_set ?_ GE146.out) | exact HB.out))
            rintro e w15 ⟨rfl, hb⟩
            refine ⟨_, rfl, ?_⟩
            have n0_ := Aside0.mk (blk_below (g := gb146) (o := .cells #[.int .i64 t142, .int .i64 t143, .int .i64 t144] 30 (0, 0)) (by (with_reducible repeat (first | refine blk_drewN ?_ _ | refine blk_drew ?_ | refine blk_alloc ?_ _)); exact BK146.out) hb)
            have n1_ := Aside0.mk (below_step (by repeat (first | (with_reducible first | exact HB.out | apply below_alloc | apply pw_below_drewN | apply below_drew1 | refine below_set ?_ GE146.out) | exact HB.out)) hb)
            clear BK146
            clear HB
            have BK146 := n0_
            have HB := n1_
            clear n0_ n1_
            (try clear hb)
            (try clear hb2)
            (try clear hk)
            (try clear hi)
            refine hK.out _ _ ⟨(blk_cell BK146.out 0).trans rfl, (blk_cell BK146.out 1).trans rfl, (blk_cell BK146.out 2).trans rfl⟩ (fun hHeld => ?_)
            clear hK K
            refine norm_ (a' := ?_) ?_ ?_
            rotate_left
            · show Act.put _ (some 14) _ = _
              simp only [Act.put, List.setIfInBounds_toArray, List.set_cons_zero, List.set_cons_succ, i64_w, i32_w]
              rfl
            refine pure_ (i := 3) (N := some 15) (v := ?_) (a' := ?_) #[true, true, true, true, true, true, false, false, false, true, true, false, false, false] rfl rfl (any_of HT_.out (by kernel_rfl)) (fun _ _ _ h => h) (Or.inl ⟨by rfl, ?_⟩) ?_ ?_
            rotate_left
            · intro w'
              go_simp
              with_reducible rfl
            rotate_left
            · simp only [Act.put, List.setIfInBounds_toArray, List.set_cons_zero, List.set_cons_succ, i64_w, i32_w]
              rfl
            refine one_ (i := 6) (N := some 18) #[true, true, true, true, true, true, true, false, false, true, true, false, false, false] rfl rfl (one_of HT_.out (by kernel_rfl)) (by decide) (fun K hK => ?_)
            refine goes_ Tryd.func39 (by kernel_rfl) rfl #[.int .i64 t143, .int .i64 2] (by rfl) rfl rfl (by (try simp only [List.map_toArray, List.map_cons, List.map_nil]); first | done | rfl | (simp only [List.length_drop, List.length_take]; rfl)) ?_
            with_reducible refine (date_pad.calls k t143 2 t149 _ ?hGL A5.out).mono ?_
            case hGL => exact Go.Proofs.YthokfepglahgpaaDoor.M.Laid.below HG.out (by repeat (first | (with_reducible first | exact HB.out | apply below_alloc | apply pw_below_drewN | apply below_drew1 | refine below_set ?_ GE146.out) | exact HB.out))
            rintro e w16 ⟨rfl, hb⟩
            refine ⟨_, rfl, ?_⟩
            have n0_ := Aside0.mk (blk_below (g := gb146) (o := .cells #[.int .i64 t142, .int .i64 t143, .int .i64 t144] 30 (0, 0)) (by (with_reducible repeat (first | refine blk_drewN ?_ _ | refine blk_drew ?_ | refine blk_alloc ?_ _)); exact BK146.out) hb)
            have n1_ := Aside0.mk (below_step (by repeat (first | (with_reducible first | exact HB.out | apply below_alloc | apply pw_below_drewN | apply below_drew1 | refine below_set ?_ GE146.out) | exact HB.out)) hb)
            clear BK146
            clear HB
            have BK146 := n0_
            have HB := n1_
            clear n0_ n1_
            (try clear hb)
            (try clear hb2)
            (try clear hk)
            (try clear hi)
            refine hK.out _ _ ⟨(blk_cell BK146.out 0).trans rfl, (blk_cell BK146.out 1).trans rfl, (blk_cell BK146.out 2).trans rfl⟩ (fun hHeld => ?_)
            clear hK K
            refine norm_ (a' := ?_) ?_ ?_
            rotate_left
            · show Act.put _ (some 18) _ = _
              simp only [Act.put, List.setIfInBounds_toArray, List.set_cons_zero, List.set_cons_succ, i64_w, i32_w]
              rfl
            refine pure_ (i := 7) (N := some 19) (v := ?_) (a' := ?_) #[true, true, true, true, true, true, true, true, false, true, true, false, false, false] rfl rfl (any_of HT_.out (by kernel_rfl)) (fun _ _ _ h => h) (Or.inl ⟨by rfl, ?_⟩) ?_ ?_
            rotate_left
            · intro w'
              go_simp
              with_reducible rfl
            rotate_left
            · simp only [Act.put, List.setIfInBounds_toArray, List.set_cons_zero, List.set_cons_succ, i64_w, i32_w]
              rfl
            refine pure_ (i := 8) (N := some 20) (v := ?_) (a' := ?_) #[true, true, true, true, true, true, true, true, true, true, true, false, false, false] rfl rfl (any_of HT_.out (by kernel_rfl)) (fun _ _ _ h => h) (Or.inl ⟨by rfl, ?_⟩) ?_ ?_
            rotate_left
            · intro w'
              go_simp
              with_reducible rfl
            rotate_left
            · simp only [Act.put, List.setIfInBounds_toArray, List.set_cons_zero, List.set_cons_succ, i64_w, i32_w]
              rfl
            refine one_ (i := 11) (N := some 23) #[true, true, true, true, true, true, true, true, true, true, true, true, false, false] rfl rfl (one_of HT_.out (by kernel_rfl)) (by decide) (fun K hK => ?_)
            refine goes_ Tryd.func39 (by kernel_rfl) rfl #[.int .i64 t144, .int .i64 2] (by rfl) rfl rfl (by (try simp only [List.map_toArray, List.map_cons, List.map_nil]); first | done | rfl | (simp only [List.length_drop, List.length_take]; rfl)) ?_
            with_reducible refine (date_pad.calls k t144 2 t150 _ ?hGL A8.out).mono ?_
            case hGL => exact Go.Proofs.YthokfepglahgpaaDoor.M.Laid.below HG.out (by repeat (first | (with_reducible first | exact HB.out | apply below_alloc | apply pw_below_drewN | apply below_drew1 | refine below_set ?_ GE146.out) | exact HB.out))
            rintro e w17 ⟨rfl, hb⟩
            refine ⟨_, rfl, ?_⟩
            have n0_ := Aside0.mk (blk_below (g := gb146) (o := .cells #[.int .i64 t142, .int .i64 t143, .int .i64 t144] 30 (0, 0)) (by (with_reducible repeat (first | refine blk_drewN ?_ _ | refine blk_drew ?_ | refine blk_alloc ?_ _)); exact BK146.out) hb)
            have n1_ := Aside0.mk (below_step (by repeat (first | (with_reducible first | exact HB.out | apply below_alloc | apply pw_below_drewN | apply below_drew1 | refine below_set ?_ GE146.out) | exact HB.out)) hb)
            clear BK146
            clear HB
            have BK146 := n0_
            have HB := n1_
            clear n0_ n1_
            (try clear hb)
            (try clear hb2)
            (try clear hk)
            (try clear hi)
            refine hK.out _ _ ⟨(blk_cell BK146.out 0).trans rfl, (blk_cell BK146.out 1).trans rfl, (blk_cell BK146.out 2).trans rfl⟩ (fun hHeld => ?_)
            clear hK K
            refine norm_ (a' := ?_) ?_ ?_
            rotate_left
            · show Act.put _ (some 23) _ = _
              simp only [Act.put, List.setIfInBounds_toArray, List.set_cons_zero, List.set_cons_succ, i64_w, i32_w]
              rfl
            refine pure_ (i := 12) (N := some 24) (v := ?_) (a' := ?_) #[true, true, true, true, true, true, true, true, true, true, true, true, true, false] rfl rfl (any_of HT_.out (by kernel_rfl)) (fun _ _ _ h => h) (Or.inl ⟨by rfl, ?_⟩) ?_ ?_
            rotate_left
            · intro w'
              go_simp
              with_reducible rfl
            rotate_left
            · simp only [Act.put, List.setIfInBounds_toArray, List.set_cons_zero, List.set_cons_succ, i64_w, i32_w]
              rfl
            refine pure_ (i := 13) (N := some 2) (v := ?_) (a' := ?_) #[true, true, true, true, true, true, true, true, true, true, true, true, true, true] rfl rfl (any_of HT_.out (by kernel_rfl)) (fun _ _ _ h => h) (Or.inl ⟨by rfl, ?_⟩) ?_ ?_
            rotate_left
            · intro w'
              go_simp
              with_reducible rfl
            rotate_left
            · simp only [Act.put, List.setIfInBounds_toArray, List.set_cons_zero, List.set_cons_succ, i64_w, i32_w]
              rfl
            refine done_ (done_of HT_.out (by kernel_rfl)) ?_
            (try simp only [errW_none, errW_some])
            try go_wp2
            go_ret
            exact ⟨by first | rfl | (simp [errW_none, errW_some] <;> rfl) | (simp [*, errW_none, errW_some] <;> rfl), by repeat (first | (with_reducible first | exact HB.out | apply below_alloc | apply pw_below_drewN | apply below_drew1 | refine below_set ?_ GE146.out) | exact HB.out)⟩
          · rw [if_neg c9] at H
            exact absurd H (by simp)
        · rw [if_neg c7] at H
          exact absurd H (by simp)
      · rw [if_neg c6] at H
        exact absurd H (by simp)
    · rw [if_neg c4] at H
      exact absurd H (by simp)
  · have H1 : (some (⟨#[]⟩ : ByteArray)) = some r := by rw [if_neg (show ¬ (some q147).isNone = true by simp)] at H; exact H
    clear H
    have H := H1
    clear H1
    try simp only [errW_none, errW_some]
    obtain rfl := Option.some.inj H
    go_enter Tryd.func24, Tryd.ntmps24
    go_wp2_with (first | ((with_reducible refine gate_callee (f := 11) rfl ?_); refine goesL_ (some 7) rfl rfl Tryd.func11 (by kernel_rfl) rfl #[.int .i32 a0] rfl (by (try simp only [List.map_toArray, List.map_cons, List.map_nil]); first | done | rfl | (simp only [List.length_drop, List.length_take]; rfl)) ?_; (with_reducible refine (date_Day_Civil.calls k a0 t142 t143 t144 (some q147) _ A2.out).mono ?_); rintro e w18 ⟨rfl, hb⟩; refine ⟨_, rfl, ?_⟩; have n0_ := Aside0.mk (below_step (by repeat (first | (with_reducible first | exact HB.out | apply below_alloc | apply pw_below_drewN | apply below_drew1) | exact HB.out)) hb); clear HB; have HB := n0_; clear n0_; (try clear hb); (try clear hb2); (try clear hk); (try clear hi); (try simp only [errW_none, errW_some])) | ((with_reducible refine gate_dst (N := 3) rfl ?_); refine box_event ?hg (N := 3) ?hd (cs := #[.int .i64 0, .int .i64 0, .int .i64 0]) (t := 30) ?hr ?_; (case hd => rfl); (case hg => rfl); (case hr => first | (go_simp; done) | (go_simp; rfl)); intro gb146 hg w19 hbox hb; have n0_ := Aside0.mk (below_step (by repeat (first | (with_reducible first | exact HB.out | apply below_alloc | apply pw_below_drewN | apply below_drew1) | exact HB.out)) hb); have n1_ := Aside0.mk (hbox); have n2_ := Aside0.mk ((by rw [hg]; exact (below_size (by repeat (first | (with_reducible first | exact HB.out | apply below_alloc | apply pw_below_drewN | apply below_drew1) | exact HB.out))) : w.heap.size ≤ gb146)); have n3_ := Aside0.mk ((by rw [hg]; exact (below_size (by repeat (first | (with_reducible first | exact HB.out | apply below_alloc | apply pw_below_drewN | apply below_drew1) | exact HB.out))) : w.heap.size ≤ gb146)); clear HB; have HB := n0_; have BK146 := n1_; have GW146 := n2_; have GE146 := n3_; clear n0_ n1_ n2_ n3_; clear hb hbox hg; have hcz20_0 : w19.cell? ⟨gb146, 0, none⟩ = some (.int .i64 0) := (blk_cell BK146.out 0).trans rfl; have hcz20_1 : w19.cell? ⟨gb146, 1, none⟩ = some (.int .i64 0) := (blk_cell BK146.out 1).trans rfl; have hcz20_2 : w19.cell? ⟨gb146, 2, none⟩ = some (.int .i64 0) := (blk_cell BK146.out 2).trans rfl; have hfz20_0 := blk_frozen BK146.out 0; have hfz20_1 := blk_frozen BK146.out 1; have hfz20_2 := blk_frozen BK146.out 2))
    go_ret
    exact ⟨by first | rfl | (simp [errW_none, errW_some] <;> rfl) | (simp [*, errW_none, errW_some] <;> rfl), by repeat (first | (with_reducible first | exact HB.out | apply below_alloc | apply pw_below_drewN | apply below_drew1 | refine below_set ?_ GE146.out) | exact HB.out)⟩

/-! ### date_Read: function 23 -/
/-- What strconv.Atoi tells, the error apart. -/
def atoiV (l : List UInt8) : Int := match Go.Lib.atoiAll l with | .ok v => v | .range => Go.Lib.atoiSat l | _ => 0
def date_Read.f (k : Nat) (a0 : ByteArray) : Option (Int × Option Int) :=
  if a0.size = 10 then
    (date_Civil_Number.f k (atoiV (a0.extract 0 4).data.toList) (atoiV (a0.extract 5 7).data.toList) (atoiV (a0.extract 8 10).data.toList)).bind fun n =>
      if n.2.isNone = true then (date_Day_Text.f k n.1).bind fun t => (if (t.toList == a0.toList) = true then some (n.1, none) else some (0, some 15))
      else some (0, some 15)
  else some (0, some 15)
theorem date_Read.mono : ∀ a0 k, LeO (date_Read.f k a0) (date_Read.f (k + 1) a0) := by
  intro a0 k
  unfold date_Read.f
  repeat' first
      | (with_reducible exact date_Civil_Number.mono _ _ _ _)
      | (with_reducible exact date_Day_Text.mono _ _)
      | (with_reducible exact LeO.refl _)
      | (with_reducible refine LeO.ite ?_ ?_)
      | (with_reducible refine LeO.bind ?_ (fun _ => ?_))
theorem atoi_any (s : ByteArray) (hs : s.size ≤ 10) (W : World) (hG : Go.Proofs.YthokfepglahgpaaDoor.M.Laid W) : Calls Tryd.prog 38 #[.string s] W fun e w' => (∃ ev, e = .returned (.tuple #[.int .i64 (atoiV s.data.toList), ev])) ∧ Below W.heap.size W w' := by
  rcases hA : Go.Lib.atoiAll s.data.toList with v | _ | _
  · refine (Tryd.strconv_Atoi_ok s (by omega) v hA W).mono ?_
    rintro e w' ⟨rfl, hw⟩
    refine ⟨⟨_, by simp [atoiV, hA]; rfl⟩, ?_⟩
    rcases hw with rfl | ⟨t, rfl⟩
    · exact Below.refl _ _
    · exact Go.Joins.below_bytesWorld _ _ _ _ (Nat.le_refl _)
  · obtain ⟨tp, p, hv⟩ := hG.syn
    refine (Any.strconv_Atoi_syntax_var Tryd.laysC172 s (by omega) hA tp p W hv).mono ?_
    rintro e w' ⟨N, rfl, -, -, hb⟩
    exact ⟨⟨_, by simp [atoiV, hA]; rfl⟩, hb⟩
  · obtain ⟨tp, p, hv⟩ := hG.rng
    refine (Any.strconv_Atoi_range_var Tryd.laysC172 s (by omega) hA tp p W hv).mono ?_
    rintro e w' ⟨N, rfl, -, -, hb⟩
    exact ⟨⟨_, by simp [atoiV, hA]; rfl⟩, hb⟩
theorem atoi_at (s : ByteArray) (v : Int) (hv : atoiV s.data.toList = v) (hs : s.size ≤ 10) (W : World) (hG : Go.Proofs.YthokfepglahgpaaDoor.M.Laid W) : Calls Tryd.prog 38 #[.string s] W fun e w' => (∃ ev, e = .returned (.tuple #[.int .i64 v, ev])) ∧ Below W.heap.size W w' := hv ▸ atoi_any s hs W hG
set_option maxHeartbeats 4000000 in
theorem read_len (s : ByteArray) (h1 : ((s.size : Int) == 10) = false) (h2 : ((s.size : Int) != 10) = true) (w : World) :
    Calls Tryd.prog 23 #[.string s] w fun e w' => e = .returned (.tuple #[.int .i32 0, errW (some 15)]) ∧ Below w.heap.size w w' := by
  have i0 : ∀ w, (Instr.index 71 (.agg #[.int .i64 0, .int .i64 4, .int .i64 5, .int .i64 7, .int .i64 8, .int .i64 10]) (.int .i64 0)).run Tryd.prog w = .ok (.agg #[.int .i64 0, .int .i64 4]) w := fun _ => by kernel_rfl
  have i1 : ∀ w, (Instr.index 71 (.agg #[.int .i64 0, .int .i64 4, .int .i64 5, .int .i64 7, .int .i64 8, .int .i64 10]) (.int .i64 1)).run Tryd.prog w = .ok (.agg #[.int .i64 5, .int .i64 7]) w := fun _ => by kernel_rfl
  have i2 : ∀ w, (Instr.index 71 (.agg #[.int .i64 0, .int .i64 4, .int .i64 5, .int .i64 7, .int .i64 8, .int .i64 10]) (.int .i64 2)).run Tryd.prog w = .ok (.agg #[.int .i64 8, .int .i64 10]) w := fun _ => by kernel_rfl
  go_enter Tryd.func23, Tryd.ntmps23
  go_wp2_with (first | ((with_reducible refine gate_dst (N := 4) rfl ?_); (try (refine gate_guard (by rfl) ?_; dsimp only)); refine box_event ?hg (N := 4) ?hd (cs := #[.int .i64 0, .int .i64 0, .int .i64 0]) (t := 69) ?hr ?_; (case hd => rfl); (case hg => rfl); (case hr => first | (go_simp; done) | (go_simp; rfl)); intro gb4 hg w4 hbox hb; have BK4 := Aside0.mk hbox; have HB := Aside0.mk hb; have GE4 := Aside0.mk (Nat.le_of_eq hg.symm : w.heap.size ≤ gb4); clear hbox hb hg))
  refine wp_loop_rounds 1 ?_
  rw [rounds_succ]
  go_wp2_with (first | ((with_reducible refine gate_dst (N := 6) rfl ?_); (try (refine gate_guard (by rfl) ?_; dsimp only)); refine box_event ?hg (N := 6) ?hd (cs := #[.int .i64 0, .int .i64 0]) (t := 70) ?hr ?_; (case hd => rfl); (case hg => rfl); (case hr => first | (go_simp; done) | (go_simp; rfl)); intro gb6 hg w6 hbox hb; have m_ := Aside0.mk (below_step HB.out hb); have GE6 := Aside0.mk (Nat.le_trans (below_size HB.out) (Nat.le_of_eq hg.symm) : w.heap.size ≤ gb6); clear HB; have HB := m_; clear m_; have hc6_0 : w6.cell? ⟨gb6, 0, none⟩ = some (.int .i64 0) := (blk_cell hbox 0).trans rfl; have hc6_1 : w6.cell? ⟨gb6, 1, none⟩ = some (.int .i64 0) := (blk_cell hbox 1).trans rfl; have hf6_0 := blk_frozen hbox 0; have hf6_1 := blk_frozen hbox 1; clear hbox hb hg))
  go_ret2
  exact ⟨by simp [errW_some], by repeat (first | exact HB.out | refine below_set ?_ GE6.out)⟩
set_option maxHeartbeats 8000000 in
theorem read_num (k : Nat) (a0 : ByteArray) (hs : a0.size = 10) (n c : Int) (v0 v1 v2 : Int) (e0 : atoiV (a0.extract 0 4).data.toList = v0) (e1 : atoiV (a0.extract 5 7).data.toList = v1) (e2 : atoiV (a0.extract 8 10).data.toList = v2) (hN : date_Civil_Number.f k v0 v1 v2 = some (n, some c)) (w : World) (hG : Go.Proofs.YthokfepglahgpaaDoor.M.Laid w) :
    Calls Tryd.prog 23 #[.string a0] w fun e w' => e = .returned (.tuple #[.int .i32 0, errW (some 15)]) ∧ Below w.heap.size w w' := by
  have E0 := Aside0.mk e0
  have E1 := Aside0.mk e1
  have E2 := Aside0.mk e2
  clear e0 e1 e2
  have i0 : ∀ w, (Instr.index 71 (.agg #[.int .i64 0, .int .i64 4, .int .i64 5, .int .i64 7, .int .i64 8, .int .i64 10]) (.int .i64 0)).run Tryd.prog w = .ok (.agg #[.int .i64 0, .int .i64 4]) w := fun _ => by kernel_rfl
  have i1 : ∀ w, (Instr.index 71 (.agg #[.int .i64 0, .int .i64 4, .int .i64 5, .int .i64 7, .int .i64 8, .int .i64 10]) (.int .i64 1)).run Tryd.prog w = .ok (.agg #[.int .i64 5, .int .i64 7]) w := fun _ => by kernel_rfl
  have i2 : ∀ w, (Instr.index 71 (.agg #[.int .i64 0, .int .i64 4, .int .i64 5, .int .i64 7, .int .i64 8, .int .i64 10]) (.int .i64 2)).run Tryd.prog w = .ok (.agg #[.int .i64 8, .int .i64 10]) w := fun _ => by kernel_rfl
  have HG := Aside0.mk hG
  clear hG
  have HN := Aside0.mk hN
  clear hN
  go_enter Tryd.func23, Tryd.ntmps23
  go_wp2_with (first | ((with_reducible refine gate_dst (N := 4) rfl ?_); (try (refine gate_guard (by rfl) ?_; dsimp only)); refine box_event ?hg (N := 4) ?hd (cs := #[.int .i64 0, .int .i64 0, .int .i64 0]) (t := 69) ?hr ?_; (case hd => rfl); (case hg => rfl); (case hr => first | (go_simp; done) | (go_simp; rfl)); intro gb4 hg w4 hbox hb; have BK4 := Aside0.mk hbox; have HB := Aside0.mk hb; have GE4 := Aside0.mk (Nat.le_of_eq hg.symm : w.heap.size ≤ gb4); clear hbox hb hg))
  refine wp_loop_rounds 4 ?_
  rw [rounds_succ]
  go_wp2_with (first | ((with_reducible refine gate_dst (N := 6) rfl ?_); (try (refine gate_guard (by rfl) ?_; dsimp only)); refine box_event ?hg (N := 6) ?hd (cs := #[.int .i64 0, .int .i64 0]) (t := 70) ?hr ?_; (case hd => rfl); (case hg => rfl); (case hr => first | (go_simp; done) | (go_simp; rfl)); intro gb6_0 hg w6_0 hbox hb; have n0_ := Aside0.mk (blk_below (BK4.out) hb); have m_ := Aside0.mk (below_step (HB.out) hb); have NE := Aside0.mk (by rw [hg]; exact Nat.ne_of_lt (blk_lt (BK4.out)) : gb4 ≠ gb6_0); have GE6 := Aside0.mk (Nat.le_trans (below_size (HB.out)) (Nat.le_of_eq hg.symm) : w.heap.size ≤ gb6_0); clear BK4 HB; have BK4 := n0_; have HB := m_; clear n0_ m_; have hc6_0 : w6_0.cell? ⟨gb6_0, 0, none⟩ = some (.int .i64 0) := (blk_cell hbox 0).trans rfl; have hc6_1 : w6_0.cell? ⟨gb6_0, 1, none⟩ = some (.int .i64 0) := (blk_cell hbox 1).trans rfl; have hf6_0 := blk_frozen hbox 0; have hf6_1 := blk_frozen hbox 1; clear hbox hb hg) | (go_at_call 38; (with_reducible refine (atoi_at (a0.extract 0 4) v0 E0.out (by first | (simp [ByteArray.size_extract]; done) | (simp [ByteArray.size_extract]; omega)) _ (Go.Proofs.YthokfepglahgpaaDoor.M.Laid.below HG.out (below_set (below_set HB.out GE6.out) GE6.out))).mono ?_); rintro e w7_0 ⟨⟨ev0, rfl⟩, hb⟩; have n0_ := Aside0.mk (blk_below (blk_far (blk_far BK4.out (p := ⟨gb6_0, 0, none⟩) NE.out _) (p := ⟨gb6_0, 1, none⟩) NE.out _) hb); have m_ := Aside0.mk (below_step (below_set (below_set HB.out GE6.out) GE6.out) hb); clear BK4 HB; have BK4 := n0_; have HB := m_; clear n0_ m_ hc6_0 hc6_1 hf6_0 hf6_1; have hc4_0 : w7_0.cell? ⟨gb4, 0, none⟩ = some (.int .i64 0) := (blk_cell BK4.out 0).trans rfl; have hf4_0 := blk_frozen BK4.out 0; have hc4_1 : w7_0.cell? ⟨gb4, 1, none⟩ = some (.int .i64 0) := (blk_cell BK4.out 1).trans rfl; have hf4_1 := blk_frozen BK4.out 1; have hc4_2 : w7_0.cell? ⟨gb4, 2, none⟩ = some (.int .i64 0) := (blk_cell BK4.out 2).trans rfl; have hf4_2 := blk_frozen BK4.out 2; clear hb NE GE6))
  rw [rounds_succ]
  go_wp2_with (first | ((with_reducible refine gate_dst (N := 6) rfl ?_); (try (refine gate_guard (by rfl) ?_; dsimp only)); refine box_event ?hg (N := 6) ?hd (cs := #[.int .i64 0, .int .i64 0]) (t := 70) ?hr ?_; (case hd => rfl); (case hg => rfl); (case hr => first | (go_simp; done) | (go_simp; rfl)); intro gb6_1 hg w6_1 hbox hb; have n0_ := Aside0.mk (blk_below (blk_put (cs' := #[.int .i64 v0, .int .i64 0, .int .i64 0]) BK4.out 0 (.int .i64 v0) rfl) hb); have m_ := Aside0.mk (below_step (below_set HB.out GE4.out) hb); have NE := Aside0.mk (by rw [hg]; exact Nat.ne_of_lt (blk_lt (blk_put (cs' := #[.int .i64 v0, .int .i64 0, .int .i64 0]) BK4.out 0 (.int .i64 v0) rfl)) : gb4 ≠ gb6_1); have GE6 := Aside0.mk (Nat.le_trans (below_size (below_set HB.out GE4.out)) (Nat.le_of_eq hg.symm) : w.heap.size ≤ gb6_1); clear BK4 HB; have BK4 := n0_; have HB := m_; clear n0_ m_; have hc6_0 : w6_1.cell? ⟨gb6_1, 0, none⟩ = some (.int .i64 0) := (blk_cell hbox 0).trans rfl; have hc6_1 : w6_1.cell? ⟨gb6_1, 1, none⟩ = some (.int .i64 0) := (blk_cell hbox 1).trans rfl; have hf6_0 := blk_frozen hbox 0; have hf6_1 := blk_frozen hbox 1; clear hbox hb hg) | (go_at_call 38; (with_reducible refine (atoi_at (a0.extract 5 7) v1 E1.out (by first | (simp [ByteArray.size_extract]; done) | (simp [ByteArray.size_extract]; omega)) _ (Go.Proofs.YthokfepglahgpaaDoor.M.Laid.below HG.out (below_set (below_set HB.out GE6.out) GE6.out))).mono ?_); rintro e w7_1 ⟨⟨ev1, rfl⟩, hb⟩; have n0_ := Aside0.mk (blk_below (blk_far (blk_far BK4.out (p := ⟨gb6_1, 0, none⟩) NE.out _) (p := ⟨gb6_1, 1, none⟩) NE.out _) hb); have m_ := Aside0.mk (below_step (below_set (below_set HB.out GE6.out) GE6.out) hb); clear BK4 HB; have BK4 := n0_; have HB := m_; clear n0_ m_ hc6_0 hc6_1 hf6_0 hf6_1; have hc4_0 : w7_1.cell? ⟨gb4, 0, none⟩ = some (.int .i64 v0) := (blk_cell BK4.out 0).trans rfl; have hf4_0 := blk_frozen BK4.out 0; have hc4_1 : w7_1.cell? ⟨gb4, 1, none⟩ = some (.int .i64 0) := (blk_cell BK4.out 1).trans rfl; have hf4_1 := blk_frozen BK4.out 1; have hc4_2 : w7_1.cell? ⟨gb4, 2, none⟩ = some (.int .i64 0) := (blk_cell BK4.out 2).trans rfl; have hf4_2 := blk_frozen BK4.out 2; clear hb NE GE6))
  rw [rounds_succ]
  go_wp2_with (first | ((with_reducible refine gate_dst (N := 6) rfl ?_); (try (refine gate_guard (by rfl) ?_; dsimp only)); refine box_event ?hg (N := 6) ?hd (cs := #[.int .i64 0, .int .i64 0]) (t := 70) ?hr ?_; (case hd => rfl); (case hg => rfl); (case hr => first | (go_simp; done) | (go_simp; rfl)); intro gb6_2 hg w6_2 hbox hb; have n0_ := Aside0.mk (blk_below (blk_put (cs' := #[.int .i64 v0, .int .i64 v1, .int .i64 0]) BK4.out 1 (.int .i64 v1) rfl) hb); have m_ := Aside0.mk (below_step (below_set HB.out GE4.out) hb); have NE := Aside0.mk (by rw [hg]; exact Nat.ne_of_lt (blk_lt (blk_put (cs' := #[.int .i64 v0, .int .i64 v1, .int .i64 0]) BK4.out 1 (.int .i64 v1) rfl)) : gb4 ≠ gb6_2); have GE6 := Aside0.mk (Nat.le_trans (below_size (below_set HB.out GE4.out)) (Nat.le_of_eq hg.symm) : w.heap.size ≤ gb6_2); clear BK4 HB; have BK4 := n0_; have HB := m_; clear n0_ m_; have hc6_0 : w6_2.cell? ⟨gb6_2, 0, none⟩ = some (.int .i64 0) := (blk_cell hbox 0).trans rfl; have hc6_1 : w6_2.cell? ⟨gb6_2, 1, none⟩ = some (.int .i64 0) := (blk_cell hbox 1).trans rfl; have hf6_0 := blk_frozen hbox 0; have hf6_1 := blk_frozen hbox 1; clear hbox hb hg) | (go_at_call 38; (with_reducible refine (atoi_at (a0.extract 8 10) v2 E2.out (by first | (simp [ByteArray.size_extract]; done) | (simp [ByteArray.size_extract]; omega)) _ (Go.Proofs.YthokfepglahgpaaDoor.M.Laid.below HG.out (below_set (below_set HB.out GE6.out) GE6.out))).mono ?_); rintro e w7_2 ⟨⟨ev2, rfl⟩, hb⟩; have n0_ := Aside0.mk (blk_below (blk_far (blk_far BK4.out (p := ⟨gb6_2, 0, none⟩) NE.out _) (p := ⟨gb6_2, 1, none⟩) NE.out _) hb); have m_ := Aside0.mk (below_step (below_set (below_set HB.out GE6.out) GE6.out) hb); clear BK4 HB; have BK4 := n0_; have HB := m_; clear n0_ m_ hc6_0 hc6_1 hf6_0 hf6_1; have hc4_0 : w7_2.cell? ⟨gb4, 0, none⟩ = some (.int .i64 v0) := (blk_cell BK4.out 0).trans rfl; have hf4_0 := blk_frozen BK4.out 0; have hc4_1 : w7_2.cell? ⟨gb4, 1, none⟩ = some (.int .i64 v1) := (blk_cell BK4.out 1).trans rfl; have hf4_1 := blk_frozen BK4.out 1; have hc4_2 : w7_2.cell? ⟨gb4, 2, none⟩ = some (.int .i64 0) := (blk_cell BK4.out 2).trans rfl; have hf4_2 := blk_frozen BK4.out 2; clear hb NE GE6))
  rw [rounds_succ]
  go_wp2_with (first | (go_at_call 27; (with_reducible refine (date_Civil_Number.calls k _ _ _ n (some c) _ HN.out).mono ?_); rintro e w8 ⟨rfl, hb⟩; have m_ := Aside0.mk (below_step (below_set HB.out GE4.out) hb); clear HB; have HB := m_; clear m_ hb; simp only [errW_none, errW_some]))
  go_ret2
  exact ⟨by simp [errW_some], HB.out⟩
set_option maxHeartbeats 8000000 in
theorem read_yes (k : Nat) (a0 : ByteArray) (hs : a0.size = 10) (n : Int) (t : ByteArray) (v0 v1 v2 : Int) (e0 : atoiV (a0.extract 0 4).data.toList = v0) (e1 : atoiV (a0.extract 5 7).data.toList = v1) (e2 : atoiV (a0.extract 8 10).data.toList = v2) (hN : date_Civil_Number.f k v0 v1 v2 = some (n, none)) (hT : date_Day_Text.f k n = some t) (ht : (t.toList == a0.toList) = true) (w : World) (hG : Go.Proofs.YthokfepglahgpaaDoor.M.Laid w) :
    Calls Tryd.prog 23 #[.string a0] w fun e w' => e = .returned (.tuple #[.int .i32 n, errW none]) ∧ Below w.heap.size w w' := by
  have E0 := Aside0.mk e0
  have E1 := Aside0.mk e1
  have E2 := Aside0.mk e2
  clear e0 e1 e2
  have i0 : ∀ w, (Instr.index 71 (.agg #[.int .i64 0, .int .i64 4, .int .i64 5, .int .i64 7, .int .i64 8, .int .i64 10]) (.int .i64 0)).run Tryd.prog w = .ok (.agg #[.int .i64 0, .int .i64 4]) w := fun _ => by kernel_rfl
  have i1 : ∀ w, (Instr.index 71 (.agg #[.int .i64 0, .int .i64 4, .int .i64 5, .int .i64 7, .int .i64 8, .int .i64 10]) (.int .i64 1)).run Tryd.prog w = .ok (.agg #[.int .i64 5, .int .i64 7]) w := fun _ => by kernel_rfl
  have i2 : ∀ w, (Instr.index 71 (.agg #[.int .i64 0, .int .i64 4, .int .i64 5, .int .i64 7, .int .i64 8, .int .i64 10]) (.int .i64 2)).run Tryd.prog w = .ok (.agg #[.int .i64 8, .int .i64 10]) w := fun _ => by kernel_rfl
  have HG := Aside0.mk hG
  clear hG
  have HN := Aside0.mk hN
  clear hN
  have HT := Aside0.mk hT
  clear hT
  go_enter Tryd.func23, Tryd.ntmps23
  go_wp2_with (first | ((with_reducible refine gate_dst (N := 4) rfl ?_); (try (refine gate_guard (by rfl) ?_; dsimp only)); refine box_event ?hg (N := 4) ?hd (cs := #[.int .i64 0, .int .i64 0, .int .i64 0]) (t := 69) ?hr ?_; (case hd => rfl); (case hg => rfl); (case hr => first | (go_simp; done) | (go_simp; rfl)); intro gb4 hg w4 hbox hb; have BK4 := Aside0.mk hbox; have HB := Aside0.mk hb; have GE4 := Aside0.mk (Nat.le_of_eq hg.symm : w.heap.size ≤ gb4); clear hbox hb hg))
  refine wp_loop_rounds 4 ?_
  rw [rounds_succ]
  go_wp2_with (first | ((with_reducible refine gate_dst (N := 6) rfl ?_); (try (refine gate_guard (by rfl) ?_; dsimp only)); refine box_event ?hg (N := 6) ?hd (cs := #[.int .i64 0, .int .i64 0]) (t := 70) ?hr ?_; (case hd => rfl); (case hg => rfl); (case hr => first | (go_simp; done) | (go_simp; rfl)); intro gb6_0 hg w6_0 hbox hb; have n0_ := Aside0.mk (blk_below (BK4.out) hb); have m_ := Aside0.mk (below_step (HB.out) hb); have NE := Aside0.mk (by rw [hg]; exact Nat.ne_of_lt (blk_lt (BK4.out)) : gb4 ≠ gb6_0); have GE6 := Aside0.mk (Nat.le_trans (below_size (HB.out)) (Nat.le_of_eq hg.symm) : w.heap.size ≤ gb6_0); clear BK4 HB; have BK4 := n0_; have HB := m_; clear n0_ m_; have hc6_0 : w6_0.cell? ⟨gb6_0, 0, none⟩ = some (.int .i64 0) := (blk_cell hbox 0).trans rfl; have hc6_1 : w6_0.cell? ⟨gb6_0, 1, none⟩ = some (.int .i64 0) := (blk_cell hbox 1).trans rfl; have hf6_0 := blk_frozen hbox 0; have hf6_1 := blk_frozen hbox 1; clear hbox hb hg) | (go_at_call 38; (with_reducible refine (atoi_at (a0.extract 0 4) v0 E0.out (by first | (simp [ByteArray.size_extract]; done) | (simp [ByteArray.size_extract]; omega)) _ (Go.Proofs.YthokfepglahgpaaDoor.M.Laid.below HG.out (below_set (below_set HB.out GE6.out) GE6.out))).mono ?_); rintro e w7_0 ⟨⟨ev0, rfl⟩, hb⟩; have n0_ := Aside0.mk (blk_below (blk_far (blk_far BK4.out (p := ⟨gb6_0, 0, none⟩) NE.out _) (p := ⟨gb6_0, 1, none⟩) NE.out _) hb); have m_ := Aside0.mk (below_step (below_set (below_set HB.out GE6.out) GE6.out) hb); clear BK4 HB; have BK4 := n0_; have HB := m_; clear n0_ m_ hc6_0 hc6_1 hf6_0 hf6_1; have hc4_0 : w7_0.cell? ⟨gb4, 0, none⟩ = some (.int .i64 0) := (blk_cell BK4.out 0).trans rfl; have hf4_0 := blk_frozen BK4.out 0; have hc4_1 : w7_0.cell? ⟨gb4, 1, none⟩ = some (.int .i64 0) := (blk_cell BK4.out 1).trans rfl; have hf4_1 := blk_frozen BK4.out 1; have hc4_2 : w7_0.cell? ⟨gb4, 2, none⟩ = some (.int .i64 0) := (blk_cell BK4.out 2).trans rfl; have hf4_2 := blk_frozen BK4.out 2; clear hb NE GE6))
  rw [rounds_succ]
  go_wp2_with (first | ((with_reducible refine gate_dst (N := 6) rfl ?_); (try (refine gate_guard (by rfl) ?_; dsimp only)); refine box_event ?hg (N := 6) ?hd (cs := #[.int .i64 0, .int .i64 0]) (t := 70) ?hr ?_; (case hd => rfl); (case hg => rfl); (case hr => first | (go_simp; done) | (go_simp; rfl)); intro gb6_1 hg w6_1 hbox hb; have n0_ := Aside0.mk (blk_below (blk_put (cs' := #[.int .i64 v0, .int .i64 0, .int .i64 0]) BK4.out 0 (.int .i64 v0) rfl) hb); have m_ := Aside0.mk (below_step (below_set HB.out GE4.out) hb); have NE := Aside0.mk (by rw [hg]; exact Nat.ne_of_lt (blk_lt (blk_put (cs' := #[.int .i64 v0, .int .i64 0, .int .i64 0]) BK4.out 0 (.int .i64 v0) rfl)) : gb4 ≠ gb6_1); have GE6 := Aside0.mk (Nat.le_trans (below_size (below_set HB.out GE4.out)) (Nat.le_of_eq hg.symm) : w.heap.size ≤ gb6_1); clear BK4 HB; have BK4 := n0_; have HB := m_; clear n0_ m_; have hc6_0 : w6_1.cell? ⟨gb6_1, 0, none⟩ = some (.int .i64 0) := (blk_cell hbox 0).trans rfl; have hc6_1 : w6_1.cell? ⟨gb6_1, 1, none⟩ = some (.int .i64 0) := (blk_cell hbox 1).trans rfl; have hf6_0 := blk_frozen hbox 0; have hf6_1 := blk_frozen hbox 1; clear hbox hb hg) | (go_at_call 38; (with_reducible refine (atoi_at (a0.extract 5 7) v1 E1.out (by first | (simp [ByteArray.size_extract]; done) | (simp [ByteArray.size_extract]; omega)) _ (Go.Proofs.YthokfepglahgpaaDoor.M.Laid.below HG.out (below_set (below_set HB.out GE6.out) GE6.out))).mono ?_); rintro e w7_1 ⟨⟨ev1, rfl⟩, hb⟩; have n0_ := Aside0.mk (blk_below (blk_far (blk_far BK4.out (p := ⟨gb6_1, 0, none⟩) NE.out _) (p := ⟨gb6_1, 1, none⟩) NE.out _) hb); have m_ := Aside0.mk (below_step (below_set (below_set HB.out GE6.out) GE6.out) hb); clear BK4 HB; have BK4 := n0_; have HB := m_; clear n0_ m_ hc6_0 hc6_1 hf6_0 hf6_1; have hc4_0 : w7_1.cell? ⟨gb4, 0, none⟩ = some (.int .i64 v0) := (blk_cell BK4.out 0).trans rfl; have hf4_0 := blk_frozen BK4.out 0; have hc4_1 : w7_1.cell? ⟨gb4, 1, none⟩ = some (.int .i64 0) := (blk_cell BK4.out 1).trans rfl; have hf4_1 := blk_frozen BK4.out 1; have hc4_2 : w7_1.cell? ⟨gb4, 2, none⟩ = some (.int .i64 0) := (blk_cell BK4.out 2).trans rfl; have hf4_2 := blk_frozen BK4.out 2; clear hb NE GE6))
  rw [rounds_succ]
  go_wp2_with (first | ((with_reducible refine gate_dst (N := 6) rfl ?_); (try (refine gate_guard (by rfl) ?_; dsimp only)); refine box_event ?hg (N := 6) ?hd (cs := #[.int .i64 0, .int .i64 0]) (t := 70) ?hr ?_; (case hd => rfl); (case hg => rfl); (case hr => first | (go_simp; done) | (go_simp; rfl)); intro gb6_2 hg w6_2 hbox hb; have n0_ := Aside0.mk (blk_below (blk_put (cs' := #[.int .i64 v0, .int .i64 v1, .int .i64 0]) BK4.out 1 (.int .i64 v1) rfl) hb); have m_ := Aside0.mk (below_step (below_set HB.out GE4.out) hb); have NE := Aside0.mk (by rw [hg]; exact Nat.ne_of_lt (blk_lt (blk_put (cs' := #[.int .i64 v0, .int .i64 v1, .int .i64 0]) BK4.out 1 (.int .i64 v1) rfl)) : gb4 ≠ gb6_2); have GE6 := Aside0.mk (Nat.le_trans (below_size (below_set HB.out GE4.out)) (Nat.le_of_eq hg.symm) : w.heap.size ≤ gb6_2); clear BK4 HB; have BK4 := n0_; have HB := m_; clear n0_ m_; have hc6_0 : w6_2.cell? ⟨gb6_2, 0, none⟩ = some (.int .i64 0) := (blk_cell hbox 0).trans rfl; have hc6_1 : w6_2.cell? ⟨gb6_2, 1, none⟩ = some (.int .i64 0) := (blk_cell hbox 1).trans rfl; have hf6_0 := blk_frozen hbox 0; have hf6_1 := blk_frozen hbox 1; clear hbox hb hg) | (go_at_call 38; (with_reducible refine (atoi_at (a0.extract 8 10) v2 E2.out (by first | (simp [ByteArray.size_extract]; done) | (simp [ByteArray.size_extract]; omega)) _ (Go.Proofs.YthokfepglahgpaaDoor.M.Laid.below HG.out (below_set (below_set HB.out GE6.out) GE6.out))).mono ?_); rintro e w7_2 ⟨⟨ev2, rfl⟩, hb⟩; have n0_ := Aside0.mk (blk_below (blk_far (blk_far BK4.out (p := ⟨gb6_2, 0, none⟩) NE.out _) (p := ⟨gb6_2, 1, none⟩) NE.out _) hb); have m_ := Aside0.mk (below_step (below_set (below_set HB.out GE6.out) GE6.out) hb); clear BK4 HB; have BK4 := n0_; have HB := m_; clear n0_ m_ hc6_0 hc6_1 hf6_0 hf6_1; have hc4_0 : w7_2.cell? ⟨gb4, 0, none⟩ = some (.int .i64 v0) := (blk_cell BK4.out 0).trans rfl; have hf4_0 := blk_frozen BK4.out 0; have hc4_1 : w7_2.cell? ⟨gb4, 1, none⟩ = some (.int .i64 v1) := (blk_cell BK4.out 1).trans rfl; have hf4_1 := blk_frozen BK4.out 1; have hc4_2 : w7_2.cell? ⟨gb4, 2, none⟩ = some (.int .i64 0) := (blk_cell BK4.out 2).trans rfl; have hf4_2 := blk_frozen BK4.out 2; clear hb NE GE6))
  rw [rounds_succ]
  go_wp2_with (first | (go_at_call 27; (with_reducible refine (date_Civil_Number.calls k _ _ _ n none _ HN.out).mono ?_); rintro e w8 ⟨rfl, hb⟩; have m_ := Aside0.mk (below_step (below_set HB.out GE4.out) hb); clear HB; have HB := m_; clear m_ hb; simp only [errW_none, errW_some]) | (go_at_call 24; (with_reducible refine (date_Day_Text.calls k _ _ _ (Go.Proofs.YthokfepglahgpaaDoor.M.Laid.below HG.out HB.out) HT.out).mono ?_); rintro e w9 ⟨rfl, hb⟩; have m_ := Aside0.mk (below_step HB.out hb); clear HB; have HB := m_; clear m_ hb))
  go_ret2
  exact ⟨by simp [errW_some, errW_none], HB.out⟩
set_option maxHeartbeats 8000000 in
theorem read_no (k : Nat) (a0 : ByteArray) (hs : a0.size = 10) (n : Int) (t : ByteArray) (v0 v1 v2 : Int) (e0 : atoiV (a0.extract 0 4).data.toList = v0) (e1 : atoiV (a0.extract 5 7).data.toList = v1) (e2 : atoiV (a0.extract 8 10).data.toList = v2) (hN : date_Civil_Number.f k v0 v1 v2 = some (n, none)) (hT : date_Day_Text.f k n = some t) (ht : (t.toList == a0.toList) = false) (w : World) (hG : Go.Proofs.YthokfepglahgpaaDoor.M.Laid w) :
    Calls Tryd.prog 23 #[.string a0] w fun e w' => e = .returned (.tuple #[.int .i32 0, errW (some 15)]) ∧ Below w.heap.size w w' := by
  have E0 := Aside0.mk e0
  have E1 := Aside0.mk e1
  have E2 := Aside0.mk e2
  clear e0 e1 e2
  have i0 : ∀ w, (Instr.index 71 (.agg #[.int .i64 0, .int .i64 4, .int .i64 5, .int .i64 7, .int .i64 8, .int .i64 10]) (.int .i64 0)).run Tryd.prog w = .ok (.agg #[.int .i64 0, .int .i64 4]) w := fun _ => by kernel_rfl
  have i1 : ∀ w, (Instr.index 71 (.agg #[.int .i64 0, .int .i64 4, .int .i64 5, .int .i64 7, .int .i64 8, .int .i64 10]) (.int .i64 1)).run Tryd.prog w = .ok (.agg #[.int .i64 5, .int .i64 7]) w := fun _ => by kernel_rfl
  have i2 : ∀ w, (Instr.index 71 (.agg #[.int .i64 0, .int .i64 4, .int .i64 5, .int .i64 7, .int .i64 8, .int .i64 10]) (.int .i64 2)).run Tryd.prog w = .ok (.agg #[.int .i64 8, .int .i64 10]) w := fun _ => by kernel_rfl
  have HG := Aside0.mk hG
  clear hG
  have HN := Aside0.mk hN
  clear hN
  have HT := Aside0.mk hT
  clear hT
  go_enter Tryd.func23, Tryd.ntmps23
  go_wp2_with (first | ((with_reducible refine gate_dst (N := 4) rfl ?_); (try (refine gate_guard (by rfl) ?_; dsimp only)); refine box_event ?hg (N := 4) ?hd (cs := #[.int .i64 0, .int .i64 0, .int .i64 0]) (t := 69) ?hr ?_; (case hd => rfl); (case hg => rfl); (case hr => first | (go_simp; done) | (go_simp; rfl)); intro gb4 hg w4 hbox hb; have BK4 := Aside0.mk hbox; have HB := Aside0.mk hb; have GE4 := Aside0.mk (Nat.le_of_eq hg.symm : w.heap.size ≤ gb4); clear hbox hb hg))
  refine wp_loop_rounds 4 ?_
  rw [rounds_succ]
  go_wp2_with (first | ((with_reducible refine gate_dst (N := 6) rfl ?_); (try (refine gate_guard (by rfl) ?_; dsimp only)); refine box_event ?hg (N := 6) ?hd (cs := #[.int .i64 0, .int .i64 0]) (t := 70) ?hr ?_; (case hd => rfl); (case hg => rfl); (case hr => first | (go_simp; done) | (go_simp; rfl)); intro gb6_0 hg w6_0 hbox hb; have n0_ := Aside0.mk (blk_below (BK4.out) hb); have m_ := Aside0.mk (below_step (HB.out) hb); have NE := Aside0.mk (by rw [hg]; exact Nat.ne_of_lt (blk_lt (BK4.out)) : gb4 ≠ gb6_0); have GE6 := Aside0.mk (Nat.le_trans (below_size (HB.out)) (Nat.le_of_eq hg.symm) : w.heap.size ≤ gb6_0); clear BK4 HB; have BK4 := n0_; have HB := m_; clear n0_ m_; have hc6_0 : w6_0.cell? ⟨gb6_0, 0, none⟩ = some (.int .i64 0) := (blk_cell hbox 0).trans rfl; have hc6_1 : w6_0.cell? ⟨gb6_0, 1, none⟩ = some (.int .i64 0) := (blk_cell hbox 1).trans rfl; have hf6_0 := blk_frozen hbox 0; have hf6_1 := blk_frozen hbox 1; clear hbox hb hg) | (go_at_call 38; (with_reducible refine (atoi_at (a0.extract 0 4) v0 E0.out (by first | (simp [ByteArray.size_extract]; done) | (simp [ByteArray.size_extract]; omega)) _ (Go.Proofs.YthokfepglahgpaaDoor.M.Laid.below HG.out (below_set (below_set HB.out GE6.out) GE6.out))).mono ?_); rintro e w7_0 ⟨⟨ev0, rfl⟩, hb⟩; have n0_ := Aside0.mk (blk_below (blk_far (blk_far BK4.out (p := ⟨gb6_0, 0, none⟩) NE.out _) (p := ⟨gb6_0, 1, none⟩) NE.out _) hb); have m_ := Aside0.mk (below_step (below_set (below_set HB.out GE6.out) GE6.out) hb); clear BK4 HB; have BK4 := n0_; have HB := m_; clear n0_ m_ hc6_0 hc6_1 hf6_0 hf6_1; have hc4_0 : w7_0.cell? ⟨gb4, 0, none⟩ = some (.int .i64 0) := (blk_cell BK4.out 0).trans rfl; have hf4_0 := blk_frozen BK4.out 0; have hc4_1 : w7_0.cell? ⟨gb4, 1, none⟩ = some (.int .i64 0) := (blk_cell BK4.out 1).trans rfl; have hf4_1 := blk_frozen BK4.out 1; have hc4_2 : w7_0.cell? ⟨gb4, 2, none⟩ = some (.int .i64 0) := (blk_cell BK4.out 2).trans rfl; have hf4_2 := blk_frozen BK4.out 2; clear hb NE GE6))
  rw [rounds_succ]
  go_wp2_with (first | ((with_reducible refine gate_dst (N := 6) rfl ?_); (try (refine gate_guard (by rfl) ?_; dsimp only)); refine box_event ?hg (N := 6) ?hd (cs := #[.int .i64 0, .int .i64 0]) (t := 70) ?hr ?_; (case hd => rfl); (case hg => rfl); (case hr => first | (go_simp; done) | (go_simp; rfl)); intro gb6_1 hg w6_1 hbox hb; have n0_ := Aside0.mk (blk_below (blk_put (cs' := #[.int .i64 v0, .int .i64 0, .int .i64 0]) BK4.out 0 (.int .i64 v0) rfl) hb); have m_ := Aside0.mk (below_step (below_set HB.out GE4.out) hb); have NE := Aside0.mk (by rw [hg]; exact Nat.ne_of_lt (blk_lt (blk_put (cs' := #[.int .i64 v0, .int .i64 0, .int .i64 0]) BK4.out 0 (.int .i64 v0) rfl)) : gb4 ≠ gb6_1); have GE6 := Aside0.mk (Nat.le_trans (below_size (below_set HB.out GE4.out)) (Nat.le_of_eq hg.symm) : w.heap.size ≤ gb6_1); clear BK4 HB; have BK4 := n0_; have HB := m_; clear n0_ m_; have hc6_0 : w6_1.cell? ⟨gb6_1, 0, none⟩ = some (.int .i64 0) := (blk_cell hbox 0).trans rfl; have hc6_1 : w6_1.cell? ⟨gb6_1, 1, none⟩ = some (.int .i64 0) := (blk_cell hbox 1).trans rfl; have hf6_0 := blk_frozen hbox 0; have hf6_1 := blk_frozen hbox 1; clear hbox hb hg) | (go_at_call 38; (with_reducible refine (atoi_at (a0.extract 5 7) v1 E1.out (by first | (simp [ByteArray.size_extract]; done) | (simp [ByteArray.size_extract]; omega)) _ (Go.Proofs.YthokfepglahgpaaDoor.M.Laid.below HG.out (below_set (below_set HB.out GE6.out) GE6.out))).mono ?_); rintro e w7_1 ⟨⟨ev1, rfl⟩, hb⟩; have n0_ := Aside0.mk (blk_below (blk_far (blk_far BK4.out (p := ⟨gb6_1, 0, none⟩) NE.out _) (p := ⟨gb6_1, 1, none⟩) NE.out _) hb); have m_ := Aside0.mk (below_step (below_set (below_set HB.out GE6.out) GE6.out) hb); clear BK4 HB; have BK4 := n0_; have HB := m_; clear n0_ m_ hc6_0 hc6_1 hf6_0 hf6_1; have hc4_0 : w7_1.cell? ⟨gb4, 0, none⟩ = some (.int .i64 v0) := (blk_cell BK4.out 0).trans rfl; have hf4_0 := blk_frozen BK4.out 0; have hc4_1 : w7_1.cell? ⟨gb4, 1, none⟩ = some (.int .i64 0) := (blk_cell BK4.out 1).trans rfl; have hf4_1 := blk_frozen BK4.out 1; have hc4_2 : w7_1.cell? ⟨gb4, 2, none⟩ = some (.int .i64 0) := (blk_cell BK4.out 2).trans rfl; have hf4_2 := blk_frozen BK4.out 2; clear hb NE GE6))
  rw [rounds_succ]
  go_wp2_with (first | ((with_reducible refine gate_dst (N := 6) rfl ?_); (try (refine gate_guard (by rfl) ?_; dsimp only)); refine box_event ?hg (N := 6) ?hd (cs := #[.int .i64 0, .int .i64 0]) (t := 70) ?hr ?_; (case hd => rfl); (case hg => rfl); (case hr => first | (go_simp; done) | (go_simp; rfl)); intro gb6_2 hg w6_2 hbox hb; have n0_ := Aside0.mk (blk_below (blk_put (cs' := #[.int .i64 v0, .int .i64 v1, .int .i64 0]) BK4.out 1 (.int .i64 v1) rfl) hb); have m_ := Aside0.mk (below_step (below_set HB.out GE4.out) hb); have NE := Aside0.mk (by rw [hg]; exact Nat.ne_of_lt (blk_lt (blk_put (cs' := #[.int .i64 v0, .int .i64 v1, .int .i64 0]) BK4.out 1 (.int .i64 v1) rfl)) : gb4 ≠ gb6_2); have GE6 := Aside0.mk (Nat.le_trans (below_size (below_set HB.out GE4.out)) (Nat.le_of_eq hg.symm) : w.heap.size ≤ gb6_2); clear BK4 HB; have BK4 := n0_; have HB := m_; clear n0_ m_; have hc6_0 : w6_2.cell? ⟨gb6_2, 0, none⟩ = some (.int .i64 0) := (blk_cell hbox 0).trans rfl; have hc6_1 : w6_2.cell? ⟨gb6_2, 1, none⟩ = some (.int .i64 0) := (blk_cell hbox 1).trans rfl; have hf6_0 := blk_frozen hbox 0; have hf6_1 := blk_frozen hbox 1; clear hbox hb hg) | (go_at_call 38; (with_reducible refine (atoi_at (a0.extract 8 10) v2 E2.out (by first | (simp [ByteArray.size_extract]; done) | (simp [ByteArray.size_extract]; omega)) _ (Go.Proofs.YthokfepglahgpaaDoor.M.Laid.below HG.out (below_set (below_set HB.out GE6.out) GE6.out))).mono ?_); rintro e w7_2 ⟨⟨ev2, rfl⟩, hb⟩; have n0_ := Aside0.mk (blk_below (blk_far (blk_far BK4.out (p := ⟨gb6_2, 0, none⟩) NE.out _) (p := ⟨gb6_2, 1, none⟩) NE.out _) hb); have m_ := Aside0.mk (below_step (below_set (below_set HB.out GE6.out) GE6.out) hb); clear BK4 HB; have BK4 := n0_; have HB := m_; clear n0_ m_ hc6_0 hc6_1 hf6_0 hf6_1; have hc4_0 : w7_2.cell? ⟨gb4, 0, none⟩ = some (.int .i64 v0) := (blk_cell BK4.out 0).trans rfl; have hf4_0 := blk_frozen BK4.out 0; have hc4_1 : w7_2.cell? ⟨gb4, 1, none⟩ = some (.int .i64 v1) := (blk_cell BK4.out 1).trans rfl; have hf4_1 := blk_frozen BK4.out 1; have hc4_2 : w7_2.cell? ⟨gb4, 2, none⟩ = some (.int .i64 0) := (blk_cell BK4.out 2).trans rfl; have hf4_2 := blk_frozen BK4.out 2; clear hb NE GE6))
  rw [rounds_succ]
  go_wp2_with (first | (go_at_call 27; (with_reducible refine (date_Civil_Number.calls k _ _ _ n none _ HN.out).mono ?_); rintro e w8 ⟨rfl, hb⟩; have m_ := Aside0.mk (below_step (below_set HB.out GE4.out) hb); clear HB; have HB := m_; clear m_ hb; simp only [errW_none, errW_some]) | (go_at_call 24; (with_reducible refine (date_Day_Text.calls k _ _ _ (Go.Proofs.YthokfepglahgpaaDoor.M.Laid.below HG.out HB.out) HT.out).mono ?_); rintro e w9 ⟨rfl, hb⟩; have m_ := Aside0.mk (below_step HB.out hb); clear HB; have HB := m_; clear m_ hb))
  go_ret2
  exact ⟨by simp [errW_some, errW_none], HB.out⟩
theorem date_Read.calls (k : Nat) (a0 : ByteArray) (r1 : Int) (r2 : Option Int) (w : World) (hG : Go.Proofs.YthokfepglahgpaaDoor.M.Laid w) (h : date_Read.f k a0 = some (r1, r2)) :
    Calls Tryd.prog 23 #[.string a0] w fun e w' => e = .returned (.tuple #[.int .i32 r1, errW r2]) ∧ Below w.heap.size w w' := by
  unfold date_Read.f at h
  by_cases hs : a0.size = 10
  · rw [if_pos hs] at h
    cases hN : date_Civil_Number.f k (atoiV (a0.extract 0 4).data.toList) (atoiV (a0.extract 5 7).data.toList) (atoiV (a0.extract 8 10).data.toList) with
    | none => rw [hN] at h; cases h
    | some x =>
      obtain ⟨n, c⟩ := x
      rw [hN] at h
      simp only [Option.bind_some] at h
      cases c with
      | some c =>
        simp only [Option.isNone_some, Bool.false_eq_true, if_false, Option.some.injEq, Prod.mk.injEq] at h
        obtain ⟨rfl, rfl⟩ := h
        exact read_num k a0 hs n c _ _ _ rfl rfl rfl hN w hG
      | none =>
        simp only [Option.isNone_none, if_true] at h
        cases hT : date_Day_Text.f k n with
        | none => rw [hT] at h; cases h
        | some t =>
          rw [hT] at h
          simp only [Option.bind_some] at h
          cases ht : (t.toList == a0.toList) with
          | true =>
            rw [ht] at h
            simp only [if_true, Option.some.injEq, Prod.mk.injEq] at h
            obtain ⟨rfl, rfl⟩ := h
            exact read_yes k a0 hs n t _ _ _ rfl rfl rfl hN hT ht w hG
          | false =>
            rw [ht] at h
            simp only [Bool.false_eq_true, if_false, Option.some.injEq, Prod.mk.injEq] at h
            obtain ⟨rfl, rfl⟩ := h
            exact read_no k a0 hs n t _ _ _ rfl rfl rfl hN hT ht w hG
  · rw [if_neg hs] at h
    simp only [Option.some.injEq, Prod.mk.injEq] at h
    obtain ⟨rfl, rfl⟩ := h
    have h1 : ((a0.size : Int) == 10) = false := by rw [beq_eq_false_iff_ne]; omega
    exact read_len a0 h1 (by rw [bne, h1]; rfl) w


/-! ### arrearslaw07_awake: function 9 -/
def arrearslaw07_awake.f (k : Nat)  : Option (Bool) := (date_Read.f k (⟨#[50, 48, 50, 51, 45, 48, 50, 45, 50, 56]⟩ : ByteArray)).bind fun bt151 => ((due_Plain.f k bt151.1 1).bind fun bt153 => (if bt151.2.isNone = true then (if bt153.2.isNone = true then ((date_Day_Text.f k bt153.1).bind fun t157 => (some (t157.toList == ([50, 48, 50, 51, 45, 48, 51, 45, 51, 49] : List UInt8)))) else (some false)) else (some false)))
theorem arrearslaw07_awake.mono : ∀ k, LeO (arrearslaw07_awake.f k ) (arrearslaw07_awake.f (k + 1) ) := by
  intro  k
  unfold arrearslaw07_awake.f
  repeat' first
      | (with_reducible exact date_Day_Text.mono _ _)
      | (with_reducible exact date_Read.mono _ _)
      | (with_reducible exact due_Plain.mono _ _ _)
      | (with_reducible exact LeO.refl _)
      | (with_reducible exact LeO.none _)
      | (with_reducible refine LeO.ite ?_ ?_)
      | (with_reducible refine LeO.bind ?_ (fun _ => ?_))
      | exact date_Day_Text.mono _ _
      | exact date_Read.mono _ _
      | exact due_Plain.mono _ _ _
      | exact LeO.none _
      | refine LeO.ite ?_ ?_
      | refine LeO.bind ?_ (fun _ => ?_)
set_option maxHeartbeats 8000000 in
set_option maxRecDepth 100000 in
theorem arrearslaw07_awake.calls (k : Nat)  (r : Bool) (w : World) (hG : Go.Proofs.YthokfepglahgpaaDoor.M.Laid w) (h : arrearslaw07_awake.f k  = some r) :
    Calls Tryd.prog 9 #[] w fun e w' => e = .returned (.bool r) ∧ Below w.heap.size w w' := by
  have hu26 := Tryd.underlying26
  have hu45 := Tryd.underlying45
  have HB := Aside0.mk (Below.refl w.heap.size w)
  have HG := Aside0.mk hG
  clear hG
  have H : ((date_Read.f k (⟨#[50, 48, 50, 51, 45, 48, 50, 45, 50, 56]⟩ : ByteArray)).bind fun bt151 => ((due_Plain.f k bt151.1 1).bind fun bt153 => (if bt151.2.isNone = true then (if bt153.2.isNone = true then ((date_Day_Text.f k bt153.1).bind fun t157 => (some (t157.toList == ([50, 48, 50, 51, 45, 48, 51, 45, 51, 49] : List UInt8)))) else (some false)) else (some false)))) = some r := h
  clear h
  replace H := Option.bind_eq_some_iff.mp H
  obtain ⟨⟨t151, t152⟩, A10, H⟩ := H
  replace H : ((due_Plain.f k t151 1).bind fun bt153 => (if t152.isNone = true then (if bt153.2.isNone = true then ((date_Day_Text.f k bt153.1).bind fun t157 => (some (t157.toList == ([50, 48, 50, 51, 45, 48, 51, 45, 51, 49] : List UInt8)))) else (some false)) else (some false))) = some r := H
  have A1 := Aside0.mk A10
  clear A10
  replace H := Option.bind_eq_some_iff.mp H
  obtain ⟨⟨t153, t154⟩, A20, H⟩ := H
  replace H : (if t152.isNone = true then (if t154.isNone = true then ((date_Day_Text.f k t153).bind fun t157 => (some (t157.toList == ([50, 48, 50, 51, 45, 48, 51, 45, 51, 49] : List UInt8)))) else (some false)) else (some false)) = some r := H
  have A2 := Aside0.mk A20
  clear A20
  rcases t152 with _ | q155
  · have H1 : (if t154.isNone = true then ((date_Day_Text.f k t153).bind fun t157 => (some (t157.toList == ([50, 48, 50, 51, 45, 48, 51, 45, 51, 49] : List UInt8)))) else (some false)) = some r := by rw [if_pos (show (none : Option Int).isNone = true by rfl)] at H; exact H
    clear H
    have H := H1
    clear H1
    try simp only [errW_none, errW_some]
    rcases t154 with _ | q156
    · have H1 : ((date_Day_Text.f k t153).bind fun t157 => (some (t157.toList == ([50, 48, 50, 51, 45, 48, 51, 45, 51, 49] : List UInt8)))) = some r := by rw [if_pos (show (none : Option Int).isNone = true by rfl)] at H; exact H
      clear H
      have H := H1
      clear H1
      try simp only [errW_none, errW_some]
      replace H := Option.bind_eq_some_iff.mp H
      obtain ⟨t157, A30, H⟩ := H
      replace H : (some (t157.toList == ([50, 48, 50, 51, 45, 48, 51, 45, 51, 49] : List UInt8))) = some r := H
      have A3 := Aside0.mk A30
      clear A30
      obtain rfl := Option.some.inj H
      go_enter Tryd.func9, Tryd.ntmps9
      go_wp2_with (first | ((with_reducible refine gate_callee (f := 23) rfl ?_); refine goesL_ (some 6) rfl rfl Tryd.func23 (by kernel_rfl) rfl #[.string (⟨#[50, 48, 50, 51, 45, 48, 50, 45, 50, 56]⟩ : ByteArray)] rfl (by (try simp only [List.map_toArray, List.map_cons, List.map_nil]); first | done | rfl | (simp only [List.length_drop, List.length_take]; rfl)) ?_; (with_reducible refine (date_Read.calls k (⟨#[50, 48, 50, 51, 45, 48, 50, 45, 50, 56]⟩ : ByteArray) t151 none _ ?hGL A1.out).mono ?_); (case hGL => exact Go.Proofs.YthokfepglahgpaaDoor.M.Laid.below HG.out (by repeat (first | (with_reducible first | exact HB.out | apply below_alloc | apply pw_below_drewN | apply below_drew1) | exact HB.out))); rintro e w4 ⟨rfl, hb⟩; refine ⟨_, rfl, ?_⟩; have n0_ := Aside0.mk (below_step (by repeat (first | (with_reducible first | exact HB.out | apply below_alloc | apply pw_below_drewN | apply below_drew1) | exact HB.out)) hb); clear HB; have HB := n0_; clear n0_; (try clear hb); (try clear hb2); (try clear hk); (try clear hi); (try simp only [errW_none, errW_some])) | ((with_reducible refine gate_callee (f := 10) rfl ?_); refine goesL_ (some 11) rfl rfl Tryd.func10 (by kernel_rfl) rfl #[.int .i32 t151, .int .i64 1] rfl (by (try simp only [List.map_toArray, List.map_cons, List.map_nil]); first | done | rfl | (simp only [List.length_drop, List.length_take]; rfl)) ?_; (with_reducible refine (due_Plain.calls k t151 1 t153 none _ A2.out).mono ?_); rintro e w5 ⟨rfl, hb⟩; refine ⟨_, rfl, ?_⟩; have n0_ := Aside0.mk (below_step (by repeat (first | (with_reducible first | exact HB.out | apply below_alloc | apply pw_below_drewN | apply below_drew1) | exact HB.out)) hb); clear HB; have HB := n0_; clear n0_; (try clear hb); (try clear hb2); (try clear hk); (try clear hi); (try simp only [errW_none, errW_some])) | (go_at_call 24; (with_reducible refine (date_Day_Text.calls k t153 t157 _ ?hGL A3.out).mono ?_); (case hGL => exact Go.Proofs.YthokfepglahgpaaDoor.M.Laid.below HG.out (by repeat (first | (with_reducible first | exact HB.out | apply below_alloc | apply pw_below_drewN | apply below_drew1) | exact HB.out))); rintro e w6 ⟨rfl, hb⟩; have n0_ := Aside0.mk (below_step (by repeat (first | (with_reducible first | exact HB.out | apply below_alloc | apply pw_below_drewN | apply below_drew1) | exact HB.out)) hb); clear HB; have HB := n0_; clear n0_; (try clear hb); (try clear hb2); (try clear hk); (try clear hi)))
      go_ret
      exact ⟨by first | rfl | (simp [errW_none, errW_some] <;> rfl) | (simp [*, errW_none, errW_some] <;> rfl), by repeat (first | (with_reducible first | exact HB.out | apply below_alloc | apply pw_below_drewN | apply below_drew1) | exact HB.out)⟩
    · have H1 : (some false) = some r := by rw [if_neg (show ¬ (some q156).isNone = true by simp)] at H; exact H
      clear H
      have H := H1
      clear H1
      try simp only [errW_none, errW_some]
      obtain rfl := Option.some.inj H
      go_enter Tryd.func9, Tryd.ntmps9
      go_wp2_with (first | ((with_reducible refine gate_callee (f := 23) rfl ?_); refine goesL_ (some 6) rfl rfl Tryd.func23 (by kernel_rfl) rfl #[.string (⟨#[50, 48, 50, 51, 45, 48, 50, 45, 50, 56]⟩ : ByteArray)] rfl (by (try simp only [List.map_toArray, List.map_cons, List.map_nil]); first | done | rfl | (simp only [List.length_drop, List.length_take]; rfl)) ?_; (with_reducible refine (date_Read.calls k (⟨#[50, 48, 50, 51, 45, 48, 50, 45, 50, 56]⟩ : ByteArray) t151 none _ ?hGL A1.out).mono ?_); (case hGL => exact Go.Proofs.YthokfepglahgpaaDoor.M.Laid.below HG.out (by repeat (first | (with_reducible first | exact HB.out | apply below_alloc | apply pw_below_drewN | apply below_drew1) | exact HB.out))); rintro e w7 ⟨rfl, hb⟩; refine ⟨_, rfl, ?_⟩; have n0_ := Aside0.mk (below_step (by repeat (first | (with_reducible first | exact HB.out | apply below_alloc | apply pw_below_drewN | apply below_drew1) | exact HB.out)) hb); clear HB; have HB := n0_; clear n0_; (try clear hb); (try clear hb2); (try clear hk); (try clear hi); (try simp only [errW_none, errW_some])) | ((with_reducible refine gate_callee (f := 10) rfl ?_); refine goesL_ (some 11) rfl rfl Tryd.func10 (by kernel_rfl) rfl #[.int .i32 t151, .int .i64 1] rfl (by (try simp only [List.map_toArray, List.map_cons, List.map_nil]); first | done | rfl | (simp only [List.length_drop, List.length_take]; rfl)) ?_; (with_reducible refine (due_Plain.calls k t151 1 t153 (some q156) _ A2.out).mono ?_); rintro e w8 ⟨rfl, hb⟩; refine ⟨_, rfl, ?_⟩; have n0_ := Aside0.mk (below_step (by repeat (first | (with_reducible first | exact HB.out | apply below_alloc | apply pw_below_drewN | apply below_drew1) | exact HB.out)) hb); clear HB; have HB := n0_; clear n0_; (try clear hb); (try clear hb2); (try clear hk); (try clear hi); (try simp only [errW_none, errW_some])))
      go_ret
      exact ⟨by first | rfl | (simp [errW_none, errW_some] <;> rfl) | (simp [*, errW_none, errW_some] <;> rfl), by repeat (first | (with_reducible first | exact HB.out | apply below_alloc | apply pw_below_drewN | apply below_drew1) | exact HB.out)⟩
  · have H1 : (some false) = some r := by rw [if_neg (show ¬ (some q155).isNone = true by simp)] at H; exact H
    clear H
    have H := H1
    clear H1
    try simp only [errW_none, errW_some]
    obtain rfl := Option.some.inj H
    go_enter Tryd.func9, Tryd.ntmps9
    go_wp2_with (first | ((with_reducible refine gate_callee (f := 23) rfl ?_); refine goesL_ (some 6) rfl rfl Tryd.func23 (by kernel_rfl) rfl #[.string (⟨#[50, 48, 50, 51, 45, 48, 50, 45, 50, 56]⟩ : ByteArray)] rfl (by (try simp only [List.map_toArray, List.map_cons, List.map_nil]); first | done | rfl | (simp only [List.length_drop, List.length_take]; rfl)) ?_; (with_reducible refine (date_Read.calls k (⟨#[50, 48, 50, 51, 45, 48, 50, 45, 50, 56]⟩ : ByteArray) t151 (some q155) _ ?hGL A1.out).mono ?_); (case hGL => exact Go.Proofs.YthokfepglahgpaaDoor.M.Laid.below HG.out (by repeat (first | (with_reducible first | exact HB.out | apply below_alloc | apply pw_below_drewN | apply below_drew1) | exact HB.out))); rintro e w9 ⟨rfl, hb⟩; refine ⟨_, rfl, ?_⟩; have n0_ := Aside0.mk (below_step (by repeat (first | (with_reducible first | exact HB.out | apply below_alloc | apply pw_below_drewN | apply below_drew1) | exact HB.out)) hb); clear HB; have HB := n0_; clear n0_; (try clear hb); (try clear hb2); (try clear hk); (try clear hi); (try simp only [errW_none, errW_some])) | ((with_reducible refine gate_callee (f := 10) rfl ?_); refine goesL_ (some 11) rfl rfl Tryd.func10 (by kernel_rfl) rfl #[.int .i32 t151, .int .i64 1] rfl (by (try simp only [List.map_toArray, List.map_cons, List.map_nil]); first | done | rfl | (simp only [List.length_drop, List.length_take]; rfl)) ?_; (with_reducible refine (due_Plain.calls k t151 1 t153 t154 _ A2.out).mono ?_); rintro e w10 ⟨rfl, hb⟩; refine ⟨_, rfl, ?_⟩; have n0_ := Aside0.mk (below_step (by repeat (first | (with_reducible first | exact HB.out | apply below_alloc | apply pw_below_drewN | apply below_drew1) | exact HB.out)) hb); clear HB; have HB := n0_; clear n0_; (try clear hb); (try clear hb2); (try clear hk); (try clear hi); (try simp only [errW_none, errW_some])))
    go_ret
    exact ⟨by first | rfl | (simp [errW_none, errW_some] <;> rfl) | (simp [*, errW_none, errW_some] <;> rfl), by repeat (first | (with_reducible first | exact HB.out | apply below_alloc | apply pw_below_drewN | apply below_drew1) | exact HB.out)⟩

end Go.Proofs.YthokfepglahgpaaDoor.PDueRolls
