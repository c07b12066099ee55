-- Printed by a wrapper of this session's round the kit's print.py; Lean checks it.
import Derived.Test.YtbgjeelbbmcpeaaPDateGoesx0
import Derived.Test.YtbgjeelbbmcpeaaPDateGoesx1
import Derived.Test.YtbgjeelbbmcpeaaPDateGoesx2
import Derived.Test.YtbgjeelbbmcpeaaPDateGoesx3
namespace Go.Proofs.Ytbgjeelbbmcpeaa.PDateGoes
open Go.RowKit Go.Proofs.YtbgjeelbbmcpeaaW.PrintWords Go.Proofs.YtbgjeelbbmcpeaaW.PrintLast Go.Proofs.YtbgjeelbbmcpeaaW.PrintMore
attribute [local go_sem] max2_int min2_int max_two min_two max_three min_three max_four min_four   -- for this text's walks alone
set_option linter.unusedVariables false
set_option linter.unusedSimpArgs false

attribute [local go_sem high] eqA25
/-! ### arrearslaw05_DateGoes: function 3 -/
mutual
def arrearslaw05_DateGoes.j0 : Nat → Int → Bool → Option (Bool)
  | 0, _, _ => none
  | k + 1, x0, x16 => if x16 = true then (some true) else ((date_Day_Civil.f k x0).bind fun bt129 => ((date_Day_Civil.f k (wrap32 (x0 + 1))).bind fun bt134 => (if bt129.2.2.2.isNone = true then (if bt134.2.2.2.isNone = true then (arrearslaw05_DateGoes.j1 k x0 false bt129.1 bt129.2.1 bt129.2.2.1 bt134.1 bt134.2.1 bt134.2.2.1) else (arrearslaw05_DateGoes.j1 k x0 true bt129.1 bt129.2.1 bt129.2.2.1 bt134.1 bt134.2.1 bt134.2.2.1)) else (arrearslaw05_DateGoes.j1 k x0 true bt129.1 bt129.2.1 bt129.2.2.1 bt134.1 bt134.2.1 bt134.2.2.1))))
def arrearslaw05_DateGoes.j1 : Nat → Int → Bool → Int → Int → Int → Int → Int → Int → Option (Bool)
  | 0, _, _, _, _, _, _, _, _ => none
  | k + 1, x0, x33, x134000, x134001, x134002, x139000, x139001, x139002 => if x33 = true then (some false) else ((date_Civil_Last.f k x134000 x134001 x134002).bind fun t141 => (if t141 = true then ((arrearsref05_Next.f k x134000 x134001 false).bind fun bt142 => (some (x139000 == bt142.1 && (x139001 == bt142.2 && (x139002 == 1))))) else (if (x139000 == x134000 && (x139001 == x134001 && (x139002 == (wrap64 (x134002 + 1))))) = true then ((date_Day_Week.f (wrap32 (x0 + 1))).bind fun t144 => ((date_Day_Week.f x0).bind fun t145 => (some (t144 == (Int.tmod (wrap64 (t145 + 1)) 7))))) else (some false))))
end
def arrearslaw05_DateGoes.f (k : Nat) (a0 : Int) : Option (Bool) := (arrearslaw05_awake.f k).bind fun t128 => (if t128 = true then (if a0 < 0 then (arrearslaw05_DateGoes.j0 k a0 true) else (arrearslaw05_DateGoes.j0 k a0 (decide (a0 ≥ 3652058)))) else (some false))
theorem arrearslaw05_DateGoes.mono_l : ∀ k, (∀ y0 y1, LeO (arrearslaw05_DateGoes.j0 k y0 y1) (arrearslaw05_DateGoes.j0 (k + 1) y0 y1)) ∧ (∀ y0 y1 y2 y3 y4 y5 y6 y7, LeO (arrearslaw05_DateGoes.j1 k y0 y1 y2 y3 y4 y5 y6 y7) (arrearslaw05_DateGoes.j1 (k + 1) y0 y1 y2 y3 y4 y5 y6 y7))
  | 0 => ⟨fun _ _ r h => by simp [arrearslaw05_DateGoes.j0] at h, fun _ _ _ _ _ _ _ _ r h => by simp [arrearslaw05_DateGoes.j1] at h⟩
  | k + 1 => by
    obtain ⟨ih0, ih1⟩ := arrearslaw05_DateGoes.mono_l k
    refine ⟨?_, ?_⟩
    · intro y0 y1
      unfold arrearslaw05_DateGoes.j0
      repeat' first
      | (with_reducible exact ih0 _ _)
      | (with_reducible exact ih1 _ _ _ _ _ _ _ _)
      | (with_reducible exact arrearslaw05_awake.mono _)
      | (with_reducible exact arrearsref05_Next.mono _ _ _ _)
      | (with_reducible exact date_Civil_Last.mono _ _ _ _)
      | (with_reducible exact date_Day_Civil.mono _ _)
      | (with_reducible exact LeO.refl _)
      | (with_reducible exact LeO.none _)
      | (with_reducible refine LeO.ite ?_ ?_)
      | (with_reducible refine LeO.bind ?_ (fun _ => ?_))
      | exact ih0 _ _
      | exact ih1 _ _ _ _ _ _ _ _
      | exact arrearslaw05_awake.mono _
      | exact arrearsref05_Next.mono _ _ _ _
      | exact date_Civil_Last.mono _ _ _ _
      | exact date_Day_Civil.mono _ _
      | exact LeO.none _
      | refine LeO.ite ?_ ?_
      | refine LeO.bind ?_ (fun _ => ?_)
    · intro y0 y1 y2 y3 y4 y5 y6 y7
      unfold arrearslaw05_DateGoes.j1
      repeat' first
      | (with_reducible exact ih0 _ _)
      | (with_reducible exact ih1 _ _ _ _ _ _ _ _)
      | (with_reducible exact arrearslaw05_awake.mono _)
      | (with_reducible exact arrearsref05_Next.mono _ _ _ _)
      | (with_reducible exact date_Civil_Last.mono _ _ _ _)
      | (with_reducible exact date_Day_Civil.mono _ _)
      | (with_reducible exact LeO.refl _)
      | (with_reducible exact LeO.none _)
      | (with_reducible refine LeO.ite ?_ ?_)
      | (with_reducible refine LeO.bind ?_ (fun _ => ?_))
      | exact ih0 _ _
      | exact ih1 _ _ _ _ _ _ _ _
      | exact arrearslaw05_awake.mono _
      | exact arrearsref05_Next.mono _ _ _ _
      | exact date_Civil_Last.mono _ _ _ _
      | exact date_Day_Civil.mono _ _
      | exact LeO.none _
      | refine LeO.ite ?_ ?_
      | refine LeO.bind ?_ (fun _ => ?_)
theorem arrearslaw05_DateGoes.mono : ∀ a0 k, LeO (arrearslaw05_DateGoes.f k a0) (arrearslaw05_DateGoes.f (k + 1) a0) := by
  intro a0 k
  obtain ⟨ih0, ih1⟩ := arrearslaw05_DateGoes.mono_l k
  unfold arrearslaw05_DateGoes.f
  repeat' first
      | (with_reducible exact ih0 _ _)
      | (with_reducible exact ih1 _ _ _ _ _ _ _ _)
      | (with_reducible exact arrearslaw05_awake.mono _)
      | (with_reducible exact arrearsref05_Next.mono _ _ _ _)
      | (with_reducible exact date_Civil_Last.mono _ _ _ _)
      | (with_reducible exact date_Day_Civil.mono _ _)
      | (with_reducible exact LeO.refl _)
      | (with_reducible exact LeO.none _)
      | (with_reducible refine LeO.ite ?_ ?_)
      | (with_reducible refine LeO.bind ?_ (fun _ => ?_))
      | exact ih0 _ _
      | exact ih1 _ _ _ _ _ _ _ _
      | exact arrearslaw05_awake.mono _
      | exact arrearsref05_Next.mono _ _ _ _
      | exact date_Civil_Last.mono _ _ _ _
      | exact date_Day_Civil.mono _ _
      | exact LeO.none _
      | refine LeO.ite ?_ ?_
      | refine LeO.bind ?_ (fun _ => ?_)
set_option maxHeartbeats 8000000 in
set_option maxRecDepth 100000 in
theorem arrearslaw05_DateGoes.calls (k : Nat) (a0 : Int) (r : Bool) (w : World) (h : arrearslaw05_DateGoes.f k a0 = some r) :
    Calls Try.prog 3 #[.int .i32 a0] w fun e w' => e = .returned (.bool r) ∧ Below w.heap.size w w' := by
  have hu25 := Try.underlying25
  have hu27 := Try.underlying27
  have hu36 := Try.underlying36
  have HB := Aside0.mk (Below.refl w.heap.size w)
  have H : ((arrearslaw05_awake.f k).bind fun t128 => (if t128 = true then (if a0 < 0 then (arrearslaw05_DateGoes.j0 k a0 true) else (arrearslaw05_DateGoes.j0 k a0 (decide (a0 ≥ 3652058)))) else (some false))) = some r := h
  clear h
  replace H := Option.bind_eq_some_iff.mp H
  obtain ⟨t128, A20, H⟩ := H
  replace H : (if t128 = true then (if a0 < 0 then (arrearslaw05_DateGoes.j0 k a0 true) else (arrearslaw05_DateGoes.j0 k a0 (decide (a0 ≥ 3652058)))) else (some false)) = some r := H
  have A2 := Aside0.mk A20
  clear A20
  by_cases c3 : t128 = true
  · subst c3
    have H1 : (if a0 < 0 then (arrearslaw05_DateGoes.j0 k a0 true) else (arrearslaw05_DateGoes.j0 k a0 (decide (a0 ≥ 3652058)))) = some r := by rw [if_pos rfl] at H; exact H
    clear H
    have H := H1
    clear H1
    have HC4 := Aside0.mk H
    clear H
    go_enter Try.func3, Try.ntmps3
    go_upto_region 3 with (first | ((with_reducible refine gate_callee (f := 4) rfl ?_); refine goesL_ (some 9) rfl rfl Try.func4 (by kernel_rfl) rfl #[] rfl (by (try simp only [List.map_toArray, List.map_cons, List.map_nil]); first | done | rfl | (simp only [List.length_drop, List.length_take]; rfl)) ?_; (with_reducible refine (arrearslaw05_awake.calls k  true _ A2.out).mono ?_); rintro e w5 ⟨rfl, hb⟩; refine ⟨_, rfl, ?_⟩; have n0_ := Aside0.mk (below_step (by repeat (first | (with_reducible first | exact HB.out | apply below_alloc | apply pw_below_drewN | apply below_drew1) | exact HB.out)) hb); clear HB; have HB := n0_; clear n0_; (try clear hb); (try clear hb2); (try clear hk); (try clear hi)))
    (try simp only [Act.put, List.setIfInBounds_toArray, List.set_cons_zero, List.set_cons_succ])
    go_cut [16] (fun v16 wc => ∃ (kq : Nat) (x16_3 : Bool), v16 = .bool x16_3 ∧ Aside0 (arrearslaw05_DateGoes.j0 kq a0 x16_3 = some r) ∧ Aside0 (kq ≤ k) ∧ Aside0 (Below w.heap.size w wc))
    case first =>
      have H := HC4.out
      clear HC4
      by_cases c6 : a0 < 0
      · rw [if_pos c6] at H
        have c6b0 : decide (a0 < 0) = true := decide_eq_true c6
        clear c6
        (first | rw [c6b0] | (simp only [i64_w, i32_w]; rw [c6b0]) | skip)
        have H' := Aside0.mk H
        clear H
        go_wp2
        go_meet
        case rel => exact ⟨_, (true), (by first | rfl | (simp; done) | (simp [*]; done)), H', ⟨by first | omega | exact Nat.le_refl _⟩, ⟨by repeat (first | (with_reducible first | exact HB.out | apply below_alloc | apply pw_below_drewN | apply below_drew1) | exact HB.out)⟩⟩
      · rw [if_neg c6] at H
        have c6b0 : decide (a0 < 0) = false := decide_eq_false c6
        clear c6
        (first | rw [c6b0] | (simp only [i64_w, i32_w]; rw [c6b0]) | skip)
        have H' := Aside0.mk H
        clear H
        go_wp2
        go_meet
        case rel => exact ⟨_, (decide (a0 ≥ 3652058)), (by first | rfl | (simp; done) | (simp [*]; done)), H', ⟨by first | omega | exact Nat.le_refl _⟩, ⟨by repeat (first | (with_reducible first | exact HB.out | apply below_alloc | apply pw_below_drewN | apply below_drew1) | exact HB.out)⟩⟩
    case rest =>
      clear HC4
      try clear p2
      try clear c3
      try clear c4
      try clear c6
      try clear c6b0
      obtain ⟨kq, x16_3, rfl, HA, HJ3, HB⟩ := hcut
      cases kq with
      | zero => exact absurd HA.out (by simp [arrearslaw05_DateGoes.j0])
      | succ kj3 =>
        have H := HA.out
        clear HA
        simp only [arrearslaw05_DateGoes.j0] at H
        by_cases c7 : x16_3 = true
        · subst c7
          have H1 : (some true) = some r := by rw [if_pos rfl] at H; exact H
          clear H
          have H := H1
          clear H1
          obtain rfl := Option.some.inj H
          go_wp2
          go_ret
          exact ⟨by first | rfl | (simp [errW_none, errW_some] <;> rfl) | (simp [*, errW_none, errW_some] <;> rfl), by repeat (first | (with_reducible first | exact HB.out | apply below_alloc | apply pw_below_drewN | apply below_drew1) | exact HB.out)⟩
        · replace c7 := Bool.eq_false_iff.mpr c7
          subst c7
          have H1 : ((date_Day_Civil.f kj3 a0).bind fun bt129 => ((date_Day_Civil.f kj3 (wrap32 (a0 + 1))).bind fun bt134 => (if bt129.2.2.2.isNone = true then (if bt134.2.2.2.isNone = true then (arrearslaw05_DateGoes.j1 kj3 a0 false bt129.1 bt129.2.1 bt129.2.2.1 bt134.1 bt134.2.1 bt134.2.2.1) else (arrearslaw05_DateGoes.j1 kj3 a0 true bt129.1 bt129.2.1 bt129.2.2.1 bt134.1 bt134.2.1 bt134.2.2.1)) else (arrearslaw05_DateGoes.j1 kj3 a0 true bt129.1 bt129.2.1 bt129.2.2.1 bt134.1 bt134.2.1 bt134.2.2.1)))) = some r := by rw [if_neg (show ¬ (false = true) by decide)] at H; exact H
          clear H
          have H := H1
          clear H1
          replace H := Option.bind_eq_some_iff.mp H
          obtain ⟨⟨t129, t130, t131, t132⟩, A80, H⟩ := H
          replace H : ((date_Day_Civil.f kj3 (wrap32 (a0 + 1))).bind fun bt134 => (if t132.isNone = true then (if bt134.2.2.2.isNone = true then (arrearslaw05_DateGoes.j1 kj3 a0 false t129 t130 t131 bt134.1 bt134.2.1 bt134.2.2.1) else (arrearslaw05_DateGoes.j1 kj3 a0 true t129 t130 t131 bt134.1 bt134.2.1 bt134.2.2.1)) else (arrearslaw05_DateGoes.j1 kj3 a0 true t129 t130 t131 bt134.1 bt134.2.1 bt134.2.2.1))) = some r := H
          have A8 := Aside0.mk A80
          clear A80
          replace H := Option.bind_eq_some_iff.mp H
          obtain ⟨⟨t134, t135, t136, t137⟩, A90, H⟩ := H
          replace H : (if t132.isNone = true then (if t137.isNone = true then (arrearslaw05_DateGoes.j1 kj3 a0 false t129 t130 t131 t134 t135 t136) else (arrearslaw05_DateGoes.j1 kj3 a0 true t129 t130 t131 t134 t135 t136)) else (arrearslaw05_DateGoes.j1 kj3 a0 true t129 t130 t131 t134 t135 t136)) = some r := H
          have A9 := Aside0.mk A90
          clear A90
          have HC10 := Aside0.mk H
          clear H
          go_upto_region 7 with (first | ((with_reducible refine gate_callee (f := 5) rfl ?_); refine goesL_ (some 19) rfl rfl Try.func5 (by kernel_rfl) rfl #[.int .i32 a0] rfl (by (try simp only [List.map_toArray, List.map_cons, List.map_nil]); first | done | rfl | (simp only [List.length_drop, List.length_take]; rfl)) ?_; (with_reducible refine (date_Day_Civil.calls kj3 a0 t129 t130 t131 t132 _ A8.out).mono ?_); rintro e w11 ⟨rfl, hb⟩; refine ⟨_, rfl, ?_⟩; have n0_ := Aside0.mk (below_step (by repeat (first | (with_reducible first | exact HB.out | apply below_alloc | apply pw_below_drewN | apply below_drew1) | exact HB.out)) hb); clear HB; have HB := n0_; clear n0_; (try clear hb); (try clear hb2); (try clear hk); (try clear hi); (try simp only [errW_none, errW_some])) | ((with_reducible refine gate_dst (N := 3) rfl ?_); refine box_event ?hg (N := 3) ?hd (cs := #[.int .i64 0, .int .i64 0, .int .i64 0]) (t := 25) ?hr ?_; (case hd => rfl); (case hg => rfl); (case hr => first | (go_simp; done) | (go_simp; rfl)); intro gb133 hg w12 hbox hb; have n0_ := Aside0.mk (below_step (by repeat (first | (with_reducible first | exact HB.out | apply below_alloc | apply pw_below_drewN | apply below_drew1) | exact HB.out)) hb); have n1_ := Aside0.mk (hbox); have n2_ := Aside0.mk ((by rw [hg]; exact (below_size (by repeat (first | (with_reducible first | exact HB.out | apply below_alloc | apply pw_below_drewN | apply below_drew1) | exact HB.out))) : w.heap.size ≤ gb133)); have n3_ := Aside0.mk ((by rw [hg]; exact (below_size (by repeat (first | (with_reducible first | exact HB.out | apply below_alloc | apply pw_below_drewN | apply below_drew1) | exact HB.out))) : w.heap.size ≤ gb133)); clear HB; have HB := n0_; have BK133 := n1_; have GW133 := n2_; have GE133 := n3_; clear n0_ n1_ n2_ n3_; clear hb hbox hg; have hcz13_0 : w12.cell? ⟨gb133, 0, none⟩ = some (.int .i64 0) := (blk_cell BK133.out 0).trans rfl; have hcz13_1 : w12.cell? ⟨gb133, 1, none⟩ = some (.int .i64 0) := (blk_cell BK133.out 1).trans rfl; have hcz13_2 : w12.cell? ⟨gb133, 2, none⟩ = some (.int .i64 0) := (blk_cell BK133.out 2).trans rfl; have hfz13_0 := blk_frozen BK133.out 0; have hfz13_1 := blk_frozen BK133.out 1; have hfz13_2 := blk_frozen BK133.out 2) | ((with_reducible refine gate_callee (f := 5) rfl ?_); refine goesL_ (some 25) rfl rfl Try.func5 (by kernel_rfl) rfl #[.int .i32 (wrap32 (a0 + 1))] rfl (by (try simp only [List.map_toArray, List.map_cons, List.map_nil]); first | done | rfl | (simp only [List.length_drop, List.length_take]; rfl)) ?_; (with_reducible refine (date_Day_Civil.calls kj3 (wrap32 (a0 + 1)) t134 t135 t136 t137 _ A9.out).mono ?_); rintro e w14 ⟨rfl, hb⟩; refine ⟨_, rfl, ?_⟩; have n0_ := Aside0.mk (blk_below (g := gb133) (o := .cells #[.int .i64 t129, .int .i64 t130, .int .i64 t131] 25 (0, 0)) (by (with_reducible repeat (first | refine blk_drewN ?_ _ | refine blk_drew ?_ | refine blk_alloc ?_ _)); refine blk_put (cs := #[.int .i64 t129, .int .i64 t130, .int .i64 0]) ?_ 2 _ rfl; (with_reducible repeat (first | refine blk_drewN ?_ _ | refine blk_drew ?_ | refine blk_alloc ?_ _)); refine blk_put (cs := #[.int .i64 t129, .int .i64 0, .int .i64 0]) ?_ 1 _ rfl; (with_reducible repeat (first | refine blk_drewN ?_ _ | refine blk_drew ?_ | refine blk_alloc ?_ _)); refine blk_put (cs := #[.int .i64 0, .int .i64 0, .int .i64 0]) ?_ 0 _ rfl; (with_reducible repeat (first | refine blk_drewN ?_ _ | refine blk_drew ?_ | refine blk_alloc ?_ _)); exact BK133.out) hb); have n1_ := Aside0.mk (below_step (by repeat (first | (with_reducible first | exact HB.out | apply below_alloc | apply pw_below_drewN | apply below_drew1 | refine below_set ?_ GE133.out) | exact HB.out)) hb); clear BK133; clear HB; have BK133 := n0_; have HB := n1_; clear n0_ n1_; (try clear hb); (try clear hb2); (try clear hk); (try clear hi); (try simp only [errW_none, errW_some])) | ((with_reducible refine gate_dst (N := 5) rfl ?_); refine box_event ?hg (N := 5) ?hd (cs := #[.int .i64 0, .int .i64 0, .int .i64 0]) (t := 25) ?hr ?_; (case hd => rfl); (case hg => rfl); (case hr => first | (go_simp; done) | (go_simp; rfl)); intro gb138 hg w15 hbox hb; have n0_ := Aside0.mk (blk_below (g := gb133) (o := .cells #[.int .i64 t129, .int .i64 t130, .int .i64 t131] 25 (0, 0)) (by (with_reducible repeat (first | refine blk_drewN ?_ _ | refine blk_drew ?_ | refine blk_alloc ?_ _)); exact BK133.out) hb); have n1_ := Aside0.mk (below_step (by repeat (first | (with_reducible first | exact HB.out | apply below_alloc | apply pw_below_drewN | apply below_drew1 | refine below_set ?_ GE133.out) | exact HB.out)) hb); have n2_ := Aside0.mk (hbox); have n3_ := Aside0.mk ((by rw [hg]; exact (below_size (by repeat (first | (with_reducible first | exact HB.out | apply below_alloc | apply pw_below_drewN | apply below_drew1 | refine below_set ?_ GE133.out) | exact HB.out))) : w.heap.size ≤ gb138)); have n4_ := Aside0.mk ((by rw [hg]; exact (below_size (by repeat (first | (with_reducible first | exact HB.out | apply below_alloc | apply pw_below_drewN | apply below_drew1 | refine below_set ?_ GE133.out) | exact HB.out))) : w.heap.size ≤ gb138)); have n5_ := Aside0.mk ((by rw [hg]; exact Nat.ne_of_lt (blk_lt (g := gb133) (o := .cells #[.int .i64 t129, .int .i64 t130, .int .i64 t131] 25 (0, 0)) (by (with_reducible repeat (first | refine blk_drewN ?_ _ | refine blk_drew ?_ | refine blk_alloc ?_ _)); exact BK133.out)) : gb133 ≠ gb138)); have n6_ := Aside0.mk ((by rw [hg]; exact Nat.ne_of_gt (blk_lt (g := gb133) (o := .cells #[.int .i64 t129, .int .i64 t130, .int .i64 t131] 25 (0, 0)) (by (with_reducible repeat (first | refine blk_drewN ?_ _ | refine blk_drew ?_ | refine blk_alloc ?_ _)); exact BK133.out)) : gb138 ≠ gb133)); clear BK133; clear HB; have BK133 := n0_; have HB := n1_; have BK138 := n2_; have GW138 := n3_; have GE138 := n4_; have NB133_138 := n5_; have NB138_133 := n6_; clear n0_ n1_ n2_ n3_ n4_ n5_ n6_; clear hb hbox hg; have hnb16 := NB138_133.out; have hnc16 := NB133_138.out; have hcz17_0 : w15.cell? ⟨gb138, 0, none⟩ = some (.int .i64 0) := (blk_cell BK138.out 0).trans rfl; have hcz17_1 : w15.cell? ⟨gb138, 1, none⟩ = some (.int .i64 0) := (blk_cell BK138.out 1).trans rfl; have hcz17_2 : w15.cell? ⟨gb138, 2, none⟩ = some (.int .i64 0) := (blk_cell BK138.out 2).trans rfl; have hfz17_0 := blk_frozen BK138.out 0; have hfz17_1 := blk_frozen BK138.out 1; have hfz17_2 := blk_frozen BK138.out 2))
          (try simp only [Act.put, List.setIfInBounds_toArray, List.set_cons_zero, List.set_cons_succ])
          go_cut [33] (fun v33 wc => ∃ (kq : Nat) (x33_9 : Bool), v33 = .bool x33_9 ∧ Aside0 (arrearslaw05_DateGoes.j1 kq a0 x33_9 t129 t130 t131 t134 t135 t136 = some r) ∧ Aside0 (kq ≤ kj3) ∧ Aside0 (wc.heap[gb133]? = some (.cells #[.int .i64 t129, .int .i64 t130, .int .i64 t131] 25 (0, 0))) ∧ Aside0 (wc.heap[gb138]? = some (.cells #[.int .i64 t134, .int .i64 t135, .int .i64 t136] 25 (0, 0))) ∧ Aside0 (Below w.heap.size w wc))
          case first =>
            have H := HC10.out
            clear HC10
            rcases t132 with _ | q139
            · have H1 : (if t137.isNone = true then (arrearslaw05_DateGoes.j1 kj3 a0 false t129 t130 t131 t134 t135 t136) else (arrearslaw05_DateGoes.j1 kj3 a0 true t129 t130 t131 t134 t135 t136)) = some r := by rw [if_pos (show (none : Option Int).isNone = true by rfl)] at H; exact H
              clear H
              have H := H1
              clear H1
              try simp only [errW_none, errW_some]
              rcases t137 with _ | q140
              · have H1 : (arrearslaw05_DateGoes.j1 kj3 a0 false t129 t130 t131 t134 t135 t136) = some r := by rw [if_pos (show (none : Option Int).isNone = true by rfl)] at H; exact H
                clear H
                have H := H1
                clear H1
                try simp only [errW_none, errW_some]
                have H' := Aside0.mk H
                clear H
                go_wp2
                go_meet
                case rel => exact ⟨_, (false), (by first | rfl | (simp; done) | (simp [*]; done)), H', ⟨by have := HJ3.out; first | omega | exact Nat.le_refl _⟩, ⟨by (with_reducible repeat (first | refine blk_drewN ?_ _ | refine blk_drew ?_ | refine blk_alloc ?_ _)); refine blk_far ?_ NB133_138.out _; (with_reducible repeat (first | refine blk_drewN ?_ _ | refine blk_drew ?_ | refine blk_alloc ?_ _)); refine blk_far ?_ NB133_138.out _; (with_reducible repeat (first | refine blk_drewN ?_ _ | refine blk_drew ?_ | refine blk_alloc ?_ _)); refine blk_far ?_ NB133_138.out _; (with_reducible repeat (first | refine blk_drewN ?_ _ | refine blk_drew ?_ | refine blk_alloc ?_ _)); exact BK133.out⟩, ⟨by (with_reducible repeat (first | refine blk_drewN ?_ _ | refine blk_drew ?_ | refine blk_alloc ?_ _)); refine blk_put (cs := #[.int .i64 t134, .int .i64 t135, .int .i64 0]) ?_ 2 _ rfl; (with_reducible repeat (first | refine blk_drewN ?_ _ | refine blk_drew ?_ | refine blk_alloc ?_ _)); refine blk_put (cs := #[.int .i64 t134, .int .i64 0, .int .i64 0]) ?_ 1 _ rfl; (with_reducible repeat (first | refine blk_drewN ?_ _ | refine blk_drew ?_ | refine blk_alloc ?_ _)); refine blk_put (cs := #[.int .i64 0, .int .i64 0, .int .i64 0]) ?_ 0 _ rfl; (with_reducible repeat (first | refine blk_drewN ?_ _ | refine blk_drew ?_ | refine blk_alloc ?_ _)); exact BK138.out⟩, ⟨by repeat (first | (with_reducible first | exact HB.out | apply below_alloc | apply pw_below_drewN | apply below_drew1 | refine below_set ?_ GE133.out | refine below_set ?_ GE138.out) | exact HB.out)⟩⟩
              · have H1 : (arrearslaw05_DateGoes.j1 kj3 a0 true t129 t130 t131 t134 t135 t136) = some r := by rw [if_neg (show ¬ (some q140).isNone = true by simp)] at H; exact H
                clear H
                have H := H1
                clear H1
                try simp only [errW_none, errW_some]
                have H' := Aside0.mk H
                clear H
                go_wp2
                go_meet
                case rel => exact ⟨_, (true), (by first | rfl | (simp; done) | (simp [*]; done)), H', ⟨by have := HJ3.out; first | omega | exact Nat.le_refl _⟩, ⟨by (with_reducible repeat (first | refine blk_drewN ?_ _ | refine blk_drew ?_ | refine blk_alloc ?_ _)); refine blk_far ?_ NB133_138.out _; (with_reducible repeat (first | refine blk_drewN ?_ _ | refine blk_drew ?_ | refine blk_alloc ?_ _)); refine blk_far ?_ NB133_138.out _; (with_reducible repeat (first | refine blk_drewN ?_ _ | refine blk_drew ?_ | refine blk_alloc ?_ _)); refine blk_far ?_ NB133_138.out _; (with_reducible repeat (first | refine blk_drewN ?_ _ | refine blk_drew ?_ | refine blk_alloc ?_ _)); exact BK133.out⟩, ⟨by (with_reducible repeat (first | refine blk_drewN ?_ _ | refine blk_drew ?_ | refine blk_alloc ?_ _)); refine blk_put (cs := #[.int .i64 t134, .int .i64 t135, .int .i64 0]) ?_ 2 _ rfl; (with_reducible repeat (first | refine blk_drewN ?_ _ | refine blk_drew ?_ | refine blk_alloc ?_ _)); refine blk_put (cs := #[.int .i64 t134, .int .i64 0, .int .i64 0]) ?_ 1 _ rfl; (with_reducible repeat (first | refine blk_drewN ?_ _ | refine blk_drew ?_ | refine blk_alloc ?_ _)); refine blk_put (cs := #[.int .i64 0, .int .i64 0, .int .i64 0]) ?_ 0 _ rfl; (with_reducible repeat (first | refine blk_drewN ?_ _ | refine blk_drew ?_ | refine blk_alloc ?_ _)); exact BK138.out⟩, ⟨by repeat (first | (with_reducible first | exact HB.out | apply below_alloc | apply pw_below_drewN | apply below_drew1 | refine below_set ?_ GE133.out | refine below_set ?_ GE138.out) | exact HB.out)⟩⟩
            · have H1 : (arrearslaw05_DateGoes.j1 kj3 a0 true t129 t130 t131 t134 t135 t136) = some r := by rw [if_neg (show ¬ (some q139).isNone = true by simp)] at H; exact H
              clear H
              have H := H1
              clear H1
              try simp only [errW_none, errW_some]
              have H' := Aside0.mk H
              clear H
              go_wp2
              go_meet
              case rel => exact ⟨_, (true), (by first | rfl | (simp; done) | (simp [*]; done)), H', ⟨by have := HJ3.out; first | omega | exact Nat.le_refl _⟩, ⟨by (with_reducible repeat (first | refine blk_drewN ?_ _ | refine blk_drew ?_ | refine blk_alloc ?_ _)); refine blk_far ?_ NB133_138.out _; (with_reducible repeat (first | refine blk_drewN ?_ _ | refine blk_drew ?_ | refine blk_alloc ?_ _)); refine blk_far ?_ NB133_138.out _; (with_reducible repeat (first | refine blk_drewN ?_ _ | refine blk_drew ?_ | refine blk_alloc ?_ _)); refine blk_far ?_ NB133_138.out _; (with_reducible repeat (first | refine blk_drewN ?_ _ | refine blk_drew ?_ | refine blk_alloc ?_ _)); exact BK133.out⟩, ⟨by (with_reducible repeat (first | refine blk_drewN ?_ _ | refine blk_drew ?_ | refine blk_alloc ?_ _)); refine blk_put (cs := #[.int .i64 t134, .int .i64 t135, .int .i64 0]) ?_ 2 _ rfl; (with_reducible repeat (first | refine blk_drewN ?_ _ | refine blk_drew ?_ | refine blk_alloc ?_ _)); refine blk_put (cs := #[.int .i64 t134, .int .i64 0, .int .i64 0]) ?_ 1 _ rfl; (with_reducible repeat (first | refine blk_drewN ?_ _ | refine blk_drew ?_ | refine blk_alloc ?_ _)); refine blk_put (cs := #[.int .i64 0, .int .i64 0, .int .i64 0]) ?_ 0 _ rfl; (with_reducible repeat (first | refine blk_drewN ?_ _ | refine blk_drew ?_ | refine blk_alloc ?_ _)); exact BK138.out⟩, ⟨by repeat (first | (with_reducible first | exact HB.out | apply below_alloc | apply pw_below_drewN | apply below_drew1 | refine below_set ?_ GE133.out | refine below_set ?_ GE138.out) | exact HB.out)⟩⟩
          case rest =>
            clear HC10
            try clear c1
            try clear q1
            try clear p2
            try clear c3
            try clear p3
            try clear c4
            try clear c5
            try clear c6
            try clear c6b0
            try clear c7
            try clear q13
            try clear q14
            try clear c16
            try clear hcz13_0
            try clear hcz13_1
            try clear hcz13_2
            try clear hcz17_0
            try clear hcz17_1
            try clear hcz17_2
            try clear hfz13_0
            try clear hfz13_1
            try clear hfz13_2
            try clear hfz17_0
            try clear hfz17_1
            try clear hfz17_2
            try clear p2
            try clear q139
            try clear q140
            obtain ⟨kq, x33_9, rfl, HA, HJ9, BK133, BK138, HB⟩ := hcut
            cases kq with
            | zero => exact absurd HA.out (by simp [arrearslaw05_DateGoes.j1])
            | succ kj9 =>
              have H := HA.out
              clear HA
              simp only [arrearslaw05_DateGoes.j1] at H
              by_cases c18 : x33_9 = true
              · subst c18
                have H1 : (some false) = some r := by rw [if_pos rfl] at H; exact H
                clear H
                have H := H1
                clear H1
                obtain rfl := Option.some.inj H
                go_wp2
                go_ret
                exact ⟨by first | rfl | (simp [errW_none, errW_some] <;> rfl) | (simp [*, errW_none, errW_some] <;> rfl), by repeat (first | (with_reducible first | exact HB.out | apply below_alloc | apply pw_below_drewN | apply below_drew1 | refine below_set ?_ GE133.out | refine below_set ?_ GE138.out) | exact HB.out)⟩
              · replace c18 := Bool.eq_false_iff.mpr c18
                subst c18
                have H1 : ((date_Civil_Last.f kj9 t129 t130 t131).bind fun t141 => (if t141 = true then ((arrearsref05_Next.f kj9 t129 t130 false).bind fun bt142 => (some (t134 == bt142.1 && (t135 == bt142.2 && (t136 == 1))))) else (if (t134 == t129 && (t135 == t130 && (t136 == (wrap64 (t131 + 1))))) = true then ((date_Day_Week.f (wrap32 (a0 + 1))).bind fun t144 => ((date_Day_Week.f a0).bind fun t145 => (some (t144 == (Int.tmod (wrap64 (t145 + 1)) 7))))) else (some false)))) = some r := by rw [if_neg (show ¬ (false = true) by decide)] at H; exact H
                clear H
                have H := H1
                clear H1
                replace H := Option.bind_eq_some_iff.mp H
                obtain ⟨t141, A190, H⟩ := H
                replace H : (if t141 = true then ((arrearsref05_Next.f kj9 t129 t130 false).bind fun bt142 => (some (t134 == bt142.1 && (t135 == bt142.2 && (t136 == 1))))) else (if (t134 == t129 && (t135 == t130 && (t136 == (wrap64 (t131 + 1))))) = true then ((date_Day_Week.f (wrap32 (a0 + 1))).bind fun t144 => ((date_Day_Week.f a0).bind fun t145 => (some (t144 == (Int.tmod (wrap64 (t145 + 1)) 7))))) else (some false))) = some r := H
                have A19 := Aside0.mk A190
                clear A190
                by_cases c20 : t141 = true
                · subst c20
                  have H1 : ((arrearsref05_Next.f kj9 t129 t130 false).bind fun bt142 => (some (t134 == bt142.1 && (t135 == bt142.2 && (t136 == 1))))) = some r := by rw [if_pos rfl] at H; exact H
                  clear H
                  have H := H1
                  clear H1
                  replace H := Option.bind_eq_some_iff.mp H
                  obtain ⟨⟨t142, t143⟩, A210, H⟩ := H
                  replace H : (some (t134 == t142 && (t135 == t143 && (t136 == 1)))) = some r := H
                  have A21 := Aside0.mk A210
                  clear A210
                  obtain rfl := Option.some.inj H
                  have hnb22 := NB133_138.out
                  have hnc22 := NB138_133.out
                  have hcz23_0 : wc.cell? ⟨gb133, 0, none⟩ = some (.int .i64 t129) := (blk_cell BK133.out 0).trans rfl
                  have hcz23_1 : wc.cell? ⟨gb133, 1, none⟩ = some (.int .i64 t130) := (blk_cell BK133.out 1).trans rfl
                  have hcz23_2 : wc.cell? ⟨gb133, 2, none⟩ = some (.int .i64 t131) := (blk_cell BK133.out 2).trans rfl
                  have hfz23_0 := blk_frozen BK133.out 0
                  have hfz23_1 := blk_frozen BK133.out 1
                  have hfz23_2 := blk_frozen BK133.out 2
                  go_wp2_with (first | ((with_reducible refine gate_callee (f := 6) rfl ?_); refine goesL_ (some 35) rfl rfl Try.func6 (by kernel_rfl) rfl #[.agg #[.int .i64 t129, .int .i64 t130, .int .i64 t131]] rfl (by (try simp only [List.map_toArray, List.map_cons, List.map_nil]); first | done | rfl | (simp only [List.length_drop, List.length_take]; rfl)) ?_; (with_reducible refine (date_Civil_Last.calls kj9 t129 t130 t131 true _ A19.out).mono ?_); rintro e w24 ⟨rfl, hb⟩; refine ⟨_, rfl, ?_⟩; have n0_ := Aside0.mk (blk_below (g := gb133) (o := .cells #[.int .i64 t129, .int .i64 t130, .int .i64 t131] 25 (0, 0)) (by (with_reducible repeat (first | refine blk_drewN ?_ _ | refine blk_drew ?_ | refine blk_alloc ?_ _)); exact BK133.out) hb); have n1_ := Aside0.mk (blk_below (g := gb138) (o := .cells #[.int .i64 t134, .int .i64 t135, .int .i64 t136] 25 (0, 0)) (by (with_reducible repeat (first | refine blk_drewN ?_ _ | refine blk_drew ?_ | refine blk_alloc ?_ _)); exact BK138.out) hb); have n2_ := Aside0.mk (below_step (by repeat (first | (with_reducible first | exact HB.out | apply below_alloc | apply pw_below_drewN | apply below_drew1 | refine below_set ?_ GE133.out | refine below_set ?_ GE138.out) | exact HB.out)) hb); clear BK133; clear BK138; clear HB; have BK133 := n0_; have BK138 := n1_; have HB := n2_; clear n0_ n1_ n2_; (try clear hb); (try clear hb2); (try clear hk); (try clear hi); have hcz25_0 : w24.cell? ⟨gb133, 0, none⟩ = some (.int .i64 t129) := (blk_cell BK133.out 0).trans rfl; have hcz25_1 : w24.cell? ⟨gb133, 1, none⟩ = some (.int .i64 t130) := (blk_cell BK133.out 1).trans rfl; have hcz25_2 : w24.cell? ⟨gb133, 2, none⟩ = some (.int .i64 t131) := (blk_cell BK133.out 2).trans rfl; have hfz25_0 := blk_frozen BK133.out 0; have hfz25_1 := blk_frozen BK133.out 1; have hfz25_2 := blk_frozen BK133.out 2) | ((with_reducible refine gate_callee (f := 7) rfl ?_); refine goesL_ (some 41) rfl rfl Try.func7 (by kernel_rfl) rfl #[.int .i64 t129, .int .i64 t130, .bool false] rfl (by (try simp only [List.map_toArray, List.map_cons, List.map_nil]); first | done | rfl | (simp only [List.length_drop, List.length_take]; rfl)) ?_; (with_reducible refine (arrearsref05_Next.calls kj9 t129 t130 false t142 t143 _ A21.out).mono ?_); rintro e w' ⟨rfl, ⟨nd, rfl⟩⟩; refine ⟨_, rfl, ?_⟩; have hcz26_0 : w24.cell? ⟨gb138, 0, none⟩ = some (.int .i64 t134) := (blk_cell BK138.out 0).trans rfl; have hcz26_1 : w24.cell? ⟨gb138, 1, none⟩ = some (.int .i64 t135) := (blk_cell BK138.out 1).trans rfl; have hcz26_2 : w24.cell? ⟨gb138, 2, none⟩ = some (.int .i64 t136) := (blk_cell BK138.out 2).trans rfl; have hfz26_0 := blk_frozen BK138.out 0; have hfz26_1 := blk_frozen BK138.out 1; have hfz26_2 := blk_frozen BK138.out 2))
                  go_ret
                  exact ⟨by first | rfl | (simp [errW_none, errW_some] <;> rfl) | (simp [*, errW_none, errW_some] <;> rfl), by repeat (first | (with_reducible first | exact HB.out | apply below_alloc | apply pw_below_drewN | apply below_drew1 | refine below_set ?_ GE133.out | refine below_set ?_ GE138.out) | exact HB.out)⟩
                · replace c20 := Bool.eq_false_iff.mpr c20
                  subst c20
                  have H1 : (if (t134 == t129 && (t135 == t130 && (t136 == (wrap64 (t131 + 1))))) = true then ((date_Day_Week.f (wrap32 (a0 + 1))).bind fun t144 => ((date_Day_Week.f a0).bind fun t145 => (some (t144 == (Int.tmod (wrap64 (t145 + 1)) 7))))) else (some false)) = some r := by rw [if_neg (show ¬ (false = true) by decide)] at H; exact H
                  clear H
                  have H := H1
                  clear H1
                  by_cases c27 : (t134 == t129 && (t135 == t130 && (t136 == (wrap64 (t131 + 1))))) = true
                  · rw [if_pos c27] at H
                    have c27b0 : (t134 == t129 && (t135 == t130 && (t136 == (wrap64 (t131 + 1))))) = true := c27
                    (try (have c27b1 : decide (t134 = t129 && (t135 == t130 && (t136 == (wrap64 (t131 + 1))))) = true := by simpa using c27))
                    (try (have c27b2 : (t134 == t129 && (t135 == t130 && (t136 == (wrap64 (t131 + 1))))) = true := by simpa using c27))
                    clear c27
                    replace H := Option.bind_eq_some_iff.mp H
                    obtain ⟨t144, A280, H⟩ := H
                    replace H : ((date_Day_Week.f a0).bind fun t145 => (some (t144 == (Int.tmod (wrap64 (t145 + 1)) 7)))) = some r := H
                    have A28 := Aside0.mk A280
                    clear A280
                    replace H := Option.bind_eq_some_iff.mp H
                    obtain ⟨t145, A290, H⟩ := H
                    replace H : (some (t144 == (Int.tmod (wrap64 (t145 + 1)) 7))) = some r := H
                    have A29 := Aside0.mk A290
                    clear A290
                    obtain rfl := Option.some.inj H
                    have hnb30 := NB133_138.out
                    have hnc30 := NB138_133.out
                    have hcz31_0 : wc.cell? ⟨gb133, 0, none⟩ = some (.int .i64 t129) := (blk_cell BK133.out 0).trans rfl
                    have hcz31_1 : wc.cell? ⟨gb133, 1, none⟩ = some (.int .i64 t130) := (blk_cell BK133.out 1).trans rfl
                    have hcz31_2 : wc.cell? ⟨gb133, 2, none⟩ = some (.int .i64 t131) := (blk_cell BK133.out 2).trans rfl
                    have hfz31_0 := blk_frozen BK133.out 0
                    have hfz31_1 := blk_frozen BK133.out 1
                    have hfz31_2 := blk_frozen BK133.out 2
                    go_wp2_with (first | ((with_reducible refine gate_callee (f := 6) rfl ?_); refine goesL_ (some 35) rfl rfl Try.func6 (by kernel_rfl) rfl #[.agg #[.int .i64 t129, .int .i64 t130, .int .i64 t131]] rfl (by (try simp only [List.map_toArray, List.map_cons, List.map_nil]); first | done | rfl | (simp only [List.length_drop, List.length_take]; rfl)) ?_; (with_reducible refine (date_Civil_Last.calls kj9 t129 t130 t131 false _ A19.out).mono ?_); rintro e w32 ⟨rfl, hb⟩; refine ⟨_, rfl, ?_⟩; have n0_ := Aside0.mk (blk_below (g := gb133) (o := .cells #[.int .i64 t129, .int .i64 t130, .int .i64 t131] 25 (0, 0)) (by (with_reducible repeat (first | refine blk_drewN ?_ _ | refine blk_drew ?_ | refine blk_alloc ?_ _)); exact BK133.out) hb); have n1_ := Aside0.mk (blk_below (g := gb138) (o := .cells #[.int .i64 t134, .int .i64 t135, .int .i64 t136] 25 (0, 0)) (by (with_reducible repeat (first | refine blk_drewN ?_ _ | refine blk_drew ?_ | refine blk_alloc ?_ _)); exact BK138.out) hb); have n2_ := Aside0.mk (below_step (by repeat (first | (with_reducible first | exact HB.out | apply below_alloc | apply pw_below_drewN | apply below_drew1 | refine below_set ?_ GE133.out | refine below_set ?_ GE138.out) | exact HB.out)) hb); clear BK133; clear BK138; clear HB; have BK133 := n0_; have BK138 := n1_; have HB := n2_; clear n0_ n1_ n2_; (try clear hb); (try clear hb2); (try clear hk); (try clear hi); have hcz33_0 : w32.cell? ⟨gb138, 0, none⟩ = some (.int .i64 t134) := (blk_cell BK138.out 0).trans rfl; have hcz33_1 : w32.cell? ⟨gb138, 1, none⟩ = some (.int .i64 t135) := (blk_cell BK138.out 1).trans rfl; have hcz33_2 : w32.cell? ⟨gb138, 2, none⟩ = some (.int .i64 t136) := (blk_cell BK138.out 2).trans rfl; have hfz33_0 := blk_frozen BK138.out 0; have hfz33_1 := blk_frozen BK138.out 1; have hfz33_2 := blk_frozen BK138.out 2; have hcz34_0 : w32.cell? ⟨gb133, 0, none⟩ = some (.int .i64 t129) := (blk_cell BK133.out 0).trans rfl; have hcz34_1 : w32.cell? ⟨gb133, 1, none⟩ = some (.int .i64 t130) := (blk_cell BK133.out 1).trans rfl; have hcz34_2 : w32.cell? ⟨gb133, 2, none⟩ = some (.int .i64 t131) := (blk_cell BK133.out 2).trans rfl; have hfz34_0 := blk_frozen BK133.out 0; have hfz34_1 := blk_frozen BK133.out 1; have hfz34_2 := blk_frozen BK133.out 2) | (go_at_call 8; (with_reducible refine (date_Day_Week.calls (wrap32 (a0 + 1)) t144 _ A28.out).mono ?_); rintro e w' ⟨rfl, ⟨nd, rfl⟩⟩) | (go_at_call 8; (with_reducible refine (date_Day_Week.calls a0 t145 _ A29.out).mono ?_); rintro e w' ⟨rfl, ⟨nd, rfl⟩⟩))
                    go_ret
                    exact ⟨by first | rfl | (simp [errW_none, errW_some] <;> rfl) | (simp [*, errW_none, errW_some] <;> rfl), by repeat (first | (with_reducible first | exact HB.out | apply below_alloc | apply pw_below_drewN | apply below_drew1 | refine below_set ?_ GE133.out | refine below_set ?_ GE138.out) | exact HB.out)⟩
                  · rw [if_neg c27] at H
                    have c27b0 : (t134 == t129 && (t135 == t130 && (t136 == (wrap64 (t131 + 1))))) = false := by simpa using c27
                    (try (have c27b1 : decide (t134 = t129 && (t135 == t130 && (t136 == (wrap64 (t131 + 1))))) = false := by simpa using c27))
                    (try (have c27b2 : (t134 == t129 && (t135 == t130 && (t136 == (wrap64 (t131 + 1))))) = false := by simpa using c27))
                    (try (have c27b3 : ¬ (t134 = t129 && (t135 == t130 && (t136 == (wrap64 (t131 + 1))))) := by simpa using c27))
                    clear c27
                    obtain rfl := Option.some.inj H
                    have hnb35 := NB133_138.out
                    have hnc35 := NB138_133.out
                    have hcz36_0 : wc.cell? ⟨gb133, 0, none⟩ = some (.int .i64 t129) := (blk_cell BK133.out 0).trans rfl
                    have hcz36_1 : wc.cell? ⟨gb133, 1, none⟩ = some (.int .i64 t130) := (blk_cell BK133.out 1).trans rfl
                    have hcz36_2 : wc.cell? ⟨gb133, 2, none⟩ = some (.int .i64 t131) := (blk_cell BK133.out 2).trans rfl
                    have hfz36_0 := blk_frozen BK133.out 0
                    have hfz36_1 := blk_frozen BK133.out 1
                    have hfz36_2 := blk_frozen BK133.out 2
                    go_wp2_with (first | ((with_reducible refine gate_callee (f := 6) rfl ?_); refine goesL_ (some 35) rfl rfl Try.func6 (by kernel_rfl) rfl #[.agg #[.int .i64 t129, .int .i64 t130, .int .i64 t131]] rfl (by (try simp only [List.map_toArray, List.map_cons, List.map_nil]); first | done | rfl | (simp only [List.length_drop, List.length_take]; rfl)) ?_; (with_reducible refine (date_Civil_Last.calls kj9 t129 t130 t131 false _ A19.out).mono ?_); rintro e w37 ⟨rfl, hb⟩; refine ⟨_, rfl, ?_⟩; have n0_ := Aside0.mk (blk_below (g := gb133) (o := .cells #[.int .i64 t129, .int .i64 t130, .int .i64 t131] 25 (0, 0)) (by (with_reducible repeat (first | refine blk_drewN ?_ _ | refine blk_drew ?_ | refine blk_alloc ?_ _)); exact BK133.out) hb); have n1_ := Aside0.mk (blk_below (g := gb138) (o := .cells #[.int .i64 t134, .int .i64 t135, .int .i64 t136] 25 (0, 0)) (by (with_reducible repeat (first | refine blk_drewN ?_ _ | refine blk_drew ?_ | refine blk_alloc ?_ _)); exact BK138.out) hb); have n2_ := Aside0.mk (below_step (by repeat (first | (with_reducible first | exact HB.out | apply below_alloc | apply pw_below_drewN | apply below_drew1 | refine below_set ?_ GE133.out | refine below_set ?_ GE138.out) | exact HB.out)) hb); clear BK133; clear BK138; clear HB; have BK133 := n0_; have BK138 := n1_; have HB := n2_; clear n0_ n1_ n2_; (try clear hb); (try clear hb2); (try clear hk); (try clear hi); have hcz38_0 : w37.cell? ⟨gb138, 0, none⟩ = some (.int .i64 t134) := (blk_cell BK138.out 0).trans rfl; have hcz38_1 : w37.cell? ⟨gb138, 1, none⟩ = some (.int .i64 t135) := (blk_cell BK138.out 1).trans rfl; have hcz38_2 : w37.cell? ⟨gb138, 2, none⟩ = some (.int .i64 t136) := (blk_cell BK138.out 2).trans rfl; have hfz38_0 := blk_frozen BK138.out 0; have hfz38_1 := blk_frozen BK138.out 1; have hfz38_2 := blk_frozen BK138.out 2; have hcz39_0 : w37.cell? ⟨gb133, 0, none⟩ = some (.int .i64 t129) := (blk_cell BK133.out 0).trans rfl; have hcz39_1 : w37.cell? ⟨gb133, 1, none⟩ = some (.int .i64 t130) := (blk_cell BK133.out 1).trans rfl; have hcz39_2 : w37.cell? ⟨gb133, 2, none⟩ = some (.int .i64 t131) := (blk_cell BK133.out 2).trans rfl; have hfz39_0 := blk_frozen BK133.out 0; have hfz39_1 := blk_frozen BK133.out 1; have hfz39_2 := blk_frozen BK133.out 2))
                    go_ret
                    exact ⟨by first | rfl | (simp [errW_none, errW_some] <;> rfl) | (simp [*, errW_none, errW_some] <;> rfl), by repeat (first | (with_reducible first | exact HB.out | apply below_alloc | apply pw_below_drewN | apply below_drew1 | refine below_set ?_ GE133.out | refine below_set ?_ GE138.out) | exact HB.out)⟩
  · replace c3 := Bool.eq_false_iff.mpr c3
    subst c3
    have H1 : (some false) = some r := by rw [if_neg (show ¬ (false = true) by decide)] at H; exact H
    clear H
    have H := H1
    clear H1
    obtain rfl := Option.some.inj H
    go_enter Try.func3, Try.ntmps3
    go_wp2_with (first | ((with_reducible refine gate_callee (f := 4) rfl ?_); refine goesL_ (some 9) rfl rfl Try.func4 (by kernel_rfl) rfl #[] rfl (by (try simp only [List.map_toArray, List.map_cons, List.map_nil]); first | done | rfl | (simp only [List.length_drop, List.length_take]; rfl)) ?_; (with_reducible refine (arrearslaw05_awake.calls k  false _ A2.out).mono ?_); rintro e w40 ⟨rfl, hb⟩; refine ⟨_, rfl, ?_⟩; have n0_ := Aside0.mk (below_step (by repeat (first | (with_reducible first | exact HB.out | apply below_alloc | apply pw_below_drewN | apply below_drew1) | exact HB.out)) hb); clear HB; have HB := n0_; clear n0_; (try clear hb); (try clear hb2); (try clear hk); (try clear hi)))
    go_ret
    exact ⟨by first | rfl | (simp [errW_none, errW_some] <;> rfl) | (simp [*, errW_none, errW_some] <;> rfl), by repeat (first | (with_reducible first | exact HB.out | apply below_alloc | apply pw_below_drewN | apply below_drew1) | exact HB.out)⟩

end Go.Proofs.Ytbgjeelbbmcpeaa.PDateGoes
