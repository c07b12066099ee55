-- Printed by a wrapper of this session's round the kit's print.py; Lean checks it.
import Derived.Test.YthokfepglahgpaaDoorPDueRollsx0
import Derived.Test.YthokfepglahgpaaDoorPDueRollsx4
namespace Go.Proofs.YthokfepglahgpaaDoor.PDueRolls
open Go.RowKit Go.Proofs.YthokfepglahgpaaDoorW.PrintWords Go.Proofs.YthokfepglahgpaaDoorW.PrintLast Go.Proofs.YthokfepglahgpaaDoorW.PrintMore
attribute [local go_sem] max2_int min2_int max_two min_two max_three min_three max_four min_four   -- for this text's walks alone
set_option linter.unusedVariables false
set_option linter.unusedSimpArgs false

/-! ### arrearsref05_Length: function 36 -/
def arrearsref05_Length.j0 : Nat → Int → Int → Bool → Option (Int)
  | 0, _, _, _ => none
  | k + 1, x0, x1, x19 => if x19 = true then (some 0) else ((some (([31, 28, 31, 30, 31, 30, 31, 31, 30, 31, 30, 31] : List Int) : List Int)).bind fun y181 => (if 0 ≤ (wrap64 (x1 - 1)) then (if (wrap64 (x1 - 1)) < (y181.length : Int) then (if x1 = 2 then ((arrearsref05_Leap.f x0).bind fun t185 => (if t185 = true then (some (wrap64 ((rd y181 (wrap64 (x1 - 1))) + 1))) else (some (rd y181 (wrap64 (x1 - 1)))))) else (some (rd y181 (wrap64 (x1 - 1))))) else (none)) else (none)))
def arrearsref05_Length.f (k : Nat) (a0 : Int) (a1 : Int) : Option (Int) := if a0 < 1 then (arrearsref05_Length.j0 k a0 a1 true) else (if a0 > 9999 then (arrearsref05_Length.j0 k a0 a1 true) else (if a1 < 1 then (arrearsref05_Length.j0 k a0 a1 true) else (arrearsref05_Length.j0 k a0 a1 (decide (a1 > 12)))))
theorem arrearsref05_Length.mono_l : ∀ k, (∀ y0 y1 y2, LeO (arrearsref05_Length.j0 k y0 y1 y2) (arrearsref05_Length.j0 (k + 1) y0 y1 y2))
  | 0 => fun _ _ _ r h => by simp [arrearsref05_Length.j0] at h
  | k + 1 => by
    have ih0 := arrearsref05_Length.mono_l k
    · intro y0 y1 y2
      unfold arrearsref05_Length.j0
      repeat' first
      | (with_reducible exact ih0 _ _ _)
      | (with_reducible exact LeO.refl _)
      | (with_reducible exact LeO.none _)
      | (with_reducible refine LeO.ite ?_ ?_)
      | (with_reducible refine LeO.bind ?_ (fun _ => ?_))
      | exact ih0 _ _ _
      | exact LeO.none _
      | refine LeO.ite ?_ ?_
      | refine LeO.bind ?_ (fun _ => ?_)
theorem arrearsref05_Length.mono : ∀ a0 a1 k, LeO (arrearsref05_Length.f k a0 a1) (arrearsref05_Length.f (k + 1) a0 a1) := by
  intro a0 a1 k
  have ih0 := arrearsref05_Length.mono_l k
  unfold arrearsref05_Length.f
  repeat' first
      | (with_reducible exact ih0 _ _ _)
      | (with_reducible exact LeO.refl _)
      | (with_reducible exact LeO.none _)
      | (with_reducible refine LeO.ite ?_ ?_)
      | (with_reducible refine LeO.bind ?_ (fun _ => ?_))
      | exact ih0 _ _ _
      | exact LeO.none _
      | refine LeO.ite ?_ ?_
      | refine LeO.bind ?_ (fun _ => ?_)
set_option maxHeartbeats 8000000 in
set_option maxRecDepth 100000 in
theorem arrearsref05_Length.calls (k : Nat) (a0 : Int) (a1 : Int) (r : Int) (w : World) (h : arrearsref05_Length.f k a0 a1 = some r) :
    Calls Tryd.prog 36 #[.int .i64 a0, .int .i64 a1] w fun e w' => e = .returned (.int .i64 r) ∧ Below w.heap.size w w' := by
  have HB := Aside0.mk (Below.refl w.heap.size w)
  have H : (if a0 < 1 then (arrearsref05_Length.j0 k a0 a1 true) else (if a0 > 9999 then (arrearsref05_Length.j0 k a0 a1 true) else (if a1 < 1 then (arrearsref05_Length.j0 k a0 a1 true) else (arrearsref05_Length.j0 k a0 a1 (decide (a1 > 12)))))) = some r := h
  clear h
  have HC3 := Aside0.mk H
  clear H
  go_enter Tryd.func36, Tryd.ntmps36
  go_upto_region 1 with (fail)
  go_cut [19] (fun v19 wc => ∃ (kq : Nat) (x19_2 : Bool), v19 = .bool x19_2 ∧ Aside0 (arrearsref05_Length.j0 kq a0 a1 x19_2 = some r) ∧ Aside0 (kq ≤ k) ∧ Aside0 (Below w.heap.size w wc))
  case first =>
    have H := HC3.out
    clear HC3
    by_cases c4 : a0 < 1
    · rw [if_pos c4] at H
      have c4b0 : decide (a0 < 1) = true := decide_eq_true c4
      clear c4
      (first | rw [c4b0] | (simp only [i64_w, i32_w]; rw [c4b0]) | skip)
      have H' := Aside0.mk H
      clear H
      go_wp2
      go_meet
      case rel => exact ⟨_, (true), (by first | rfl | (simp; done) | (simp [*]; done)), H', ⟨by first | omega | exact Nat.le_refl _⟩, ⟨by repeat (first | (with_reducible first | exact HB.out | apply below_alloc | apply pw_below_drewN | apply below_drew1) | exact HB.out)⟩⟩
    · rw [if_neg c4] at H
      have c4b0 : decide (a0 < 1) = false := decide_eq_false c4
      clear c4
      (first | rw [c4b0] | (simp only [i64_w, i32_w]; rw [c4b0]) | skip)
      by_cases c5 : a0 > 9999
      · rw [if_pos c5] at H
        have c5b0 : decide (9999 < a0) = true := decide_eq_true c5
        clear c5
        have H' := Aside0.mk H
        clear H
        go_wp2
        go_meet
        case rel => exact ⟨_, (true), (by first | rfl | (simp; done) | (simp [*]; done)), H', ⟨by first | omega | exact Nat.le_refl _⟩, ⟨by repeat (first | (with_reducible first | exact HB.out | apply below_alloc | apply pw_below_drewN | apply below_drew1) | exact HB.out)⟩⟩
      · rw [if_neg c5] at H
        have c5b0 : decide (9999 < a0) = false := decide_eq_false c5
        clear c5
        by_cases c6 : a1 < 1
        · rw [if_pos c6] at H
          have c6b0 : decide (a1 < 1) = true := decide_eq_true c6
          clear c6
          have H' := Aside0.mk H
          clear H
          go_wp2
          go_meet
          case rel => exact ⟨_, (true), (by first | rfl | (simp; done) | (simp [*]; done)), H', ⟨by first | omega | exact Nat.le_refl _⟩, ⟨by repeat (first | (with_reducible first | exact HB.out | apply below_alloc | apply pw_below_drewN | apply below_drew1) | exact HB.out)⟩⟩
        · rw [if_neg c6] at H
          have c6b0 : decide (a1 < 1) = false := decide_eq_false c6
          clear c6
          have H' := Aside0.mk H
          clear H
          go_wp2
          go_meet
          case rel => exact ⟨_, (decide (a1 > 12)), (by first | rfl | (simp; done) | (simp [*]; done)), H', ⟨by first | omega | exact Nat.le_refl _⟩, ⟨by repeat (first | (with_reducible first | exact HB.out | apply below_alloc | apply pw_below_drewN | apply below_drew1) | exact HB.out)⟩⟩
  case rest =>
    clear HC3
    try clear p2
    try clear c3
    try clear c4
    try clear c4b0
    try clear c5
    try clear c5b0
    try clear c6
    try clear c6b0
    obtain ⟨kq, x19_2, rfl, HA, HJ2, HB⟩ := hcut
    cases kq with
    | zero => exact absurd HA.out (by simp [arrearsref05_Length.j0])
    | succ kj2 =>
      have H := HA.out
      clear HA
      simp only [arrearsref05_Length.j0] at H
      by_cases c7 : x19_2 = true
      · subst c7
        have H1 : (some 0) = some r := by rw [if_pos rfl] at H; exact H
        clear H
        have H := H1
        clear H1
        obtain rfl := Option.some.inj H
        go_wp2
        go_ret
        exact ⟨by first | rfl | (simp [errW_none, errW_some] <;> rfl) | (simp [*, errW_none, errW_some] <;> rfl), by repeat (first | (with_reducible first | exact HB.out | apply below_alloc | apply pw_below_drewN | apply below_drew1) | exact HB.out)⟩
      · replace c7 := Bool.eq_false_iff.mpr c7
        subst c7
        have H1 : ((some (([31, 28, 31, 30, 31, 30, 31, 31, 30, 31, 30, 31] : List Int) : List Int)).bind fun y181 => (if 0 ≤ (wrap64 (a1 - 1)) then (if (wrap64 (a1 - 1)) < (y181.length : Int) then (if a1 = 2 then ((arrearsref05_Leap.f a0).bind fun t185 => (if t185 = true then (some (wrap64 ((rd y181 (wrap64 (a1 - 1))) + 1))) else (some (rd y181 (wrap64 (a1 - 1)))))) else (some (rd y181 (wrap64 (a1 - 1))))) else (none)) else (none))) = some r := by rw [if_neg (show ¬ (false = true) by decide)] at H; exact H
        clear H
        have H := H1
        clear H1
        obtain ⟨y181, hy181⟩ : ∃ y_ : List Int, y_ = (([31, 28, 31, 30, 31, 30, 31, 31, 30, 31, 30, 31] : List Int)) := ⟨_, rfl⟩
        replace H : (if 0 ≤ (wrap64 (a1 - 1)) then (if (wrap64 (a1 - 1)) < (y181.length : Int) then (if a1 = 2 then ((arrearsref05_Leap.f a0).bind fun t185 => (if t185 = true then (some (wrap64 ((rd y181 (wrap64 (a1 - 1))) + 1))) else (some (rd y181 (wrap64 (a1 - 1)))))) else (some (rd y181 (wrap64 (a1 - 1))))) else (none)) else (none)) = some r := by first | (rw [hy181]; with_reducible exact H) | (have H2_ := (Option.bind_some _ _).symm.trans H; rw [hy181]; with_reducible exact H2_) | (have H2_ := (Option.bind_some _ _).symm.trans H; with_reducible exact H2_) | with_reducible exact H | (rw [hy181]; exact H) | exact H
        have Ny181 := Aside0.mk hy181
        clear hy181
        obtain ⟨ji8, hji8⟩ : ∃ j_ : Int, (wrap64 (a1 - 1)) = j_ := ⟨_, rfl⟩
        replace H : (if 0 ≤ (ji8) then (if (ji8) < (y181.length : Int) then (if a1 = 2 then ((arrearsref05_Leap.f a0).bind fun t185 => (if t185 = true then (some (wrap64 ((rd y181 (ji8)) + 1))) else (some (rd y181 (ji8))))) else (some (rd y181 (ji8)))) else (none)) else (none)) = some r := by first | (rw [hji8] at H; exact H) | (simp only [hji8] at H ⊢; exact H)
        have hji8w : (IntKind.i64.wrap (a1 - 1)) = ji8 := (i64_w _).trans hji8
        by_cases c9 : 0 ≤ (ji8)
        · rw [if_pos c9] at H
          have c9b0 : decide (0 ≤ (ji8)) = true := decide_eq_true c9
          clear c9
          by_cases c10 : (ji8) < (y181.length : Int)
          · rw [if_pos c10] at H
            have c10b0 : decide ((ji8) < (y181.length : Int)) = true := decide_eq_true c10
            clear c10
            by_cases c11 : a1 = 2
            · rw [if_pos c11] at H
              have c11b0 : (a1 == 2) = true := beq_iff_eq.mpr c11
              have c11b1 : (a1 != 2) = false := bne_eq_false_iff_eq.mpr c11
              clear c11
              replace H := Option.bind_eq_some_iff.mp H
              obtain ⟨t185, A120, H⟩ := H
              replace H : (if t185 = true then (some (wrap64 ((rd y181 (ji8)) + 1))) else (some (rd y181 (ji8)))) = some r := H
              have A12 := Aside0.mk A120
              clear A120
              by_cases c13 : t185 = true
              · subst c13
                have H1 : (some (wrap64 ((rd y181 (ji8)) + 1))) = some r := by rw [if_pos rfl] at H; exact H
                clear H
                have H := H1
                clear H1
                obtain rfl := Option.some.inj H
                go_wp2_with (first | ((with_reducible refine gate_dst (N := 20) rfl ?_); refine Kd.R_lit (Kd.int .i64) _ 3 ?hg (N := 20) ?hd (xs := ([31, 28, 31, 30, 31, 30, 31, 31, 30, 31, 30, 31] : List Int)) (inner := [.int .i64 31, .int .i64 28, .int .i64 31, .int .i64 30, .int .i64 31, .int .i64 30, .int .i64 31, .int .i64 31, .int .i64 30, .int .i64 31, .int .i64 30, .int .i64 31]) (ok := fun _ => True) (okp := fun _ => True) ?hr ?hp (fun _ hk => hk) trivial (Below.refl _ _) (Nat.le_refl _) (by simp) ?_; (case hd => rfl); (case hg => rfl); (case hr => first | (go_simp; done) | (go_simp; rfl)); (case hp => exact (Reps.one (show Kd.M (Kd.int .i64) _ _ _ 31 [.int .i64 31] from rfl) (Reps.one (show Kd.M (Kd.int .i64) _ _ _ 28 [.int .i64 28] from rfl) (Reps.one (show Kd.M (Kd.int .i64) _ _ _ 31 [.int .i64 31] from rfl) (Reps.one (show Kd.M (Kd.int .i64) _ _ _ 30 [.int .i64 30] from rfl) (Reps.one (show Kd.M (Kd.int .i64) _ _ _ 31 [.int .i64 31] from rfl) (Reps.one (show Kd.M (Kd.int .i64) _ _ _ 30 [.int .i64 30] from rfl) (Reps.one (show Kd.M (Kd.int .i64) _ _ _ 31 [.int .i64 31] from rfl) (Reps.one (show Kd.M (Kd.int .i64) _ _ _ 31 [.int .i64 31] from rfl) (Reps.one (show Kd.M (Kd.int .i64) _ _ _ 30 [.int .i64 30] from rfl) (Reps.one (show Kd.M (Kd.int .i64) _ _ _ 31 [.int .i64 31] from rfl) (Reps.one (show Kd.M (Kd.int .i64) _ _ _ 30 [.int .i64 30] from rfl) (Reps.one (show Kd.M (Kd.int .i64) _ _ _ 31 [.int .i64 31] from rfl) (Reps.none _ _)))))))))))))); intro v182 w14 ho15 hb hg_ hnew_; clear hg_ hnew_; (first | rw [← Ny181.out] at ho15 | (simp only [Int.reduceToNat] at ho15; rw [← Ny181.out] at ho15)); have n0_ := Aside0.mk (Kd.R_lower ho15 (below_size (by repeat (first | (with_reducible first | exact HB.out | apply below_alloc | apply pw_below_drewN | apply below_drew1) | exact HB.out)))); have n1_ := Aside0.mk (below_step (by repeat (first | (with_reducible first | exact HB.out | apply below_alloc | apply pw_below_drewN | apply below_drew1) | exact HB.out)) hb); clear HB; have HO183 := n0_; have HB := n1_; clear n0_ n1_; clear hb ho15; obtain ⟨Ao16, co16, eo16⟩ := Kd.R_slice HO183.out; subst eo16; have p184 : 0 ≤ ((ji8) : Int) := of_decide_eq_true (by first | (with_reducible assumption) | assumption); have q184 : (ji8) < (y181.length : Int) := of_decide_eq_true (by first | (with_reducible assumption) | assumption); obtain ⟨ad184, e184, hx184_0⟩ := Kd.at_int (Kd.R_reads' HO183.out).2.2 (ji8) p184 q184; cases e184; replace p184 := eq_true p184; replace q184 := eq_true q184) | (go_at_call 46; (with_reducible refine (arrearsref05_Leap.calls a0 true _ A12.out).mono ?_); rintro e w' ⟨rfl, ⟨nd, rfl⟩⟩))
                go_ret
                exact ⟨by first | rfl | (simp [errW_none, errW_some] <;> rfl) | (simp only [← hji8]; first | rfl | (simp [errW_none, errW_some] <;> rfl)) | (simp [*, errW_none, errW_some] <;> rfl), by repeat (first | (with_reducible first | exact HB.out | apply below_alloc | apply pw_below_drewN | apply below_drew1) | exact HB.out)⟩
              · replace c13 := Bool.eq_false_iff.mpr c13
                subst c13
                have H1 : (some (rd y181 (ji8))) = some r := by rw [if_neg (show ¬ (false = true) by decide)] at H; exact H
                clear H
                have H := H1
                clear H1
                obtain rfl := Option.some.inj H
                go_wp2_with (first | ((with_reducible refine gate_dst (N := 20) rfl ?_); refine Kd.R_lit (Kd.int .i64) _ 3 ?hg (N := 20) ?hd (xs := ([31, 28, 31, 30, 31, 30, 31, 31, 30, 31, 30, 31] : List Int)) (inner := [.int .i64 31, .int .i64 28, .int .i64 31, .int .i64 30, .int .i64 31, .int .i64 30, .int .i64 31, .int .i64 31, .int .i64 30, .int .i64 31, .int .i64 30, .int .i64 31]) (ok := fun _ => True) (okp := fun _ => True) ?hr ?hp (fun _ hk => hk) trivial (Below.refl _ _) (Nat.le_refl _) (by simp) ?_; (case hd => rfl); (case hg => rfl); (case hr => first | (go_simp; done) | (go_simp; rfl)); (case hp => exact (Reps.one (show Kd.M (Kd.int .i64) _ _ _ 31 [.int .i64 31] from rfl) (Reps.one (show Kd.M (Kd.int .i64) _ _ _ 28 [.int .i64 28] from rfl) (Reps.one (show Kd.M (Kd.int .i64) _ _ _ 31 [.int .i64 31] from rfl) (Reps.one (show Kd.M (Kd.int .i64) _ _ _ 30 [.int .i64 30] from rfl) (Reps.one (show Kd.M (Kd.int .i64) _ _ _ 31 [.int .i64 31] from rfl) (Reps.one (show Kd.M (Kd.int .i64) _ _ _ 30 [.int .i64 30] from rfl) (Reps.one (show Kd.M (Kd.int .i64) _ _ _ 31 [.int .i64 31] from rfl) (Reps.one (show Kd.M (Kd.int .i64) _ _ _ 31 [.int .i64 31] from rfl) (Reps.one (show Kd.M (Kd.int .i64) _ _ _ 30 [.int .i64 30] from rfl) (Reps.one (show Kd.M (Kd.int .i64) _ _ _ 31 [.int .i64 31] from rfl) (Reps.one (show Kd.M (Kd.int .i64) _ _ _ 30 [.int .i64 30] from rfl) (Reps.one (show Kd.M (Kd.int .i64) _ _ _ 31 [.int .i64 31] from rfl) (Reps.none _ _)))))))))))))); intro v182 w17 ho18 hb hg_ hnew_; clear hg_ hnew_; (first | rw [← Ny181.out] at ho18 | (simp only [Int.reduceToNat] at ho18; rw [← Ny181.out] at ho18)); have n0_ := Aside0.mk (Kd.R_lower ho18 (below_size (by repeat (first | (with_reducible first | exact HB.out | apply below_alloc | apply pw_below_drewN | apply below_drew1) | exact HB.out)))); have n1_ := Aside0.mk (below_step (by repeat (first | (with_reducible first | exact HB.out | apply below_alloc | apply pw_below_drewN | apply below_drew1) | exact HB.out)) hb); clear HB; have HO183 := n0_; have HB := n1_; clear n0_ n1_; clear hb ho18; obtain ⟨Ao19, co19, eo19⟩ := Kd.R_slice HO183.out; subst eo19; have p184 : 0 ≤ ((ji8) : Int) := of_decide_eq_true (by first | (with_reducible assumption) | assumption); have q184 : (ji8) < (y181.length : Int) := of_decide_eq_true (by first | (with_reducible assumption) | assumption); obtain ⟨ad184, e184, hx184_0⟩ := Kd.at_int (Kd.R_reads' HO183.out).2.2 (ji8) p184 q184; cases e184; replace p184 := eq_true p184; replace q184 := eq_true q184) | (go_at_call 46; (with_reducible refine (arrearsref05_Leap.calls a0 false _ A12.out).mono ?_); rintro e w' ⟨rfl, ⟨nd, rfl⟩⟩))
                go_ret
                exact ⟨by first | rfl | (simp [errW_none, errW_some] <;> rfl) | (simp only [← hji8]; first | rfl | (simp [errW_none, errW_some] <;> rfl)) | (simp [*, errW_none, errW_some] <;> rfl), by repeat (first | (with_reducible first | exact HB.out | apply below_alloc | apply pw_below_drewN | apply below_drew1) | exact HB.out)⟩
            · rw [if_neg c11] at H
              have c11b0 : (a1 == 2) = false := beq_eq_false_iff_ne.mpr c11
              have c11b1 : (a1 != 2) = true := bne_iff_ne.mpr c11
              obtain rfl := Option.some.inj H
              go_wp2_with (first | ((with_reducible refine gate_dst (N := 20) rfl ?_); refine Kd.R_lit (Kd.int .i64) _ 3 ?hg (N := 20) ?hd (xs := ([31, 28, 31, 30, 31, 30, 31, 31, 30, 31, 30, 31] : List Int)) (inner := [.int .i64 31, .int .i64 28, .int .i64 31, .int .i64 30, .int .i64 31, .int .i64 30, .int .i64 31, .int .i64 31, .int .i64 30, .int .i64 31, .int .i64 30, .int .i64 31]) (ok := fun _ => True) (okp := fun _ => True) ?hr ?hp (fun _ hk => hk) trivial (Below.refl _ _) (Nat.le_refl _) (by simp) ?_; (case hd => rfl); (case hg => rfl); (case hr => first | (go_simp; done) | (go_simp; rfl)); (case hp => exact (Reps.one (show Kd.M (Kd.int .i64) _ _ _ 31 [.int .i64 31] from rfl) (Reps.one (show Kd.M (Kd.int .i64) _ _ _ 28 [.int .i64 28] from rfl) (Reps.one (show Kd.M (Kd.int .i64) _ _ _ 31 [.int .i64 31] from rfl) (Reps.one (show Kd.M (Kd.int .i64) _ _ _ 30 [.int .i64 30] from rfl) (Reps.one (show Kd.M (Kd.int .i64) _ _ _ 31 [.int .i64 31] from rfl) (Reps.one (show Kd.M (Kd.int .i64) _ _ _ 30 [.int .i64 30] from rfl) (Reps.one (show Kd.M (Kd.int .i64) _ _ _ 31 [.int .i64 31] from rfl) (Reps.one (show Kd.M (Kd.int .i64) _ _ _ 31 [.int .i64 31] from rfl) (Reps.one (show Kd.M (Kd.int .i64) _ _ _ 30 [.int .i64 30] from rfl) (Reps.one (show Kd.M (Kd.int .i64) _ _ _ 31 [.int .i64 31] from rfl) (Reps.one (show Kd.M (Kd.int .i64) _ _ _ 30 [.int .i64 30] from rfl) (Reps.one (show Kd.M (Kd.int .i64) _ _ _ 31 [.int .i64 31] from rfl) (Reps.none _ _)))))))))))))); intro v182 w20 ho21 hb hg_ hnew_; clear hg_ hnew_; (first | rw [← Ny181.out] at ho21 | (simp only [Int.reduceToNat] at ho21; rw [← Ny181.out] at ho21)); have n0_ := Aside0.mk (Kd.R_lower ho21 (below_size (by repeat (first | (with_reducible first | exact HB.out | apply below_alloc | apply pw_below_drewN | apply below_drew1) | exact HB.out)))); have n1_ := Aside0.mk (below_step (by repeat (first | (with_reducible first | exact HB.out | apply below_alloc | apply pw_below_drewN | apply below_drew1) | exact HB.out)) hb); clear HB; have HO183 := n0_; have HB := n1_; clear n0_ n1_; clear hb ho21; obtain ⟨Ao22, co22, eo22⟩ := Kd.R_slice HO183.out; subst eo22; have p184 : 0 ≤ ((ji8) : Int) := of_decide_eq_true (by first | (with_reducible assumption) | assumption); have q184 : (ji8) < (y181.length : Int) := of_decide_eq_true (by first | (with_reducible assumption) | assumption); obtain ⟨ad184, e184, hx184_0⟩ := Kd.at_int (Kd.R_reads' HO183.out).2.2 (ji8) p184 q184; cases e184; replace p184 := eq_true p184; replace q184 := eq_true q184))
              go_ret
              exact ⟨by first | rfl | (simp [errW_none, errW_some] <;> rfl) | (simp only [← hji8]; first | rfl | (simp [errW_none, errW_some] <;> rfl)) | (simp [*, errW_none, errW_some] <;> rfl), by repeat (first | (with_reducible first | exact HB.out | apply below_alloc | apply pw_below_drewN | apply below_drew1) | exact HB.out)⟩
          · rw [if_neg c10] at H
            exact absurd H (by simp)
        · rw [if_neg c9] at H
          exact absurd H (by simp)

/-! ### arrearsref05_Civil: function 34 -/
mutual
def arrearsref05_Civil.j1 : Nat → Int → Int → Option (Int × Int × Int)
  | 0, _, _ => none
  | k + 1, x0, x3 => arrearsref05_Civil.l1 k x0 x3 1
def arrearsref05_Civil.l1 : Nat → Int → Int → Int → Option (Int × Int × Int)
  | 0, _, _, _ => none
  | k + 1, x0, x3, x5 => (arrearsref05_Length.f k x3 x5).bind fun t188 => (if x0 ≥ t188 then ((arrearsref05_Length.f k x3 x5).bind fun t189 => (arrearsref05_Civil.l1 k (wrap64 (x0 - t189)) x3 (wrap64 (x5 + 1)))) else (some (x3, x5, wrap64 (x0 + 1))))
def arrearsref05_Civil.l0 : Nat → Int → Int → Option (Int × Int × Int)
  | 0, _, _ => none
  | k + 1, x0, x3 => (arrearsref05_Leap.f x3).bind fun t187 => (if t187 = true then (if x0 < 366 then (arrearsref05_Civil.j1 k x0 x3) else (arrearsref05_Civil.l0 k (wrap64 (x0 - 366)) (wrap64 (x3 + 1)))) else (if x0 < 365 then (arrearsref05_Civil.j1 k x0 x3) else (arrearsref05_Civil.l0 k (wrap64 (x0 - 365)) (wrap64 (x3 + 1)))))
end
def arrearsref05_Civil.f (k : Nat) (a0 : Int) : Option (Int × Int × Int) := arrearsref05_Civil.l0 k (Int.tmod a0 146097) (wrap64 (1 + (wrap64 (400 * (wrap64 (Int.tdiv a0 146097))))))
theorem arrearsref05_Civil.mono_l : ∀ k, (∀ y0 y1, LeO (arrearsref05_Civil.j1 k y0 y1) (arrearsref05_Civil.j1 (k + 1) y0 y1)) ∧ (∀ y0 y1 y2, LeO (arrearsref05_Civil.l1 k y0 y1 y2) (arrearsref05_Civil.l1 (k + 1) y0 y1 y2)) ∧ (∀ y0 y1, LeO (arrearsref05_Civil.l0 k y0 y1) (arrearsref05_Civil.l0 (k + 1) y0 y1))
  | 0 => ⟨fun _ _ r h => by simp [arrearsref05_Civil.j1] at h, fun _ _ _ r h => by simp [arrearsref05_Civil.l1] at h, fun _ _ r h => by simp [arrearsref05_Civil.l0] at h⟩
  | k + 1 => by
    obtain ⟨ih0, ih1, ih2⟩ := arrearsref05_Civil.mono_l k
    refine ⟨?_, ?_, ?_⟩
    · intro y0 y1
      unfold arrearsref05_Civil.j1
      repeat' first
      | (with_reducible exact ih0 _ _)
      | (with_reducible exact ih1 _ _ _)
      | (with_reducible exact ih2 _ _)
      | (with_reducible exact arrearsref05_Length.mono _ _ _)
      | (with_reducible exact LeO.refl _)
      | (with_reducible exact LeO.none _)
      | (with_reducible refine LeO.ite ?_ ?_)
      | (with_reducible refine LeO.bind ?_ (fun _ => ?_))
      | exact ih0 _ _
      | exact ih1 _ _ _
      | exact ih2 _ _
      | exact arrearsref05_Length.mono _ _ _
      | exact LeO.none _
      | refine LeO.ite ?_ ?_
      | refine LeO.bind ?_ (fun _ => ?_)
    · intro y0 y1 y2
      unfold arrearsref05_Civil.l1
      repeat' first
      | (with_reducible exact ih0 _ _)
      | (with_reducible exact ih1 _ _ _)
      | (with_reducible exact ih2 _ _)
      | (with_reducible exact arrearsref05_Length.mono _ _ _)
      | (with_reducible exact LeO.refl _)
      | (with_reducible exact LeO.none _)
      | (with_reducible refine LeO.ite ?_ ?_)
      | (with_reducible refine LeO.bind ?_ (fun _ => ?_))
      | exact ih0 _ _
      | exact ih1 _ _ _
      | exact ih2 _ _
      | exact arrearsref05_Length.mono _ _ _
      | exact LeO.none _
      | refine LeO.ite ?_ ?_
      | refine LeO.bind ?_ (fun _ => ?_)
    · intro y0 y1
      unfold arrearsref05_Civil.l0
      repeat' first
      | (with_reducible exact ih0 _ _)
      | (with_reducible exact ih1 _ _ _)
      | (with_reducible exact ih2 _ _)
      | (with_reducible exact arrearsref05_Length.mono _ _ _)
      | (with_reducible exact LeO.refl _)
      | (with_reducible exact LeO.none _)
      | (with_reducible refine LeO.ite ?_ ?_)
      | (with_reducible refine LeO.bind ?_ (fun _ => ?_))
      | exact ih0 _ _
      | exact ih1 _ _ _
      | exact ih2 _ _
      | exact arrearsref05_Length.mono _ _ _
      | exact LeO.none _
      | refine LeO.ite ?_ ?_
      | refine LeO.bind ?_ (fun _ => ?_)
theorem arrearsref05_Civil.mono : ∀ a0 k, LeO (arrearsref05_Civil.f k a0) (arrearsref05_Civil.f (k + 1) a0) := by
  intro a0 k
  obtain ⟨ih0, ih1, ih2⟩ := arrearsref05_Civil.mono_l k
  unfold arrearsref05_Civil.f
  repeat' first
      | (with_reducible exact ih0 _ _)
      | (with_reducible exact ih1 _ _ _)
      | (with_reducible exact ih2 _ _)
      | (with_reducible exact arrearsref05_Length.mono _ _ _)
      | (with_reducible exact LeO.refl _)
      | (with_reducible exact LeO.none _)
      | (with_reducible refine LeO.ite ?_ ?_)
      | (with_reducible refine LeO.bind ?_ (fun _ => ?_))
      | exact ih0 _ _
      | exact ih1 _ _ _
      | exact ih2 _ _
      | exact arrearsref05_Length.mono _ _ _
      | exact LeO.none _
      | refine LeO.ite ?_ ?_
      | refine LeO.bind ?_ (fun _ => ?_)
set_option maxHeartbeats 8000000 in
set_option maxRecDepth 100000 in
theorem arrearsref05_Civil.calls (k : Nat) (a0 : Int) (r1 : Int) (r2 : Int) (r3 : Int) (w : World) (h : arrearsref05_Civil.f k a0 = some (r1, r2, r3)) :
    Calls Tryd.prog 34 #[.int .i64 a0] w fun e w' => e = .returned (.agg #[.int .i64 r1, .int .i64 r2, .int .i64 r3]) ∧ Below w.heap.size w w' := by
  have hu65 := Tryd.underlying65
  have HB := Aside0.mk (Below.refl w.heap.size w)
  have H : (arrearsref05_Civil.l0 k (Int.tmod a0 146097) (wrap64 (1 + (wrap64 (400 * (wrap64 (Int.tdiv a0 146097))))))) = some (r1, r2, r3) := h
  clear h
  have HC2 := Aside0.mk H
  clear H
  go_enter Tryd.func34, Tryd.ntmps34
  go_upto_block 0 with (first | ((with_reducible refine gate_dst (N := 2) rfl ?_); refine box_event ?hg (N := 2) ?hd (cs := #[.int .i64 0, .int .i64 0, .int .i64 0]) (t := 65) ?hr ?_; (case hd => rfl); (case hg => rfl); (case hr => first | (go_simp; done) | (go_simp; rfl)); intro gb186 hg w3 hbox hb; have n0_ := Aside0.mk (below_step (by repeat (first | (with_reducible first | exact HB.out | apply below_alloc | apply pw_below_drewN | apply below_drew1) | exact HB.out)) hb); have n1_ := Aside0.mk (hbox); have n2_ := Aside0.mk ((by rw [hg]; exact (below_size (by repeat (first | (with_reducible first | exact HB.out | apply below_alloc | apply pw_below_drewN | apply below_drew1) | exact HB.out))) : w.heap.size ≤ gb186)); have n3_ := Aside0.mk ((by rw [hg]; exact (below_size (by repeat (first | (with_reducible first | exact HB.out | apply below_alloc | apply pw_below_drewN | apply below_drew1) | exact HB.out))) : w.heap.size ≤ gb186)); clear HB; have HB := n0_; have BK186 := n1_; have GW186 := n2_; have GE186 := n3_; clear n0_ n1_ n2_ n3_; clear hb hbox hg))
  (try simp only [Act.put, List.setIfInBounds_toArray, List.set_cons_zero, List.set_cons_succ])
  go_cut [0, 3] (fun v0 v3 wc => ∃ (kq : Nat) (x0_1 : Int) (x3_1 : Int), v0 = .int .i64 x0_1 ∧ v3 = .int .i64 x3_1 ∧ Aside0 (arrearsref05_Civil.j1 kq x0_1 x3_1 = some (r1, r2, r3)) ∧ Aside0 (kq ≤ k) ∧ Aside0 (wc.heap[gb186]? = some (.cells #[.int .i64 0, .int .i64 0, .int .i64 0] 65 (0, 0))) ∧ Aside0 (Below w.heap.size w wc))
  case first =>
    have H := HC2.out
    clear HC2
    have H' := Aside0.mk H
    clear H
    go_wp2
    go_loopg [0, 3] k (fun kq v0 v3 w' => ∃ (x0_1 : Int) (x3_1 : Int), v0 = .int .i64 x0_1 ∧ v3 = .int .i64 x3_1 ∧ Aside0 (arrearsref05_Civil.l0 kq x0_1 x3_1 = some (r1, r2, r3)) ∧ Aside0 (kq ≤ k) ∧ Aside0 (w'.heap[gb186]? = some (.cells #[.int .i64 0, .int .i64 0, .int .i64 0] 65 (0, 0))) ∧ Aside0 (Below w.heap.size w w'))
    case atStart => exact ⟨(Int.tmod a0 146097), (wrap64 (1 + (wrap64 (400 * (wrap64 (Int.tdiv a0 146097)))))), (by first | rfl | (simp; done) | (simp [*]; done)), (by first | rfl | (simp; done) | (simp [*]; done)), H', ⟨Nat.le_refl _⟩, ⟨by (with_reducible repeat (first | refine blk_drewN ?_ _ | refine blk_drew ?_ | refine blk_alloc ?_ _)); exact BK186.out⟩, ⟨by repeat (first | (with_reducible first | exact HB.out | apply below_alloc | apply pw_below_drewN | apply below_drew1 | refine below_set ?_ GE186.out) | exact HB.out)⟩⟩
    case round =>
      clear H'
      try clear p2
      try clear c3
      obtain ⟨x0_1, x3_1, rfl, rfl, HA, HK1, BK186, HB⟩ := hrel
      cases gk with
      | zero => exact absurd HA.out (by simp [arrearsref05_Civil.l0])
      | succ k1 =>
        have H := HA.out
        clear HA
        simp only [arrearsref05_Civil.l0] at H
        replace H := Option.bind_eq_some_iff.mp H
        obtain ⟨t187, A40, H⟩ := H
        replace H : (if t187 = true then (if x0_1 < 366 then (arrearsref05_Civil.j1 k1 x0_1 x3_1) else (arrearsref05_Civil.l0 k1 (wrap64 (x0_1 - 366)) (wrap64 (x3_1 + 1)))) else (if x0_1 < 365 then (arrearsref05_Civil.j1 k1 x0_1 x3_1) else (arrearsref05_Civil.l0 k1 (wrap64 (x0_1 - 365)) (wrap64 (x3_1 + 1))))) = some (r1, r2, r3) := H
        have A4 := Aside0.mk A40
        clear A40
        by_cases c5 : t187 = true
        · subst c5
          have H1 : (if x0_1 < 366 then (arrearsref05_Civil.j1 k1 x0_1 x3_1) else (arrearsref05_Civil.l0 k1 (wrap64 (x0_1 - 366)) (wrap64 (x3_1 + 1)))) = some (r1, r2, r3) := by rw [if_pos rfl] at H; exact H
          clear H
          have H := H1
          clear H1
          by_cases c6 : x0_1 < 366
          · rw [if_pos c6] at H
            have c6b0 : decide (x0_1 < 366) = true := decide_eq_true c6
            clear c6
            (first | rw [c6b0] | (simp only [i64_w, i32_w]; rw [c6b0]) | skip)
            have H' := Aside0.mk H
            clear H
            go_wp2_with (first | ((with_reducible refine gate_callee (f := 46) rfl ?_); refine goesL_ (some 13) rfl rfl Tryd.func46 (by kernel_rfl) rfl #[.int .i64 x3_1] rfl (by (try simp only [List.map_toArray, List.map_cons, List.map_nil]); first | done | rfl | (simp only [List.length_drop, List.length_take]; rfl)) ?_; (with_reducible refine (arrearsref05_Leap.calls x3_1 true _ A4.out).mono ?_); rintro e w' ⟨rfl, ⟨nd, rfl⟩⟩; refine ⟨_, rfl, ?_⟩))
            go_meet
            case rel => exact ⟨_, (x0_1), (x3_1), (by first | rfl | (simp; done) | (simp [*]; done)), (by first | rfl | (simp; done) | (simp [*]; done)), H', ⟨by have := HK1.out; first | omega | exact Nat.le_refl _⟩, ⟨by (with_reducible repeat (first | refine blk_drewN ?_ _ | refine blk_drew ?_ | refine blk_alloc ?_ _)); exact BK186.out⟩, ⟨by repeat (first | (with_reducible first | exact HB.out | apply below_alloc | apply pw_below_drewN | apply below_drew1 | refine below_set ?_ GE186.out) | exact HB.out)⟩⟩
          · rw [if_neg c6] at H
            have c6b0 : decide (x0_1 < 366) = false := decide_eq_false c6
            clear c6
            (first | rw [c6b0] | (simp only [i64_w, i32_w]; rw [c6b0]) | skip)
            have H' := Aside0.mk H
            clear H
            go_wp2_with (first | ((with_reducible refine gate_callee (f := 46) rfl ?_); refine goesL_ (some 13) rfl rfl Tryd.func46 (by kernel_rfl) rfl #[.int .i64 x3_1] rfl (by (try simp only [List.map_toArray, List.map_cons, List.map_nil]); first | done | rfl | (simp only [List.length_drop, List.length_take]; rfl)) ?_; (with_reducible refine (arrearsref05_Leap.calls x3_1 true _ A4.out).mono ?_); rintro e w' ⟨rfl, ⟨nd, rfl⟩⟩; refine ⟨_, rfl, ?_⟩))
            go_roundg k1
            case measure => have := HK1.out; omega
            case rel => exact ⟨(wrap64 (x0_1 - 366)), (wrap64 (x3_1 + 1)), (by first | rfl | (simp; done) | (simp [*]; done)), (by first | rfl | (simp; done) | (simp [*]; done)), H', ⟨by have := HK1.out; omega⟩, ⟨by (with_reducible repeat (first | refine blk_drewN ?_ _ | refine blk_drew ?_ | refine blk_alloc ?_ _)); exact BK186.out⟩, ⟨by repeat (first | (with_reducible first | exact HB.out | apply below_alloc | apply pw_below_drewN | apply below_drew1 | refine below_set ?_ GE186.out) | exact HB.out)⟩⟩
        · replace c5 := Bool.eq_false_iff.mpr c5
          subst c5
          have H1 : (if x0_1 < 365 then (arrearsref05_Civil.j1 k1 x0_1 x3_1) else (arrearsref05_Civil.l0 k1 (wrap64 (x0_1 - 365)) (wrap64 (x3_1 + 1)))) = some (r1, r2, r3) := by rw [if_neg (show ¬ (false = true) by decide)] at H; exact H
          clear H
          have H := H1
          clear H1
          by_cases c7 : x0_1 < 365
          · rw [if_pos c7] at H
            have c7b0 : decide (x0_1 < 365) = true := decide_eq_true c7
            clear c7
            have H' := Aside0.mk H
            clear H
            go_wp2_with (first | ((with_reducible refine gate_callee (f := 46) rfl ?_); refine goesL_ (some 13) rfl rfl Tryd.func46 (by kernel_rfl) rfl #[.int .i64 x3_1] rfl (by (try simp only [List.map_toArray, List.map_cons, List.map_nil]); first | done | rfl | (simp only [List.length_drop, List.length_take]; rfl)) ?_; (with_reducible refine (arrearsref05_Leap.calls x3_1 false _ A4.out).mono ?_); rintro e w' ⟨rfl, ⟨nd, rfl⟩⟩; refine ⟨_, rfl, ?_⟩))
            go_meet
            case rel => exact ⟨_, (x0_1), (x3_1), (by first | rfl | (simp; done) | (simp [*]; done)), (by first | rfl | (simp; done) | (simp [*]; done)), H', ⟨by have := HK1.out; first | omega | exact Nat.le_refl _⟩, ⟨by (with_reducible repeat (first | refine blk_drewN ?_ _ | refine blk_drew ?_ | refine blk_alloc ?_ _)); exact BK186.out⟩, ⟨by repeat (first | (with_reducible first | exact HB.out | apply below_alloc | apply pw_below_drewN | apply below_drew1 | refine below_set ?_ GE186.out) | exact HB.out)⟩⟩
          · rw [if_neg c7] at H
            have c7b0 : decide (x0_1 < 365) = false := decide_eq_false c7
            clear c7
            have H' := Aside0.mk H
            clear H
            go_wp2_with (first | ((with_reducible refine gate_callee (f := 46) rfl ?_); refine goesL_ (some 13) rfl rfl Tryd.func46 (by kernel_rfl) rfl #[.int .i64 x3_1] rfl (by (try simp only [List.map_toArray, List.map_cons, List.map_nil]); first | done | rfl | (simp only [List.length_drop, List.length_take]; rfl)) ?_; (with_reducible refine (arrearsref05_Leap.calls x3_1 false _ A4.out).mono ?_); rintro e w' ⟨rfl, ⟨nd, rfl⟩⟩; refine ⟨_, rfl, ?_⟩))
            go_roundg k1
            case measure => have := HK1.out; omega
            case rel => exact ⟨(wrap64 (x0_1 - 365)), (wrap64 (x3_1 + 1)), (by first | rfl | (simp; done) | (simp [*]; done)), (by first | rfl | (simp; done) | (simp [*]; done)), H', ⟨by have := HK1.out; omega⟩, ⟨by (with_reducible repeat (first | refine blk_drewN ?_ _ | refine blk_drew ?_ | refine blk_alloc ?_ _)); exact BK186.out⟩, ⟨by repeat (first | (with_reducible first | exact HB.out | apply below_alloc | apply pw_below_drewN | apply below_drew1 | refine below_set ?_ GE186.out) | exact HB.out)⟩⟩
  case rest =>
    clear HC2
    try clear p2
    try clear c3
    try clear c4
    try clear c5
    try clear c6
    try clear c6b0
    try clear p6
    try clear c7
    try clear c7b0
    try clear p2
    obtain ⟨kq, x0_1, x3_1, rfl, rfl, HA, HJ1, BK186, HB⟩ := hcut
    cases kq with
    | zero => exact absurd HA.out (by simp [arrearsref05_Civil.j1])
    | succ kj1 =>
      have H := HA.out
      clear HA
      simp only [arrearsref05_Civil.j1] at H
      have H' := Aside0.mk H
      clear H
      go_wp2
      go_loopg [0, 5] kj1 (fun kq v0 v5 w' => ∃ (x0_2 : Int) (x5_2 : Int), v0 = .int .i64 x0_2 ∧ v5 = .int .i64 x5_2 ∧ Aside0 (arrearsref05_Civil.l1 kq x0_2 x3_1 x5_2 = some (r1, r2, r3)) ∧ Aside0 (kq ≤ kj1) ∧ Aside0 (w'.heap[gb186]? = some (.cells #[.int .i64 0, .int .i64 0, .int .i64 0] 65 (0, 0))) ∧ Aside0 (Below w.heap.size w w'))
      case atStart => exact ⟨(x0_1), (1), (by first | rfl | (simp; done) | (simp [*]; done)), (by first | rfl | (simp; done) | (simp [*]; done)), H', ⟨Nat.le_refl _⟩, ⟨by (with_reducible repeat (first | refine blk_drewN ?_ _ | refine blk_drew ?_ | refine blk_alloc ?_ _)); exact BK186.out⟩, ⟨by repeat (first | (with_reducible first | exact HB.out | apply below_alloc | apply pw_below_drewN | apply below_drew1 | refine below_set ?_ GE186.out) | exact HB.out)⟩⟩
      case round =>
        clear H'
        try clear p2
        try clear c3
        try clear c4
        try clear c5
        try clear c6
        try clear c6b0
        try clear p6
        try clear c7
        try clear c7b0
        try clear p2
        try clear p6
        obtain ⟨x0_2, x5_2, rfl, rfl, HA, HK2, BK186, HB⟩ := hrel
        cases gk with
        | zero => exact absurd HA.out (by simp [arrearsref05_Civil.l1])
        | succ k2 =>
          have H := HA.out
          clear HA
          simp only [arrearsref05_Civil.l1] at H
          replace H := Option.bind_eq_some_iff.mp H
          obtain ⟨t188, A80, H⟩ := H
          replace H : (if x0_2 ≥ t188 then ((arrearsref05_Length.f k2 x3_1 x5_2).bind fun t189 => (arrearsref05_Civil.l1 k2 (wrap64 (x0_2 - t189)) x3_1 (wrap64 (x5_2 + 1)))) else (some (x3_1, x5_2, wrap64 (x0_2 + 1)))) = some (r1, r2, r3) := H
          have A8 := Aside0.mk A80
          clear A80
          by_cases c9 : x0_2 ≥ t188
          · rw [if_pos c9] at H
            have c9b0 : decide (t188 ≤ x0_2) = true := decide_eq_true c9
            clear c9
            replace H := Option.bind_eq_some_iff.mp H
            obtain ⟨t189, A100, H⟩ := H
            replace H : (arrearsref05_Civil.l1 k2 (wrap64 (x0_2 - t189)) x3_1 (wrap64 (x5_2 + 1))) = some (r1, r2, r3) := H
            have A10 := Aside0.mk A100
            clear A100
            have H' := Aside0.mk H
            clear H
            go_wp2_with (first | ((with_reducible refine gate_callee (f := 36) rfl ?_); refine goesL_ (some 25) rfl rfl Tryd.func36 (by kernel_rfl) rfl #[.int .i64 x3_1, .int .i64 x5_2] rfl (by (try simp only [List.map_toArray, List.map_cons, List.map_nil]); first | done | rfl | (simp only [List.length_drop, List.length_take]; rfl)) ?_; (with_reducible refine (arrearsref05_Length.calls k2 x3_1 x5_2 t188 _ A8.out).mono ?_); rintro e w11 ⟨rfl, hb⟩; refine ⟨_, rfl, ?_⟩; have n0_ := Aside0.mk (blk_below (g := gb186) (o := .cells #[.int .i64 0, .int .i64 0, .int .i64 0] 65 (0, 0)) (by (with_reducible repeat (first | refine blk_drewN ?_ _ | refine blk_drew ?_ | refine blk_alloc ?_ _)); exact BK186.out) hb); have n1_ := Aside0.mk (below_step (by repeat (first | (with_reducible first | exact HB.out | apply below_alloc | apply pw_below_drewN | apply below_drew1 | refine below_set ?_ GE186.out) | exact HB.out)) hb); clear BK186; clear HB; have BK186 := n0_; have HB := n1_; clear n0_ n1_; (try clear hb); (try clear hb2); (try clear hk); (try clear hi)) | ((with_reducible refine gate_callee (f := 36) rfl ?_); refine goesL_ (some 30) rfl rfl Tryd.func36 (by kernel_rfl) rfl #[.int .i64 x3_1, .int .i64 x5_2] rfl (by (try simp only [List.map_toArray, List.map_cons, List.map_nil]); first | done | rfl | (simp only [List.length_drop, List.length_take]; rfl)) ?_; (with_reducible refine (arrearsref05_Length.calls k2 x3_1 x5_2 t189 _ A10.out).mono ?_); rintro e w12 ⟨rfl, hb⟩; refine ⟨_, rfl, ?_⟩; have n0_ := Aside0.mk (blk_below (g := gb186) (o := .cells #[.int .i64 0, .int .i64 0, .int .i64 0] 65 (0, 0)) (by (with_reducible repeat (first | refine blk_drewN ?_ _ | refine blk_drew ?_ | refine blk_alloc ?_ _)); exact BK186.out) hb); have n1_ := Aside0.mk (below_step (by repeat (first | (with_reducible first | exact HB.out | apply below_alloc | apply pw_below_drewN | apply below_drew1 | refine below_set ?_ GE186.out) | exact HB.out)) hb); clear BK186; clear HB; have BK186 := n0_; have HB := n1_; clear n0_ n1_; (try clear hb); (try clear hb2); (try clear hk); (try clear hi)))
            go_roundg k2
            case measure => have := HJ1.out; have := HK2.out; omega
            case rel => exact ⟨(wrap64 (x0_2 - t189)), (wrap64 (x5_2 + 1)), (by first | rfl | (simp; done) | (simp [*]; done)), (by first | rfl | (simp; done) | (simp [*]; done)), H', ⟨by have := HJ1.out; have := HK2.out; omega⟩, ⟨by (with_reducible repeat (first | refine blk_drewN ?_ _ | refine blk_drew ?_ | refine blk_alloc ?_ _)); exact BK186.out⟩, ⟨by repeat (first | (with_reducible first | exact HB.out | apply below_alloc | apply pw_below_drewN | apply below_drew1 | refine below_set ?_ GE186.out) | exact HB.out)⟩⟩
          · rw [if_neg c9] at H
            have c9b0 : decide (t188 ≤ x0_2) = false := decide_eq_false c9
            clear c9
            simp only [Option.some.injEq, Prod.mk.injEq] at H
            obtain ⟨rfl, rfl, rfl⟩ := H
            go_wp2_with (first | ((with_reducible refine gate_callee (f := 36) rfl ?_); refine goesL_ (some 25) rfl rfl Tryd.func36 (by kernel_rfl) rfl #[.int .i64 x3_1, .int .i64 x5_2] rfl (by (try simp only [List.map_toArray, List.map_cons, List.map_nil]); first | done | rfl | (simp only [List.length_drop, List.length_take]; rfl)) ?_; (with_reducible refine (arrearsref05_Length.calls k2 x3_1 x5_2 t188 _ A8.out).mono ?_); rintro e w13 ⟨rfl, hb⟩; refine ⟨_, rfl, ?_⟩; have n0_ := Aside0.mk (blk_below (g := gb186) (o := .cells #[.int .i64 0, .int .i64 0, .int .i64 0] 65 (0, 0)) (by (with_reducible repeat (first | refine blk_drewN ?_ _ | refine blk_drew ?_ | refine blk_alloc ?_ _)); exact BK186.out) hb); have n1_ := Aside0.mk (below_step (by repeat (first | (with_reducible first | exact HB.out | apply below_alloc | apply pw_below_drewN | apply below_drew1 | refine below_set ?_ GE186.out) | exact HB.out)) hb); clear BK186; clear HB; have BK186 := n0_; have HB := n1_; clear n0_ n1_; (try clear hb); (try clear hb2); (try clear hk); (try clear hi); have hcz14_0 : w13.cell? ⟨gb186, 0, none⟩ = some (.int .i64 0) := (blk_cell BK186.out 0).trans rfl; have hcz14_1 : w13.cell? ⟨gb186, 1, none⟩ = some (.int .i64 0) := (blk_cell BK186.out 1).trans rfl; have hcz14_2 : w13.cell? ⟨gb186, 2, none⟩ = some (.int .i64 0) := (blk_cell BK186.out 2).trans rfl; have hfz14_0 := blk_frozen BK186.out 0; have hfz14_1 := blk_frozen BK186.out 1; have hfz14_2 := blk_frozen BK186.out 2))
            refine bodyPost_ret (results_cell_row rfl _ _ gb186 65 #[.int .i64 x3_1, .int .i64 x5_2, .int .i64 (wrap64 (x0_2 + 1))] (0, 0) _ rfl (by (with_reducible repeat (first | refine blk_drewN ?_ _ | refine blk_drew ?_ | refine blk_alloc ?_ _)); refine blk_put (cs := #[.int .i64 x3_1, .int .i64 x5_2, .int .i64 0]) ?_ 2 _ rfl; (with_reducible repeat (first | refine blk_drewN ?_ _ | refine blk_drew ?_ | refine blk_alloc ?_ _)); refine blk_put (cs := #[.int .i64 x3_1, .int .i64 0, .int .i64 0]) ?_ 1 _ rfl; (with_reducible repeat (first | refine blk_drewN ?_ _ | refine blk_drew ?_ | refine blk_alloc ?_ _)); refine blk_put (cs := #[.int .i64 0, .int .i64 0, .int .i64 0]) ?_ 0 _ rfl; (with_reducible repeat (first | refine blk_drewN ?_ _ | refine blk_drew ?_ | refine blk_alloc ?_ _)); exact BK186.out) Tryd.underlying65 rfl (by kernel_rfl)) rfl ?_
            exact ⟨by first | rfl | (simp [errW_none, errW_some] <;> rfl) | (simp [*, errW_none, errW_some] <;> rfl), by repeat (first | (with_reducible first | exact HB.out | apply below_alloc | apply pw_below_drewN | apply below_drew1 | refine below_set ?_ GE186.out) | exact HB.out)⟩

/-! ### arrearsref05_Next: function 35 -/
def arrearsref05_Next.j0 : Nat → Int → Int → Bool → Bool → Option (Int × Int)
  | 0, _, _, _, _ => none
  | k + 1, x0, x1, x2, x12 => if x12 = true then (some (wrap64 (x0 - 1), 12)) else (if x2 = true then (some (x0, wrap64 (x1 - 1))) else (if x1 = 12 then (some (wrap64 (x0 + 1), 1)) else (some (x0, wrap64 (x1 + 1)))))
def arrearsref05_Next.f (k : Nat) (a0 : Int) (a1 : Int) (a2 : Bool) : Option (Int × Int) := if a2 = true then (arrearsref05_Next.j0 k a0 a1 a2 (a1 == 1)) else (arrearsref05_Next.j0 k a0 a1 a2 false)
theorem arrearsref05_Next.mono_l : ∀ k, (∀ y0 y1 y2 y3, LeO (arrearsref05_Next.j0 k y0 y1 y2 y3) (arrearsref05_Next.j0 (k + 1) y0 y1 y2 y3))
  | 0 => fun _ _ _ _ r h => by simp [arrearsref05_Next.j0] at h
  | k + 1 => by
    have ih0 := arrearsref05_Next.mono_l k
    · intro y0 y1 y2 y3
      unfold arrearsref05_Next.j0
      repeat' first
      | (with_reducible exact ih0 _ _ _ _)
      | (with_reducible exact LeO.refl _)
      | (with_reducible exact LeO.none _)
      | (with_reducible refine LeO.ite ?_ ?_)
      | (with_reducible refine LeO.bind ?_ (fun _ => ?_))
      | exact ih0 _ _ _ _
      | exact LeO.none _
      | refine LeO.ite ?_ ?_
      | refine LeO.bind ?_ (fun _ => ?_)
theorem arrearsref05_Next.mono : ∀ a0 a1 a2 k, LeO (arrearsref05_Next.f k a0 a1 a2) (arrearsref05_Next.f (k + 1) a0 a1 a2) := by
  intro a0 a1 a2 k
  have ih0 := arrearsref05_Next.mono_l k
  unfold arrearsref05_Next.f
  repeat' first
      | (with_reducible exact ih0 _ _ _ _)
      | (with_reducible exact LeO.refl _)
      | (with_reducible exact LeO.none _)
      | (with_reducible refine LeO.ite ?_ ?_)
      | (with_reducible refine LeO.bind ?_ (fun _ => ?_))
      | exact ih0 _ _ _ _
      | exact LeO.none _
      | refine LeO.ite ?_ ?_
      | refine LeO.bind ?_ (fun _ => ?_)
set_option maxHeartbeats 8000000 in
set_option maxRecDepth 100000 in
theorem arrearsref05_Next.calls (k : Nat) (a0 : Int) (a1 : Int) (a2 : Bool) (r1 : Int) (r2 : Int) (w : World) (h : arrearsref05_Next.f k a0 a1 a2 = some (r1, r2)) :
    Calls Tryd.prog 35 #[.int .i64 a0, .int .i64 a1, .bool a2] w fun e w' => e = .returned (.tuple #[.int .i64 r1, .int .i64 r2]) ∧ Drawn0 w w' := by
  have H : (if a2 = true then (arrearsref05_Next.j0 k a0 a1 a2 (a1 == 1)) else (arrearsref05_Next.j0 k a0 a1 a2 false)) = some (r1, r2) := h
  clear h
  have HC4 := Aside0.mk H
  clear H
  go_enter Tryd.func35, Tryd.ntmps35
  go_upto_region 1 with (fail)
  go_cut [12] (fun v12 wc => ∃ (kq : Nat) (x12_3 : Bool), v12 = .bool x12_3 ∧ Aside0 (arrearsref05_Next.j0 kq a0 a1 a2 x12_3 = some (r1, r2)) ∧ Aside0 (kq ≤ k) ∧ Drawn0 w wc)
  case first =>
    have H := HC4.out
    clear HC4
    by_cases c5 : a2 = true
    · subst c5
      have H1 : (arrearsref05_Next.j0 k a0 a1 true (a1 == 1)) = some (r1, r2) := by rw [if_pos rfl] at H; exact H
      clear H
      have H := H1
      clear H1
      have H' := Aside0.mk H
      clear H
      go_wp2
      go_meet
      case rel => exact ⟨_, ((a1 == 1)), (by first | rfl | (simp; done) | (simp [*]; done)), H', ⟨by first | omega | exact Nat.le_refl _⟩, by repeat (first | exact Drawn0.refl _ | apply Drawn0.step)⟩
    · replace c5 := Bool.eq_false_iff.mpr c5
      subst c5
      have H1 : (arrearsref05_Next.j0 k a0 a1 false false) = some (r1, r2) := by rw [if_neg (show ¬ (false = true) by decide)] at H; exact H
      clear H
      have H := H1
      clear H1
      have H' := Aside0.mk H
      clear H
      go_wp2
      go_meet
      case rel => exact ⟨_, (false), (by first | rfl | (simp; done) | (simp [*]; done)), H', ⟨by first | omega | exact Nat.le_refl _⟩, by repeat (first | exact Drawn0.refl _ | apply Drawn0.step)⟩
  case rest =>
    clear HC4
    try clear p2
    try clear c3
    try clear c5
    obtain ⟨kq, x12_3, rfl, HA, HJ3, ⟨mc3, rfl⟩⟩ := hcut
    cases kq with
    | zero => exact absurd HA.out (by simp [arrearsref05_Next.j0])
    | succ kj3 =>
      have H := HA.out
      clear HA
      simp only [arrearsref05_Next.j0] at H
      by_cases c6 : x12_3 = true
      · subst c6
        have H1 : (some (wrap64 (a0 - 1), 12)) = some (r1, r2) := by rw [if_pos rfl] at H; exact H
        clear H
        have H := H1
        clear H1
        simp only [Option.some.injEq, Prod.mk.injEq] at H
        obtain ⟨rfl, rfl⟩ := H
        go_wp2
        go_ret2
        exact ⟨by first | rfl | (simp; done) | (simp [*]; done), by repeat (first | exact Drawn0.refl _ | apply Drawn0.step)⟩
      · replace c6 := Bool.eq_false_iff.mpr c6
        subst c6
        have H1 : (if a2 = true then (some (a0, wrap64 (a1 - 1))) else (if a1 = 12 then (some (wrap64 (a0 + 1), 1)) else (some (a0, wrap64 (a1 + 1))))) = some (r1, r2) := by rw [if_neg (show ¬ (false = true) by decide)] at H; exact H
        clear H
        have H := H1
        clear H1
        by_cases c7 : a2 = true
        · subst c7
          have H1 : (some (a0, wrap64 (a1 - 1))) = some (r1, r2) := by rw [if_pos rfl] at H; exact H
          clear H
          have H := H1
          clear H1
          simp only [Option.some.injEq, Prod.mk.injEq] at H
          obtain ⟨rfl, rfl⟩ := H
          go_wp2
          go_ret2
          exact ⟨by first | rfl | (simp; done) | (simp [*]; done), by repeat (first | exact Drawn0.refl _ | apply Drawn0.step)⟩
        · replace c7 := Bool.eq_false_iff.mpr c7
          subst c7
          have H1 : (if a1 = 12 then (some (wrap64 (a0 + 1), 1)) else (some (a0, wrap64 (a1 + 1)))) = some (r1, r2) := by rw [if_neg (show ¬ (false = true) by decide)] at H; exact H
          clear H
          have H := H1
          clear H1
          by_cases c8 : a1 = 12
          · rw [if_pos c8] at H
            have c8b0 : (a1 == 12) = true := beq_iff_eq.mpr c8
            have c8b1 : (a1 != 12) = false := bne_eq_false_iff_eq.mpr c8
            clear c8
            simp only [Option.some.injEq, Prod.mk.injEq] at H
            obtain ⟨rfl, rfl⟩ := H
            go_wp2
            go_ret2
            exact ⟨by first | rfl | (simp; done) | (simp [*]; done), by repeat (first | exact Drawn0.refl _ | apply Drawn0.step)⟩
          · rw [if_neg c8] at H
            have c8b0 : (a1 == 12) = false := beq_eq_false_iff_ne.mpr c8
            have c8b1 : (a1 != 12) = true := bne_iff_ne.mpr c8
            simp only [Option.some.injEq, Prod.mk.injEq] at H
            obtain ⟨rfl, rfl⟩ := H
            go_wp2
            go_ret2
            exact ⟨by first | rfl | (simp; done) | (simp [*]; done), by repeat (first | exact Drawn0.refl _ | apply Drawn0.step)⟩

/-! ### arrearsref05_Number: function 37 -/
mutual
def arrearsref05_Number.l0 : Nat → Int → Int → Int → Int → Int → Option (Int)
  | 0, _, _, _, _, _ => none
  | k + 1, x3, x4, x191000, x191001, x191002 => if x4 < x191000 then ((arrearsref05_Leap.f x4).bind fun t191 => (if t191 = true then (arrearsref05_Number.l0 k (wrap64 ((wrap64 (x3 + 365)) + 1)) (wrap64 (x4 + 1)) x191000 x191001 x191002) else (arrearsref05_Number.l0 k (wrap64 (x3 + 365)) (wrap64 (x4 + 1)) x191000 x191001 x191002))) else (arrearsref05_Number.l1 k x3 1 x191000 x191001 x191002)
def arrearsref05_Number.l1 : Nat → Int → Int → Int → Int → Int → Option (Int)
  | 0, _, _, _, _, _ => none
  | k + 1, x3, x5, x191000, x191001, x191002 => if x5 < x191001 then ((arrearsref05_Length.f k x191000 x5).bind fun t192 => (arrearsref05_Number.l1 k (wrap64 (x3 + t192)) (wrap64 (x5 + 1)) x191000 x191001 x191002)) else (some (wrap64 ((wrap64 (x3 + x191002)) - 1)))
end
def arrearsref05_Number.f (k : Nat) (a0_0 : Int) (a0_1 : Int) (a0_2 : Int) : Option (Int) := arrearsref05_Number.l0 k (wrap64 (146097 * (wrap64 (Int.tdiv (wrap64 (a0_0 - 1)) 400)))) (wrap64 (a0_0 - (Int.tmod (wrap64 (a0_0 - 1)) 400))) a0_0 a0_1 a0_2
theorem arrearsref05_Number.mono_l : ∀ k, (∀ y0 y1 y2 y3 y4, LeO (arrearsref05_Number.l0 k y0 y1 y2 y3 y4) (arrearsref05_Number.l0 (k + 1) y0 y1 y2 y3 y4)) ∧ (∀ y0 y1 y2 y3 y4, LeO (arrearsref05_Number.l1 k y0 y1 y2 y3 y4) (arrearsref05_Number.l1 (k + 1) y0 y1 y2 y3 y4))
  | 0 => ⟨fun _ _ _ _ _ r h => by simp [arrearsref05_Number.l0] at h, fun _ _ _ _ _ r h => by simp [arrearsref05_Number.l1] at h⟩
  | k + 1 => by
    obtain ⟨ih0, ih1⟩ := arrearsref05_Number.mono_l k
    refine ⟨?_, ?_⟩
    · intro y0 y1 y2 y3 y4
      unfold arrearsref05_Number.l0
      repeat' first
      | (with_reducible exact ih0 _ _ _ _ _)
      | (with_reducible exact ih1 _ _ _ _ _)
      | (with_reducible exact arrearsref05_Length.mono _ _ _)
      | (with_reducible exact LeO.refl _)
      | (with_reducible exact LeO.none _)
      | (with_reducible refine LeO.ite ?_ ?_)
      | (with_reducible refine LeO.bind ?_ (fun _ => ?_))
      | exact ih0 _ _ _ _ _
      | exact ih1 _ _ _ _ _
      | exact arrearsref05_Length.mono _ _ _
      | exact LeO.none _
      | refine LeO.ite ?_ ?_
      | refine LeO.bind ?_ (fun _ => ?_)
    · intro y0 y1 y2 y3 y4
      unfold arrearsref05_Number.l1
      repeat' first
      | (with_reducible exact ih0 _ _ _ _ _)
      | (with_reducible exact ih1 _ _ _ _ _)
      | (with_reducible exact arrearsref05_Length.mono _ _ _)
      | (with_reducible exact LeO.refl _)
      | (with_reducible exact LeO.none _)
      | (with_reducible refine LeO.ite ?_ ?_)
      | (with_reducible refine LeO.bind ?_ (fun _ => ?_))
      | exact ih0 _ _ _ _ _
      | exact ih1 _ _ _ _ _
      | exact arrearsref05_Length.mono _ _ _
      | exact LeO.none _
      | refine LeO.ite ?_ ?_
      | refine LeO.bind ?_ (fun _ => ?_)
theorem arrearsref05_Number.mono : ∀ a0 a1 a2 k, LeO (arrearsref05_Number.f k a0 a1 a2) (arrearsref05_Number.f (k + 1) a0 a1 a2) := by
  intro a0 a1 a2 k
  obtain ⟨ih0, ih1⟩ := arrearsref05_Number.mono_l k
  unfold arrearsref05_Number.f
  repeat' first
      | (with_reducible exact ih0 _ _ _ _ _)
      | (with_reducible exact ih1 _ _ _ _ _)
      | (with_reducible exact arrearsref05_Length.mono _ _ _)
      | (with_reducible exact LeO.refl _)
      | (with_reducible exact LeO.none _)
      | (with_reducible refine LeO.ite ?_ ?_)
      | (with_reducible refine LeO.bind ?_ (fun _ => ?_))
      | exact ih0 _ _ _ _ _
      | exact ih1 _ _ _ _ _
      | exact arrearsref05_Length.mono _ _ _
      | exact LeO.none _
      | refine LeO.ite ?_ ?_
      | refine LeO.bind ?_ (fun _ => ?_)
set_option maxHeartbeats 8000000 in
set_option maxRecDepth 100000 in
theorem arrearsref05_Number.calls (k : Nat) (a0_0 : Int) (a0_1 : Int) (a0_2 : Int) (r : Int) (w : World) (h : arrearsref05_Number.f k a0_0 a0_1 a0_2 = some r) :
    Calls Tryd.prog 37 #[.agg #[.int .i64 a0_0, .int .i64 a0_1, .int .i64 a0_2]] w fun e w' => e = .returned (.int .i64 r) ∧ Below w.heap.size w w' := by
  have hu65 := Tryd.underlying65
  have HB := Aside0.mk (Below.refl w.heap.size w)
  have H : (arrearsref05_Number.l0 k (wrap64 (146097 * (wrap64 (Int.tdiv (wrap64 (a0_0 - 1)) 400)))) (wrap64 (a0_0 - (Int.tmod (wrap64 (a0_0 - 1)) 400))) a0_0 a0_1 a0_2) = some r := h
  clear h
  have H' := Aside0.mk H
  clear H
  go_enter Tryd.func37, Tryd.ntmps37
  go_wp2_with (first | ((with_reducible refine gate_dst (N := 1) rfl ?_); refine box_event ?hg (N := 1) ?hd (cs := #[.int .i64 a0_0, .int .i64 a0_1, .int .i64 a0_2]) (t := 65) ?hr ?_; (case hd => rfl); (case hg => rfl); (case hr => first | (go_simp; done) | (go_simp; rfl)); intro gb190 hg w2 hbox hb; have n0_ := Aside0.mk (below_step (by repeat (first | (with_reducible first | exact HB.out | apply below_alloc | apply pw_below_drewN | apply below_drew1) | exact HB.out)) hb); have n1_ := Aside0.mk (hbox); have n2_ := Aside0.mk ((by rw [hg]; exact (below_size (by repeat (first | (with_reducible first | exact HB.out | apply below_alloc | apply pw_below_drewN | apply below_drew1) | exact HB.out))) : w.heap.size ≤ gb190)); have n3_ := Aside0.mk ((by rw [hg]; exact (below_size (by repeat (first | (with_reducible first | exact HB.out | apply below_alloc | apply pw_below_drewN | apply below_drew1) | exact HB.out))) : w.heap.size ≤ gb190)); clear HB; have HB := n0_; have BK190 := n1_; have GW190 := n2_; have GE190 := n3_; clear n0_ n1_ n2_ n3_; clear hb hbox hg; have hcz3_0 : w2.cell? ⟨gb190, 0, none⟩ = some (.int .i64 a0_0) := (blk_cell BK190.out 0).trans rfl; have hcz3_1 : w2.cell? ⟨gb190, 1, none⟩ = some (.int .i64 a0_1) := (blk_cell BK190.out 1).trans rfl; have hcz3_2 : w2.cell? ⟨gb190, 2, none⟩ = some (.int .i64 a0_2) := (blk_cell BK190.out 2).trans rfl; have hfz3_0 := blk_frozen BK190.out 0; have hfz3_1 := blk_frozen BK190.out 1; have hfz3_2 := blk_frozen BK190.out 2))
  go_loopg [3, 4] k (fun kq v3 v4 w' => ∃ (x3_1 : Int) (x4_1 : Int), v3 = .int .i64 x3_1 ∧ v4 = .int .i64 x4_1 ∧ Aside0 (arrearsref05_Number.l0 kq x3_1 x4_1 a0_0 a0_1 a0_2 = some r) ∧ Aside0 (kq ≤ k) ∧ Aside0 (w'.heap[gb190]? = some (.cells #[.int .i64 a0_0, .int .i64 a0_1, .int .i64 a0_2] 65 (0, 0))) ∧ Aside0 (Below w.heap.size w w'))
  case atStart => exact ⟨(wrap64 (146097 * (wrap64 (Int.tdiv (wrap64 (a0_0 - 1)) 400)))), (wrap64 (a0_0 - (Int.tmod (wrap64 (a0_0 - 1)) 400))), (by first | rfl | (simp; done) | (simp [*]; done)), (by first | rfl | (simp; done) | (simp [*]; done)), H', ⟨Nat.le_refl _⟩, ⟨by (with_reducible repeat (first | refine blk_drewN ?_ _ | refine blk_drew ?_ | refine blk_alloc ?_ _)); exact BK190.out⟩, ⟨by repeat (first | (with_reducible first | exact HB.out | apply below_alloc | apply pw_below_drewN | apply below_drew1 | refine below_set ?_ GE190.out) | exact HB.out)⟩⟩
  case round =>
    clear H'
    try clear p2
    try clear c3
    try clear hcz3_0
    try clear hcz3_1
    try clear hcz3_2
    try clear hfz3_0
    try clear hfz3_1
    try clear hfz3_2
    obtain ⟨x3_1, x4_1, rfl, rfl, HA, HK1, BK190, HB⟩ := hrel
    cases gk with
    | zero => exact absurd HA.out (by simp [arrearsref05_Number.l0])
    | succ k1 =>
      have H := HA.out
      clear HA
      simp only [arrearsref05_Number.l0] at H
      by_cases c4 : x4_1 < a0_0
      · rw [if_pos c4] at H
        have c4b0 : decide (x4_1 < a0_0) = true := decide_eq_true c4
        clear c4
        replace H := Option.bind_eq_some_iff.mp H
        obtain ⟨t191, A50, H⟩ := H
        replace H : (if t191 = true then (arrearsref05_Number.l0 k1 (wrap64 ((wrap64 (x3_1 + 365)) + 1)) (wrap64 (x4_1 + 1)) a0_0 a0_1 a0_2) else (arrearsref05_Number.l0 k1 (wrap64 (x3_1 + 365)) (wrap64 (x4_1 + 1)) a0_0 a0_1 a0_2)) = some r := H
        have A5 := Aside0.mk A50
        clear A50
        by_cases c6 : t191 = true
        · subst c6
          have H1 : (arrearsref05_Number.l0 k1 (wrap64 ((wrap64 (x3_1 + 365)) + 1)) (wrap64 (x4_1 + 1)) a0_0 a0_1 a0_2) = some r := by rw [if_pos rfl] at H; exact H
          clear H
          have H := H1
          clear H1
          have H' := Aside0.mk H
          clear H
          have hcz7_0 : wr.cell? ⟨gb190, 0, none⟩ = some (.int .i64 a0_0) := (blk_cell BK190.out 0).trans rfl
          have hcz7_1 : wr.cell? ⟨gb190, 1, none⟩ = some (.int .i64 a0_1) := (blk_cell BK190.out 1).trans rfl
          have hcz7_2 : wr.cell? ⟨gb190, 2, none⟩ = some (.int .i64 a0_2) := (blk_cell BK190.out 2).trans rfl
          have hfz7_0 := blk_frozen BK190.out 0
          have hfz7_1 := blk_frozen BK190.out 1
          have hfz7_2 := blk_frozen BK190.out 2
          go_wp2_with (first | ((with_reducible refine gate_callee (f := 46) rfl ?_); refine goesL_ (some 27) rfl rfl Tryd.func46 (by kernel_rfl) rfl #[.int .i64 x4_1] rfl (by (try simp only [List.map_toArray, List.map_cons, List.map_nil]); first | done | rfl | (simp only [List.length_drop, List.length_take]; rfl)) ?_; (with_reducible refine (arrearsref05_Leap.calls x4_1 true _ A5.out).mono ?_); rintro e w' ⟨rfl, ⟨nd, rfl⟩⟩; refine ⟨_, rfl, ?_⟩))
          go_roundg k1
          case measure => have := HK1.out; omega
          case rel => exact ⟨(wrap64 ((wrap64 (x3_1 + 365)) + 1)), (wrap64 (x4_1 + 1)), (by first | rfl | (simp; done) | (simp [*]; done)), (by first | rfl | (simp; done) | (simp [*]; done)), H', ⟨by have := HK1.out; omega⟩, ⟨by (with_reducible repeat (first | refine blk_drewN ?_ _ | refine blk_drew ?_ | refine blk_alloc ?_ _)); exact BK190.out⟩, ⟨by repeat (first | (with_reducible first | exact HB.out | apply below_alloc | apply pw_below_drewN | apply below_drew1 | refine below_set ?_ GE190.out) | exact HB.out)⟩⟩
        · replace c6 := Bool.eq_false_iff.mpr c6
          subst c6
          have H1 : (arrearsref05_Number.l0 k1 (wrap64 (x3_1 + 365)) (wrap64 (x4_1 + 1)) a0_0 a0_1 a0_2) = some r := by rw [if_neg (show ¬ (false = true) by decide)] at H; exact H
          clear H
          have H := H1
          clear H1
          have H' := Aside0.mk H
          clear H
          have hcz8_0 : wr.cell? ⟨gb190, 0, none⟩ = some (.int .i64 a0_0) := (blk_cell BK190.out 0).trans rfl
          have hcz8_1 : wr.cell? ⟨gb190, 1, none⟩ = some (.int .i64 a0_1) := (blk_cell BK190.out 1).trans rfl
          have hcz8_2 : wr.cell? ⟨gb190, 2, none⟩ = some (.int .i64 a0_2) := (blk_cell BK190.out 2).trans rfl
          have hfz8_0 := blk_frozen BK190.out 0
          have hfz8_1 := blk_frozen BK190.out 1
          have hfz8_2 := blk_frozen BK190.out 2
          go_wp2_with (first | ((with_reducible refine gate_callee (f := 46) rfl ?_); refine goesL_ (some 27) rfl rfl Tryd.func46 (by kernel_rfl) rfl #[.int .i64 x4_1] rfl (by (try simp only [List.map_toArray, List.map_cons, List.map_nil]); first | done | rfl | (simp only [List.length_drop, List.length_take]; rfl)) ?_; (with_reducible refine (arrearsref05_Leap.calls x4_1 false _ A5.out).mono ?_); rintro e w' ⟨rfl, ⟨nd, rfl⟩⟩; refine ⟨_, rfl, ?_⟩))
          go_roundg k1
          case measure => have := HK1.out; omega
          case rel => exact ⟨(wrap64 (x3_1 + 365)), (wrap64 (x4_1 + 1)), (by first | rfl | (simp; done) | (simp [*]; done)), (by first | rfl | (simp; done) | (simp [*]; done)), H', ⟨by have := HK1.out; omega⟩, ⟨by (with_reducible repeat (first | refine blk_drewN ?_ _ | refine blk_drew ?_ | refine blk_alloc ?_ _)); exact BK190.out⟩, ⟨by repeat (first | (with_reducible first | exact HB.out | apply below_alloc | apply pw_below_drewN | apply below_drew1 | refine below_set ?_ GE190.out) | exact HB.out)⟩⟩
      · rw [if_neg c4] at H
        have c4b0 : decide (x4_1 < a0_0) = false := decide_eq_false c4
        clear c4
        have H' := Aside0.mk H
        clear H
        have hcz9_0 : wr.cell? ⟨gb190, 0, none⟩ = some (.int .i64 a0_0) := (blk_cell BK190.out 0).trans rfl
        have hcz9_1 : wr.cell? ⟨gb190, 1, none⟩ = some (.int .i64 a0_1) := (blk_cell BK190.out 1).trans rfl
        have hcz9_2 : wr.cell? ⟨gb190, 2, none⟩ = some (.int .i64 a0_2) := (blk_cell BK190.out 2).trans rfl
        have hfz9_0 := blk_frozen BK190.out 0
        have hfz9_1 := blk_frozen BK190.out 1
        have hfz9_2 := blk_frozen BK190.out 2
        go_wp2
        go_loopg [3, 5] k1 (fun kq v3 v5 w' => ∃ (x3_2 : Int) (x5_2 : Int), v3 = .int .i64 x3_2 ∧ v5 = .int .i64 x5_2 ∧ Aside0 (arrearsref05_Number.l1 kq x3_2 x5_2 a0_0 a0_1 a0_2 = some r) ∧ Aside0 (kq ≤ k1) ∧ Aside0 (w'.heap[gb190]? = some (.cells #[.int .i64 a0_0, .int .i64 a0_1, .int .i64 a0_2] 65 (0, 0))) ∧ Aside0 (Below w.heap.size w w'))
        case atStart => exact ⟨(x3_1), (1), (by first | rfl | (simp; done) | (simp [*]; done)), (by first | rfl | (simp; done) | (simp [*]; done)), H', ⟨Nat.le_refl _⟩, ⟨by (with_reducible repeat (first | refine blk_drewN ?_ _ | refine blk_drew ?_ | refine blk_alloc ?_ _)); exact BK190.out⟩, ⟨by repeat (first | (with_reducible first | exact HB.out | apply below_alloc | apply pw_below_drewN | apply below_drew1 | refine below_set ?_ GE190.out) | exact HB.out)⟩⟩
        case round =>
          clear H'
          try clear p2
          try clear c3
          try clear c4
          try clear c4b0
          try clear c6
          try clear p6
          try clear hcz3_0
          try clear hcz3_1
          try clear hcz3_2
          try clear hcz7_0
          try clear hcz7_1
          try clear hcz7_2
          try clear hcz8_0
          try clear hcz8_1
          try clear hcz8_2
          try clear hcz9_0
          try clear hcz9_1
          try clear hcz9_2
          try clear hfz3_0
          try clear hfz3_1
          try clear hfz3_2
          try clear hfz7_0
          try clear hfz7_1
          try clear hfz7_2
          try clear hfz8_0
          try clear hfz8_1
          try clear hfz8_2
          try clear hfz9_0
          try clear hfz9_1
          try clear hfz9_2
          try clear p2
          obtain ⟨x3_2, x5_2, rfl, rfl, HA, HK2, BK190, HB⟩ := hrel
          cases gk with
          | zero => exact absurd HA.out (by simp [arrearsref05_Number.l1])
          | succ k2 =>
            have H := HA.out
            clear HA
            simp only [arrearsref05_Number.l1] at H
            by_cases c10 : x5_2 < a0_1
            · rw [if_pos c10] at H
              have c10b0 : decide (x5_2 < a0_1) = true := decide_eq_true c10
              clear c10
              replace H := Option.bind_eq_some_iff.mp H
              obtain ⟨t192, A110, H⟩ := H
              replace H : (arrearsref05_Number.l1 k2 (wrap64 (x3_2 + t192)) (wrap64 (x5_2 + 1)) a0_0 a0_1 a0_2) = some r := H
              have A11 := Aside0.mk A110
              clear A110
              have H' := Aside0.mk H
              clear H
              have hcz12_0 : wr.cell? ⟨gb190, 0, none⟩ = some (.int .i64 a0_0) := (blk_cell BK190.out 0).trans rfl
              have hcz12_1 : wr.cell? ⟨gb190, 1, none⟩ = some (.int .i64 a0_1) := (blk_cell BK190.out 1).trans rfl
              have hcz12_2 : wr.cell? ⟨gb190, 2, none⟩ = some (.int .i64 a0_2) := (blk_cell BK190.out 2).trans rfl
              have hfz12_0 := blk_frozen BK190.out 0
              have hfz12_1 := blk_frozen BK190.out 1
              have hfz12_2 := blk_frozen BK190.out 2
              go_wp2_with (first | ((with_reducible refine gate_callee (f := 36) rfl ?_); refine goesL_ (some 40) rfl rfl Tryd.func36 (by kernel_rfl) rfl #[.int .i64 a0_0, .int .i64 x5_2] rfl (by (try simp only [List.map_toArray, List.map_cons, List.map_nil]); first | done | rfl | (simp only [List.length_drop, List.length_take]; rfl)) ?_; (with_reducible refine (arrearsref05_Length.calls k2 a0_0 x5_2 t192 _ A11.out).mono ?_); rintro e w13 ⟨rfl, hb⟩; refine ⟨_, rfl, ?_⟩; have n0_ := Aside0.mk (blk_below (g := gb190) (o := .cells #[.int .i64 a0_0, .int .i64 a0_1, .int .i64 a0_2] 65 (0, 0)) (by (with_reducible repeat (first | refine blk_drewN ?_ _ | refine blk_drew ?_ | refine blk_alloc ?_ _)); exact BK190.out) hb); have n1_ := Aside0.mk (below_step (by repeat (first | (with_reducible first | exact HB.out | apply below_alloc | apply pw_below_drewN | apply below_drew1 | refine below_set ?_ GE190.out) | exact HB.out)) hb); clear BK190; clear HB; have BK190 := n0_; have HB := n1_; clear n0_ n1_; (try clear hb); (try clear hb2); (try clear hk); (try clear hi)))
              go_roundg k2
              case measure => have := HK1.out; have := HK2.out; omega
              case rel => exact ⟨(wrap64 (x3_2 + t192)), (wrap64 (x5_2 + 1)), (by first | rfl | (simp; done) | (simp [*]; done)), (by first | rfl | (simp; done) | (simp [*]; done)), H', ⟨by have := HK1.out; have := HK2.out; omega⟩, ⟨by (with_reducible repeat (first | refine blk_drewN ?_ _ | refine blk_drew ?_ | refine blk_alloc ?_ _)); exact BK190.out⟩, ⟨by repeat (first | (with_reducible first | exact HB.out | apply below_alloc | apply pw_below_drewN | apply below_drew1 | refine below_set ?_ GE190.out) | exact HB.out)⟩⟩
            · rw [if_neg c10] at H
              have c10b0 : decide (x5_2 < a0_1) = false := decide_eq_false c10
              clear c10
              obtain rfl := Option.some.inj H
              have hcz14_0 : wr.cell? ⟨gb190, 0, none⟩ = some (.int .i64 a0_0) := (blk_cell BK190.out 0).trans rfl
              have hcz14_1 : wr.cell? ⟨gb190, 1, none⟩ = some (.int .i64 a0_1) := (blk_cell BK190.out 1).trans rfl
              have hcz14_2 : wr.cell? ⟨gb190, 2, none⟩ = some (.int .i64 a0_2) := (blk_cell BK190.out 2).trans rfl
              have hfz14_0 := blk_frozen BK190.out 0
              have hfz14_1 := blk_frozen BK190.out 1
              have hfz14_2 := blk_frozen BK190.out 2
              go_wp2
              go_ret
              exact ⟨by first | rfl | (simp [errW_none, errW_some] <;> rfl) | (simp [*, errW_none, errW_some] <;> rfl), by repeat (first | (with_reducible first | exact HB.out | apply below_alloc | apply pw_below_drewN | apply below_drew1 | refine below_set ?_ GE190.out) | exact HB.out)⟩

end Go.Proofs.YthokfepglahgpaaDoor.PDueRolls
