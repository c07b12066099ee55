-- Printed by a wrapper of this session's round the kit's print.py; Lean checks it.
import Derived.Test.YtkjofbdlholmbaaDoorPCoinReadsx0
namespace Go.Proofs.YtkjofbdlholmbaaDoor.PCoinReads
open Go.RowKit Go.Proofs.YtkjofbdlholmbaaDoorW.PrintWords Go.Proofs.YtkjofbdlholmbaaDoorW.PrintLast Go.Proofs.YtkjofbdlholmbaaDoorW.PrintMore
attribute [local go_sem] max2_int min2_int max_two min_two max_three min_three max_four min_four   -- for this text's walks alone
set_option linter.unusedVariables false
set_option linter.unusedSimpArgs false

/-! ### arrearsref04_Read: function 16 -/
mutual
def arrearsref04_Read.j0 : Nat → ByteArray → Bool → Option (Int × Int)
  | 0, _, _ => none
  | k + 1, x0, x4 => if x4 = true then (if 1 ≤ (x0.size : Int) then (arrearsref04_Read.j1 k x4 (x0.extract 1 x0.size)) else (none)) else (arrearsref04_Read.j1 k x4 x0)
def arrearsref04_Read.j1 : Nat → Bool → ByteArray → Option (Int × Int)
  | 0, _, _ => none
  | k + 1, x4, x5 => if (x5.size : Int) < 4 then (arrearsref04_Read.j2 k x4 x5 true) else (if 0 ≤ (wrap64 ((x5.size : Int) - 3)) then (if (wrap64 ((x5.size : Int) - 3)) < (x5.size : Int) then (if (bt x5 (wrap64 ((x5.size : Int) - 3))) = 46 then (if 0 < (x5.size : Int) then (if (bt x5 0) = 48 then (arrearsref04_Read.j2 k x4 x5 (decide ((x5.size : Int) > 4))) else (arrearsref04_Read.j2 k x4 x5 false)) else (none)) else (arrearsref04_Read.j2 k x4 x5 true)) else (none)) else (none))
def arrearsref04_Read.j2 : Nat → Bool → ByteArray → Bool → Option (Int × Int)
  | 0, _, _, _ => none
  | k + 1, x4, x5, x42 => if x42 = true then (some (0, 15)) else (if 0 ≤ (wrap64 ((x5.size : Int) - 3)) then (if (wrap64 ((x5.size : Int) - 3)) ≤ (x5.size : Int) then (if 0 ≤ (wrap64 ((x5.size : Int) - 2)) then (if (wrap64 ((x5.size : Int) - 2)) ≤ (x5.size : Int) then (if (x5.extract 0 ((wrap64 ((x5.size : Int) - 3)) : Int).toNat).size + (x5.extract ((wrap64 ((x5.size : Int) - 2)) : Int).toNat x5.size).size ≤ 9223372036854775807 then (arrearsref04_Read.l0 k x4 ((x5.extract 0 ((wrap64 ((x5.size : Int) - 3)) : Int).toNat) ++ (x5.extract ((wrap64 ((x5.size : Int) - 2)) : Int).toNat x5.size)) 0 false 0) else (none)) else (none)) else (none)) else (none)) else (none))
def arrearsref04_Read.l0 : Nat → Bool → ByteArray → Int → Bool → Int → Option (Int × Int)
  | 0, _, _, _, _, _ => none
  | k + 1, x4, x6, x7, x8, x9 => if x9 < (x6.size : Int) then (if 0 ≤ x9 then (if (bt x6 x9) < 48 then (arrearsref04_Read.j4 k x4 x6 x7 x8 x9 true) else (arrearsref04_Read.j4 k x4 x6 x7 x8 x9 (decide ((bt x6 x9) > 57)))) else (none)) else (if x8 = true then (arrearsref04_Read.j5 k x4 x7 true) else (if x4 = true then (arrearsref04_Read.j5 k x4 x7 (decide (x7 > 9223372036854775808))) else (if x7 > 9223372036854775807 then (arrearsref04_Read.j5 k x4 x7 true) else (arrearsref04_Read.j5 k x4 x7 (decide (x7 > 9223372036854775808))))))
def arrearsref04_Read.j4 : Nat → Bool → ByteArray → Int → Bool → Int → Bool → Option (Int × Int)
  | 0, _, _, _, _, _, _ => none
  | k + 1, x4, x6, x7, x8, x9, x69 => if x69 = true then (some (0, 15)) else (if x7 > 922337203685477580 then (arrearsref04_Read.l0 k x4 x6 x7 true (wrap64 (x9 + 1))) else (if x8 = true then (arrearsref04_Read.l0 k x4 x6 x7 x8 (wrap64 (x9 + 1))) else (if 0 ≤ x9 then (if x9 < (x6.size : Int) then (arrearsref04_Read.l0 k x4 x6 (IntKind.u64.wrap ((IntKind.u64.wrap (10 * x7)) + (((bt x6 x9) - 48) % 256))) x8 (wrap64 (x9 + 1))) else (none)) else (none))))
def arrearsref04_Read.j5 : Nat → Bool → Int → Bool → Option (Int × Int)
  | 0, _, _, _ => none
  | k + 1, x4, x7, x94 => if x94 = true then (some (0, 12)) else (if x4 = true then (arrearsref04_Read.j6 k x4 x7 (x7 == 0)) else (arrearsref04_Read.j6 k x4 x7 false))
def arrearsref04_Read.j6 : Nat → Bool → Int → Bool → Option (Int × Int)
  | 0, _, _, _ => none
  | k + 1, x4, x7, x99 => if x99 = true then (some (0, 15)) else (if x4 = true then (some (wrap64 ((wrap64 (-(wrap64 (IntKind.u64.wrap (x7 - 1))))) - 1), 0)) else (some (wrap64 (x7), 0)))
end
def arrearsref04_Read.f (k : Nat) (a0 : ByteArray) : Option (Int × Int) := if (a0.size : Int) > 0 then (if 0 < (a0.size : Int) then (arrearsref04_Read.j0 k a0 ((bt a0 0) == 45)) else (none)) else (arrearsref04_Read.j0 k a0 false)
theorem arrearsref04_Read.mono_l : ∀ k, (∀ y0 y1, LeO (arrearsref04_Read.j0 k y0 y1) (arrearsref04_Read.j0 (k + 1) y0 y1)) ∧ (∀ y0 y1, LeO (arrearsref04_Read.j1 k y0 y1) (arrearsref04_Read.j1 (k + 1) y0 y1)) ∧ (∀ y0 y1 y2, LeO (arrearsref04_Read.j2 k y0 y1 y2) (arrearsref04_Read.j2 (k + 1) y0 y1 y2)) ∧ (∀ y0 y1 y2 y3 y4, LeO (arrearsref04_Read.l0 k y0 y1 y2 y3 y4) (arrearsref04_Read.l0 (k + 1) y0 y1 y2 y3 y4)) ∧ (∀ y0 y1 y2 y3 y4 y5, LeO (arrearsref04_Read.j4 k y0 y1 y2 y3 y4 y5) (arrearsref04_Read.j4 (k + 1) y0 y1 y2 y3 y4 y5)) ∧ (∀ y0 y1 y2, LeO (arrearsref04_Read.j5 k y0 y1 y2) (arrearsref04_Read.j5 (k + 1) y0 y1 y2)) ∧ (∀ y0 y1 y2, LeO (arrearsref04_Read.j6 k y0 y1 y2) (arrearsref04_Read.j6 (k + 1) y0 y1 y2))
  | 0 => ⟨fun _ _ r h => by simp [arrearsref04_Read.j0] at h, fun _ _ r h => by simp [arrearsref04_Read.j1] at h, fun _ _ _ r h => by simp [arrearsref04_Read.j2] at h, fun _ _ _ _ _ r h => by simp [arrearsref04_Read.l0] at h, fun _ _ _ _ _ _ r h => by simp [arrearsref04_Read.j4] at h, fun _ _ _ r h => by simp [arrearsref04_Read.j5] at h, fun _ _ _ r h => by simp [arrearsref04_Read.j6] at h⟩
  | k + 1 => by
    obtain ⟨ih0, ih1, ih2, ih3, ih4, ih5, ih6⟩ := arrearsref04_Read.mono_l k
    refine ⟨?_, ?_, ?_, ?_, ?_, ?_, ?_⟩
    · intro y0 y1
      unfold arrearsref04_Read.j0
      repeat' first
      | (with_reducible exact ih0 _ _)
      | (with_reducible exact ih1 _ _)
      | (with_reducible exact ih2 _ _ _)
      | (with_reducible exact ih3 _ _ _ _ _)
      | (with_reducible exact ih4 _ _ _ _ _ _)
      | (with_reducible exact ih5 _ _ _)
      | (with_reducible exact ih6 _ _ _)
      | (with_reducible exact LeO.refl _)
      | (with_reducible exact LeO.none _)
      | (with_reducible refine LeO.ite ?_ ?_)
      | (with_reducible refine LeO.bind ?_ (fun _ => ?_))
      | exact ih0 _ _
      | exact ih1 _ _
      | exact ih2 _ _ _
      | exact ih3 _ _ _ _ _
      | exact ih4 _ _ _ _ _ _
      | exact ih5 _ _ _
      | exact ih6 _ _ _
      | exact LeO.none _
      | refine LeO.ite ?_ ?_
      | refine LeO.bind ?_ (fun _ => ?_)
    · intro y0 y1
      unfold arrearsref04_Read.j1
      repeat' first
      | (with_reducible exact ih0 _ _)
      | (with_reducible exact ih1 _ _)
      | (with_reducible exact ih2 _ _ _)
      | (with_reducible exact ih3 _ _ _ _ _)
      | (with_reducible exact ih4 _ _ _ _ _ _)
      | (with_reducible exact ih5 _ _ _)
      | (with_reducible exact ih6 _ _ _)
      | (with_reducible exact LeO.refl _)
      | (with_reducible exact LeO.none _)
      | (with_reducible refine LeO.ite ?_ ?_)
      | (with_reducible refine LeO.bind ?_ (fun _ => ?_))
      | exact ih0 _ _
      | exact ih1 _ _
      | exact ih2 _ _ _
      | exact ih3 _ _ _ _ _
      | exact ih4 _ _ _ _ _ _
      | exact ih5 _ _ _
      | exact ih6 _ _ _
      | exact LeO.none _
      | refine LeO.ite ?_ ?_
      | refine LeO.bind ?_ (fun _ => ?_)
    · intro y0 y1 y2
      unfold arrearsref04_Read.j2
      repeat' first
      | (with_reducible exact ih0 _ _)
      | (with_reducible exact ih1 _ _)
      | (with_reducible exact ih2 _ _ _)
      | (with_reducible exact ih3 _ _ _ _ _)
      | (with_reducible exact ih4 _ _ _ _ _ _)
      | (with_reducible exact ih5 _ _ _)
      | (with_reducible exact ih6 _ _ _)
      | (with_reducible exact LeO.refl _)
      | (with_reducible exact LeO.none _)
      | (with_reducible refine LeO.ite ?_ ?_)
      | (with_reducible refine LeO.bind ?_ (fun _ => ?_))
      | exact ih0 _ _
      | exact ih1 _ _
      | exact ih2 _ _ _
      | exact ih3 _ _ _ _ _
      | exact ih4 _ _ _ _ _ _
      | exact ih5 _ _ _
      | exact ih6 _ _ _
      | exact LeO.none _
      | refine LeO.ite ?_ ?_
      | refine LeO.bind ?_ (fun _ => ?_)
    · intro y0 y1 y2 y3 y4
      unfold arrearsref04_Read.l0
      repeat' first
      | (with_reducible exact ih0 _ _)
      | (with_reducible exact ih1 _ _)
      | (with_reducible exact ih2 _ _ _)
      | (with_reducible exact ih3 _ _ _ _ _)
      | (with_reducible exact ih4 _ _ _ _ _ _)
      | (with_reducible exact ih5 _ _ _)
      | (with_reducible exact ih6 _ _ _)
      | (with_reducible exact LeO.refl _)
      | (with_reducible exact LeO.none _)
      | (with_reducible refine LeO.ite ?_ ?_)
      | (with_reducible refine LeO.bind ?_ (fun _ => ?_))
      | exact ih0 _ _
      | exact ih1 _ _
      | exact ih2 _ _ _
      | exact ih3 _ _ _ _ _
      | exact ih4 _ _ _ _ _ _
      | exact ih5 _ _ _
      | exact ih6 _ _ _
      | exact LeO.none _
      | refine LeO.ite ?_ ?_
      | refine LeO.bind ?_ (fun _ => ?_)
    · intro y0 y1 y2 y3 y4 y5
      unfold arrearsref04_Read.j4
      repeat' first
      | (with_reducible exact ih0 _ _)
      | (with_reducible exact ih1 _ _)
      | (with_reducible exact ih2 _ _ _)
      | (with_reducible exact ih3 _ _ _ _ _)
      | (with_reducible exact ih4 _ _ _ _ _ _)
      | (with_reducible exact ih5 _ _ _)
      | (with_reducible exact ih6 _ _ _)
      | (with_reducible exact LeO.refl _)
      | (with_reducible exact LeO.none _)
      | (with_reducible refine LeO.ite ?_ ?_)
      | (with_reducible refine LeO.bind ?_ (fun _ => ?_))
      | exact ih0 _ _
      | exact ih1 _ _
      | exact ih2 _ _ _
      | exact ih3 _ _ _ _ _
      | exact ih4 _ _ _ _ _ _
      | exact ih5 _ _ _
      | exact ih6 _ _ _
      | exact LeO.none _
      | refine LeO.ite ?_ ?_
      | refine LeO.bind ?_ (fun _ => ?_)
    · intro y0 y1 y2
      unfold arrearsref04_Read.j5
      repeat' first
      | (with_reducible exact ih0 _ _)
      | (with_reducible exact ih1 _ _)
      | (with_reducible exact ih2 _ _ _)
      | (with_reducible exact ih3 _ _ _ _ _)
      | (with_reducible exact ih4 _ _ _ _ _ _)
      | (with_reducible exact ih5 _ _ _)
      | (with_reducible exact ih6 _ _ _)
      | (with_reducible exact LeO.refl _)
      | (with_reducible exact LeO.none _)
      | (with_reducible refine LeO.ite ?_ ?_)
      | (with_reducible refine LeO.bind ?_ (fun _ => ?_))
      | exact ih0 _ _
      | exact ih1 _ _
      | exact ih2 _ _ _
      | exact ih3 _ _ _ _ _
      | exact ih4 _ _ _ _ _ _
      | exact ih5 _ _ _
      | exact ih6 _ _ _
      | exact LeO.none _
      | refine LeO.ite ?_ ?_
      | refine LeO.bind ?_ (fun _ => ?_)
    · intro y0 y1 y2
      unfold arrearsref04_Read.j6
      repeat' first
      | (with_reducible exact ih0 _ _)
      | (with_reducible exact ih1 _ _)
      | (with_reducible exact ih2 _ _ _)
      | (with_reducible exact ih3 _ _ _ _ _)
      | (with_reducible exact ih4 _ _ _ _ _ _)
      | (with_reducible exact ih5 _ _ _)
      | (with_reducible exact ih6 _ _ _)
      | (with_reducible exact LeO.refl _)
      | (with_reducible exact LeO.none _)
      | (with_reducible refine LeO.ite ?_ ?_)
      | (with_reducible refine LeO.bind ?_ (fun _ => ?_))
      | exact ih0 _ _
      | exact ih1 _ _
      | exact ih2 _ _ _
      | exact ih3 _ _ _ _ _
      | exact ih4 _ _ _ _ _ _
      | exact ih5 _ _ _
      | exact ih6 _ _ _
      | exact LeO.none _
      | refine LeO.ite ?_ ?_
      | refine LeO.bind ?_ (fun _ => ?_)
theorem arrearsref04_Read.mono : ∀ a0 k, LeO (arrearsref04_Read.f k a0) (arrearsref04_Read.f (k + 1) a0) := by
  intro a0 k
  obtain ⟨ih0, ih1, ih2, ih3, ih4, ih5, ih6⟩ := arrearsref04_Read.mono_l k
  unfold arrearsref04_Read.f
  repeat' first
      | (with_reducible exact ih0 _ _)
      | (with_reducible exact ih1 _ _)
      | (with_reducible exact ih2 _ _ _)
      | (with_reducible exact ih3 _ _ _ _ _)
      | (with_reducible exact ih4 _ _ _ _ _ _)
      | (with_reducible exact ih5 _ _ _)
      | (with_reducible exact ih6 _ _ _)
      | (with_reducible exact LeO.refl _)
      | (with_reducible exact LeO.none _)
      | (with_reducible refine LeO.ite ?_ ?_)
      | (with_reducible refine LeO.bind ?_ (fun _ => ?_))
      | exact ih0 _ _
      | exact ih1 _ _
      | exact ih2 _ _ _
      | exact ih3 _ _ _ _ _
      | exact ih4 _ _ _ _ _ _
      | exact ih5 _ _ _
      | exact ih6 _ _ _
      | exact LeO.none _
      | refine LeO.ite ?_ ?_
      | refine LeO.bind ?_ (fun _ => ?_)
set_option maxHeartbeats 8000000 in
set_option maxRecDepth 100000 in
theorem arrearsref04_Read.calls (k : Nat) (a0 : ByteArray) (r1 : Int) (r2 : Int) (w : World) (h : arrearsref04_Read.f k a0 = some (r1, r2)) :
    Calls Tryd.prog 16 #[.string a0] w fun e w' => e = .returned (.tuple #[.int .i64 r1, .int .i64 r2]) ∧ Drawn0 w w' := by
  have H : (if (a0.size : Int) > 0 then (if 0 < (a0.size : Int) then (arrearsref04_Read.j0 k a0 ((bt a0 0) == 45)) else (none)) else (arrearsref04_Read.j0 k a0 false)) = some (r1, r2) := h
  clear h
  have HC2 := Aside0.mk H
  clear H
  go_enter Tryd.func16, Tryd.ntmps16
  go_upto_region 1 with (fail)
  repeat (go_quiet (fail); go_upto_region 1 with (fail))
  go_cut [4] (fun v4 wc => ∃ (kq : Nat) (x4_1 : Bool), v4 = .bool x4_1 ∧ Aside0 (arrearsref04_Read.j0 kq a0 x4_1 = some (r1, r2)) ∧ Aside0 (kq ≤ k) ∧ Drawn0 w wc)
  case first =>
    have H := HC2.out
    clear HC2
    by_cases c3 : (a0.size : Int) > 0
    · rw [if_pos c3] at H
      have c3b0 : decide (0 < (a0.size : Int)) = true := decide_eq_true c3
      have c3b1 : decide (0 < a0.size) = true := decide_eq_true (by omega)
      clear c3
      (first | rw [c3b0] | (simp only [i64_w, i32_w]; rw [c3b0]) | skip)
      by_cases c4 : 0 < (a0.size : Int)
      · rw [if_pos c4] at H
        have c4b0 : decide (0 < (a0.size : Int)) = true := decide_eq_true c4
        have c4b1 : decide (0 < a0.size) = true := decide_eq_true (by omega)
        clear c4
        have H' := Aside0.mk H
        clear H
        have p5 : 0 ≤ (0 : Int) := (by omega)
        have q5 : 0 < a0.size := (by have : (0 : Int) < (a0.size : Int) := of_decide_eq_true (by first | (with_reducible assumption) | assumption); omega)
        have hx5 : ∀ h : 0 < a0.size, ((a0[0]'h).toNat : Int) = bt a0 0 := bt_at a0 0
        clear p5
        have qi5 : (0 < (a0.size : Int)) = True := eq_true (of_decide_eq_true (by first | (with_reducible assumption) | assumption))
        replace q5 := eq_true q5
        go_wp2
        repeat (go_quiet (fail); try go_wp2)
        go_meet
        case rel => exact ⟨_, (((bt a0 0) == 45)), (by first | rfl | (simp; done) | (simp [*]; done)), H', ⟨by first | omega | exact Nat.le_refl _⟩, by repeat (first | exact Drawn0.refl _ | apply Drawn0.step)⟩
      · rw [if_neg c4] at H
        exact absurd H (by simp)
    · rw [if_neg c3] at H
      have c3b0 : decide (0 < (a0.size : Int)) = false := decide_eq_false c3
      have c3b1 : decide (0 < a0.size) = false := decide_eq_false (by omega)
      clear c3
      (first | rw [c3b0] | (simp only [i64_w, i32_w]; rw [c3b0]) | skip)
      have H' := Aside0.mk H
      clear H
      go_wp2
      repeat (go_quiet (fail); try go_wp2)
      go_meet
      case rel => exact ⟨_, (false), (by first | rfl | (simp; done) | (simp [*]; done)), H', ⟨by first | omega | exact Nat.le_refl _⟩, by repeat (first | exact Drawn0.refl _ | apply Drawn0.step)⟩
  case rest =>
    clear HC2
    try clear c1
    try clear p2
    try clear c3
    try clear c3b0
    try clear c3b1
    try clear c4
    try clear c4b0
    try clear c4b1
    try clear p5
    try clear q5
    try clear hx5
    try clear qi5
    try clear p5
    try clear q5
    obtain ⟨kq, x4_1, rfl, HA, HJ1, ⟨mc1, rfl⟩⟩ := hcut
    cases kq with
    | zero => exact absurd HA.out (by simp [arrearsref04_Read.j0])
    | succ kj1 =>
      have H := HA.out
      clear HA
      simp only [arrearsref04_Read.j0] at H
      have HC6 := Aside0.mk H
      clear H
      go_upto_if 19 with (fail)
      repeat (go_quiet (fail); go_upto_if 19 with (fail))
      go_cut [5] (fun v5 wc => ∃ (kq : Nat) (x5_5 : ByteArray), v5 = .string x5_5 ∧ Aside0 (arrearsref04_Read.j1 kq x4_1 x5_5 = some (r1, r2)) ∧ Aside0 (kq ≤ kj1) ∧ Drawn0 w wc)
      case first =>
        have H := HC6.out
        clear HC6
        by_cases c7 : x4_1 = true
        · subst c7
          have H1 : (if 1 ≤ (a0.size : Int) then (arrearsref04_Read.j1 kj1 true (a0.extract 1 a0.size)) else (none)) = some (r1, r2) := by rw [if_pos rfl] at H; exact H
          clear H
          have H := H1
          clear H1
          by_cases c8 : 1 ≤ (a0.size : Int)
          · rw [if_pos c8] at H
            have c8b0 := eq_true c8
            have c8b1 : decide (1 ≤ (a0.size : Int)) = true := decide_eq_true c8
            clear c8
            have H' := Aside0.mk H
            clear H
            go_wp2
            repeat (go_quiet (fail); try go_wp2)
            go_meet
            case rel => exact ⟨_, (a0.extract 1 a0.size), (by first | rfl | (simp; done) | (simp [*]; done)), H', ⟨by have := HJ1.out; first | omega | exact Nat.le_refl _⟩, by repeat (first | exact Drawn0.refl _ | apply Drawn0.step)⟩
          · rw [if_neg c8] at H
            exact absurd H (by simp)
        · replace c7 := Bool.eq_false_iff.mpr c7
          subst c7
          have H1 : (arrearsref04_Read.j1 kj1 false a0) = some (r1, r2) := by rw [if_neg (show ¬ (false = true) by decide)] at H; exact H
          clear H
          have H := H1
          clear H1
          have H' := Aside0.mk H
          clear H
          go_wp2
          repeat (go_quiet (fail); try go_wp2)
          go_meet
          case rel => exact ⟨_, (a0), (by first | rfl | (simp; done) | (simp [*]; done)), H', ⟨by have := HJ1.out; first | omega | exact Nat.le_refl _⟩, by repeat (first | exact Drawn0.refl _ | apply Drawn0.step)⟩
      case rest =>
        clear HC6
        try clear c1
        try clear p2
        try clear c3
        try clear c3b0
        try clear c3b1
        try clear c4
        try clear c4b0
        try clear c4b1
        try clear p5
        try clear q5
        try clear hx5
        try clear qi5
        try clear c7
        try clear c8
        try clear c8b0
        try clear c8b1
        try clear p2
        try clear p5
        try clear q5
        obtain ⟨kq, x5_5, rfl, HA, HJ5, ⟨mc5, rfl⟩⟩ := hcut
        cases kq with
        | zero => exact absurd HA.out (by simp [arrearsref04_Read.j1])
        | succ kj5 =>
          have H := HA.out
          clear HA
          simp only [arrearsref04_Read.j1] at H
          have HC9 := Aside0.mk H
          clear H
          go_upto_region 5 with (fail)
          repeat (go_quiet (fail); go_upto_region 5 with (fail))
          go_cut [42] (fun v42 wc => ∃ (kq : Nat) (x42_8 : Bool), v42 = .bool x42_8 ∧ Aside0 (arrearsref04_Read.j2 kq x4_1 x5_5 x42_8 = some (r1, r2)) ∧ Aside0 (kq ≤ kj5) ∧ Drawn0 w wc)
          case first =>
            have H := HC9.out
            clear HC9
            by_cases c10 : (x5_5.size : Int) < 4
            · rw [if_pos c10] at H
              have c10b0 : decide ((x5_5.size : Int) < 4) = true := decide_eq_true c10
              have c10b1 : decide (x5_5.size < 4) = true := decide_eq_true (by omega)
              clear c10
              (first | rw [c10b0] | (simp only [i64_w, i32_w]; rw [c10b0]) | skip)
              have H' := Aside0.mk H
              clear H
              go_wp2
              repeat (go_quiet (fail); try go_wp2)
              go_meet
              case rel => exact ⟨_, (true), (by first | rfl | (simp; done) | (simp [*]; done)), H', ⟨by have := HJ1.out; have := HJ5.out; first | omega | exact Nat.le_refl _⟩, by repeat (first | exact Drawn0.refl _ | apply Drawn0.step)⟩
            · rw [if_neg c10] at H
              have c10b0 : decide ((x5_5.size : Int) < 4) = false := decide_eq_false c10
              have c10b1 : decide (x5_5.size < 4) = false := decide_eq_false (by omega)
              clear c10
              (first | rw [c10b0] | (simp only [i64_w, i32_w]; rw [c10b0]) | skip)
              obtain ⟨ji11, hji11⟩ : ∃ j_ : Int, (wrap64 ((x5_5.size : Int) - 3)) = j_ := ⟨_, rfl⟩
              replace H : (if 0 ≤ (ji11) then (if (ji11) < (x5_5.size : Int) then (if (bt x5_5 (ji11)) = 46 then (if 0 < (x5_5.size : Int) then (if (bt x5_5 0) = 48 then (arrearsref04_Read.j2 kj5 x4_1 x5_5 (decide ((x5_5.size : Int) > 4))) else (arrearsref04_Read.j2 kj5 x4_1 x5_5 false)) else (none)) else (arrearsref04_Read.j2 kj5 x4_1 x5_5 true)) else (none)) else (none)) = some (r1, r2) := by first | (rw [hji11] at H; exact H) | (simp only [hji11] at H ⊢; exact H)
              have hji11w : (IntKind.i64.wrap ((x5_5.size : Int) - 3)) = ji11 := (i64_w _).trans hji11
              by_cases c12 : 0 ≤ (ji11)
              · rw [if_pos c12] at H
                have c12b0 : decide (0 ≤ (ji11)) = true := decide_eq_true c12
                clear c12
                by_cases c13 : (ji11) < (x5_5.size : Int)
                · rw [if_pos c13] at H
                  have c13b0 : decide ((ji11) < (x5_5.size : Int)) = true := decide_eq_true c13
                  clear c13
                  by_cases c15 : (bt x5_5 (ji11)) = 46
                  · rw [if_pos c15] at H
                    have c15b0 : ((bt x5_5 (ji11)) == 46) = true := beq_iff_eq.mpr c15
                    have c15b1 : ((bt x5_5 (ji11)) != 46) = false := bne_eq_false_iff_eq.mpr c15
                    clear c15
                    by_cases c16 : 0 < (x5_5.size : Int)
                    · rw [if_pos c16] at H
                      have c16b0 : decide (0 < (x5_5.size : Int)) = true := decide_eq_true c16
                      have c16b1 : decide (0 < x5_5.size) = true := decide_eq_true (by omega)
                      clear c16
                      by_cases c18 : (bt x5_5 0) = 48
                      · rw [if_pos c18] at H
                        have c18b0 : ((bt x5_5 0) == 48) = true := beq_iff_eq.mpr c18
                        have c18b1 : ((bt x5_5 0) != 48) = false := bne_eq_false_iff_eq.mpr c18
                        clear c18
                        have H' := Aside0.mk H
                        clear H
                        have p14 : 0 ≤ ((ji11) : Int) := of_decide_eq_true (by first | (with_reducible assumption) | assumption)
                        have q14 : (ji11) < (x5_5.size : Int) := of_decide_eq_true (by first | (with_reducible assumption) | assumption)
                        have hx14 := bt_at x5_5 (ji11)
                        replace p14 := eq_true p14
                        replace q14 := eq_true q14
                        have p17 : 0 ≤ (0 : Int) := (by omega)
                        have q17 : 0 < x5_5.size := (by have : (0 : Int) < (x5_5.size : Int) := of_decide_eq_true (by first | (with_reducible assumption) | assumption); omega)
                        have hx17 : ∀ h : 0 < x5_5.size, ((x5_5[0]'h).toNat : Int) = bt x5_5 0 := bt_at x5_5 0
                        clear p17
                        have qi17 : (0 < (x5_5.size : Int)) = True := eq_true (of_decide_eq_true (by first | (with_reducible assumption) | assumption))
                        replace q17 := eq_true q17
                        go_wp2
                        repeat (go_quiet (fail); try go_wp2)
                        go_meet
                        case rel => exact ⟨_, (decide ((x5_5.size : Int) > 4)), (by first | rfl | (simp; done) | (simp [*]; done)), H', ⟨by have := HJ1.out; have := HJ5.out; first | omega | exact Nat.le_refl _⟩, by repeat (first | exact Drawn0.refl _ | apply Drawn0.step)⟩
                      · rw [if_neg c18] at H
                        have c18b0 : ((bt x5_5 0) == 48) = false := beq_eq_false_iff_ne.mpr c18
                        have c18b1 : ((bt x5_5 0) != 48) = true := bne_iff_ne.mpr c18
                        have H' := Aside0.mk H
                        clear H
                        have p14 : 0 ≤ ((ji11) : Int) := of_decide_eq_true (by first | (with_reducible assumption) | assumption)
                        have q14 : (ji11) < (x5_5.size : Int) := of_decide_eq_true (by first | (with_reducible assumption) | assumption)
                        have hx14 := bt_at x5_5 (ji11)
                        replace p14 := eq_true p14
                        replace q14 := eq_true q14
                        have p17 : 0 ≤ (0 : Int) := (by omega)
                        have q17 : 0 < x5_5.size := (by have : (0 : Int) < (x5_5.size : Int) := of_decide_eq_true (by first | (with_reducible assumption) | assumption); omega)
                        have hx17 : ∀ h : 0 < x5_5.size, ((x5_5[0]'h).toNat : Int) = bt x5_5 0 := bt_at x5_5 0
                        clear p17
                        have qi17 : (0 < (x5_5.size : Int)) = True := eq_true (of_decide_eq_true (by first | (with_reducible assumption) | assumption))
                        replace q17 := eq_true q17
                        go_wp2
                        repeat (go_quiet (fail); try go_wp2)
                        go_meet
                        case rel => exact ⟨_, (false), (by first | rfl | (simp; done) | (simp [*]; done)), H', ⟨by have := HJ1.out; have := HJ5.out; first | omega | exact Nat.le_refl _⟩, by repeat (first | exact Drawn0.refl _ | apply Drawn0.step)⟩
                    · rw [if_neg c16] at H
                      exact absurd H (by simp)
                  · rw [if_neg c15] at H
                    have c15b0 : ((bt x5_5 (ji11)) == 46) = false := beq_eq_false_iff_ne.mpr c15
                    have c15b1 : ((bt x5_5 (ji11)) != 46) = true := bne_iff_ne.mpr c15
                    have H' := Aside0.mk H
                    clear H
                    have p14 : 0 ≤ ((ji11) : Int) := of_decide_eq_true (by first | (with_reducible assumption) | assumption)
                    have q14 : (ji11) < (x5_5.size : Int) := of_decide_eq_true (by first | (with_reducible assumption) | assumption)
                    have hx14 := bt_at x5_5 (ji11)
                    replace p14 := eq_true p14
                    replace q14 := eq_true q14
                    go_wp2
                    repeat (go_quiet (fail); try go_wp2)
                    go_meet
                    case rel => exact ⟨_, (true), (by first | rfl | (simp; done) | (simp [*]; done)), H', ⟨by have := HJ1.out; have := HJ5.out; first | omega | exact Nat.le_refl _⟩, by repeat (first | exact Drawn0.refl _ | apply Drawn0.step)⟩
                · rw [if_neg c13] at H
                  exact absurd H (by simp)
              · rw [if_neg c12] at H
                exact absurd H (by simp)
          case rest =>
            clear HC9
            try clear c1
            try clear p1
            try clear q1
            try clear hx1
            try clear qi1
            try clear p2
            try clear c3
            try clear c3b0
            try clear c3b1
            try clear c4
            try clear c4b0
            try clear c4b1
            try clear c5
            try clear p5
            try clear q5
            try clear hx5
            try clear qi5
            try clear p6
            try clear c7
            try clear c8
            try clear c8b0
            try clear c8b1
            try clear c10
            try clear c10b0
            try clear c10b1
            try clear c12
            try clear c12b0
            try clear c13
            try clear c13b0
            try clear p14
            try clear q14
            try clear hx14
            try clear c15
            try clear c15b0
            try clear c15b1
            try clear c16
            try clear c16b0
            try clear c16b1
            try clear p17
            try clear q17
            try clear hx17
            try clear qi17
            try clear c18
            try clear c18b0
            try clear c18b1
            try clear p14
            try clear p17
            try clear p2
            try clear p5
            try clear q14
            try clear q17
            try clear q5
            obtain ⟨kq, x42_8, rfl, HA, HJ8, ⟨mc8, rfl⟩⟩ := hcut
            cases kq with
            | zero => exact absurd HA.out (by simp [arrearsref04_Read.j2])
            | succ kj8 =>
              have H := HA.out
              clear HA
              simp only [arrearsref04_Read.j2] at H
              by_cases c19 : x42_8 = true
              · subst c19
                have H1 : (some (0, 15)) = some (r1, r2) := by rw [if_pos rfl] at H; exact H
                clear H
                have H := H1
                clear H1
                simp only [Option.some.injEq, Prod.mk.injEq] at H
                obtain ⟨rfl, rfl⟩ := H
                go_wp2
                repeat (go_quiet (fail); try go_wp2)
                go_ret2
                exact ⟨by first | rfl | (simp; done) | (simp [*]; done), by repeat (first | exact Drawn0.refl _ | apply Drawn0.step)⟩
              · replace c19 := Bool.eq_false_iff.mpr c19
                subst c19
                have H1 : (if 0 ≤ (wrap64 ((x5_5.size : Int) - 3)) then (if (wrap64 ((x5_5.size : Int) - 3)) ≤ (x5_5.size : Int) then (if 0 ≤ (wrap64 ((x5_5.size : Int) - 2)) then (if (wrap64 ((x5_5.size : Int) - 2)) ≤ (x5_5.size : Int) then (if (x5_5.extract 0 ((wrap64 ((x5_5.size : Int) - 3)) : Int).toNat).size + (x5_5.extract ((wrap64 ((x5_5.size : Int) - 2)) : Int).toNat x5_5.size).size ≤ 9223372036854775807 then (arrearsref04_Read.l0 kj8 x4_1 ((x5_5.extract 0 ((wrap64 ((x5_5.size : Int) - 3)) : Int).toNat) ++ (x5_5.extract ((wrap64 ((x5_5.size : Int) - 2)) : Int).toNat x5_5.size)) 0 false 0) else (none)) else (none)) else (none)) else (none)) else (none)) = some (r1, r2) := by rw [if_neg (show ¬ (false = true) by decide)] at H; exact H
                clear H
                have H := H1
                clear H1
                obtain ⟨ji20, hji20⟩ : ∃ j_ : Int, (wrap64 ((x5_5.size : Int) - 3)) = j_ := ⟨_, rfl⟩
                replace H : (if 0 ≤ (ji20) then (if (ji20) ≤ (x5_5.size : Int) then (if 0 ≤ (wrap64 ((x5_5.size : Int) - 2)) then (if (wrap64 ((x5_5.size : Int) - 2)) ≤ (x5_5.size : Int) then (if (x5_5.extract 0 ((ji20) : Int).toNat).size + (x5_5.extract ((wrap64 ((x5_5.size : Int) - 2)) : Int).toNat x5_5.size).size ≤ 9223372036854775807 then (arrearsref04_Read.l0 kj8 x4_1 ((x5_5.extract 0 ((ji20) : Int).toNat) ++ (x5_5.extract ((wrap64 ((x5_5.size : Int) - 2)) : Int).toNat x5_5.size)) 0 false 0) else (none)) else (none)) else (none)) else (none)) else (none)) = some (r1, r2) := by first | (rw [hji20] at H; exact H) | (simp only [hji20] at H ⊢; exact H)
                have hji20w : (IntKind.i64.wrap ((x5_5.size : Int) - 3)) = ji20 := (i64_w _).trans hji20
                by_cases c21 : 0 ≤ (ji20)
                · rw [if_pos c21] at H
                  have c21b0 := eq_true c21
                  have c21b1 : decide (0 ≤ (ji20)) = true := decide_eq_true c21
                  clear c21
                  by_cases c22 : (ji20) ≤ (x5_5.size : Int)
                  · rw [if_pos c22] at H
                    have c22b0 := eq_true c22
                    have c22b1 : decide ((ji20) ≤ (x5_5.size : Int)) = true := decide_eq_true c22
                    clear c22
                    obtain ⟨ji23, hji23⟩ : ∃ j_ : Int, (wrap64 ((x5_5.size : Int) - 2)) = j_ := ⟨_, rfl⟩
                    replace H : (if 0 ≤ (ji23) then (if (ji23) ≤ (x5_5.size : Int) then (if (x5_5.extract 0 ((ji20) : Int).toNat).size + (x5_5.extract ((ji23) : Int).toNat x5_5.size).size ≤ 9223372036854775807 then (arrearsref04_Read.l0 kj8 x4_1 ((x5_5.extract 0 ((ji20) : Int).toNat) ++ (x5_5.extract ((ji23) : Int).toNat x5_5.size)) 0 false 0) else (none)) else (none)) else (none)) = some (r1, r2) := by first | (rw [hji23] at H; exact H) | (simp only [hji23] at H ⊢; exact H)
                    have hji23w : (IntKind.i64.wrap ((x5_5.size : Int) - 2)) = ji23 := (i64_w _).trans hji23
                    by_cases c24 : 0 ≤ (ji23)
                    · rw [if_pos c24] at H
                      have c24b0 := eq_true c24
                      have c24b1 : decide (0 ≤ (ji23)) = true := decide_eq_true c24
                      clear c24
                      by_cases c25 : (ji23) ≤ (x5_5.size : Int)
                      · rw [if_pos c25] at H
                        have c25b0 := eq_true c25
                        have c25b1 : decide ((ji23) ≤ (x5_5.size : Int)) = true := decide_eq_true c25
                        clear c25
                        by_cases c26 : (x5_5.extract 0 ((ji20) : Int).toNat).size + (x5_5.extract ((ji23) : Int).toNat x5_5.size).size ≤ 9223372036854775807
                        · rw [if_pos c26] at H
                          have c26b0 := eq_true c26
                          have c26b1 : decide ((x5_5.extract 0 ((ji20) : Int).toNat).size + (x5_5.extract ((ji23) : Int).toNat x5_5.size).size ≤ 9223372036854775807) = true := decide_eq_true c26
                          try have c26b2 : (9223372036854775807 < (x5_5.extract 0 ((ji20) : Int).toNat).size + (x5_5.extract ((ji23) : Int).toNat x5_5.size).size) = False := eq_false (Nat.not_lt.2 c26)
                          have H' := Aside0.mk H
                          clear H
                          go_wp2
                          repeat (go_quiet (fail); try go_wp2)
                          have hH_ := H'.out
                          clear H'
                          generalize hdg_ : ((x5_5.extract 0 ((ji20) : Int).toNat) ++ (x5_5.extract ((ji23) : Int).toNat x5_5.size)) = dg_ at hH_ ⊢
                          have H' := Aside0.mk hH_
                          clear hH_ hdg_
                          go_loopg [7, 8, 9] kj8 (fun kq v7 v8 v9 w' => ∃ (x7_4 : Int) (x8_4 : Bool) (x9_4 : Int), v7 = .int .u64 x7_4 ∧ v8 = .bool x8_4 ∧ v9 = .int .i64 x9_4 ∧ Aside0 (arrearsref04_Read.l0 kq x4_1 dg_ x7_4 x8_4 x9_4 = some (r1, r2)) ∧ Aside0 (kq ≤ kj8) ∧ Drawn0 w w')
                          case atStart => exact ⟨(0), (false), (0), (by first | rfl | (simp; done) | (simp [*]; done)), (by first | rfl | (simp; done) | (simp [*]; done)), (by first | rfl | (simp; done) | (simp [*]; done)), H', ⟨Nat.le_refl _⟩, by repeat (first | exact Drawn0.refl _ | apply Drawn0.step)⟩
                          case round =>
                            clear H'
                            try clear c1
                            try clear p1
                            try clear q1
                            try clear hx1
                            try clear qi1
                            try clear c2
                            try clear p2
                            try clear c3
                            try clear c3b0
                            try clear c3b1
                            try clear c4
                            try clear c4b0
                            try clear c4b1
                            try clear c5
                            try clear p5
                            try clear q5
                            try clear hx5
                            try clear qi5
                            try clear p6
                            try clear c7
                            try clear c8
                            try clear c8b0
                            try clear c8b1
                            try clear c10
                            try clear c10b0
                            try clear c10b1
                            try clear c12
                            try clear c12b0
                            try clear c13
                            try clear c13b0
                            try clear p14
                            try clear q14
                            try clear hx14
                            try clear c15
                            try clear c15b0
                            try clear c15b1
                            try clear c16
                            try clear c16b0
                            try clear c16b1
                            try clear p17
                            try clear q17
                            try clear hx17
                            try clear qi17
                            try clear c18
                            try clear c18b0
                            try clear c18b1
                            try clear c19
                            try clear c21
                            try clear c21b0
                            try clear c21b1
                            try clear c22
                            try clear c22b0
                            try clear c22b1
                            try clear c24
                            try clear c24b0
                            try clear c24b1
                            try clear c25
                            try clear c25b0
                            try clear c25b1
                            try clear c26
                            try clear c26b0
                            try clear c26b1
                            try clear c26b2
                            try clear p1
                            try clear p14
                            try clear p17
                            try clear p2
                            try clear p5
                            try clear p6
                            try clear q1
                            try clear q14
                            try clear q17
                            try clear q5
                            obtain ⟨x7_4, x8_4, x9_4, rfl, rfl, rfl, HA, HK4, ⟨m4, rfl⟩⟩ := hrel
                            cases gk with
                            | zero => exact absurd HA.out (by simp [arrearsref04_Read.l0])
                            | succ k4 =>
                              have H := HA.out
                              clear HA
                              simp only [arrearsref04_Read.l0] at H
                              by_cases c27 : x9_4 < (dg_.size : Int)
                              · rw [if_pos c27] at H
                                have c27b0 : decide (x9_4 < (dg_.size : Int)) = true := decide_eq_true c27
                                clear c27
                                have HC28 := Aside0.mk H
                                clear H
                                go_upto_region 12 with (fail)
                                repeat (go_quiet (fail); go_upto_region 12 with (fail))
                                go_cut [69] (fun v69 wc => ∃ (kq : Nat) (x69_27 : Bool), v69 = .bool x69_27 ∧ Aside0 (arrearsref04_Read.j4 kq x4_1 dg_ x7_4 x8_4 x9_4 x69_27 = some (r1, r2)) ∧ Aside0 (kq ≤ k4) ∧ Drawn0 w wc)
                                case first =>
                                  have H := HC28.out
                                  clear HC28
                                  by_cases c29 : 0 ≤ x9_4
                                  · rw [if_pos c29] at H
                                    have c29b0 : decide (0 ≤ x9_4) = true := decide_eq_true c29
                                    clear c29
                                    (first | rw [c29b0] | (simp only [i64_w, i32_w]; rw [c29b0]) | skip)
                                    by_cases c31 : (bt dg_ x9_4) < 48
                                    · rw [if_pos c31] at H
                                      have c31b0 : decide ((bt dg_ x9_4) < 48) = true := decide_eq_true c31
                                      clear c31
                                      have H' := Aside0.mk H
                                      clear H
                                      have p30 : 0 ≤ (x9_4 : Int) := of_decide_eq_true (by first | (with_reducible assumption) | assumption)
                                      have q30 : x9_4 < (dg_.size : Int) := of_decide_eq_true (by first | (with_reducible assumption) | assumption)
                                      have hx30 := bt_at dg_ x9_4
                                      replace p30 := eq_true p30
                                      replace q30 := eq_true q30
                                      go_wp2
                                      repeat (go_quiet (fail); try go_wp2)
                                      go_meet
                                      case rel => exact ⟨_, (true), (by first | rfl | (simp; done) | (simp [*]; done)), H', ⟨by have := HJ1.out; have := HJ5.out; have := HJ8.out; have := HK4.out; first | omega | exact Nat.le_refl _⟩, by repeat (first | exact Drawn0.refl _ | apply Drawn0.step)⟩
                                    · rw [if_neg c31] at H
                                      have c31b0 : decide ((bt dg_ x9_4) < 48) = false := decide_eq_false c31
                                      clear c31
                                      have H' := Aside0.mk H
                                      clear H
                                      have p30 : 0 ≤ (x9_4 : Int) := of_decide_eq_true (by first | (with_reducible assumption) | assumption)
                                      have q30 : x9_4 < (dg_.size : Int) := of_decide_eq_true (by first | (with_reducible assumption) | assumption)
                                      have hx30 := bt_at dg_ x9_4
                                      replace p30 := eq_true p30
                                      replace q30 := eq_true q30
                                      have p32 : 0 ≤ (x9_4 : Int) := of_decide_eq_true (by first | (with_reducible assumption) | assumption)
                                      have q32 : x9_4 < (dg_.size : Int) := of_decide_eq_true (by first | (with_reducible assumption) | assumption)
                                      have hx32 := bt_at dg_ x9_4
                                      replace p32 := eq_true p32
                                      replace q32 := eq_true q32
                                      go_wp2
                                      repeat (go_quiet (fail); try go_wp2)
                                      go_meet
                                      case rel => exact ⟨_, (decide ((bt dg_ x9_4) > 57)), (by first | rfl | (simp; done) | (simp only [← hji20, ← hji23] <;> (first | rfl | simp)) | (simp [*]; done)), H', ⟨by have := HJ1.out; have := HJ5.out; have := HJ8.out; have := HK4.out; first | omega | exact Nat.le_refl _⟩, by repeat (first | exact Drawn0.refl _ | apply Drawn0.step)⟩
                                  · rw [if_neg c29] at H
                                    exact absurd H (by simp)
                                case rest =>
                                  clear HC28
                                  try clear c1
                                  try clear p1
                                  try clear q1
                                  try clear hx1
                                  try clear qi1
                                  try clear c2
                                  try clear p2
                                  try clear c3
                                  try clear c3b0
                                  try clear c3b1
                                  try clear p3
                                  try clear q3
                                  try clear hx3
                                  try clear c4
                                  try clear c4b0
                                  try clear c4b1
                                  try clear c5
                                  try clear p5
                                  try clear q5
                                  try clear hx5
                                  try clear qi5
                                  try clear p6
                                  try clear c7
                                  try clear c8
                                  try clear c8b0
                                  try clear c8b1
                                  try clear c10
                                  try clear c10b0
                                  try clear c10b1
                                  try clear c12
                                  try clear c12b0
                                  try clear c13
                                  try clear c13b0
                                  try clear p14
                                  try clear q14
                                  try clear hx14
                                  try clear c15
                                  try clear c15b0
                                  try clear c15b1
                                  try clear c16
                                  try clear c16b0
                                  try clear c16b1
                                  try clear p17
                                  try clear q17
                                  try clear hx17
                                  try clear qi17
                                  try clear c18
                                  try clear c18b0
                                  try clear c18b1
                                  try clear c19
                                  try clear c21
                                  try clear c21b0
                                  try clear c21b1
                                  try clear c22
                                  try clear c22b0
                                  try clear c22b1
                                  try clear c24
                                  try clear c24b0
                                  try clear c24b1
                                  try clear c25
                                  try clear c25b0
                                  try clear c25b1
                                  try clear c26
                                  try clear c26b0
                                  try clear c26b1
                                  try clear c26b2
                                  try clear c27
                                  try clear c27b0
                                  try clear c29
                                  try clear c29b0
                                  try clear p30
                                  try clear q30
                                  try clear hx30
                                  try clear c31
                                  try clear c31b0
                                  try clear p32
                                  try clear q32
                                  try clear hx32
                                  try clear p1
                                  try clear p14
                                  try clear p17
                                  try clear p2
                                  try clear p30
                                  try clear p32
                                  try clear p5
                                  try clear p6
                                  try clear q1
                                  try clear q14
                                  try clear q17
                                  try clear q30
                                  try clear q32
                                  try clear q5
                                  obtain ⟨kq, x69_27, rfl, HA, HJ27, ⟨mc27, rfl⟩⟩ := hcut
                                  cases kq with
                                  | zero => exact absurd HA.out (by simp [arrearsref04_Read.j4])
                                  | succ kj27 =>
                                    have H := HA.out
                                    clear HA
                                    simp only [arrearsref04_Read.j4] at H
                                    by_cases c33 : x69_27 = true
                                    · subst c33
                                      have H1 : (some (0, 15)) = some (r1, r2) := by rw [if_pos rfl] at H; exact H
                                      clear H
                                      have H := H1
                                      clear H1
                                      simp only [Option.some.injEq, Prod.mk.injEq] at H
                                      obtain ⟨rfl, rfl⟩ := H
                                      go_wp2
                                      repeat (go_quiet (fail); try go_wp2)
                                      go_ret2
                                      exact ⟨by first | rfl | (simp; done) | (simp only [← hji20, ← hji23] <;> (first | rfl | simp)) | (simp [*]; done), by repeat (first | exact Drawn0.refl _ | apply Drawn0.step)⟩
                                    · replace c33 := Bool.eq_false_iff.mpr c33
                                      subst c33
                                      have H1 : (if x7_4 > 922337203685477580 then (arrearsref04_Read.l0 kj27 x4_1 dg_ x7_4 true (wrap64 (x9_4 + 1))) else (if x8_4 = true then (arrearsref04_Read.l0 kj27 x4_1 dg_ x7_4 x8_4 (wrap64 (x9_4 + 1))) else (if 0 ≤ x9_4 then (if x9_4 < (dg_.size : Int) then (arrearsref04_Read.l0 kj27 x4_1 dg_ (IntKind.u64.wrap ((IntKind.u64.wrap (10 * x7_4)) + (((bt dg_ x9_4) - 48) % 256))) x8_4 (wrap64 (x9_4 + 1))) else (none)) else (none)))) = some (r1, r2) := by rw [if_neg (show ¬ (false = true) by decide)] at H; exact H
                                      clear H
                                      have H := H1
                                      clear H1
                                      by_cases c34 : x7_4 > 922337203685477580
                                      · rw [if_pos c34] at H
                                        have c34b0 : decide (922337203685477580 < x7_4) = true := decide_eq_true c34
                                        clear c34
                                        have H' := Aside0.mk H
                                        clear H
                                        go_wp2
                                        repeat (go_quiet (fail); try go_wp2)
                                        go_roundg kj27
                                        case measure => have := HJ1.out; have := HJ5.out; have := HJ8.out; have := HK4.out; have := HJ27.out; omega
                                        case rel => exact ⟨(x7_4), (true), (wrap64 (x9_4 + 1)), (by first | rfl | (simp; done) | (simp [*]; done)), (by first | rfl | (simp; done) | (simp [*]; done)), (by first | rfl | (simp; done) | (simp [*]; done)), H', ⟨by have := HJ1.out; have := HJ5.out; have := HJ8.out; have := HK4.out; have := HJ27.out; omega⟩, by repeat (first | exact Drawn0.refl _ | apply Drawn0.step)⟩
                                      · rw [if_neg c34] at H
                                        have c34b0 : decide (922337203685477580 < x7_4) = false := decide_eq_false c34
                                        clear c34
                                        by_cases c35 : x8_4 = true
                                        · subst c35
                                          have H1 : (arrearsref04_Read.l0 kj27 x4_1 dg_ x7_4 true (wrap64 (x9_4 + 1))) = some (r1, r2) := by rw [if_pos rfl] at H; exact H
                                          clear H
                                          have H := H1
                                          clear H1
                                          have H' := Aside0.mk H
                                          clear H
                                          go_wp2
                                          repeat (go_quiet (fail); try go_wp2)
                                          go_roundg kj27
                                          case measure => have := HJ1.out; have := HJ5.out; have := HJ8.out; have := HK4.out; have := HJ27.out; omega
                                          case rel => exact ⟨(x7_4), (true), (wrap64 (x9_4 + 1)), (by first | rfl | (simp; done) | (simp [*]; done)), (by first | rfl | (simp; done) | (simp [*]; done)), (by first | rfl | (simp; done) | (simp [*]; done)), H', ⟨by have := HJ1.out; have := HJ5.out; have := HJ8.out; have := HK4.out; have := HJ27.out; omega⟩, by repeat (first | exact Drawn0.refl _ | apply Drawn0.step)⟩
                                        · replace c35 := Bool.eq_false_iff.mpr c35
                                          subst c35
                                          have H1 : (if 0 ≤ x9_4 then (if x9_4 < (dg_.size : Int) then (arrearsref04_Read.l0 kj27 x4_1 dg_ (IntKind.u64.wrap ((IntKind.u64.wrap (10 * x7_4)) + (((bt dg_ x9_4) - 48) % 256))) false (wrap64 (x9_4 + 1))) else (none)) else (none)) = some (r1, r2) := by rw [if_neg (show ¬ (false = true) by decide)] at H; exact H
                                          clear H
                                          have H := H1
                                          clear H1
                                          by_cases c36 : 0 ≤ x9_4
                                          · rw [if_pos c36] at H
                                            have c36b0 : decide (0 ≤ x9_4) = true := decide_eq_true c36
                                            clear c36
                                            by_cases c37 : x9_4 < (dg_.size : Int)
                                            · rw [if_pos c37] at H
                                              have c37b0 : decide (x9_4 < (dg_.size : Int)) = true := decide_eq_true c37
                                              clear c37
                                              have H' := Aside0.mk H
                                              clear H
                                              have p38 : 0 ≤ (x9_4 : Int) := of_decide_eq_true (by first | (with_reducible assumption) | assumption)
                                              have q38 : x9_4 < (dg_.size : Int) := of_decide_eq_true (by first | (with_reducible assumption) | assumption)
                                              have hx38 := bt_at dg_ x9_4
                                              replace p38 := eq_true p38
                                              replace q38 := eq_true q38
                                              go_wp2
                                              repeat (go_quiet (fail); try go_wp2)
                                              go_roundg kj27
                                              case measure => have := HJ1.out; have := HJ5.out; have := HJ8.out; have := HK4.out; have := HJ27.out; omega
                                              case rel => exact ⟨(IntKind.u64.wrap ((IntKind.u64.wrap (10 * x7_4)) + (((bt dg_ x9_4) - 48) % 256))), (false), (wrap64 (x9_4 + 1)), (by first | rfl | (simp; done) | (simp only [← hji20, ← hji23] <;> (first | rfl | simp)) | (simp [*]; done)), (by first | rfl | (simp; done) | (simp [*]; done)), (by first | rfl | (simp; done) | (simp [*]; done)), H', ⟨by have := HJ1.out; have := HJ5.out; have := HJ8.out; have := HK4.out; have := HJ27.out; omega⟩, by repeat (first | exact Drawn0.refl _ | apply Drawn0.step)⟩
                                            · rw [if_neg c37] at H
                                              exact absurd H (by simp)
                                          · rw [if_neg c36] at H
                                            exact absurd H (by simp)
                              · rw [if_neg c27] at H
                                have c27b0 : decide (x9_4 < (dg_.size : Int)) = false := decide_eq_false c27
                                clear c27
                                have HC39 := Aside0.mk H
                                clear H
                                go_upto_region 18 with (fail)
                                repeat (go_quiet (fail); go_upto_region 18 with (fail))
                                go_cut [94] (fun v94 wc => ∃ (kq : Nat) (x94_38 : Bool), v94 = .bool x94_38 ∧ Aside0 (arrearsref04_Read.j5 kq x4_1 x7_4 x94_38 = some (r1, r2)) ∧ Aside0 (kq ≤ k4) ∧ Drawn0 w wc)
                                case first =>
                                  have H := HC39.out
                                  clear HC39
                                  by_cases c40 : x8_4 = true
                                  · subst c40
                                    have H1 : (arrearsref04_Read.j5 k4 x4_1 x7_4 true) = some (r1, r2) := by rw [if_pos rfl] at H; exact H
                                    clear H
                                    have H := H1
                                    clear H1
                                    have H' := Aside0.mk H
                                    clear H
                                    go_wp2
                                    repeat (go_quiet (fail); try go_wp2)
                                    go_meet
                                    case rel => exact ⟨_, (true), (by first | rfl | (simp; done) | (simp [*]; done)), H', ⟨by have := HJ1.out; have := HJ5.out; have := HJ8.out; have := HK4.out; first | omega | exact Nat.le_refl _⟩, by repeat (first | exact Drawn0.refl _ | apply Drawn0.step)⟩
                                  · replace c40 := Bool.eq_false_iff.mpr c40
                                    subst c40
                                    have H1 : (if x4_1 = true then (arrearsref04_Read.j5 k4 x4_1 x7_4 (decide (x7_4 > 9223372036854775808))) else (if x7_4 > 9223372036854775807 then (arrearsref04_Read.j5 k4 x4_1 x7_4 true) else (arrearsref04_Read.j5 k4 x4_1 x7_4 (decide (x7_4 > 9223372036854775808))))) = some (r1, r2) := by rw [if_neg (show ¬ (false = true) by decide)] at H; exact H
                                    clear H
                                    have H := H1
                                    clear H1
                                    by_cases c41 : x4_1 = true
                                    · subst c41
                                      have H1 : (arrearsref04_Read.j5 k4 true x7_4 (decide (x7_4 > 9223372036854775808))) = some (r1, r2) := by rw [if_pos rfl] at H; exact H
                                      clear H
                                      have H := H1
                                      clear H1
                                      have H' := Aside0.mk H
                                      clear H
                                      go_wp2
                                      repeat (go_quiet (fail); try go_wp2)
                                      go_meet
                                      case rel => exact ⟨_, (decide (x7_4 > 9223372036854775808)), (by first | rfl | (simp; done) | (simp [*]; done)), H', ⟨by have := HJ1.out; have := HJ5.out; have := HJ8.out; have := HK4.out; first | omega | exact Nat.le_refl _⟩, by repeat (first | exact Drawn0.refl _ | apply Drawn0.step)⟩
                                    · replace c41 := Bool.eq_false_iff.mpr c41
                                      subst c41
                                      have H1 : (if x7_4 > 9223372036854775807 then (arrearsref04_Read.j5 k4 false x7_4 true) else (arrearsref04_Read.j5 k4 false x7_4 (decide (x7_4 > 9223372036854775808)))) = some (r1, r2) := by rw [if_neg (show ¬ (false = true) by decide)] at H; exact H
                                      clear H
                                      have H := H1
                                      clear H1
                                      by_cases c42 : x7_4 > 9223372036854775807
                                      · rw [if_pos c42] at H
                                        have c42b0 : decide (9223372036854775807 < x7_4) = true := decide_eq_true c42
                                        clear c42
                                        (first | rw [c42b0] | (simp only [i64_w, i32_w]; rw [c42b0]) | skip)
                                        have H' := Aside0.mk H
                                        clear H
                                        go_wp2
                                        repeat (go_quiet (fail); try go_wp2)
                                        go_meet
                                        case rel => exact ⟨_, (true), (by first | rfl | (simp; done) | (simp [*]; done)), H', ⟨by have := HJ1.out; have := HJ5.out; have := HJ8.out; have := HK4.out; first | omega | exact Nat.le_refl _⟩, by repeat (first | exact Drawn0.refl _ | apply Drawn0.step)⟩
                                      · rw [if_neg c42] at H
                                        have c42b0 : decide (9223372036854775807 < x7_4) = false := decide_eq_false c42
                                        clear c42
                                        (first | rw [c42b0] | (simp only [i64_w, i32_w]; rw [c42b0]) | skip)
                                        have H' := Aside0.mk H
                                        clear H
                                        go_wp2
                                        repeat (go_quiet (fail); try go_wp2)
                                        go_meet
                                        case rel => exact ⟨_, (decide (x7_4 > 9223372036854775808)), (by first | rfl | (simp; done) | (simp [*]; done)), H', ⟨by have := HJ1.out; have := HJ5.out; have := HJ8.out; have := HK4.out; first | omega | exact Nat.le_refl _⟩, by repeat (first | exact Drawn0.refl _ | apply Drawn0.step)⟩
                                case rest =>
                                  clear HC39
                                  try clear c1
                                  try clear p1
                                  try clear q1
                                  try clear hx1
                                  try clear qi1
                                  try clear c2
                                  try clear p2
                                  try clear c3
                                  try clear c3b0
                                  try clear c3b1
                                  try clear p3
                                  try clear q3
                                  try clear hx3
                                  try clear c4
                                  try clear c4b0
                                  try clear c4b1
                                  try clear c5
                                  try clear p5
                                  try clear q5
                                  try clear hx5
                                  try clear qi5
                                  try clear p6
                                  try clear c7
                                  try clear c8
                                  try clear c8b0
                                  try clear c8b1
                                  try clear c10
                                  try clear c10b0
                                  try clear c10b1
                                  try clear c12
                                  try clear c12b0
                                  try clear c13
                                  try clear c13b0
                                  try clear p14
                                  try clear q14
                                  try clear hx14
                                  try clear c15
                                  try clear c15b0
                                  try clear c15b1
                                  try clear c16
                                  try clear c16b0
                                  try clear c16b1
                                  try clear p17
                                  try clear q17
                                  try clear hx17
                                  try clear qi17
                                  try clear c18
                                  try clear c18b0
                                  try clear c18b1
                                  try clear c19
                                  try clear c21
                                  try clear c21b0
                                  try clear c21b1
                                  try clear c22
                                  try clear c22b0
                                  try clear c22b1
                                  try clear c24
                                  try clear c24b0
                                  try clear c24b1
                                  try clear c25
                                  try clear c25b0
                                  try clear c25b1
                                  try clear c26
                                  try clear c26b0
                                  try clear c26b1
                                  try clear c26b2
                                  try clear c27
                                  try clear c27b0
                                  try clear c29
                                  try clear c29b0
                                  try clear p30
                                  try clear q30
                                  try clear hx30
                                  try clear c31
                                  try clear c31b0
                                  try clear p32
                                  try clear q32
                                  try clear hx32
                                  try clear c33
                                  try clear c34
                                  try clear c34b0
                                  try clear c35
                                  try clear c36
                                  try clear c36b0
                                  try clear c37
                                  try clear c37b0
                                  try clear p38
                                  try clear q38
                                  try clear hx38
                                  try clear c40
                                  try clear c41
                                  try clear c42
                                  try clear c42b0
                                  try clear p1
                                  try clear p14
                                  try clear p17
                                  try clear p2
                                  try clear p3
                                  try clear p30
                                  try clear p32
                                  try clear p38
                                  try clear p5
                                  try clear p6
                                  try clear q1
                                  try clear q14
                                  try clear q17
                                  try clear q3
                                  try clear q30
                                  try clear q32
                                  try clear q38
                                  try clear q5
                                  obtain ⟨kq, x94_38, rfl, HA, HJ38, ⟨mc38, rfl⟩⟩ := hcut
                                  cases kq with
                                  | zero => exact absurd HA.out (by simp [arrearsref04_Read.j5])
                                  | succ kj38 =>
                                    have H := HA.out
                                    clear HA
                                    simp only [arrearsref04_Read.j5] at H
                                    by_cases c43 : x94_38 = true
                                    · subst c43
                                      have H1 : (some (0, 12)) = some (r1, r2) := by rw [if_pos rfl] at H; exact H
                                      clear H
                                      have H := H1
                                      clear H1
                                      simp only [Option.some.injEq, Prod.mk.injEq] at H
                                      obtain ⟨rfl, rfl⟩ := H
                                      go_wp2
                                      repeat (go_quiet (fail); try go_wp2)
                                      go_ret2
                                      exact ⟨by first | rfl | (simp; done) | (simp only [← hji20, ← hji23] <;> (first | rfl | simp)) | (simp [*]; done), by repeat (first | exact Drawn0.refl _ | apply Drawn0.step)⟩
                                    · replace c43 := Bool.eq_false_iff.mpr c43
                                      subst c43
                                      have H1 : (if x4_1 = true then (arrearsref04_Read.j6 kj38 x4_1 x7_4 (x7_4 == 0)) else (arrearsref04_Read.j6 kj38 x4_1 x7_4 false)) = some (r1, r2) := by rw [if_neg (show ¬ (false = true) by decide)] at H; exact H
                                      clear H
                                      have H := H1
                                      clear H1
                                      have HC44 := Aside0.mk H
                                      clear H
                                      go_upto_region 20 with (fail)
                                      repeat (go_quiet (fail); go_upto_region 20 with (fail))
                                      go_cut [99] (fun v99 wc => ∃ (kq : Nat) (x99_43 : Bool), v99 = .bool x99_43 ∧ Aside0 (arrearsref04_Read.j6 kq x4_1 x7_4 x99_43 = some (r1, r2)) ∧ Aside0 (kq ≤ kj38) ∧ Drawn0 w wc)
                                      case first =>
                                        have H := HC44.out
                                        clear HC44
                                        by_cases c45 : x4_1 = true
                                        · subst c45
                                          have H1 : (arrearsref04_Read.j6 kj38 true x7_4 (x7_4 == 0)) = some (r1, r2) := by rw [if_pos rfl] at H; exact H
                                          clear H
                                          have H := H1
                                          clear H1
                                          have H' := Aside0.mk H
                                          clear H
                                          go_wp2
                                          repeat (go_quiet (fail); try go_wp2)
                                          go_meet
                                          case rel => exact ⟨_, ((x7_4 == 0)), (by first | rfl | (simp; done) | (simp [*]; done)), H', ⟨by have := HJ1.out; have := HJ5.out; have := HJ8.out; have := HK4.out; have := HJ38.out; first | omega | exact Nat.le_refl _⟩, by repeat (first | exact Drawn0.refl _ | apply Drawn0.step)⟩
                                        · replace c45 := Bool.eq_false_iff.mpr c45
                                          subst c45
                                          have H1 : (arrearsref04_Read.j6 kj38 false x7_4 false) = some (r1, r2) := by rw [if_neg (show ¬ (false = true) by decide)] at H; exact H
                                          clear H
                                          have H := H1
                                          clear H1
                                          have H' := Aside0.mk H
                                          clear H
                                          go_wp2
                                          repeat (go_quiet (fail); try go_wp2)
                                          go_meet
                                          case rel => exact ⟨_, (false), (by first | rfl | (simp; done) | (simp [*]; done)), H', ⟨by have := HJ1.out; have := HJ5.out; have := HJ8.out; have := HK4.out; have := HJ38.out; first | omega | exact Nat.le_refl _⟩, by repeat (first | exact Drawn0.refl _ | apply Drawn0.step)⟩
                                      case rest =>
                                        clear HC44
                                        try clear c1
                                        try clear p1
                                        try clear q1
                                        try clear hx1
                                        try clear qi1
                                        try clear c2
                                        try clear p2
                                        try clear c3
                                        try clear c3b0
                                        try clear c3b1
                                        try clear p3
                                        try clear q3
                                        try clear hx3
                                        try clear c4
                                        try clear c4b0
                                        try clear c4b1
                                        try clear c5
                                        try clear p5
                                        try clear q5
                                        try clear hx5
                                        try clear qi5
                                        try clear p6
                                        try clear c7
                                        try clear c8
                                        try clear c8b0
                                        try clear c8b1
                                        try clear c10
                                        try clear c10b0
                                        try clear c10b1
                                        try clear c12
                                        try clear c12b0
                                        try clear c13
                                        try clear c13b0
                                        try clear p14
                                        try clear q14
                                        try clear hx14
                                        try clear c15
                                        try clear c15b0
                                        try clear c15b1
                                        try clear c16
                                        try clear c16b0
                                        try clear c16b1
                                        try clear p17
                                        try clear q17
                                        try clear hx17
                                        try clear qi17
                                        try clear c18
                                        try clear c18b0
                                        try clear c18b1
                                        try clear c19
                                        try clear c21
                                        try clear c21b0
                                        try clear c21b1
                                        try clear c22
                                        try clear c22b0
                                        try clear c22b1
                                        try clear c24
                                        try clear c24b0
                                        try clear c24b1
                                        try clear c25
                                        try clear c25b0
                                        try clear c25b1
                                        try clear c26
                                        try clear c26b0
                                        try clear c26b1
                                        try clear c26b2
                                        try clear c27
                                        try clear c27b0
                                        try clear c29
                                        try clear c29b0
                                        try clear p30
                                        try clear q30
                                        try clear hx30
                                        try clear c31
                                        try clear c31b0
                                        try clear p32
                                        try clear q32
                                        try clear hx32
                                        try clear c33
                                        try clear c34
                                        try clear c34b0
                                        try clear c35
                                        try clear c36
                                        try clear c36b0
                                        try clear c37
                                        try clear c37b0
                                        try clear c38
                                        try clear p38
                                        try clear q38
                                        try clear hx38
                                        try clear c40
                                        try clear c41
                                        try clear c42
                                        try clear c42b0
                                        try clear c43
                                        try clear c45
                                        try clear p1
                                        try clear p14
                                        try clear p17
                                        try clear p2
                                        try clear p3
                                        try clear p30
                                        try clear p32
                                        try clear p38
                                        try clear p5
                                        try clear p6
                                        try clear q1
                                        try clear q14
                                        try clear q17
                                        try clear q3
                                        try clear q30
                                        try clear q32
                                        try clear q38
                                        try clear q5
                                        obtain ⟨kq, x99_43, rfl, HA, HJ43, ⟨mc43, rfl⟩⟩ := hcut
                                        cases kq with
                                        | zero => exact absurd HA.out (by simp [arrearsref04_Read.j6])
                                        | succ kj43 =>
                                          have H := HA.out
                                          clear HA
                                          simp only [arrearsref04_Read.j6] at H
                                          by_cases c46 : x99_43 = true
                                          · subst c46
                                            have H1 : (some (0, 15)) = some (r1, r2) := by rw [if_pos rfl] at H; exact H
                                            clear H
                                            have H := H1
                                            clear H1
                                            simp only [Option.some.injEq, Prod.mk.injEq] at H
                                            obtain ⟨rfl, rfl⟩ := H
                                            go_wp2
                                            repeat (go_quiet (fail); try go_wp2)
                                            go_ret2
                                            exact ⟨by first | rfl | (simp; done) | (simp only [← hji20, ← hji23] <;> (first | rfl | simp)) | (simp [*]; done), by repeat (first | exact Drawn0.refl _ | apply Drawn0.step)⟩
                                          · replace c46 := Bool.eq_false_iff.mpr c46
                                            subst c46
                                            have H1 : (if x4_1 = true then (some (wrap64 ((wrap64 (-(wrap64 (IntKind.u64.wrap (x7_4 - 1))))) - 1), 0)) else (some (wrap64 (x7_4), 0))) = some (r1, r2) := by rw [if_neg (show ¬ (false = true) by decide)] at H; exact H
                                            clear H
                                            have H := H1
                                            clear H1
                                            by_cases c47 : x4_1 = true
                                            · subst c47
                                              have H1 : (some (wrap64 ((wrap64 (-(wrap64 (IntKind.u64.wrap (x7_4 - 1))))) - 1), 0)) = some (r1, r2) := by rw [if_pos rfl] at H; exact H
                                              clear H
                                              have H := H1
                                              clear H1
                                              simp only [Option.some.injEq, Prod.mk.injEq] at H
                                              obtain ⟨rfl, rfl⟩ := H
                                              go_wp2
                                              repeat (go_quiet (fail); try go_wp2)
                                              go_ret2
                                              exact ⟨by first | rfl | (simp; done) | (simp only [← hji20, ← hji23] <;> (first | rfl | simp)) | (simp [*]; done), by repeat (first | exact Drawn0.refl _ | apply Drawn0.step)⟩
                                            · replace c47 := Bool.eq_false_iff.mpr c47
                                              subst c47
                                              have H1 : (some (wrap64 (x7_4), 0)) = some (r1, r2) := by rw [if_neg (show ¬ (false = true) by decide)] at H; exact H
                                              clear H
                                              have H := H1
                                              clear H1
                                              simp only [Option.some.injEq, Prod.mk.injEq] at H
                                              obtain ⟨rfl, rfl⟩ := H
                                              go_wp2
                                              repeat (go_quiet (fail); try go_wp2)
                                              go_ret2
                                              exact ⟨by first | rfl | (simp; done) | (simp only [← hji20, ← hji23] <;> (first | rfl | simp)) | (simp [*]; done), by repeat (first | exact Drawn0.refl _ | apply Drawn0.step)⟩
                        · rw [if_neg c26] at H
                          exact absurd H (by simp)
                      · rw [if_neg c25] at H
                        exact absurd H (by simp)
                    · rw [if_neg c24] at H
                      exact absurd H (by simp)
                  · rw [if_neg c22] at H
                    exact absurd H (by simp)
                · rw [if_neg c21] at H
                  exact absurd H (by simp)

end Go.Proofs.YtkjofbdlholmbaaDoor.PCoinReads
