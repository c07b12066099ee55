-- Printed by a wrapper of this session's round the kit's print.py; Lean checks it.
import Derived.Test.YthokfepglahgpaaDoorPDueRollsx0
import Derived.Test.YthokfepglahgpaaDoorPDueRollsx3
import Derived.Test.YthokfepglahgpaaDoorPDueRollsx4
import Derived.Test.YthokfepglahgpaaDoorPDueRollsx6
namespace Go.Proofs.YthokfepglahgpaaDoor.PDueRolls
open Go.RowKit Go.Proofs.YthokfepglahgpaaDoorW.PrintWords Go.Proofs.YthokfepglahgpaaDoorW.PrintLast Go.Proofs.YthokfepglahgpaaDoorW.PrintMore
attribute [local go_sem] max2_int min2_int max_two min_two max_three min_three max_four min_four   -- for this text's walks alone
set_option linter.unusedVariables false
set_option linter.unusedSimpArgs false

/-! ### arrearslaw07_DueRolls: function 8 -/
def arrearslaw07_DueRolls.j0 : Nat → Int → Int → List Int → Int → Option Int → Int → Option Int → Bool → Option (Bool)
  | 0, _, _, _, _, _, _, _, _ => none
  | k + 1, x1, x2, x8, x9, x10, x11, x12, x49 => if x49 = true then ((api_Code.f x10).bind fun t215 => (if t215 = 1 then ((api_Code.f x12).bind fun t216 => (if t216 = 1 then (if x9 = 0 then (some (x11 == 0)) else (some false)) else (some false))) else (some false))) else ((arrearsref07_Plain.f k (wrap64 (x1)) x2).bind fun bt217 => (if bt217.2 = 0 then ((arrearsref07_Next.f k x8 bt217.1).bind fun t221 => (if x10.isNone = true then (if (wrap64 (x9)) = bt217.1 then (if x12.isNone = true then (if (true != (decide (t221 ≥ 0))) = true then (some false) else (if (wrap64 (x11)) = t221 then (some true) else (some false))) else (if (false != (decide (t221 ≥ 0))) = true then (some false) else ((api_Code.f (some (x12.getD 0))).bind fun t224 => (if t224 = 12 then (some (x11 == 0)) else (some false))))) else (some false)) else (some false))) else ((api_Code.f x10).bind fun t219 => (if t219 = bt217.2 then ((api_Code.f x12).bind fun t220 => (some (t220 == bt217.2))) else (some false)))))
def arrearslaw07_DueRolls.f (k : Nat) (l0 : List Int) (a1 : Int) (a2 : Int) : Option (Bool) := (arrearslaw07_awake.f k).bind fun t204 => (if t204 = true then ((arrearslaw07_few.f k l0).bind fun bt205 => ((due_Plain.f k a1 a2).bind fun bt211 => ((due_Rolled.f k bt205.1 a1 a2).bind fun bt213 => (if a1 < 0 then (arrearslaw07_DueRolls.j0 k a1 a2 bt205.2 bt211.1 bt211.2 bt213.1 bt213.2 true) else (if a1 > 3652058 then (arrearslaw07_DueRolls.j0 k a1 a2 bt205.2 bt211.1 bt211.2 bt213.1 bt213.2 true) else (if a2 < 0 then (arrearslaw07_DueRolls.j0 k a1 a2 bt205.2 bt211.1 bt211.2 bt213.1 bt213.2 true) else (arrearslaw07_DueRolls.j0 k a1 a2 bt205.2 bt211.1 bt211.2 bt213.1 bt213.2 (decide (a2 > 480))))))))) else (some false))
theorem arrearslaw07_DueRolls.mono_l : ∀ k, (∀ y0 y1 y2 y3 y4 y5 y6 y7, LeO (arrearslaw07_DueRolls.j0 k y0 y1 y2 y3 y4 y5 y6 y7) (arrearslaw07_DueRolls.j0 (k + 1) y0 y1 y2 y3 y4 y5 y6 y7))
  | 0 => fun _ _ _ _ _ _ _ _ r h => by simp [arrearslaw07_DueRolls.j0] at h
  | k + 1 => by
    have ih0 := arrearslaw07_DueRolls.mono_l k
    · intro y0 y1 y2 y3 y4 y5 y6 y7
      unfold arrearslaw07_DueRolls.j0
      repeat' first
      | (with_reducible exact ih0 _ _ _ _ _ _ _ _)
      | (with_reducible exact arrearslaw07_awake.mono _)
      | (with_reducible exact arrearslaw07_few.mono _ _)
      | (with_reducible exact arrearsref07_Next.mono _ _ _)
      | (with_reducible exact arrearsref07_Plain.mono _ _ _)
      | (with_reducible exact due_Plain.mono _ _ _)
      | (with_reducible exact due_Rolled.mono _ _ _ _)
      | (with_reducible exact LeO.refl _)
      | (with_reducible exact LeO.none _)
      | (with_reducible refine LeO.ite ?_ ?_)
      | (with_reducible refine LeO.bind ?_ (fun _ => ?_))
      | exact ih0 _ _ _ _ _ _ _ _
      | exact arrearslaw07_awake.mono _
      | exact arrearslaw07_few.mono _ _
      | exact arrearsref07_Next.mono _ _ _
      | exact arrearsref07_Plain.mono _ _ _
      | exact due_Plain.mono _ _ _
      | exact due_Rolled.mono _ _ _ _
      | exact LeO.none _
      | refine LeO.ite ?_ ?_
      | refine LeO.bind ?_ (fun _ => ?_)
theorem arrearslaw07_DueRolls.mono : ∀ a0 a1 a2 k, LeO (arrearslaw07_DueRolls.f k a0 a1 a2) (arrearslaw07_DueRolls.f (k + 1) a0 a1 a2) := by
  intro a0 a1 a2 k
  have ih0 := arrearslaw07_DueRolls.mono_l k
  unfold arrearslaw07_DueRolls.f
  repeat' first
      | (with_reducible exact ih0 _ _ _ _ _ _ _ _)
      | (with_reducible exact arrearslaw07_awake.mono _)
      | (with_reducible exact arrearslaw07_few.mono _ _)
      | (with_reducible exact arrearsref07_Next.mono _ _ _)
      | (with_reducible exact arrearsref07_Plain.mono _ _ _)
      | (with_reducible exact due_Plain.mono _ _ _)
      | (with_reducible exact due_Rolled.mono _ _ _ _)
      | (with_reducible exact LeO.refl _)
      | (with_reducible exact LeO.none _)
      | (with_reducible refine LeO.ite ?_ ?_)
      | (with_reducible refine LeO.bind ?_ (fun _ => ?_))
      | exact ih0 _ _ _ _ _ _ _ _
      | exact arrearslaw07_awake.mono _
      | exact arrearslaw07_few.mono _ _
      | exact arrearsref07_Next.mono _ _ _
      | exact arrearsref07_Plain.mono _ _ _
      | exact due_Plain.mono _ _ _
      | exact due_Rolled.mono _ _ _ _
      | exact LeO.none _
      | refine LeO.ite ?_ ?_
      | refine LeO.bind ?_ (fun _ => ?_)
set_option maxHeartbeats 8000000 in
set_option maxRecDepth 100000 in
theorem arrearslaw07_DueRolls.calls (k : Nat) (A0 : Option Addr) (c0 : Nat) (l0 : List Int) (a1 : Int) (a2 : Int) (r : Bool) (w : World) (hr0 : Kd.C (Kd.int .i32) w A0 l0.length l0) (hc0 : l0.length ≤ c0) (hG : Go.Proofs.YthokfepglahgpaaDoor.M.Laid w) (h : arrearslaw07_DueRolls.f k l0 a1 a2 = some r) (hr : r = true) :
    Calls Tryd.prog 8 #[.slice A0 l0.length c0, .int .i32 a1, .int .i64 a2] w fun e w' => e = .returned (.bool r) ∧ Below w.heap.size w w' := by
  have hu26 := Tryd.underlying26
  have hu45 := Tryd.underlying45
  have HR0 := Aside0.mk hr0
  have HC0 := Aside0.mk hc0
  clear hr0 hc0
  have HB := Aside0.mk (Below.refl w.heap.size w)
  have HG := Aside0.mk hG
  clear hG
  have HR := Aside0.mk hr
  clear hr
  have H : ((arrearslaw07_awake.f k).bind fun t204 => (if t204 = true then ((arrearslaw07_few.f k l0).bind fun bt205 => ((due_Plain.f k a1 a2).bind fun bt211 => ((due_Rolled.f k bt205.1 a1 a2).bind fun bt213 => (if a1 < 0 then (arrearslaw07_DueRolls.j0 k a1 a2 bt205.2 bt211.1 bt211.2 bt213.1 bt213.2 true) else (if a1 > 3652058 then (arrearslaw07_DueRolls.j0 k a1 a2 bt205.2 bt211.1 bt211.2 bt213.1 bt213.2 true) else (if a2 < 0 then (arrearslaw07_DueRolls.j0 k a1 a2 bt205.2 bt211.1 bt211.2 bt213.1 bt213.2 true) else (arrearslaw07_DueRolls.j0 k a1 a2 bt205.2 bt211.1 bt211.2 bt213.1 bt213.2 (decide (a2 > 480))))))))) else (some false))) = some r := h
  clear h
  replace H := Option.bind_eq_some_iff.mp H
  obtain ⟨t204, A40, H⟩ := H
  replace H : (if t204 = true then ((arrearslaw07_few.f k l0).bind fun bt205 => ((due_Plain.f k a1 a2).bind fun bt211 => ((due_Rolled.f k bt205.1 a1 a2).bind fun bt213 => (if a1 < 0 then (arrearslaw07_DueRolls.j0 k a1 a2 bt205.2 bt211.1 bt211.2 bt213.1 bt213.2 true) else (if a1 > 3652058 then (arrearslaw07_DueRolls.j0 k a1 a2 bt205.2 bt211.1 bt211.2 bt213.1 bt213.2 true) else (if a2 < 0 then (arrearslaw07_DueRolls.j0 k a1 a2 bt205.2 bt211.1 bt211.2 bt213.1 bt213.2 true) else (arrearslaw07_DueRolls.j0 k a1 a2 bt205.2 bt211.1 bt211.2 bt213.1 bt213.2 (decide (a2 > 480))))))))) else (some false)) = some r := H
  have A4 := Aside0.mk A40
  clear A40
  by_cases c5 : t204 = true
  · subst c5
    have H1 : ((arrearslaw07_few.f k l0).bind fun bt205 => ((due_Plain.f k a1 a2).bind fun bt211 => ((due_Rolled.f k bt205.1 a1 a2).bind fun bt213 => (if a1 < 0 then (arrearslaw07_DueRolls.j0 k a1 a2 bt205.2 bt211.1 bt211.2 bt213.1 bt213.2 true) else (if a1 > 3652058 then (arrearslaw07_DueRolls.j0 k a1 a2 bt205.2 bt211.1 bt211.2 bt213.1 bt213.2 true) else (if a2 < 0 then (arrearslaw07_DueRolls.j0 k a1 a2 bt205.2 bt211.1 bt211.2 bt213.1 bt213.2 true) else (arrearslaw07_DueRolls.j0 k a1 a2 bt205.2 bt211.1 bt211.2 bt213.1 bt213.2 (decide (a2 > 480))))))))) = some r := by rw [if_pos rfl] at H; exact H
    clear H
    have H := H1
    clear H1
    replace H := Option.bind_eq_some_iff.mp H
    obtain ⟨⟨t205, t206⟩, A60, H⟩ := H
    replace H : ((due_Plain.f k a1 a2).bind fun bt211 => ((due_Rolled.f k t205 a1 a2).bind fun bt213 => (if a1 < 0 then (arrearslaw07_DueRolls.j0 k a1 a2 t206 bt211.1 bt211.2 bt213.1 bt213.2 true) else (if a1 > 3652058 then (arrearslaw07_DueRolls.j0 k a1 a2 t206 bt211.1 bt211.2 bt213.1 bt213.2 true) else (if a2 < 0 then (arrearslaw07_DueRolls.j0 k a1 a2 t206 bt211.1 bt211.2 bt213.1 bt213.2 true) else (arrearslaw07_DueRolls.j0 k a1 a2 t206 bt211.1 bt211.2 bt213.1 bt213.2 (decide (a2 > 480)))))))) = some r := H
    have A6 := Aside0.mk A60
    clear A60
    replace H := Option.bind_eq_some_iff.mp H
    obtain ⟨⟨t211, t212⟩, A70, H⟩ := H
    replace H : ((due_Rolled.f k t205 a1 a2).bind fun bt213 => (if a1 < 0 then (arrearslaw07_DueRolls.j0 k a1 a2 t206 t211 t212 bt213.1 bt213.2 true) else (if a1 > 3652058 then (arrearslaw07_DueRolls.j0 k a1 a2 t206 t211 t212 bt213.1 bt213.2 true) else (if a2 < 0 then (arrearslaw07_DueRolls.j0 k a1 a2 t206 t211 t212 bt213.1 bt213.2 true) else (arrearslaw07_DueRolls.j0 k a1 a2 t206 t211 t212 bt213.1 bt213.2 (decide (a2 > 480))))))) = some r := H
    have A7 := Aside0.mk A70
    clear A70
    replace H := Option.bind_eq_some_iff.mp H
    obtain ⟨⟨t213, t214⟩, A80, H⟩ := H
    replace H : (if a1 < 0 then (arrearslaw07_DueRolls.j0 k a1 a2 t206 t211 t212 t213 t214 true) else (if a1 > 3652058 then (arrearslaw07_DueRolls.j0 k a1 a2 t206 t211 t212 t213 t214 true) else (if a2 < 0 then (arrearslaw07_DueRolls.j0 k a1 a2 t206 t211 t212 t213 t214 true) else (arrearslaw07_DueRolls.j0 k a1 a2 t206 t211 t212 t213 t214 (decide (a2 > 480)))))) = some r := H
    have A8 := Aside0.mk A80
    clear A80
    have HC9 := Aside0.mk H
    clear H
    go_enter Tryd.func8, Tryd.ntmps8
    go_upto_region 6 with (first | ((with_reducible refine gate_callee (f := 9) rfl ?_); refine goesL_ (some 16) rfl rfl Tryd.func9 (by kernel_rfl) rfl #[] rfl (by (try simp only [List.map_toArray, List.map_cons, List.map_nil]); first | done | rfl | (simp only [List.length_drop, List.length_take]; rfl)) ?_; (with_reducible refine (arrearslaw07_awake.calls k  true _ ?hGL A4.out).mono ?_); (case hGL => exact Go.Proofs.YthokfepglahgpaaDoor.M.Laid.below HG.out (by repeat (first | (with_reducible first | exact HB.out | apply below_alloc | apply pw_below_drewN | apply below_drew1) | exact HB.out))); rintro e w10 ⟨rfl, hb⟩; refine ⟨_, rfl, ?_⟩; have n0_ := Aside0.mk (below_step (by repeat (first | (with_reducible first | exact HB.out | apply below_alloc | apply pw_below_drewN | apply below_drew1) | exact HB.out)) hb); clear HB; have HB := n0_; clear n0_; (try clear hb); (try clear hb2); (try clear hk); (try clear hi)) | ((with_reducible refine gate_callee (f := 13) rfl ?_); refine goesL_ (some 20) rfl rfl Tryd.func13 (by kernel_rfl) rfl #[.slice A0 l0.length c0] rfl (by (try simp only [List.map_toArray, List.map_cons, List.map_nil]); first | done | rfl | (simp only [List.length_drop, List.length_take]; rfl)) ?_; (with_reducible refine (arrearslaw07_few.calls k _ _ l0 t205 t206 _ ?side1 ?side2 A6.out).mono ?_); (case side1 => repeat (first | exact (Kd.C_below HR0.out HB.out) | (with_reducible refine Kd.C_alloc ?_ _) | (with_reducible refine Kd.C_drewN ?_ _) | (with_reducible refine Kd.C_drew ?_))); (case side2 => exact HC0.out); rintro e w11 ⟨v207, v209, rfl, ho0, ho1, hb⟩; refine ⟨_, rfl, ?_⟩; have n0_ := Aside0.mk (Kd.R_lower ho0 (below_size (by repeat (first | (with_reducible first | exact HB.out | apply below_alloc | apply pw_below_drewN | apply below_drew1) | exact HB.out)))); have n1_ := Aside0.mk (Kd.R_lower ho1 (below_size (by repeat (first | (with_reducible first | exact HB.out | apply below_alloc | apply pw_below_drewN | apply below_drew1) | exact HB.out)))); have n2_ := Aside0.mk (below_step (by repeat (first | (with_reducible first | exact HB.out | apply below_alloc | apply pw_below_drewN | apply below_drew1) | exact HB.out)) hb); clear HB; have HO208 := n0_; have HO210 := n1_; have HB := n2_; clear n0_ n1_ n2_; (try clear hb); (try clear hb2); (try clear hk); (try clear hi); (try clear ho0); (try clear ho1)) | ((with_reducible refine gate_callee (f := 10) rfl ?_); refine goesL_ (some 26) rfl rfl Tryd.func10 (by kernel_rfl) rfl #[.int .i32 a1, .int .i64 a2] rfl (by (try simp only [List.map_toArray, List.map_cons, List.map_nil]); first | done | rfl | (simp only [List.length_drop, List.length_take]; rfl)) ?_; (with_reducible refine (due_Plain.calls k a1 a2 t211 t212 _ A7.out).mono ?_); rintro e w12 ⟨rfl, hb⟩; refine ⟨_, rfl, ?_⟩; have n0_ := Aside0.mk (Kd.R_below (by (with_reducible repeat (first | apply Kd.R_alloc | apply Kd.R_drewN | apply Kd.R_drew)); exact HO208.out) hb); have n1_ := Aside0.mk (Kd.R_below (by (with_reducible repeat (first | apply Kd.R_alloc | apply Kd.R_drewN | apply Kd.R_drew)); exact HO210.out) hb); have n2_ := Aside0.mk (below_step (by repeat (first | (with_reducible first | exact HB.out | apply below_alloc | apply pw_below_drewN | apply below_drew1) | exact HB.out)) hb); clear HO208; clear HO210; clear HB; have HO208 := n0_; have HO210 := n1_; have HB := n2_; clear n0_ n1_ n2_; (try clear hb); (try clear hb2); (try clear hk); (try clear hi); (try simp only [errW_none, errW_some]); obtain ⟨Ao13, co13, eo13⟩ := Kd.R_slice HO208.out; subst eo13) | ((with_reducible refine gate_callee (f := 21) rfl ?_); refine goesL_ (some 33) rfl rfl Tryd.func21 (by kernel_rfl) rfl #[.slice Ao13 t205.length co13, .int .i32 a1, .int .i64 a2] rfl (by (try simp only [List.map_toArray, List.map_cons, List.map_nil]); first | done | rfl | (simp only [List.length_drop, List.length_take]; rfl)) ?_; (with_reducible refine (due_Rolled.calls k _ _ t205 a1 a2 t213 t214 _ ?side1 ?side2 A8.out).mono ?_); (case side1 => repeat (first | exact (Kd.R_reads' HO208.out).2.2 | (with_reducible refine Kd.C_alloc ?_ _) | (with_reducible refine Kd.C_drewN ?_ _) | (with_reducible refine Kd.C_drew ?_))); (case side2 => exact (Kd.R_reads' HO208.out).2.1); rintro e w14 ⟨rfl, hb⟩; refine ⟨_, rfl, ?_⟩; have n0_ := Aside0.mk (Kd.R_below (by (with_reducible repeat (first | apply Kd.R_alloc | apply Kd.R_drewN | apply Kd.R_drew)); exact HO208.out) hb); have n1_ := Aside0.mk (Kd.R_below (by (with_reducible repeat (first | apply Kd.R_alloc | apply Kd.R_drewN | apply Kd.R_drew)); exact HO210.out) hb); have n2_ := Aside0.mk (below_step (by repeat (first | (with_reducible first | exact HB.out | apply below_alloc | apply pw_below_drewN | apply below_drew1) | exact HB.out)) hb); clear HO208; clear HO210; clear HB; have HO208 := n0_; have HO210 := n1_; have HB := n2_; clear n0_ n1_ n2_; (try clear hb); (try clear hb2); (try clear hk); (try clear hi); (try simp only [errW_none, errW_some])))
    (try simp only [Act.put, List.setIfInBounds_toArray, List.set_cons_zero, List.set_cons_succ])
    go_cut [49] (fun v49 wc => ∃ (kq : Nat) (x49_8 : Bool), v49 = .bool x49_8 ∧ Aside0 (arrearslaw07_DueRolls.j0 kq a1 a2 t206 t211 t212 t213 t214 x49_8 = some r) ∧ Aside0 (kq ≤ k) ∧ Aside0 (Kd.R (Kd.int .i64) 3 wc w.heap.size (fun _ => True) v209 t206) ∧ Aside0 (Below w.heap.size w wc))
    case first =>
      have H := HC9.out
      clear HC9
      by_cases c15 : a1 < 0
      · rw [if_pos c15] at H
        have c15b0 : decide (a1 < 0) = true := decide_eq_true c15
        clear c15
        (first | rw [c15b0] | (simp only [i64_w, i32_w]; rw [c15b0]) | skip)
        have H' := Aside0.mk H
        clear H
        go_wp2
        go_meet
        case rel => exact ⟨_, (true), (by first | rfl | (simp; done) | (simp [*]; done) | (exfalso; simp at *; omega)), H', ⟨by first | omega | exact Nat.le_refl _⟩, ⟨by (with_reducible repeat (first | apply Kd.R_alloc | apply Kd.R_drewN | apply Kd.R_drew)); exact HO210.out⟩, ⟨by repeat (first | (with_reducible first | exact HB.out | apply below_alloc | apply pw_below_drewN | apply below_drew1) | exact HB.out)⟩⟩
      · rw [if_neg c15] at H
        have c15b0 : decide (a1 < 0) = false := decide_eq_false c15
        clear c15
        (first | rw [c15b0] | (simp only [i64_w, i32_w]; rw [c15b0]) | skip)
        by_cases c16 : a1 > 3652058
        · rw [if_pos c16] at H
          have c16b0 : decide (3652058 < a1) = true := decide_eq_true c16
          clear c16
          have H' := Aside0.mk H
          clear H
          go_wp2
          go_meet
          case rel => exact ⟨_, (true), (by first | rfl | (simp; done) | (simp [*]; done) | (exfalso; simp at *; omega)), H', ⟨by first | omega | exact Nat.le_refl _⟩, ⟨by (with_reducible repeat (first | apply Kd.R_alloc | apply Kd.R_drewN | apply Kd.R_drew)); exact HO210.out⟩, ⟨by repeat (first | (with_reducible first | exact HB.out | apply below_alloc | apply pw_below_drewN | apply below_drew1) | exact HB.out)⟩⟩
        · rw [if_neg c16] at H
          have c16b0 : decide (3652058 < a1) = false := decide_eq_false c16
          clear c16
          by_cases c17 : a2 < 0
          · rw [if_pos c17] at H
            have c17b0 : decide (a2 < 0) = true := decide_eq_true c17
            clear c17
            have H' := Aside0.mk H
            clear H
            go_wp2
            go_meet
            case rel => exact ⟨_, (true), (by first | rfl | (simp; done) | (simp [*]; done) | (exfalso; simp at *; omega)), H', ⟨by first | omega | exact Nat.le_refl _⟩, ⟨by (with_reducible repeat (first | apply Kd.R_alloc | apply Kd.R_drewN | apply Kd.R_drew)); exact HO210.out⟩, ⟨by repeat (first | (with_reducible first | exact HB.out | apply below_alloc | apply pw_below_drewN | apply below_drew1) | exact HB.out)⟩⟩
          · rw [if_neg c17] at H
            have c17b0 : decide (a2 < 0) = false := decide_eq_false c17
            clear c17
            have H' := Aside0.mk H
            clear H
            go_wp2
            go_meet
            case rel => exact ⟨_, (decide (a2 > 480)), (by first | rfl | (simp; done) | (simp [*]; done) | (exfalso; simp at *; omega)), H', ⟨by first | omega | exact Nat.le_refl _⟩, ⟨by (with_reducible repeat (first | apply Kd.R_alloc | apply Kd.R_drewN | apply Kd.R_drew)); exact HO210.out⟩, ⟨by repeat (first | (with_reducible first | exact HB.out | apply below_alloc | apply pw_below_drewN | apply below_drew1) | exact HB.out)⟩⟩
    case rest =>
      clear HC9
      try clear c1
      try clear c2
      try clear p2
      try clear c5
      try clear c8
      try clear c9
      try clear c10
      try clear c13
      try clear c15
      try clear c15b0
      try clear c16
      try clear c16b0
      try clear c17
      try clear c17b0
      obtain ⟨kq, x49_8, rfl, HA, HJ8, HO_8, HB⟩ := hcut
      cases kq with
      | zero => exact absurd HA.out (by simp [arrearslaw07_DueRolls.j0])
      | succ kj8 =>
        have H := HA.out
        clear HA
        simp only [arrearslaw07_DueRolls.j0] at H
        by_cases c18 : x49_8 = true
        · subst c18
          have H1 : ((api_Code.f t212).bind fun t215 => (if t215 = 1 then ((api_Code.f t214).bind fun t216 => (if t216 = 1 then (if t211 = 0 then (some (t213 == 0)) else (some false)) else (some false))) else (some false))) = some r := by rw [if_pos rfl] at H; exact H
          clear H
          have H := H1
          clear H1
          replace H := Option.bind_eq_some_iff.mp H
          obtain ⟨t215, A190, H⟩ := H
          replace H : (if t215 = 1 then ((api_Code.f t214).bind fun t216 => (if t216 = 1 then (if t211 = 0 then (some (t213 == 0)) else (some false)) else (some false))) else (some false)) = some r := H
          have A19 := Aside0.mk A190
          clear A190
          by_cases c20 : t215 = 1
          · rw [if_pos c20] at H
            have c20b0 : (t215 == 1) = true := beq_iff_eq.mpr c20
            have c20b1 : (t215 != 1) = false := bne_eq_false_iff_eq.mpr c20
            clear c20
            replace H := Option.bind_eq_some_iff.mp H
            obtain ⟨t216, A210, H⟩ := H
            replace H : (if t216 = 1 then (if t211 = 0 then (some (t213 == 0)) else (some false)) else (some false)) = some r := H
            have A21 := Aside0.mk A210
            clear A210
            by_cases c22 : t216 = 1
            · rw [if_pos c22] at H
              have c22b0 : (t216 == 1) = true := beq_iff_eq.mpr c22
              have c22b1 : (t216 != 1) = false := bne_eq_false_iff_eq.mpr c22
              clear c22
              by_cases c23 : t211 = 0
              · rw [if_pos c23] at H
                have c23b0 : (t211 == 0) = true := beq_iff_eq.mpr c23
                have c23b1 : (t211 != 0) = false := bne_eq_false_iff_eq.mpr c23
                clear c23
                obtain rfl := Option.some.inj H
                have CA19 := fun W (hGW : Go.Proofs.YthokfepglahgpaaDoor.M.Laid W) => api_Code.calls t212 t215 W hGW A19.out
                try simp only [errW_none, errW_some] at CA19
                go_wp2_with (first | (go_at_call 18; (with_reducible refine (CA19 _ ?hGL).mono ?_); (case hGL => exact Go.Proofs.YthokfepglahgpaaDoor.M.Laid.below HG.out (by repeat (first | (with_reducible first | exact HB.out | apply below_alloc | apply pw_below_drewN | apply below_drew1) | exact HB.out))); rintro e w24 ⟨rfl, hb⟩; have n0_ := Aside0.mk (Kd.R_below (by (with_reducible repeat (first | apply Kd.R_alloc | apply Kd.R_drewN | apply Kd.R_drew)); exact HO_8.out) hb); have n1_ := Aside0.mk (below_step (by repeat (first | (with_reducible first | exact HB.out | apply below_alloc | apply pw_below_drewN | apply below_drew1) | exact HB.out)) hb); clear HO_8; clear HB; have HO_8 := n0_; have HB := n1_; clear n0_ n1_; (try clear hb); (try clear hb2); (try clear hk); (try clear hi); have CA21 := fun W (hGW : Go.Proofs.YthokfepglahgpaaDoor.M.Laid W) => api_Code.calls t214 t216 W hGW A21.out; try simp only [errW_none, errW_some] at CA21) | (go_at_call 18; (with_reducible refine (CA21 _ ?hGL).mono ?_); (case hGL => exact Go.Proofs.YthokfepglahgpaaDoor.M.Laid.below HG.out (by repeat (first | (with_reducible first | exact HB.out | apply below_alloc | apply pw_below_drewN | apply below_drew1) | exact HB.out))); rintro e w25 ⟨rfl, hb⟩; have n0_ := Aside0.mk (Kd.R_below (by (with_reducible repeat (first | apply Kd.R_alloc | apply Kd.R_drewN | apply Kd.R_drew)); exact HO_8.out) hb); have n1_ := Aside0.mk (below_step (by repeat (first | (with_reducible first | exact HB.out | apply below_alloc | apply pw_below_drewN | apply below_drew1) | exact HB.out)) hb); clear HO_8; clear HB; have HO_8 := n0_; have HB := n1_; clear n0_ n1_; (try clear hb); (try clear hb2); (try clear hk); (try clear hi)))
                go_ret
                exact ⟨by first | rfl | (simp [errW_none, errW_some] <;> rfl) | (simp [*, errW_none, errW_some] <;> rfl), by repeat (first | (with_reducible first | exact HB.out | apply below_alloc | apply pw_below_drewN | apply below_drew1) | exact HB.out)⟩
              · rw [if_neg c23] at H
                have c23b0 : (t211 == 0) = false := beq_eq_false_iff_ne.mpr c23
                have c23b1 : (t211 != 0) = true := bne_iff_ne.mpr c23
                exact absurd (H.trans (congrArg some HR.out)) (by simp)
            · rw [if_neg c22] at H
              have c22b0 : (t216 == 1) = false := beq_eq_false_iff_ne.mpr c22
              have c22b1 : (t216 != 1) = true := bne_iff_ne.mpr c22
              exact absurd (H.trans (congrArg some HR.out)) (by simp)
          · rw [if_neg c20] at H
            have c20b0 : (t215 == 1) = false := beq_eq_false_iff_ne.mpr c20
            have c20b1 : (t215 != 1) = true := bne_iff_ne.mpr c20
            exact absurd (H.trans (congrArg some HR.out)) (by simp)
        · replace c18 := Bool.eq_false_iff.mpr c18
          subst c18
          have H1 : ((arrearsref07_Plain.f kj8 (wrap64 (a1)) a2).bind fun bt217 => (if bt217.2 = 0 then ((arrearsref07_Next.f kj8 t206 bt217.1).bind fun t221 => (if t212.isNone = true then (if (wrap64 (t211)) = bt217.1 then (if t214.isNone = true then (if (true != (decide (t221 ≥ 0))) = true then (some false) else (if (wrap64 (t213)) = t221 then (some true) else (some false))) else (if (false != (decide (t221 ≥ 0))) = true then (some false) else ((api_Code.f (some (t214.getD 0))).bind fun t224 => (if t224 = 12 then (some (t213 == 0)) else (some false))))) else (some false)) else (some false))) else ((api_Code.f t212).bind fun t219 => (if t219 = bt217.2 then ((api_Code.f t214).bind fun t220 => (some (t220 == bt217.2))) else (some false))))) = some r := by rw [if_neg (show ¬ (false = true) by decide)] at H; exact H
          clear H
          have H := H1
          clear H1
          replace H := Option.bind_eq_some_iff.mp H
          obtain ⟨⟨t217, t218⟩, A310, H⟩ := H
          replace H : (if t218 = 0 then ((arrearsref07_Next.f kj8 t206 t217).bind fun t221 => (if t212.isNone = true then (if (wrap64 (t211)) = t217 then (if t214.isNone = true then (if (true != (decide (t221 ≥ 0))) = true then (some false) else (if (wrap64 (t213)) = t221 then (some true) else (some false))) else (if (false != (decide (t221 ≥ 0))) = true then (some false) else ((api_Code.f (some (t214.getD 0))).bind fun t224 => (if t224 = 12 then (some (t213 == 0)) else (some false))))) else (some false)) else (some false))) else ((api_Code.f t212).bind fun t219 => (if t219 = t218 then ((api_Code.f t214).bind fun t220 => (some (t220 == t218))) else (some false)))) = some r := H
          have A31 := Aside0.mk A310
          clear A310
          by_cases c32 : t218 = 0
          · rw [if_pos c32] at H
            have c32b0 : (t218 == 0) = true := beq_iff_eq.mpr c32
            have c32b1 : (t218 != 0) = false := bne_eq_false_iff_eq.mpr c32
            clear c32
            replace H := Option.bind_eq_some_iff.mp H
            obtain ⟨t221, A330, H⟩ := H
            replace H : (if t212.isNone = true then (if (wrap64 (t211)) = t217 then (if t214.isNone = true then (if (true != (decide (t221 ≥ 0))) = true then (some false) else (if (wrap64 (t213)) = t221 then (some true) else (some false))) else (if (false != (decide (t221 ≥ 0))) = true then (some false) else ((api_Code.f (some (t214.getD 0))).bind fun t224 => (if t224 = 12 then (some (t213 == 0)) else (some false))))) else (some false)) else (some false)) = some r := H
            have A33 := Aside0.mk A330
            clear A330
            rcases t212 with _ | q222
            · have H1 : (if (wrap64 (t211)) = t217 then (if t214.isNone = true then (if (true != (decide (t221 ≥ 0))) = true then (some false) else (if (wrap64 (t213)) = t221 then (some true) else (some false))) else (if (false != (decide (t221 ≥ 0))) = true then (some false) else ((api_Code.f (some (t214.getD 0))).bind fun t224 => (if t224 = 12 then (some (t213 == 0)) else (some false))))) else (some false)) = some r := by rw [if_pos (show (none : Option Int).isNone = true by rfl)] at H; exact H
              clear H
              have H := H1
              clear H1
              try simp only [errW_none, errW_some]
              by_cases c34 : (wrap64 (t211)) = t217
              · rw [if_pos c34] at H
                have c34b0 : ((wrap64 (t211)) == t217) = true := beq_iff_eq.mpr c34
                have c34b1 : ((wrap64 (t211)) != t217) = false := bne_eq_false_iff_eq.mpr c34
                clear c34
                rcases t214 with _ | q223
                · have H1 : (if (true != (decide (t221 ≥ 0))) = true then (some false) else (if (wrap64 (t213)) = t221 then (some true) else (some false))) = some r := by rw [if_pos (show (none : Option Int).isNone = true by rfl)] at H; exact H
                  clear H
                  have H := H1
                  clear H1
                  try simp only [errW_none, errW_some]
                  by_cases c35 : (true != (decide (t221 ≥ 0))) = true
                  · rw [if_pos c35] at H
                    have c35b0 : (true != (decide (t221 ≥ 0))) = true := c35
                    (try (have c35b1 : decide (true = (decide (t221 ≥ 0))) = false := by simpa using c35))
                    (try (have c35b2 : (true == (decide (t221 ≥ 0))) = false := by simpa using c35))
                    (try (have c35b3 : ¬ (true = (decide (t221 ≥ 0))) := by simpa using c35))
                    clear c35
                    exact absurd (H.trans (congrArg some HR.out)) (by simp)
                  · rw [if_neg c35] at H
                    have c35b0 : (true != (decide (t221 ≥ 0))) = false := by simpa using c35
                    (try (have c35b1 : decide (true = (decide (t221 ≥ 0))) = true := by simpa using c35))
                    (try (have c35b2 : (true == (decide (t221 ≥ 0))) = true := by simpa using c35))
                    clear c35
                    by_cases c38 : (wrap64 (t213)) = t221
                    · rw [if_pos c38] at H
                      have c38b0 : ((wrap64 (t213)) == t221) = true := beq_iff_eq.mpr c38
                      have c38b1 : ((wrap64 (t213)) != t221) = false := bne_eq_false_iff_eq.mpr c38
                      clear c38
                      obtain rfl := Option.some.inj H
                      go_wp2_with (first | ((with_reducible refine gate_callee (f := 22) rfl ?_); refine goesL_ (some 70) rfl rfl Tryd.func22 (by kernel_rfl) rfl #[.int .i64 (wrap64 (a1)), .int .i64 a2] rfl (by (try simp only [List.map_toArray, List.map_cons, List.map_nil]); first | done | rfl | (simp only [List.length_drop, List.length_take]; rfl)) ?_; (with_reducible refine (arrearsref07_Plain.calls kj8 (wrap64 (a1)) a2 t217 t218 _ A31.out).mono ?_); rintro e w39 ⟨rfl, hb⟩; refine ⟨_, rfl, ?_⟩; have n0_ := Aside0.mk (Kd.R_below (by (with_reducible repeat (first | apply Kd.R_alloc | apply Kd.R_drewN | apply Kd.R_drew)); exact HO_8.out) hb); have n1_ := Aside0.mk (below_step (by repeat (first | (with_reducible first | exact HB.out | apply below_alloc | apply pw_below_drewN | apply below_drew1) | exact HB.out)) hb); clear HO_8; clear HB; have HO_8 := n0_; have HB := n1_; clear n0_ n1_; (try clear hb); (try clear hb2); (try clear hk); (try clear hi); obtain ⟨Ao40, co40, eo40⟩ := Kd.R_slice HO_8.out; subst eo40) | ((with_reducible refine gate_callee (f := 19) rfl ?_); refine goesL_ (some 87) rfl rfl Tryd.func19 (by kernel_rfl) rfl #[.slice Ao40 t206.length co40, .int .i64 t217] rfl (by (try simp only [List.map_toArray, List.map_cons, List.map_nil]); first | done | rfl | (simp only [List.length_drop, List.length_take]; rfl)) ?_; (with_reducible refine (arrearsref07_Next.calls kj8 _ _ t206 t217 t221 _ ?side1 ?side2 A33.out).mono ?_); (case side1 => repeat (first | exact (Kd.R_reads' HO_8.out).2.2 | (with_reducible refine Kd.C_alloc ?_ _) | (with_reducible refine Kd.C_drewN ?_ _) | (with_reducible refine Kd.C_drew ?_))); (case side2 => exact (Kd.R_reads' HO_8.out).2.1); rintro e w' ⟨rfl, ⟨nd, rfl⟩⟩; refine ⟨_, rfl, ?_⟩))
                      go_ret
                      exact ⟨by first | rfl | (simp [errW_none, errW_some] <;> rfl) | (simp [*, errW_none, errW_some] <;> rfl), by repeat (first | (with_reducible first | exact HB.out | apply below_alloc | apply pw_below_drewN | apply below_drew1) | exact HB.out)⟩
                    · rw [if_neg c38] at H
                      have c38b0 : ((wrap64 (t213)) == t221) = false := beq_eq_false_iff_ne.mpr c38
                      have c38b1 : ((wrap64 (t213)) != t221) = true := bne_iff_ne.mpr c38
                      exact absurd (H.trans (congrArg some HR.out)) (by simp)
                · have H1 : (if (false != (decide (t221 ≥ 0))) = true then (some false) else ((api_Code.f (some q223)).bind fun t224 => (if t224 = 12 then (some (t213 == 0)) else (some false)))) = some r := by rw [if_neg (show ¬ (some q223).isNone = true by simp)] at H; exact H
                  clear H
                  have H := H1
                  clear H1
                  try simp only [errW_none, errW_some]
                  by_cases c43 : (false != (decide (t221 ≥ 0))) = true
                  · rw [if_pos c43] at H
                    have c43b0 : (false != (decide (t221 ≥ 0))) = true := c43
                    (try (have c43b1 : decide (false = (decide (t221 ≥ 0))) = false := by simpa using c43))
                    (try (have c43b2 : (false == (decide (t221 ≥ 0))) = false := by simpa using c43))
                    (try (have c43b3 : ¬ (false = (decide (t221 ≥ 0))) := by simpa using c43))
                    clear c43
                    exact absurd (H.trans (congrArg some HR.out)) (by simp)
                  · rw [if_neg c43] at H
                    have c43b0 : (false != (decide (t221 ≥ 0))) = false := by simpa using c43
                    (try (have c43b1 : decide (false = (decide (t221 ≥ 0))) = true := by simpa using c43))
                    (try (have c43b2 : (false == (decide (t221 ≥ 0))) = true := by simpa using c43))
                    clear c43
                    replace H := Option.bind_eq_some_iff.mp H
                    obtain ⟨t224, A460, H⟩ := H
                    replace H : (if t224 = 12 then (some (t213 == 0)) else (some false)) = some r := H
                    have A46 := Aside0.mk A460
                    clear A460
                    by_cases c47 : t224 = 12
                    · rw [if_pos c47] at H
                      have c47b0 : (t224 == 12) = true := beq_iff_eq.mpr c47
                      have c47b1 : (t224 != 12) = false := bne_eq_false_iff_eq.mpr c47
                      clear c47
                      obtain rfl := Option.some.inj H
                      go_wp2_with (first | ((with_reducible refine gate_callee (f := 22) rfl ?_); refine goesL_ (some 70) rfl rfl Tryd.func22 (by kernel_rfl) rfl #[.int .i64 (wrap64 (a1)), .int .i64 a2] rfl (by (try simp only [List.map_toArray, List.map_cons, List.map_nil]); first | done | rfl | (simp only [List.length_drop, List.length_take]; rfl)) ?_; (with_reducible refine (arrearsref07_Plain.calls kj8 (wrap64 (a1)) a2 t217 t218 _ A31.out).mono ?_); rintro e w48 ⟨rfl, hb⟩; refine ⟨_, rfl, ?_⟩; have n0_ := Aside0.mk (Kd.R_below (by (with_reducible repeat (first | apply Kd.R_alloc | apply Kd.R_drewN | apply Kd.R_drew)); exact HO_8.out) hb); have n1_ := Aside0.mk (below_step (by repeat (first | (with_reducible first | exact HB.out | apply below_alloc | apply pw_below_drewN | apply below_drew1) | exact HB.out)) hb); clear HO_8; clear HB; have HO_8 := n0_; have HB := n1_; clear n0_ n1_; (try clear hb); (try clear hb2); (try clear hk); (try clear hi); obtain ⟨Ao49, co49, eo49⟩ := Kd.R_slice HO_8.out; subst eo49) | ((with_reducible refine gate_callee (f := 19) rfl ?_); refine goesL_ (some 87) rfl rfl Tryd.func19 (by kernel_rfl) rfl #[.slice Ao49 t206.length co49, .int .i64 t217] rfl (by (try simp only [List.map_toArray, List.map_cons, List.map_nil]); first | done | rfl | (simp only [List.length_drop, List.length_take]; rfl)) ?_; (with_reducible refine (arrearsref07_Next.calls kj8 _ _ t206 t217 t221 _ ?side1 ?side2 A33.out).mono ?_); (case side1 => repeat (first | exact (Kd.R_reads' HO_8.out).2.2 | (with_reducible refine Kd.C_alloc ?_ _) | (with_reducible refine Kd.C_drewN ?_ _) | (with_reducible refine Kd.C_drew ?_))); (case side2 => exact (Kd.R_reads' HO_8.out).2.1); rintro e w' ⟨rfl, ⟨nd, rfl⟩⟩; refine ⟨_, rfl, ?_⟩; have CA46 := fun W (hGW : Go.Proofs.YthokfepglahgpaaDoor.M.Laid W) => api_Code.calls (some q223) t224 W hGW A46.out; try simp only [errW_none, errW_some] at CA46) | (go_at_call 18; (with_reducible refine (CA46 _ ?hGL).mono ?_); (case hGL => exact Go.Proofs.YthokfepglahgpaaDoor.M.Laid.below HG.out (by repeat (first | (with_reducible first | exact HB.out | apply below_alloc | apply pw_below_drewN | apply below_drew1) | exact HB.out))); rintro e w50 ⟨rfl, hb⟩; have n0_ := Aside0.mk (Kd.R_below (by (with_reducible repeat (first | apply Kd.R_alloc | apply Kd.R_drewN | apply Kd.R_drew)); exact HO_8.out) hb); have n1_ := Aside0.mk (below_step (by repeat (first | (with_reducible first | exact HB.out | apply below_alloc | apply pw_below_drewN | apply below_drew1) | exact HB.out)) hb); clear HO_8; clear HB; have HO_8 := n0_; have HB := n1_; clear n0_ n1_; (try clear hb); (try clear hb2); (try clear hk); (try clear hi)))
                      go_ret
                      exact ⟨by first | rfl | (simp [errW_none, errW_some] <;> rfl) | (simp [*, errW_none, errW_some] <;> rfl), by repeat (first | (with_reducible first | exact HB.out | apply below_alloc | apply pw_below_drewN | apply below_drew1) | exact HB.out)⟩
                    · rw [if_neg c47] at H
                      have c47b0 : (t224 == 12) = false := beq_eq_false_iff_ne.mpr c47
                      have c47b1 : (t224 != 12) = true := bne_iff_ne.mpr c47
                      exact absurd (H.trans (congrArg some HR.out)) (by simp)
              · rw [if_neg c34] at H
                have c34b0 : ((wrap64 (t211)) == t217) = false := beq_eq_false_iff_ne.mpr c34
                have c34b1 : ((wrap64 (t211)) != t217) = true := bne_iff_ne.mpr c34
                exact absurd (H.trans (congrArg some HR.out)) (by simp)
            · have H1 : (some false) = some r := by rw [if_neg (show ¬ (some q222).isNone = true by simp)] at H; exact H
              clear H
              have H := H1
              clear H1
              try simp only [errW_none, errW_some]
              exact absurd (H.trans (congrArg some HR.out)) (by simp)
          · rw [if_neg c32] at H
            have c32b0 : (t218 == 0) = false := beq_eq_false_iff_ne.mpr c32
            have c32b1 : (t218 != 0) = true := bne_iff_ne.mpr c32
            replace H := Option.bind_eq_some_iff.mp H
            obtain ⟨t219, A580, H⟩ := H
            replace H : (if t219 = t218 then ((api_Code.f t214).bind fun t220 => (some (t220 == t218))) else (some false)) = some r := H
            have A58 := Aside0.mk A580
            clear A580
            by_cases c59 : t219 = t218
            · rw [if_pos c59] at H
              have c59b0 : (t219 == t218) = true := beq_iff_eq.mpr c59
              have c59b1 : (t219 != t218) = false := bne_eq_false_iff_eq.mpr c59
              clear c59
              replace H := Option.bind_eq_some_iff.mp H
              obtain ⟨t220, A600, H⟩ := H
              replace H : (some (t220 == t218)) = some r := H
              have A60 := Aside0.mk A600
              clear A600
              obtain rfl := Option.some.inj H
              go_wp2_with (first | ((with_reducible refine gate_callee (f := 22) rfl ?_); refine goesL_ (some 70) rfl rfl Tryd.func22 (by kernel_rfl) rfl #[.int .i64 (wrap64 (a1)), .int .i64 a2] rfl (by (try simp only [List.map_toArray, List.map_cons, List.map_nil]); first | done | rfl | (simp only [List.length_drop, List.length_take]; rfl)) ?_; (with_reducible refine (arrearsref07_Plain.calls kj8 (wrap64 (a1)) a2 t217 t218 _ A31.out).mono ?_); rintro e w61 ⟨rfl, hb⟩; refine ⟨_, rfl, ?_⟩; have n0_ := Aside0.mk (Kd.R_below (by (with_reducible repeat (first | apply Kd.R_alloc | apply Kd.R_drewN | apply Kd.R_drew)); exact HO_8.out) hb); have n1_ := Aside0.mk (below_step (by repeat (first | (with_reducible first | exact HB.out | apply below_alloc | apply pw_below_drewN | apply below_drew1) | exact HB.out)) hb); clear HO_8; clear HB; have HO_8 := n0_; have HB := n1_; clear n0_ n1_; (try clear hb); (try clear hb2); (try clear hk); (try clear hi); have CA58 := fun W (hGW : Go.Proofs.YthokfepglahgpaaDoor.M.Laid W) => api_Code.calls t212 t219 W hGW A58.out; try simp only [errW_none, errW_some] at CA58) | (go_at_call 18; (with_reducible refine (CA58 _ ?hGL).mono ?_); (case hGL => exact Go.Proofs.YthokfepglahgpaaDoor.M.Laid.below HG.out (by repeat (first | (with_reducible first | exact HB.out | apply below_alloc | apply pw_below_drewN | apply below_drew1) | exact HB.out))); rintro e w62 ⟨rfl, hb⟩; have n0_ := Aside0.mk (Kd.R_below (by (with_reducible repeat (first | apply Kd.R_alloc | apply Kd.R_drewN | apply Kd.R_drew)); exact HO_8.out) hb); have n1_ := Aside0.mk (below_step (by repeat (first | (with_reducible first | exact HB.out | apply below_alloc | apply pw_below_drewN | apply below_drew1) | exact HB.out)) hb); clear HO_8; clear HB; have HO_8 := n0_; have HB := n1_; clear n0_ n1_; (try clear hb); (try clear hb2); (try clear hk); (try clear hi); have CA60 := fun W (hGW : Go.Proofs.YthokfepglahgpaaDoor.M.Laid W) => api_Code.calls t214 t220 W hGW A60.out; try simp only [errW_none, errW_some] at CA60) | (go_at_call 18; (with_reducible refine (CA60 _ ?hGL).mono ?_); (case hGL => exact Go.Proofs.YthokfepglahgpaaDoor.M.Laid.below HG.out (by repeat (first | (with_reducible first | exact HB.out | apply below_alloc | apply pw_below_drewN | apply below_drew1) | exact HB.out))); rintro e w63 ⟨rfl, hb⟩; have n0_ := Aside0.mk (Kd.R_below (by (with_reducible repeat (first | apply Kd.R_alloc | apply Kd.R_drewN | apply Kd.R_drew)); exact HO_8.out) hb); have n1_ := Aside0.mk (below_step (by repeat (first | (with_reducible first | exact HB.out | apply below_alloc | apply pw_below_drewN | apply below_drew1) | exact HB.out)) hb); clear HO_8; clear HB; have HO_8 := n0_; have HB := n1_; clear n0_ n1_; (try clear hb); (try clear hb2); (try clear hk); (try clear hi)))
              go_ret
              exact ⟨by first | rfl | (simp [errW_none, errW_some] <;> rfl) | (simp [*, errW_none, errW_some] <;> rfl), by repeat (first | (with_reducible first | exact HB.out | apply below_alloc | apply pw_below_drewN | apply below_drew1) | exact HB.out)⟩
            · rw [if_neg c59] at H
              have c59b0 : (t219 == t218) = false := beq_eq_false_iff_ne.mpr c59
              have c59b1 : (t219 != t218) = true := bne_iff_ne.mpr c59
              exact absurd (H.trans (congrArg some HR.out)) (by simp)
  · replace c5 := Bool.eq_false_iff.mpr c5
    subst c5
    have H1 : (some false) = some r := by rw [if_neg (show ¬ (false = true) by decide)] at H; exact H
    clear H
    have H := H1
    clear H1
    exact absurd (H.trans (congrArg some HR.out)) (by simp)
end Go.Proofs.YthokfepglahgpaaDoor.PDueRolls
