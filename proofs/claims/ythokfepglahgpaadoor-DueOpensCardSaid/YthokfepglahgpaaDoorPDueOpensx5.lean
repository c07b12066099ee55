-- Printed by a wrapper of this session's round the kit's print.py; Lean checks it.
import Derived.Test.YthokfepglahgpaaDoorPDueOpensx0
import Derived.Test.YthokfepglahgpaaDoorPDueOpensx3
import Derived.Test.YthokfepglahgpaaDoorPDueOpensx4
namespace Go.Proofs.YthokfepglahgpaaDoor.PDueOpens
open Go.RowKit Go.Proofs.YthokfepglahgpaaDoorW.PrintWords Go.Proofs.YthokfepglahgpaaDoorW.PrintLast Go.Proofs.YthokfepglahgpaaDoorW.PrintMore
attribute [local go_sem] max2_int min2_int max_two min_two max_three min_three max_four min_four   -- for this text's walks alone
set_option linter.unusedVariables false
set_option linter.unusedSimpArgs false

/-! ### arrearslaw07_DueOpens: function 6 -/
mutual
def arrearslaw07_DueOpens.j0 : Nat → Int → List Int → List Int → Int → Option Int → Bool → Option (Bool)
  | 0, _, _, _, _, _, _ => none
  | k + 1, x1, x5, x6, x7, x8, x28 => if x28 = true then ((due_Holy_Open.f k x5 x1).bind fun t185 => (if t185 = true then (some false) else ((api_Code.f x8).bind fun t186 => (some (t186 == 1))))) else ((arrearsref07_Next.f k x6 (wrap64 (x1))).bind fun t187 => ((due_Holy_Open.f k x5 x1).bind fun t188 => ((arrearsref07_Open.f k x6 (wrap64 (x1))).bind fun t189 => (if (t188 != t189) = true then (arrearslaw07_DueOpens.j1 k x5 x7 x8 true) else (if x8.isNone = true then (if (true != (decide (t187 ≥ 0))) = true then (arrearslaw07_DueOpens.j1 k x5 x7 none true) else (arrearslaw07_DueOpens.j1 k x5 x7 none ((wrap64 (x7)) != t187))) else (if (false != (decide (t187 ≥ 0))) = true then (arrearslaw07_DueOpens.j1 k x5 x7 (some (x8.getD 0)) true) else (arrearslaw07_DueOpens.j1 k x5 x7 (some (x8.getD 0)) false)))))))
def arrearslaw07_DueOpens.j1 : Nat → List Int → Int → Option Int → Bool → Option (Bool)
  | 0, _, _, _, _ => none
  | k + 1, x5, x7, x8, x66 => if x66 = true then (some false) else (if x8.isNone = true then ((due_Holy_Open.f k x5 x7).bind fun t192 => (if t192 = true then (some true) else ((api_Code.f none).bind fun t193 => (some (t193 == 12))))) else ((api_Code.f (some (x8.getD 0))).bind fun t194 => (some (t194 == 12))))
end
def arrearslaw07_DueOpens.f (k : Nat) (l0 : List Int) (a1 : Int) : Option (Bool) := (arrearslaw07_awake.f k).bind fun t176 => (if t176 = true then ((arrearslaw07_few.f k l0).bind fun bt177 => ((due_Holy_Next.f k bt177.1 a1).bind fun bt183 => (if a1 < 0 then (arrearslaw07_DueOpens.j0 k a1 bt177.1 bt177.2 bt183.1 bt183.2 true) else (arrearslaw07_DueOpens.j0 k a1 bt177.1 bt177.2 bt183.1 bt183.2 (decide (a1 > 3652058)))))) else (some false))
theorem arrearslaw07_DueOpens.mono_l : ∀ k, (∀ y0 y1 y2 y3 y4 y5, LeO (arrearslaw07_DueOpens.j0 k y0 y1 y2 y3 y4 y5) (arrearslaw07_DueOpens.j0 (k + 1) y0 y1 y2 y3 y4 y5)) ∧ (∀ y0 y1 y2 y3, LeO (arrearslaw07_DueOpens.j1 k y0 y1 y2 y3) (arrearslaw07_DueOpens.j1 (k + 1) y0 y1 y2 y3))
  | 0 => ⟨fun _ _ _ _ _ _ r h => by simp [arrearslaw07_DueOpens.j0] at h, fun _ _ _ _ r h => by simp [arrearslaw07_DueOpens.j1] at h⟩
  | k + 1 => by
    obtain ⟨ih0, ih1⟩ := arrearslaw07_DueOpens.mono_l k
    refine ⟨?_, ?_⟩
    · intro y0 y1 y2 y3 y4 y5
      unfold arrearslaw07_DueOpens.j0
      repeat' first
      | (with_reducible exact ih0 _ _ _ _ _ _)
      | (with_reducible exact ih1 _ _ _ _)
      | (with_reducible exact arrearslaw07_awake.mono _)
      | (with_reducible exact arrearslaw07_few.mono _ _)
      | (with_reducible exact arrearsref07_Next.mono _ _ _)
      | (with_reducible exact arrearsref07_Open.mono _ _ _)
      | (with_reducible exact due_Holy_Next.mono _ _ _)
      | (with_reducible exact due_Holy_Open.mono _ _ _)
      | (with_reducible exact LeO.refl _)
      | (with_reducible exact LeO.none _)
      | (with_reducible refine LeO.ite ?_ ?_)
      | (with_reducible refine LeO.bind ?_ (fun _ => ?_))
      | exact ih0 _ _ _ _ _ _
      | exact ih1 _ _ _ _
      | exact arrearslaw07_awake.mono _
      | exact arrearslaw07_few.mono _ _
      | exact arrearsref07_Next.mono _ _ _
      | exact arrearsref07_Open.mono _ _ _
      | exact due_Holy_Next.mono _ _ _
      | exact due_Holy_Open.mono _ _ _
      | exact LeO.none _
      | refine LeO.ite ?_ ?_
      | refine LeO.bind ?_ (fun _ => ?_)
    · intro y0 y1 y2 y3
      unfold arrearslaw07_DueOpens.j1
      repeat' first
      | (with_reducible exact ih0 _ _ _ _ _ _)
      | (with_reducible exact ih1 _ _ _ _)
      | (with_reducible exact arrearslaw07_awake.mono _)
      | (with_reducible exact arrearslaw07_few.mono _ _)
      | (with_reducible exact arrearsref07_Next.mono _ _ _)
      | (with_reducible exact arrearsref07_Open.mono _ _ _)
      | (with_reducible exact due_Holy_Next.mono _ _ _)
      | (with_reducible exact due_Holy_Open.mono _ _ _)
      | (with_reducible exact LeO.refl _)
      | (with_reducible exact LeO.none _)
      | (with_reducible refine LeO.ite ?_ ?_)
      | (with_reducible refine LeO.bind ?_ (fun _ => ?_))
      | exact ih0 _ _ _ _ _ _
      | exact ih1 _ _ _ _
      | exact arrearslaw07_awake.mono _
      | exact arrearslaw07_few.mono _ _
      | exact arrearsref07_Next.mono _ _ _
      | exact arrearsref07_Open.mono _ _ _
      | exact due_Holy_Next.mono _ _ _
      | exact due_Holy_Open.mono _ _ _
      | exact LeO.none _
      | refine LeO.ite ?_ ?_
      | refine LeO.bind ?_ (fun _ => ?_)
theorem arrearslaw07_DueOpens.mono : ∀ a0 a1 k, LeO (arrearslaw07_DueOpens.f k a0 a1) (arrearslaw07_DueOpens.f (k + 1) a0 a1) := by
  intro a0 a1 k
  obtain ⟨ih0, ih1⟩ := arrearslaw07_DueOpens.mono_l k
  unfold arrearslaw07_DueOpens.f
  repeat' first
      | (with_reducible exact ih0 _ _ _ _ _ _)
      | (with_reducible exact ih1 _ _ _ _)
      | (with_reducible exact arrearslaw07_awake.mono _)
      | (with_reducible exact arrearslaw07_few.mono _ _)
      | (with_reducible exact arrearsref07_Next.mono _ _ _)
      | (with_reducible exact arrearsref07_Open.mono _ _ _)
      | (with_reducible exact due_Holy_Next.mono _ _ _)
      | (with_reducible exact due_Holy_Open.mono _ _ _)
      | (with_reducible exact LeO.refl _)
      | (with_reducible exact LeO.none _)
      | (with_reducible refine LeO.ite ?_ ?_)
      | (with_reducible refine LeO.bind ?_ (fun _ => ?_))
      | exact ih0 _ _ _ _ _ _
      | exact ih1 _ _ _ _
      | exact arrearslaw07_awake.mono _
      | exact arrearslaw07_few.mono _ _
      | exact arrearsref07_Next.mono _ _ _
      | exact arrearsref07_Open.mono _ _ _
      | exact due_Holy_Next.mono _ _ _
      | exact due_Holy_Open.mono _ _ _
      | exact LeO.none _
      | refine LeO.ite ?_ ?_
      | refine LeO.bind ?_ (fun _ => ?_)
set_option maxHeartbeats 8000000 in
set_option maxRecDepth 100000 in
theorem arrearslaw07_DueOpens.calls (k : Nat) (A0 : Option Addr) (c0 : Nat) (l0 : List Int) (a1 : Int) (r : Bool) (w : World) (hr0 : Kd.C (Kd.int .i32) w A0 l0.length l0) (hc0 : l0.length ≤ c0) (hG : Go.Proofs.YthokfepglahgpaaDoor.M.Laid w) (h : arrearslaw07_DueOpens.f k l0 a1 = some r) (hr : r = true) :
    Calls Tryd.prog 6 #[.slice A0 l0.length c0, .int .i32 a1] w fun e w' => e = .returned (.bool r) ∧ Below w.heap.size w w' := by
  have hu26 := Tryd.underlying26
  have hu45 := Tryd.underlying45
  have HR0 := Aside0.mk hr0
  have HC0 := Aside0.mk hc0
  clear hr0 hc0
  have HB := Aside0.mk (Below.refl w.heap.size w)
  have HG := Aside0.mk hG
  clear hG
  have HR := Aside0.mk hr
  clear hr
  have H : ((arrearslaw07_awake.f k).bind fun t176 => (if t176 = true then ((arrearslaw07_few.f k l0).bind fun bt177 => ((due_Holy_Next.f k bt177.1 a1).bind fun bt183 => (if a1 < 0 then (arrearslaw07_DueOpens.j0 k a1 bt177.1 bt177.2 bt183.1 bt183.2 true) else (arrearslaw07_DueOpens.j0 k a1 bt177.1 bt177.2 bt183.1 bt183.2 (decide (a1 > 3652058)))))) else (some false))) = some r := h
  clear h
  replace H := Option.bind_eq_some_iff.mp H
  obtain ⟨t176, A30, H⟩ := H
  replace H : (if t176 = true then ((arrearslaw07_few.f k l0).bind fun bt177 => ((due_Holy_Next.f k bt177.1 a1).bind fun bt183 => (if a1 < 0 then (arrearslaw07_DueOpens.j0 k a1 bt177.1 bt177.2 bt183.1 bt183.2 true) else (arrearslaw07_DueOpens.j0 k a1 bt177.1 bt177.2 bt183.1 bt183.2 (decide (a1 > 3652058)))))) else (some false)) = some r := H
  have A3 := Aside0.mk A30
  clear A30
  by_cases c4 : t176 = true
  · subst c4
    have H1 : ((arrearslaw07_few.f k l0).bind fun bt177 => ((due_Holy_Next.f k bt177.1 a1).bind fun bt183 => (if a1 < 0 then (arrearslaw07_DueOpens.j0 k a1 bt177.1 bt177.2 bt183.1 bt183.2 true) else (arrearslaw07_DueOpens.j0 k a1 bt177.1 bt177.2 bt183.1 bt183.2 (decide (a1 > 3652058)))))) = some r := by rw [if_pos rfl] at H; exact H
    clear H
    have H := H1
    clear H1
    replace H := Option.bind_eq_some_iff.mp H
    obtain ⟨⟨t177, t178⟩, A50, H⟩ := H
    replace H : ((due_Holy_Next.f k t177 a1).bind fun bt183 => (if a1 < 0 then (arrearslaw07_DueOpens.j0 k a1 t177 t178 bt183.1 bt183.2 true) else (arrearslaw07_DueOpens.j0 k a1 t177 t178 bt183.1 bt183.2 (decide (a1 > 3652058))))) = some r := H
    have A5 := Aside0.mk A50
    clear A50
    replace H := Option.bind_eq_some_iff.mp H
    obtain ⟨⟨t183, t184⟩, A60, H⟩ := H
    replace H : (if a1 < 0 then (arrearslaw07_DueOpens.j0 k a1 t177 t178 t183 t184 true) else (arrearslaw07_DueOpens.j0 k a1 t177 t178 t183 t184 (decide (a1 > 3652058)))) = some r := H
    have A6 := Aside0.mk A60
    clear A60
    have HC7 := Aside0.mk H
    clear H
    go_enter Tryd.func6, Tryd.ntmps6
    go_upto_region 5 with (first | ((with_reducible refine gate_callee (f := 9) rfl ?_); refine goesL_ (some 10) rfl rfl Tryd.func9 (by kernel_rfl) rfl #[] rfl (by (try simp only [List.map_toArray, List.map_cons, List.map_nil]); first | done | rfl | (simp only [List.length_drop, List.length_take]; rfl)) ?_; (with_reducible refine (arrearslaw07_awake.calls k  true _ ?hGL A3.out).mono ?_); (case hGL => exact Go.Proofs.YthokfepglahgpaaDoor.M.Laid.below HG.out (by repeat (first | (with_reducible first | exact HB.out | apply below_alloc | apply pw_below_drewN | apply below_drew1) | exact HB.out))); rintro e w8 ⟨rfl, hb⟩; refine ⟨_, rfl, ?_⟩; have n0_ := Aside0.mk (below_step (by repeat (first | (with_reducible first | exact HB.out | apply below_alloc | apply pw_below_drewN | apply below_drew1) | exact HB.out)) hb); clear HB; have HB := n0_; clear n0_; (try clear hb); (try clear hb2); (try clear hk); (try clear hi)) | ((with_reducible refine gate_callee (f := 13) rfl ?_); refine goesL_ (some 14) rfl rfl Tryd.func13 (by kernel_rfl) rfl #[.slice A0 l0.length c0] rfl (by (try simp only [List.map_toArray, List.map_cons, List.map_nil]); first | done | rfl | (simp only [List.length_drop, List.length_take]; rfl)) ?_; (with_reducible refine (arrearslaw07_few.calls k _ _ l0 t177 t178 _ ?side1 ?side2 A5.out).mono ?_); (case side1 => repeat (first | exact (Kd.C_below HR0.out HB.out) | (with_reducible refine Kd.C_alloc ?_ _) | (with_reducible refine Kd.C_drewN ?_ _) | (with_reducible refine Kd.C_drew ?_))); (case side2 => exact HC0.out); rintro e w9 ⟨v179, v181, rfl, ho0, ho1, hb⟩; refine ⟨_, rfl, ?_⟩; have n0_ := Aside0.mk (Kd.R_lower ho0 (below_size (by repeat (first | (with_reducible first | exact HB.out | apply below_alloc | apply pw_below_drewN | apply below_drew1) | exact HB.out)))); have n1_ := Aside0.mk (Kd.R_lower ho1 (below_size (by repeat (first | (with_reducible first | exact HB.out | apply below_alloc | apply pw_below_drewN | apply below_drew1) | exact HB.out)))); have n2_ := Aside0.mk (below_step (by repeat (first | (with_reducible first | exact HB.out | apply below_alloc | apply pw_below_drewN | apply below_drew1) | exact HB.out)) hb); clear HB; have HO180 := n0_; have HO182 := n1_; have HB := n2_; clear n0_ n1_ n2_; (try clear hb); (try clear hb2); (try clear hk); (try clear hi); (try clear ho0); (try clear ho1); obtain ⟨Ao10, co10, eo10⟩ := Kd.R_slice HO180.out; subst eo10) | ((with_reducible refine gate_callee (f := 16) rfl ?_); refine goesL_ (some 20) rfl rfl Tryd.func16 (by kernel_rfl) rfl #[.slice Ao10 t177.length co10, .int .i32 a1] rfl (by (try simp only [List.map_toArray, List.map_cons, List.map_nil]); first | done | rfl | (simp only [List.length_drop, List.length_take]; rfl)) ?_; (with_reducible refine (due_Holy_Next.calls k _ _ t177 a1 t183 t184 _ ?side1 ?side2 A6.out).mono ?_); (case side1 => repeat (first | exact (Kd.R_reads' HO180.out).2.2 | (with_reducible refine Kd.C_alloc ?_ _) | (with_reducible refine Kd.C_drewN ?_ _) | (with_reducible refine Kd.C_drew ?_))); (case side2 => exact (Kd.R_reads' HO180.out).2.1); rintro e w' ⟨rfl, ⟨nd, rfl⟩⟩; refine ⟨_, rfl, ?_⟩; (try simp only [errW_none, errW_some])))
    (try simp only [Act.put, List.setIfInBounds_toArray, List.set_cons_zero, List.set_cons_succ])
    go_cut [28] (fun v28 wc => ∃ (kq : Nat) (x28_6 : Bool), v28 = .bool x28_6 ∧ Aside0 (arrearslaw07_DueOpens.j0 kq a1 t177 t178 t183 t184 x28_6 = some r) ∧ Aside0 (kq ≤ k) ∧ Aside0 (Kd.R (Kd.int .i32) 22 wc w.heap.size (fun _ => True) (.slice Ao10 t177.length co10) t177) ∧ Aside0 (Kd.R (Kd.int .i64) 3 wc w.heap.size (fun _ => True) v181 t178) ∧ Aside0 (Below w.heap.size w wc))
    case first =>
      have H := HC7.out
      clear HC7
      by_cases c11 : a1 < 0
      · rw [if_pos c11] at H
        have c11b0 : decide (a1 < 0) = true := decide_eq_true c11
        clear c11
        (first | rw [c11b0] | (simp only [i64_w, i32_w]; rw [c11b0]) | skip)
        have H' := Aside0.mk H
        clear H
        go_wp2
        go_meet
        case rel => exact ⟨_, (true), (by first | rfl | (simp; done) | (simp [*]; done) | (exfalso; simp at *; omega)), H', ⟨by first | omega | exact Nat.le_refl _⟩, ⟨by (with_reducible repeat (first | apply Kd.R_alloc | apply Kd.R_drewN | apply Kd.R_drew)); exact HO180.out⟩, ⟨by (with_reducible repeat (first | apply Kd.R_alloc | apply Kd.R_drewN | apply Kd.R_drew)); exact HO182.out⟩, ⟨by repeat (first | (with_reducible first | exact HB.out | apply below_alloc | apply pw_below_drewN | apply below_drew1) | exact HB.out)⟩⟩
      · rw [if_neg c11] at H
        have c11b0 : decide (a1 < 0) = false := decide_eq_false c11
        clear c11
        (first | rw [c11b0] | (simp only [i64_w, i32_w]; rw [c11b0]) | skip)
        have H' := Aside0.mk H
        clear H
        go_wp2
        go_meet
        case rel => exact ⟨_, (decide (a1 > 3652058)), (by first | rfl | (simp; done) | (simp [*]; done) | (exfalso; simp at *; omega)), H', ⟨by first | omega | exact Nat.le_refl _⟩, ⟨by (with_reducible repeat (first | apply Kd.R_alloc | apply Kd.R_drewN | apply Kd.R_drew)); exact HO180.out⟩, ⟨by (with_reducible repeat (first | apply Kd.R_alloc | apply Kd.R_drewN | apply Kd.R_drew)); exact HO182.out⟩, ⟨by repeat (first | (with_reducible first | exact HB.out | apply below_alloc | apply pw_below_drewN | apply below_drew1) | exact HB.out)⟩⟩
    case rest =>
      clear HC7
      try clear c1
      try clear p2
      try clear c4
      try clear c6
      try clear c9
      try clear c11
      try clear c11b0
      obtain ⟨kq, x28_6, rfl, HA, HJ6, HO_5, HO_6, HB⟩ := hcut
      cases kq with
      | zero => exact absurd HA.out (by simp [arrearslaw07_DueOpens.j0])
      | succ kj6 =>
        have H := HA.out
        clear HA
        simp only [arrearslaw07_DueOpens.j0] at H
        by_cases c12 : x28_6 = true
        · subst c12
          have H1 : ((due_Holy_Open.f kj6 t177 a1).bind fun t185 => (if t185 = true then (some false) else ((api_Code.f t184).bind fun t186 => (some (t186 == 1))))) = some r := by rw [if_pos rfl] at H; exact H
          clear H
          have H := H1
          clear H1
          replace H := Option.bind_eq_some_iff.mp H
          obtain ⟨t185, A130, H⟩ := H
          replace H : (if t185 = true then (some false) else ((api_Code.f t184).bind fun t186 => (some (t186 == 1)))) = some r := H
          have A13 := Aside0.mk A130
          clear A130
          by_cases c14 : t185 = true
          · subst c14
            have H1 : (some false) = some r := by rw [if_pos rfl] at H; exact H
            clear H
            have H := H1
            clear H1
            exact absurd (H.trans (congrArg some HR.out)) (by simp)
          · replace c14 := Bool.eq_false_iff.mpr c14
            subst c14
            have H1 : ((api_Code.f t184).bind fun t186 => (some (t186 == 1))) = some r := by rw [if_neg (show ¬ (false = true) by decide)] at H; exact H
            clear H
            have H := H1
            clear H1
            replace H := Option.bind_eq_some_iff.mp H
            obtain ⟨t186, A150, H⟩ := H
            replace H : (some (t186 == 1)) = some r := H
            have A15 := Aside0.mk A150
            clear A150
            obtain rfl := Option.some.inj H
            go_wp2_with (first | ((with_reducible refine gate_callee (f := 17) rfl ?_); refine goesL_ (some 31) rfl rfl Tryd.func17 (by kernel_rfl) rfl #[.slice Ao10 t177.length co10, .int .i32 a1] rfl (by (try simp only [List.map_toArray, List.map_cons, List.map_nil]); first | done | rfl | (simp only [List.length_drop, List.length_take]; rfl)) ?_; (with_reducible refine (due_Holy_Open.calls kj6 _ _ t177 a1 false _ ?side1 ?side2 A13.out).mono ?_); (case side1 => repeat (first | exact (Kd.R_reads' HO_5.out).2.2 | (with_reducible refine Kd.C_alloc ?_ _) | (with_reducible refine Kd.C_drewN ?_ _) | (with_reducible refine Kd.C_drew ?_))); (case side2 => exact (Kd.R_reads' HO_5.out).2.1); rintro e w' ⟨rfl, ⟨nd, rfl⟩⟩; refine ⟨_, rfl, ?_⟩; have CA15 := fun W (hGW : Go.Proofs.YthokfepglahgpaaDoor.M.Laid W) => api_Code.calls t184 t186 W hGW A15.out; try simp only [errW_none, errW_some] at CA15) | (go_at_call 18; (with_reducible refine (CA15 _ ?hGL).mono ?_); (case hGL => exact Go.Proofs.YthokfepglahgpaaDoor.M.Laid.below HG.out (by repeat (first | (with_reducible first | exact HB.out | apply below_alloc | apply pw_below_drewN | apply below_drew1) | exact HB.out))); rintro e w16 ⟨rfl, hb⟩; have n0_ := Aside0.mk (Kd.R_below (by (with_reducible repeat (first | apply Kd.R_alloc | apply Kd.R_drewN | apply Kd.R_drew)); exact HO_5.out) hb); have n1_ := Aside0.mk (Kd.R_below (by (with_reducible repeat (first | apply Kd.R_alloc | apply Kd.R_drewN | apply Kd.R_drew)); exact HO_6.out) hb); have n2_ := Aside0.mk (below_step (by repeat (first | (with_reducible first | exact HB.out | apply below_alloc | apply pw_below_drewN | apply below_drew1) | exact HB.out)) hb); clear HO_5; clear HO_6; clear HB; have HO_5 := n0_; have HO_6 := n1_; have HB := n2_; clear n0_ n1_ n2_; (try clear hb); (try clear hb2); (try clear hk); (try clear hi)))
            go_ret
            exact ⟨by first | rfl | (simp [errW_none, errW_some] <;> rfl) | (simp [*, errW_none, errW_some] <;> rfl), by repeat (first | (with_reducible first | exact HB.out | apply below_alloc | apply pw_below_drewN | apply below_drew1) | exact HB.out)⟩
        · replace c12 := Bool.eq_false_iff.mpr c12
          subst c12
          have H1 : ((arrearsref07_Next.f kj6 t178 (wrap64 (a1))).bind fun t187 => ((due_Holy_Open.f kj6 t177 a1).bind fun t188 => ((arrearsref07_Open.f kj6 t178 (wrap64 (a1))).bind fun t189 => (if (t188 != t189) = true then (arrearslaw07_DueOpens.j1 kj6 t177 t183 t184 true) else (if t184.isNone = true then (if (true != (decide (t187 ≥ 0))) = true then (arrearslaw07_DueOpens.j1 kj6 t177 t183 none true) else (arrearslaw07_DueOpens.j1 kj6 t177 t183 none ((wrap64 (t183)) != t187))) else (if (false != (decide (t187 ≥ 0))) = true then (arrearslaw07_DueOpens.j1 kj6 t177 t183 (some (t184.getD 0)) true) else (arrearslaw07_DueOpens.j1 kj6 t177 t183 (some (t184.getD 0)) false))))))) = some r := by rw [if_neg (show ¬ (false = true) by decide)] at H; exact H
          clear H
          have H := H1
          clear H1
          replace H := Option.bind_eq_some_iff.mp H
          obtain ⟨t187, A170, H⟩ := H
          replace H : ((due_Holy_Open.f kj6 t177 a1).bind fun t188 => ((arrearsref07_Open.f kj6 t178 (wrap64 (a1))).bind fun t189 => (if (t188 != t189) = true then (arrearslaw07_DueOpens.j1 kj6 t177 t183 t184 true) else (if t184.isNone = true then (if (true != (decide (t187 ≥ 0))) = true then (arrearslaw07_DueOpens.j1 kj6 t177 t183 none true) else (arrearslaw07_DueOpens.j1 kj6 t177 t183 none ((wrap64 (t183)) != t187))) else (if (false != (decide (t187 ≥ 0))) = true then (arrearslaw07_DueOpens.j1 kj6 t177 t183 (some (t184.getD 0)) true) else (arrearslaw07_DueOpens.j1 kj6 t177 t183 (some (t184.getD 0)) false)))))) = some r := H
          have A17 := Aside0.mk A170
          clear A170
          have HC18 := Aside0.mk H
          clear H
          obtain ⟨Ao19, co19, eo19⟩ := Kd.R_slice HO_6.out
          subst eo19
          go_upto_region 8 with (first | ((with_reducible refine gate_callee (f := 19) rfl ?_); refine goesL_ (some 41) rfl rfl Tryd.func19 (by kernel_rfl) rfl #[.slice Ao19 t178.length co19, .int .i64 (wrap64 (a1))] rfl (by (try simp only [List.map_toArray, List.map_cons, List.map_nil]); first | done | rfl | (simp only [List.length_drop, List.length_take]; rfl)) ?_; (with_reducible refine (arrearsref07_Next.calls kj6 _ _ t178 (wrap64 (a1)) t187 _ ?side1 ?side2 A17.out).mono ?_); (case side1 => repeat (first | exact (Kd.R_reads' HO_6.out).2.2 | (with_reducible refine Kd.C_alloc ?_ _) | (with_reducible refine Kd.C_drewN ?_ _) | (with_reducible refine Kd.C_drew ?_))); (case side2 => exact (Kd.R_reads' HO_6.out).2.1); rintro e w' ⟨rfl, ⟨nd, rfl⟩⟩; refine ⟨_, rfl, ?_⟩))
          (try simp only [Act.put, List.setIfInBounds_toArray, List.set_cons_zero, List.set_cons_succ])
          go_cut [66] (fun v66 wc => ∃ (kq : Nat) (x66_17 : Bool), v66 = .bool x66_17 ∧ Aside0 (arrearslaw07_DueOpens.j1 kq t177 t183 t184 x66_17 = some r) ∧ Aside0 (kq ≤ kj6) ∧ Aside0 (Kd.R (Kd.int .i32) 22 wc w.heap.size (fun _ => True) (.slice Ao10 t177.length co10) t177) ∧ Aside0 (Below w.heap.size w wc))
          case first =>
            have H := HC18.out
            clear HC18
            replace H := Option.bind_eq_some_iff.mp H
            obtain ⟨t188, A200, H⟩ := H
            replace H : ((arrearsref07_Open.f kj6 t178 (wrap64 (a1))).bind fun t189 => (if (t188 != t189) = true then (arrearslaw07_DueOpens.j1 kj6 t177 t183 t184 true) else (if t184.isNone = true then (if (true != (decide (t187 ≥ 0))) = true then (arrearslaw07_DueOpens.j1 kj6 t177 t183 none true) else (arrearslaw07_DueOpens.j1 kj6 t177 t183 none ((wrap64 (t183)) != t187))) else (if (false != (decide (t187 ≥ 0))) = true then (arrearslaw07_DueOpens.j1 kj6 t177 t183 (some (t184.getD 0)) true) else (arrearslaw07_DueOpens.j1 kj6 t177 t183 (some (t184.getD 0)) false))))) = some r := H
            have A20 := Aside0.mk A200
            clear A200
            replace H := Option.bind_eq_some_iff.mp H
            obtain ⟨t189, A210, H⟩ := H
            replace H : (if (t188 != t189) = true then (arrearslaw07_DueOpens.j1 kj6 t177 t183 t184 true) else (if t184.isNone = true then (if (true != (decide (t187 ≥ 0))) = true then (arrearslaw07_DueOpens.j1 kj6 t177 t183 none true) else (arrearslaw07_DueOpens.j1 kj6 t177 t183 none ((wrap64 (t183)) != t187))) else (if (false != (decide (t187 ≥ 0))) = true then (arrearslaw07_DueOpens.j1 kj6 t177 t183 (some (t184.getD 0)) true) else (arrearslaw07_DueOpens.j1 kj6 t177 t183 (some (t184.getD 0)) false)))) = some r := H
            have A21 := Aside0.mk A210
            clear A210
            by_cases c22 : (t188 != t189) = true
            · rw [if_pos c22] at H
              have c22b0 : (t188 != t189) = true := c22
              (try (have c22b1 : decide (t188 = t189) = false := by simpa using c22))
              (try (have c22b2 : (t188 == t189) = false := by simpa using c22))
              (try (have c22b3 : ¬ (t188 = t189) := by simpa using c22))
              clear c22
              (first | rw [c22b0] | (simp only [i64_w, i32_w]; rw [c22b0]) | skip)
              have H' := Aside0.mk H
              clear H
              go_wp2_with (first | ((with_reducible refine gate_callee (f := 17) rfl ?_); refine goesL_ (some 44) rfl rfl Tryd.func17 (by kernel_rfl) rfl #[.slice Ao10 t177.length co10, .int .i32 a1] rfl (by (try simp only [List.map_toArray, List.map_cons, List.map_nil]); first | done | rfl | (simp only [List.length_drop, List.length_take]; rfl)) ?_; (with_reducible refine (due_Holy_Open.calls kj6 _ _ t177 a1 t188 _ ?side1 ?side2 A20.out).mono ?_); (case side1 => repeat (first | exact (Kd.R_reads' HO_5.out).2.2 | (with_reducible refine Kd.C_alloc ?_ _) | (with_reducible refine Kd.C_drewN ?_ _) | (with_reducible refine Kd.C_drew ?_))); (case side2 => exact (Kd.R_reads' HO_5.out).2.1); rintro e w' ⟨rfl, ⟨nd, rfl⟩⟩; refine ⟨_, rfl, ?_⟩) | ((with_reducible refine gate_callee (f := 20) rfl ?_); refine goesL_ (some 48) rfl rfl Tryd.func20 (by kernel_rfl) rfl #[.slice Ao19 t178.length co19, .int .i64 (wrap64 (a1))] rfl (by (try simp only [List.map_toArray, List.map_cons, List.map_nil]); first | done | rfl | (simp only [List.length_drop, List.length_take]; rfl)) ?_; (with_reducible refine (arrearsref07_Open.calls kj6 _ _ t178 (wrap64 (a1)) t189 _ ?side1 ?side2 A21.out).mono ?_); (case side1 => repeat (first | exact (Kd.R_reads' HO_6.out).2.2 | (with_reducible refine Kd.C_alloc ?_ _) | (with_reducible refine Kd.C_drewN ?_ _) | (with_reducible refine Kd.C_drew ?_))); (case side2 => exact (Kd.R_reads' HO_6.out).2.1); rintro e w' ⟨rfl, ⟨nd, rfl⟩⟩; refine ⟨_, rfl, ?_⟩))
              go_meet
              case rel => exact ⟨_, (true), (by first | rfl | (simp; done) | (simp [*]; done) | (exfalso; simp at *; omega)), H', ⟨by have := HJ6.out; first | omega | exact Nat.le_refl _⟩, ⟨by (with_reducible repeat (first | apply Kd.R_alloc | apply Kd.R_drewN | apply Kd.R_drew)); exact HO_5.out⟩, ⟨by repeat (first | (with_reducible first | exact HB.out | apply below_alloc | apply pw_below_drewN | apply below_drew1) | exact HB.out)⟩⟩
            · rw [if_neg c22] at H
              have c22b0 : (t188 != t189) = false := by simpa using c22
              (try (have c22b1 : decide (t188 = t189) = true := by simpa using c22))
              (try (have c22b2 : (t188 == t189) = true := by simpa using c22))
              clear c22
              (first | rw [c22b0] | (simp only [i64_w, i32_w]; rw [c22b0]) | skip)
              rcases t184 with _ | q190
              · have H1 : (if (true != (decide (t187 ≥ 0))) = true then (arrearslaw07_DueOpens.j1 kj6 t177 t183 none true) else (arrearslaw07_DueOpens.j1 kj6 t177 t183 none ((wrap64 (t183)) != t187))) = some r := by rw [if_pos (show (none : Option Int).isNone = true by rfl)] at H; exact H
                clear H
                have H := H1
                clear H1
                try simp only [errW_none, errW_some]
                by_cases c23 : (true != (decide (t187 ≥ 0))) = true
                · rw [if_pos c23] at H
                  have c23b0 : (true != (decide (t187 ≥ 0))) = true := c23
                  (try (have c23b1 : decide (true = (decide (t187 ≥ 0))) = false := by simpa using c23))
                  (try (have c23b2 : (true == (decide (t187 ≥ 0))) = false := by simpa using c23))
                  (try (have c23b3 : ¬ (true = (decide (t187 ≥ 0))) := by simpa using c23))
                  clear c23
                  have H' := Aside0.mk H
                  clear H
                  go_wp2_with (first | ((with_reducible refine gate_callee (f := 17) rfl ?_); refine goesL_ (some 44) rfl rfl Tryd.func17 (by kernel_rfl) rfl #[.slice Ao10 t177.length co10, .int .i32 a1] rfl (by (try simp only [List.map_toArray, List.map_cons, List.map_nil]); first | done | rfl | (simp only [List.length_drop, List.length_take]; rfl)) ?_; (with_reducible refine (due_Holy_Open.calls kj6 _ _ t177 a1 t188 _ ?side1 ?side2 A20.out).mono ?_); (case side1 => repeat (first | exact (Kd.R_reads' HO_5.out).2.2 | (with_reducible refine Kd.C_alloc ?_ _) | (with_reducible refine Kd.C_drewN ?_ _) | (with_reducible refine Kd.C_drew ?_))); (case side2 => exact (Kd.R_reads' HO_5.out).2.1); rintro e w' ⟨rfl, ⟨nd, rfl⟩⟩; refine ⟨_, rfl, ?_⟩) | ((with_reducible refine gate_callee (f := 20) rfl ?_); refine goesL_ (some 48) rfl rfl Tryd.func20 (by kernel_rfl) rfl #[.slice Ao19 t178.length co19, .int .i64 (wrap64 (a1))] rfl (by (try simp only [List.map_toArray, List.map_cons, List.map_nil]); first | done | rfl | (simp only [List.length_drop, List.length_take]; rfl)) ?_; (with_reducible refine (arrearsref07_Open.calls kj6 _ _ t178 (wrap64 (a1)) t189 _ ?side1 ?side2 A21.out).mono ?_); (case side1 => repeat (first | exact (Kd.R_reads' HO_6.out).2.2 | (with_reducible refine Kd.C_alloc ?_ _) | (with_reducible refine Kd.C_drewN ?_ _) | (with_reducible refine Kd.C_drew ?_))); (case side2 => exact (Kd.R_reads' HO_6.out).2.1); rintro e w' ⟨rfl, ⟨nd, rfl⟩⟩; refine ⟨_, rfl, ?_⟩))
                  go_meet
                  case rel => exact ⟨_, (true), (by first | rfl | (simp; done) | (simp [*]; done) | (exfalso; simp at *; omega)), H', ⟨by have := HJ6.out; first | omega | exact Nat.le_refl _⟩, ⟨by (with_reducible repeat (first | apply Kd.R_alloc | apply Kd.R_drewN | apply Kd.R_drew)); exact HO_5.out⟩, ⟨by repeat (first | (with_reducible first | exact HB.out | apply below_alloc | apply pw_below_drewN | apply below_drew1) | exact HB.out)⟩⟩
                · rw [if_neg c23] at H
                  have c23b0 : (true != (decide (t187 ≥ 0))) = false := by simpa using c23
                  (try (have c23b1 : decide (true = (decide (t187 ≥ 0))) = true := by simpa using c23))
                  (try (have c23b2 : (true == (decide (t187 ≥ 0))) = true := by simpa using c23))
                  clear c23
                  have H' := Aside0.mk H
                  clear H
                  go_wp2_with (first | ((with_reducible refine gate_callee (f := 17) rfl ?_); refine goesL_ (some 44) rfl rfl Tryd.func17 (by kernel_rfl) rfl #[.slice Ao10 t177.length co10, .int .i32 a1] rfl (by (try simp only [List.map_toArray, List.map_cons, List.map_nil]); first | done | rfl | (simp only [List.length_drop, List.length_take]; rfl)) ?_; (with_reducible refine (due_Holy_Open.calls kj6 _ _ t177 a1 t188 _ ?side1 ?side2 A20.out).mono ?_); (case side1 => repeat (first | exact (Kd.R_reads' HO_5.out).2.2 | (with_reducible refine Kd.C_alloc ?_ _) | (with_reducible refine Kd.C_drewN ?_ _) | (with_reducible refine Kd.C_drew ?_))); (case side2 => exact (Kd.R_reads' HO_5.out).2.1); rintro e w' ⟨rfl, ⟨nd, rfl⟩⟩; refine ⟨_, rfl, ?_⟩) | ((with_reducible refine gate_callee (f := 20) rfl ?_); refine goesL_ (some 48) rfl rfl Tryd.func20 (by kernel_rfl) rfl #[.slice Ao19 t178.length co19, .int .i64 (wrap64 (a1))] rfl (by (try simp only [List.map_toArray, List.map_cons, List.map_nil]); first | done | rfl | (simp only [List.length_drop, List.length_take]; rfl)) ?_; (with_reducible refine (arrearsref07_Open.calls kj6 _ _ t178 (wrap64 (a1)) t189 _ ?side1 ?side2 A21.out).mono ?_); (case side1 => repeat (first | exact (Kd.R_reads' HO_6.out).2.2 | (with_reducible refine Kd.C_alloc ?_ _) | (with_reducible refine Kd.C_drewN ?_ _) | (with_reducible refine Kd.C_drew ?_))); (case side2 => exact (Kd.R_reads' HO_6.out).2.1); rintro e w' ⟨rfl, ⟨nd, rfl⟩⟩; refine ⟨_, rfl, ?_⟩))
                  go_meet
                  case rel => exact ⟨_, (((wrap64 (t183)) != t187)), (by first | rfl | (simp; done) | (simp [*]; done) | (exfalso; simp at *; omega)), H', ⟨by have := HJ6.out; first | omega | exact Nat.le_refl _⟩, ⟨by (with_reducible repeat (first | apply Kd.R_alloc | apply Kd.R_drewN | apply Kd.R_drew)); exact HO_5.out⟩, ⟨by repeat (first | (with_reducible first | exact HB.out | apply below_alloc | apply pw_below_drewN | apply below_drew1) | exact HB.out)⟩⟩
              · have H1 : (if (false != (decide (t187 ≥ 0))) = true then (arrearslaw07_DueOpens.j1 kj6 t177 t183 (some q190) true) else (arrearslaw07_DueOpens.j1 kj6 t177 t183 (some q190) false)) = some r := by rw [if_neg (show ¬ (some q190).isNone = true by simp)] at H; exact H
                clear H
                have H := H1
                clear H1
                try simp only [errW_none, errW_some]
                by_cases c24 : (false != (decide (t187 ≥ 0))) = true
                · rw [if_pos c24] at H
                  have c24b0 : (false != (decide (t187 ≥ 0))) = true := c24
                  (try (have c24b1 : decide (false = (decide (t187 ≥ 0))) = false := by simpa using c24))
                  (try (have c24b2 : (false == (decide (t187 ≥ 0))) = false := by simpa using c24))
                  (try (have c24b3 : ¬ (false = (decide (t187 ≥ 0))) := by simpa using c24))
                  clear c24
                  have H' := Aside0.mk H
                  clear H
                  go_wp2_with (first | ((with_reducible refine gate_callee (f := 17) rfl ?_); refine goesL_ (some 44) rfl rfl Tryd.func17 (by kernel_rfl) rfl #[.slice Ao10 t177.length co10, .int .i32 a1] rfl (by (try simp only [List.map_toArray, List.map_cons, List.map_nil]); first | done | rfl | (simp only [List.length_drop, List.length_take]; rfl)) ?_; (with_reducible refine (due_Holy_Open.calls kj6 _ _ t177 a1 t188 _ ?side1 ?side2 A20.out).mono ?_); (case side1 => repeat (first | exact (Kd.R_reads' HO_5.out).2.2 | (with_reducible refine Kd.C_alloc ?_ _) | (with_reducible refine Kd.C_drewN ?_ _) | (with_reducible refine Kd.C_drew ?_))); (case side2 => exact (Kd.R_reads' HO_5.out).2.1); rintro e w' ⟨rfl, ⟨nd, rfl⟩⟩; refine ⟨_, rfl, ?_⟩) | ((with_reducible refine gate_callee (f := 20) rfl ?_); refine goesL_ (some 48) rfl rfl Tryd.func20 (by kernel_rfl) rfl #[.slice Ao19 t178.length co19, .int .i64 (wrap64 (a1))] rfl (by (try simp only [List.map_toArray, List.map_cons, List.map_nil]); first | done | rfl | (simp only [List.length_drop, List.length_take]; rfl)) ?_; (with_reducible refine (arrearsref07_Open.calls kj6 _ _ t178 (wrap64 (a1)) t189 _ ?side1 ?side2 A21.out).mono ?_); (case side1 => repeat (first | exact (Kd.R_reads' HO_6.out).2.2 | (with_reducible refine Kd.C_alloc ?_ _) | (with_reducible refine Kd.C_drewN ?_ _) | (with_reducible refine Kd.C_drew ?_))); (case side2 => exact (Kd.R_reads' HO_6.out).2.1); rintro e w' ⟨rfl, ⟨nd, rfl⟩⟩; refine ⟨_, rfl, ?_⟩))
                  go_meet
                  case rel => exact ⟨_, (true), (by first | rfl | (simp; done) | (simp [*]; done) | (exfalso; simp at *; omega)), H', ⟨by have := HJ6.out; first | omega | exact Nat.le_refl _⟩, ⟨by (with_reducible repeat (first | apply Kd.R_alloc | apply Kd.R_drewN | apply Kd.R_drew)); exact HO_5.out⟩, ⟨by repeat (first | (with_reducible first | exact HB.out | apply below_alloc | apply pw_below_drewN | apply below_drew1) | exact HB.out)⟩⟩
                · rw [if_neg c24] at H
                  have c24b0 : (false != (decide (t187 ≥ 0))) = false := by simpa using c24
                  (try (have c24b1 : decide (false = (decide (t187 ≥ 0))) = true := by simpa using c24))
                  (try (have c24b2 : (false == (decide (t187 ≥ 0))) = true := by simpa using c24))
                  clear c24
                  have H' := Aside0.mk H
                  clear H
                  go_wp2_with (first | ((with_reducible refine gate_callee (f := 17) rfl ?_); refine goesL_ (some 44) rfl rfl Tryd.func17 (by kernel_rfl) rfl #[.slice Ao10 t177.length co10, .int .i32 a1] rfl (by (try simp only [List.map_toArray, List.map_cons, List.map_nil]); first | done | rfl | (simp only [List.length_drop, List.length_take]; rfl)) ?_; (with_reducible refine (due_Holy_Open.calls kj6 _ _ t177 a1 t188 _ ?side1 ?side2 A20.out).mono ?_); (case side1 => repeat (first | exact (Kd.R_reads' HO_5.out).2.2 | (with_reducible refine Kd.C_alloc ?_ _) | (with_reducible refine Kd.C_drewN ?_ _) | (with_reducible refine Kd.C_drew ?_))); (case side2 => exact (Kd.R_reads' HO_5.out).2.1); rintro e w' ⟨rfl, ⟨nd, rfl⟩⟩; refine ⟨_, rfl, ?_⟩) | ((with_reducible refine gate_callee (f := 20) rfl ?_); refine goesL_ (some 48) rfl rfl Tryd.func20 (by kernel_rfl) rfl #[.slice Ao19 t178.length co19, .int .i64 (wrap64 (a1))] rfl (by (try simp only [List.map_toArray, List.map_cons, List.map_nil]); first | done | rfl | (simp only [List.length_drop, List.length_take]; rfl)) ?_; (with_reducible refine (arrearsref07_Open.calls kj6 _ _ t178 (wrap64 (a1)) t189 _ ?side1 ?side2 A21.out).mono ?_); (case side1 => repeat (first | exact (Kd.R_reads' HO_6.out).2.2 | (with_reducible refine Kd.C_alloc ?_ _) | (with_reducible refine Kd.C_drewN ?_ _) | (with_reducible refine Kd.C_drew ?_))); (case side2 => exact (Kd.R_reads' HO_6.out).2.1); rintro e w' ⟨rfl, ⟨nd, rfl⟩⟩; refine ⟨_, rfl, ?_⟩))
                  go_meet
                  case rel => exact ⟨_, (false), (by first | rfl | (simp; done) | (simp [*]; done) | (exfalso; simp at *; omega)), H', ⟨by have := HJ6.out; first | omega | exact Nat.le_refl _⟩, ⟨by (with_reducible repeat (first | apply Kd.R_alloc | apply Kd.R_drewN | apply Kd.R_drew)); exact HO_5.out⟩, ⟨by repeat (first | (with_reducible first | exact HB.out | apply below_alloc | apply pw_below_drewN | apply below_drew1) | exact HB.out)⟩⟩
          case rest =>
            clear HC18
            try clear c1
            try clear q1
            try clear c2
            try clear p2
            try clear c4
            try clear c6
            try clear p6
            try clear c9
            try clear c11
            try clear c11b0
            try clear c12
            try clear c13
            try clear c14
            try clear c16
            try clear c17
            try clear c19
            try clear q19
            try clear c20
            try clear c22
            try clear c22b0
            try clear c22b1
            try clear c22b2
            try clear c23
            try clear c23b0
            try clear c23b1
            try clear c23b2
            try clear c24
            try clear c24b0
            try clear c24b1
            try clear c24b2
            try clear p2
            try clear q190
            obtain ⟨kq, x66_17, rfl, HA, HJ17, HO_5, HB⟩ := hcut
            cases kq with
            | zero => exact absurd HA.out (by simp [arrearslaw07_DueOpens.j1])
            | succ kj17 =>
              have H := HA.out
              clear HA
              simp only [arrearslaw07_DueOpens.j1] at H
              by_cases c25 : x66_17 = true
              · subst c25
                have H1 : (some false) = some r := by rw [if_pos rfl] at H; exact H
                clear H
                have H := H1
                clear H1
                exact absurd (H.trans (congrArg some HR.out)) (by simp)
              · replace c25 := Bool.eq_false_iff.mpr c25
                subst c25
                have H1 : (if t184.isNone = true then ((due_Holy_Open.f kj17 t177 t183).bind fun t192 => (if t192 = true then (some true) else ((api_Code.f none).bind fun t193 => (some (t193 == 12))))) else ((api_Code.f (some (t184.getD 0))).bind fun t194 => (some (t194 == 12)))) = some r := by rw [if_neg (show ¬ (false = true) by decide)] at H; exact H
                clear H
                have H := H1
                clear H1
                rcases t184 with _ | q191
                · have H1 : ((due_Holy_Open.f kj17 t177 t183).bind fun t192 => (if t192 = true then (some true) else ((api_Code.f none).bind fun t193 => (some (t193 == 12))))) = some r := by rw [if_pos (show (none : Option Int).isNone = true by rfl)] at H; exact H
                  clear H
                  have H := H1
                  clear H1
                  try simp only [errW_none, errW_some]
                  replace H := Option.bind_eq_some_iff.mp H
                  obtain ⟨t192, A260, H⟩ := H
                  replace H : (if t192 = true then (some true) else ((api_Code.f none).bind fun t193 => (some (t193 == 12)))) = some r := H
                  have A26 := Aside0.mk A260
                  clear A260
                  by_cases c27 : t192 = true
                  · subst c27
                    have H1 : (some true) = some r := by rw [if_pos rfl] at H; exact H
                    clear H
                    have H := H1
                    clear H1
                    obtain rfl := Option.some.inj H
                    go_wp2_with (first | (go_at_call 17; (with_reducible refine (due_Holy_Open.calls kj17 _ _ t177 t183 true _ ?side1 ?side2 A26.out).mono ?_); (case side1 => repeat (first | exact (Kd.R_reads' HO_5.out).2.2 | (with_reducible refine Kd.C_alloc ?_ _) | (with_reducible refine Kd.C_drewN ?_ _) | (with_reducible refine Kd.C_drew ?_))); (case side2 => exact (Kd.R_reads' HO_5.out).2.1); rintro e w' ⟨rfl, ⟨nd, rfl⟩⟩))
                    go_ret
                    exact ⟨by first | rfl | (simp [errW_none, errW_some] <;> rfl) | (simp [*, errW_none, errW_some] <;> rfl), by repeat (first | (with_reducible first | exact HB.out | apply below_alloc | apply pw_below_drewN | apply below_drew1) | exact HB.out)⟩
                  · replace c27 := Bool.eq_false_iff.mpr c27
                    subst c27
                    have H1 : ((api_Code.f none).bind fun t193 => (some (t193 == 12))) = some r := by rw [if_neg (show ¬ (false = true) by decide)] at H; exact H
                    clear H
                    have H := H1
                    clear H1
                    replace H := Option.bind_eq_some_iff.mp H
                    obtain ⟨t193, A280, H⟩ := H
                    replace H : (some (t193 == 12)) = some r := H
                    have A28 := Aside0.mk A280
                    clear A280
                    obtain rfl := Option.some.inj H
                    go_wp2_with (first | (go_at_call 17; (with_reducible refine (due_Holy_Open.calls kj17 _ _ t177 t183 false _ ?side1 ?side2 A26.out).mono ?_); (case side1 => repeat (first | exact (Kd.R_reads' HO_5.out).2.2 | (with_reducible refine Kd.C_alloc ?_ _) | (with_reducible refine Kd.C_drewN ?_ _) | (with_reducible refine Kd.C_drew ?_))); (case side2 => exact (Kd.R_reads' HO_5.out).2.1); rintro e w' ⟨rfl, ⟨nd, rfl⟩⟩; have CA28 := fun W (hGW : Go.Proofs.YthokfepglahgpaaDoor.M.Laid W) => api_Code.calls none t193 W hGW A28.out; try simp only [errW_none, errW_some] at CA28) | (go_at_call 18; (with_reducible refine (CA28 _ ?hGL).mono ?_); (case hGL => exact Go.Proofs.YthokfepglahgpaaDoor.M.Laid.below HG.out (by repeat (first | (with_reducible first | exact HB.out | apply below_alloc | apply pw_below_drewN | apply below_drew1) | exact HB.out))); rintro e w29 ⟨rfl, hb⟩; have n0_ := Aside0.mk (Kd.R_below (by (with_reducible repeat (first | apply Kd.R_alloc | apply Kd.R_drewN | apply Kd.R_drew)); exact HO_5.out) hb); have n1_ := Aside0.mk (below_step (by repeat (first | (with_reducible first | exact HB.out | apply below_alloc | apply pw_below_drewN | apply below_drew1) | exact HB.out)) hb); clear HO_5; clear HB; have HO_5 := n0_; have HB := n1_; clear n0_ n1_; (try clear hb); (try clear hb2); (try clear hk); (try clear hi)))
                    go_ret
                    exact ⟨by first | rfl | (simp [errW_none, errW_some] <;> rfl) | (simp [*, errW_none, errW_some] <;> rfl), by repeat (first | (with_reducible first | exact HB.out | apply below_alloc | apply pw_below_drewN | apply below_drew1) | exact HB.out)⟩
                · have H1 : ((api_Code.f (some q191)).bind fun t194 => (some (t194 == 12))) = some r := by rw [if_neg (show ¬ (some q191).isNone = true by simp)] at H; exact H
                  clear H
                  have H := H1
                  clear H1
                  try simp only [errW_none, errW_some]
                  replace H := Option.bind_eq_some_iff.mp H
                  obtain ⟨t194, A300, H⟩ := H
                  replace H : (some (t194 == 12)) = some r := H
                  have A30 := Aside0.mk A300
                  clear A300
                  obtain rfl := Option.some.inj H
                  have CA30 := fun W (hGW : Go.Proofs.YthokfepglahgpaaDoor.M.Laid W) => api_Code.calls (some q191) t194 W hGW A30.out
                  try simp only [errW_none, errW_some] at CA30
                  go_wp2_with (first | (go_at_call 18; (with_reducible refine (CA30 _ ?hGL).mono ?_); (case hGL => exact Go.Proofs.YthokfepglahgpaaDoor.M.Laid.below HG.out (by repeat (first | (with_reducible first | exact HB.out | apply below_alloc | apply pw_below_drewN | apply below_drew1) | exact HB.out))); rintro e w31 ⟨rfl, hb⟩; have n0_ := Aside0.mk (Kd.R_below (by (with_reducible repeat (first | apply Kd.R_alloc | apply Kd.R_drewN | apply Kd.R_drew)); exact HO_5.out) hb); have n1_ := Aside0.mk (below_step (by repeat (first | (with_reducible first | exact HB.out | apply below_alloc | apply pw_below_drewN | apply below_drew1) | exact HB.out)) hb); clear HO_5; clear HB; have HO_5 := n0_; have HB := n1_; clear n0_ n1_; (try clear hb); (try clear hb2); (try clear hk); (try clear hi)))
                  go_ret
                  exact ⟨by first | rfl | (simp [errW_none, errW_some] <;> rfl) | (simp [*, errW_none, errW_some] <;> rfl), by repeat (first | (with_reducible first | exact HB.out | apply below_alloc | apply pw_below_drewN | apply below_drew1) | exact HB.out)⟩
  · replace c4 := Bool.eq_false_iff.mpr c4
    subst c4
    have H1 : (some false) = some r := by rw [if_neg (show ¬ (false = true) by decide)] at H; exact H
    clear H
    have H := H1
    clear H1
    exact absurd (H.trans (congrArg some HR.out)) (by simp)
end Go.Proofs.YthokfepglahgpaaDoor.PDueOpens
