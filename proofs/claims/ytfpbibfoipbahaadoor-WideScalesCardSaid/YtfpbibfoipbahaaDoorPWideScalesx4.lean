-- Printed by a wrapper of this session's round the kit's print.py; Lean checks it.
import Derived.Test.YtfpbibfoipbahaaDoorPWideScalesx0
import Derived.Test.YtfpbibfoipbahaaDoorPWideScalesx1
import Derived.Test.YtfpbibfoipbahaaDoorPWideScalesx2
import Derived.Test.YtfpbibfoipbahaaDoorPWideScalesx3
namespace Go.Proofs.YtfpbibfoipbahaaDoor.PWideScales
open Go.RowKit Go.Proofs.YtfpbibfoipbahaaDoorW.PrintWords Go.Proofs.YtfpbibfoipbahaaDoorW.PrintLast Go.Proofs.YtfpbibfoipbahaaDoorW.PrintMore
attribute [local go_sem] max2_int min2_int max_two min_two max_three min_three max_four min_four   -- for this text's walks alone
set_option linter.unusedVariables false
set_option linter.unusedSimpArgs false

/-! ### arrearslaw03_WideScales: function 3 -/
mutual
def arrearslaw03_WideScales.j0 : Nat → Int → Int → Int → Int → Int → Int → Bool → Option (Bool)
  | 0, _, _, _, _, _, _, _ => none
  | k + 1, x0, x1, x2, x7, x8, x12, x47 => if x47 = true then (some false) else ((wide_Round.f k x0 x1 x2).bind fun bt158 => (if x12 = 0 then (if x8 ≥ (IntKind.u64.wrap (x2 - x8)) then (arrearslaw03_WideScales.j1 k x7 bt158.1 bt158.2 (decide (x8 ≥ (IntKind.u64.wrap (x2 - x8)))) (x7 == 18446744073709551615)) else (arrearslaw03_WideScales.j1 k x7 bt158.1 bt158.2 (decide (x8 ≥ (IntKind.u64.wrap (x2 - x8)))) false)) else ((api_Code.f bt158.2).bind fun t160 => (if t160 = x12 then (some (bt158.1 == 0)) else (some false)))))
def arrearslaw03_WideScales.j1 : Nat → Int → Int → Option Int → Bool → Bool → Option (Bool)
  | 0, _, _, _, _, _ => none
  | k + 1, x7, x13, x14, x15, x74 => if x74 = true then ((api_Code.f x14).bind fun t161 => (if t161 = 12 then (some (x13 == 0)) else (some false))) else (if x15 = true then (if x14.isNone = true then (some (x13 == (IntKind.u64.wrap (x7 + 1)))) else (some false)) else (if x14.isNone = true then (some (x13 == x7)) else (some false)))
end
def arrearslaw03_WideScales.f (k : Nat) (a0 : Int) (a1 : Int) (a2 : Int) : Option (Bool) := (arrearslaw03_awake.f k).bind fun t150 => (if t150 = true then ((wide_Scale.f k a0 a1 a2).bind fun bt151 => ((arrearsref03_Scale.f a0 a1 a2).bind fun bt154 => ((api_Code.f bt151.2.2).bind fun t157 => (if t157 = bt154.2.2 then (if bt151.1 = bt154.1 then (arrearslaw03_WideScales.j0 k a0 a1 a2 bt151.1 bt151.2.1 bt154.2.2 (bt151.2.1 != bt154.2.1)) else (arrearslaw03_WideScales.j0 k a0 a1 a2 bt151.1 bt151.2.1 bt154.2.2 true)) else (arrearslaw03_WideScales.j0 k a0 a1 a2 bt151.1 bt151.2.1 bt154.2.2 true))))) else (some false))
theorem arrearslaw03_WideScales.mono_l : ∀ k, (∀ y0 y1 y2 y3 y4 y5 y6, LeO (arrearslaw03_WideScales.j0 k y0 y1 y2 y3 y4 y5 y6) (arrearslaw03_WideScales.j0 (k + 1) y0 y1 y2 y3 y4 y5 y6)) ∧ (∀ y0 y1 y2 y3 y4, LeO (arrearslaw03_WideScales.j1 k y0 y1 y2 y3 y4) (arrearslaw03_WideScales.j1 (k + 1) y0 y1 y2 y3 y4))
  | 0 => ⟨fun _ _ _ _ _ _ _ r h => by simp [arrearslaw03_WideScales.j0] at h, fun _ _ _ _ _ r h => by simp [arrearslaw03_WideScales.j1] at h⟩
  | k + 1 => by
    obtain ⟨ih0, ih1⟩ := arrearslaw03_WideScales.mono_l k
    refine ⟨?_, ?_⟩
    · intro y0 y1 y2 y3 y4 y5 y6
      unfold arrearslaw03_WideScales.j0
      repeat' first
      | (with_reducible exact ih0 _ _ _ _ _ _ _)
      | (with_reducible exact ih1 _ _ _ _ _)
      | (with_reducible exact arrearslaw03_awake.mono _)
      | (with_reducible exact wide_Round.mono _ _ _ _)
      | (with_reducible exact wide_Scale.mono _ _ _ _)
      | (with_reducible exact LeO.refl _)
      | (with_reducible exact LeO.none _)
      | (with_reducible refine LeO.ite ?_ ?_)
      | (with_reducible refine LeO.bind ?_ (fun _ => ?_))
      | exact ih0 _ _ _ _ _ _ _
      | exact ih1 _ _ _ _ _
      | exact arrearslaw03_awake.mono _
      | exact wide_Round.mono _ _ _ _
      | exact wide_Scale.mono _ _ _ _
      | exact LeO.none _
      | refine LeO.ite ?_ ?_
      | refine LeO.bind ?_ (fun _ => ?_)
    · intro y0 y1 y2 y3 y4
      unfold arrearslaw03_WideScales.j1
      repeat' first
      | (with_reducible exact ih0 _ _ _ _ _ _ _)
      | (with_reducible exact ih1 _ _ _ _ _)
      | (with_reducible exact arrearslaw03_awake.mono _)
      | (with_reducible exact wide_Round.mono _ _ _ _)
      | (with_reducible exact wide_Scale.mono _ _ _ _)
      | (with_reducible exact LeO.refl _)
      | (with_reducible exact LeO.none _)
      | (with_reducible refine LeO.ite ?_ ?_)
      | (with_reducible refine LeO.bind ?_ (fun _ => ?_))
      | exact ih0 _ _ _ _ _ _ _
      | exact ih1 _ _ _ _ _
      | exact arrearslaw03_awake.mono _
      | exact wide_Round.mono _ _ _ _
      | exact wide_Scale.mono _ _ _ _
      | exact LeO.none _
      | refine LeO.ite ?_ ?_
      | refine LeO.bind ?_ (fun _ => ?_)
theorem arrearslaw03_WideScales.mono : ∀ a0 a1 a2 k, LeO (arrearslaw03_WideScales.f k a0 a1 a2) (arrearslaw03_WideScales.f (k + 1) a0 a1 a2) := by
  intro a0 a1 a2 k
  obtain ⟨ih0, ih1⟩ := arrearslaw03_WideScales.mono_l k
  unfold arrearslaw03_WideScales.f
  repeat' first
      | (with_reducible exact ih0 _ _ _ _ _ _ _)
      | (with_reducible exact ih1 _ _ _ _ _)
      | (with_reducible exact arrearslaw03_awake.mono _)
      | (with_reducible exact wide_Round.mono _ _ _ _)
      | (with_reducible exact wide_Scale.mono _ _ _ _)
      | (with_reducible exact LeO.refl _)
      | (with_reducible exact LeO.none _)
      | (with_reducible refine LeO.ite ?_ ?_)
      | (with_reducible refine LeO.bind ?_ (fun _ => ?_))
      | exact ih0 _ _ _ _ _ _ _
      | exact ih1 _ _ _ _ _
      | exact arrearslaw03_awake.mono _
      | exact wide_Round.mono _ _ _ _
      | exact wide_Scale.mono _ _ _ _
      | exact LeO.none _
      | refine LeO.ite ?_ ?_
      | refine LeO.bind ?_ (fun _ => ?_)
set_option maxHeartbeats 8000000 in
set_option maxRecDepth 100000 in
theorem arrearslaw03_WideScales.calls (k : Nat) (a0 : Int) (a1 : Int) (a2 : Int) (r : Bool) (w : World) (hG : Go.Proofs.YtfpbibfoipbahaaDoor.M.Laid w) (h : arrearslaw03_WideScales.f k a0 a1 a2 = some r) (hr : r = true) :
    Calls Tryd.prog 3 #[.int .u64 a0, .int .u64 a1, .int .u64 a2] w fun e w' => e = .returned (.bool r) ∧ Below w.heap.size w w' := by
  have hu25 := Tryd.underlying25
  have hu30 := Tryd.underlying30
  have HB := Aside0.mk (Below.refl w.heap.size w)
  have HG := Aside0.mk hG
  clear hG
  have HR := Aside0.mk hr
  clear hr
  have H : ((arrearslaw03_awake.f k).bind fun t150 => (if t150 = true then ((wide_Scale.f k a0 a1 a2).bind fun bt151 => ((arrearsref03_Scale.f a0 a1 a2).bind fun bt154 => ((api_Code.f bt151.2.2).bind fun t157 => (if t157 = bt154.2.2 then (if bt151.1 = bt154.1 then (arrearslaw03_WideScales.j0 k a0 a1 a2 bt151.1 bt151.2.1 bt154.2.2 (bt151.2.1 != bt154.2.1)) else (arrearslaw03_WideScales.j0 k a0 a1 a2 bt151.1 bt151.2.1 bt154.2.2 true)) else (arrearslaw03_WideScales.j0 k a0 a1 a2 bt151.1 bt151.2.1 bt154.2.2 true))))) else (some false))) = some r := h
  clear h
  replace H := Option.bind_eq_some_iff.mp H
  obtain ⟨t150, A40, H⟩ := H
  replace H : (if t150 = true then ((wide_Scale.f k a0 a1 a2).bind fun bt151 => ((arrearsref03_Scale.f a0 a1 a2).bind fun bt154 => ((api_Code.f bt151.2.2).bind fun t157 => (if t157 = bt154.2.2 then (if bt151.1 = bt154.1 then (arrearslaw03_WideScales.j0 k a0 a1 a2 bt151.1 bt151.2.1 bt154.2.2 (bt151.2.1 != bt154.2.1)) else (arrearslaw03_WideScales.j0 k a0 a1 a2 bt151.1 bt151.2.1 bt154.2.2 true)) else (arrearslaw03_WideScales.j0 k a0 a1 a2 bt151.1 bt151.2.1 bt154.2.2 true))))) else (some false)) = some r := H
  have A4 := Aside0.mk A40
  clear A40
  by_cases c5 : t150 = true
  · subst c5
    have H1 : ((wide_Scale.f k a0 a1 a2).bind fun bt151 => ((arrearsref03_Scale.f a0 a1 a2).bind fun bt154 => ((api_Code.f bt151.2.2).bind fun t157 => (if t157 = bt154.2.2 then (if bt151.1 = bt154.1 then (arrearslaw03_WideScales.j0 k a0 a1 a2 bt151.1 bt151.2.1 bt154.2.2 (bt151.2.1 != bt154.2.1)) else (arrearslaw03_WideScales.j0 k a0 a1 a2 bt151.1 bt151.2.1 bt154.2.2 true)) else (arrearslaw03_WideScales.j0 k a0 a1 a2 bt151.1 bt151.2.1 bt154.2.2 true))))) = some r := by rw [if_pos rfl] at H; exact H
    clear H
    have H := H1
    clear H1
    replace H := Option.bind_eq_some_iff.mp H
    obtain ⟨⟨t151, t152, t153⟩, A60, H⟩ := H
    replace H : ((arrearsref03_Scale.f a0 a1 a2).bind fun bt154 => ((api_Code.f t153).bind fun t157 => (if t157 = bt154.2.2 then (if t151 = bt154.1 then (arrearslaw03_WideScales.j0 k a0 a1 a2 t151 t152 bt154.2.2 (t152 != bt154.2.1)) else (arrearslaw03_WideScales.j0 k a0 a1 a2 t151 t152 bt154.2.2 true)) else (arrearslaw03_WideScales.j0 k a0 a1 a2 t151 t152 bt154.2.2 true)))) = some r := H
    have A6 := Aside0.mk A60
    clear A60
    replace H := Option.bind_eq_some_iff.mp H
    obtain ⟨⟨t154, t155, t156⟩, A70, H⟩ := H
    replace H : ((api_Code.f t153).bind fun t157 => (if t157 = t156 then (if t151 = t154 then (arrearslaw03_WideScales.j0 k a0 a1 a2 t151 t152 t156 (t152 != t155)) else (arrearslaw03_WideScales.j0 k a0 a1 a2 t151 t152 t156 true)) else (arrearslaw03_WideScales.j0 k a0 a1 a2 t151 t152 t156 true))) = some r := H
    have A7 := Aside0.mk A70
    clear A70
    have HC8 := Aside0.mk H
    clear H
    go_enter Tryd.func3, Tryd.ntmps3
    go_upto_region 5 with (first | ((with_reducible refine gate_callee (f := 8) rfl ?_); refine goesL_ (some 16) rfl rfl Tryd.func8 (by kernel_rfl) rfl #[] rfl (by (try simp only [List.map_toArray, List.map_cons, List.map_nil]); first | done | rfl | (simp only [List.length_drop, List.length_take]; rfl)) ?_; (with_reducible refine (arrearslaw03_awake.calls k  true _ A4.out).mono ?_); rintro e w9 ⟨rfl, hb⟩; refine ⟨_, rfl, ?_⟩; have n0_ := Aside0.mk (below_step (by repeat (first | (with_reducible first | exact HB.out | apply below_alloc | apply pw_below_drewN | apply below_drew1) | exact HB.out)) hb); clear HB; have HB := n0_; clear n0_; (try clear hb); (try clear hb2); (try clear hk); (try clear hi)) | ((with_reducible refine gate_callee (f := 9) rfl ?_); refine goesL_ (some 22) rfl rfl Tryd.func9 (by kernel_rfl) rfl #[.int .u64 a0, .int .u64 a1, .int .u64 a2] rfl (by (try simp only [List.map_toArray, List.map_cons, List.map_nil]); first | done | rfl | (simp only [List.length_drop, List.length_take]; rfl)) ?_; (with_reducible refine (wide_Scale.calls k a0 a1 a2 t151 t152 t153 _ A6.out).mono ?_); rintro e w10 ⟨rfl, hb⟩; refine ⟨_, rfl, ?_⟩; have n0_ := Aside0.mk (below_step (by repeat (first | (with_reducible first | exact HB.out | apply below_alloc | apply pw_below_drewN | apply below_drew1) | exact HB.out)) hb); clear HB; have HB := n0_; clear n0_; (try clear hb); (try clear hb2); (try clear hk); (try clear hi); (try simp only [errW_none, errW_some])) | ((with_reducible refine gate_callee (f := 10) rfl ?_); refine goesL_ (some 30) rfl rfl Tryd.func10 (by kernel_rfl) rfl #[.int .u64 a0, .int .u64 a1, .int .u64 a2] rfl (by (try simp only [List.map_toArray, List.map_cons, List.map_nil]); first | done | rfl | (simp only [List.length_drop, List.length_take]; rfl)) ?_; (with_reducible refine (arrearsref03_Scale.calls a0 a1 a2 t154 t155 t156 _ A7.out).mono ?_); rintro e w11 ⟨rfl, hb⟩; refine ⟨_, rfl, ?_⟩; have n0_ := Aside0.mk (below_step (by repeat (first | (with_reducible first | exact HB.out | apply below_alloc | apply pw_below_drewN | apply below_drew1) | exact HB.out)) hb); clear HB; have HB := n0_; clear n0_; (try clear hb); (try clear hb2); (try clear hk); (try clear hi)))
    (try simp only [Act.put, List.setIfInBounds_toArray, List.set_cons_zero, List.set_cons_succ])
    go_cut [47] (fun v47 wc => ∃ (kq : Nat) (x47_7 : Bool), v47 = .bool x47_7 ∧ Aside0 (arrearslaw03_WideScales.j0 kq a0 a1 a2 t151 t152 t156 x47_7 = some r) ∧ Aside0 (kq ≤ k) ∧ Aside0 (Below w.heap.size w wc))
    case first =>
      have H := HC8.out
      clear HC8
      replace H := Option.bind_eq_some_iff.mp H
      obtain ⟨t157, A120, H⟩ := H
      replace H : (if t157 = t156 then (if t151 = t154 then (arrearslaw03_WideScales.j0 k a0 a1 a2 t151 t152 t156 (t152 != t155)) else (arrearslaw03_WideScales.j0 k a0 a1 a2 t151 t152 t156 true)) else (arrearslaw03_WideScales.j0 k a0 a1 a2 t151 t152 t156 true)) = some r := H
      have A12 := Aside0.mk A120
      clear A120
      by_cases c13 : t157 = t156
      · rw [if_pos c13] at H
        have c13b0 : (t157 == t156) = true := beq_iff_eq.mpr c13
        have c13b1 : (t157 != t156) = false := bne_eq_false_iff_eq.mpr c13
        clear c13
        (first | rw [c13b0] | (simp only [i64_w, i32_w]; rw [c13b0]) | skip)
        by_cases c14 : t151 = t154
        · rw [if_pos c14] at H
          have c14b0 : (t151 == t154) = true := beq_iff_eq.mpr c14
          have c14b1 : (t151 != t154) = false := bne_eq_false_iff_eq.mpr c14
          clear c14
          have H' := Aside0.mk H
          clear H
          have CA12 := fun W (hGW : Go.Proofs.YtfpbibfoipbahaaDoor.M.Laid W) => api_Code.calls t153 t157 W hGW A12.out
          try simp only [errW_none, errW_some] at CA12
          go_wp2_with (first | (go_at_call 11; (with_reducible refine (CA12 _ ?hGL).mono ?_); (case hGL => exact Go.Proofs.YtfpbibfoipbahaaDoor.M.Laid.below HG.out (by repeat (first | (with_reducible first | exact HB.out | apply below_alloc | apply pw_below_drewN | apply below_drew1) | exact HB.out))); rintro e w15 ⟨rfl, hb⟩; have n0_ := Aside0.mk (below_step (by repeat (first | (with_reducible first | exact HB.out | apply below_alloc | apply pw_below_drewN | apply below_drew1) | exact HB.out)) hb); clear HB; have HB := n0_; clear n0_; (try clear hb); (try clear hb2); (try clear hk); (try clear hi)))
          go_meet
          case rel => exact ⟨_, ((t152 != t155)), (by first | rfl | (simp; done) | (simp [*]; done) | (exfalso; simp at *; omega)), H', ⟨by first | omega | exact Nat.le_refl _⟩, ⟨by repeat (first | (with_reducible first | exact HB.out | apply below_alloc | apply pw_below_drewN | apply below_drew1) | exact HB.out)⟩⟩
        · rw [if_neg c14] at H
          have c14b0 : (t151 == t154) = false := beq_eq_false_iff_ne.mpr c14
          have c14b1 : (t151 != t154) = true := bne_iff_ne.mpr c14
          have H' := Aside0.mk H
          clear H
          have CA12 := fun W (hGW : Go.Proofs.YtfpbibfoipbahaaDoor.M.Laid W) => api_Code.calls t153 t157 W hGW A12.out
          try simp only [errW_none, errW_some] at CA12
          go_wp2_with (first | (go_at_call 11; (with_reducible refine (CA12 _ ?hGL).mono ?_); (case hGL => exact Go.Proofs.YtfpbibfoipbahaaDoor.M.Laid.below HG.out (by repeat (first | (with_reducible first | exact HB.out | apply below_alloc | apply pw_below_drewN | apply below_drew1) | exact HB.out))); rintro e w16 ⟨rfl, hb⟩; have n0_ := Aside0.mk (below_step (by repeat (first | (with_reducible first | exact HB.out | apply below_alloc | apply pw_below_drewN | apply below_drew1) | exact HB.out)) hb); clear HB; have HB := n0_; clear n0_; (try clear hb); (try clear hb2); (try clear hk); (try clear hi)))
          go_meet
          case rel => exact ⟨_, (true), (by first | rfl | (simp; done) | (simp [*]; done) | (exfalso; simp at *; omega)), H', ⟨by first | omega | exact Nat.le_refl _⟩, ⟨by repeat (first | (with_reducible first | exact HB.out | apply below_alloc | apply pw_below_drewN | apply below_drew1) | exact HB.out)⟩⟩
      · rw [if_neg c13] at H
        have c13b0 : (t157 == t156) = false := beq_eq_false_iff_ne.mpr c13
        have c13b1 : (t157 != t156) = true := bne_iff_ne.mpr c13
        (first | rw [c13b0] | (simp only [i64_w, i32_w]; rw [c13b0]) | skip)
        have H' := Aside0.mk H
        clear H
        have CA12 := fun W (hGW : Go.Proofs.YtfpbibfoipbahaaDoor.M.Laid W) => api_Code.calls t153 t157 W hGW A12.out
        try simp only [errW_none, errW_some] at CA12
        go_wp2_with (first | (go_at_call 11; (with_reducible refine (CA12 _ ?hGL).mono ?_); (case hGL => exact Go.Proofs.YtfpbibfoipbahaaDoor.M.Laid.below HG.out (by repeat (first | (with_reducible first | exact HB.out | apply below_alloc | apply pw_below_drewN | apply below_drew1) | exact HB.out))); rintro e w17 ⟨rfl, hb⟩; have n0_ := Aside0.mk (below_step (by repeat (first | (with_reducible first | exact HB.out | apply below_alloc | apply pw_below_drewN | apply below_drew1) | exact HB.out)) hb); clear HB; have HB := n0_; clear n0_; (try clear hb); (try clear hb2); (try clear hk); (try clear hi)))
        go_meet
        case rel => exact ⟨_, (true), (by first | rfl | (simp; done) | (simp [*]; done) | (exfalso; simp at *; omega)), H', ⟨by first | omega | exact Nat.le_refl _⟩, ⟨by repeat (first | (with_reducible first | exact HB.out | apply below_alloc | apply pw_below_drewN | apply below_drew1) | exact HB.out)⟩⟩
    case rest =>
      clear HC8
      try clear c1
      try clear p2
      try clear c3
      try clear c5
      try clear c8
      try clear c9
      try clear c10
      try clear c13
      try clear c13b0
      try clear c13b1
      try clear c14
      try clear c14b0
      try clear c14b1
      obtain ⟨kq, x47_7, rfl, HA, HJ7, HB⟩ := hcut
      cases kq with
      | zero => exact absurd HA.out (by simp [arrearslaw03_WideScales.j0])
      | succ kj7 =>
        have H := HA.out
        clear HA
        simp only [arrearslaw03_WideScales.j0] at H
        by_cases c18 : x47_7 = true
        · subst c18
          have H1 : (some false) = some r := by rw [if_pos rfl] at H; exact H
          clear H
          have H := H1
          clear H1
          exact absurd (H.trans (congrArg some HR.out)) (by simp)
        · replace c18 := Bool.eq_false_iff.mpr c18
          subst c18
          have H1 : ((wide_Round.f kj7 a0 a1 a2).bind fun bt158 => (if t156 = 0 then (if t152 ≥ (IntKind.u64.wrap (a2 - t152)) then (arrearslaw03_WideScales.j1 kj7 t151 bt158.1 bt158.2 (decide (t152 ≥ (IntKind.u64.wrap (a2 - t152)))) (t151 == 18446744073709551615)) else (arrearslaw03_WideScales.j1 kj7 t151 bt158.1 bt158.2 (decide (t152 ≥ (IntKind.u64.wrap (a2 - t152)))) false)) else ((api_Code.f bt158.2).bind fun t160 => (if t160 = t156 then (some (bt158.1 == 0)) else (some false))))) = some r := by rw [if_neg (show ¬ (false = true) by decide)] at H; exact H
          clear H
          have H := H1
          clear H1
          replace H := Option.bind_eq_some_iff.mp H
          obtain ⟨⟨t158, t159⟩, A190, H⟩ := H
          replace H : (if t156 = 0 then (if t152 ≥ (IntKind.u64.wrap (a2 - t152)) then (arrearslaw03_WideScales.j1 kj7 t151 t158 t159 (decide (t152 ≥ (IntKind.u64.wrap (a2 - t152)))) (t151 == 18446744073709551615)) else (arrearslaw03_WideScales.j1 kj7 t151 t158 t159 (decide (t152 ≥ (IntKind.u64.wrap (a2 - t152)))) false)) else ((api_Code.f t159).bind fun t160 => (if t160 = t156 then (some (t158 == 0)) else (some false)))) = some r := H
          have A19 := Aside0.mk A190
          clear A190
          by_cases c20 : t156 = 0
          · rw [if_pos c20] at H
            have c20b0 : (t156 == 0) = true := beq_iff_eq.mpr c20
            have c20b1 : (t156 != 0) = false := bne_eq_false_iff_eq.mpr c20
            clear c20
            have HC21 := Aside0.mk H
            clear H
            go_upto_region 11 with (first | ((with_reducible refine gate_callee (f := 12) rfl ?_); refine goesL_ (some 52) rfl rfl Tryd.func12 (by kernel_rfl) rfl #[.int .u64 a0, .int .u64 a1, .int .u64 a2] rfl (by (try simp only [List.map_toArray, List.map_cons, List.map_nil]); first | done | rfl | (simp only [List.length_drop, List.length_take]; rfl)) ?_; (with_reducible refine (wide_Round.calls kj7 a0 a1 a2 t158 t159 _ A19.out).mono ?_); rintro e w22 ⟨rfl, hb⟩; refine ⟨_, rfl, ?_⟩; have n0_ := Aside0.mk (below_step (by repeat (first | (with_reducible first | exact HB.out | apply below_alloc | apply pw_below_drewN | apply below_drew1) | exact HB.out)) hb); clear HB; have HB := n0_; clear n0_; (try clear hb); (try clear hb2); (try clear hk); (try clear hi); (try simp only [errW_none, errW_some])))
            (try simp only [Act.put, List.setIfInBounds_toArray, List.set_cons_zero, List.set_cons_succ])
            go_cut [74] (fun v74 wc => ∃ (kq : Nat) (x74_20 : Bool), v74 = .bool x74_20 ∧ Aside0 (arrearslaw03_WideScales.j1 kq t151 t158 t159 (decide (t152 ≥ (IntKind.u64.wrap (a2 - t152)))) x74_20 = some r) ∧ Aside0 (kq ≤ kj7) ∧ Aside0 (Below w.heap.size w wc))
            case first =>
              have H := HC21.out
              clear HC21
              by_cases c23 : t152 ≥ (IntKind.u64.wrap (a2 - t152))
              · rw [if_pos c23] at H
                have C_ := Aside0.mk c23
                clear c23
                have H' := Aside0.mk H
                clear H
                go_wp2
                all_goals first | (exfalso; have z_ := C_.out; omega) | (rw [show Value.bool true = Value.bool (decide ((IntKind.u64.wrap (a2 - t152)) ≤ t152)) from by rw [decide_eq_true C_.out]]; go_meet; (case rel => exact ⟨_, ((t151 == 18446744073709551615)), (by first | rfl | (simp; done) | (simp [*]; done) | (exfalso; simp at *; omega)), H', ⟨by have := HJ7.out; first | omega | exact Nat.le_refl _⟩, ⟨by repeat (first | (with_reducible first | exact HB.out | apply below_alloc | apply pw_below_drewN | apply below_drew1) | exact HB.out)⟩⟩))
              · rw [if_neg c23] at H
                have C_ := Aside0.mk c23
                clear c23
                have H' := Aside0.mk H
                clear H
                go_wp2
                all_goals first | (exfalso; have z_ := C_.out; omega) | (rw (occs := .pos [2]) [show Value.bool false = Value.bool (decide ((IntKind.u64.wrap (a2 - t152)) ≤ t152)) from by have z_ := C_.out; rw [decide_eq_false (show ¬ ((IntKind.u64.wrap (a2 - t152)) ≤ t152) by omega)]]; go_meet; (case rel => exact ⟨_, (false), (by first | rfl | (simp; done) | (simp [*]; done) | (exfalso; simp at *; omega)), H', ⟨by have := HJ7.out; first | omega | exact Nat.le_refl _⟩, ⟨by repeat (first | (with_reducible first | exact HB.out | apply below_alloc | apply pw_below_drewN | apply below_drew1) | exact HB.out)⟩⟩))
            case rest =>
              clear HC21
              try clear c1
              try clear c2
              try clear p2
              try clear c3
              try clear c5
              try clear c8
              try clear c9
              try clear c10
              try clear c12
              try clear c13
              try clear c13b0
              try clear c13b1
              try clear c14
              try clear c14b0
              try clear c14b1
              try clear c18
              try clear c20
              try clear c20b0
              try clear c20b1
              try clear c23
              try clear c23b0
              try clear p2
              obtain ⟨kq, x74_20, rfl, HA, HJ20, HB⟩ := hcut
              cases kq with
              | zero => exact absurd HA.out (by simp [arrearslaw03_WideScales.j1])
              | succ kj20 =>
                have H := HA.out
                clear HA
                simp only [arrearslaw03_WideScales.j1] at H
                by_cases c24 : x74_20 = true
                · subst c24
                  have H1 : ((api_Code.f t159).bind fun t161 => (if t161 = 12 then (some (t158 == 0)) else (some false))) = some r := by rw [if_pos rfl] at H; exact H
                  clear H
                  have H := H1
                  clear H1
                  replace H := Option.bind_eq_some_iff.mp H
                  obtain ⟨t161, A250, H⟩ := H
                  replace H : (if t161 = 12 then (some (t158 == 0)) else (some false)) = some r := H
                  have A25 := Aside0.mk A250
                  clear A250
                  by_cases c26 : t161 = 12
                  · rw [if_pos c26] at H
                    have c26b0 : (t161 == 12) = true := beq_iff_eq.mpr c26
                    have c26b1 : (t161 != 12) = false := bne_eq_false_iff_eq.mpr c26
                    clear c26
                    obtain rfl := Option.some.inj H
                    have CA25 := fun W (hGW : Go.Proofs.YtfpbibfoipbahaaDoor.M.Laid W) => api_Code.calls t159 t161 W hGW A25.out
                    try simp only [errW_none, errW_some] at CA25
                    go_wp2_with (first | (go_at_call 11; (with_reducible refine (CA25 _ ?hGL).mono ?_); (case hGL => exact Go.Proofs.YtfpbibfoipbahaaDoor.M.Laid.below HG.out (by repeat (first | (with_reducible first | exact HB.out | apply below_alloc | apply pw_below_drewN | apply below_drew1) | exact HB.out))); rintro e w27 ⟨rfl, hb⟩; have n0_ := Aside0.mk (below_step (by repeat (first | (with_reducible first | exact HB.out | apply below_alloc | apply pw_below_drewN | apply below_drew1) | exact HB.out)) hb); clear HB; have HB := n0_; clear n0_; (try clear hb); (try clear hb2); (try clear hk); (try clear hi)))
                    go_ret
                    exact ⟨by first | rfl | (simp [errW_none, errW_some] <;> rfl) | (simp [*, errW_none, errW_some] <;> rfl), by repeat (first | (with_reducible first | exact HB.out | apply below_alloc | apply pw_below_drewN | apply below_drew1) | exact HB.out)⟩
                  · rw [if_neg c26] at H
                    have c26b0 : (t161 == 12) = false := beq_eq_false_iff_ne.mpr c26
                    have c26b1 : (t161 != 12) = true := bne_iff_ne.mpr c26
                    exact absurd (H.trans (congrArg some HR.out)) (by simp)
                · replace c24 := Bool.eq_false_iff.mpr c24
                  subst c24
                  have H1 : (if (decide (t152 ≥ (IntKind.u64.wrap (a2 - t152)))) = true then (if t159.isNone = true then (some (t158 == (IntKind.u64.wrap (t151 + 1)))) else (some false)) else (if t159.isNone = true then (some (t158 == t151)) else (some false))) = some r := by rw [if_neg (show ¬ (false = true) by decide)] at H; exact H
                  clear H
                  have H := H1
                  clear H1
                  by_cases c29 : (decide (t152 ≥ (IntKind.u64.wrap (a2 - t152)))) = true
                  · rw [if_pos c29] at H
                    have c29b0 : (decide ((IntKind.u64.wrap (a2 - t152)) ≤ t152)) = true := c29
                    have c29p := of_decide_eq_true c29b0
                    clear c29
                    rcases t159 with _ | q162
                    · have H1 : (some (t158 == (IntKind.u64.wrap (t151 + 1)))) = some r := by rw [if_pos (show (none : Option Int).isNone = true by rfl)] at H; exact H
                      clear H
                      have H := H1
                      clear H1
                      try simp only [errW_none, errW_some]
                      obtain rfl := Option.some.inj H
                      go_wp2
                      go_ret
                      exact ⟨by first | rfl | (simp [errW_none, errW_some] <;> rfl) | (simp [*, errW_none, errW_some] <;> rfl), by repeat (first | (with_reducible first | exact HB.out | apply below_alloc | apply pw_below_drewN | apply below_drew1) | exact HB.out)⟩
                    · have H1 : (some false) = some r := by rw [if_neg (show ¬ (some q162).isNone = true by simp)] at H; exact H
                      clear H
                      have H := H1
                      clear H1
                      try simp only [errW_none, errW_some]
                      exact absurd (H.trans (congrArg some HR.out)) (by simp)
                  · rw [if_neg c29] at H
                    have c29b0 : (decide ((IntKind.u64.wrap (a2 - t152)) ≤ t152)) = false := by simpa using c29
                    have c29p := of_decide_eq_false c29b0
                    clear c29
                    rcases t159 with _ | q163
                    · have H1 : (some (t158 == t151)) = some r := by rw [if_pos (show (none : Option Int).isNone = true by rfl)] at H; exact H
                      clear H
                      have H := H1
                      clear H1
                      try simp only [errW_none, errW_some]
                      obtain rfl := Option.some.inj H
                      go_wp2
                      go_ret
                      exact ⟨by first | rfl | (simp [errW_none, errW_some] <;> rfl) | (simp [*, errW_none, errW_some] <;> rfl), by repeat (first | (with_reducible first | exact HB.out | apply below_alloc | apply pw_below_drewN | apply below_drew1) | exact HB.out)⟩
                    · have H1 : (some false) = some r := by rw [if_neg (show ¬ (some q163).isNone = true by simp)] at H; exact H
                      clear H
                      have H := H1
                      clear H1
                      try simp only [errW_none, errW_some]
                      exact absurd (H.trans (congrArg some HR.out)) (by simp)
          · rw [if_neg c20] at H
            have c20b0 : (t156 == 0) = false := beq_eq_false_iff_ne.mpr c20
            have c20b1 : (t156 != 0) = true := bne_iff_ne.mpr c20
            replace H := Option.bind_eq_some_iff.mp H
            obtain ⟨t160, A300, H⟩ := H
            replace H : (if t160 = t156 then (some (t158 == 0)) else (some false)) = some r := H
            have A30 := Aside0.mk A300
            clear A300
            by_cases c31 : t160 = t156
            · rw [if_pos c31] at H
              have c31b0 : (t160 == t156) = true := beq_iff_eq.mpr c31
              have c31b1 : (t160 != t156) = false := bne_eq_false_iff_eq.mpr c31
              clear c31
              obtain rfl := Option.some.inj H
              go_wp2_with (first | ((with_reducible refine gate_callee (f := 12) rfl ?_); refine goesL_ (some 52) rfl rfl Tryd.func12 (by kernel_rfl) rfl #[.int .u64 a0, .int .u64 a1, .int .u64 a2] rfl (by (try simp only [List.map_toArray, List.map_cons, List.map_nil]); first | done | rfl | (simp only [List.length_drop, List.length_take]; rfl)) ?_; (with_reducible refine (wide_Round.calls kj7 a0 a1 a2 t158 t159 _ A19.out).mono ?_); rintro e w32 ⟨rfl, hb⟩; refine ⟨_, rfl, ?_⟩; have n0_ := Aside0.mk (below_step (by repeat (first | (with_reducible first | exact HB.out | apply below_alloc | apply pw_below_drewN | apply below_drew1) | exact HB.out)) hb); clear HB; have HB := n0_; clear n0_; (try clear hb); (try clear hb2); (try clear hk); (try clear hi); (try simp only [errW_none, errW_some]); have CA30 := fun W (hGW : Go.Proofs.YtfpbibfoipbahaaDoor.M.Laid W) => api_Code.calls t159 t160 W hGW A30.out; try simp only [errW_none, errW_some] at CA30) | (go_at_call 11; (with_reducible refine (CA30 _ ?hGL).mono ?_); (case hGL => exact Go.Proofs.YtfpbibfoipbahaaDoor.M.Laid.below HG.out (by repeat (first | (with_reducible first | exact HB.out | apply below_alloc | apply pw_below_drewN | apply below_drew1) | exact HB.out))); rintro e w33 ⟨rfl, hb⟩; have n0_ := Aside0.mk (below_step (by repeat (first | (with_reducible first | exact HB.out | apply below_alloc | apply pw_below_drewN | apply below_drew1) | exact HB.out)) hb); clear HB; have HB := n0_; clear n0_; (try clear hb); (try clear hb2); (try clear hk); (try clear hi)))
              go_ret
              exact ⟨by first | rfl | (simp [errW_none, errW_some] <;> rfl) | (simp [*, errW_none, errW_some] <;> rfl), by repeat (first | (with_reducible first | exact HB.out | apply below_alloc | apply pw_below_drewN | apply below_drew1) | exact HB.out)⟩
            · rw [if_neg c31] at H
              have c31b0 : (t160 == t156) = false := beq_eq_false_iff_ne.mpr c31
              have c31b1 : (t160 != t156) = true := bne_iff_ne.mpr c31
              exact absurd (H.trans (congrArg some HR.out)) (by simp)
  · replace c5 := Bool.eq_false_iff.mpr c5
    subst c5
    have H1 : (some false) = some r := by rw [if_neg (show ¬ (false = true) by decide)] at H; exact H
    clear H
    have H := H1
    clear H1
    exact absurd (H.trans (congrArg some HR.out)) (by simp)
end Go.Proofs.YtfpbibfoipbahaaDoor.PWideScales
