-- Printed by a wrapper of this session's round the kit's print.py; Lean checks it.
import Derived.Test.YtdkdjikfhclmaaaDoorPSpanYearsx0
import Derived.Test.YtdkdjikfhclmaaaDoorPSpanYearsx2
import Derived.Test.YtdkdjikfhclmaaaDoorPSpanYearsx3
namespace Go.Proofs.YtdkdjikfhclmaaaDoor.PSpanYears
open Go.RowKit Go.Proofs.YtdkdjikfhclmaaaDoorW.PrintWords Go.Proofs.YtdkdjikfhclmaaaDoorW.PrintLast Go.Proofs.YtdkdjikfhclmaaaDoorW.PrintMore
attribute [local go_sem] max2_int min2_int max_two min_two max_three min_three max_four min_four   -- for this text's walks alone
set_option linter.unusedVariables false
set_option linter.unusedSimpArgs false

/-! ### arrearslaw06_SpanYears: function 3 -/
def arrearslaw06_SpanYears.l0 : Nat → Int → Int → Int → Option Int → Int → Option Int → Int → Int → Option (Bool)
  | 0, _, _, _, _, _, _, _, _ => none
  | k + 1, x3, x5, x6, x7, x8, x9, x10, x11 => if x11 < x5 then ((span_One.f k 2 (wrap32 (x11))).bind fun bt177 => (if bt177.2.isNone = true then (arrearslaw06_SpanYears.l0 k x3 x5 x6 x7 x8 x9 (wrap64 (x10 + bt177.1)) (wrap64 (x11 + 1))) else (some false))) else ((arrearsref05_Leap.f x3).bind fun t180 => (if t180 = true then (if x7.isNone = true then (if x9.isNone = true then (if x6 = 366 then (if x8 = 360 then (some (x10 == 360)) else (some false)) else (some false)) else (some false)) else (some false)) else (if x7.isNone = true then (if x9.isNone = true then (if x6 = 365 then (if x8 = 360 then (some (x10 == 360)) else (some false)) else (some false)) else (some false)) else (some false))))
def arrearslaw06_SpanYears.f (k : Nat) (a0 : Int) : Option (Bool) := (arrearslaw06_awake.f k).bind fun t170 => (if t170 = true then ((arrearsref05_Number.f k (wrap64 (1 + (wrap64 (Int.tmod a0 9998)))) 1 1).bind fun t171 => ((arrearsref05_Number.f k (wrap64 ((wrap64 (1 + (wrap64 (Int.tmod a0 9998)))) + 1)) 1 1).bind fun t172 => ((span_Days.f k 1 (wrap32 (t171)) (wrap32 (t172))).bind fun bt173 => ((span_Days.f k 2 (wrap32 (t171)) (wrap32 (t172))).bind fun bt175 => (arrearslaw06_SpanYears.l0 k (wrap64 (1 + (wrap64 (Int.tmod a0 9998)))) t172 bt173.1 bt173.2 bt175.1 bt175.2 0 t171))))) else (some false))
theorem arrearslaw06_SpanYears.mono_l : ∀ k, (∀ y0 y1 y2 y3 y4 y5 y6 y7, LeO (arrearslaw06_SpanYears.l0 k y0 y1 y2 y3 y4 y5 y6 y7) (arrearslaw06_SpanYears.l0 (k + 1) y0 y1 y2 y3 y4 y5 y6 y7))
  | 0 => fun _ _ _ _ _ _ _ _ r h => by simp [arrearslaw06_SpanYears.l0] at h
  | k + 1 => by
    have ih0 := arrearslaw06_SpanYears.mono_l k
    · intro y0 y1 y2 y3 y4 y5 y6 y7
      unfold arrearslaw06_SpanYears.l0
      repeat' first
      | (with_reducible exact ih0 _ _ _ _ _ _ _ _)
      | (with_reducible exact arrearslaw06_awake.mono _)
      | (with_reducible exact arrearsref05_Number.mono _ _ _ _)
      | (with_reducible exact span_Days.mono _ _ _ _)
      | (with_reducible exact span_One.mono _ _ _)
      | (with_reducible exact LeO.refl _)
      | (with_reducible exact LeO.none _)
      | (with_reducible refine LeO.ite ?_ ?_)
      | (with_reducible refine LeO.bind ?_ (fun _ => ?_))
      | exact ih0 _ _ _ _ _ _ _ _
      | exact arrearslaw06_awake.mono _
      | exact arrearsref05_Number.mono _ _ _ _
      | exact span_Days.mono _ _ _ _
      | exact span_One.mono _ _ _
      | exact LeO.none _
      | refine LeO.ite ?_ ?_
      | refine LeO.bind ?_ (fun _ => ?_)
theorem arrearslaw06_SpanYears.mono : ∀ a0 k, LeO (arrearslaw06_SpanYears.f k a0) (arrearslaw06_SpanYears.f (k + 1) a0) := by
  intro a0 k
  have ih0 := arrearslaw06_SpanYears.mono_l k
  unfold arrearslaw06_SpanYears.f
  repeat' first
      | (with_reducible exact ih0 _ _ _ _ _ _ _ _)
      | (with_reducible exact arrearslaw06_awake.mono _)
      | (with_reducible exact arrearsref05_Number.mono _ _ _ _)
      | (with_reducible exact span_Days.mono _ _ _ _)
      | (with_reducible exact span_One.mono _ _ _)
      | (with_reducible exact LeO.refl _)
      | (with_reducible exact LeO.none _)
      | (with_reducible refine LeO.ite ?_ ?_)
      | (with_reducible refine LeO.bind ?_ (fun _ => ?_))
      | exact ih0 _ _ _ _ _ _ _ _
      | exact arrearslaw06_awake.mono _
      | exact arrearsref05_Number.mono _ _ _ _
      | exact span_Days.mono _ _ _ _
      | exact span_One.mono _ _ _
      | exact LeO.none _
      | refine LeO.ite ?_ ?_
      | refine LeO.bind ?_ (fun _ => ?_)
set_option maxHeartbeats 8000000 in
set_option maxRecDepth 100000 in
theorem arrearslaw06_SpanYears.calls (k : Nat) (a0 : Int) (r : Bool) (w : World) (hG : Go.Proofs.YtdkdjikfhclmaaaDoor.M.Laid w) (h : arrearslaw06_SpanYears.f k a0 = some r) (hr : r = true) :
    Calls Tryd.prog 3 #[.int .u16 a0] w fun e w' => e = .returned (.bool r) ∧ Below w.heap.size w w' := by
  have hu26 := Tryd.underlying26
  have hu28 := Tryd.underlying28
  have hu44 := Tryd.underlying44
  have HB := Aside0.mk (Below.refl w.heap.size w)
  have HG := Aside0.mk hG
  clear hG
  have HR := Aside0.mk hr
  clear hr
  have H : ((arrearslaw06_awake.f k).bind fun t170 => (if t170 = true then ((arrearsref05_Number.f k (wrap64 (1 + (wrap64 (Int.tmod a0 9998)))) 1 1).bind fun t171 => ((arrearsref05_Number.f k (wrap64 ((wrap64 (1 + (wrap64 (Int.tmod a0 9998)))) + 1)) 1 1).bind fun t172 => ((span_Days.f k 1 (wrap32 (t171)) (wrap32 (t172))).bind fun bt173 => ((span_Days.f k 2 (wrap32 (t171)) (wrap32 (t172))).bind fun bt175 => (arrearslaw06_SpanYears.l0 k (wrap64 (1 + (wrap64 (Int.tmod a0 9998)))) t172 bt173.1 bt173.2 bt175.1 bt175.2 0 t171))))) else (some false))) = some r := h
  clear h
  replace H := Option.bind_eq_some_iff.mp H
  obtain ⟨t170, A20, H⟩ := H
  replace H : (if t170 = true then ((arrearsref05_Number.f k (wrap64 (1 + (wrap64 (Int.tmod a0 9998)))) 1 1).bind fun t171 => ((arrearsref05_Number.f k (wrap64 ((wrap64 (1 + (wrap64 (Int.tmod a0 9998)))) + 1)) 1 1).bind fun t172 => ((span_Days.f k 1 (wrap32 (t171)) (wrap32 (t172))).bind fun bt173 => ((span_Days.f k 2 (wrap32 (t171)) (wrap32 (t172))).bind fun bt175 => (arrearslaw06_SpanYears.l0 k (wrap64 (1 + (wrap64 (Int.tmod a0 9998)))) t172 bt173.1 bt173.2 bt175.1 bt175.2 0 t171))))) else (some false)) = some r := H
  have A2 := Aside0.mk A20
  clear A20
  by_cases c3 : t170 = true
  · subst c3
    have H1 : ((arrearsref05_Number.f k (wrap64 (1 + (wrap64 (Int.tmod a0 9998)))) 1 1).bind fun t171 => ((arrearsref05_Number.f k (wrap64 ((wrap64 (1 + (wrap64 (Int.tmod a0 9998)))) + 1)) 1 1).bind fun t172 => ((span_Days.f k 1 (wrap32 (t171)) (wrap32 (t172))).bind fun bt173 => ((span_Days.f k 2 (wrap32 (t171)) (wrap32 (t172))).bind fun bt175 => (arrearslaw06_SpanYears.l0 k (wrap64 (1 + (wrap64 (Int.tmod a0 9998)))) t172 bt173.1 bt173.2 bt175.1 bt175.2 0 t171))))) = some r := by rw [if_pos rfl] at H; exact H
    clear H
    have H := H1
    clear H1
    replace H := Option.bind_eq_some_iff.mp H
    obtain ⟨t171, A40, H⟩ := H
    replace H : ((arrearsref05_Number.f k (wrap64 ((wrap64 (1 + (wrap64 (Int.tmod a0 9998)))) + 1)) 1 1).bind fun t172 => ((span_Days.f k 1 (wrap32 (t171)) (wrap32 (t172))).bind fun bt173 => ((span_Days.f k 2 (wrap32 (t171)) (wrap32 (t172))).bind fun bt175 => (arrearslaw06_SpanYears.l0 k (wrap64 (1 + (wrap64 (Int.tmod a0 9998)))) t172 bt173.1 bt173.2 bt175.1 bt175.2 0 t171)))) = some r := H
    have A4 := Aside0.mk A40
    clear A40
    replace H := Option.bind_eq_some_iff.mp H
    obtain ⟨t172, A50, H⟩ := H
    replace H : ((span_Days.f k 1 (wrap32 (t171)) (wrap32 (t172))).bind fun bt173 => ((span_Days.f k 2 (wrap32 (t171)) (wrap32 (t172))).bind fun bt175 => (arrearslaw06_SpanYears.l0 k (wrap64 (1 + (wrap64 (Int.tmod a0 9998)))) t172 bt173.1 bt173.2 bt175.1 bt175.2 0 t171))) = some r := H
    have A5 := Aside0.mk A50
    clear A50
    replace H := Option.bind_eq_some_iff.mp H
    obtain ⟨⟨t173, t174⟩, A60, H⟩ := H
    replace H : ((span_Days.f k 2 (wrap32 (t171)) (wrap32 (t172))).bind fun bt175 => (arrearslaw06_SpanYears.l0 k (wrap64 (1 + (wrap64 (Int.tmod a0 9998)))) t172 t173 t174 bt175.1 bt175.2 0 t171)) = some r := H
    have A6 := Aside0.mk A60
    clear A60
    replace H := Option.bind_eq_some_iff.mp H
    obtain ⟨⟨t175, t176⟩, A70, H⟩ := H
    replace H : (arrearslaw06_SpanYears.l0 k (wrap64 (1 + (wrap64 (Int.tmod a0 9998)))) t172 t173 t174 t175 t176 0 t171) = some r := H
    have A7 := Aside0.mk A70
    clear A70
    have H' := Aside0.mk H
    clear H
    go_enter Tryd.func3, Tryd.ntmps3
    go_wp2_with (first | ((with_reducible refine gate_callee (f := 8) rfl ?_); refine goesL_ (some 15) rfl rfl Tryd.func8 (by kernel_rfl) rfl #[] rfl (by (try simp only [List.map_toArray, List.map_cons, List.map_nil]); first | done | rfl | (simp only [List.length_drop, List.length_take]; rfl)) ?_; (with_reducible refine (arrearslaw06_awake.calls k  true _ ?hGL A2.out).mono ?_); (case hGL => exact Go.Proofs.YtdkdjikfhclmaaaDoor.M.Laid.below HG.out (by repeat (first | (with_reducible first | exact HB.out | apply below_alloc | apply pw_below_drewN | apply below_drew1) | exact HB.out))); rintro e w8 ⟨rfl, hb⟩; refine ⟨_, rfl, ?_⟩; have n0_ := Aside0.mk (below_step (by repeat (first | (with_reducible first | exact HB.out | apply below_alloc | apply pw_below_drewN | apply below_drew1) | exact HB.out)) hb); clear HB; have HB := n0_; clear n0_; (try clear hb); (try clear hb2); (try clear hk); (try clear hi)) | ((with_reducible refine gate_callee (f := 9) rfl ?_); refine goesL_ (some 23) rfl rfl Tryd.func9 (by kernel_rfl) rfl #[.agg #[.int .i64 (wrap64 (1 + (wrap64 (Int.tmod a0 9998)))), .int .i64 1, .int .i64 1]] rfl (by (try simp only [List.map_toArray, List.map_cons, List.map_nil]); first | done | rfl | (simp only [List.length_drop, List.length_take]; rfl)) ?_; (with_reducible refine (arrearsref05_Number.calls k (wrap64 (1 + (wrap64 (Int.tmod a0 9998)))) 1 1 t171 _ A4.out).mono ?_); rintro e w9 ⟨rfl, hb⟩; refine ⟨_, rfl, ?_⟩; have n0_ := Aside0.mk (below_step (by repeat (first | (with_reducible first | exact HB.out | apply below_alloc | apply pw_below_drewN | apply below_drew1) | exact HB.out)) hb); clear HB; have HB := n0_; clear n0_; (try clear hb); (try clear hb2); (try clear hk); (try clear hi)) | ((with_reducible refine gate_callee (f := 9) rfl ?_); refine goesL_ (some 27) rfl rfl Tryd.func9 (by kernel_rfl) rfl #[.agg #[.int .i64 (wrap64 ((wrap64 (1 + (wrap64 (Int.tmod a0 9998)))) + 1)), .int .i64 1, .int .i64 1]] rfl (by (try simp only [List.map_toArray, List.map_cons, List.map_nil]); first | done | rfl | (simp only [List.length_drop, List.length_take]; rfl)) ?_; (with_reducible refine (arrearsref05_Number.calls k (wrap64 ((wrap64 (1 + (wrap64 (Int.tmod a0 9998)))) + 1)) 1 1 t172 _ A5.out).mono ?_); rintro e w10 ⟨rfl, hb⟩; refine ⟨_, rfl, ?_⟩; have n0_ := Aside0.mk (below_step (by repeat (first | (with_reducible first | exact HB.out | apply below_alloc | apply pw_below_drewN | apply below_drew1) | exact HB.out)) hb); clear HB; have HB := n0_; clear n0_; (try clear hb); (try clear hb2); (try clear hk); (try clear hi)) | ((with_reducible refine gate_callee (f := 10) rfl ?_); refine goesL_ (some 33) rfl rfl Tryd.func10 (by kernel_rfl) rfl #[.int .u8 1, .int .i32 (wrap32 (t171)), .int .i32 (wrap32 (t172))] rfl (by (try simp only [List.map_toArray, List.map_cons, List.map_nil]); first | done | rfl | (simp only [List.length_drop, List.length_take]; rfl)) ?_; (with_reducible refine (span_Days.calls k 1 (wrap32 (t171)) (wrap32 (t172)) t173 t174 _ A6.out).mono ?_); rintro e w11 ⟨rfl, hb⟩; refine ⟨_, rfl, ?_⟩; have n0_ := Aside0.mk (below_step (by repeat (first | (with_reducible first | exact HB.out | apply below_alloc | apply pw_below_drewN | apply below_drew1) | exact HB.out)) hb); clear HB; have HB := n0_; clear n0_; (try clear hb); (try clear hb2); (try clear hk); (try clear hi); (try simp only [errW_none, errW_some])) | ((with_reducible refine gate_callee (f := 10) rfl ?_); refine goesL_ (some 41) rfl rfl Tryd.func10 (by kernel_rfl) rfl #[.int .u8 2, .int .i32 (wrap32 (t171)), .int .i32 (wrap32 (t172))] rfl (by (try simp only [List.map_toArray, List.map_cons, List.map_nil]); first | done | rfl | (simp only [List.length_drop, List.length_take]; rfl)) ?_; (with_reducible refine (span_Days.calls k 2 (wrap32 (t171)) (wrap32 (t172)) t175 t176 _ A7.out).mono ?_); rintro e w12 ⟨rfl, hb⟩; refine ⟨_, rfl, ?_⟩; have n0_ := Aside0.mk (below_step (by repeat (first | (with_reducible first | exact HB.out | apply below_alloc | apply pw_below_drewN | apply below_drew1) | exact HB.out)) hb); clear HB; have HB := n0_; clear n0_; (try clear hb); (try clear hb2); (try clear hk); (try clear hi); (try simp only [errW_none, errW_some])))
    go_loopg [10, 11] k (fun kq v10 v11 w' => ∃ (x10_1 : Int) (x11_1 : Int), v10 = .int .i64 x10_1 ∧ v11 = .int .i64 x11_1 ∧ Aside0 (arrearslaw06_SpanYears.l0 kq (wrap64 (1 + (wrap64 (Int.tmod a0 9998)))) t172 t173 t174 t175 t176 x10_1 x11_1 = some r) ∧ Aside0 (kq ≤ k) ∧ Aside0 (Below w.heap.size w w'))
    case atStart => exact ⟨(0), (t171), (by first | rfl | (simp; done) | (simp [*]; done) | (exfalso; simp at *; omega)), (by first | rfl | (simp; done) | (simp [*]; done) | (exfalso; simp at *; omega)), H', ⟨Nat.le_refl _⟩, ⟨by repeat (first | (with_reducible first | exact HB.out | apply below_alloc | apply pw_below_drewN | apply below_drew1) | exact HB.out)⟩⟩
    case round =>
      clear H'
      try clear c1
      try clear p2
      try clear c3
      try clear p3
      try clear p6
      try clear c8
      try clear c9
      try clear c10
      obtain ⟨x10_1, x11_1, rfl, rfl, HA, HK1, HB⟩ := hrel
      cases gk with
      | zero => exact absurd HA.out (by simp [arrearslaw06_SpanYears.l0])
      | succ k1 =>
        have H := HA.out
        clear HA
        simp only [arrearslaw06_SpanYears.l0] at H
        by_cases c13 : x11_1 < t172
        · rw [if_pos c13] at H
          have c13b0 : decide (x11_1 < t172) = true := decide_eq_true c13
          clear c13
          replace H := Option.bind_eq_some_iff.mp H
          obtain ⟨⟨t177, t178⟩, A140, H⟩ := H
          replace H : (if t178.isNone = true then (arrearslaw06_SpanYears.l0 k1 (wrap64 (1 + (wrap64 (Int.tmod a0 9998)))) t172 t173 t174 t175 t176 (wrap64 (x10_1 + t177)) (wrap64 (x11_1 + 1))) else (some false)) = some r := H
          have A14 := Aside0.mk A140
          clear A140
          rcases t178 with _ | q179
          · have H1 : (arrearslaw06_SpanYears.l0 k1 (wrap64 (1 + (wrap64 (Int.tmod a0 9998)))) t172 t173 t174 t175 t176 (wrap64 (x10_1 + t177)) (wrap64 (x11_1 + 1))) = some r := by rw [if_pos (show (none : Option Int).isNone = true by rfl)] at H; exact H
            clear H
            have H := H1
            clear H1
            try simp only [errW_none, errW_some]
            have H' := Aside0.mk H
            clear H
            go_wp2_with (first | ((with_reducible refine gate_callee (f := 11) rfl ?_); refine goesL_ (some 53) rfl rfl Tryd.func11 (by kernel_rfl) rfl #[.int .u8 2, .int .i32 (wrap32 (x11_1))] rfl (by (try simp only [List.map_toArray, List.map_cons, List.map_nil]); first | done | rfl | (simp only [List.length_drop, List.length_take]; rfl)) ?_; (with_reducible refine (span_One.calls k1 2 (wrap32 (x11_1)) t177 none _ A14.out).mono ?_); rintro e w15 ⟨rfl, hb⟩; refine ⟨_, rfl, ?_⟩; have n0_ := Aside0.mk (below_step (by repeat (first | (with_reducible first | exact HB.out | apply below_alloc | apply pw_below_drewN | apply below_drew1) | exact HB.out)) hb); clear HB; have HB := n0_; clear n0_; (try clear hb); (try clear hb2); (try clear hk); (try clear hi); (try simp only [errW_none, errW_some])))
            go_roundg k1
            case measure => have := HK1.out; omega
            case rel => exact ⟨(wrap64 (x10_1 + t177)), (wrap64 (x11_1 + 1)), (by first | rfl | (simp; done) | (simp [*]; done) | (exfalso; simp at *; omega)), (by first | rfl | (simp; done) | (simp [*]; done) | (exfalso; simp at *; omega)), H', ⟨by have := HK1.out; omega⟩, ⟨by repeat (first | (with_reducible first | exact HB.out | apply below_alloc | apply pw_below_drewN | apply below_drew1) | exact HB.out)⟩⟩
          · have H1 : (some false) = some r := by rw [if_neg (show ¬ (some q179).isNone = true by simp)] at H; exact H
            clear H
            have H := H1
            clear H1
            try simp only [errW_none, errW_some]
            exact absurd (H.trans (congrArg some HR.out)) (by simp)
        · rw [if_neg c13] at H
          have c13b0 : decide (x11_1 < t172) = false := decide_eq_false c13
          clear c13
          replace H := Option.bind_eq_some_iff.mp H
          obtain ⟨t180, A170, H⟩ := H
          replace H : (if t180 = true then (if t174.isNone = true then (if t176.isNone = true then (if t173 = 366 then (if t175 = 360 then (some (x10_1 == 360)) else (some false)) else (some false)) else (some false)) else (some false)) else (if t174.isNone = true then (if t176.isNone = true then (if t173 = 365 then (if t175 = 360 then (some (x10_1 == 360)) else (some false)) else (some false)) else (some false)) else (some false))) = some r := H
          have A17 := Aside0.mk A170
          clear A170
          by_cases c18 : t180 = true
          · subst c18
            have H1 : (if t174.isNone = true then (if t176.isNone = true then (if t173 = 366 then (if t175 = 360 then (some (x10_1 == 360)) else (some false)) else (some false)) else (some false)) else (some false)) = some r := by rw [if_pos rfl] at H; exact H
            clear H
            have H := H1
            clear H1
            rcases t174 with _ | q181
            · have H1 : (if t176.isNone = true then (if t173 = 366 then (if t175 = 360 then (some (x10_1 == 360)) else (some false)) else (some false)) else (some false)) = some r := by rw [if_pos (show (none : Option Int).isNone = true by rfl)] at H; exact H
              clear H
              have H := H1
              clear H1
              try simp only [errW_none, errW_some]
              rcases t176 with _ | q182
              · have H1 : (if t173 = 366 then (if t175 = 360 then (some (x10_1 == 360)) else (some false)) else (some false)) = some r := by rw [if_pos (show (none : Option Int).isNone = true by rfl)] at H; exact H
                clear H
                have H := H1
                clear H1
                try simp only [errW_none, errW_some]
                by_cases c19 : t173 = 366
                · rw [if_pos c19] at H
                  have c19b0 : (t173 == 366) = true := beq_iff_eq.mpr c19
                  have c19b1 : (t173 != 366) = false := bne_eq_false_iff_eq.mpr c19
                  clear c19
                  by_cases c20 : t175 = 360
                  · rw [if_pos c20] at H
                    have c20b0 : (t175 == 360) = true := beq_iff_eq.mpr c20
                    have c20b1 : (t175 != 360) = false := bne_eq_false_iff_eq.mpr c20
                    clear c20
                    obtain rfl := Option.some.inj H
                    go_wp2_with (first | ((with_reducible refine gate_callee (f := 12) rfl ?_); refine goesL_ (some 62) rfl rfl Tryd.func12 (by kernel_rfl) rfl #[.int .i64 (wrap64 (1 + (wrap64 (Int.tmod a0 9998))))] rfl (by (try simp only [List.map_toArray, List.map_cons, List.map_nil]); first | done | rfl | (simp only [List.length_drop, List.length_take]; rfl)) ?_; (with_reducible refine (arrearsref05_Leap.calls (wrap64 (1 + (wrap64 (Int.tmod a0 9998)))) true _ A17.out).mono ?_); rintro e w' ⟨rfl, ⟨nd, rfl⟩⟩; refine ⟨_, rfl, ?_⟩))
                    go_ret
                    exact ⟨by first | rfl | (simp [errW_none, errW_some] <;> rfl) | (simp [*, errW_none, errW_some] <;> rfl), by repeat (first | (with_reducible first | exact HB.out | apply below_alloc | apply pw_below_drewN | apply below_drew1) | exact HB.out)⟩
                  · rw [if_neg c20] at H
                    have c20b0 : (t175 == 360) = false := beq_eq_false_iff_ne.mpr c20
                    have c20b1 : (t175 != 360) = true := bne_iff_ne.mpr c20
                    exact absurd (H.trans (congrArg some HR.out)) (by simp)
                · rw [if_neg c19] at H
                  have c19b0 : (t173 == 366) = false := beq_eq_false_iff_ne.mpr c19
                  have c19b1 : (t173 != 366) = true := bne_iff_ne.mpr c19
                  exact absurd (H.trans (congrArg some HR.out)) (by simp)
              · have H1 : (some false) = some r := by rw [if_neg (show ¬ (some q182).isNone = true by simp)] at H; exact H
                clear H
                have H := H1
                clear H1
                try simp only [errW_none, errW_some]
                exact absurd (H.trans (congrArg some HR.out)) (by simp)
            · have H1 : (some false) = some r := by rw [if_neg (show ¬ (some q181).isNone = true by simp)] at H; exact H
              clear H
              have H := H1
              clear H1
              try simp only [errW_none, errW_some]
              exact absurd (H.trans (congrArg some HR.out)) (by simp)
          · replace c18 := Bool.eq_false_iff.mpr c18
            subst c18
            have H1 : (if t174.isNone = true then (if t176.isNone = true then (if t173 = 365 then (if t175 = 360 then (some (x10_1 == 360)) else (some false)) else (some false)) else (some false)) else (some false)) = some r := by rw [if_neg (show ¬ (false = true) by decide)] at H; exact H
            clear H
            have H := H1
            clear H1
            rcases t174 with _ | q183
            · have H1 : (if t176.isNone = true then (if t173 = 365 then (if t175 = 360 then (some (x10_1 == 360)) else (some false)) else (some false)) else (some false)) = some r := by rw [if_pos (show (none : Option Int).isNone = true by rfl)] at H; exact H
              clear H
              have H := H1
              clear H1
              try simp only [errW_none, errW_some]
              rcases t176 with _ | q184
              · have H1 : (if t173 = 365 then (if t175 = 360 then (some (x10_1 == 360)) else (some false)) else (some false)) = some r := by rw [if_pos (show (none : Option Int).isNone = true by rfl)] at H; exact H
                clear H
                have H := H1
                clear H1
                try simp only [errW_none, errW_some]
                by_cases c21 : t173 = 365
                · rw [if_pos c21] at H
                  have c21b0 : (t173 == 365) = true := beq_iff_eq.mpr c21
                  have c21b1 : (t173 != 365) = false := bne_eq_false_iff_eq.mpr c21
                  clear c21
                  by_cases c22 : t175 = 360
                  · rw [if_pos c22] at H
                    have c22b0 : (t175 == 360) = true := beq_iff_eq.mpr c22
                    have c22b1 : (t175 != 360) = false := bne_eq_false_iff_eq.mpr c22
                    clear c22
                    obtain rfl := Option.some.inj H
                    go_wp2_with (first | ((with_reducible refine gate_callee (f := 12) rfl ?_); refine goesL_ (some 62) rfl rfl Tryd.func12 (by kernel_rfl) rfl #[.int .i64 (wrap64 (1 + (wrap64 (Int.tmod a0 9998))))] rfl (by (try simp only [List.map_toArray, List.map_cons, List.map_nil]); first | done | rfl | (simp only [List.length_drop, List.length_take]; rfl)) ?_; (with_reducible refine (arrearsref05_Leap.calls (wrap64 (1 + (wrap64 (Int.tmod a0 9998)))) false _ A17.out).mono ?_); rintro e w' ⟨rfl, ⟨nd, rfl⟩⟩; refine ⟨_, rfl, ?_⟩))
                    go_ret
                    exact ⟨by first | rfl | (simp [errW_none, errW_some] <;> rfl) | (simp [*, errW_none, errW_some] <;> rfl), by repeat (first | (with_reducible first | exact HB.out | apply below_alloc | apply pw_below_drewN | apply below_drew1) | exact HB.out)⟩
                  · rw [if_neg c22] at H
                    have c22b0 : (t175 == 360) = false := beq_eq_false_iff_ne.mpr c22
                    have c22b1 : (t175 != 360) = true := bne_iff_ne.mpr c22
                    exact absurd (H.trans (congrArg some HR.out)) (by simp)
                · rw [if_neg c21] at H
                  have c21b0 : (t173 == 365) = false := beq_eq_false_iff_ne.mpr c21
                  have c21b1 : (t173 != 365) = true := bne_iff_ne.mpr c21
                  exact absurd (H.trans (congrArg some HR.out)) (by simp)
              · have H1 : (some false) = some r := by rw [if_neg (show ¬ (some q184).isNone = true by simp)] at H; exact H
                clear H
                have H := H1
                clear H1
                try simp only [errW_none, errW_some]
                exact absurd (H.trans (congrArg some HR.out)) (by simp)
            · have H1 : (some false) = some r := by rw [if_neg (show ¬ (some q183).isNone = true by simp)] at H; exact H
              clear H
              have H := H1
              clear H1
              try simp only [errW_none, errW_some]
              exact absurd (H.trans (congrArg some HR.out)) (by simp)
  · replace c3 := Bool.eq_false_iff.mpr c3
    subst c3
    have H1 : (some false) = some r := by rw [if_neg (show ¬ (false = true) by decide)] at H; exact H
    clear H
    have H := H1
    clear H1
    exact absurd (H.trans (congrArg some HR.out)) (by simp)
end Go.Proofs.YtdkdjikfhclmaaaDoor.PSpanYears
