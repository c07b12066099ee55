-- Printed by a wrapper of this session's round the kit's print.py; Lean checks it.
import Derived.Test.YtbgjeelbbmcpeaaDoorPDateReadsx0
import Derived.Test.YtbgjeelbbmcpeaaDoorPDateReadsx2
import Derived.Test.YtbgjeelbbmcpeaaDoorPDateReadsx3
import Derived.Test.YtbgjeelbbmcpeaaDoorPDateReadsx4
import Derived.Test.YtbgjeelbbmcpeaaDoorPDateReadsx6
namespace Go.Proofs.YtbgjeelbbmcpeaaDoor.PDateReads
open Go.RowKit Go.Proofs.YtbgjeelbbmcpeaaDoorW.PrintWords Go.Proofs.YtbgjeelbbmcpeaaDoorW.PrintLast Go.Proofs.YtbgjeelbbmcpeaaDoorW.PrintMore
attribute [local go_sem] max2_int min2_int max_two min_two max_three min_three max_four min_four   -- for this text's walks alone
set_option linter.unusedVariables false
set_option linter.unusedSimpArgs false

/-! ### arrearslaw05_DateReads: function 6 -/
def arrearslaw05_DateReads.j0 : Nat → Int → Int → Bool → Option (Bool)
  | 0, _, _, _ => none
  | k + 1, x1, x2, x48 => if x48 = true then (some false) else ((date_Leap.f x1).bind fun t169 => ((arrearsref05_Leap.f x1).bind fun t170 => (if (t169 == t170) = true then ((date_Length.f k x1 x2).bind fun t171 => ((arrearsref05_Length.f k x1 x2).bind fun t172 => (some (t171 == t172)))) else (some false))))
def arrearslaw05_DateReads.f (k : Nat) (a0 : ByteArray) (a1 : Int) (a2 : Int) : Option (Bool) := (arrearslaw05_awake.f k).bind fun t159 => (if t159 = true then ((arrearsref01_Text.f a0 20).bind fun t160 => ((date_Read.f k t160).bind fun bt161 => ((arrearsref05_Read.f k t160).bind fun t163 => (if bt161.2.isNone = true then (if (true != (decide (t163 ≥ 0))) = true then (arrearslaw05_DateReads.j0 k a1 a2 true) else (if t163 ≥ 0 then (if (wrap64 (bt161.1)) = t163 then (if t163 < 0 then ((api_Code.f none).bind fun t165 => (if t165 = 15 then (arrearslaw05_DateReads.j0 k a1 a2 (bt161.1 != 0)) else (arrearslaw05_DateReads.j0 k a1 a2 true))) else (arrearslaw05_DateReads.j0 k a1 a2 false)) else (arrearslaw05_DateReads.j0 k a1 a2 true)) else (if t163 < 0 then ((api_Code.f none).bind fun t166 => (if t166 = 15 then (arrearslaw05_DateReads.j0 k a1 a2 (bt161.1 != 0)) else (arrearslaw05_DateReads.j0 k a1 a2 true))) else (arrearslaw05_DateReads.j0 k a1 a2 false)))) else (if (false != (decide (t163 ≥ 0))) = true then (arrearslaw05_DateReads.j0 k a1 a2 true) else (if t163 ≥ 0 then (if (wrap64 (bt161.1)) = t163 then (if t163 < 0 then ((api_Code.f (some (bt161.2.getD 0))).bind fun t167 => (if t167 = 15 then (arrearslaw05_DateReads.j0 k a1 a2 (bt161.1 != 0)) else (arrearslaw05_DateReads.j0 k a1 a2 true))) else (arrearslaw05_DateReads.j0 k a1 a2 false)) else (arrearslaw05_DateReads.j0 k a1 a2 true)) else (if t163 < 0 then ((api_Code.f (some (bt161.2.getD 0))).bind fun t168 => (if t168 = 15 then (arrearslaw05_DateReads.j0 k a1 a2 (bt161.1 != 0)) else (arrearslaw05_DateReads.j0 k a1 a2 true))) else (arrearslaw05_DateReads.j0 k a1 a2 false)))))))) else (some false))
theorem arrearslaw05_DateReads.mono_l : ∀ k, (∀ y0 y1 y2, LeO (arrearslaw05_DateReads.j0 k y0 y1 y2) (arrearslaw05_DateReads.j0 (k + 1) y0 y1 y2))
  | 0 => fun _ _ _ r h => by simp [arrearslaw05_DateReads.j0] at h
  | k + 1 => by
    have ih0 := arrearslaw05_DateReads.mono_l k
    · intro y0 y1 y2
      unfold arrearslaw05_DateReads.j0
      repeat' first
      | (with_reducible exact ih0 _ _ _)
      | (with_reducible exact arrearslaw05_awake.mono _)
      | (with_reducible exact arrearsref05_Length.mono _ _ _)
      | (with_reducible exact arrearsref05_Read.mono _ _)
      | (with_reducible exact date_Length.mono _ _ _)
      | (with_reducible exact date_Read.mono _ _)
      | (with_reducible exact LeO.refl _)
      | (with_reducible exact LeO.none _)
      | (with_reducible refine LeO.ite ?_ ?_)
      | (with_reducible refine LeO.bind ?_ (fun _ => ?_))
      | exact ih0 _ _ _
      | exact arrearslaw05_awake.mono _
      | exact arrearsref05_Length.mono _ _ _
      | exact arrearsref05_Read.mono _ _
      | exact date_Length.mono _ _ _
      | exact date_Read.mono _ _
      | exact LeO.none _
      | refine LeO.ite ?_ ?_
      | refine LeO.bind ?_ (fun _ => ?_)
theorem arrearslaw05_DateReads.mono : ∀ a0 a1 a2 k, LeO (arrearslaw05_DateReads.f k a0 a1 a2) (arrearslaw05_DateReads.f (k + 1) a0 a1 a2) := by
  intro a0 a1 a2 k
  have ih0 := arrearslaw05_DateReads.mono_l k
  unfold arrearslaw05_DateReads.f
  repeat' first
      | (with_reducible exact ih0 _ _ _)
      | (with_reducible exact arrearslaw05_awake.mono _)
      | (with_reducible exact arrearsref05_Length.mono _ _ _)
      | (with_reducible exact arrearsref05_Read.mono _ _)
      | (with_reducible exact date_Length.mono _ _ _)
      | (with_reducible exact date_Read.mono _ _)
      | (with_reducible exact LeO.refl _)
      | (with_reducible exact LeO.none _)
      | (with_reducible refine LeO.ite ?_ ?_)
      | (with_reducible refine LeO.bind ?_ (fun _ => ?_))
      | exact ih0 _ _ _
      | exact arrearslaw05_awake.mono _
      | exact arrearsref05_Length.mono _ _ _
      | exact arrearsref05_Read.mono _ _
      | exact date_Length.mono _ _ _
      | exact date_Read.mono _ _
      | exact LeO.none _
      | refine LeO.ite ?_ ?_
      | refine LeO.bind ?_ (fun _ => ?_)
set_option maxHeartbeats 8000000 in
set_option maxRecDepth 100000 in
theorem arrearslaw05_DateReads.calls (k : Nat) (a0 : ByteArray) (a1 : Int) (a2 : Int) (r : Bool) (w : World) (hG : Go.Proofs.YtbgjeelbbmcpeaaDoor.M.Laid w) (h : arrearslaw05_DateReads.f k a0 a1 a2 = some r) (hr : r = true) :
    Calls Tryd.prog 6 #[.string a0, .int .i64 a1, .int .i64 a2] w fun e w' => e = .returned (.bool r) ∧ Below w.heap.size w w' := by
  have hu28 := Tryd.underlying28
  have hu32 := Tryd.underlying32
  have HB := Aside0.mk (Below.refl w.heap.size w)
  have HG := Aside0.mk hG
  clear hG
  have HR := Aside0.mk hr
  clear hr
  have H : ((arrearslaw05_awake.f k).bind fun t159 => (if t159 = true then ((arrearsref01_Text.f a0 20).bind fun t160 => ((date_Read.f k t160).bind fun bt161 => ((arrearsref05_Read.f k t160).bind fun t163 => (if bt161.2.isNone = true then (if (true != (decide (t163 ≥ 0))) = true then (arrearslaw05_DateReads.j0 k a1 a2 true) else (if t163 ≥ 0 then (if (wrap64 (bt161.1)) = t163 then (if t163 < 0 then ((api_Code.f none).bind fun t165 => (if t165 = 15 then (arrearslaw05_DateReads.j0 k a1 a2 (bt161.1 != 0)) else (arrearslaw05_DateReads.j0 k a1 a2 true))) else (arrearslaw05_DateReads.j0 k a1 a2 false)) else (arrearslaw05_DateReads.j0 k a1 a2 true)) else (if t163 < 0 then ((api_Code.f none).bind fun t166 => (if t166 = 15 then (arrearslaw05_DateReads.j0 k a1 a2 (bt161.1 != 0)) else (arrearslaw05_DateReads.j0 k a1 a2 true))) else (arrearslaw05_DateReads.j0 k a1 a2 false)))) else (if (false != (decide (t163 ≥ 0))) = true then (arrearslaw05_DateReads.j0 k a1 a2 true) else (if t163 ≥ 0 then (if (wrap64 (bt161.1)) = t163 then (if t163 < 0 then ((api_Code.f (some (bt161.2.getD 0))).bind fun t167 => (if t167 = 15 then (arrearslaw05_DateReads.j0 k a1 a2 (bt161.1 != 0)) else (arrearslaw05_DateReads.j0 k a1 a2 true))) else (arrearslaw05_DateReads.j0 k a1 a2 false)) else (arrearslaw05_DateReads.j0 k a1 a2 true)) else (if t163 < 0 then ((api_Code.f (some (bt161.2.getD 0))).bind fun t168 => (if t168 = 15 then (arrearslaw05_DateReads.j0 k a1 a2 (bt161.1 != 0)) else (arrearslaw05_DateReads.j0 k a1 a2 true))) else (arrearslaw05_DateReads.j0 k a1 a2 false)))))))) else (some false))) = some r := h
  clear h
  replace H := Option.bind_eq_some_iff.mp H
  obtain ⟨t159, A40, H⟩ := H
  replace H : (if t159 = true then ((arrearsref01_Text.f a0 20).bind fun t160 => ((date_Read.f k t160).bind fun bt161 => ((arrearsref05_Read.f k t160).bind fun t163 => (if bt161.2.isNone = true then (if (true != (decide (t163 ≥ 0))) = true then (arrearslaw05_DateReads.j0 k a1 a2 true) else (if t163 ≥ 0 then (if (wrap64 (bt161.1)) = t163 then (if t163 < 0 then ((api_Code.f none).bind fun t165 => (if t165 = 15 then (arrearslaw05_DateReads.j0 k a1 a2 (bt161.1 != 0)) else (arrearslaw05_DateReads.j0 k a1 a2 true))) else (arrearslaw05_DateReads.j0 k a1 a2 false)) else (arrearslaw05_DateReads.j0 k a1 a2 true)) else (if t163 < 0 then ((api_Code.f none).bind fun t166 => (if t166 = 15 then (arrearslaw05_DateReads.j0 k a1 a2 (bt161.1 != 0)) else (arrearslaw05_DateReads.j0 k a1 a2 true))) else (arrearslaw05_DateReads.j0 k a1 a2 false)))) else (if (false != (decide (t163 ≥ 0))) = true then (arrearslaw05_DateReads.j0 k a1 a2 true) else (if t163 ≥ 0 then (if (wrap64 (bt161.1)) = t163 then (if t163 < 0 then ((api_Code.f (some (bt161.2.getD 0))).bind fun t167 => (if t167 = 15 then (arrearslaw05_DateReads.j0 k a1 a2 (bt161.1 != 0)) else (arrearslaw05_DateReads.j0 k a1 a2 true))) else (arrearslaw05_DateReads.j0 k a1 a2 false)) else (arrearslaw05_DateReads.j0 k a1 a2 true)) else (if t163 < 0 then ((api_Code.f (some (bt161.2.getD 0))).bind fun t168 => (if t168 = 15 then (arrearslaw05_DateReads.j0 k a1 a2 (bt161.1 != 0)) else (arrearslaw05_DateReads.j0 k a1 a2 true))) else (arrearslaw05_DateReads.j0 k a1 a2 false)))))))) else (some false)) = some r := H
  have A4 := Aside0.mk A40
  clear A40
  by_cases c5 : t159 = true
  · subst c5
    have H1 : ((arrearsref01_Text.f a0 20).bind fun t160 => ((date_Read.f k t160).bind fun bt161 => ((arrearsref05_Read.f k t160).bind fun t163 => (if bt161.2.isNone = true then (if (true != (decide (t163 ≥ 0))) = true then (arrearslaw05_DateReads.j0 k a1 a2 true) else (if t163 ≥ 0 then (if (wrap64 (bt161.1)) = t163 then (if t163 < 0 then ((api_Code.f none).bind fun t165 => (if t165 = 15 then (arrearslaw05_DateReads.j0 k a1 a2 (bt161.1 != 0)) else (arrearslaw05_DateReads.j0 k a1 a2 true))) else (arrearslaw05_DateReads.j0 k a1 a2 false)) else (arrearslaw05_DateReads.j0 k a1 a2 true)) else (if t163 < 0 then ((api_Code.f none).bind fun t166 => (if t166 = 15 then (arrearslaw05_DateReads.j0 k a1 a2 (bt161.1 != 0)) else (arrearslaw05_DateReads.j0 k a1 a2 true))) else (arrearslaw05_DateReads.j0 k a1 a2 false)))) else (if (false != (decide (t163 ≥ 0))) = true then (arrearslaw05_DateReads.j0 k a1 a2 true) else (if t163 ≥ 0 then (if (wrap64 (bt161.1)) = t163 then (if t163 < 0 then ((api_Code.f (some (bt161.2.getD 0))).bind fun t167 => (if t167 = 15 then (arrearslaw05_DateReads.j0 k a1 a2 (bt161.1 != 0)) else (arrearslaw05_DateReads.j0 k a1 a2 true))) else (arrearslaw05_DateReads.j0 k a1 a2 false)) else (arrearslaw05_DateReads.j0 k a1 a2 true)) else (if t163 < 0 then ((api_Code.f (some (bt161.2.getD 0))).bind fun t168 => (if t168 = 15 then (arrearslaw05_DateReads.j0 k a1 a2 (bt161.1 != 0)) else (arrearslaw05_DateReads.j0 k a1 a2 true))) else (arrearslaw05_DateReads.j0 k a1 a2 false)))))))) = some r := by rw [if_pos rfl] at H; exact H
    clear H
    have H := H1
    clear H1
    replace H := Option.bind_eq_some_iff.mp H
    obtain ⟨t160, A60, H⟩ := H
    replace H : ((date_Read.f k t160).bind fun bt161 => ((arrearsref05_Read.f k t160).bind fun t163 => (if bt161.2.isNone = true then (if (true != (decide (t163 ≥ 0))) = true then (arrearslaw05_DateReads.j0 k a1 a2 true) else (if t163 ≥ 0 then (if (wrap64 (bt161.1)) = t163 then (if t163 < 0 then ((api_Code.f none).bind fun t165 => (if t165 = 15 then (arrearslaw05_DateReads.j0 k a1 a2 (bt161.1 != 0)) else (arrearslaw05_DateReads.j0 k a1 a2 true))) else (arrearslaw05_DateReads.j0 k a1 a2 false)) else (arrearslaw05_DateReads.j0 k a1 a2 true)) else (if t163 < 0 then ((api_Code.f none).bind fun t166 => (if t166 = 15 then (arrearslaw05_DateReads.j0 k a1 a2 (bt161.1 != 0)) else (arrearslaw05_DateReads.j0 k a1 a2 true))) else (arrearslaw05_DateReads.j0 k a1 a2 false)))) else (if (false != (decide (t163 ≥ 0))) = true then (arrearslaw05_DateReads.j0 k a1 a2 true) else (if t163 ≥ 0 then (if (wrap64 (bt161.1)) = t163 then (if t163 < 0 then ((api_Code.f (some (bt161.2.getD 0))).bind fun t167 => (if t167 = 15 then (arrearslaw05_DateReads.j0 k a1 a2 (bt161.1 != 0)) else (arrearslaw05_DateReads.j0 k a1 a2 true))) else (arrearslaw05_DateReads.j0 k a1 a2 false)) else (arrearslaw05_DateReads.j0 k a1 a2 true)) else (if t163 < 0 then ((api_Code.f (some (bt161.2.getD 0))).bind fun t168 => (if t168 = 15 then (arrearslaw05_DateReads.j0 k a1 a2 (bt161.1 != 0)) else (arrearslaw05_DateReads.j0 k a1 a2 true))) else (arrearslaw05_DateReads.j0 k a1 a2 false))))))) = some r := H
    have A6 := Aside0.mk A60
    clear A60
    replace H := Option.bind_eq_some_iff.mp H
    obtain ⟨⟨t161, t162⟩, A70, H⟩ := H
    replace H : ((arrearsref05_Read.f k t160).bind fun t163 => (if t162.isNone = true then (if (true != (decide (t163 ≥ 0))) = true then (arrearslaw05_DateReads.j0 k a1 a2 true) else (if t163 ≥ 0 then (if (wrap64 (t161)) = t163 then (if t163 < 0 then ((api_Code.f none).bind fun t165 => (if t165 = 15 then (arrearslaw05_DateReads.j0 k a1 a2 (t161 != 0)) else (arrearslaw05_DateReads.j0 k a1 a2 true))) else (arrearslaw05_DateReads.j0 k a1 a2 false)) else (arrearslaw05_DateReads.j0 k a1 a2 true)) else (if t163 < 0 then ((api_Code.f none).bind fun t166 => (if t166 = 15 then (arrearslaw05_DateReads.j0 k a1 a2 (t161 != 0)) else (arrearslaw05_DateReads.j0 k a1 a2 true))) else (arrearslaw05_DateReads.j0 k a1 a2 false)))) else (if (false != (decide (t163 ≥ 0))) = true then (arrearslaw05_DateReads.j0 k a1 a2 true) else (if t163 ≥ 0 then (if (wrap64 (t161)) = t163 then (if t163 < 0 then ((api_Code.f (some (t162.getD 0))).bind fun t167 => (if t167 = 15 then (arrearslaw05_DateReads.j0 k a1 a2 (t161 != 0)) else (arrearslaw05_DateReads.j0 k a1 a2 true))) else (arrearslaw05_DateReads.j0 k a1 a2 false)) else (arrearslaw05_DateReads.j0 k a1 a2 true)) else (if t163 < 0 then ((api_Code.f (some (t162.getD 0))).bind fun t168 => (if t168 = 15 then (arrearslaw05_DateReads.j0 k a1 a2 (t161 != 0)) else (arrearslaw05_DateReads.j0 k a1 a2 true))) else (arrearslaw05_DateReads.j0 k a1 a2 false)))))) = some r := H
    have A7 := Aside0.mk A70
    clear A70
    replace H := Option.bind_eq_some_iff.mp H
    obtain ⟨t163, A80, H⟩ := H
    replace H : (if t162.isNone = true then (if (true != (decide (t163 ≥ 0))) = true then (arrearslaw05_DateReads.j0 k a1 a2 true) else (if t163 ≥ 0 then (if (wrap64 (t161)) = t163 then (if t163 < 0 then ((api_Code.f none).bind fun t165 => (if t165 = 15 then (arrearslaw05_DateReads.j0 k a1 a2 (t161 != 0)) else (arrearslaw05_DateReads.j0 k a1 a2 true))) else (arrearslaw05_DateReads.j0 k a1 a2 false)) else (arrearslaw05_DateReads.j0 k a1 a2 true)) else (if t163 < 0 then ((api_Code.f none).bind fun t166 => (if t166 = 15 then (arrearslaw05_DateReads.j0 k a1 a2 (t161 != 0)) else (arrearslaw05_DateReads.j0 k a1 a2 true))) else (arrearslaw05_DateReads.j0 k a1 a2 false)))) else (if (false != (decide (t163 ≥ 0))) = true then (arrearslaw05_DateReads.j0 k a1 a2 true) else (if t163 ≥ 0 then (if (wrap64 (t161)) = t163 then (if t163 < 0 then ((api_Code.f (some (t162.getD 0))).bind fun t167 => (if t167 = 15 then (arrearslaw05_DateReads.j0 k a1 a2 (t161 != 0)) else (arrearslaw05_DateReads.j0 k a1 a2 true))) else (arrearslaw05_DateReads.j0 k a1 a2 false)) else (arrearslaw05_DateReads.j0 k a1 a2 true)) else (if t163 < 0 then ((api_Code.f (some (t162.getD 0))).bind fun t168 => (if t168 = 15 then (arrearslaw05_DateReads.j0 k a1 a2 (t161 != 0)) else (arrearslaw05_DateReads.j0 k a1 a2 true))) else (arrearslaw05_DateReads.j0 k a1 a2 false))))) = some r := H
    have A8 := Aside0.mk A80
    clear A80
    have HC9 := Aside0.mk H
    clear H
    go_enter Tryd.func6, Tryd.ntmps6
    go_upto_region 6 with (first | ((with_reducible refine gate_callee (f := 8) rfl ?_); refine goesL_ (some 10) rfl rfl Tryd.func8 (by kernel_rfl) rfl #[] rfl (by (try simp only [List.map_toArray, List.map_cons, List.map_nil]); first | done | rfl | (simp only [List.length_drop, List.length_take]; rfl)) ?_; (with_reducible refine (arrearslaw05_awake.calls k  true _ A4.out).mono ?_); rintro e w10 ⟨rfl, hb⟩; refine ⟨_, rfl, ?_⟩; have n0_ := Aside0.mk (below_step (by repeat (first | (with_reducible first | exact HB.out | apply below_alloc | apply pw_below_drewN | apply below_drew1) | exact HB.out)) hb); clear HB; have HB := n0_; clear n0_; (try clear hb); (try clear hb2); (try clear hk); (try clear hi)) | ((with_reducible refine gate_callee (f := 21) rfl ?_); refine goesL_ (some 13) rfl rfl Tryd.func21 (by kernel_rfl) rfl #[.string a0, .int .i64 20] rfl (by (try simp only [List.map_toArray, List.map_cons, List.map_nil]); first | done | rfl | (simp only [List.length_drop, List.length_take]; rfl)) ?_; (with_reducible refine (arrearsref01_Text.calls a0 20 t160 _ A6.out).mono ?_); rintro e w11 ⟨rfl, hb⟩; refine ⟨_, rfl, ?_⟩; have n0_ := Aside0.mk (below_step (by repeat (first | (with_reducible first | exact HB.out | apply below_alloc | apply pw_below_drewN | apply below_drew1) | exact HB.out)) hb); clear HB; have HB := n0_; clear n0_; (try clear hb); (try clear hb2); (try clear hk); (try clear hi)) | ((with_reducible refine gate_callee (f := 22) rfl ?_); refine goesL_ (some 16) rfl rfl Tryd.func22 (by kernel_rfl) rfl #[.string t160] rfl (by (try simp only [List.map_toArray, List.map_cons, List.map_nil]); first | done | rfl | (simp only [List.length_drop, List.length_take]; rfl)) ?_; (with_reducible refine (date_Read.calls k t160 t161 t162 _ ?hGL A7.out).mono ?_); (case hGL => exact Go.Proofs.YtbgjeelbbmcpeaaDoor.M.Laid.below HG.out (by repeat (first | (with_reducible first | exact HB.out | apply below_alloc | apply pw_below_drewN | apply below_drew1) | exact HB.out))); rintro e w12 ⟨rfl, hb⟩; refine ⟨_, rfl, ?_⟩; have n0_ := Aside0.mk (below_step (by repeat (first | (with_reducible first | exact HB.out | apply below_alloc | apply pw_below_drewN | apply below_drew1) | exact HB.out)) hb); clear HB; have HB := n0_; clear n0_; (try clear hb); (try clear hb2); (try clear hk); (try clear hi); (try simp only [errW_none, errW_some])) | ((with_reducible refine gate_callee (f := 23) rfl ?_); refine goesL_ (some 20) rfl rfl Tryd.func23 (by kernel_rfl) rfl #[.string t160] rfl (by (try simp only [List.map_toArray, List.map_cons, List.map_nil]); first | done | rfl | (simp only [List.length_drop, List.length_take]; rfl)) ?_; (with_reducible refine (arrearsref05_Read.calls k t160 t163 _ A8.out).mono ?_); rintro e w13 ⟨rfl, hb⟩; refine ⟨_, rfl, ?_⟩; have n0_ := Aside0.mk (below_step (by repeat (first | (with_reducible first | exact HB.out | apply below_alloc | apply pw_below_drewN | apply below_drew1) | exact HB.out)) hb); clear HB; have HB := n0_; clear n0_; (try clear hb); (try clear hb2); (try clear hk); (try clear hi)))
    (try simp only [Act.put, List.setIfInBounds_toArray, List.set_cons_zero, List.set_cons_succ])
    go_cut [48] (fun v48 wc => ∃ (kq : Nat) (x48_8 : Bool), v48 = .bool x48_8 ∧ Aside0 (arrearslaw05_DateReads.j0 kq a1 a2 x48_8 = some r) ∧ Aside0 (kq ≤ k) ∧ Aside0 (Below w.heap.size w wc))
    case first =>
      have H := HC9.out
      clear HC9
      rcases t162 with _ | q164
      · have H1 : (if (true != (decide (t163 ≥ 0))) = true then (arrearslaw05_DateReads.j0 k a1 a2 true) else (if t163 ≥ 0 then (if (wrap64 (t161)) = t163 then (if t163 < 0 then ((api_Code.f none).bind fun t165 => (if t165 = 15 then (arrearslaw05_DateReads.j0 k a1 a2 (t161 != 0)) else (arrearslaw05_DateReads.j0 k a1 a2 true))) else (arrearslaw05_DateReads.j0 k a1 a2 false)) else (arrearslaw05_DateReads.j0 k a1 a2 true)) else (if t163 < 0 then ((api_Code.f none).bind fun t166 => (if t166 = 15 then (arrearslaw05_DateReads.j0 k a1 a2 (t161 != 0)) else (arrearslaw05_DateReads.j0 k a1 a2 true))) else (arrearslaw05_DateReads.j0 k a1 a2 false)))) = some r := by rw [if_pos (show (none : Option Int).isNone = true by rfl)] at H; exact H
        clear H
        have H := H1
        clear H1
        try simp only [errW_none, errW_some]
        by_cases c14 : (true != (decide (t163 ≥ 0))) = true
        · rw [if_pos c14] at H
          have c14b0 : (true != (decide (t163 ≥ 0))) = true := c14
          (try (have c14b1 : decide (true = (decide (t163 ≥ 0))) = false := by simpa using c14))
          (try (have c14b2 : (true == (decide (t163 ≥ 0))) = false := by simpa using c14))
          (try (have c14b3 : ¬ (true = (decide (t163 ≥ 0))) := by simpa using c14))
          clear c14
          (first | rw [c14b0] | (simp only [i64_w, i32_w]; rw [c14b0]) | skip)
          have H' := Aside0.mk H
          clear H
          go_wp2
          go_meet
          case rel => exact ⟨_, (true), (by first | rfl | (simp; done) | (simp [*]; done) | (exfalso; simp at *; omega)), H', ⟨by first | omega | exact Nat.le_refl _⟩, ⟨by repeat (first | (with_reducible first | exact HB.out | apply below_alloc | apply pw_below_drewN | apply below_drew1) | exact HB.out)⟩⟩
        · rw [if_neg c14] at H
          have c14b0 : (true != (decide (t163 ≥ 0))) = false := by simpa using c14
          (try (have c14b1 : decide (true = (decide (t163 ≥ 0))) = true := by simpa using c14))
          (try (have c14b2 : (true == (decide (t163 ≥ 0))) = true := by simpa using c14))
          clear c14
          (first | rw [c14b0] | (simp only [i64_w, i32_w]; rw [c14b0]) | skip)
          by_cases c15 : t163 ≥ 0
          · rw [if_pos c15] at H
            have c15b0 : decide (0 ≤ t163) = true := decide_eq_true c15
            clear c15
            by_cases c16 : (wrap64 (t161)) = t163
            · rw [if_pos c16] at H
              have c16b0 : ((wrap64 (t161)) == t163) = true := beq_iff_eq.mpr c16
              have c16b1 : ((wrap64 (t161)) != t163) = false := bne_eq_false_iff_eq.mpr c16
              clear c16
              by_cases c17 : t163 < 0
              · rw [if_pos c17] at H
                have c17b0 : decide (t163 < 0) = true := decide_eq_true c17
                clear c17
                replace H := Option.bind_eq_some_iff.mp H
                obtain ⟨t165, A180, H⟩ := H
                replace H : (if t165 = 15 then (arrearslaw05_DateReads.j0 k a1 a2 (t161 != 0)) else (arrearslaw05_DateReads.j0 k a1 a2 true)) = some r := H
                have A18 := Aside0.mk A180
                clear A180
                by_cases c19 : t165 = 15
                · rw [if_pos c19] at H
                  have c19b0 : (t165 == 15) = true := beq_iff_eq.mpr c19
                  have c19b1 : (t165 != 15) = false := bne_eq_false_iff_eq.mpr c19
                  clear c19
                  have H' := Aside0.mk H
                  clear H
                  have CA18 := fun W (hGW : Go.Proofs.YtbgjeelbbmcpeaaDoor.M.Laid W) => api_Code.calls none t165 W hGW A18.out
                  try simp only [errW_none, errW_some] at CA18
                  go_wp2_with (first | (go_at_call 11; (with_reducible refine (CA18 _ ?hGL).mono ?_); (case hGL => exact Go.Proofs.YtbgjeelbbmcpeaaDoor.M.Laid.below HG.out (by repeat (first | (with_reducible first | exact HB.out | apply below_alloc | apply pw_below_drewN | apply below_drew1) | exact HB.out))); rintro e w20 ⟨rfl, hb⟩; have n0_ := Aside0.mk (below_step (by repeat (first | (with_reducible first | exact HB.out | apply below_alloc | apply pw_below_drewN | apply below_drew1) | exact HB.out)) hb); clear HB; have HB := n0_; clear n0_; (try clear hb); (try clear hb2); (try clear hk); (try clear hi)))
                  go_meet
                  case rel => exact ⟨_, ((t161 != 0)), (by first | rfl | (simp; done) | (simp [*]; done) | (exfalso; simp at *; omega)), H', ⟨by first | omega | exact Nat.le_refl _⟩, ⟨by repeat (first | (with_reducible first | exact HB.out | apply below_alloc | apply pw_below_drewN | apply below_drew1) | exact HB.out)⟩⟩
                · rw [if_neg c19] at H
                  have c19b0 : (t165 == 15) = false := beq_eq_false_iff_ne.mpr c19
                  have c19b1 : (t165 != 15) = true := bne_iff_ne.mpr c19
                  have H' := Aside0.mk H
                  clear H
                  have CA18 := fun W (hGW : Go.Proofs.YtbgjeelbbmcpeaaDoor.M.Laid W) => api_Code.calls none t165 W hGW A18.out
                  try simp only [errW_none, errW_some] at CA18
                  go_wp2_with (first | (go_at_call 11; (with_reducible refine (CA18 _ ?hGL).mono ?_); (case hGL => exact Go.Proofs.YtbgjeelbbmcpeaaDoor.M.Laid.below HG.out (by repeat (first | (with_reducible first | exact HB.out | apply below_alloc | apply pw_below_drewN | apply below_drew1) | exact HB.out))); rintro e w21 ⟨rfl, hb⟩; have n0_ := Aside0.mk (below_step (by repeat (first | (with_reducible first | exact HB.out | apply below_alloc | apply pw_below_drewN | apply below_drew1) | exact HB.out)) hb); clear HB; have HB := n0_; clear n0_; (try clear hb); (try clear hb2); (try clear hk); (try clear hi)))
                  go_meet
                  case rel => exact ⟨_, (true), (by first | rfl | (simp; done) | (simp [*]; done) | (exfalso; simp at *; omega)), H', ⟨by first | omega | exact Nat.le_refl _⟩, ⟨by repeat (first | (with_reducible first | exact HB.out | apply below_alloc | apply pw_below_drewN | apply below_drew1) | exact HB.out)⟩⟩
              · rw [if_neg c17] at H
                have c17b0 : decide (t163 < 0) = false := decide_eq_false c17
                clear c17
                have H' := Aside0.mk H
                clear H
                go_wp2
                go_meet
                case rel => exact ⟨_, (false), (by first | rfl | (simp; done) | (simp [*]; done) | (exfalso; simp at *; omega)), H', ⟨by first | omega | exact Nat.le_refl _⟩, ⟨by repeat (first | (with_reducible first | exact HB.out | apply below_alloc | apply pw_below_drewN | apply below_drew1) | exact HB.out)⟩⟩
            · rw [if_neg c16] at H
              have c16b0 : ((wrap64 (t161)) == t163) = false := beq_eq_false_iff_ne.mpr c16
              have c16b1 : ((wrap64 (t161)) != t163) = true := bne_iff_ne.mpr c16
              have H' := Aside0.mk H
              clear H
              go_wp2
              go_meet
              case rel => exact ⟨_, (true), (by first | rfl | (simp; done) | (simp [*]; done) | (exfalso; simp at *; omega)), H', ⟨by first | omega | exact Nat.le_refl _⟩, ⟨by repeat (first | (with_reducible first | exact HB.out | apply below_alloc | apply pw_below_drewN | apply below_drew1) | exact HB.out)⟩⟩
          · rw [if_neg c15] at H
            have c15b0 : decide (0 ≤ t163) = false := decide_eq_false c15
            clear c15
            by_cases c22 : t163 < 0
            · rw [if_pos c22] at H
              have c22b0 : decide (t163 < 0) = true := decide_eq_true c22
              clear c22
              replace H := Option.bind_eq_some_iff.mp H
              obtain ⟨t166, A230, H⟩ := H
              replace H : (if t166 = 15 then (arrearslaw05_DateReads.j0 k a1 a2 (t161 != 0)) else (arrearslaw05_DateReads.j0 k a1 a2 true)) = some r := H
              have A23 := Aside0.mk A230
              clear A230
              by_cases c24 : t166 = 15
              · rw [if_pos c24] at H
                have c24b0 : (t166 == 15) = true := beq_iff_eq.mpr c24
                have c24b1 : (t166 != 15) = false := bne_eq_false_iff_eq.mpr c24
                clear c24
                have H' := Aside0.mk H
                clear H
                have CA23 := fun W (hGW : Go.Proofs.YtbgjeelbbmcpeaaDoor.M.Laid W) => api_Code.calls none t166 W hGW A23.out
                try simp only [errW_none, errW_some] at CA23
                go_wp2_with (first | (go_at_call 11; (with_reducible refine (CA23 _ ?hGL).mono ?_); (case hGL => exact Go.Proofs.YtbgjeelbbmcpeaaDoor.M.Laid.below HG.out (by repeat (first | (with_reducible first | exact HB.out | apply below_alloc | apply pw_below_drewN | apply below_drew1) | exact HB.out))); rintro e w25 ⟨rfl, hb⟩; have n0_ := Aside0.mk (below_step (by repeat (first | (with_reducible first | exact HB.out | apply below_alloc | apply pw_below_drewN | apply below_drew1) | exact HB.out)) hb); clear HB; have HB := n0_; clear n0_; (try clear hb); (try clear hb2); (try clear hk); (try clear hi)))
                go_meet
                case rel => exact ⟨_, ((t161 != 0)), (by first | rfl | (simp; done) | (simp [*]; done) | (exfalso; simp at *; omega)), H', ⟨by first | omega | exact Nat.le_refl _⟩, ⟨by repeat (first | (with_reducible first | exact HB.out | apply below_alloc | apply pw_below_drewN | apply below_drew1) | exact HB.out)⟩⟩
              · rw [if_neg c24] at H
                have c24b0 : (t166 == 15) = false := beq_eq_false_iff_ne.mpr c24
                have c24b1 : (t166 != 15) = true := bne_iff_ne.mpr c24
                have H' := Aside0.mk H
                clear H
                have CA23 := fun W (hGW : Go.Proofs.YtbgjeelbbmcpeaaDoor.M.Laid W) => api_Code.calls none t166 W hGW A23.out
                try simp only [errW_none, errW_some] at CA23
                go_wp2_with (first | (go_at_call 11; (with_reducible refine (CA23 _ ?hGL).mono ?_); (case hGL => exact Go.Proofs.YtbgjeelbbmcpeaaDoor.M.Laid.below HG.out (by repeat (first | (with_reducible first | exact HB.out | apply below_alloc | apply pw_below_drewN | apply below_drew1) | exact HB.out))); rintro e w26 ⟨rfl, hb⟩; have n0_ := Aside0.mk (below_step (by repeat (first | (with_reducible first | exact HB.out | apply below_alloc | apply pw_below_drewN | apply below_drew1) | exact HB.out)) hb); clear HB; have HB := n0_; clear n0_; (try clear hb); (try clear hb2); (try clear hk); (try clear hi)))
                go_meet
                case rel => exact ⟨_, (true), (by first | rfl | (simp; done) | (simp [*]; done) | (exfalso; simp at *; omega)), H', ⟨by first | omega | exact Nat.le_refl _⟩, ⟨by repeat (first | (with_reducible first | exact HB.out | apply below_alloc | apply pw_below_drewN | apply below_drew1) | exact HB.out)⟩⟩
            · rw [if_neg c22] at H
              have c22b0 : decide (t163 < 0) = false := decide_eq_false c22
              clear c22
              have H' := Aside0.mk H
              clear H
              go_wp2
              go_meet
              case rel => exact ⟨_, (false), (by first | rfl | (simp; done) | (simp [*]; done) | (exfalso; simp at *; omega)), H', ⟨by first | omega | exact Nat.le_refl _⟩, ⟨by repeat (first | (with_reducible first | exact HB.out | apply below_alloc | apply pw_below_drewN | apply below_drew1) | exact HB.out)⟩⟩
      · have H1 : (if (false != (decide (t163 ≥ 0))) = true then (arrearslaw05_DateReads.j0 k a1 a2 true) else (if t163 ≥ 0 then (if (wrap64 (t161)) = t163 then (if t163 < 0 then ((api_Code.f (some q164)).bind fun t167 => (if t167 = 15 then (arrearslaw05_DateReads.j0 k a1 a2 (t161 != 0)) else (arrearslaw05_DateReads.j0 k a1 a2 true))) else (arrearslaw05_DateReads.j0 k a1 a2 false)) else (arrearslaw05_DateReads.j0 k a1 a2 true)) else (if t163 < 0 then ((api_Code.f (some q164)).bind fun t168 => (if t168 = 15 then (arrearslaw05_DateReads.j0 k a1 a2 (t161 != 0)) else (arrearslaw05_DateReads.j0 k a1 a2 true))) else (arrearslaw05_DateReads.j0 k a1 a2 false)))) = some r := by rw [if_neg (show ¬ (some q164).isNone = true by simp)] at H; exact H
        clear H
        have H := H1
        clear H1
        try simp only [errW_none, errW_some]
        by_cases c27 : (false != (decide (t163 ≥ 0))) = true
        · rw [if_pos c27] at H
          have c27b0 : (false != (decide (t163 ≥ 0))) = true := c27
          (try (have c27b1 : decide (false = (decide (t163 ≥ 0))) = false := by simpa using c27))
          (try (have c27b2 : (false == (decide (t163 ≥ 0))) = false := by simpa using c27))
          (try (have c27b3 : ¬ (false = (decide (t163 ≥ 0))) := by simpa using c27))
          clear c27
          have H' := Aside0.mk H
          clear H
          go_wp2
          go_meet
          case rel => exact ⟨_, (true), (by first | rfl | (simp; done) | (simp [*]; done) | (exfalso; simp at *; omega)), H', ⟨by first | omega | exact Nat.le_refl _⟩, ⟨by repeat (first | (with_reducible first | exact HB.out | apply below_alloc | apply pw_below_drewN | apply below_drew1) | exact HB.out)⟩⟩
        · rw [if_neg c27] at H
          have c27b0 : (false != (decide (t163 ≥ 0))) = false := by simpa using c27
          (try (have c27b1 : decide (false = (decide (t163 ≥ 0))) = true := by simpa using c27))
          (try (have c27b2 : (false == (decide (t163 ≥ 0))) = true := by simpa using c27))
          clear c27
          by_cases c28 : t163 ≥ 0
          · rw [if_pos c28] at H
            have c28b0 : decide (0 ≤ t163) = true := decide_eq_true c28
            clear c28
            by_cases c29 : (wrap64 (t161)) = t163
            · rw [if_pos c29] at H
              have c29b0 : ((wrap64 (t161)) == t163) = true := beq_iff_eq.mpr c29
              have c29b1 : ((wrap64 (t161)) != t163) = false := bne_eq_false_iff_eq.mpr c29
              clear c29
              by_cases c30 : t163 < 0
              · rw [if_pos c30] at H
                have c30b0 : decide (t163 < 0) = true := decide_eq_true c30
                clear c30
                replace H := Option.bind_eq_some_iff.mp H
                obtain ⟨t167, A310, H⟩ := H
                replace H : (if t167 = 15 then (arrearslaw05_DateReads.j0 k a1 a2 (t161 != 0)) else (arrearslaw05_DateReads.j0 k a1 a2 true)) = some r := H
                have A31 := Aside0.mk A310
                clear A310
                by_cases c32 : t167 = 15
                · rw [if_pos c32] at H
                  have c32b0 : (t167 == 15) = true := beq_iff_eq.mpr c32
                  have c32b1 : (t167 != 15) = false := bne_eq_false_iff_eq.mpr c32
                  clear c32
                  have H' := Aside0.mk H
                  clear H
                  have CA31 := fun W (hGW : Go.Proofs.YtbgjeelbbmcpeaaDoor.M.Laid W) => api_Code.calls (some q164) t167 W hGW A31.out
                  try simp only [errW_none, errW_some] at CA31
                  go_wp2_with (first | (go_at_call 11; (with_reducible refine (CA31 _ ?hGL).mono ?_); (case hGL => exact Go.Proofs.YtbgjeelbbmcpeaaDoor.M.Laid.below HG.out (by repeat (first | (with_reducible first | exact HB.out | apply below_alloc | apply pw_below_drewN | apply below_drew1) | exact HB.out))); rintro e w33 ⟨rfl, hb⟩; have n0_ := Aside0.mk (below_step (by repeat (first | (with_reducible first | exact HB.out | apply below_alloc | apply pw_below_drewN | apply below_drew1) | exact HB.out)) hb); clear HB; have HB := n0_; clear n0_; (try clear hb); (try clear hb2); (try clear hk); (try clear hi)))
                  go_meet
                  case rel => exact ⟨_, ((t161 != 0)), (by first | rfl | (simp; done) | (simp [*]; done) | (exfalso; simp at *; omega)), H', ⟨by first | omega | exact Nat.le_refl _⟩, ⟨by repeat (first | (with_reducible first | exact HB.out | apply below_alloc | apply pw_below_drewN | apply below_drew1) | exact HB.out)⟩⟩
                · rw [if_neg c32] at H
                  have c32b0 : (t167 == 15) = false := beq_eq_false_iff_ne.mpr c32
                  have c32b1 : (t167 != 15) = true := bne_iff_ne.mpr c32
                  have H' := Aside0.mk H
                  clear H
                  have CA31 := fun W (hGW : Go.Proofs.YtbgjeelbbmcpeaaDoor.M.Laid W) => api_Code.calls (some q164) t167 W hGW A31.out
                  try simp only [errW_none, errW_some] at CA31
                  go_wp2_with (first | (go_at_call 11; (with_reducible refine (CA31 _ ?hGL).mono ?_); (case hGL => exact Go.Proofs.YtbgjeelbbmcpeaaDoor.M.Laid.below HG.out (by repeat (first | (with_reducible first | exact HB.out | apply below_alloc | apply pw_below_drewN | apply below_drew1) | exact HB.out))); rintro e w34 ⟨rfl, hb⟩; have n0_ := Aside0.mk (below_step (by repeat (first | (with_reducible first | exact HB.out | apply below_alloc | apply pw_below_drewN | apply below_drew1) | exact HB.out)) hb); clear HB; have HB := n0_; clear n0_; (try clear hb); (try clear hb2); (try clear hk); (try clear hi)))
                  go_meet
                  case rel => exact ⟨_, (true), (by first | rfl | (simp; done) | (simp [*]; done) | (exfalso; simp at *; omega)), H', ⟨by first | omega | exact Nat.le_refl _⟩, ⟨by repeat (first | (with_reducible first | exact HB.out | apply below_alloc | apply pw_below_drewN | apply below_drew1) | exact HB.out)⟩⟩
              · rw [if_neg c30] at H
                have c30b0 : decide (t163 < 0) = false := decide_eq_false c30
                clear c30
                have H' := Aside0.mk H
                clear H
                go_wp2
                go_meet
                case rel => exact ⟨_, (false), (by first | rfl | (simp; done) | (simp [*]; done) | (exfalso; simp at *; omega)), H', ⟨by first | omega | exact Nat.le_refl _⟩, ⟨by repeat (first | (with_reducible first | exact HB.out | apply below_alloc | apply pw_below_drewN | apply below_drew1) | exact HB.out)⟩⟩
            · rw [if_neg c29] at H
              have c29b0 : ((wrap64 (t161)) == t163) = false := beq_eq_false_iff_ne.mpr c29
              have c29b1 : ((wrap64 (t161)) != t163) = true := bne_iff_ne.mpr c29
              have H' := Aside0.mk H
              clear H
              go_wp2
              go_meet
              case rel => exact ⟨_, (true), (by first | rfl | (simp; done) | (simp [*]; done) | (exfalso; simp at *; omega)), H', ⟨by first | omega | exact Nat.le_refl _⟩, ⟨by repeat (first | (with_reducible first | exact HB.out | apply below_alloc | apply pw_below_drewN | apply below_drew1) | exact HB.out)⟩⟩
          · rw [if_neg c28] at H
            have c28b0 : decide (0 ≤ t163) = false := decide_eq_false c28
            clear c28
            by_cases c35 : t163 < 0
            · rw [if_pos c35] at H
              have c35b0 : decide (t163 < 0) = true := decide_eq_true c35
              clear c35
              replace H := Option.bind_eq_some_iff.mp H
              obtain ⟨t168, A360, H⟩ := H
              replace H : (if t168 = 15 then (arrearslaw05_DateReads.j0 k a1 a2 (t161 != 0)) else (arrearslaw05_DateReads.j0 k a1 a2 true)) = some r := H
              have A36 := Aside0.mk A360
              clear A360
              by_cases c37 : t168 = 15
              · rw [if_pos c37] at H
                have c37b0 : (t168 == 15) = true := beq_iff_eq.mpr c37
                have c37b1 : (t168 != 15) = false := bne_eq_false_iff_eq.mpr c37
                clear c37
                have H' := Aside0.mk H
                clear H
                have CA36 := fun W (hGW : Go.Proofs.YtbgjeelbbmcpeaaDoor.M.Laid W) => api_Code.calls (some q164) t168 W hGW A36.out
                try simp only [errW_none, errW_some] at CA36
                go_wp2_with (first | (go_at_call 11; (with_reducible refine (CA36 _ ?hGL).mono ?_); (case hGL => exact Go.Proofs.YtbgjeelbbmcpeaaDoor.M.Laid.below HG.out (by repeat (first | (with_reducible first | exact HB.out | apply below_alloc | apply pw_below_drewN | apply below_drew1) | exact HB.out))); rintro e w38 ⟨rfl, hb⟩; have n0_ := Aside0.mk (below_step (by repeat (first | (with_reducible first | exact HB.out | apply below_alloc | apply pw_below_drewN | apply below_drew1) | exact HB.out)) hb); clear HB; have HB := n0_; clear n0_; (try clear hb); (try clear hb2); (try clear hk); (try clear hi)))
                go_meet
                case rel => exact ⟨_, ((t161 != 0)), (by first | rfl | (simp; done) | (simp [*]; done) | (exfalso; simp at *; omega)), H', ⟨by first | omega | exact Nat.le_refl _⟩, ⟨by repeat (first | (with_reducible first | exact HB.out | apply below_alloc | apply pw_below_drewN | apply below_drew1) | exact HB.out)⟩⟩
              · rw [if_neg c37] at H
                have c37b0 : (t168 == 15) = false := beq_eq_false_iff_ne.mpr c37
                have c37b1 : (t168 != 15) = true := bne_iff_ne.mpr c37
                have H' := Aside0.mk H
                clear H
                have CA36 := fun W (hGW : Go.Proofs.YtbgjeelbbmcpeaaDoor.M.Laid W) => api_Code.calls (some q164) t168 W hGW A36.out
                try simp only [errW_none, errW_some] at CA36
                go_wp2_with (first | (go_at_call 11; (with_reducible refine (CA36 _ ?hGL).mono ?_); (case hGL => exact Go.Proofs.YtbgjeelbbmcpeaaDoor.M.Laid.below HG.out (by repeat (first | (with_reducible first | exact HB.out | apply below_alloc | apply pw_below_drewN | apply below_drew1) | exact HB.out))); rintro e w39 ⟨rfl, hb⟩; have n0_ := Aside0.mk (below_step (by repeat (first | (with_reducible first | exact HB.out | apply below_alloc | apply pw_below_drewN | apply below_drew1) | exact HB.out)) hb); clear HB; have HB := n0_; clear n0_; (try clear hb); (try clear hb2); (try clear hk); (try clear hi)))
                go_meet
                case rel => exact ⟨_, (true), (by first | rfl | (simp; done) | (simp [*]; done) | (exfalso; simp at *; omega)), H', ⟨by first | omega | exact Nat.le_refl _⟩, ⟨by repeat (first | (with_reducible first | exact HB.out | apply below_alloc | apply pw_below_drewN | apply below_drew1) | exact HB.out)⟩⟩
            · rw [if_neg c35] at H
              have c35b0 : decide (t163 < 0) = false := decide_eq_false c35
              clear c35
              have H' := Aside0.mk H
              clear H
              go_wp2
              go_meet
              case rel => exact ⟨_, (false), (by first | rfl | (simp; done) | (simp [*]; done) | (exfalso; simp at *; omega)), H', ⟨by first | omega | exact Nat.le_refl _⟩, ⟨by repeat (first | (with_reducible first | exact HB.out | apply below_alloc | apply pw_below_drewN | apply below_drew1) | exact HB.out)⟩⟩
    case rest =>
      clear HC9
      try clear c1
      try clear q1
      try clear c2
      try clear p2
      try clear c3
      try clear c5
      try clear c6
      try clear p6
      try clear c8
      try clear c14
      try clear c14b0
      try clear c14b1
      try clear c14b2
      try clear c15
      try clear c15b0
      try clear c16
      try clear c16b0
      try clear c16b1
      try clear q16
      try clear c17
      try clear c17b0
      try clear c19
      try clear c19b0
      try clear c19b1
      try clear c21
      try clear c22
      try clear c22b0
      try clear c23
      try clear c24
      try clear c24b0
      try clear c24b1
      try clear c27
      try clear c27b0
      try clear c27b1
      try clear c27b2
      try clear c28
      try clear c28b0
      try clear c29
      try clear c29b0
      try clear c29b1
      try clear c30
      try clear c30b0
      try clear c32
      try clear c32b0
      try clear c32b1
      try clear c35
      try clear c35b0
      try clear c37
      try clear c37b0
      try clear c37b1
      try clear q164
      obtain ⟨kq, x48_8, rfl, HA, HJ8, HB⟩ := hcut
      cases kq with
      | zero => exact absurd HA.out (by simp [arrearslaw05_DateReads.j0])
      | succ kj8 =>
        have H := HA.out
        clear HA
        simp only [arrearslaw05_DateReads.j0] at H
        by_cases c40 : x48_8 = true
        · subst c40
          have H1 : (some false) = some r := by rw [if_pos rfl] at H; exact H
          clear H
          have H := H1
          clear H1
          exact absurd (H.trans (congrArg some HR.out)) (by simp)
        · replace c40 := Bool.eq_false_iff.mpr c40
          subst c40
          have H1 : ((date_Leap.f a1).bind fun t169 => ((arrearsref05_Leap.f a1).bind fun t170 => (if (t169 == t170) = true then ((date_Length.f kj8 a1 a2).bind fun t171 => ((arrearsref05_Length.f kj8 a1 a2).bind fun t172 => (some (t171 == t172)))) else (some false)))) = some r := by rw [if_neg (show ¬ (false = true) by decide)] at H; exact H
          clear H
          have H := H1
          clear H1
          replace H := Option.bind_eq_some_iff.mp H
          obtain ⟨t169, A410, H⟩ := H
          replace H : ((arrearsref05_Leap.f a1).bind fun t170 => (if (t169 == t170) = true then ((date_Length.f kj8 a1 a2).bind fun t171 => ((arrearsref05_Length.f kj8 a1 a2).bind fun t172 => (some (t171 == t172)))) else (some false))) = some r := H
          have A41 := Aside0.mk A410
          clear A410
          replace H := Option.bind_eq_some_iff.mp H
          obtain ⟨t170, A420, H⟩ := H
          replace H : (if (t169 == t170) = true then ((date_Length.f kj8 a1 a2).bind fun t171 => ((arrearsref05_Length.f kj8 a1 a2).bind fun t172 => (some (t171 == t172)))) else (some false)) = some r := H
          have A42 := Aside0.mk A420
          clear A420
          by_cases c43 : (t169 == t170) = true
          · rw [if_pos c43] at H
            have c43b0 : (t169 == t170) = true := c43
            (try (have c43b1 : decide (t169 = t170) = true := by simpa using c43))
            (try (have c43b2 : (t169 == t170) = true := by simpa using c43))
            clear c43
            replace H := Option.bind_eq_some_iff.mp H
            obtain ⟨t171, A440, H⟩ := H
            replace H : ((arrearsref05_Length.f kj8 a1 a2).bind fun t172 => (some (t171 == t172))) = some r := H
            have A44 := Aside0.mk A440
            clear A440
            replace H := Option.bind_eq_some_iff.mp H
            obtain ⟨t172, A450, H⟩ := H
            replace H : (some (t171 == t172)) = some r := H
            have A45 := Aside0.mk A450
            clear A450
            obtain rfl := Option.some.inj H
            go_wp2_with (first | ((with_reducible refine gate_callee (f := 24) rfl ?_); refine goesL_ (some 50) rfl rfl Tryd.func24 (by kernel_rfl) rfl #[.int .i64 a1] rfl (by (try simp only [List.map_toArray, List.map_cons, List.map_nil]); first | done | rfl | (simp only [List.length_drop, List.length_take]; rfl)) ?_; (with_reducible refine (date_Leap.calls a1 t169 _ A41.out).mono ?_); rintro e w' ⟨rfl, ⟨nd, rfl⟩⟩; refine ⟨_, rfl, ?_⟩) | ((with_reducible refine gate_callee (f := 25) rfl ?_); refine goesL_ (some 52) rfl rfl Tryd.func25 (by kernel_rfl) rfl #[.int .i64 a1] rfl (by (try simp only [List.map_toArray, List.map_cons, List.map_nil]); first | done | rfl | (simp only [List.length_drop, List.length_take]; rfl)) ?_; (with_reducible refine (arrearsref05_Leap.calls a1 t170 _ A42.out).mono ?_); rintro e w' ⟨rfl, ⟨nd, rfl⟩⟩; refine ⟨_, rfl, ?_⟩) | (go_at_call 26; (with_reducible refine (date_Length.calls kj8 a1 a2 t171 _ A44.out).mono ?_); rintro e w' ⟨rfl, ⟨nd, rfl⟩⟩) | (go_at_call 17; (with_reducible refine (arrearsref05_Length.calls kj8 a1 a2 t172 _ A45.out).mono ?_); rintro e w46 ⟨rfl, hb⟩; have n0_ := Aside0.mk (below_step (by repeat (first | (with_reducible first | exact HB.out | apply below_alloc | apply pw_below_drewN | apply below_drew1) | exact HB.out)) hb); clear HB; have HB := n0_; clear n0_; (try clear hb); (try clear hb2); (try clear hk); (try clear hi)))
            go_ret
            exact ⟨by first | rfl | (simp [errW_none, errW_some] <;> rfl) | (simp [*, errW_none, errW_some] <;> rfl), by repeat (first | (with_reducible first | exact HB.out | apply below_alloc | apply pw_below_drewN | apply below_drew1) | exact HB.out)⟩
          · rw [if_neg c43] at H
            have c43b0 : (t169 == t170) = false := by simpa using c43
            (try (have c43b1 : decide (t169 = t170) = false := by simpa using c43))
            (try (have c43b2 : (t169 == t170) = false := by simpa using c43))
            (try (have c43b3 : ¬ (t169 = t170) := by simpa using c43))
            clear c43
            exact absurd (H.trans (congrArg some HR.out)) (by simp)
  · replace c5 := Bool.eq_false_iff.mpr c5
    subst c5
    have H1 : (some false) = some r := by rw [if_neg (show ¬ (false = true) by decide)] at H; exact H
    clear H
    have H := H1
    clear H1
    exact absurd (H.trans (congrArg some HR.out)) (by simp)
end Go.Proofs.YtbgjeelbbmcpeaaDoor.PDateReads
