-- Printed by a wrapper of this session's round the kit's print.py; Lean checks it.
import Derived.Test.YthokfepglahgpaaDoorPDueCountsx0
import Derived.Test.YthokfepglahgpaaDoorPDueCountsx3
namespace Go.Proofs.YthokfepglahgpaaDoor.PDueCounts
open Go.RowKit Go.Proofs.YthokfepglahgpaaDoorW.PrintWords Go.Proofs.YthokfepglahgpaaDoorW.PrintLast Go.Proofs.YthokfepglahgpaaDoorW.PrintMore
attribute [local go_sem] max2_int min2_int max_two min_two max_three min_three max_four min_four   -- for this text's walks alone
set_option linter.unusedVariables false
set_option linter.unusedSimpArgs false

/-! ### due_Count: function 15 -/
def due_Count.l0 : Nat → Int → Int → Int → Int → Int → Option (Int)
  | 0, _, _, _, _, _ => none
  | k + 1, x0, x1, x2, x7, x8 => if x8 ≤ (mn x1 480) then ((due_Plain.f k x0 x8).bind fun bt158 => (if bt158.2.isNone = true then (if bt158.1 ≤ x2 then (due_Count.l0 k x0 x1 x2 (wrap64 (x7 + 1)) (wrap64 (x8 + 1))) else (due_Count.l0 k x0 x1 x2 x7 (wrap64 (x8 + 1)))) else (due_Count.l0 k x0 x1 x2 x7 (wrap64 (x8 + 1))))) else (some x7)
def due_Count.f (k : Nat) (a0 : Int) (a1 : Int) (a2 : Int) : Option (Int) := due_Count.l0 k a0 a1 a2 0 1
theorem due_Count.mono_l : ∀ k, (∀ y0 y1 y2 y3 y4, LeO (due_Count.l0 k y0 y1 y2 y3 y4) (due_Count.l0 (k + 1) y0 y1 y2 y3 y4))
  | 0 => fun _ _ _ _ _ r h => by simp [due_Count.l0] at h
  | k + 1 => by
    have ih0 := due_Count.mono_l k
    · intro y0 y1 y2 y3 y4
      unfold due_Count.l0
      repeat' first
      | (with_reducible exact ih0 _ _ _ _ _)
      | (with_reducible exact due_Plain.mono _ _ _)
      | (with_reducible exact LeO.refl _)
      | (with_reducible exact LeO.none _)
      | (with_reducible refine LeO.ite ?_ ?_)
      | (with_reducible refine LeO.bind ?_ (fun _ => ?_))
      | exact ih0 _ _ _ _ _
      | exact due_Plain.mono _ _ _
      | exact LeO.none _
      | refine LeO.ite ?_ ?_
      | refine LeO.bind ?_ (fun _ => ?_)
theorem due_Count.mono : ∀ a0 a1 a2 k, LeO (due_Count.f k a0 a1 a2) (due_Count.f (k + 1) a0 a1 a2) := by
  intro a0 a1 a2 k
  have ih0 := due_Count.mono_l k
  unfold due_Count.f
  repeat' first
      | (with_reducible exact ih0 _ _ _ _ _)
      | (with_reducible exact due_Plain.mono _ _ _)
      | (with_reducible exact LeO.refl _)
      | (with_reducible exact LeO.none _)
      | (with_reducible refine LeO.ite ?_ ?_)
      | (with_reducible refine LeO.bind ?_ (fun _ => ?_))
      | exact ih0 _ _ _ _ _
      | exact due_Plain.mono _ _ _
      | exact LeO.none _
      | refine LeO.ite ?_ ?_
      | refine LeO.bind ?_ (fun _ => ?_)
set_option maxHeartbeats 8000000 in
set_option maxRecDepth 100000 in
theorem due_Count.calls (k : Nat) (a0 : Int) (a1 : Int) (a2 : Int) (r : Int) (w : World) (h : due_Count.f k a0 a1 a2 = some r) :
    Calls Tryd.prog 15 #[.int .i32 a0, .int .i64 a1, .int .i32 a2] w fun e w' => e = .returned (.int .i64 r) ∧ Below w.heap.size w w' := by
  have hu26 := Tryd.underlying26
  have hu45 := Tryd.underlying45
  have HB := Aside0.mk (Below.refl w.heap.size w)
  have H : (due_Count.l0 k a0 a1 a2 0 1) = some r := h
  clear h
  have H' := Aside0.mk H
  clear H
  go_enter Tryd.func15, Tryd.ntmps15
  go_wp2
  go_loopg [7, 8] k (fun kq v7 v8 w' => ∃ (x7_1 : Int) (x8_1 : Int), v7 = .int .i64 x7_1 ∧ v8 = .int .i64 x8_1 ∧ Aside0 (due_Count.l0 kq a0 a1 a2 x7_1 x8_1 = some r) ∧ Aside0 (kq ≤ k) ∧ Aside0 (Below w.heap.size w w'))
  case atStart => exact ⟨(0), (1), (by first | rfl | (simp; done) | (simp [*]; done)), (by first | rfl | (simp; done) | (simp [*]; done)), H', ⟨Nat.le_refl _⟩, ⟨by repeat (first | (with_reducible first | exact HB.out | apply below_alloc | apply pw_below_drewN | apply below_drew1) | exact HB.out)⟩⟩
  case round =>
    clear H'
    try clear c1
    try clear p2
    obtain ⟨x7_1, x8_1, rfl, rfl, HA, HK1, HB⟩ := hrel
    cases gk with
    | zero => exact absurd HA.out (by simp [due_Count.l0])
    | succ k1 =>
      have H := HA.out
      clear HA
      simp only [due_Count.l0] at H
      obtain ⟨ji4, hji4⟩ : ∃ j_ : Int, (mn a1 480) = j_ := ⟨_, rfl⟩
      replace H : (if x8_1 ≤ (ji4) then ((due_Plain.f k1 a0 x8_1).bind fun bt158 => (if bt158.2.isNone = true then (if bt158.1 ≤ a2 then (due_Count.l0 k1 a0 a1 a2 (wrap64 (x7_1 + 1)) (wrap64 (x8_1 + 1))) else (due_Count.l0 k1 a0 a1 a2 x7_1 (wrap64 (x8_1 + 1)))) else (due_Count.l0 k1 a0 a1 a2 x7_1 (wrap64 (x8_1 + 1))))) else (some x7_1)) = some r := by first | (rw [hji4] at H; exact H) | (simp only [hji4] at H ⊢; exact H)
      have hji4_ : (if 480 < a1 then 480 else a1) = ji4 := hji4
      by_cases c5 : x8_1 ≤ (ji4)
      · rw [if_pos c5] at H
        have c5b0 : decide (x8_1 ≤ (ji4)) = true := decide_eq_true c5
        clear c5
        replace H := Option.bind_eq_some_iff.mp H
        obtain ⟨⟨t158, t159⟩, A60, H⟩ := H
        replace H : (if t159.isNone = true then (if t158 ≤ a2 then (due_Count.l0 k1 a0 a1 a2 (wrap64 (x7_1 + 1)) (wrap64 (x8_1 + 1))) else (due_Count.l0 k1 a0 a1 a2 x7_1 (wrap64 (x8_1 + 1)))) else (due_Count.l0 k1 a0 a1 a2 x7_1 (wrap64 (x8_1 + 1)))) = some r := H
        have A6 := Aside0.mk A60
        clear A60
        rcases t159 with _ | q160
        · have H1 : (if t158 ≤ a2 then (due_Count.l0 k1 a0 a1 a2 (wrap64 (x7_1 + 1)) (wrap64 (x8_1 + 1))) else (due_Count.l0 k1 a0 a1 a2 x7_1 (wrap64 (x8_1 + 1)))) = some r := by rw [if_pos (show (none : Option Int).isNone = true by rfl)] at H; exact H
          clear H
          have H := H1
          clear H1
          try simp only [errW_none, errW_some]
          by_cases c7 : t158 ≤ a2
          · rw [if_pos c7] at H
            have c7b0 : decide (t158 ≤ a2) = true := decide_eq_true c7
            clear c7
            have H' := Aside0.mk H
            clear H
            go_wp2_with (first | ((with_reducible refine gate_callee (f := 10) rfl ?_); refine goesL_ (some 20) rfl rfl Tryd.func10 (by kernel_rfl) rfl #[.int .i32 a0, .int .i64 x8_1] rfl (by (try simp only [List.map_toArray, List.map_cons, List.map_nil]); first | done | rfl | (simp only [List.length_drop, List.length_take]; rfl)) ?_; (with_reducible refine (due_Plain.calls k1 a0 x8_1 t158 none _ A6.out).mono ?_); rintro e w8 ⟨rfl, hb⟩; refine ⟨_, rfl, ?_⟩; have n0_ := Aside0.mk (below_step (by repeat (first | (with_reducible first | exact HB.out | apply below_alloc | apply pw_below_drewN | apply below_drew1) | exact HB.out)) hb); clear HB; have HB := n0_; clear n0_; (try clear hb); (try clear hb2); (try clear hk); (try clear hi); (try simp only [errW_none, errW_some])))
            go_roundg k1
            case measure => have := HK1.out; omega
            case rel => exact ⟨(wrap64 (x7_1 + 1)), (wrap64 (x8_1 + 1)), (by first | rfl | (simp; done) | (simp [*]; done)), (by first | rfl | (simp; done) | (simp [*]; done)), H', ⟨by have := HK1.out; omega⟩, ⟨by repeat (first | (with_reducible first | exact HB.out | apply below_alloc | apply pw_below_drewN | apply below_drew1) | exact HB.out)⟩⟩
          · rw [if_neg c7] at H
            have c7b0 : decide (t158 ≤ a2) = false := decide_eq_false c7
            clear c7
            have H' := Aside0.mk H
            clear H
            go_wp2_with (first | ((with_reducible refine gate_callee (f := 10) rfl ?_); refine goesL_ (some 20) rfl rfl Tryd.func10 (by kernel_rfl) rfl #[.int .i32 a0, .int .i64 x8_1] rfl (by (try simp only [List.map_toArray, List.map_cons, List.map_nil]); first | done | rfl | (simp only [List.length_drop, List.length_take]; rfl)) ?_; (with_reducible refine (due_Plain.calls k1 a0 x8_1 t158 none _ A6.out).mono ?_); rintro e w9 ⟨rfl, hb⟩; refine ⟨_, rfl, ?_⟩; have n0_ := Aside0.mk (below_step (by repeat (first | (with_reducible first | exact HB.out | apply below_alloc | apply pw_below_drewN | apply below_drew1) | exact HB.out)) hb); clear HB; have HB := n0_; clear n0_; (try clear hb); (try clear hb2); (try clear hk); (try clear hi); (try simp only [errW_none, errW_some])))
            go_roundg k1
            case measure => have := HK1.out; omega
            case rel => exact ⟨(x7_1), (wrap64 (x8_1 + 1)), (by first | rfl | (simp; done) | (simp [*]; done)), (by first | rfl | (simp; done) | (simp [*]; done)), H', ⟨by have := HK1.out; omega⟩, ⟨by repeat (first | (with_reducible first | exact HB.out | apply below_alloc | apply pw_below_drewN | apply below_drew1) | exact HB.out)⟩⟩
        · have H1 : (due_Count.l0 k1 a0 a1 a2 x7_1 (wrap64 (x8_1 + 1))) = some r := by rw [if_neg (show ¬ (some q160).isNone = true by simp)] at H; exact H
          clear H
          have H := H1
          clear H1
          try simp only [errW_none, errW_some]
          have H' := Aside0.mk H
          clear H
          go_wp2_with (first | ((with_reducible refine gate_callee (f := 10) rfl ?_); refine goesL_ (some 20) rfl rfl Tryd.func10 (by kernel_rfl) rfl #[.int .i32 a0, .int .i64 x8_1] rfl (by (try simp only [List.map_toArray, List.map_cons, List.map_nil]); first | done | rfl | (simp only [List.length_drop, List.length_take]; rfl)) ?_; (with_reducible refine (due_Plain.calls k1 a0 x8_1 t158 (some q160) _ A6.out).mono ?_); rintro e w10 ⟨rfl, hb⟩; refine ⟨_, rfl, ?_⟩; have n0_ := Aside0.mk (below_step (by repeat (first | (with_reducible first | exact HB.out | apply below_alloc | apply pw_below_drewN | apply below_drew1) | exact HB.out)) hb); clear HB; have HB := n0_; clear n0_; (try clear hb); (try clear hb2); (try clear hk); (try clear hi); (try simp only [errW_none, errW_some])))
          go_roundg k1
          case measure => have := HK1.out; omega
          case rel => exact ⟨(x7_1), (wrap64 (x8_1 + 1)), (by first | rfl | (simp; done) | (simp [*]; done)), (by first | rfl | (simp; done) | (simp [*]; done)), H', ⟨by have := HK1.out; omega⟩, ⟨by repeat (first | (with_reducible first | exact HB.out | apply below_alloc | apply pw_below_drewN | apply below_drew1) | exact HB.out)⟩⟩
      · rw [if_neg c5] at H
        have c5b0 : decide (x8_1 ≤ (ji4)) = false := decide_eq_false c5
        clear c5
        obtain rfl := Option.some.inj H
        go_wp2
        go_ret
        exact ⟨by first | rfl | (simp [errW_none, errW_some] <;> rfl) | (simp only [← hji4]; first | rfl | (simp [errW_none, errW_some] <;> rfl)) | (simp [*, errW_none, errW_some] <;> rfl), by repeat (first | (with_reducible first | exact HB.out | apply below_alloc | apply pw_below_drewN | apply below_drew1) | exact HB.out)⟩

/-! ### arrearslaw07_DueCounts: function 5 -/
def arrearslaw07_DueCounts.l0 : Nat → Int → Int → Int → Int → Int → Int → Option (Bool)
  | 0, _, _, _, _, _, _ => none
  | k + 1, x0, x1, x2, x7, x8, x9 => if x9 ≤ (mn x1 480) then ((due_Plain.f k x0 x9).bind fun bt163 => (if bt163.2.isNone = true then (if bt163.1 ≤ x8 then (some false) else (if bt163.1 ≤ x2 then (arrearslaw07_DueCounts.l0 k x0 x1 x2 (wrap64 (x7 + 1)) bt163.1 (wrap64 (x9 + 1))) else (arrearslaw07_DueCounts.l0 k x0 x1 x2 x7 bt163.1 (wrap64 (x9 + 1))))) else (arrearslaw07_DueCounts.l0 k x0 x1 x2 x7 x8 (wrap64 (x9 + 1))))) else ((due_Count.f k x0 x1 x2).bind fun t162 => (some (t162 == x7)))
def arrearslaw07_DueCounts.f (k : Nat) (a0 : Int) (a1 : Int) (a2 : Int) : Option (Bool) := (arrearslaw07_awake.f k).bind fun t161 => (if t161 = true then (arrearslaw07_DueCounts.l0 k a0 a1 a2 0 (-1) 1) else (some false))
theorem arrearslaw07_DueCounts.mono_l : ∀ k, (∀ y0 y1 y2 y3 y4 y5, LeO (arrearslaw07_DueCounts.l0 k y0 y1 y2 y3 y4 y5) (arrearslaw07_DueCounts.l0 (k + 1) y0 y1 y2 y3 y4 y5))
  | 0 => fun _ _ _ _ _ _ r h => by simp [arrearslaw07_DueCounts.l0] at h
  | k + 1 => by
    have ih0 := arrearslaw07_DueCounts.mono_l k
    · intro y0 y1 y2 y3 y4 y5
      unfold arrearslaw07_DueCounts.l0
      repeat' first
      | (with_reducible exact ih0 _ _ _ _ _ _)
      | (with_reducible exact arrearslaw07_awake.mono _)
      | (with_reducible exact due_Count.mono _ _ _ _)
      | (with_reducible exact due_Plain.mono _ _ _)
      | (with_reducible exact LeO.refl _)
      | (with_reducible exact LeO.none _)
      | (with_reducible refine LeO.ite ?_ ?_)
      | (with_reducible refine LeO.bind ?_ (fun _ => ?_))
      | exact ih0 _ _ _ _ _ _
      | exact arrearslaw07_awake.mono _
      | exact due_Count.mono _ _ _ _
      | exact due_Plain.mono _ _ _
      | exact LeO.none _
      | refine LeO.ite ?_ ?_
      | refine LeO.bind ?_ (fun _ => ?_)
theorem arrearslaw07_DueCounts.mono : ∀ a0 a1 a2 k, LeO (arrearslaw07_DueCounts.f k a0 a1 a2) (arrearslaw07_DueCounts.f (k + 1) a0 a1 a2) := by
  intro a0 a1 a2 k
  have ih0 := arrearslaw07_DueCounts.mono_l k
  unfold arrearslaw07_DueCounts.f
  repeat' first
      | (with_reducible exact ih0 _ _ _ _ _ _)
      | (with_reducible exact arrearslaw07_awake.mono _)
      | (with_reducible exact due_Count.mono _ _ _ _)
      | (with_reducible exact due_Plain.mono _ _ _)
      | (with_reducible exact LeO.refl _)
      | (with_reducible exact LeO.none _)
      | (with_reducible refine LeO.ite ?_ ?_)
      | (with_reducible refine LeO.bind ?_ (fun _ => ?_))
      | exact ih0 _ _ _ _ _ _
      | exact arrearslaw07_awake.mono _
      | exact due_Count.mono _ _ _ _
      | exact due_Plain.mono _ _ _
      | exact LeO.none _
      | refine LeO.ite ?_ ?_
      | refine LeO.bind ?_ (fun _ => ?_)
set_option maxHeartbeats 8000000 in
set_option maxRecDepth 100000 in
theorem arrearslaw07_DueCounts.calls (k : Nat) (a0 : Int) (a1 : Int) (a2 : Int) (r : Bool) (w : World) (hG : Go.Proofs.YthokfepglahgpaaDoor.M.Laid w) (h : arrearslaw07_DueCounts.f k a0 a1 a2 = some r) (hr : r = true) :
    Calls Tryd.prog 5 #[.int .i32 a0, .int .i64 a1, .int .i32 a2] w fun e w' => e = .returned (.bool r) ∧ Below w.heap.size w w' := by
  have hu26 := Tryd.underlying26
  have hu45 := Tryd.underlying45
  have HB := Aside0.mk (Below.refl w.heap.size w)
  have HG := Aside0.mk hG
  clear hG
  have HR := Aside0.mk hr
  clear hr
  have H : ((arrearslaw07_awake.f k).bind fun t161 => (if t161 = true then (arrearslaw07_DueCounts.l0 k a0 a1 a2 0 (-1) 1) else (some false))) = some r := h
  clear h
  replace H := Option.bind_eq_some_iff.mp H
  obtain ⟨t161, A40, H⟩ := H
  replace H : (if t161 = true then (arrearslaw07_DueCounts.l0 k a0 a1 a2 0 (-1) 1) else (some false)) = some r := H
  have A4 := Aside0.mk A40
  clear A40
  by_cases c5 : t161 = true
  · subst c5
    have H1 : (arrearslaw07_DueCounts.l0 k a0 a1 a2 0 (-1) 1) = some r := by rw [if_pos rfl] at H; exact H
    clear H
    have H := H1
    clear H1
    have H' := Aside0.mk H
    clear H
    go_enter Tryd.func5, Tryd.ntmps5
    go_wp2_with (first | ((with_reducible refine gate_callee (f := 9) rfl ?_); refine goesL_ (some 12) rfl rfl Tryd.func9 (by kernel_rfl) rfl #[] rfl (by (try simp only [List.map_toArray, List.map_cons, List.map_nil]); first | done | rfl | (simp only [List.length_drop, List.length_take]; rfl)) ?_; (with_reducible refine (arrearslaw07_awake.calls k  true _ ?hGL A4.out).mono ?_); (case hGL => exact Go.Proofs.YthokfepglahgpaaDoor.M.Laid.below HG.out (by repeat (first | (with_reducible first | exact HB.out | apply below_alloc | apply pw_below_drewN | apply below_drew1) | exact HB.out))); rintro e w6 ⟨rfl, hb⟩; refine ⟨_, rfl, ?_⟩; have n0_ := Aside0.mk (below_step (by repeat (first | (with_reducible first | exact HB.out | apply below_alloc | apply pw_below_drewN | apply below_drew1) | exact HB.out)) hb); clear HB; have HB := n0_; clear n0_; (try clear hb); (try clear hb2); (try clear hk); (try clear hi)))
    go_loopg [7, 8, 9] k (fun kq v7 v8 v9 w' => ∃ (x7_1 : Int) (x8_1 : Int) (x9_1 : Int), v7 = .int .i64 x7_1 ∧ v8 = .int .i32 x8_1 ∧ v9 = .int .i64 x9_1 ∧ Aside0 (arrearslaw07_DueCounts.l0 kq a0 a1 a2 x7_1 x8_1 x9_1 = some r) ∧ Aside0 (kq ≤ k) ∧ Aside0 (Below w.heap.size w w'))
    case atStart => exact ⟨(0), ((-1)), (1), (by first | rfl | (simp; done) | (simp [*]; done) | (exfalso; simp at *; omega)), (by first | rfl | (simp; done) | (simp [*]; done) | (exfalso; simp at *; omega)), (by first | rfl | (simp; done) | (simp [*]; done) | (exfalso; simp at *; omega)), H', ⟨Nat.le_refl _⟩, ⟨by repeat (first | (with_reducible first | exact HB.out | apply below_alloc | apply pw_below_drewN | apply below_drew1) | exact HB.out)⟩⟩
    case round =>
      clear H'
      try clear p2
      try clear c5
      obtain ⟨x7_1, x8_1, x9_1, rfl, rfl, rfl, HA, HK1, HB⟩ := hrel
      cases gk with
      | zero => exact absurd HA.out (by simp [arrearslaw07_DueCounts.l0])
      | succ k1 =>
        have H := HA.out
        clear HA
        simp only [arrearslaw07_DueCounts.l0] at H
        obtain ⟨ji7, hji7⟩ : ∃ j_ : Int, (mn a1 480) = j_ := ⟨_, rfl⟩
        replace H : (if x9_1 ≤ (ji7) then ((due_Plain.f k1 a0 x9_1).bind fun bt163 => (if bt163.2.isNone = true then (if bt163.1 ≤ x8_1 then (some false) else (if bt163.1 ≤ a2 then (arrearslaw07_DueCounts.l0 k1 a0 a1 a2 (wrap64 (x7_1 + 1)) bt163.1 (wrap64 (x9_1 + 1))) else (arrearslaw07_DueCounts.l0 k1 a0 a1 a2 x7_1 bt163.1 (wrap64 (x9_1 + 1))))) else (arrearslaw07_DueCounts.l0 k1 a0 a1 a2 x7_1 x8_1 (wrap64 (x9_1 + 1))))) else ((due_Count.f k1 a0 a1 a2).bind fun t162 => (some (t162 == x7_1)))) = some r := by first | (rw [hji7] at H; exact H) | (simp only [hji7] at H ⊢; exact H)
        have hji7_ : (if 480 < a1 then 480 else a1) = ji7 := hji7
        by_cases c8 : x9_1 ≤ (ji7)
        · rw [if_pos c8] at H
          have c8b0 : decide (x9_1 ≤ (ji7)) = true := decide_eq_true c8
          clear c8
          replace H := Option.bind_eq_some_iff.mp H
          obtain ⟨⟨t163, t164⟩, A90, H⟩ := H
          replace H : (if t164.isNone = true then (if t163 ≤ x8_1 then (some false) else (if t163 ≤ a2 then (arrearslaw07_DueCounts.l0 k1 a0 a1 a2 (wrap64 (x7_1 + 1)) t163 (wrap64 (x9_1 + 1))) else (arrearslaw07_DueCounts.l0 k1 a0 a1 a2 x7_1 t163 (wrap64 (x9_1 + 1))))) else (arrearslaw07_DueCounts.l0 k1 a0 a1 a2 x7_1 x8_1 (wrap64 (x9_1 + 1)))) = some r := H
          have A9 := Aside0.mk A90
          clear A90
          rcases t164 with _ | q165
          · have H1 : (if t163 ≤ x8_1 then (some false) else (if t163 ≤ a2 then (arrearslaw07_DueCounts.l0 k1 a0 a1 a2 (wrap64 (x7_1 + 1)) t163 (wrap64 (x9_1 + 1))) else (arrearslaw07_DueCounts.l0 k1 a0 a1 a2 x7_1 t163 (wrap64 (x9_1 + 1))))) = some r := by rw [if_pos (show (none : Option Int).isNone = true by rfl)] at H; exact H
            clear H
            have H := H1
            clear H1
            try simp only [errW_none, errW_some]
            by_cases c10 : t163 ≤ x8_1
            · rw [if_pos c10] at H
              have c10b0 : decide (t163 ≤ x8_1) = true := decide_eq_true c10
              clear c10
              exact absurd (H.trans (congrArg some HR.out)) (by simp)
            · rw [if_neg c10] at H
              have c10b0 : decide (t163 ≤ x8_1) = false := decide_eq_false c10
              clear c10
              by_cases c12 : t163 ≤ a2
              · rw [if_pos c12] at H
                have c12b0 : decide (t163 ≤ a2) = true := decide_eq_true c12
                clear c12
                have H' := Aside0.mk H
                clear H
                go_wp2_with (first | ((with_reducible refine gate_callee (f := 10) rfl ?_); refine goesL_ (some 23) rfl rfl Tryd.func10 (by kernel_rfl) rfl #[.int .i32 a0, .int .i64 x9_1] rfl (by (try simp only [List.map_toArray, List.map_cons, List.map_nil]); first | done | rfl | (simp only [List.length_drop, List.length_take]; rfl)) ?_; (with_reducible refine (due_Plain.calls k1 a0 x9_1 t163 none _ A9.out).mono ?_); rintro e w13 ⟨rfl, hb⟩; refine ⟨_, rfl, ?_⟩; have n0_ := Aside0.mk (below_step (by repeat (first | (with_reducible first | exact HB.out | apply below_alloc | apply pw_below_drewN | apply below_drew1) | exact HB.out)) hb); clear HB; have HB := n0_; clear n0_; (try clear hb); (try clear hb2); (try clear hk); (try clear hi); (try simp only [errW_none, errW_some])))
                go_roundg k1
                case measure => have := HK1.out; omega
                case rel => exact ⟨(wrap64 (x7_1 + 1)), (t163), (wrap64 (x9_1 + 1)), (by first | rfl | (simp; done) | (simp [*]; done) | (exfalso; simp at *; omega)), (by first | rfl | (simp; done) | (simp [*]; done) | (exfalso; simp at *; omega)), (by first | rfl | (simp; done) | (simp [*]; done) | (exfalso; simp at *; omega)), H', ⟨by have := HK1.out; omega⟩, ⟨by repeat (first | (with_reducible first | exact HB.out | apply below_alloc | apply pw_below_drewN | apply below_drew1) | exact HB.out)⟩⟩
              · rw [if_neg c12] at H
                have c12b0 : decide (t163 ≤ a2) = false := decide_eq_false c12
                clear c12
                have H' := Aside0.mk H
                clear H
                go_wp2_with (first | ((with_reducible refine gate_callee (f := 10) rfl ?_); refine goesL_ (some 23) rfl rfl Tryd.func10 (by kernel_rfl) rfl #[.int .i32 a0, .int .i64 x9_1] rfl (by (try simp only [List.map_toArray, List.map_cons, List.map_nil]); first | done | rfl | (simp only [List.length_drop, List.length_take]; rfl)) ?_; (with_reducible refine (due_Plain.calls k1 a0 x9_1 t163 none _ A9.out).mono ?_); rintro e w14 ⟨rfl, hb⟩; refine ⟨_, rfl, ?_⟩; have n0_ := Aside0.mk (below_step (by repeat (first | (with_reducible first | exact HB.out | apply below_alloc | apply pw_below_drewN | apply below_drew1) | exact HB.out)) hb); clear HB; have HB := n0_; clear n0_; (try clear hb); (try clear hb2); (try clear hk); (try clear hi); (try simp only [errW_none, errW_some])))
                go_roundg k1
                case measure => have := HK1.out; omega
                case rel => exact ⟨(x7_1), (t163), (wrap64 (x9_1 + 1)), (by first | rfl | (simp; done) | (simp [*]; done) | (exfalso; simp at *; omega)), (by first | rfl | (simp; done) | (simp [*]; done) | (exfalso; simp at *; omega)), (by first | rfl | (simp; done) | (simp [*]; done) | (exfalso; simp at *; omega)), H', ⟨by have := HK1.out; omega⟩, ⟨by repeat (first | (with_reducible first | exact HB.out | apply below_alloc | apply pw_below_drewN | apply below_drew1) | exact HB.out)⟩⟩
          · have H1 : (arrearslaw07_DueCounts.l0 k1 a0 a1 a2 x7_1 x8_1 (wrap64 (x9_1 + 1))) = some r := by rw [if_neg (show ¬ (some q165).isNone = true by simp)] at H; exact H
            clear H
            have H := H1
            clear H1
            try simp only [errW_none, errW_some]
            have H' := Aside0.mk H
            clear H
            go_wp2_with (first | ((with_reducible refine gate_callee (f := 10) rfl ?_); refine goesL_ (some 23) rfl rfl Tryd.func10 (by kernel_rfl) rfl #[.int .i32 a0, .int .i64 x9_1] rfl (by (try simp only [List.map_toArray, List.map_cons, List.map_nil]); first | done | rfl | (simp only [List.length_drop, List.length_take]; rfl)) ?_; (with_reducible refine (due_Plain.calls k1 a0 x9_1 t163 (some q165) _ A9.out).mono ?_); rintro e w15 ⟨rfl, hb⟩; refine ⟨_, rfl, ?_⟩; have n0_ := Aside0.mk (below_step (by repeat (first | (with_reducible first | exact HB.out | apply below_alloc | apply pw_below_drewN | apply below_drew1) | exact HB.out)) hb); clear HB; have HB := n0_; clear n0_; (try clear hb); (try clear hb2); (try clear hk); (try clear hi); (try simp only [errW_none, errW_some])))
            go_roundg k1
            case measure => have := HK1.out; omega
            case rel => exact ⟨(x7_1), (x8_1), (wrap64 (x9_1 + 1)), (by first | rfl | (simp; done) | (simp [*]; done) | (exfalso; simp at *; omega)), (by first | rfl | (simp; done) | (simp [*]; done) | (exfalso; simp at *; omega)), (by first | rfl | (simp; done) | (simp [*]; done) | (exfalso; simp at *; omega)), H', ⟨by have := HK1.out; omega⟩, ⟨by repeat (first | (with_reducible first | exact HB.out | apply below_alloc | apply pw_below_drewN | apply below_drew1) | exact HB.out)⟩⟩
        · rw [if_neg c8] at H
          have c8b0 : decide (x9_1 ≤ (ji7)) = false := decide_eq_false c8
          clear c8
          replace H := Option.bind_eq_some_iff.mp H
          obtain ⟨t162, A160, H⟩ := H
          replace H : (some (t162 == x7_1)) = some r := H
          have A16 := Aside0.mk A160
          clear A160
          obtain rfl := Option.some.inj H
          go_wp2_with (first | ((with_reducible refine gate_callee (f := 15) rfl ?_); refine goesL_ (some 40) rfl rfl Tryd.func15 (by kernel_rfl) rfl #[.int .i32 a0, .int .i64 a1, .int .i32 a2] rfl (by (try simp only [List.map_toArray, List.map_cons, List.map_nil]); first | done | rfl | (simp only [List.length_drop, List.length_take]; rfl)) ?_; (with_reducible refine (due_Count.calls k1 a0 a1 a2 t162 _ A16.out).mono ?_); rintro e w17 ⟨rfl, hb⟩; refine ⟨_, rfl, ?_⟩; have n0_ := Aside0.mk (below_step (by repeat (first | (with_reducible first | exact HB.out | apply below_alloc | apply pw_below_drewN | apply below_drew1) | exact HB.out)) hb); clear HB; have HB := n0_; clear n0_; (try clear hb); (try clear hb2); (try clear hk); (try clear hi)))
          go_ret
          exact ⟨by first | rfl | (simp [errW_none, errW_some] <;> rfl) | (simp only [← hji7]; first | rfl | (simp [errW_none, errW_some] <;> rfl)) | (simp [*, errW_none, errW_some] <;> rfl), by repeat (first | (with_reducible first | exact HB.out | apply below_alloc | apply pw_below_drewN | apply below_drew1) | exact HB.out)⟩
  · replace c5 := Bool.eq_false_iff.mpr c5
    subst c5
    have H1 : (some false) = some r := by rw [if_neg (show ¬ (false = true) by decide)] at H; exact H
    clear H
    have H := H1
    clear H1
    exact absurd (H.trans (congrArg some HR.out)) (by simp)
end Go.Proofs.YthokfepglahgpaaDoor.PDueCounts
