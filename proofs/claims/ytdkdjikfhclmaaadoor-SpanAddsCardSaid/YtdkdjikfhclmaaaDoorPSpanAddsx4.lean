-- Printed by a wrapper of this session's round the kit's print.py; Lean checks it.
import Derived.Test.YtdkdjikfhclmaaaDoorPSpanAddsx0
import Derived.Test.YtdkdjikfhclmaaaDoorPSpanAddsx2
import Derived.Test.YtdkdjikfhclmaaaDoorPSpanAddsx3
namespace Go.Proofs.YtdkdjikfhclmaaaDoor.PSpanAdds
open Go.RowKit Go.Proofs.YtdkdjikfhclmaaaDoorW.PrintWords Go.Proofs.YtdkdjikfhclmaaaDoorW.PrintLast Go.Proofs.YtdkdjikfhclmaaaDoorW.PrintMore
attribute [local go_sem] max2_int min2_int max_two min_two max_three min_three max_four min_four   -- for this text's walks alone
set_option linter.unusedVariables false
set_option linter.unusedSimpArgs false

/-! ### arrearsref05_Next: function 13 -/
def arrearsref05_Next.j0 : Nat → Int → Int → Bool → Bool → Option (Int × Int)
  | 0, _, _, _, _ => none
  | k + 1, x0, x1, x2, x12 => if x12 = true then (some (wrap64 (x0 - 1), 12)) else (if x2 = true then (some (x0, wrap64 (x1 - 1))) else (if x1 = 12 then (some (wrap64 (x0 + 1), 1)) else (some (x0, wrap64 (x1 + 1)))))
def arrearsref05_Next.f (k : Nat) (a0 : Int) (a1 : Int) (a2 : Bool) : Option (Int × Int) := if a2 = true then (arrearsref05_Next.j0 k a0 a1 a2 (a1 == 1)) else (arrearsref05_Next.j0 k a0 a1 a2 false)
theorem arrearsref05_Next.mono_l : ∀ k, (∀ y0 y1 y2 y3, LeO (arrearsref05_Next.j0 k y0 y1 y2 y3) (arrearsref05_Next.j0 (k + 1) y0 y1 y2 y3))
  | 0 => fun _ _ _ _ r h => by simp [arrearsref05_Next.j0] at h
  | k + 1 => by
    have ih0 := arrearsref05_Next.mono_l k
    · intro y0 y1 y2 y3
      unfold arrearsref05_Next.j0
      repeat' first
      | (with_reducible exact ih0 _ _ _ _)
      | (with_reducible exact LeO.refl _)
      | (with_reducible exact LeO.none _)
      | (with_reducible refine LeO.ite ?_ ?_)
      | (with_reducible refine LeO.bind ?_ (fun _ => ?_))
      | exact ih0 _ _ _ _
      | exact LeO.none _
      | refine LeO.ite ?_ ?_
      | refine LeO.bind ?_ (fun _ => ?_)
theorem arrearsref05_Next.mono : ∀ a0 a1 a2 k, LeO (arrearsref05_Next.f k a0 a1 a2) (arrearsref05_Next.f (k + 1) a0 a1 a2) := by
  intro a0 a1 a2 k
  have ih0 := arrearsref05_Next.mono_l k
  unfold arrearsref05_Next.f
  repeat' first
      | (with_reducible exact ih0 _ _ _ _)
      | (with_reducible exact LeO.refl _)
      | (with_reducible exact LeO.none _)
      | (with_reducible refine LeO.ite ?_ ?_)
      | (with_reducible refine LeO.bind ?_ (fun _ => ?_))
      | exact ih0 _ _ _ _
      | exact LeO.none _
      | refine LeO.ite ?_ ?_
      | refine LeO.bind ?_ (fun _ => ?_)
set_option maxHeartbeats 8000000 in
set_option maxRecDepth 100000 in
theorem arrearsref05_Next.calls (k : Nat) (a0 : Int) (a1 : Int) (a2 : Bool) (r1 : Int) (r2 : Int) (w : World) (h : arrearsref05_Next.f k a0 a1 a2 = some (r1, r2)) :
    Calls Tryd.prog 13 #[.int .i64 a0, .int .i64 a1, .bool a2] w fun e w' => e = .returned (.tuple #[.int .i64 r1, .int .i64 r2]) ∧ Drawn0 w w' := by
  have H : (if a2 = true then (arrearsref05_Next.j0 k a0 a1 a2 (a1 == 1)) else (arrearsref05_Next.j0 k a0 a1 a2 false)) = some (r1, r2) := h
  clear h
  have HC4 := Aside0.mk H
  clear H
  go_enter Tryd.func13, Tryd.ntmps13
  go_upto_region 1 with (fail)
  go_cut [12] (fun v12 wc => ∃ (kq : Nat) (x12_3 : Bool), v12 = .bool x12_3 ∧ Aside0 (arrearsref05_Next.j0 kq a0 a1 a2 x12_3 = some (r1, r2)) ∧ Aside0 (kq ≤ k) ∧ Drawn0 w wc)
  case first =>
    have H := HC4.out
    clear HC4
    by_cases c5 : a2 = true
    · subst c5
      have H1 : (arrearsref05_Next.j0 k a0 a1 true (a1 == 1)) = some (r1, r2) := by rw [if_pos rfl] at H; exact H
      clear H
      have H := H1
      clear H1
      have H' := Aside0.mk H
      clear H
      go_wp2
      go_meet
      case rel => exact ⟨_, ((a1 == 1)), (by first | rfl | (simp; done) | (simp [*]; done)), H', ⟨by first | omega | exact Nat.le_refl _⟩, by repeat (first | exact Drawn0.refl _ | apply Drawn0.step)⟩
    · replace c5 := Bool.eq_false_iff.mpr c5
      subst c5
      have H1 : (arrearsref05_Next.j0 k a0 a1 false false) = some (r1, r2) := by rw [if_neg (show ¬ (false = true) by decide)] at H; exact H
      clear H
      have H := H1
      clear H1
      have H' := Aside0.mk H
      clear H
      go_wp2
      go_meet
      case rel => exact ⟨_, (false), (by first | rfl | (simp; done) | (simp [*]; done)), H', ⟨by first | omega | exact Nat.le_refl _⟩, by repeat (first | exact Drawn0.refl _ | apply Drawn0.step)⟩
  case rest =>
    clear HC4
    try clear c1
    try clear p2
    try clear c5
    obtain ⟨kq, x12_3, rfl, HA, HJ3, ⟨mc3, rfl⟩⟩ := hcut
    cases kq with
    | zero => exact absurd HA.out (by simp [arrearsref05_Next.j0])
    | succ kj3 =>
      have H := HA.out
      clear HA
      simp only [arrearsref05_Next.j0] at H
      by_cases c6 : x12_3 = true
      · subst c6
        have H1 : (some (wrap64 (a0 - 1), 12)) = some (r1, r2) := by rw [if_pos rfl] at H; exact H
        clear H
        have H := H1
        clear H1
        simp only [Option.some.injEq, Prod.mk.injEq] at H
        obtain ⟨rfl, rfl⟩ := H
        go_wp2
        go_ret2
        exact ⟨by first | rfl | (simp; done) | (simp [*]; done), by repeat (first | exact Drawn0.refl _ | apply Drawn0.step)⟩
      · replace c6 := Bool.eq_false_iff.mpr c6
        subst c6
        have H1 : (if a2 = true then (some (a0, wrap64 (a1 - 1))) else (if a1 = 12 then (some (wrap64 (a0 + 1), 1)) else (some (a0, wrap64 (a1 + 1))))) = some (r1, r2) := by rw [if_neg (show ¬ (false = true) by decide)] at H; exact H
        clear H
        have H := H1
        clear H1
        by_cases c7 : a2 = true
        · subst c7
          have H1 : (some (a0, wrap64 (a1 - 1))) = some (r1, r2) := by rw [if_pos rfl] at H; exact H
          clear H
          have H := H1
          clear H1
          simp only [Option.some.injEq, Prod.mk.injEq] at H
          obtain ⟨rfl, rfl⟩ := H
          go_wp2
          go_ret2
          exact ⟨by first | rfl | (simp; done) | (simp [*]; done), by repeat (first | exact Drawn0.refl _ | apply Drawn0.step)⟩
        · replace c7 := Bool.eq_false_iff.mpr c7
          subst c7
          have H1 : (if a1 = 12 then (some (wrap64 (a0 + 1), 1)) else (some (a0, wrap64 (a1 + 1)))) = some (r1, r2) := by rw [if_neg (show ¬ (false = true) by decide)] at H; exact H
          clear H
          have H := H1
          clear H1
          by_cases c8 : a1 = 12
          · rw [if_pos c8] at H
            have c8b0 : (a1 == 12) = true := beq_iff_eq.mpr c8
            have c8b1 : (a1 != 12) = false := bne_eq_false_iff_eq.mpr c8
            clear c8
            simp only [Option.some.injEq, Prod.mk.injEq] at H
            obtain ⟨rfl, rfl⟩ := H
            go_wp2
            go_ret2
            exact ⟨by first | rfl | (simp; done) | (simp [*]; done), by repeat (first | exact Drawn0.refl _ | apply Drawn0.step)⟩
          · rw [if_neg c8] at H
            have c8b0 : (a1 == 12) = false := beq_eq_false_iff_ne.mpr c8
            have c8b1 : (a1 != 12) = true := bne_iff_ne.mpr c8
            simp only [Option.some.injEq, Prod.mk.injEq] at H
            obtain ⟨rfl, rfl⟩ := H
            go_wp2
            go_ret2
            exact ⟨by first | rfl | (simp; done) | (simp [*]; done), by repeat (first | exact Drawn0.refl _ | apply Drawn0.step)⟩

/-! ### arrearslaw06_SpanAdds: function 4 -/
mutual
def arrearslaw06_SpanAdds.l0 : Nat → Int → Int → Int → Int → Int → Int → Int → Option (Bool)
  | 0, _, _, _, _, _, _, _ => none
  | k + 1, x0, x3, x9, x10, x11, x37, x38 => if x38 < x37 then ((arrearsref05_Next.f k x9 x10 false).bind fun bt172 => (arrearslaw06_SpanAdds.l0 k x0 x3 bt172.1 bt172.2 x11 x37 ((x38 + 1) % 256))) else ((arrearsref05_Number.f k x9 x10 1).bind fun t174 => ((span_Days.f k x0 (wrap32 (x11)) (wrap32 (t174))).bind fun bt175 => (arrearslaw06_SpanAdds.l1 k x0 x3 t174 bt175.1 bt175.2 0 x11)))
def arrearslaw06_SpanAdds.l1 : Nat → Int → Int → Int → Int → Option Int → Int → Int → Option (Bool)
  | 0, _, _, _, _, _, _, _ => none
  | k + 1, x0, x3, x12, x13, x14, x15, x16 => if x16 < x12 then ((span_One.f k x0 (wrap32 (x16))).bind fun bt177 => (if bt177.2.isNone = true then (arrearslaw06_SpanAdds.l1 k x0 x3 x12 x13 x14 (wrap64 (x15 + bt177.1)) (wrap64 (x16 + 1))) else (some false))) else (if x14.isNone = true then (if x13 = x15 then (if x0 = 1 then (some true) else (some (x13 == (wrap64 (30 * (wrap64 (Int.tmod x3 14))))))) else (some false)) else (some false))
end
def arrearslaw06_SpanAdds.f (k : Nat) (a0 : Int) (a1 : Int) (a2 : Int) (a3 : Int) : Option (Bool) := (arrearslaw06_awake.f k).bind fun t170 => (if t170 = true then ((arrearsref05_Number.f k (wrap64 (1 + (wrap64 (Int.tmod a1 9990)))) (wrap64 (1 + (wrap64 (Int.tmod a2 12)))) 1).bind fun t171 => (arrearslaw06_SpanAdds.l0 k ((1 + (Int.tmod a0 2)) % 256) a3 (wrap64 (1 + (wrap64 (Int.tmod a1 9990)))) (wrap64 (1 + (wrap64 (Int.tmod a2 12)))) t171 (Int.tmod a3 14) 0)) else (some false))
theorem arrearslaw06_SpanAdds.mono_l : ∀ k, (∀ y0 y1 y2 y3 y4 y5 y6, LeO (arrearslaw06_SpanAdds.l0 k y0 y1 y2 y3 y4 y5 y6) (arrearslaw06_SpanAdds.l0 (k + 1) y0 y1 y2 y3 y4 y5 y6)) ∧ (∀ y0 y1 y2 y3 y4 y5 y6, LeO (arrearslaw06_SpanAdds.l1 k y0 y1 y2 y3 y4 y5 y6) (arrearslaw06_SpanAdds.l1 (k + 1) y0 y1 y2 y3 y4 y5 y6))
  | 0 => ⟨fun _ _ _ _ _ _ _ r h => by simp [arrearslaw06_SpanAdds.l0] at h, fun _ _ _ _ _ _ _ r h => by simp [arrearslaw06_SpanAdds.l1] at h⟩
  | k + 1 => by
    obtain ⟨ih0, ih1⟩ := arrearslaw06_SpanAdds.mono_l k
    refine ⟨?_, ?_⟩
    · intro y0 y1 y2 y3 y4 y5 y6
      unfold arrearslaw06_SpanAdds.l0
      repeat' first
      | (with_reducible exact ih0 _ _ _ _ _ _ _)
      | (with_reducible exact ih1 _ _ _ _ _ _ _)
      | (with_reducible exact arrearslaw06_awake.mono _)
      | (with_reducible exact arrearsref05_Next.mono _ _ _ _)
      | (with_reducible exact arrearsref05_Number.mono _ _ _ _)
      | (with_reducible exact span_Days.mono _ _ _ _)
      | (with_reducible exact span_One.mono _ _ _)
      | (with_reducible exact LeO.refl _)
      | (with_reducible exact LeO.none _)
      | (with_reducible refine LeO.ite ?_ ?_)
      | (with_reducible refine LeO.bind ?_ (fun _ => ?_))
      | exact ih0 _ _ _ _ _ _ _
      | exact ih1 _ _ _ _ _ _ _
      | exact arrearslaw06_awake.mono _
      | exact arrearsref05_Next.mono _ _ _ _
      | exact arrearsref05_Number.mono _ _ _ _
      | exact span_Days.mono _ _ _ _
      | exact span_One.mono _ _ _
      | exact LeO.none _
      | refine LeO.ite ?_ ?_
      | refine LeO.bind ?_ (fun _ => ?_)
    · intro y0 y1 y2 y3 y4 y5 y6
      unfold arrearslaw06_SpanAdds.l1
      repeat' first
      | (with_reducible exact ih0 _ _ _ _ _ _ _)
      | (with_reducible exact ih1 _ _ _ _ _ _ _)
      | (with_reducible exact arrearslaw06_awake.mono _)
      | (with_reducible exact arrearsref05_Next.mono _ _ _ _)
      | (with_reducible exact arrearsref05_Number.mono _ _ _ _)
      | (with_reducible exact span_Days.mono _ _ _ _)
      | (with_reducible exact span_One.mono _ _ _)
      | (with_reducible exact LeO.refl _)
      | (with_reducible exact LeO.none _)
      | (with_reducible refine LeO.ite ?_ ?_)
      | (with_reducible refine LeO.bind ?_ (fun _ => ?_))
      | exact ih0 _ _ _ _ _ _ _
      | exact ih1 _ _ _ _ _ _ _
      | exact arrearslaw06_awake.mono _
      | exact arrearsref05_Next.mono _ _ _ _
      | exact arrearsref05_Number.mono _ _ _ _
      | exact span_Days.mono _ _ _ _
      | exact span_One.mono _ _ _
      | exact LeO.none _
      | refine LeO.ite ?_ ?_
      | refine LeO.bind ?_ (fun _ => ?_)
theorem arrearslaw06_SpanAdds.mono : ∀ a0 a1 a2 a3 k, LeO (arrearslaw06_SpanAdds.f k a0 a1 a2 a3) (arrearslaw06_SpanAdds.f (k + 1) a0 a1 a2 a3) := by
  intro a0 a1 a2 a3 k
  obtain ⟨ih0, ih1⟩ := arrearslaw06_SpanAdds.mono_l k
  unfold arrearslaw06_SpanAdds.f
  repeat' first
      | (with_reducible exact ih0 _ _ _ _ _ _ _)
      | (with_reducible exact ih1 _ _ _ _ _ _ _)
      | (with_reducible exact arrearslaw06_awake.mono _)
      | (with_reducible exact arrearsref05_Next.mono _ _ _ _)
      | (with_reducible exact arrearsref05_Number.mono _ _ _ _)
      | (with_reducible exact span_Days.mono _ _ _ _)
      | (with_reducible exact span_One.mono _ _ _)
      | (with_reducible exact LeO.refl _)
      | (with_reducible exact LeO.none _)
      | (with_reducible refine LeO.ite ?_ ?_)
      | (with_reducible refine LeO.bind ?_ (fun _ => ?_))
      | exact ih0 _ _ _ _ _ _ _
      | exact ih1 _ _ _ _ _ _ _
      | exact arrearslaw06_awake.mono _
      | exact arrearsref05_Next.mono _ _ _ _
      | exact arrearsref05_Number.mono _ _ _ _
      | exact span_Days.mono _ _ _ _
      | exact span_One.mono _ _ _
      | exact LeO.none _
      | refine LeO.ite ?_ ?_
      | refine LeO.bind ?_ (fun _ => ?_)
set_option maxHeartbeats 8000000 in
set_option maxRecDepth 100000 in
theorem arrearslaw06_SpanAdds.calls (k : Nat) (a0 : Int) (a1 : Int) (a2 : Int) (a3 : Int) (r : Bool) (w : World) (hG : Go.Proofs.YtdkdjikfhclmaaaDoor.M.Laid w) (h : arrearslaw06_SpanAdds.f k a0 a1 a2 a3 = some r) (hr : r = true) :
    Calls Tryd.prog 4 #[.int .u8 a0, .int .u16 a1, .int .u8 a2, .int .u8 a3] w fun e w' => e = .returned (.bool r) ∧ Below w.heap.size w w' := by
  have hu26 := Tryd.underlying26
  have hu28 := Tryd.underlying28
  have hu44 := Tryd.underlying44
  have HB := Aside0.mk (Below.refl w.heap.size w)
  have HG := Aside0.mk hG
  clear hG
  have HR := Aside0.mk hr
  clear hr
  have H : ((arrearslaw06_awake.f k).bind fun t170 => (if t170 = true then ((arrearsref05_Number.f k (wrap64 (1 + (wrap64 (Int.tmod a1 9990)))) (wrap64 (1 + (wrap64 (Int.tmod a2 12)))) 1).bind fun t171 => (arrearslaw06_SpanAdds.l0 k ((1 + (Int.tmod a0 2)) % 256) a3 (wrap64 (1 + (wrap64 (Int.tmod a1 9990)))) (wrap64 (1 + (wrap64 (Int.tmod a2 12)))) t171 (Int.tmod a3 14) 0)) else (some false))) = some r := h
  clear h
  replace H := Option.bind_eq_some_iff.mp H
  obtain ⟨t170, A50, H⟩ := H
  replace H : (if t170 = true then ((arrearsref05_Number.f k (wrap64 (1 + (wrap64 (Int.tmod a1 9990)))) (wrap64 (1 + (wrap64 (Int.tmod a2 12)))) 1).bind fun t171 => (arrearslaw06_SpanAdds.l0 k ((1 + (Int.tmod a0 2)) % 256) a3 (wrap64 (1 + (wrap64 (Int.tmod a1 9990)))) (wrap64 (1 + (wrap64 (Int.tmod a2 12)))) t171 (Int.tmod a3 14) 0)) else (some false)) = some r := H
  have A5 := Aside0.mk A50
  clear A50
  by_cases c6 : t170 = true
  · subst c6
    have H1 : ((arrearsref05_Number.f k (wrap64 (1 + (wrap64 (Int.tmod a1 9990)))) (wrap64 (1 + (wrap64 (Int.tmod a2 12)))) 1).bind fun t171 => (arrearslaw06_SpanAdds.l0 k ((1 + (Int.tmod a0 2)) % 256) a3 (wrap64 (1 + (wrap64 (Int.tmod a1 9990)))) (wrap64 (1 + (wrap64 (Int.tmod a2 12)))) t171 (Int.tmod a3 14) 0)) = some r := by rw [if_pos rfl] at H; exact H
    clear H
    have H := H1
    clear H1
    replace H := Option.bind_eq_some_iff.mp H
    obtain ⟨t171, A70, H⟩ := H
    replace H : (arrearslaw06_SpanAdds.l0 k ((1 + (Int.tmod a0 2)) % 256) a3 (wrap64 (1 + (wrap64 (Int.tmod a1 9990)))) (wrap64 (1 + (wrap64 (Int.tmod a2 12)))) t171 (Int.tmod a3 14) 0) = some r := H
    have A7 := Aside0.mk A70
    clear A70
    have H' := Aside0.mk H
    clear H
    go_enter Tryd.func4, Tryd.ntmps4
    go_wp2_with (first | ((with_reducible refine gate_callee (f := 8) rfl ?_); refine goesL_ (some 19) rfl rfl Tryd.func8 (by kernel_rfl) rfl #[] rfl (by (try simp only [List.map_toArray, List.map_cons, List.map_nil]); first | done | rfl | (simp only [List.length_drop, List.length_take]; rfl)) ?_; (with_reducible refine (arrearslaw06_awake.calls k  true _ ?hGL A5.out).mono ?_); (case hGL => exact Go.Proofs.YtdkdjikfhclmaaaDoor.M.Laid.below HG.out (by repeat (first | (with_reducible first | exact HB.out | apply below_alloc | apply pw_below_drewN | apply below_drew1) | exact HB.out))); rintro e w8 ⟨rfl, hb⟩; refine ⟨_, rfl, ?_⟩; have n0_ := Aside0.mk (below_step (by repeat (first | (with_reducible first | exact HB.out | apply below_alloc | apply pw_below_drewN | apply below_drew1) | exact HB.out)) hb); clear HB; have HB := n0_; clear n0_; (try clear hb); (try clear hb2); (try clear hk); (try clear hi)) | ((with_reducible refine gate_callee (f := 9) rfl ?_); refine goesL_ (some 35) rfl rfl Tryd.func9 (by kernel_rfl) rfl #[.agg #[.int .i64 (wrap64 (1 + (wrap64 (Int.tmod a1 9990)))), .int .i64 (wrap64 (1 + (wrap64 (Int.tmod a2 12)))), .int .i64 1]] rfl (by (try simp only [List.map_toArray, List.map_cons, List.map_nil]); first | done | rfl | (simp only [List.length_drop, List.length_take]; rfl)) ?_; (with_reducible refine (arrearsref05_Number.calls k (wrap64 (1 + (wrap64 (Int.tmod a1 9990)))) (wrap64 (1 + (wrap64 (Int.tmod a2 12)))) 1 t171 _ A7.out).mono ?_); rintro e w9 ⟨rfl, hb⟩; refine ⟨_, rfl, ?_⟩; have n0_ := Aside0.mk (below_step (by repeat (first | (with_reducible first | exact HB.out | apply below_alloc | apply pw_below_drewN | apply below_drew1) | exact HB.out)) hb); clear HB; have HB := n0_; clear n0_; (try clear hb); (try clear hb2); (try clear hk); (try clear hi)))
    go_loopg [9, 10, 38] k (fun kq v9 v10 v38 w' => ∃ (x9_1 : Int) (x10_1 : Int) (x38_1 : Int), v9 = .int .i64 x9_1 ∧ v10 = .int .i64 x10_1 ∧ v38 = .int .u8 x38_1 ∧ Aside0 (arrearslaw06_SpanAdds.l0 kq ((1 + (Int.tmod a0 2)) % 256) a3 x9_1 x10_1 t171 (Int.tmod a3 14) x38_1 = some r) ∧ Aside0 (kq ≤ k) ∧ Aside0 (Below w.heap.size w w'))
    case atStart => exact ⟨(wrap64 (1 + (wrap64 (Int.tmod a1 9990)))), (wrap64 (1 + (wrap64 (Int.tmod a2 12)))), (0), (by first | rfl | (simp; done) | (simp [*]; done) | (exfalso; simp at *; omega)), (by first | rfl | (simp; done) | (simp [*]; done) | (exfalso; simp at *; omega)), (by first | rfl | (simp; done) | (simp [*]; done) | (exfalso; simp at *; omega)), H', ⟨Nat.le_refl _⟩, ⟨by repeat (first | (with_reducible first | exact HB.out | apply below_alloc | apply pw_below_drewN | apply below_drew1) | exact HB.out)⟩⟩
    case round =>
      clear H'
      try clear p2
      try clear c4
      try clear c6
      try clear p6
      try clear c8
      try clear c9
      obtain ⟨x9_1, x10_1, x38_1, rfl, rfl, rfl, HA, HK1, HB⟩ := hrel
      cases gk with
      | zero => exact absurd HA.out (by simp [arrearslaw06_SpanAdds.l0])
      | succ k1 =>
        have H := HA.out
        clear HA
        simp only [arrearslaw06_SpanAdds.l0] at H
        by_cases c10 : x38_1 < (Int.tmod a3 14)
        · rw [if_pos c10] at H
          have c10b0 : decide (x38_1 < (Int.tmod a3 14)) = true := decide_eq_true c10
          clear c10
          replace H := Option.bind_eq_some_iff.mp H
          obtain ⟨⟨t172, t173⟩, A110, H⟩ := H
          replace H : (arrearslaw06_SpanAdds.l0 k1 ((1 + (Int.tmod a0 2)) % 256) a3 t172 t173 t171 (Int.tmod a3 14) ((x38_1 + 1) % 256)) = some r := H
          have A11 := Aside0.mk A110
          clear A110
          have H' := Aside0.mk H
          clear H
          go_wp2_with (first | ((with_reducible refine gate_callee (f := 13) rfl ?_); refine goesL_ (some 43) rfl rfl Tryd.func13 (by kernel_rfl) rfl #[.int .i64 x9_1, .int .i64 x10_1, .bool false] rfl (by (try simp only [List.map_toArray, List.map_cons, List.map_nil]); first | done | rfl | (simp only [List.length_drop, List.length_take]; rfl)) ?_; (with_reducible refine (arrearsref05_Next.calls k1 x9_1 x10_1 false t172 t173 _ A11.out).mono ?_); rintro e w' ⟨rfl, ⟨nd, rfl⟩⟩; refine ⟨_, rfl, ?_⟩))
          go_roundg k1
          case measure => have := HK1.out; omega
          case rel => exact ⟨(t172), (t173), ((x38_1 + 1) % 256), (by first | rfl | (simp; done) | (simp [*]; done) | (exfalso; simp at *; omega)), (by first | rfl | (simp; done) | (simp [*]; done) | (exfalso; simp at *; omega)), (by first | rfl | (simp; done) | (simp [*]; done) | (exfalso; simp at *; omega)), H', ⟨by have := HK1.out; omega⟩, ⟨by repeat (first | (with_reducible first | exact HB.out | apply below_alloc | apply pw_below_drewN | apply below_drew1) | exact HB.out)⟩⟩
        · rw [if_neg c10] at H
          have c10b0 : decide (x38_1 < (Int.tmod a3 14)) = false := decide_eq_false c10
          clear c10
          replace H := Option.bind_eq_some_iff.mp H
          obtain ⟨t174, A120, H⟩ := H
          replace H : ((span_Days.f k1 ((1 + (Int.tmod a0 2)) % 256) (wrap32 (t171)) (wrap32 (t174))).bind fun bt175 => (arrearslaw06_SpanAdds.l1 k1 ((1 + (Int.tmod a0 2)) % 256) a3 t174 bt175.1 bt175.2 0 t171)) = some r := H
          have A12 := Aside0.mk A120
          clear A120
          replace H := Option.bind_eq_some_iff.mp H
          obtain ⟨⟨t175, t176⟩, A130, H⟩ := H
          replace H : (arrearslaw06_SpanAdds.l1 k1 ((1 + (Int.tmod a0 2)) % 256) a3 t174 t175 t176 0 t171) = some r := H
          have A13 := Aside0.mk A130
          clear A130
          have H' := Aside0.mk H
          clear H
          go_wp2_with (first | ((with_reducible refine gate_callee (f := 9) rfl ?_); refine goesL_ (some 50) rfl rfl Tryd.func9 (by kernel_rfl) rfl #[.agg #[.int .i64 x9_1, .int .i64 x10_1, .int .i64 1]] rfl (by (try simp only [List.map_toArray, List.map_cons, List.map_nil]); first | done | rfl | (simp only [List.length_drop, List.length_take]; rfl)) ?_; (with_reducible refine (arrearsref05_Number.calls k1 x9_1 x10_1 1 t174 _ A12.out).mono ?_); rintro e w14 ⟨rfl, hb⟩; refine ⟨_, rfl, ?_⟩; have n0_ := Aside0.mk (below_step (by repeat (first | (with_reducible first | exact HB.out | apply below_alloc | apply pw_below_drewN | apply below_drew1) | exact HB.out)) hb); clear HB; have HB := n0_; clear n0_; (try clear hb); (try clear hb2); (try clear hk); (try clear hi)) | ((with_reducible refine gate_callee (f := 10) rfl ?_); refine goesL_ (some 57) rfl rfl Tryd.func10 (by kernel_rfl) rfl #[.int .u8 ((1 + (Int.tmod a0 2)) % 256), .int .i32 (wrap32 (t171)), .int .i32 (wrap32 (t174))] rfl (by (try simp only [List.map_toArray, List.map_cons, List.map_nil]); first | done | rfl | (simp only [List.length_drop, List.length_take]; rfl)) ?_; (with_reducible refine (span_Days.calls k1 ((1 + (Int.tmod a0 2)) % 256) (wrap32 (t171)) (wrap32 (t174)) t175 t176 _ A13.out).mono ?_); rintro e w15 ⟨rfl, hb⟩; refine ⟨_, rfl, ?_⟩; have n0_ := Aside0.mk (below_step (by repeat (first | (with_reducible first | exact HB.out | apply below_alloc | apply pw_below_drewN | apply below_drew1) | exact HB.out)) hb); clear HB; have HB := n0_; clear n0_; (try clear hb); (try clear hb2); (try clear hk); (try clear hi); (try simp only [errW_none, errW_some])))
          go_loopg [15, 16] k1 (fun kq v15 v16 w' => ∃ (x15_2 : Int) (x16_2 : Int), v15 = .int .i64 x15_2 ∧ v16 = .int .i64 x16_2 ∧ Aside0 (arrearslaw06_SpanAdds.l1 kq ((1 + (Int.tmod a0 2)) % 256) a3 t174 t175 t176 x15_2 x16_2 = some r) ∧ Aside0 (kq ≤ k1) ∧ Aside0 (Below w.heap.size w w'))
          case atStart => exact ⟨(0), (t171), (by first | rfl | (simp; done) | (simp [*]; done) | (exfalso; simp at *; omega)), (by first | rfl | (simp; done) | (simp [*]; done) | (exfalso; simp at *; omega)), H', ⟨Nat.le_refl _⟩, ⟨by repeat (first | (with_reducible first | exact HB.out | apply below_alloc | apply pw_below_drewN | apply below_drew1) | exact HB.out)⟩⟩
          case round =>
            clear H'
            try clear c1
            try clear p2
            try clear p3
            try clear c4
            try clear c6
            try clear p6
            try clear c8
            try clear c9
            try clear c10
            try clear c10b0
            try clear c13
            try clear p2
            try clear p6
            obtain ⟨x15_2, x16_2, rfl, rfl, HA, HK2, HB⟩ := hrel
            cases gk with
            | zero => exact absurd HA.out (by simp [arrearslaw06_SpanAdds.l1])
            | succ k2 =>
              have H := HA.out
              clear HA
              simp only [arrearslaw06_SpanAdds.l1] at H
              by_cases c16 : x16_2 < t174
              · rw [if_pos c16] at H
                have c16b0 : decide (x16_2 < t174) = true := decide_eq_true c16
                clear c16
                replace H := Option.bind_eq_some_iff.mp H
                obtain ⟨⟨t177, t178⟩, A170, H⟩ := H
                replace H : (if t178.isNone = true then (arrearslaw06_SpanAdds.l1 k2 ((1 + (Int.tmod a0 2)) % 256) a3 t174 t175 t176 (wrap64 (x15_2 + t177)) (wrap64 (x16_2 + 1))) else (some false)) = some r := H
                have A17 := Aside0.mk A170
                clear A170
                rcases t178 with _ | q179
                · have H1 : (arrearslaw06_SpanAdds.l1 k2 ((1 + (Int.tmod a0 2)) % 256) a3 t174 t175 t176 (wrap64 (x15_2 + t177)) (wrap64 (x16_2 + 1))) = some r := by rw [if_pos (show (none : Option Int).isNone = true by rfl)] at H; exact H
                  clear H
                  have H := H1
                  clear H1
                  try simp only [errW_none, errW_some]
                  have H' := Aside0.mk H
                  clear H
                  go_wp2_with (first | ((with_reducible refine gate_callee (f := 11) rfl ?_); refine goesL_ (some 70) rfl rfl Tryd.func11 (by kernel_rfl) rfl #[.int .u8 ((1 + (Int.tmod a0 2)) % 256), .int .i32 (wrap32 (x16_2))] rfl (by (try simp only [List.map_toArray, List.map_cons, List.map_nil]); first | done | rfl | (simp only [List.length_drop, List.length_take]; rfl)) ?_; (with_reducible refine (span_One.calls k2 ((1 + (Int.tmod a0 2)) % 256) (wrap32 (x16_2)) t177 none _ A17.out).mono ?_); rintro e w18 ⟨rfl, hb⟩; refine ⟨_, rfl, ?_⟩; have n0_ := Aside0.mk (below_step (by repeat (first | (with_reducible first | exact HB.out | apply below_alloc | apply pw_below_drewN | apply below_drew1) | exact HB.out)) hb); clear HB; have HB := n0_; clear n0_; (try clear hb); (try clear hb2); (try clear hk); (try clear hi); (try simp only [errW_none, errW_some])))
                  go_roundg k2
                  case measure => have := HK1.out; have := HK2.out; omega
                  case rel => exact ⟨(wrap64 (x15_2 + t177)), (wrap64 (x16_2 + 1)), (by first | rfl | (simp; done) | (simp [*]; done) | (exfalso; simp at *; omega)), (by first | rfl | (simp; done) | (simp [*]; done) | (exfalso; simp at *; omega)), H', ⟨by have := HK1.out; have := HK2.out; omega⟩, ⟨by repeat (first | (with_reducible first | exact HB.out | apply below_alloc | apply pw_below_drewN | apply below_drew1) | exact HB.out)⟩⟩
                · have H1 : (some false) = some r := by rw [if_neg (show ¬ (some q179).isNone = true by simp)] at H; exact H
                  clear H
                  have H := H1
                  clear H1
                  try simp only [errW_none, errW_some]
                  exact absurd (H.trans (congrArg some HR.out)) (by simp)
              · rw [if_neg c16] at H
                have c16b0 : decide (x16_2 < t174) = false := decide_eq_false c16
                clear c16
                rcases t176 with _ | q180
                · have H1 : (if t175 = x15_2 then (if ((1 + (Int.tmod a0 2)) % 256) = 1 then (some true) else (some (t175 == (wrap64 (30 * (wrap64 (Int.tmod a3 14))))))) else (some false)) = some r := by rw [if_pos (show (none : Option Int).isNone = true by rfl)] at H; exact H
                  clear H
                  have H := H1
                  clear H1
                  try simp only [errW_none, errW_some]
                  by_cases c20 : t175 = x15_2
                  · rw [if_pos c20] at H
                    have c20b0 : (t175 == x15_2) = true := beq_iff_eq.mpr c20
                    have c20b1 : (t175 != x15_2) = false := bne_eq_false_iff_eq.mpr c20
                    clear c20
                    by_cases c21 : ((1 + (Int.tmod a0 2)) % 256) = 1
                    · rw [if_pos c21] at H
                      have c21b0 : (((1 + (Int.tmod a0 2)) % 256) == 1) = true := beq_iff_eq.mpr c21
                      have c21b1 : (((1 + (Int.tmod a0 2)) % 256) != 1) = false := bne_eq_false_iff_eq.mpr c21
                      clear c21
                      obtain rfl := Option.some.inj H
                      go_wp2
                      go_ret
                      exact ⟨by first | rfl | (simp [errW_none, errW_some] <;> rfl) | (simp [*, errW_none, errW_some] <;> rfl), by repeat (first | (with_reducible first | exact HB.out | apply below_alloc | apply pw_below_drewN | apply below_drew1) | exact HB.out)⟩
                    · rw [if_neg c21] at H
                      have c21b0 : (((1 + (Int.tmod a0 2)) % 256) == 1) = false := beq_eq_false_iff_ne.mpr c21
                      have c21b1 : (((1 + (Int.tmod a0 2)) % 256) != 1) = true := bne_iff_ne.mpr c21
                      obtain rfl := Option.some.inj H
                      go_wp2
                      go_ret
                      exact ⟨by first | rfl | (simp [errW_none, errW_some] <;> rfl) | (simp [*, errW_none, errW_some] <;> rfl), by repeat (first | (with_reducible first | exact HB.out | apply below_alloc | apply pw_below_drewN | apply below_drew1) | exact HB.out)⟩
                  · rw [if_neg c20] at H
                    have c20b0 : (t175 == x15_2) = false := beq_eq_false_iff_ne.mpr c20
                    have c20b1 : (t175 != x15_2) = true := bne_iff_ne.mpr c20
                    exact absurd (H.trans (congrArg some HR.out)) (by simp)
                · have H1 : (some false) = some r := by rw [if_neg (show ¬ (some q180).isNone = true by simp)] at H; exact H
                  clear H
                  have H := H1
                  clear H1
                  try simp only [errW_none, errW_some]
                  exact absurd (H.trans (congrArg some HR.out)) (by simp)
  · replace c6 := Bool.eq_false_iff.mpr c6
    subst c6
    have H1 : (some false) = some r := by rw [if_neg (show ¬ (false = true) by decide)] at H; exact H
    clear H
    have H := H1
    clear H1
    exact absurd (H.trans (congrArg some HR.out)) (by simp)
end Go.Proofs.YtdkdjikfhclmaaaDoor.PSpanAdds
