-- Printed by a wrapper of this session's round the kit's print.py; Lean checks it.
import Derived.Test.YtdojgjbiilnjpaaDoorPQuillNilx0
namespace Go.Proofs.YtdojgjbiilnjpaaDoor.PQuillNil
open Go.RowKit Go.Proofs.YtdojgjbiilnjpaaDoorW.PrintWords Go.Proofs.YtdojgjbiilnjpaaDoorW.PrintLast Go.Proofs.YtdojgjbiilnjpaaDoorW.PrintMore
attribute [local go_sem] max2_int min2_int max_two min_two max_three min_three max_four min_four   -- for this text's walks alone
set_option linter.unusedVariables false
set_option linter.unusedSimpArgs false

/-! ### arrearsref01_Same: function 24 -/
def arrearsref01_Same.l0 : Nat → List Int → List Int → Int → Int → Option (Bool)
  | 0, _, _, _, _ => none
  | k + 1, x0, x1, x12, x13 => if x13 < x12 then (if 0 ≤ x13 then (if x13 < (x0.length : Int) then (if x13 < (x1.length : Int) then (if (rd x0 x13) = (rd x1 x13) then (arrearsref01_Same.l0 k x0 x1 x12 (wrap64 (x13 + 1))) else (some false)) else (none)) else (none)) else (none)) else (some true)
def arrearsref01_Same.f (k : Nat) (l0 : List Int) (l1 : List Int) : Option (Bool) := if (l0.length : Int) = (l1.length : Int) then (arrearsref01_Same.l0 k l0 l1 (l0.length : Int) 0) else (some false)
theorem arrearsref01_Same.mono_l : ∀ k, (∀ y0 y1 y2 y3, LeO (arrearsref01_Same.l0 k y0 y1 y2 y3) (arrearsref01_Same.l0 (k + 1) y0 y1 y2 y3))
  | 0 => fun _ _ _ _ r h => by simp [arrearsref01_Same.l0] at h
  | k + 1 => by
    have ih0 := arrearsref01_Same.mono_l k
    · intro y0 y1 y2 y3
      unfold arrearsref01_Same.l0
      repeat' first
      | (with_reducible exact ih0 _ _ _ _)
      | (with_reducible exact LeO.refl _)
      | (with_reducible exact LeO.none _)
      | (with_reducible refine LeO.ite ?_ ?_)
      | (with_reducible refine LeO.bind ?_ (fun _ => ?_))
      | exact ih0 _ _ _ _
      | exact LeO.none _
      | refine LeO.ite ?_ ?_
      | refine LeO.bind ?_ (fun _ => ?_)
theorem arrearsref01_Same.mono : ∀ a0 a1 k, LeO (arrearsref01_Same.f k a0 a1) (arrearsref01_Same.f (k + 1) a0 a1) := by
  intro a0 a1 k
  have ih0 := arrearsref01_Same.mono_l k
  unfold arrearsref01_Same.f
  repeat' first
      | (with_reducible exact ih0 _ _ _ _)
      | (with_reducible exact LeO.refl _)
      | (with_reducible exact LeO.none _)
      | (with_reducible refine LeO.ite ?_ ?_)
      | (with_reducible refine LeO.bind ?_ (fun _ => ?_))
      | exact ih0 _ _ _ _
      | exact LeO.none _
      | refine LeO.ite ?_ ?_
      | refine LeO.bind ?_ (fun _ => ?_)
set_option maxHeartbeats 8000000 in
set_option maxRecDepth 100000 in
theorem arrearsref01_Same.calls (k : Nat) (A0 : Option Addr) (c0 : Nat) (l0 : List Int) (A1 : Option Addr) (c1 : Nat) (l1 : List Int) (r : Bool) (w : World) (hr0 : Kd.C (Kd.int .u8) w A0 l0.length l0) (hc0 : l0.length ≤ c0) (hr1 : Kd.C (Kd.int .u8) w A1 l1.length l1) (hc1 : l1.length ≤ c1) (h : arrearsref01_Same.f k l0 l1 = some r) :
    Calls Tryd.prog 24 #[.slice A0 l0.length c0, .slice A1 l1.length c1] w fun e w' => e = .returned (.bool r) ∧ Drawn0 w w' := by
  have HR0 := Aside0.mk hr0
  have HC0 := Aside0.mk hc0
  clear hr0 hc0
  have HR1 := Aside0.mk hr1
  have HC1 := Aside0.mk hc1
  clear hr1 hc1
  have H : (if (l0.length : Int) = (l1.length : Int) then (arrearsref01_Same.l0 k l0 l1 (l0.length : Int) 0) else (some false)) = some r := h
  clear h
  by_cases c3 : (l0.length : Int) = (l1.length : Int)
  · rw [if_pos c3] at H
    have c3b0 : ((l0.length : Int) == (l1.length : Int)) = true := beq_iff_eq.mpr c3
    have c3b1 : ((l0.length : Int) != (l1.length : Int)) = false := bne_eq_false_iff_eq.mpr c3
    have c3b2 : (l0.length == l1.length) = true := by first | simpa using c3 | (simp at c3 ⊢; omega)
    clear c3
    have H' := Aside0.mk H
    clear H
    go_enter Tryd.func24, Tryd.ntmps24
    go_wp2
    repeat (go_quiet (fail); try go_wp2)
    go_loopg [13] k (fun kq v13 w' => ∃ (x13_1 : Int), v13 = .int .i64 x13_1 ∧ Aside0 (arrearsref01_Same.l0 kq l0 l1 (l0.length : Int) x13_1 = some r) ∧ Aside0 (kq ≤ k) ∧ Drawn0 w w')
    case atStart => exact ⟨(0), (by first | rfl | (simp; done) | (simp [*]; done)), H', ⟨Nat.le_refl _⟩, by repeat (first | exact Drawn0.refl _ | apply Drawn0.step)⟩
    case round =>
      clear H'
      try clear c1
      try clear c2
      try clear p2
      try clear c3
      try clear c3b0
      try clear c3b1
      try clear c3b2
      obtain ⟨x13_1, rfl, HA, HK1, ⟨m1, rfl⟩⟩ := hrel
      cases gk with
      | zero => exact absurd HA.out (by simp [arrearsref01_Same.l0])
      | succ k1 =>
        have H := HA.out
        clear HA
        simp only [arrearsref01_Same.l0] at H
        by_cases c4 : x13_1 < (l0.length : Int)
        · rw [if_pos c4] at H
          have c4b0 : decide (x13_1 < (l0.length : Int)) = true := decide_eq_true c4
          clear c4
          by_cases c5 : 0 ≤ x13_1
          · rw [if_pos c5] at H
            have c5b0 : decide (0 ≤ x13_1) = true := decide_eq_true c5
            clear c5
            by_cases c6 : x13_1 < (l0.length : Int)
            · rw [if_pos c6] at H
              have c6b0 : decide (x13_1 < (l0.length : Int)) = true := decide_eq_true c6
              clear c6
              by_cases c7 : x13_1 < (l1.length : Int)
              · rw [if_pos c7] at H
                have c7b0 : decide (x13_1 < (l1.length : Int)) = true := decide_eq_true c7
                clear c7
                by_cases c8 : (rd l0 x13_1) = (rd l1 x13_1)
                · rw [if_pos c8] at H
                  have c8b0 : ((rd l0 x13_1) == (rd l1 x13_1)) = true := beq_iff_eq.mpr c8
                  have c8b1 : ((rd l0 x13_1) != (rd l1 x13_1)) = false := bne_eq_false_iff_eq.mpr c8
                  clear c8
                  have H' := Aside0.mk H
                  clear H
                  have p101 : 0 ≤ (x13_1 : Int) := of_decide_eq_true (by first | (with_reducible assumption) | assumption)
                  have q101 : x13_1 < (l0.length : Int) := of_decide_eq_true (by first | (with_reducible assumption) | assumption)
                  obtain ⟨ad101, e101, hx101_0⟩ := Kd.at_int HR0.out x13_1 p101 q101
                  cases e101
                  replace p101 := eq_true p101
                  replace q101 := eq_true q101
                  have p102 : 0 ≤ (x13_1 : Int) := of_decide_eq_true (by first | (with_reducible assumption) | assumption)
                  have q102 : x13_1 < (l1.length : Int) := of_decide_eq_true (by first | (with_reducible assumption) | assumption)
                  obtain ⟨ad102, e102, hx102_0⟩ := Kd.at_int HR1.out x13_1 p102 q102
                  cases e102
                  replace p102 := eq_true p102
                  replace q102 := eq_true q102
                  go_wp2
                  repeat (go_quiet (fail); try go_wp2)
                  go_roundg k1
                  case measure => have := HK1.out; omega
                  case rel => exact ⟨(wrap64 (x13_1 + 1)), (by first | rfl | (simp; done) | (simp [*]; done)), H', ⟨by have := HK1.out; omega⟩, by repeat (first | exact Drawn0.refl _ | apply Drawn0.step)⟩
                · rw [if_neg c8] at H
                  have c8b0 : ((rd l0 x13_1) == (rd l1 x13_1)) = false := beq_eq_false_iff_ne.mpr c8
                  have c8b1 : ((rd l0 x13_1) != (rd l1 x13_1)) = true := bne_iff_ne.mpr c8
                  obtain rfl := Option.some.inj H
                  have p101 : 0 ≤ (x13_1 : Int) := of_decide_eq_true (by first | (with_reducible assumption) | assumption)
                  have q101 : x13_1 < (l0.length : Int) := of_decide_eq_true (by first | (with_reducible assumption) | assumption)
                  obtain ⟨ad101, e101, hx101_0⟩ := Kd.at_int HR0.out x13_1 p101 q101
                  cases e101
                  replace p101 := eq_true p101
                  replace q101 := eq_true q101
                  have p102 : 0 ≤ (x13_1 : Int) := of_decide_eq_true (by first | (with_reducible assumption) | assumption)
                  have q102 : x13_1 < (l1.length : Int) := of_decide_eq_true (by first | (with_reducible assumption) | assumption)
                  obtain ⟨ad102, e102, hx102_0⟩ := Kd.at_int HR1.out x13_1 p102 q102
                  cases e102
                  replace p102 := eq_true p102
                  replace q102 := eq_true q102
                  go_wp2
                  repeat (go_quiet (fail); try go_wp2)
                  go_ret
                  exact ⟨by first | rfl | (simp; done) | (simp [*]; done), by repeat (first | exact Drawn0.refl _ | apply Drawn0.step)⟩
              · rw [if_neg c7] at H
                exact absurd H (by simp)
            · first | exact absurd c4 c6 | exact absurd (beq_iff_eq.mp c4b0) c6 | exact absurd (of_decide_eq_true (by assumption)) c6 | exact absurd (by assumption) c6
          · rw [if_neg c5] at H
            exact absurd H (by simp)
        · rw [if_neg c4] at H
          have c4b0 : decide (x13_1 < (l0.length : Int)) = false := decide_eq_false c4
          clear c4
          obtain rfl := Option.some.inj H
          go_wp2
          repeat (go_quiet (fail); try go_wp2)
          go_ret
          exact ⟨by first | rfl | (simp; done) | (simp [*]; done), by repeat (first | exact Drawn0.refl _ | apply Drawn0.step)⟩
  · rw [if_neg c3] at H
    have c3b0 : ((l0.length : Int) == (l1.length : Int)) = false := beq_eq_false_iff_ne.mpr c3
    have c3b1 : ((l0.length : Int) != (l1.length : Int)) = true := bne_iff_ne.mpr c3
    have c3b2 : (l0.length == l1.length) = false := by first | simpa using c3 | (simp at c3 ⊢; omega)
    obtain rfl := Option.some.inj H
    go_enter Tryd.func24, Tryd.ntmps24
    go_wp2
    repeat (go_quiet (fail); try go_wp2)
    go_ret
    exact ⟨by first | rfl | (simp; done) | (simp [*]; done), by repeat (first | exact Drawn0.refl _ | apply Drawn0.step)⟩

/-! ### arrearslaw08_awake: function 5 -/
section
open Go.Proofs.YtdojgjbiilnjpaaDoor.M
def arrearslaw08_awake.f : Option Bool := some true
theorem awk_q : ([] : List Int) ++ nlay (Int.toNat 300) 0 = [2, 1, 44] := by decide
theorem awk_i : ([2, 1, 44] : List Int) ++ qint (-1) = [2, 1, 44, 128] := by decide
theorem awk_s (P : List Int) (h : P = [2, 1, 44, 128]) : arrearsref01_Same.f 6 P [2, 1, 44, 128] = some true := by subst h; decide +kernel
theorem awk_u : luint (some [2, 1, 44, 128]) 300 = (300, some [128]) := by decide
set_option maxHeartbeats 4000000 in
set_option maxRecDepth 100000 in
theorem arrearslaw08_awake.calls (r : Bool) (w : World) (h : arrearslaw08_awake.f = some r) :
    Calls Tryd.prog 5 #[] w fun e w' => e = .returned (.bool r) ∧ Below w.heap.size w w' := by
  obtain rfl := Option.some.inj h
  clear h
  go_enter Tryd.func5, Tryd.ntmps5
  go_wp2_with (first
    | ((with_reducible refine gate_dst (N := 1) rfl ?_); refine box_event ?hg (N := 1) ?hd (cs := #[.slice none 0 0]) (t := 53) ?hr ?_; (case hd => rfl); (case hg => rfl); (case hr => first | (go_simp; done) | (go_simp; rfl)); intro gb1 hg1 w1 hbox hb; have HQ0 := Aside0.mk (Qu.new (w := w) hbox); have B1 := Aside0.mk hb; have GE1 := Aside0.mk (Nat.le_of_eq hg1.symm : w.heap.size ≤ gb1); clear hbox hb hg1)
    | (go_at_call 15; refine (quill_Uint 300 (by omega) (by omega) gb1 _ [] w1 (by simp) HQ0.out).mono ?_; rintro e w2 ⟨rfl, hd⟩; rw [awk_q] at hd; obtain ⟨v2, hq, hv, hbb, _, _⟩ := QDone.law hd B1.out GE1.out (nil_own _); have HQ2 := Aside0.mk hq; have HV2 := Aside0.mk hv; have B2 := Aside0.mk hbb; clear hd hq hv hbb)
    | (go_at_call 16; refine (quill_Int (-1) (by omega) (by omega) gb1 v2 _ w2 (by simp) HQ2.out).mono ?_; rintro e w3 ⟨rfl, hd⟩; rw [awk_i] at hd; obtain ⟨v3, hq, hv, hbb, _, _⟩ := QDone.law hd B2.out GE1.out HV2.out; have HQ3 := Aside0.mk hq; have HV3 := Aside0.mk hv; have B3 := Aside0.mk hbb; clear hd hq hv hbb)
    | (go_at_call 19; refine (quill_Done gb1 v3 _ w3 (by simp) HQ3.out).mono ?_; rintro e w4 ⟨v4, rfl, h1, h2, h3⟩; generalize hP : ([2, 1, 44, 128] : List Int) = P at h1; obtain ⟨A4, c4, ev4, _, _⟩ := h1.slice; subst ev4; have HP := Aside0.mk hP; have HY := Aside0.mk h1; have B4 := Aside0.mk (below_step B3.out h3); clear h1 h2 h3 hP)
    | (go_at_call 24; refine calls_of_args (args' := #[.slice A4 P.length c4, .slice (some ⟨w4.heap.size, 0, none⟩) [2, 1, 44, 128].length 4]) rfl ((arrearsref01_Same.calls 6 A4 c4 P _ 4 [2, 1, 44, 128] true _ (Kd.C_alloc HY.out.rd.1 _) HY.out.rd.2 (Bys.rd (c := 4) (l := [2, 1, 44, 128]) (own_lit w4 0 _ .u8 [2, 1, 44, 128] (Nat.zero_le _) (by simp))).1 (by simp) (awk_s P HP.out.symm)).mono ?_); rintro e w5 ⟨rfl, hdr⟩; have B5 := Aside0.mk (below_step (below_alloc B4.out (.cells #[.int .u8 2, .int .u8 1, .int .u8 44, .int .u8 128] 5)) hdr.below); have HY5 := Aside0.mk ((HY.out.below (below_alloc (Below.refl _ _) (.cells #[.int .u8 2, .int .u8 1, .int .u8 44, .int .u8 128] 5))).below hdr.below); clear hdr)
    | (go_at_call 8; refine (quill_Look _ P w5 HY5.out (by rw [← HP.out]; simp) (by rw [← HP.out]; decide)).mono ?_; rintro e w6 ⟨g6, rfl, h1, h2, h3⟩; have HL6 := Aside0.mk h2; have G6 := Aside0.mk h1; have B6 := Aside0.mk (below_step B5.out h3); clear h1 h2 h3)
    | (go_at_call 20; refine (lens_Uint g6 g6 _ 300 (by omega) w6 HL6.out).mono ?_; rintro e w7 ⟨rfl, hd⟩; rw [← HP.out]; have B7 := Aside0.mk (LDone.law hd B6.out (Nat.le_trans B5.out.size G6.out)); clear hd))
  go_ret
  exact ⟨by rw [awk_u]; rfl, B7.out⟩
end


/-! ### api_Code: function 13 -/
open Go.Proofs.YtdojgjbiilnjpaaDoor.M (Laid Laid.below Laid.et as_hit)
def api_Code.f (a0 : Option Int) : Option Int := some (a0.getD 0)
set_option maxHeartbeats 8000000 in
theorem api_Code.calls (a0 : Option Int) (r : Int) (w : World) (hG : Laid w) (h : api_Code.f a0 = some r) :
    Calls Tryd.prog 13 #[errW a0] w fun e w' => e = .returned (.int .i64 r) ∧ Below w.heap.size w w' := by
  unfold api_Code.f at h
  obtain rfl := Option.some.inj h
  cases a0 with
  | none =>
    go_enter Tryd.func13, Tryd.ntmps13
    simp only [errW_none]
    go_wp2
    go_ret
    exact ⟨rfl, Below.refl _ _⟩
  | some c =>
    have hw : Laid (w.alloc (.cells #[.int .i64 0] 39)) := Laid.below hG (below_alloc (Below.refl _ _) _)
    have hit := as_hit c ⟨w.heap.size, 0, none⟩ (.int .i64 0) (w.alloc (.cells #[.int .i64 0] 39)) hw.et (by simp) (by simp)
    have HIT := Aside0.mk hit
    clear hit hw hG
    go_enter Tryd.func13, Tryd.ntmps13
    simp only [errW_some]
    go_wp2_with (go_at_call 28; refine HIT.out.mono ?_; rintro e w' ⟨rfl, rfl⟩)
    go_ret
    exact ⟨rfl, by repeat (first | exact Below.refl _ _ | apply below_alloc | apply pw_below_drewN | apply below_drew1 | (refine below_set ?_ (Nat.le_refl _)))⟩


/-! ### arrearsref01_Text: function 14 -/
def arrearsref01_Text.f (a0 : ByteArray) (a1 : Int) : Option (ByteArray) := if 0 ≤ (mn (a0.size : Int) a1) then (if (mn (a0.size : Int) a1) ≤ (a0.size : Int) then (some (a0.extract 0 ((mn (a0.size : Int) a1) : Int).toNat)) else (none)) else (none)
set_option maxHeartbeats 8000000 in
set_option maxRecDepth 100000 in
theorem arrearsref01_Text.calls (a0 : ByteArray) (a1 : Int) (r : ByteArray) (w : World) (h : arrearsref01_Text.f a0 a1 = some r) :
    Calls Tryd.prog 14 #[.string a0, .int .i64 a1] w fun e w' => e = .returned (.string r) ∧ Below w.heap.size w w' := by
  have HB := Aside0.mk (Below.refl w.heap.size w)
  have H : (if 0 ≤ (mn (a0.size : Int) a1) then (if (mn (a0.size : Int) a1) ≤ (a0.size : Int) then (some (a0.extract 0 ((mn (a0.size : Int) a1) : Int).toNat)) else (none)) else (none)) = some r := h
  clear h
  obtain ⟨ji3, hji3⟩ : ∃ j_ : Int, (mn (a0.size : Int) a1) = j_ := ⟨_, rfl⟩
  replace H : (if 0 ≤ (ji3) then (if (ji3) ≤ (a0.size : Int) then (some (a0.extract 0 ((ji3) : Int).toNat)) else (none)) else (none)) = some r := by first | (rw [hji3] at H; exact H) | (simp only [hji3] at H ⊢; exact H)
  have hji3_ : (if a1 < (a0.size : Int) then a1 else (a0.size : Int)) = ji3 := hji3
  by_cases c4 : 0 ≤ (ji3)
  · rw [if_pos c4] at H
    have c4b0 := eq_true c4
    have c4b1 : decide (0 ≤ (ji3)) = true := decide_eq_true c4
    clear c4
    by_cases c5 : (ji3) ≤ (a0.size : Int)
    · rw [if_pos c5] at H
      have c5b0 := eq_true c5
      have c5b1 : decide ((ji3) ≤ (a0.size : Int)) = true := decide_eq_true c5
      clear c5
      obtain rfl := Option.some.inj H
      go_enter Tryd.func14, Tryd.ntmps14
      go_wp2
      go_ret
      exact ⟨by first | rfl | (simp [errW_none, errW_some] <;> rfl) | (simp only [← hji3]; first | rfl | (simp [errW_none, errW_some] <;> rfl)) | (simp [*, errW_none, errW_some] <;> rfl), by repeat (first | (with_reducible first | exact HB.out | apply below_alloc | apply pw_below_drewN | apply below_drew1) | exact HB.out)⟩
    · rw [if_neg c5] at H
      exact absurd H (by simp)
  · rw [if_neg c4] at H
    exact absurd H (by simp)

/-! ### arrearsref01_Join: function 33 -/
def arrearsref01_Join.l0 : Nat → List Int → List (List Int) → Int → Int → Option (List Int)
  | 0, _, _, _, _ => none
  | k + 1, x3, x6, x7, x8 => if x8 < x7 then (if 0 ≤ x8 then (if x8 < (x6.length : Int) then (if x3.length + (rd_L1 x6 x8).length < 140737488355328 then (arrearsref01_Join.l0 k (x3 ++ (rd_L1 x6 x8)) x6 x7 (wrap64 (x8 + 1))) else (none)) else (none)) else (none)) else (some x3)
def arrearsref01_Join.f (k : Nat) (l0 : List (List Int)) : Option (List Int) := arrearsref01_Join.l0 k ([] : List Int) l0 (l0.length : Int) 0
theorem arrearsref01_Join.mono_l : ∀ k, (∀ y0 y1 y2 y3, LeO (arrearsref01_Join.l0 k y0 y1 y2 y3) (arrearsref01_Join.l0 (k + 1) y0 y1 y2 y3))
  | 0 => fun _ _ _ _ r h => by simp [arrearsref01_Join.l0] at h
  | k + 1 => by
    have ih0 := arrearsref01_Join.mono_l k
    · intro y0 y1 y2 y3
      unfold arrearsref01_Join.l0
      repeat' first
      | (with_reducible exact ih0 _ _ _ _)
      | (with_reducible exact LeO.refl _)
      | (with_reducible exact LeO.none _)
      | (with_reducible refine LeO.ite ?_ ?_)
      | (with_reducible refine LeO.bind ?_ (fun _ => ?_))
      | exact ih0 _ _ _ _
      | exact LeO.none _
      | refine LeO.ite ?_ ?_
      | refine LeO.bind ?_ (fun _ => ?_)
theorem arrearsref01_Join.mono : ∀ a0 k, LeO (arrearsref01_Join.f k a0) (arrearsref01_Join.f (k + 1) a0) := by
  intro a0 k
  have ih0 := arrearsref01_Join.mono_l k
  unfold arrearsref01_Join.f
  repeat' first
      | (with_reducible exact ih0 _ _ _ _)
      | (with_reducible exact LeO.refl _)
      | (with_reducible exact LeO.none _)
      | (with_reducible refine LeO.ite ?_ ?_)
      | (with_reducible refine LeO.bind ?_ (fun _ => ?_))
      | exact ih0 _ _ _ _
      | exact LeO.none _
      | refine LeO.ite ?_ ?_
      | refine LeO.bind ?_ (fun _ => ?_)
set_option maxHeartbeats 8000000 in
set_option maxRecDepth 100000 in
theorem arrearsref01_Join.calls (k : Nat) (A0 : Option Addr) (c0 : Nat) (l0 : List (List Int)) (r : List Int) (w : World) (hr0 : Kd.C (Kd.slice 5 (Kd.int .u8)) w A0 l0.length l0) (hc0 : l0.length ≤ c0) (h : arrearsref01_Join.f k l0 = some r) :
    Calls Tryd.prog 33 #[.slice A0 l0.length c0] w fun e w' => ∃ v0_ : Value, e = .returned (v0_) ∧ Kd.R (Kd.int .u8) 5 w' w.heap.size (fun _ => True) v0_ r ∧ Below w.heap.size w w' := by
  have HR0 := Aside0.mk hr0
  have HC0 := Aside0.mk hc0
  clear hr0 hc0
  have HB := Aside0.mk (Below.refl w.heap.size w)
  have H : (arrearsref01_Join.l0 k ([] : List Int) l0 (l0.length : Int) 0) = some r := h
  clear h
  have H' := Aside0.mk H
  clear H
  go_enter Tryd.func33, Tryd.ntmps33
  go_wp2
  go_loopg [3, 8] k (fun kq v3 v8 w' => ∃ (x3_1 : List Int) (x8_1 : Int), v8 = .int .i64 x8_1 ∧ Aside0 (arrearsref01_Join.l0 kq x3_1 l0 (l0.length : Int) x8_1 = some r) ∧ Aside0 (kq ≤ k) ∧ Aside0 (Kd.R (Kd.int .u8) 5 w' w.heap.size (fun _ => True) v3 x3_1) ∧ Aside0 (Below w.heap.size w w'))
  case atStart => exact ⟨(([] : List Int)), (0), (by first | rfl | (simp; done) | (simp [*]; done)), H', ⟨Nat.le_refl _⟩, ⟨by first | exact Kd.R_nil _ _ _ _ _ | exact Kd.N_nil _ _ _ _ _ | exact Kd.V_nil _ _ _ _ _ | exact Kd.Q_nil _ _ _ _ _ | exact Kd.S_nil _ _ _ _ _⟩, ⟨by repeat (first | (with_reducible first | exact HB.out | apply below_alloc | apply pw_below_drewN | apply below_drew1) | exact HB.out)⟩⟩
  case round =>
    clear H'
    obtain ⟨x3_1, x8_1, rfl, HA, HK1, HO_3, HB⟩ := hrel
    cases gk with
    | zero => exact absurd HA.out (by simp [arrearsref01_Join.l0])
    | succ k1 =>
      have H := HA.out
      clear HA
      simp only [arrearsref01_Join.l0] at H
      by_cases c2 : x8_1 < (l0.length : Int)
      · rw [if_pos c2] at H
        have c2b0 : decide (x8_1 < (l0.length : Int)) = true := decide_eq_true c2
        clear c2
        by_cases c3 : 0 ≤ x8_1
        · rw [if_pos c3] at H
          have c3b0 : decide (0 ≤ x8_1) = true := decide_eq_true c3
          clear c3
          by_cases c4 : x8_1 < (l0.length : Int)
          · rw [if_pos c4] at H
            have c4b0 : decide (x8_1 < (l0.length : Int)) = true := decide_eq_true c4
            clear c4
            by_cases c5 : x3_1.length + (rd_L1 l0 x8_1).length < 140737488355328
            · rw [if_pos c5] at H
              have LMc5 := Aside0.mk c5
              clear c5
              obtain ⟨y104, hy104⟩ : ∃ y_ : List Int, y_ = (x3_1 ++ (rd_L1 l0 x8_1)) := ⟨_, rfl⟩
              replace H : (arrearsref01_Join.l0 k1 y104 l0 (l0.length : Int) (wrap64 (x8_1 + 1))) = some r := by first | (rw [hy104]; with_reducible exact H) | (have H2_ := (Option.bind_some _ _).symm.trans H; rw [hy104]; with_reducible exact H2_) | (have H2_ := (Option.bind_some _ _).symm.trans H; with_reducible exact H2_) | with_reducible exact H | (rw [hy104]; exact H) | exact H
              have Ny104 := Aside0.mk hy104
              clear hy104
              have H' := Aside0.mk H
              clear H
              have p103 : 0 ≤ (x8_1 : Int) := of_decide_eq_true (by first | (with_reducible assumption) | assumption)
              have q103 : x8_1 < (l0.length : Int) := of_decide_eq_true (by first | (with_reducible assumption) | assumption)
              obtain ⟨ad103, A103_0, c103_0, e103, hx103_0, hl103_0, hi103_0⟩ := at_L1 HR0.out x8_1 p103 q103
              cases e103
              replace hx103_0 := (HB.out.cell (World.block_lt_of_cell? w _ hx103_0)).trans hx103_0
              have HR103_0 := Aside0.mk hi103_0
              have HC103_0 := Aside0.mk hl103_0
              clear hi103_0 hl103_0
              replace p103 := eq_true p103
              replace q103 := eq_true q103
              go_wp2_with (first | ((with_reducible refine gate_builtin (b := .append) (xs := #[.tmp 12, .tmp 13]) rfl ?_); at_builtin; refine Kd.R_append_rows (Kd.int .u8) (w0 := w) w.heap.size rfl (.tmp 12) (.tmp 13) 22 5 (.int .u8 0) 1 rfl Tryd.underlying22 info5 rfl (by decide) (by omega) u3 x3_1 (rd_L1 l0 x8_1) _ _ _ (fun _ => True) (fun _ => False) rfl rfl ?aO ?aR (fun _ _ h => h) (fun _ h => h.elim) ?aF ?aB ?aS ?aL ?_; (case aR => repeat (first | exact (Kd.C_below HR103_0.out HB.out) | (with_reducible refine Kd.C_alloc ?_ _) | (with_reducible refine Kd.C_drewN ?_ _) | (with_reducible refine Kd.C_drew ?_))); (case aB => exact (by repeat (first | (with_reducible first | exact HB.out | apply below_alloc | apply pw_below_drewN | apply below_drew1) | exact HB.out))); (case aF => exact (fun _ _ => trivial)); (case aO => exact (by (with_reducible repeat (first | apply Kd.R_alloc | apply Kd.R_drewN | apply Kd.R_drew)); exact HO_3.out)); (case aS => exact (below_size (by repeat (first | (with_reducible first | exact HB.out | apply below_alloc | apply pw_below_drewN | apply below_drew1) | exact HB.out)))); (case aL => have := LMc5.out; omega); intro v105 w6 ho hb hg hat; rw [← Ny104.out] at ho; have n0_ := Aside0.mk (hb); have n1_ := Aside0.mk (ho); clear HB; clear HO_3; have HB := n0_; have HO106 := n1_; clear n0_ n1_; clear ho hb hg hat))
              go_roundg k1
              case measure => have := HK1.out; omega
              case rel => exact ⟨(y104), (wrap64 (x8_1 + 1)), (by first | rfl | (simp; done) | (simp [*]; done)), H', ⟨by have := HK1.out; omega⟩, ⟨by (with_reducible repeat (first | apply Kd.R_alloc | apply Kd.R_drewN | apply Kd.R_drew)); exact HO106.out⟩, ⟨by repeat (first | (with_reducible first | exact HB.out | apply below_alloc | apply pw_below_drewN | apply below_drew1) | exact HB.out)⟩⟩
            · rw [if_neg c5] at H
              exact absurd H (by simp)
          · first | exact absurd c2 c4 | exact absurd (beq_iff_eq.mp c2b0) c4 | exact absurd (of_decide_eq_true (by assumption)) c4 | exact absurd (by assumption) c4
        · rw [if_neg c3] at H
          exact absurd H (by simp)
      · rw [if_neg c2] at H
        have c2b0 : decide (x8_1 < (l0.length : Int)) = false := decide_eq_false c2
        clear c2
        obtain rfl := Option.some.inj H
        go_wp2
        go_ret
        exact ⟨_, by first | rfl | (simp [errW_none, errW_some] <;> rfl) | (simp [*, errW_none, errW_some] <;> rfl), by (with_reducible repeat (first | apply Kd.R_alloc | apply Kd.R_drewN | apply Kd.R_drew)); exact HO_3.out, by repeat (first | (with_reducible first | exact HB.out | apply below_alloc | apply pw_below_drewN | apply below_drew1) | exact HB.out)⟩

/-! ### arrearsref08_digits: function 40 -/
def arrearsref08_digits.f : Nat → Int → Option (List Int)
  | 0, _ => none
  | k + 1, a0 => if a0 = 0 then (some ([] : List Int)) else ((arrearsref08_digits.f k (IntKind.u64.wrap (Int.tdiv a0 256))).bind fun t107 => ((arrearsref01_Join.f k (([t107, (([(Int.tmod a0 256) % 256] : List Int))] : List (List Int)))).bind fun t116 => (some t116)))
theorem arrearsref08_digits.mono_l : ∀ k, (∀ y0, LeO (arrearsref08_digits.f k y0) (arrearsref08_digits.f (k + 1) y0))
  | 0 => fun _ r h => by simp [arrearsref08_digits.f] at h
  | k + 1 => by
    have ih0 := arrearsref08_digits.mono_l k
    · intro y0
      unfold arrearsref08_digits.f
      repeat' first
      | (with_reducible exact ih0 _)
      | (with_reducible exact arrearsref01_Join.mono _ _)
      | (with_reducible exact LeO.refl _)
      | (with_reducible exact LeO.none _)
      | (with_reducible refine LeO.ite ?_ ?_)
      | (with_reducible refine LeO.bind ?_ (fun _ => ?_))
      | exact ih0 _
      | exact arrearsref01_Join.mono _ _
      | exact LeO.none _
      | refine LeO.ite ?_ ?_
      | refine LeO.bind ?_ (fun _ => ?_)
theorem arrearsref08_digits.mono : ∀ a0 k, LeO (arrearsref08_digits.f k a0) (arrearsref08_digits.f (k + 1) a0) := by
  intro a0 k
  have ih0 := arrearsref08_digits.mono_l k
  exact ih0 a0
set_option maxHeartbeats 8000000 in
set_option maxRecDepth 100000 in
theorem arrearsref08_digits.calls (k : Nat) : ∀ (a0 : Int) (r : List Int) (w : World) (h : arrearsref08_digits.f k a0 = some r),
    Calls Tryd.prog 40 #[.int .u64 a0] w fun e w' => ∃ v0_ : Value, e = .returned (v0_) ∧ Kd.R (Kd.int .u8) 5 w' w.heap.size (fun _ => True) v0_ r ∧ Below w.heap.size w w' := by
  induction k using Nat.strongRecOn with
  | _ k ih =>
  intro a0 r w h
  cases k with
  | zero => exact absurd h (by simp [arrearsref08_digits.f])
  | succ k =>
  simp only [arrearsref08_digits.f] at h
  have HB := Aside0.mk (Below.refl w.heap.size w)
  have H : (if a0 = 0 then (some ([] : List Int)) else ((arrearsref08_digits.f k (IntKind.u64.wrap (Int.tdiv a0 256))).bind fun t107 => ((arrearsref01_Join.f k (([t107, (([(Int.tmod a0 256) % 256] : List Int))] : List (List Int)))).bind fun t116 => (some t116)))) = some r := h
  clear h
  by_cases c2 : a0 = 0
  · rw [if_pos c2] at H
    have c2b0 : (a0 == 0) = true := beq_iff_eq.mpr c2
    have c2b1 : (a0 != 0) = false := bne_eq_false_iff_eq.mpr c2
    clear c2
    obtain rfl := Option.some.inj H
    go_enter Tryd.func40, Tryd.ntmps40
    go_wp2
    go_ret
    exact ⟨_, by first | rfl | (simp [errW_none, errW_some] <;> rfl) | (simp [*, errW_none, errW_some] <;> rfl), by first | exact Kd.R_nil _ _ _ _ _ | exact Kd.N_nil _ _ _ _ _ | exact Kd.V_nil _ _ _ _ _ | exact Kd.Q_nil _ _ _ _ _ | exact Kd.S_nil _ _ _ _ _, by repeat (first | (with_reducible first | exact HB.out | apply below_alloc | apply pw_below_drewN | apply below_drew1) | exact HB.out)⟩
  · rw [if_neg c2] at H
    have c2b0 : (a0 == 0) = false := beq_eq_false_iff_ne.mpr c2
    have c2b1 : (a0 != 0) = true := bne_iff_ne.mpr c2
    replace H := Option.bind_eq_some_iff.mp H
    obtain ⟨t107, A30, H⟩ := H
    replace H : ((arrearsref01_Join.f k (([t107, (([(Int.tmod a0 256) % 256] : List Int))] : List (List Int)))).bind fun t116 => (some t116)) = some r := H
    have A3 := Aside0.mk A30
    clear A30
    obtain ⟨y110, hy110⟩ : ∃ y_ : List Int, y_ = (([(Int.tmod a0 256) % 256] : List Int)) := ⟨_, rfl⟩
    replace H : ((arrearsref01_Join.f k (([t107, y110] : List (List Int)))).bind fun t116 => (some t116)) = some r := by first | (rw [hy110]; with_reducible exact H) | (have H2_ := (Option.bind_some _ _).symm.trans H; rw [hy110]; with_reducible exact H2_) | (have H2_ := (Option.bind_some _ _).symm.trans H; with_reducible exact H2_) | with_reducible exact H | (rw [hy110]; exact H) | exact H
    have Ny110 := Aside0.mk hy110
    clear hy110
    obtain ⟨y113, hy113⟩ : ∃ y_ : List (List Int), y_ = (([t107, y110] : List (List Int))) := ⟨_, rfl⟩
    replace H : ((arrearsref01_Join.f k y113).bind fun t116 => (some t116)) = some r := by first | (rw [hy113]; with_reducible exact H) | (have H2_ := (Option.bind_some _ _).symm.trans H; rw [hy113]; with_reducible exact H2_) | (have H2_ := (Option.bind_some _ _).symm.trans H; with_reducible exact H2_) | with_reducible exact H | (rw [hy113]; exact H) | exact H
    have Ny113 := Aside0.mk hy113
    clear hy113
    replace H := Option.bind_eq_some_iff.mp H
    obtain ⟨t116, A40, H⟩ := H
    replace H : (some t116) = some r := H
    have A4 := Aside0.mk A40
    clear A40
    obtain rfl := Option.some.inj H
    go_enter Tryd.func40, Tryd.ntmps40
    go_wp2_with (first | ((with_reducible refine gate_callee (f := 40) rfl ?_); refine goesL_ (some 7) rfl rfl Tryd.func40 (by kernel_rfl) rfl #[.int .u64 (IntKind.u64.wrap (Int.tdiv a0 256))] rfl (by (try simp only [List.map_toArray, List.map_cons, List.map_nil]); first | done | rfl | (simp only [List.length_drop, List.length_take]; rfl)) ?_; (with_reducible refine (ih k (by omega) (IntKind.u64.wrap (Int.tdiv a0 256)) t107 _ A3.out).mono ?_); rintro e w5 ⟨v108, rfl, ho0, hb⟩; refine ⟨_, rfl, ?_⟩; have n0_ := Aside0.mk (Kd.R_lower ho0 (below_size (by repeat (first | (with_reducible first | exact HB.out | apply below_alloc | apply pw_below_drewN | apply below_drew1) | exact HB.out)))); have n1_ := Aside0.mk (below_step (by repeat (first | (with_reducible first | exact HB.out | apply below_alloc | apply pw_below_drewN | apply below_drew1) | exact HB.out)) hb); clear HB; have HO109 := n0_; have HB := n1_; clear n0_ n1_; (try clear hb); (try clear hb2); (try clear hk); (try clear hi); (try clear ho0)) | ((with_reducible refine gate_dst (N := 11) rfl ?_); refine Kd.R_lit (Kd.int .u8) _ 5 ?hg (N := 11) ?hd (xs := ([(Int.tmod a0 256) % 256] : List Int)) (inner := [.int .u8 ((Int.tmod a0 256) % 256)]) (ok := fun _ => True) (okp := fun _ => True) ?hr ?hp (fun _ hk => hk) trivial (Below.refl _ _) (Nat.le_refl _) (by simp) ?_; (case hd => rfl); (case hg => rfl); (case hr => first | (go_simp; done) | (go_simp; rfl)); (case hp => exact (Reps.one (show Kd.M (Kd.int .u8) _ _ _ ((Int.tmod a0 256) % 256) [.int .u8 ((Int.tmod a0 256) % 256)] from rfl) (Reps.none _ _))); intro v111 w6 ho7 hb hg_ hnew_; clear hg_ hnew_; (first | rw [← Ny110.out] at ho7 | (simp only [Int.reduceToNat] at ho7; rw [← Ny110.out] at ho7)); have n0_ := Aside0.mk (Kd.R_elder' (by (with_reducible repeat (first | apply Kd.R_alloc | apply Kd.R_drewN | apply Kd.R_drew)); exact HO109.out) (Kd.R_base ho7) hb); have n1_ := Aside0.mk (Kd.R_lower (Kd.R_new' ho7 (Kd.R_lt (by (with_reducible repeat (first | apply Kd.R_alloc | apply Kd.R_drewN | apply Kd.R_drew)); exact HO109.out))) (below_size (by repeat (first | (with_reducible first | exact HB.out | apply below_alloc | apply pw_below_drewN | apply below_drew1) | exact HB.out)))); have n2_ := Aside0.mk (below_step (by repeat (first | (with_reducible first | exact HB.out | apply below_alloc | apply pw_below_drewN | apply below_drew1) | exact HB.out)) hb); clear HO109; clear HB; have HO109 := n0_; have HO112 := n1_; have HB := n2_; clear n0_ n1_ n2_; clear hb ho7; obtain ⟨Ao8, co8, eo8⟩ := Kd.R_slice HO109.out; subst eo8; obtain ⟨Ao9, co9, eo9⟩ := Kd.R_slice HO112.out; subst eo9) | ((with_reducible refine gate_dst (N := 12) rfl ?_); refine Kd.N_lit (Kd.slice 5 (Kd.int .u8)) _ 22 ?hg (N' := 12) ?hd (xs := ([t107, y110] : List (List Int))) (inner := [.slice Ao8 t107.length co8, .slice Ao9 y110.length co9]) (ok := (fun _ => True)) (okp := (fun _ => True)) ?hr ?hp (fun _ hk => hk) ((show ∀ k_, w6.heap.size ≤ k_ → (fun _ => True) k_ from fun k_ hk => trivial) _ (Nat.le_refl _)) (Below.refl _ _) (Nat.le_refl _) (by simp) ?_; (case hd => rfl); (case hg => rfl); (case hr => first | (go_simp; done) | (go_simp; rfl)); (case hp => exact (Reps.one (show Kd.FK (Kd.slice 5 (Kd.int .u8)) _ _ t107 [.slice Ao8 t107.length co8] from (Kd.FK_slice_mk (Kd.R_reads' (Kd.R_mono (ok' := (fun _ => True)) (HO109.out) (fun k_ hk => trivial))).2.1 (Kd.R_F (Kd.R_mono (ok' := (fun _ => True)) (HO109.out) (fun k_ hk => trivial))))) (Reps.one (show Kd.FK (Kd.slice 5 (Kd.int .u8)) _ _ y110 [.slice Ao9 y110.length co9] from (Kd.FK_slice_mk (Kd.R_reads' (Kd.R_mono (ok' := (fun _ => True)) (HO112.out) (fun k_ hk => trivial))).2.1 (Kd.R_F (Kd.R_mono (ok' := (fun _ => True)) (HO112.out) (fun k_ hk => trivial))))) (Reps.none _ _)))); intro v114 w10 ho11 hb hg_ hnew_; clear hg_ hnew_; (first | rw [← Ny113.out] at ho11 | (simp only [Int.reduceToNat] at ho11; rw [← Ny113.out] at ho11)); have n0_ := Aside0.mk (Kd.N_lower ho11 (below_size (by repeat (first | (with_reducible first | exact HB.out | apply below_alloc | apply pw_below_drewN | apply below_drew1) | exact HB.out)))); have n1_ := Aside0.mk (below_step (by repeat (first | (with_reducible first | exact HB.out | apply below_alloc | apply pw_below_drewN | apply below_drew1) | exact HB.out)) hb); clear HB; clear HO109; clear HO112; have HO115 := n0_; have HB := n1_; clear n0_ n1_; clear hb ho11; obtain ⟨Ao12, co12, eo12⟩ := Kd.N_slice HO115.out; subst eo12) | ((with_reducible refine gate_callee (f := 33) rfl ?_); refine goesL_ (some 13) rfl rfl Tryd.func33 (by kernel_rfl) rfl #[.slice Ao12 y113.length co12] rfl (by (try simp only [List.map_toArray, List.map_cons, List.map_nil]); first | done | rfl | (simp only [List.length_drop, List.length_take]; rfl)) ?_; (with_reducible refine (arrearsref01_Join.calls k _ _ y113 t116 _ ?side1 ?side2 A4.out).mono ?_); (case side1 => repeat (first | exact (Kd.N_reads' HO115.out).2.2 | (with_reducible refine Kd.C_alloc ?_ _) | (with_reducible refine Kd.C_drewN ?_ _) | (with_reducible refine Kd.C_drew ?_))); (case side2 => exact (Kd.N_reads' HO115.out).2.1); rintro e w13 ⟨v117, rfl, ho0, hb⟩; refine ⟨_, rfl, ?_⟩; have n0_ := Aside0.mk (Kd.N_elder' (by (with_reducible repeat (first | apply Kd.N_alloc | apply Kd.N_drewN | apply Kd.N_drew)); exact HO115.out) (Kd.R_base ho0) hb); have n1_ := Aside0.mk (Kd.R_lower ho0 (below_size (by repeat (first | (with_reducible first | exact HB.out | apply below_alloc | apply pw_below_drewN | apply below_drew1) | exact HB.out)))); have n2_ := Aside0.mk (below_step (by repeat (first | (with_reducible first | exact HB.out | apply below_alloc | apply pw_below_drewN | apply below_drew1) | exact HB.out)) hb); clear HO115; clear HB; have HO115 := n0_; have HO118 := n1_; have HB := n2_; clear n0_ n1_ n2_; (try clear hb); (try clear hb2); (try clear hk); (try clear hi); (try clear ho0)))
    go_ret
    exact ⟨_, by first | rfl | (simp [errW_none, errW_some] <;> rfl) | (simp [*, errW_none, errW_some] <;> rfl), by (with_reducible repeat (first | apply Kd.R_alloc | apply Kd.R_drewN | apply Kd.R_drew)); exact HO118.out, by repeat (first | (with_reducible first | exact HB.out | apply below_alloc | apply pw_below_drewN | apply below_drew1) | exact HB.out)⟩

/-! ### arrearsref08_Uint: function 34 -/
def arrearsref08_Uint.f (k : Nat) (a0 : Int) : Option (List Int) := (arrearsref08_digits.f k a0).bind fun t119 => ((arrearsref01_Join.f k (([(([((t119.length : Int)) % 256] : List Int)), t119] : List (List Int)))).bind fun t128 => (some t128))
theorem arrearsref08_Uint.mono : ∀ a0 k, LeO (arrearsref08_Uint.f k a0) (arrearsref08_Uint.f (k + 1) a0) := by
  intro a0 k
  unfold arrearsref08_Uint.f
  repeat' first
      | (with_reducible exact arrearsref01_Join.mono _ _)
      | (with_reducible exact arrearsref08_digits.mono _ _)
      | (with_reducible exact LeO.refl _)
      | (with_reducible exact LeO.none _)
      | (with_reducible refine LeO.ite ?_ ?_)
      | (with_reducible refine LeO.bind ?_ (fun _ => ?_))
      | exact arrearsref01_Join.mono _ _
      | exact arrearsref08_digits.mono _ _
      | exact LeO.none _
      | refine LeO.ite ?_ ?_
      | refine LeO.bind ?_ (fun _ => ?_)
set_option maxHeartbeats 8000000 in
set_option maxRecDepth 100000 in
theorem arrearsref08_Uint.calls (k : Nat) (a0 : Int) (r : List Int) (w : World) (h : arrearsref08_Uint.f k a0 = some r) :
    Calls Tryd.prog 34 #[.int .u64 a0] w fun e w' => ∃ v0_ : Value, e = .returned (v0_) ∧ Kd.R (Kd.int .u8) 5 w' w.heap.size (fun _ => True) v0_ r ∧ Below w.heap.size w w' := by
  have HB := Aside0.mk (Below.refl w.heap.size w)
  have H : ((arrearsref08_digits.f k a0).bind fun t119 => ((arrearsref01_Join.f k (([(([((t119.length : Int)) % 256] : List Int)), t119] : List (List Int)))).bind fun t128 => (some t128))) = some r := h
  clear h
  replace H := Option.bind_eq_some_iff.mp H
  obtain ⟨t119, A20, H⟩ := H
  replace H : ((arrearsref01_Join.f k (([(([((t119.length : Int)) % 256] : List Int)), t119] : List (List Int)))).bind fun t128 => (some t128)) = some r := H
  have A2 := Aside0.mk A20
  clear A20
  obtain ⟨y122, hy122⟩ : ∃ y_ : List Int, y_ = (([((t119.length : Int)) % 256] : List Int)) := ⟨_, rfl⟩
  replace H : ((arrearsref01_Join.f k (([y122, t119] : List (List Int)))).bind fun t128 => (some t128)) = some r := by first | (rw [hy122]; with_reducible exact H) | (have H2_ := (Option.bind_some _ _).symm.trans H; rw [hy122]; with_reducible exact H2_) | (have H2_ := (Option.bind_some _ _).symm.trans H; with_reducible exact H2_) | with_reducible exact H | (rw [hy122]; exact H) | exact H
  have Ny122 := Aside0.mk hy122
  clear hy122
  obtain ⟨y125, hy125⟩ : ∃ y_ : List (List Int), y_ = (([y122, t119] : List (List Int))) := ⟨_, rfl⟩
  replace H : ((arrearsref01_Join.f k y125).bind fun t128 => (some t128)) = some r := by first | (rw [hy125]; with_reducible exact H) | (have H2_ := (Option.bind_some _ _).symm.trans H; rw [hy125]; with_reducible exact H2_) | (have H2_ := (Option.bind_some _ _).symm.trans H; with_reducible exact H2_) | with_reducible exact H | (rw [hy125]; exact H) | exact H
  have Ny125 := Aside0.mk hy125
  clear hy125
  replace H := Option.bind_eq_some_iff.mp H
  obtain ⟨t128, A30, H⟩ := H
  replace H : (some t128) = some r := H
  have A3 := Aside0.mk A30
  clear A30
  obtain rfl := Option.some.inj H
  go_enter Tryd.func34, Tryd.ntmps34
  go_wp2_with (first | ((with_reducible refine gate_callee (f := 40) rfl ?_); refine goesL_ (some 5) rfl rfl Tryd.func40 (by kernel_rfl) rfl #[.int .u64 a0] rfl (by (try simp only [List.map_toArray, List.map_cons, List.map_nil]); first | done | rfl | (simp only [List.length_drop, List.length_take]; rfl)) ?_; (with_reducible refine (arrearsref08_digits.calls k a0 t119 _ A2.out).mono ?_); rintro e w4 ⟨v120, rfl, ho0, hb⟩; refine ⟨_, rfl, ?_⟩; have n0_ := Aside0.mk (Kd.R_lower ho0 (below_size (by repeat (first | (with_reducible first | exact HB.out | apply below_alloc | apply pw_below_drewN | apply below_drew1) | exact HB.out)))); have n1_ := Aside0.mk (below_step (by repeat (first | (with_reducible first | exact HB.out | apply below_alloc | apply pw_below_drewN | apply below_drew1) | exact HB.out)) hb); clear HB; have HO121 := n0_; have HB := n1_; clear n0_ n1_; (try clear hb); (try clear hb2); (try clear hk); (try clear hi); (try clear ho0); obtain ⟨Ao5, co5, eo5⟩ := Kd.R_slice HO121.out; subst eo5) | ((with_reducible refine gate_dst (N := 9) rfl ?_); refine Kd.R_lit (Kd.int .u8) _ 5 ?hg (N := 9) ?hd (xs := ([((t119.length : Int)) % 256] : List Int)) (inner := [.int .u8 (((t119.length : Int)) % 256)]) (ok := fun _ => True) (okp := fun _ => True) ?hr ?hp (fun _ hk => hk) trivial (Below.refl _ _) (Nat.le_refl _) (by simp) ?_; (case hd => rfl); (case hg => rfl); (case hr => first | (go_simp; done) | (go_simp; rfl)); (case hp => exact (Reps.one (show Kd.M (Kd.int .u8) _ _ _ (((t119.length : Int)) % 256) [.int .u8 (((t119.length : Int)) % 256)] from rfl) (Reps.none _ _))); intro v123 w6 ho7 hb hg_ hnew_; clear hg_ hnew_; (first | rw [← Ny122.out] at ho7 | (simp only [Int.reduceToNat] at ho7; rw [← Ny122.out] at ho7)); have n0_ := Aside0.mk (Kd.R_elder' (by (with_reducible repeat (first | apply Kd.R_alloc | apply Kd.R_drewN | apply Kd.R_drew)); exact HO121.out) (Kd.R_base ho7) hb); have n1_ := Aside0.mk (Kd.R_lower (Kd.R_new' ho7 (Kd.R_lt (by (with_reducible repeat (first | apply Kd.R_alloc | apply Kd.R_drewN | apply Kd.R_drew)); exact HO121.out))) (below_size (by repeat (first | (with_reducible first | exact HB.out | apply below_alloc | apply pw_below_drewN | apply below_drew1) | exact HB.out)))); have n2_ := Aside0.mk (below_step (by repeat (first | (with_reducible first | exact HB.out | apply below_alloc | apply pw_below_drewN | apply below_drew1) | exact HB.out)) hb); clear HO121; clear HB; have HO121 := n0_; have HO124 := n1_; have HB := n2_; clear n0_ n1_ n2_; clear hb ho7; obtain ⟨Ao8, co8, eo8⟩ := Kd.R_slice HO124.out; subst eo8) | ((with_reducible refine gate_dst (N := 11) rfl ?_); refine Kd.N_lit (Kd.slice 5 (Kd.int .u8)) _ 22 ?hg (N' := 11) ?hd (xs := ([y122, t119] : List (List Int))) (inner := [.slice Ao8 y122.length co8, .slice Ao5 t119.length co5]) (ok := (fun _ => True)) (okp := (fun _ => True)) ?hr ?hp (fun _ hk => hk) ((show ∀ k_, w6.heap.size ≤ k_ → (fun _ => True) k_ from fun k_ hk => trivial) _ (Nat.le_refl _)) (Below.refl _ _) (Nat.le_refl _) (by simp) ?_; (case hd => rfl); (case hg => rfl); (case hr => first | (go_simp; done) | (go_simp; rfl)); (case hp => exact (Reps.one (show Kd.FK (Kd.slice 5 (Kd.int .u8)) _ _ y122 [.slice Ao8 y122.length co8] from (Kd.FK_slice_mk (Kd.R_reads' (Kd.R_mono (ok' := (fun _ => True)) (HO124.out) (fun k_ hk => trivial))).2.1 (Kd.R_F (Kd.R_mono (ok' := (fun _ => True)) (HO124.out) (fun k_ hk => trivial))))) (Reps.one (show Kd.FK (Kd.slice 5 (Kd.int .u8)) _ _ t119 [.slice Ao5 t119.length co5] from (Kd.FK_slice_mk (Kd.R_reads' (Kd.R_mono (ok' := (fun _ => True)) (HO121.out) (fun k_ hk => trivial))).2.1 (Kd.R_F (Kd.R_mono (ok' := (fun _ => True)) (HO121.out) (fun k_ hk => trivial))))) (Reps.none _ _)))); intro v126 w9 ho10 hb hg_ hnew_; clear hg_ hnew_; (first | rw [← Ny125.out] at ho10 | (simp only [Int.reduceToNat] at ho10; rw [← Ny125.out] at ho10)); have n0_ := Aside0.mk (Kd.N_lower ho10 (below_size (by repeat (first | (with_reducible first | exact HB.out | apply below_alloc | apply pw_below_drewN | apply below_drew1) | exact HB.out)))); have n1_ := Aside0.mk (below_step (by repeat (first | (with_reducible first | exact HB.out | apply below_alloc | apply pw_below_drewN | apply below_drew1) | exact HB.out)) hb); clear HB; clear HO121; clear HO124; have HO127 := n0_; have HB := n1_; clear n0_ n1_; clear hb ho10; obtain ⟨Ao11, co11, eo11⟩ := Kd.N_slice HO127.out; subst eo11) | ((with_reducible refine gate_callee (f := 33) rfl ?_); refine goesL_ (some 12) rfl rfl Tryd.func33 (by kernel_rfl) rfl #[.slice Ao11 y125.length co11] rfl (by (try simp only [List.map_toArray, List.map_cons, List.map_nil]); first | done | rfl | (simp only [List.length_drop, List.length_take]; rfl)) ?_; (with_reducible refine (arrearsref01_Join.calls k _ _ y125 t128 _ ?side1 ?side2 A3.out).mono ?_); (case side1 => repeat (first | exact (Kd.N_reads' HO127.out).2.2 | (with_reducible refine Kd.C_alloc ?_ _) | (with_reducible refine Kd.C_drewN ?_ _) | (with_reducible refine Kd.C_drew ?_))); (case side2 => exact (Kd.N_reads' HO127.out).2.1); rintro e w12 ⟨v129, rfl, ho0, hb⟩; refine ⟨_, rfl, ?_⟩; have n0_ := Aside0.mk (Kd.N_elder' (by (with_reducible repeat (first | apply Kd.N_alloc | apply Kd.N_drewN | apply Kd.N_drew)); exact HO127.out) (Kd.R_base ho0) hb); have n1_ := Aside0.mk (Kd.R_lower ho0 (below_size (by repeat (first | (with_reducible first | exact HB.out | apply below_alloc | apply pw_below_drewN | apply below_drew1) | exact HB.out)))); have n2_ := Aside0.mk (below_step (by repeat (first | (with_reducible first | exact HB.out | apply below_alloc | apply pw_below_drewN | apply below_drew1) | exact HB.out)) hb); clear HO127; clear HB; have HO127 := n0_; have HO130 := n1_; have HB := n2_; clear n0_ n1_ n2_; (try clear hb); (try clear hb2); (try clear hk); (try clear hi); (try clear ho0)))
  go_ret
  exact ⟨_, by first | rfl | (simp [errW_none, errW_some] <;> rfl) | (simp [*, errW_none, errW_some] <;> rfl), by (with_reducible repeat (first | apply Kd.R_alloc | apply Kd.R_drewN | apply Kd.R_drew)); exact HO130.out, by repeat (first | (with_reducible first | exact HB.out | apply below_alloc | apply pw_below_drewN | apply below_drew1) | exact HB.out)⟩

/-! ### arrearsref08_Text: function 25 -/
section
open Go.Proofs.YtdojgjbiilnjpaaDoor.M
def arrearsref08_Text.f (k : Nat) (a0 : ByteArray) : Option (List Int) := if a0.size ≤ 1000000 then (arrearsref08_Uint.f k (a0.size : Int)).bind fun x => arrearsref01_Join.f k [x, bytesOf a0] else none
theorem arrearsref08_Text.mono : ∀ a0 k, LeO (arrearsref08_Text.f k a0) (arrearsref08_Text.f (k + 1) a0) := by
  intro a0 k
  unfold arrearsref08_Text.f
  refine LeO.ite ?_ (LeO.refl _)
  exact LeO.bind (arrearsref08_Uint.mono _ _) (fun _ => arrearsref01_Join.mono _ _)
set_option maxHeartbeats 4000000 in
set_option maxRecDepth 100000 in
theorem arrearsref08_Text.calls (k : Nat) (a0 : ByteArray) (r : List Int) (w : World) (h : arrearsref08_Text.f k a0 = some r) :
    Calls Tryd.prog 25 #[.string a0] w fun e w' => ∃ v0_ : Value, e = .returned (v0_) ∧ Kd.R (Kd.int .u8) 5 w' w.heap.size (fun _ => True) v0_ r ∧ Below w.heap.size w w' := by
  unfold arrearsref08_Text.f at h
  split at h
  · rename_i hs
    obtain ⟨x, hx, h⟩ := Option.bind_eq_some_iff.mp h
    obtain ⟨n, hn⟩ : ∃ z : Int, z = (a0.size : Int) := ⟨_, rfl⟩
    rw [← hn] at hx
    have hw : IntKind.u64.wrap n = n := by rw [IntKind.wrap_u64]; omega
    have hkb : ∀ W : World, (convert 9 22 (.string a0)).run Tryd.prog W = .ok (.slice (some ⟨W.heap.size, 0, none⟩) a0.size (grownCap W a0.size 0 5)) (Lib.bytesWorld W 5 a0) := fun W => print_bytes 9 22 5 Tryd.underlying9 Tryd.underlying22 Tryd.underlying5 a0 W
    have HX := Aside0.mk hx
    have HJ := Aside0.mk h
    have HS := Aside0.mk hs
    have HN := Aside0.mk hn.symm
    clear hx h hs hn
    go_enter Tryd.func25, Tryd.ntmps25
    go_wp2_with (first
      | (go_at_call 34; (try rw [HN.out]); (try rw [hw]); refine (arrearsref08_Uint.calls k n x w HX.out).mono ?_; rintro e w4 ⟨v4, rfl, ho, hb⟩; obtain ⟨A4, c4, e4, _, _⟩ := (Bys.ofR ho).slice; subst e4; have HY := Aside0.mk (Bys.ofR ho); have HB := Aside0.mk hb; clear ho hb)
      | (go_at_call 33; refine calls_of_args (args' := #[.slice (some ⟨(Lib.bytesWorld w4 5 a0).heap.size, 0, none⟩) [x, bytesOf a0].length 2]) rfl ((arrearsref01_Join.calls k _ 2 [x, bytesOf a0] r _ (lit2C (W := Lib.bytesWorld w4 5 a0) (Kd.C_below HY.out.rd.1 (bytes_below (Below.refl _ w4) (Nat.le_refl _) 5 a0)) HY.out.rd.2 rfl (by rw [bytesOf_length]; exact Kd.C_of_reads (d := (0 : Int)) (h1 := fun _ => rfl) (bytes_reads w4 5 a0 (by have := HS.out; omega))) (by rw [bytesOf_length]; exact grownCap_ge w4 a0.size 0 5) (bytesOf_length a0).symm) (by simp) HJ.out).mono ?_); rintro e w5 ⟨v5, rfl, ho, hb⟩; have HR5 := Aside0.mk (Kd.R_lower ho (show w.heap.size ≤ _ from (below_alloc (bytes_below HB.out HB.out.size 5 a0) _).size)); have HB5 := Aside0.mk (below_step (below_alloc (bytes_below HB.out HB.out.size 5 a0) _) hb); clear ho hb))
    go_ret
    exact ⟨v5, rfl, HR5.out, HB5.out⟩
  · cases h
end


/-! ### arrearslaw08_QuillNil: function 4 -/
section
open Go.Proofs.YtdojgjbiilnjpaaDoor.M
def arrearslaw08_QuillNil.f (k : Nat) (a0 : Int) (a1 : ByteArray) (a2 : Int) : Option Bool :=
  (arrearsref01_Text.f a1 20).bind fun s => (arrearsref08_Text.f k s).bind fun R =>
    if ((0 ≤ a0 ∧ a0 ≤ 18446744073709551615) ∧ (-9223372036854775808 ≤ a2 ∧ a2 ≤ 9223372036854775807) ∧ s.size ≤ 100000) ∧ (nlay s.size 0 ++ bytesOf s).length ≤ 1000 ∧ ((nlay s.size 0 ++ bytesOf s).all fun x => decide (0 ≤ x ∧ x ≤ 255)) = true ∧ (ltext (some (nlay s.size 0 ++ bytesOf s)) 20).1 = s ∧ arrearsref01_Same.f k (nlay s.size 0 ++ bytesOf s) R = some true then some true else none
theorem all_rng7 {l : List Int} (h : (l.all fun x => decide (0 ≤ x ∧ x ≤ 255)) = true) : ∀ x ∈ l, 0 ≤ x ∧ x ≤ 255 := fun x hx => by
  have := (List.all_eq_true.1 h) x hx
  simpa using this
set_option maxHeartbeats 4000000 in
set_option maxRecDepth 100000 in
/-- Look, and where the lens's own bytes lie: in a new block. -/
theorem quill_LookN (v : Value) (l : List Int) (w : World) (HC : Aside0 (Calls Tryd.prog 26 #[v] w fun e w' => ∃ v', e = .returned v' ∧ Bys w' v' l ∧ (∀ k, v'.ownBlock = some k → w.heap.size ≤ k) ∧ Below w.heap.size w w')) (hl : l.length ≤ 1000000) (hr : ∀ x ∈ l, 0 ≤ x ∧ x ≤ 255) :
    Calls Tryd.prog 8 #[v] w fun e w' => ∃ g A c, e = .returned (.pointer (some ⟨g, 0, none⟩)) ∧ w.heap.size ≤ g ∧ Ln g w' g A c l false ∧ (∀ b o, A = some ⟨b, o, none⟩ → w.heap.size ≤ b) ∧ Below w.heap.size w w' := by
  have HL := Aside0.mk hl
  have HR := Aside0.mk hr
  clear hl hr
  go_enter Tryd.func8, Tryd.ntmps8
  go_wp2_with (first | (go_at_call 26; refine HC.out.mono ?_; rintro e w5 ⟨v5, rfl, h1, h2, h3⟩; obtain ⟨A2, c2, ev5, hc2, _⟩ := h1.slice; have h1' := h1; have hl1 := ev5; generalize hl0 : l.length = L at ev5; subst ev5; have H0 := Aside0.mk hl0; have H1 := Aside0.mk h1; have H2 := Aside0.mk h2; have H3 := Aside0.mk h3; have H4 := Aside0.mk hc2; clear h1 h1' h2 h3 hc2 hl1 hl0))
  go_ret
  refine ⟨w5.heap.size, A2, c2, rfl, H3.out.size, ⟨?_, H4.out, ?_, HL.out, HR.out⟩, ?_, H3.out.alloc H3.out.size _⟩
  · rw [H0.out]
    exact blk_new w5 _
  · have h5 := H1.out
    rw [← H0.out] at h5
    exact (RowB.of h5).move fun b cur hb _ => Below.heap_alloc _ _ _ hb
  · intro b o e
    subst e
    rcases H1.out.2 with ⟨h1, _⟩ | ⟨g, cap, cur, h1, _⟩
    · cases h1
    · injection h1 with h1 h2 h3
      injection h1 with h1
      injection h1 with h1 h4 h5
      subst h1 h4
      exact H2.out b (by rfl)
theorem ln_far {N : Nat} {w w1 : World} {g bx : Nat} {A : Option Addr} {c : Nat} {l : List Int} {bad : Bool} (h : Ln N w g A c l bad) (hk : KeepQ w w1 bx none) (hg : g ≠ bx) (hA : ∀ b o, A = some ⟨b, o, none⟩ → b ≠ bx) : Ln N w1 g A c l bad :=
  ⟨(hk.block g (blk_lt h.blk) hg (by simp)).trans h.blk, h.le, fun hne => by
    obtain ⟨b, o, cur, h1, h2, h3, h4⟩ := h.row hne
    exact ⟨b, o, cur, h1, h2, (hk.block b (blk_lt h3) (hA b o h1) (by simp)).trans h3, h4⟩, h.len, h.rng⟩
theorem keepq_bel {w0 w w1 : World} {g : Nat} (hb : Below w0.heap.size w0 w) (hk : KeepQ w w1 g none) (hg : w0.heap.size ≤ g) : Below w0.heap.size w0 w1 := hk.toBelow hb hg (fun k e => by cases e)
/-- The cells of the row that is changed. -/
def Cur (w : World) (b n : Nat) : Prop := ∃ cur : Array Value, w.heap[b]? = some (.cells cur 5 (0, 0)) ∧ ∀ j, j < n → ∃ z, cur[j]? = some (.int .u8 z)
theorem bys_cur {w : World} {A : Option Addr} {c : Nat} {l : List Int} (h : Bys w (.slice A l.length c) l) (hne : l ≠ []) : ∃ b, A = some ⟨b, 0, none⟩ ∧ (Value.slice A l.length c).ownBlock = some b ∧ Cur w b l.length := by
  rcases h.2 with ⟨h1, _⟩ | ⟨g, cap, cur, h1, _, hg, hnc, _, hcs, ht⟩
  · injection h1 with h1 h2
    exact absurd (List.eq_nil_of_length_eq_zero h2) hne
  · injection h1 with h1 h2 h3
    subst h1
    refine ⟨g, rfl, rfl, cur, hg, fun j hj => ⟨l.getD j 0, ?_⟩⟩
    have e : cur.toList[j]? = (nums .u8 l)[j]? := by
      rw [← ht, Nat.mul_one, List.getElem?_take, if_pos hj]
    rw [← Array.getElem?_toList, e]
    simp [nums, List.getElem?_eq_getElem hj, List.getD_eq_getElem?_getD]
theorem Cur.set {w : World} {b n : Nat} (h : Cur w b n) (o : Nat) (z : Int) : Cur (w.setCell ⟨b, o, none⟩ (.int .u8 z)) b n := by
  obtain ⟨cur, h1, h2⟩ := h
  refine ⟨_, blk_put h1 o _ rfl, fun j hj => ?_⟩
  by_cases c : o = j
  · subst c
    have hlt : o < cur.size := by
      obtain ⟨z2, h3⟩ := h2 o hj
      exact (Array.getElem?_eq_some_iff.1 h3).1
    exact ⟨z, by simp [Array.setIfInBounds, hlt]⟩
  · obtain ⟨z2, h3⟩ := h2 j hj
    exact ⟨z2, by rw [Array.getElem?_setIfInBounds_ne c]; exact h3⟩
set_option maxHeartbeats 8000000 in
set_option maxRecDepth 100000 in
theorem arrearslaw08_QuillNil.calls (k : Nat) (a0 : Int) (a1 : ByteArray) (a2 : Int) (r : Bool) (w : World) (hG : Go.Proofs.YtdojgjbiilnjpaaDoor.M.Laid w) (h : arrearslaw08_QuillNil.f k a0 a1 a2 = some r) (hr : r = true) :
    Calls Tryd.prog 4 #[.int .u64 a0, .string a1, .int .i64 a2] w fun e w' => e = .returned (.bool r) ∧ Below w.heap.size w w' := by
  subst hr
  obtain ⟨s, hs, h⟩ := Option.bind_eq_some_iff.mp h
  obtain ⟨R, hR, h⟩ := Option.bind_eq_some_iff.mp h
  split at h
  · rename_i hg
    obtain ⟨⟨hn, hm, hsz⟩, hln, hal, htx, hsm⟩ := hg
    have hq0 : ([] ++ nlay s.size 0 ++ bytesOf s) = nlay s.size 0 ++ bytesOf s := rfl
    have hne : nlay s.size 0 ++ bytesOf s ≠ [] := by simp [nlay]
    generalize nlay s.size 0 ++ bytesOf s = Q at hln hal htx hsm hq0 hne
    have HLD := Aside0.mk hG
    have HS := Aside0.mk hs
    have HR := Aside0.mk hR
    have HN := Aside0.mk hn
    have HM := Aside0.mk hm
    have HSZ := Aside0.mk hsz
    have HLN := Aside0.mk hln
    have HAL := Aside0.mk hal
    have HTX := Aside0.mk htx
    have HSM := Aside0.mk hsm
    have HQ0 := Aside0.mk hq0
    have HNE := Aside0.mk hne
    have HB := Aside0.mk (Below.refl w.heap.size w)
    clear hn hm hsz hln hal htx hsm hq0 hne hs hR h hG
    go_enter Tryd.func4, Tryd.ntmps4
    go_upto_region 8 with (first
      | (go_at_call 5; refine (arrearslaw08_awake.calls true w rfl).mono ?_; rintro e w1 ⟨rfl, hb⟩; have n_ := Aside0.mk (hb); clear HB; have HB := n_; clear n_; clear hb)
      | (go_at_call 14; (with_reducible refine (arrearsref01_Text.calls a1 20 s w1 HS.out).mono ?_); rintro e w2 ⟨rfl, hb⟩; have n_ := Aside0.mk (below_step HB.out hb); clear HB; have HB := n_; clear n_; have HLQ := Aside0.mk (Laid.below HLD.out HB.out); clear hb)
      | (go_at_call 15; (with_reducible refine (quill_Uint_nil _ _).mono ?_); rintro e _ ⟨rfl, rfl⟩; skip)
      | (go_at_call 16; (with_reducible refine (quill_Int_nil _ _).mono ?_); rintro e _ ⟨rfl, rfl⟩; skip)
      | (go_at_call 17; (with_reducible refine (quill_Flag_nil _ _).mono ?_); rintro e _ ⟨rfl, rfl⟩; skip)
      | (go_at_call 18; (with_reducible refine (quill_Text_nil _ _).mono ?_); rintro e _ ⟨rfl, rfl⟩; skip)
      | (go_at_call 19; (with_reducible refine (quill_Done_nil _).mono ?_); rintro e _ ⟨rfl, rfl⟩; skip)
      | (go_at_call 20; (with_reducible refine (lens_Uint_nil _ HN.out.1 _).mono ?_); rintro e _ ⟨rfl, rfl⟩; skip)
      | (go_at_call 21; (with_reducible refine (lens_Int_nil _).mono ?_); rintro e _ ⟨rfl, rfl⟩; skip)
      | (go_at_call 22; (with_reducible refine (lens_Flag_nil _).mono ?_); rintro e _ ⟨rfl, rfl⟩; skip)
      | (go_at_call 23; (with_reducible refine (lens_Text_nil _ HM.out.1 HM.out.2 _).mono ?_); rintro e _ ⟨rfl, rfl⟩; skip)
      | (go_at_call 11; (with_reducible refine (lens_Rest_nil _).mono ?_); rintro e _ ⟨rfl, rfl⟩; skip)
      | (go_at_call 12; (with_reducible refine (lens_End_nil _).mono ?_); rintro e _ ⟨rfl, rfl⟩; skip)
      | (go_at_call 13; (try simp only [formErr]); have hC := api_Code.calls (some 2) 2 w2 HLQ.out rfl; rw [errW_some] at hC; refine hC.mono ?_; clear hC; rintro e w3 ⟨rfl, hb⟩; have n_ := Aside0.mk (below_step HB.out hb); clear HB; have HB := n_; clear n_; clear hb))
    go_wp2_with (first
      | ((with_reducible refine gate_dst (N := 9) rfl ?_); (try (refine gate_guard (by rfl) ?_; dsimp only)); refine box_event ?hg (N := 9) ?hd (cs := #[.slice none 0 0]) (t := 53) ?hr ?_; (case hd => rfl); (case hg => rfl); (case hr => first | (go_simp; done) | (go_simp; rfl)); intro gb9 hg w5 hbox hb; have HQ := Aside0.mk (Qu.new (w := w) hbox); have GE9 := Aside0.mk (show w.heap.size ≤ gb9 by have := HB.out.size; omega); have n_ := Aside0.mk (below_step HB.out hb); clear HB; have HB := n_; clear n_; clear hbox hb hg)
      | (go_at_call 18; (with_reducible refine (quill_Text s HSZ.out gb9 _ [] _ (by simp) HQ.out).mono ?_); rintro e w6 ⟨rfl, hd⟩; rw [HQ0.out] at hd; obtain ⟨v6, hq, hvb, hbb, hkq, hsi⟩ := QDone.law (w0 := w) hd HB.out GE9.out (nil_own _); clear HQ; have HQ := Aside0.mk hq; have HO := Aside0.mk hvb; have n_ := Aside0.mk (hbb); clear HB; have HB := n_; clear n_; clear hd hq hvb hbb hkq hsi)
      | (go_at_call 19; (with_reducible refine (quill_Done gb9 v6 Q w6 (by have := HLN.out; omega) HQ.out).mono ?_); rintro e w7 ⟨v7, rfl, h1, h2, h3⟩; have G6 := Aside0.mk HB.out.size; obtain ⟨A7, c7, e7, hc7, _⟩ := h1.slice; generalize hn7 : Q.length = n7 at e7; subst e7; have HN7 := Aside0.mk hn7; have HC7 := Aside0.mk hc7; clear hn7 hc7; have n9_ := HQ.out.blk; have n6_ := HQ.out.row; have HP := Aside0.mk h1; have HPN := Aside0.mk h2; have n_ := Aside0.mk (HQ.out.below h3); clear HQ; have HQ := n_; clear n_; have n_ := Aside0.mk (below_step HB.out h3); clear HB; have HB := n_; clear n_; have HL6 := Aside0.mk (fun k (e : v6.ownBlock = some k) => show k < w6.heap.size from n6_.lt k e); have LT9 := Aside0.mk (show gb9 < w6.heap.size from blk_lt n9_); clear n6_ n9_ h1 h2 h3)
      | (go_at_call 8; (with_reducible refine (quill_LookN _ Q w7 ⟨bytes_Clone_row _ Q w7 HP.out (by have := HLN.out; omega)⟩ (by have := HLN.out; omega) (all_rng7 HAL.out)).mono ?_); rintro e w8 ⟨g8, A8, c8, rfl, h1, h2, h4, h3⟩; have HL := Aside0.mk h2; have HA8 := Aside0.mk h4; have G8 := Aside0.mk h1; have SZ7 := Aside0.mk (HP.out.lt); have n_ := Aside0.mk (HP.out.below h3); clear HP; have HP := n_; clear n_; have n_ := Aside0.mk (HQ.out.below h3); clear HQ; have HQ := n_; clear n_; have n_ := Aside0.mk (below_step HB.out h3); clear HB; have HB := n_; clear n_; clear h1 h2 h3 h4))
    obtain ⟨bx, eA, eo, hcur⟩ := bys_cur (c := c7) (show Bys w8 (.slice A7 Q.length c7) Q by rw [HN7.out]; exact HP.out) HNE.out
    subst eA
    have HBX : Aside0 (w6.heap.size ≤ bx) := ⟨HPN.out bx rfl⟩
    have HBX7 : Aside0 (bx < w7.heap.size) := ⟨SZ7.out bx rfl⟩
    rw [HN7.out] at hcur
    have HCU0 := Aside0.mk hcur
    clear hcur eo HPN SZ7
    go_loopg [70] n7 (fun gg v70 wr => ∃ (i : Int), v70 = .int .i64 i ∧ Aside0 (0 ≤ i ∧ i ≤ (n7 : Int) ∧ n7 - i.toNat ≤ gg) ∧ Aside0 (Cur wr bx n7) ∧ Aside0 (KeepQ w8 wr bx none))
    case atStart => exact ⟨0, rfl, ⟨by omega, by omega, by omega⟩, HCU0, ⟨KeepQ.refl _ _ _⟩⟩
    case round =>
      obtain ⟨i, rfl, HI, HCU, HK⟩ := hrel
      have hi0 : 0 ≤ i := HI.out.1
      by_cases hlt : i < (n7 : Int)
      · obtain ⟨cur, hcb, hcz⟩ := HCU.out
        obtain ⟨z, hz⟩ := hcz i.toNat (by omega)
        have hcell : wr.cell? ⟨bx, i.toNat, none⟩ = some (.int .u8 z) := (blk_cell hcb _).trans hz
        have hfz := blk_frozen hcb i.toNat
        clear hcb hcz hz
        have hi1 := Aside0.mk (show wrap64 (i + 1) = i + 1 by have := HLN.out; have := HN7.out; unfold wrap64; omega)
        go_wp2_with (fail)
        go_roundg (gk - 1)
        case measure => have := HI.out.2.2; omega
        case rel => exact ⟨i + 1, by first | rfl | rw [hi1.out], ⟨by have := HI.out; omega, by have := HI.out; omega, by have := HI.out; omega⟩, ⟨HCU.out.set _ _⟩, ⟨HK.out.set _ _⟩⟩
      · have hl8 : Ln g8 wr g8 A8 c8 Q false := ln_far HL.out HK.out (by have := HBX7.out; have := G8.out; omega) (fun b o e => by have := HA8.out b o e; have := HBX7.out; omega)
        have HLE : Aside0 (Le g8 wr g8 (some Q)) := ⟨⟨A8, c8, hl8⟩⟩
        have hov : ∀ k, v6.ownBlock = some k → k < bx := fun k e => by have := HL6.out k e; have := HBX.out; omega
        have HQX : Aside0 (Qu wr gb9 v6 Q) := ⟨HQ.out.keep HK.out (by have := LT9.out; have := HBX.out; omega) (fun e => by have := hov bx e.symm; omega) (by simp) (fun _ _ => by simp)⟩
        have HBE : Aside0 (Below w.heap.size w wr) := ⟨keepq_bel HB.out HK.out (by have := G6.out; have := HBX.out; omega)⟩
        have HG98 : Aside0 (gb9 ≠ g8 ∧ ∀ k, v6.ownBlock = some k → k ≠ g8) := ⟨by have := LT9.out; have := HBX.out; have := HBX7.out; have := G8.out; omega, fun k e => by have := hov k e; have := HBX7.out; have := G8.out; omega⟩
        have GW8 : Aside0 (w.heap.size ≤ g8) := ⟨by have := G6.out; have := HBX.out; have := HBX7.out; have := G8.out; omega⟩
        clear hl8 hov HL HQ HB HP HCU HK HI HA8 HBX HBX7 HCU0
        go_wp2_with (first
      | (go_at_call 23; (with_reducible refine (lens_Text g8 g8 (some Q) 20 (by decide) (by decide) wr HLE.out).mono ?_); rintro e w81 ⟨rfl, hd⟩; (try rw [HTX.out]); have n_ := Aside0.mk (HQX.out.keep hd.2 HG98.out.1 (fun e => HG98.out.2 g8 e.symm rfl) (by simp) (fun _ _ => by simp)); clear HQX; have HQX := n_; clear n_; have n_ := Aside0.mk (hd.law HBE.out GW8.out); clear HBE; have HBE := n_; clear n_; clear hd)
      | (go_at_call 19; (with_reducible refine (quill_Done gb9 v6 Q w81 (by have := HLN.out; omega) HQX.out).mono ?_); rintro e w85 ⟨v85, rfl, h1, h2, h3⟩; obtain ⟨A9, c9, e9, hc9, _⟩ := h1.slice; generalize hn9 : Q.length = n9 at e9; subst e9; have HN9 := Aside0.mk hn9; have HP9 := Aside0.mk h1; have n_ := Aside0.mk (below_step HBE.out h3); clear HBE; have HBE := n_; clear n_; clear h1 h2 h3 hn9 hc9 HQX)
      | (go_at_call 25; (with_reducible refine (arrearsref08_Text.calls k s R w85 HR.out).mono ?_); rintro e w87 ⟨v87, rfl, ho, hb⟩; obtain ⟨AR, cR, eR, hcR, _⟩ := (Bys.ofR ho).slice; generalize hnR : R.length = nR at eR; subst eR; have HNR := Aside0.mk hnR; have HPR := Aside0.mk (Bys.ofR ho); have n_ := Aside0.mk (HP9.out.below hb); clear HP9; have HP9 := n_; clear n_; have n_ := Aside0.mk (below_step HBE.out hb); clear HBE; have HBE := n_; clear n_; clear ho hb hnR hcR)
      | (go_at_call 24; (with_reducible refine calls_of_args (args' := #[.slice A9 Q.length c9, .slice AR R.length cR]) (by rw [HN9.out, HNR.out]) ((arrearsref01_Same.calls k A9 c9 Q AR cR R true w87 (by have h_ := HP9.out; rw [← HN9.out] at h_; exact h_.rd.1) (by have h_ := HP9.out; rw [← HN9.out] at h_; exact h_.rd.2) (by have h_ := HPR.out; rw [← HNR.out] at h_; exact h_.rd.1) (by have h_ := HPR.out; rw [← HNR.out] at h_; exact h_.rd.2) HSM.out).mono ?_)); rintro e w88 ⟨rfl, hdr⟩; have n_ := Aside0.mk (below_step HBE.out hdr.below); clear HBE; have HBE := n_; clear n_; clear hdr))
        go_ret
        exact ⟨rfl, HBE.out⟩
  · cases h
end


end Go.Proofs.YtdojgjbiilnjpaaDoor.PQuillNil
