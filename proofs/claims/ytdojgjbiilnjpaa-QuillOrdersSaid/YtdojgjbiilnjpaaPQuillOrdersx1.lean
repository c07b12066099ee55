-- Printed by a wrapper of this session's round the kit's print.py; Lean checks it.
import Derived.Test.YtdojgjbiilnjpaaPQuillOrdersx0
namespace Go.Proofs.Ytdojgjbiilnjpaa.PQuillOrders
open Go.RowKit Go.Proofs.YtdojgjbiilnjpaaW.PrintWords Go.Proofs.YtdojgjbiilnjpaaW.PrintLast Go.Proofs.YtdojgjbiilnjpaaW.PrintMore
attribute [local go_sem] max2_int min2_int max_two min_two max_three min_three max_four min_four   -- for this text's walks alone
set_option linter.unusedVariables false
set_option linter.unusedSimpArgs false

/-! ### arrearsref01_Same: function 17 -/
def arrearsref01_Same.l0 : Nat → List Int → List Int → Int → Int → Option (Bool)
  | 0, _, _, _, _ => none
  | k + 1, x0, x1, x12, x13 => if x13 < x12 then (if 0 ≤ x13 then (if x13 < (x0.length : Int) then (if x13 < (x1.length : Int) then (if (rd x0 x13) = (rd x1 x13) then (arrearsref01_Same.l0 k x0 x1 x12 (wrap64 (x13 + 1))) else (some false)) else (none)) else (none)) else (none)) else (some true)
def arrearsref01_Same.f (k : Nat) (l0 : List Int) (l1 : List Int) : Option (Bool) := if (l0.length : Int) = (l1.length : Int) then (arrearsref01_Same.l0 k l0 l1 (l0.length : Int) 0) else (some false)
theorem arrearsref01_Same.mono_l : ∀ k, (∀ y0 y1 y2 y3, LeO (arrearsref01_Same.l0 k y0 y1 y2 y3) (arrearsref01_Same.l0 (k + 1) y0 y1 y2 y3))
  | 0 => fun _ _ _ _ r h => by simp [arrearsref01_Same.l0] at h
  | k + 1 => by
    have ih0 := arrearsref01_Same.mono_l k
    · intro y0 y1 y2 y3
      unfold arrearsref01_Same.l0
      repeat' first
      | (with_reducible exact ih0 _ _ _ _)
      | (with_reducible exact LeO.refl _)
      | (with_reducible exact LeO.none _)
      | (with_reducible refine LeO.ite ?_ ?_)
      | (with_reducible refine LeO.bind ?_ (fun _ => ?_))
      | exact ih0 _ _ _ _
      | exact LeO.none _
      | refine LeO.ite ?_ ?_
      | refine LeO.bind ?_ (fun _ => ?_)
theorem arrearsref01_Same.mono : ∀ a0 a1 k, LeO (arrearsref01_Same.f k a0 a1) (arrearsref01_Same.f (k + 1) a0 a1) := by
  intro a0 a1 k
  have ih0 := arrearsref01_Same.mono_l k
  unfold arrearsref01_Same.f
  repeat' first
      | (with_reducible exact ih0 _ _ _ _)
      | (with_reducible exact LeO.refl _)
      | (with_reducible exact LeO.none _)
      | (with_reducible refine LeO.ite ?_ ?_)
      | (with_reducible refine LeO.bind ?_ (fun _ => ?_))
      | exact ih0 _ _ _ _
      | exact LeO.none _
      | refine LeO.ite ?_ ?_
      | refine LeO.bind ?_ (fun _ => ?_)
set_option maxHeartbeats 8000000 in
set_option maxRecDepth 100000 in
theorem arrearsref01_Same.calls (k : Nat) (A0 : Option Addr) (c0 : Nat) (l0 : List Int) (A1 : Option Addr) (c1 : Nat) (l1 : List Int) (r : Bool) (w : World) (hr0 : Kd.C (Kd.int .u8) w A0 l0.length l0) (hc0 : l0.length ≤ c0) (hr1 : Kd.C (Kd.int .u8) w A1 l1.length l1) (hc1 : l1.length ≤ c1) (h : arrearsref01_Same.f k l0 l1 = some r) :
    Calls Try.prog 17 #[.slice A0 l0.length c0, .slice A1 l1.length c1] w fun e w' => e = .returned (.bool r) ∧ Drawn0 w w' := by
  have HR0 := Aside0.mk hr0
  have HC0 := Aside0.mk hc0
  clear hr0 hc0
  have HR1 := Aside0.mk hr1
  have HC1 := Aside0.mk hc1
  clear hr1 hc1
  have H : (if (l0.length : Int) = (l1.length : Int) then (arrearsref01_Same.l0 k l0 l1 (l0.length : Int) 0) else (some false)) = some r := h
  clear h
  by_cases c3 : (l0.length : Int) = (l1.length : Int)
  · rw [if_pos c3] at H
    have c3b0 : ((l0.length : Int) == (l1.length : Int)) = true := beq_iff_eq.mpr c3
    have c3b1 : ((l0.length : Int) != (l1.length : Int)) = false := bne_eq_false_iff_eq.mpr c3
    have c3b2 : (l0.length == l1.length) = true := by first | simpa using c3 | (simp at c3 ⊢; omega)
    clear c3
    have H' := Aside0.mk H
    clear H
    go_enter Try.func17, Try.ntmps17
    go_wp2
    repeat (go_quiet (fail); try go_wp2)
    go_loopg [13] k (fun kq v13 w' => ∃ (x13_1 : Int), v13 = .int .i64 x13_1 ∧ Aside0 (arrearsref01_Same.l0 kq l0 l1 (l0.length : Int) x13_1 = some r) ∧ Aside0 (kq ≤ k) ∧ Drawn0 w w')
    case atStart => exact ⟨(0), (by first | rfl | (simp; done) | (simp [*]; done)), H', ⟨Nat.le_refl _⟩, by repeat (first | exact Drawn0.refl _ | apply Drawn0.step)⟩
    case round =>
      clear H'
      try clear c1
      try clear p2
      try clear c3
      try clear c3b0
      try clear c3b1
      try clear c3b2
      obtain ⟨x13_1, rfl, HA, HK1, ⟨m1, rfl⟩⟩ := hrel
      cases gk with
      | zero => exact absurd HA.out (by simp [arrearsref01_Same.l0])
      | succ k1 =>
        have H := HA.out
        clear HA
        simp only [arrearsref01_Same.l0] at H
        by_cases c4 : x13_1 < (l0.length : Int)
        · rw [if_pos c4] at H
          have c4b0 : decide (x13_1 < (l0.length : Int)) = true := decide_eq_true c4
          clear c4
          by_cases c5 : 0 ≤ x13_1
          · rw [if_pos c5] at H
            have c5b0 : decide (0 ≤ x13_1) = true := decide_eq_true c5
            clear c5
            by_cases c6 : x13_1 < (l0.length : Int)
            · rw [if_pos c6] at H
              have c6b0 : decide (x13_1 < (l0.length : Int)) = true := decide_eq_true c6
              clear c6
              by_cases c7 : x13_1 < (l1.length : Int)
              · rw [if_pos c7] at H
                have c7b0 : decide (x13_1 < (l1.length : Int)) = true := decide_eq_true c7
                clear c7
                by_cases c8 : (rd l0 x13_1) = (rd l1 x13_1)
                · rw [if_pos c8] at H
                  have c8b0 : ((rd l0 x13_1) == (rd l1 x13_1)) = true := beq_iff_eq.mpr c8
                  have c8b1 : ((rd l0 x13_1) != (rd l1 x13_1)) = false := bne_eq_false_iff_eq.mpr c8
                  clear c8
                  have H' := Aside0.mk H
                  clear H
                  have p101 : 0 ≤ (x13_1 : Int) := of_decide_eq_true (by first | (with_reducible assumption) | assumption)
                  have q101 : x13_1 < (l0.length : Int) := of_decide_eq_true (by first | (with_reducible assumption) | assumption)
                  obtain ⟨ad101, e101, hx101_0⟩ := Kd.at_int HR0.out x13_1 p101 q101
                  cases e101
                  replace p101 := eq_true p101
                  replace q101 := eq_true q101
                  have p102 : 0 ≤ (x13_1 : Int) := of_decide_eq_true (by first | (with_reducible assumption) | assumption)
                  have q102 : x13_1 < (l1.length : Int) := of_decide_eq_true (by first | (with_reducible assumption) | assumption)
                  obtain ⟨ad102, e102, hx102_0⟩ := Kd.at_int HR1.out x13_1 p102 q102
                  cases e102
                  replace p102 := eq_true p102
                  replace q102 := eq_true q102
                  go_wp2
                  repeat (go_quiet (fail); try go_wp2)
                  go_roundg k1
                  case measure => have := HK1.out; omega
                  case rel => exact ⟨(wrap64 (x13_1 + 1)), (by first | rfl | (simp; done) | (simp [*]; done)), H', ⟨by have := HK1.out; omega⟩, by repeat (first | exact Drawn0.refl _ | apply Drawn0.step)⟩
                · rw [if_neg c8] at H
                  have c8b0 : ((rd l0 x13_1) == (rd l1 x13_1)) = false := beq_eq_false_iff_ne.mpr c8
                  have c8b1 : ((rd l0 x13_1) != (rd l1 x13_1)) = true := bne_iff_ne.mpr c8
                  obtain rfl := Option.some.inj H
                  have p101 : 0 ≤ (x13_1 : Int) := of_decide_eq_true (by first | (with_reducible assumption) | assumption)
                  have q101 : x13_1 < (l0.length : Int) := of_decide_eq_true (by first | (with_reducible assumption) | assumption)
                  obtain ⟨ad101, e101, hx101_0⟩ := Kd.at_int HR0.out x13_1 p101 q101
                  cases e101
                  replace p101 := eq_true p101
                  replace q101 := eq_true q101
                  have p102 : 0 ≤ (x13_1 : Int) := of_decide_eq_true (by first | (with_reducible assumption) | assumption)
                  have q102 : x13_1 < (l1.length : Int) := of_decide_eq_true (by first | (with_reducible assumption) | assumption)
                  obtain ⟨ad102, e102, hx102_0⟩ := Kd.at_int HR1.out x13_1 p102 q102
                  cases e102
                  replace p102 := eq_true p102
                  replace q102 := eq_true q102
                  go_wp2
                  repeat (go_quiet (fail); try go_wp2)
                  go_ret
                  exact ⟨by first | rfl | (simp; done) | (simp [*]; done), by repeat (first | exact Drawn0.refl _ | apply Drawn0.step)⟩
              · rw [if_neg c7] at H
                exact absurd H (by simp)
            · first | exact absurd c4 c6 | exact absurd (beq_iff_eq.mp c4b0) c6 | exact absurd (of_decide_eq_true (by assumption)) c6 | exact absurd (by assumption) c6
          · rw [if_neg c5] at H
            exact absurd H (by simp)
        · rw [if_neg c4] at H
          have c4b0 : decide (x13_1 < (l0.length : Int)) = false := decide_eq_false c4
          clear c4
          obtain rfl := Option.some.inj H
          go_wp2
          repeat (go_quiet (fail); try go_wp2)
          go_ret
          exact ⟨by first | rfl | (simp; done) | (simp [*]; done), by repeat (first | exact Drawn0.refl _ | apply Drawn0.step)⟩
  · rw [if_neg c3] at H
    have c3b0 : ((l0.length : Int) == (l1.length : Int)) = false := beq_eq_false_iff_ne.mpr c3
    have c3b1 : ((l0.length : Int) != (l1.length : Int)) = true := bne_iff_ne.mpr c3
    have c3b2 : (l0.length == l1.length) = false := by first | simpa using c3 | (simp at c3 ⊢; omega)
    obtain rfl := Option.some.inj H
    go_enter Try.func17, Try.ntmps17
    go_wp2
    repeat (go_quiet (fail); try go_wp2)
    go_ret
    exact ⟨by first | rfl | (simp; done) | (simp [*]; done), by repeat (first | exact Drawn0.refl _ | apply Drawn0.step)⟩

/-! ### arrearslaw08_awake: function 7 -/
section
open Go.Proofs.Ytdojgjbiilnjpaa.M
def arrearslaw08_awake.f : Option Bool := some true
theorem awk_q : ([] : List Int) ++ nlay (Int.toNat 300) 0 = [2, 1, 44] := by decide
theorem awk_i : ([2, 1, 44] : List Int) ++ qint (-1) = [2, 1, 44, 128] := by decide
theorem awk_s (P : List Int) (h : P = [2, 1, 44, 128]) : arrearsref01_Same.f 6 P [2, 1, 44, 128] = some true := by subst h; decide +kernel
theorem awk_u : luint (some [2, 1, 44, 128]) 300 = (300, some [128]) := by decide
set_option maxHeartbeats 4000000 in
set_option maxRecDepth 100000 in
theorem arrearslaw08_awake.calls (r : Bool) (w : World) (h : arrearslaw08_awake.f = some r) :
    Calls Try.prog 7 #[] w fun e w' => e = .returned (.bool r) ∧ Below w.heap.size w w' := by
  obtain rfl := Option.some.inj h
  clear h
  go_enter Try.func7, Try.ntmps7
  go_wp2_with (first
    | ((with_reducible refine gate_dst (N := 1) rfl ?_); refine box_event ?hg (N := 1) ?hd (cs := #[.slice none 0 0]) (t := 26) ?hr ?_; (case hd => rfl); (case hg => rfl); (case hr => first | (go_simp; done) | (go_simp; rfl)); intro gb1 hg1 w1 hbox hb; have HQ0 := Aside0.mk (Qu.new (w := w) hbox); have B1 := Aside0.mk hb; have GE1 := Aside0.mk (Nat.le_of_eq hg1.symm : w.heap.size ≤ gb1); clear hbox hb hg1)
    | (go_at_call 8; refine (quill_Uint 300 (by omega) (by omega) gb1 _ [] w1 (by simp) HQ0.out).mono ?_; rintro e w2 ⟨rfl, hd⟩; rw [awk_q] at hd; obtain ⟨v2, hq, hv, hbb, _, _⟩ := QDone.law hd B1.out GE1.out (nil_own _); have HQ2 := Aside0.mk hq; have HV2 := Aside0.mk hv; have B2 := Aside0.mk hbb; clear hd hq hv hbb)
    | (go_at_call 10; refine (quill_Int (-1) (by omega) (by omega) gb1 v2 _ w2 (by simp) HQ2.out).mono ?_; rintro e w3 ⟨rfl, hd⟩; rw [awk_i] at hd; obtain ⟨v3, hq, hv, hbb, _, _⟩ := QDone.law hd B2.out GE1.out HV2.out; have HQ3 := Aside0.mk hq; have HV3 := Aside0.mk hv; have B3 := Aside0.mk hbb; clear hd hq hv hbb)
    | (go_at_call 9; refine (quill_Done gb1 v3 _ w3 (by simp) HQ3.out).mono ?_; rintro e w4 ⟨v4, rfl, h1, h2, h3⟩; generalize hP : ([2, 1, 44, 128] : List Int) = P at h1; obtain ⟨A4, c4, ev4, _, _⟩ := h1.slice; subst ev4; have HP := Aside0.mk hP; have HY := Aside0.mk h1; have B4 := Aside0.mk (below_step B3.out h3); clear h1 h2 h3 hP)
    | (go_at_call 17; refine calls_of_args (args' := #[.slice A4 P.length c4, .slice (some ⟨w4.heap.size, 0, none⟩) [2, 1, 44, 128].length 4]) rfl ((arrearsref01_Same.calls 6 A4 c4 P _ 4 [2, 1, 44, 128] true _ (Kd.C_alloc HY.out.rd.1 _) HY.out.rd.2 (Bys.rd (c := 4) (l := [2, 1, 44, 128]) (own_lit w4 0 _ .u8 [2, 1, 44, 128] (Nat.zero_le _) (by simp))).1 (by simp) (awk_s P HP.out.symm)).mono ?_); rintro e w5 ⟨rfl, hdr⟩; have B5 := Aside0.mk (below_step (below_alloc B4.out (.cells #[.int .u8 2, .int .u8 1, .int .u8 44, .int .u8 128] 5)) hdr.below); have HY5 := Aside0.mk ((HY.out.below (below_alloc (Below.refl _ _) (.cells #[.int .u8 2, .int .u8 1, .int .u8 44, .int .u8 128] 5))).below hdr.below); clear hdr)
    | (go_at_call 11; refine (quill_Look _ P w5 HY5.out (by rw [← HP.out]; simp) (by rw [← HP.out]; decide)).mono ?_; rintro e w6 ⟨g6, rfl, h1, h2, h3⟩; have HL6 := Aside0.mk h2; have G6 := Aside0.mk h1; have B6 := Aside0.mk (below_step B5.out h3); clear h1 h2 h3)
    | (go_at_call 13; refine (lens_Uint g6 g6 _ 300 (by omega) w6 HL6.out).mono ?_; rintro e w7 ⟨rfl, hd⟩; rw [← HP.out]; have B7 := Aside0.mk (LDone.law hd B6.out (Nat.le_trans B5.out.size G6.out)); clear hd))
  go_ret
  exact ⟨by rw [awk_u]; rfl, B7.out⟩
end


/-! ### arrearslaw08_QuillOrders: function 3 -/
section
open Go.Proofs.Ytdojgjbiilnjpaa.M
/-- What the law says, of the two numbers' texts and of the third's bytes. -/
def ordOk (a0 a1 a2 : Int) (LX LY LZ : List Int) : Prop :=
  Op.bytesLess (strOfNums LX).toList (strOfNums LY).toList = decide (a0 < a1) ∧ (a0 < a1 → (strOfNums LX).size ≤ (strOfNums LY).size) ∧ (lint (some LZ)).1 = a2 ∧ LZ.length ≤ 9 ∧ (a0 ≠ 0 → (luint (some LX) (a0 - 1)).1 = 0) ∧ (luint (some LX) a0).1 = a0
instance (a0 a1 a2 : Int) (LX LY LZ : List Int) : Decidable (ordOk a0 a1 a2 LX LY LZ) := by unfold ordOk; infer_instance
def arrearslaw08_QuillOrders.f (a0 : Int) (a1 : Int) (a2 : Int) : Option Bool :=
  if (0 ≤ a0 ∧ a0 ≤ 18446744073709551615) ∧ (0 ≤ a1 ∧ a1 ≤ 18446744073709551615) ∧ (-9223372036854775808 ≤ a2 ∧ a2 ≤ 9223372036854775807) ∧ (nlay a0.toNat 0).length ≤ 100 ∧ (nlay a1.toNat 0).length ≤ 100 ∧ (qint a2).length ≤ 100 ∧ (nlay a0.toNat 0).all (fun x => decide (0 ≤ x ∧ x ≤ 255)) = true ∧ (qint a2).all (fun x => decide (0 ≤ x ∧ x ≤ 255)) = true ∧ ordOk a0 a1 a2 (nlay a0.toNat 0) (nlay a1.toNat 0) (qint a2) then some true else none
set_option maxHeartbeats 8000000 in
set_option maxRecDepth 100000 in
theorem arrearslaw08_QuillOrders.calls (a0 : Int) (a1 : Int) (a2 : Int) (r : Bool) (w : World) (h : arrearslaw08_QuillOrders.f a0 a1 a2 = some r) (hr : r = true) :
    Calls Try.prog 3 #[.int .u64 a0, .int .u64 a1, .int .i64 a2] w fun e w' => e = .returned (.bool r) ∧ Below w.heap.size w w' := by
  subst hr
  unfold arrearslaw08_QuillOrders.f at h
  split at h
  · rename_i hg
    obtain ⟨ha, hb, hi, l1, l2, l3, l4, l5, hok⟩ := hg
    obtain ⟨LX, hLX⟩ : ∃ L, nlay a0.toNat 0 = L := ⟨_, rfl⟩
    obtain ⟨LY, hLY⟩ : ∃ L, nlay a1.toNat 0 = L := ⟨_, rfl⟩
    obtain ⟨LZ, hLZ⟩ : ∃ L, qint a2 = L := ⟨_, rfl⟩
    rw [hLX] at l1 l4 hok
    rw [hLY] at l2 hok
    rw [hLZ] at l3 l5 hok
    obtain ⟨o1, o2, o3, o4, o5, o6⟩ := hok
    obtain ⟨X, hX⟩ : ∃ X, X = strOfNums LX := ⟨_, rfl⟩
    obtain ⟨Y, hY⟩ : ∃ X, X = strOfNums LY := ⟨_, rfl⟩
    rw [← hX, ← hY] at o1
    rw [← hX, ← hY] at o2
    have O1 := Aside0.mk o1
    have O2 := Aside0.mk o2
    have O3 := Aside0.mk o3
    have O4 := Aside0.mk o4
    have O5 := Aside0.mk o5
    have O6 := Aside0.mk o6
    have hxs : bytesOf X = LX := by rw [hX]; exact bytesOf_str8 l4
    have HXS := Aside0.mk hxs
    have hxz : X.size ≤ 1000000 := by rw [← bytesOf_length, hxs]; omega
    have HXZ := Aside0.mk hxz
    clear hxs hxz o1 o2 o3 o4 o5 o6
    have HA := Aside0.mk ha
    have HBB := Aside0.mk hb
    have HI := Aside0.mk hi
    have HLX := Aside0.mk hLX
    have HLY := Aside0.mk hLY
    have HLZ := Aside0.mk hLZ
    have HX := Aside0.mk hX
    have HY := Aside0.mk hY
    have L1 := Aside0.mk l1
    have L2 := Aside0.mk l2
    have L3 := Aside0.mk l3
    have L4 := Aside0.mk l4
    have L5 := Aside0.mk l5
    clear ha hb hi hLX hLY hLZ hX hY l1 l2 l3 l4 l5 h
    go_enter Try.func3, Try.ntmps3
    go_upto_region 4 with (first
      | (go_at_call 7; refine (arrearslaw08_awake.calls true w rfl).mono ?_; rintro e w1 ⟨rfl, hb⟩; have HB := Aside0.mk hb; clear hb)
      | ((with_reducible refine gate_dst (N := 7) rfl ?_); refine box_event ?hg (N := 7) ?hd (cs := #[.slice none 0 0]) (t := 26) ?hr ?_; (case hd => rfl); (case hg => rfl); (case hr => first | (go_simp; done) | (go_simp; rfl)); intro gb7 hg w7 hbox hb; have HQ7 := Aside0.mk (Qu.new (w := w) hbox); have GE7 := Aside0.mk (show w.heap.size ≤ gb7 by have := HB.out.size; omega); have n_ := Aside0.mk (below_step HB.out hb); clear HB; have HB := n_; clear n_; clear hbox hb hg)
      | ((with_reducible refine gate_dst (N := 8) rfl ?_); refine box_event ?hg (N := 8) ?hd (cs := #[.slice none 0 0]) (t := 26) ?hr ?_; (case hd => rfl); (case hg => rfl); (case hr => first | (go_simp; done) | (go_simp; rfl)); intro gb8 hg w8 hbox hb; have LT8 := Aside0.mk (show gb7 < gb8 by have := blk_lt HQ7.out.blk; omega); have n_ := Aside0.mk (HQ7.out.below hb); clear HQ7; have HQ7 := n_; clear n_; have HQ8 := Aside0.mk (Qu.new (w := w) hbox); have GE8 := Aside0.mk (show w.heap.size ≤ gb8 by have := HB.out.size; omega); have n_ := Aside0.mk (below_step HB.out hb); clear HB; have HB := n_; clear n_; clear hbox hb hg)
      | ((with_reducible refine gate_dst (N := 9) rfl ?_); refine box_event ?hg (N := 9) ?hd (cs := #[.slice none 0 0]) (t := 26) ?hr ?_; (case hd => rfl); (case hg => rfl); (case hr => first | (go_simp; done) | (go_simp; rfl)); intro gb9 hg w9 hbox hb; have LT9 := Aside0.mk (show gb8 < gb9 by have := blk_lt HQ8.out.blk; omega); have n_ := Aside0.mk (HQ7.out.below hb); clear HQ7; have HQ7 := n_; clear n_; have n_ := Aside0.mk (HQ8.out.below hb); clear HQ8; have HQ8 := n_; clear n_; have HQ9 := Aside0.mk (Qu.new (w := w) hbox); have GE9 := Aside0.mk (show w.heap.size ≤ gb9 by have := HB.out.size; omega); have n_ := Aside0.mk (below_step HB.out hb); clear HB; have HB := n_; clear n_; clear hbox hb hg))
    refine ord_r4 _ ?o4 _ w _ gb7 gb8 gb9 a0 a1 a2 LX LY LZ X Y ?q4 HA.out HBB.out HI.out HQ7 HQ8 HQ9 HB GE7.out GE8.out GE9.out ?n1 ?n2 ?n3 HLX HLY HLZ L1 L2 L3 HX HY ?H4
    case o4 => rfl
    case q4 => exact fun _ _ d _ _ h => by cases d <;> exact h
    case n1 => have := LT8.out; omega
    case n2 => have := LT8.out; have := LT9.out; omega
    case n3 => have := LT9.out; omega
    case H4 =>
      intros
      rename_i v25 w4 hz hb4
      obtain ⟨A25, c25, e25, _, _⟩ := hz.slice
      generalize hn25 : LZ.length = n25 at e25
      subst e25
      have HN25 := Aside0.mk hn25
      have HZ := Aside0.mk hz
      have HB4 := Aside0.mk hb4
      have hn9 : (n25 : Int) ≤ 9 := by have := O4.out; omega
      have hkb : ∀ W : World, (convert 9 24 (.string X)).run Try.prog W = .ok (.slice (some ⟨W.heap.size, 0, none⟩) X.size (grownCap W X.size 0 5)) (Lib.bytesWorld W 5 X) := fun W => print_bytes 9 24 5 Try.underlying9 Try.underlying24 Try.underlying5 X W
      clear hz hb4 HB HQ7 HQ8 HQ9 hn25
      by_cases c1 : a0 < a1
      · have hl1 : Op.bytesLess X.toList Y.toList = true := by rw [O1.out]; exact decide_eq_true c1
        have hsz : X.size ≤ Y.size := O2.out c1
        by_cases c0 : a0 = 0
        · skip
          have ha0 : a0 = 0 := c0
          have H0 := Aside0.mk ha0
          have hz0 : (a0 == 0) = true := by rw [ha0]; rfl
          clear c0 ha0
          go_wp2_with (first
            | (go_at_call 11; (with_reducible change Calls _ _ #[Value.slice A25 _ _] _ _); refine (quill_Look _ LZ w4 HZ.out (by have := L3.out; omega) (all_rng L5.out)).mono ?_; rintro e w47 ⟨g47, rfl, h1, h2, h3⟩; have HL47 := Aside0.mk h2; have G47 := Aside0.mk h1; have HB47 := Aside0.mk (below_step HB4.out h3); clear h1 h2 h3)
            | (go_at_call 12; refine (lens_Int g47 g47 _ w47 HL47.out).mono ?_; rintro e w48 ⟨rfl, hd⟩; (try rw [O3.out]); have HB48 := Aside0.mk (LDone.law hd HB47.out (Nat.le_trans HB4.out.size G47.out)); clear hd)
            | (go_at_call 11; (with_reducible change Calls _ _ _ (Lib.bytesWorld w48 _ _) _); refine (quill_LookR _ _ _ LX _ (by rw [← HXS.out]; exact bytes_reads w48 5 X (by have := HXZ.out; omega)) (by have := L1.out; omega) (all_rng L4.out)).mono ?_; rintro e w73 ⟨g73, rfl, h1, h2, h3⟩; have HL73 := Aside0.mk h2; have G73 := Aside0.mk h1; have HB73 := Aside0.mk (below_step (bytes_below HB48.out HB48.out.size 5 X) h3); have GG73 := Aside0.mk (show w.heap.size ≤ g73 by have := (bytes_below HB48.out HB48.out.size 5 X).size; omega); clear h1 h2 h3)
            | (go_at_call 13; (with_reducible change Calls _ _ #[Value.pointer (some ⟨g73, _, _⟩), _] _ _); refine (lens_Uint g73 g73 _ a0 (by exact HA.out.1) w73 HL73.out).mono ?_; rintro e w75 ⟨rfl, hd⟩; (try rw [O6.out]); have HB75 := Aside0.mk (LDone.law hd HB73.out GG73.out); clear hd))
          go_ret
          exact ⟨by first | rfl | simp, HB75.out⟩
        · skip
          have hz0 : (a0 == 0) = false := by simpa using c0
          have H0 := Aside0.mk c0
          have ha1 : IntKind.u64.wrap (a0 - 1) = a0 - 1 := by have := HA.out; rw [IntKind.wrap_u64]; omega
          clear c0
          go_wp2_with (first
            | (go_at_call 11; (with_reducible change Calls _ _ #[Value.slice A25 _ _] _ _); refine (quill_Look _ LZ w4 HZ.out (by have := L3.out; omega) (all_rng L5.out)).mono ?_; rintro e w47 ⟨g47, rfl, h1, h2, h3⟩; have HL47 := Aside0.mk h2; have G47 := Aside0.mk h1; have HB47 := Aside0.mk (below_step HB4.out h3); clear h1 h2 h3)
            | (go_at_call 12; refine (lens_Int g47 g47 _ w47 HL47.out).mono ?_; rintro e w48 ⟨rfl, hd⟩; (try rw [O3.out]); have HB48 := Aside0.mk (LDone.law hd HB47.out (Nat.le_trans HB4.out.size G47.out)); clear hd)
            | (go_at_call 11; (with_reducible change Calls _ _ _ (Lib.bytesWorld w48 _ _) _); refine (quill_LookR _ _ _ LX _ (by rw [← HXS.out]; exact bytes_reads w48 5 X (by have := HXZ.out; omega)) (by have := L1.out; omega) (all_rng L4.out)).mono ?_; rintro e w63 ⟨g63, rfl, h1, h2, h3⟩; have HL63 := Aside0.mk h2; have G63 := Aside0.mk h1; have HB63 := Aside0.mk (below_step (bytes_below HB48.out HB48.out.size 5 X) h3); have GG63 := Aside0.mk (show w.heap.size ≤ g63 by have := (bytes_below HB48.out HB48.out.size 5 X).size; omega); clear h1 h2 h3)
            | (go_at_call 13; (with_reducible change Calls _ _ #[Value.pointer (some ⟨g63, _, _⟩), _] _ _); refine (lens_Uint g63 g63 _ (a0 - 1) (by have := HA.out; have := H0.out; omega) w63 HL63.out).mono ?_; rintro e w66 ⟨rfl, hd⟩; (try rw [O5.out H0.out]); have HB66 := Aside0.mk (LDone.law hd HB63.out GG63.out); clear hd)
            | (go_at_call 11; (with_reducible change Calls _ _ _ (Lib.bytesWorld w66 _ _) _); refine (quill_LookR _ _ _ LX _ (by rw [← HXS.out]; exact bytes_reads w66 5 X (by have := HXZ.out; omega)) (by have := L1.out; omega) (all_rng L4.out)).mono ?_; rintro e w73 ⟨g73, rfl, h1, h2, h3⟩; have HL73 := Aside0.mk h2; have G73 := Aside0.mk h1; have HB73 := Aside0.mk (below_step (bytes_below HB66.out HB66.out.size 5 X) h3); have GG73 := Aside0.mk (show w.heap.size ≤ g73 by have := (bytes_below HB66.out HB66.out.size 5 X).size; omega); clear h1 h2 h3)
            | (go_at_call 13; (with_reducible change Calls _ _ #[Value.pointer (some ⟨g73, _, _⟩), _] _ _); refine (lens_Uint g73 g73 _ a0 (by exact HA.out.1) w73 HL73.out).mono ?_; rintro e w75 ⟨rfl, hd⟩; (try rw [O6.out]); have HB75 := Aside0.mk (LDone.law hd HB73.out GG73.out); clear hd))
          go_ret
          exact ⟨by first | rfl | simp, HB75.out⟩
      · have hl1 : Op.bytesLess X.toList Y.toList = false := by rw [O1.out]; exact decide_eq_false c1
        by_cases c0 : a0 = 0
        · skip
          have ha0 : a0 = 0 := c0
          have H0 := Aside0.mk ha0
          have hz0 : (a0 == 0) = true := by rw [ha0]; rfl
          clear c0 ha0
          go_wp2_with (first
            | (go_at_call 11; (with_reducible change Calls _ _ #[Value.slice A25 _ _] _ _); refine (quill_Look _ LZ w4 HZ.out (by have := L3.out; omega) (all_rng L5.out)).mono ?_; rintro e w47 ⟨g47, rfl, h1, h2, h3⟩; have HL47 := Aside0.mk h2; have G47 := Aside0.mk h1; have HB47 := Aside0.mk (below_step HB4.out h3); clear h1 h2 h3)
            | (go_at_call 12; refine (lens_Int g47 g47 _ w47 HL47.out).mono ?_; rintro e w48 ⟨rfl, hd⟩; (try rw [O3.out]); have HB48 := Aside0.mk (LDone.law hd HB47.out (Nat.le_trans HB4.out.size G47.out)); clear hd)
            | (go_at_call 11; (with_reducible change Calls _ _ _ (Lib.bytesWorld w48 _ _) _); refine (quill_LookR _ _ _ LX _ (by rw [← HXS.out]; exact bytes_reads w48 5 X (by have := HXZ.out; omega)) (by have := L1.out; omega) (all_rng L4.out)).mono ?_; rintro e w73 ⟨g73, rfl, h1, h2, h3⟩; have HL73 := Aside0.mk h2; have G73 := Aside0.mk h1; have HB73 := Aside0.mk (below_step (bytes_below HB48.out HB48.out.size 5 X) h3); have GG73 := Aside0.mk (show w.heap.size ≤ g73 by have := (bytes_below HB48.out HB48.out.size 5 X).size; omega); clear h1 h2 h3)
            | (go_at_call 13; (with_reducible change Calls _ _ #[Value.pointer (some ⟨g73, _, _⟩), _] _ _); refine (lens_Uint g73 g73 _ a0 (by exact HA.out.1) w73 HL73.out).mono ?_; rintro e w75 ⟨rfl, hd⟩; (try rw [O6.out]); have HB75 := Aside0.mk (LDone.law hd HB73.out GG73.out); clear hd))
          go_ret
          exact ⟨by first | rfl | simp, HB75.out⟩
        · skip
          have hz0 : (a0 == 0) = false := by simpa using c0
          have H0 := Aside0.mk c0
          have ha1 : IntKind.u64.wrap (a0 - 1) = a0 - 1 := by have := HA.out; rw [IntKind.wrap_u64]; omega
          clear c0
          go_wp2_with (first
            | (go_at_call 11; (with_reducible change Calls _ _ #[Value.slice A25 _ _] _ _); refine (quill_Look _ LZ w4 HZ.out (by have := L3.out; omega) (all_rng L5.out)).mono ?_; rintro e w47 ⟨g47, rfl, h1, h2, h3⟩; have HL47 := Aside0.mk h2; have G47 := Aside0.mk h1; have HB47 := Aside0.mk (below_step HB4.out h3); clear h1 h2 h3)
            | (go_at_call 12; refine (lens_Int g47 g47 _ w47 HL47.out).mono ?_; rintro e w48 ⟨rfl, hd⟩; (try rw [O3.out]); have HB48 := Aside0.mk (LDone.law hd HB47.out (Nat.le_trans HB4.out.size G47.out)); clear hd)
            | (go_at_call 11; (with_reducible change Calls _ _ _ (Lib.bytesWorld w48 _ _) _); refine (quill_LookR _ _ _ LX _ (by rw [← HXS.out]; exact bytes_reads w48 5 X (by have := HXZ.out; omega)) (by have := L1.out; omega) (all_rng L4.out)).mono ?_; rintro e w63 ⟨g63, rfl, h1, h2, h3⟩; have HL63 := Aside0.mk h2; have G63 := Aside0.mk h1; have HB63 := Aside0.mk (below_step (bytes_below HB48.out HB48.out.size 5 X) h3); have GG63 := Aside0.mk (show w.heap.size ≤ g63 by have := (bytes_below HB48.out HB48.out.size 5 X).size; omega); clear h1 h2 h3)
            | (go_at_call 13; (with_reducible change Calls _ _ #[Value.pointer (some ⟨g63, _, _⟩), _] _ _); refine (lens_Uint g63 g63 _ (a0 - 1) (by have := HA.out; have := H0.out; omega) w63 HL63.out).mono ?_; rintro e w66 ⟨rfl, hd⟩; (try rw [O5.out H0.out]); have HB66 := Aside0.mk (LDone.law hd HB63.out GG63.out); clear hd)
            | (go_at_call 11; (with_reducible change Calls _ _ _ (Lib.bytesWorld w66 _ _) _); refine (quill_LookR _ _ _ LX _ (by rw [← HXS.out]; exact bytes_reads w66 5 X (by have := HXZ.out; omega)) (by have := L1.out; omega) (all_rng L4.out)).mono ?_; rintro e w73 ⟨g73, rfl, h1, h2, h3⟩; have HL73 := Aside0.mk h2; have G73 := Aside0.mk h1; have HB73 := Aside0.mk (below_step (bytes_below HB66.out HB66.out.size 5 X) h3); have GG73 := Aside0.mk (show w.heap.size ≤ g73 by have := (bytes_below HB66.out HB66.out.size 5 X).size; omega); clear h1 h2 h3)
            | (go_at_call 13; (with_reducible change Calls _ _ #[Value.pointer (some ⟨g73, _, _⟩), _] _ _); refine (lens_Uint g73 g73 _ a0 (by exact HA.out.1) w73 HL73.out).mono ?_; rintro e w75 ⟨rfl, hd⟩; (try rw [O6.out]); have HB75 := Aside0.mk (LDone.law hd HB73.out GG73.out); clear hd))
          go_ret
          exact ⟨by first | rfl | simp, HB75.out⟩
  · cases h
end


end Go.Proofs.Ytdojgjbiilnjpaa.PQuillOrders
