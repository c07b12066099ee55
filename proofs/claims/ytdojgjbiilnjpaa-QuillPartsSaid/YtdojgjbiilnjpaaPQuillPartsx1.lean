-- Printed by a wrapper of this session's round the kit's print.py; Lean checks it.
import Derived.Test.YtdojgjbiilnjpaaPQuillPartsx0
namespace Go.Proofs.Ytdojgjbiilnjpaa.PQuillParts
open Go.RowKit Go.Proofs.YtdojgjbiilnjpaaW.PrintWords Go.Proofs.YtdojgjbiilnjpaaW.PrintLast Go.Proofs.YtdojgjbiilnjpaaW.PrintMore
attribute [local go_sem] max2_int min2_int max_two min_two max_three min_three max_four min_four   -- for this text's walks alone
set_option linter.unusedVariables false
set_option linter.unusedSimpArgs false

/-! ### arrearsref01_Same: function 17 -/
def arrearsref01_Same.l0 : Nat → List Int → List Int → Int → Int → Option (Bool)
  | 0, _, _, _, _ => none
  | k + 1, x0, x1, x12, x13 => if x13 < x12 then (if 0 ≤ x13 then (if x13 < (x0.length : Int) then (if x13 < (x1.length : Int) then (if (rd x0 x13) = (rd x1 x13) then (arrearsref01_Same.l0 k x0 x1 x12 (wrap64 (x13 + 1))) else (some false)) else (none)) else (none)) else (none)) else (some true)
def arrearsref01_Same.f (k : Nat) (l0 : List Int) (l1 : List Int) : Option (Bool) := if (l0.length : Int) = (l1.length : Int) then (arrearsref01_Same.l0 k l0 l1 (l0.length : Int) 0) else (some false)
theorem arrearsref01_Same.mono_l : ∀ k, (∀ y0 y1 y2 y3, LeO (arrearsref01_Same.l0 k y0 y1 y2 y3) (arrearsref01_Same.l0 (k + 1) y0 y1 y2 y3))
  | 0 => fun _ _ _ _ r h => by simp [arrearsref01_Same.l0] at h
  | k + 1 => by
    have ih0 := arrearsref01_Same.mono_l k
    · intro y0 y1 y2 y3
      unfold arrearsref01_Same.l0
      repeat' first
      | (with_reducible exact ih0 _ _ _ _)
      | (with_reducible exact LeO.refl _)
      | (with_reducible exact LeO.none _)
      | (with_reducible refine LeO.ite ?_ ?_)
      | (with_reducible refine LeO.bind ?_ (fun _ => ?_))
      | exact ih0 _ _ _ _
      | exact LeO.none _
      | refine LeO.ite ?_ ?_
      | refine LeO.bind ?_ (fun _ => ?_)
theorem arrearsref01_Same.mono : ∀ a0 a1 k, LeO (arrearsref01_Same.f k a0 a1) (arrearsref01_Same.f (k + 1) a0 a1) := by
  intro a0 a1 k
  have ih0 := arrearsref01_Same.mono_l k
  unfold arrearsref01_Same.f
  repeat' first
      | (with_reducible exact ih0 _ _ _ _)
      | (with_reducible exact LeO.refl _)
      | (with_reducible exact LeO.none _)
      | (with_reducible refine LeO.ite ?_ ?_)
      | (with_reducible refine LeO.bind ?_ (fun _ => ?_))
      | exact ih0 _ _ _ _
      | exact LeO.none _
      | refine LeO.ite ?_ ?_
      | refine LeO.bind ?_ (fun _ => ?_)
set_option maxHeartbeats 8000000 in
set_option maxRecDepth 100000 in
theorem arrearsref01_Same.calls (k : Nat) (A0 : Option Addr) (c0 : Nat) (l0 : List Int) (A1 : Option Addr) (c1 : Nat) (l1 : List Int) (r : Bool) (w : World) (hr0 : Kd.C (Kd.int .u8) w A0 l0.length l0) (hc0 : l0.length ≤ c0) (hr1 : Kd.C (Kd.int .u8) w A1 l1.length l1) (hc1 : l1.length ≤ c1) (h : arrearsref01_Same.f k l0 l1 = some r) :
    Calls Try.prog 17 #[.slice A0 l0.length c0, .slice A1 l1.length c1] w fun e w' => e = .returned (.bool r) ∧ Drawn0 w w' := by
  have HR0 := Aside0.mk hr0
  have HC0 := Aside0.mk hc0
  clear hr0 hc0
  have HR1 := Aside0.mk hr1
  have HC1 := Aside0.mk hc1
  clear hr1 hc1
  have H : (if (l0.length : Int) = (l1.length : Int) then (arrearsref01_Same.l0 k l0 l1 (l0.length : Int) 0) else (some false)) = some r := h
  clear h
  by_cases c3 : (l0.length : Int) = (l1.length : Int)
  · rw [if_pos c3] at H
    have c3b0 : ((l0.length : Int) == (l1.length : Int)) = true := beq_iff_eq.mpr c3
    have c3b1 : ((l0.length : Int) != (l1.length : Int)) = false := bne_eq_false_iff_eq.mpr c3
    have c3b2 : (l0.length == l1.length) = true := by first | simpa using c3 | (simp at c3 ⊢; omega)
    clear c3
    have H' := Aside0.mk H
    clear H
    go_enter Try.func17, Try.ntmps17
    go_wp2
    repeat (go_quiet (fail); try go_wp2)
    go_loopg [13] k (fun kq v13 w' => ∃ (x13_1 : Int), v13 = .int .i64 x13_1 ∧ Aside0 (arrearsref01_Same.l0 kq l0 l1 (l0.length : Int) x13_1 = some r) ∧ Aside0 (kq ≤ k) ∧ Drawn0 w w')
    case atStart => exact ⟨(0), (by first | rfl | (simp; done) | (simp [*]; done)), H', ⟨Nat.le_refl _⟩, by repeat (first | exact Drawn0.refl _ | apply Drawn0.step)⟩
    case round =>
      clear H'
      try clear c1
      try clear p2
      try clear c3
      try clear c3b0
      try clear c3b1
      try clear c3b2
      obtain ⟨x13_1, rfl, HA, HK1, ⟨m1, rfl⟩⟩ := hrel
      cases gk with
      | zero => exact absurd HA.out (by simp [arrearsref01_Same.l0])
      | succ k1 =>
        have H := HA.out
        clear HA
        simp only [arrearsref01_Same.l0] at H
        by_cases c4 : x13_1 < (l0.length : Int)
        · rw [if_pos c4] at H
          have c4b0 : decide (x13_1 < (l0.length : Int)) = true := decide_eq_true c4
          clear c4
          by_cases c5 : 0 ≤ x13_1
          · rw [if_pos c5] at H
            have c5b0 : decide (0 ≤ x13_1) = true := decide_eq_true c5
            clear c5
            by_cases c6 : x13_1 < (l0.length : Int)
            · rw [if_pos c6] at H
              have c6b0 : decide (x13_1 < (l0.length : Int)) = true := decide_eq_true c6
              clear c6
              by_cases c7 : x13_1 < (l1.length : Int)
              · rw [if_pos c7] at H
                have c7b0 : decide (x13_1 < (l1.length : Int)) = true := decide_eq_true c7
                clear c7
                by_cases c8 : (rd l0 x13_1) = (rd l1 x13_1)
                · rw [if_pos c8] at H
                  have c8b0 : ((rd l0 x13_1) == (rd l1 x13_1)) = true := beq_iff_eq.mpr c8
                  have c8b1 : ((rd l0 x13_1) != (rd l1 x13_1)) = false := bne_eq_false_iff_eq.mpr c8
                  clear c8
                  have H' := Aside0.mk H
                  clear H
                  have p101 : 0 ≤ (x13_1 : Int) := of_decide_eq_true (by first | (with_reducible assumption) | assumption)
                  have q101 : x13_1 < (l0.length : Int) := of_decide_eq_true (by first | (with_reducible assumption) | assumption)
                  obtain ⟨ad101, e101, hx101_0⟩ := Kd.at_int HR0.out x13_1 p101 q101
                  cases e101
                  replace p101 := eq_true p101
                  replace q101 := eq_true q101
                  have p102 : 0 ≤ (x13_1 : Int) := of_decide_eq_true (by first | (with_reducible assumption) | assumption)
                  have q102 : x13_1 < (l1.length : Int) := of_decide_eq_true (by first | (with_reducible assumption) | assumption)
                  obtain ⟨ad102, e102, hx102_0⟩ := Kd.at_int HR1.out x13_1 p102 q102
                  cases e102
                  replace p102 := eq_true p102
                  replace q102 := eq_true q102
                  go_wp2
                  repeat (go_quiet (fail); try go_wp2)
                  go_roundg k1
                  case measure => have := HK1.out; omega
                  case rel => exact ⟨(wrap64 (x13_1 + 1)), (by first | rfl | (simp; done) | (simp [*]; done)), H', ⟨by have := HK1.out; omega⟩, by repeat (first | exact Drawn0.refl _ | apply Drawn0.step)⟩
                · rw [if_neg c8] at H
                  have c8b0 : ((rd l0 x13_1) == (rd l1 x13_1)) = false := beq_eq_false_iff_ne.mpr c8
                  have c8b1 : ((rd l0 x13_1) != (rd l1 x13_1)) = true := bne_iff_ne.mpr c8
                  obtain rfl := Option.some.inj H
                  have p101 : 0 ≤ (x13_1 : Int) := of_decide_eq_true (by first | (with_reducible assumption) | assumption)
                  have q101 : x13_1 < (l0.length : Int) := of_decide_eq_true (by first | (with_reducible assumption) | assumption)
                  obtain ⟨ad101, e101, hx101_0⟩ := Kd.at_int HR0.out x13_1 p101 q101
                  cases e101
                  replace p101 := eq_true p101
                  replace q101 := eq_true q101
                  have p102 : 0 ≤ (x13_1 : Int) := of_decide_eq_true (by first | (with_reducible assumption) | assumption)
                  have q102 : x13_1 < (l1.length : Int) := of_decide_eq_true (by first | (with_reducible assumption) | assumption)
                  obtain ⟨ad102, e102, hx102_0⟩ := Kd.at_int HR1.out x13_1 p102 q102
                  cases e102
                  replace p102 := eq_true p102
                  replace q102 := eq_true q102
                  go_wp2
                  repeat (go_quiet (fail); try go_wp2)
                  go_ret
                  exact ⟨by first | rfl | (simp; done) | (simp [*]; done), by repeat (first | exact Drawn0.refl _ | apply Drawn0.step)⟩
              · rw [if_neg c7] at H
                exact absurd H (by simp)
            · first | exact absurd c4 c6 | exact absurd (beq_iff_eq.mp c4b0) c6 | exact absurd (of_decide_eq_true (by assumption)) c6 | exact absurd (by assumption) c6
          · rw [if_neg c5] at H
            exact absurd H (by simp)
        · rw [if_neg c4] at H
          have c4b0 : decide (x13_1 < (l0.length : Int)) = false := decide_eq_false c4
          clear c4
          obtain rfl := Option.some.inj H
          go_wp2
          repeat (go_quiet (fail); try go_wp2)
          go_ret
          exact ⟨by first | rfl | (simp; done) | (simp [*]; done), by repeat (first | exact Drawn0.refl _ | apply Drawn0.step)⟩
  · rw [if_neg c3] at H
    have c3b0 : ((l0.length : Int) == (l1.length : Int)) = false := beq_eq_false_iff_ne.mpr c3
    have c3b1 : ((l0.length : Int) != (l1.length : Int)) = true := bne_iff_ne.mpr c3
    have c3b2 : (l0.length == l1.length) = false := by first | simpa using c3 | (simp at c3 ⊢; omega)
    obtain rfl := Option.some.inj H
    go_enter Try.func17, Try.ntmps17
    go_wp2
    repeat (go_quiet (fail); try go_wp2)
    go_ret
    exact ⟨by first | rfl | (simp; done) | (simp [*]; done), by repeat (first | exact Drawn0.refl _ | apply Drawn0.step)⟩

/-! ### arrearslaw08_awake: function 7 -/
section
open Go.Proofs.Ytdojgjbiilnjpaa.M
def arrearslaw08_awake.f : Option Bool := some true
theorem awk_q : ([] : List Int) ++ nlay (Int.toNat 300) 0 = [2, 1, 44] := by decide
theorem awk_i : ([2, 1, 44] : List Int) ++ qint (-1) = [2, 1, 44, 128] := by decide
theorem awk_s (P : List Int) (h : P = [2, 1, 44, 128]) : arrearsref01_Same.f 6 P [2, 1, 44, 128] = some true := by subst h; decide +kernel
theorem awk_u : luint (some [2, 1, 44, 128]) 300 = (300, some [128]) := by decide
set_option maxHeartbeats 4000000 in
set_option maxRecDepth 100000 in
theorem arrearslaw08_awake.calls (r : Bool) (w : World) (h : arrearslaw08_awake.f = some r) :
    Calls Try.prog 7 #[] w fun e w' => e = .returned (.bool r) ∧ Below w.heap.size w w' := by
  obtain rfl := Option.some.inj h
  clear h
  go_enter Try.func7, Try.ntmps7
  go_wp2_with (first
    | ((with_reducible refine gate_dst (N := 1) rfl ?_); refine box_event ?hg (N := 1) ?hd (cs := #[.slice none 0 0]) (t := 26) ?hr ?_; (case hd => rfl); (case hg => rfl); (case hr => first | (go_simp; done) | (go_simp; rfl)); intro gb1 hg1 w1 hbox hb; have HQ0 := Aside0.mk (Qu.new (w := w) hbox); have B1 := Aside0.mk hb; have GE1 := Aside0.mk (Nat.le_of_eq hg1.symm : w.heap.size ≤ gb1); clear hbox hb hg1)
    | (go_at_call 8; refine (quill_Uint 300 (by omega) (by omega) gb1 _ [] w1 (by simp) HQ0.out).mono ?_; rintro e w2 ⟨rfl, hd⟩; rw [awk_q] at hd; obtain ⟨v2, hq, hv, hbb, _, _⟩ := QDone.law hd B1.out GE1.out (nil_own _); have HQ2 := Aside0.mk hq; have HV2 := Aside0.mk hv; have B2 := Aside0.mk hbb; clear hd hq hv hbb)
    | (go_at_call 10; refine (quill_Int (-1) (by omega) (by omega) gb1 v2 _ w2 (by simp) HQ2.out).mono ?_; rintro e w3 ⟨rfl, hd⟩; rw [awk_i] at hd; obtain ⟨v3, hq, hv, hbb, _, _⟩ := QDone.law hd B2.out GE1.out HV2.out; have HQ3 := Aside0.mk hq; have HV3 := Aside0.mk hv; have B3 := Aside0.mk hbb; clear hd hq hv hbb)
    | (go_at_call 9; refine (quill_Done gb1 v3 _ w3 (by simp) HQ3.out).mono ?_; rintro e w4 ⟨v4, rfl, h1, h2, h3⟩; generalize hP : ([2, 1, 44, 128] : List Int) = P at h1; obtain ⟨A4, c4, ev4, _, _⟩ := h1.slice; subst ev4; have HP := Aside0.mk hP; have HY := Aside0.mk h1; have B4 := Aside0.mk (below_step B3.out h3); clear h1 h2 h3 hP)
    | (go_at_call 17; refine calls_of_args (args' := #[.slice A4 P.length c4, .slice (some ⟨w4.heap.size, 0, none⟩) [2, 1, 44, 128].length 4]) rfl ((arrearsref01_Same.calls 6 A4 c4 P _ 4 [2, 1, 44, 128] true _ (Kd.C_alloc HY.out.rd.1 _) HY.out.rd.2 (Bys.rd (c := 4) (l := [2, 1, 44, 128]) (own_lit w4 0 _ .u8 [2, 1, 44, 128] (Nat.zero_le _) (by simp))).1 (by simp) (awk_s P HP.out.symm)).mono ?_); rintro e w5 ⟨rfl, hdr⟩; have B5 := Aside0.mk (below_step (below_alloc B4.out (.cells #[.int .u8 2, .int .u8 1, .int .u8 44, .int .u8 128] 5)) hdr.below); have HY5 := Aside0.mk ((HY.out.below (below_alloc (Below.refl _ _) (.cells #[.int .u8 2, .int .u8 1, .int .u8 44, .int .u8 128] 5))).below hdr.below); clear hdr)
    | (go_at_call 11; refine (quill_Look _ P w5 HY5.out (by rw [← HP.out]; simp) (by rw [← HP.out]; decide)).mono ?_; rintro e w6 ⟨g6, rfl, h1, h2, h3⟩; have HL6 := Aside0.mk h2; have G6 := Aside0.mk h1; have B6 := Aside0.mk (below_step B5.out h3); clear h1 h2 h3)
    | (go_at_call 13; refine (lens_Uint g6 g6 _ 300 (by omega) w6 HL6.out).mono ?_; rintro e w7 ⟨rfl, hd⟩; rw [← HP.out]; have B7 := Aside0.mk (LDone.law hd B6.out (Nat.le_trans B5.out.size G6.out)); clear hd))
  go_ret
  exact ⟨by rw [awk_u]; rfl, B7.out⟩
/-- A row of values, all of it in blocks below N. -/
def VR (N : Nat) (w : World) (v : Value) (l : List S40) : Prop := Kd.R k40 40 w 0 (fun k => k < N) v l
theorem VR.of {w : World} {base : Nat} {ok : Nat → Prop} {v : Value} {l : List S40} (h : Kd.R k40 40 w base ok v l) : VR w.heap.size w v l := Kd.R_lower (Kd.R_mono (Kd.R_bound h) (fun _ hk => hk.2.2.1)) (Nat.zero_le _)
theorem VR.mono {N N1 : Nat} {w : World} {v : Value} {l : List S40} (h : VR N w v l) (hN : N ≤ N1) : VR N1 w v l := Kd.R_mono h (fun _ hk => Nat.lt_of_lt_of_le hk hN)
theorem VR.below {N : Nat} {w w1 : World} {v : Value} {l : List S40} (h : VR N w v l) (hb : Below w.heap.size w w1) : VR N w1 v l := Kd.R_below h hb
theorem VR.set {N : Nat} {w : World} {v : Value} {l : List S40} (h : VR N w v l) {b : Nat} (hb : N ≤ b) (o : Nat) (u : Value) : VR N (w.setCell ⟨b, o, none⟩ u) v l := Kd.R_far (p := ⟨b, o, none⟩) h (fun k hk => by show k ≠ b; omega) u
theorem VR.keep {N : Nat} {w w1 : World} {g : Nat} {row : Option Nat} {v : Value} {l : List S40} (h : VR N w v l) (hk : KeepQ w w1 g row) {t : TypeId} (hg : Ty w g t) (ht : t ≠ 40) (hr : ∀ k, row = some k → Ty w k 5) : VR N w1 v l := by
  refine Kd.R_mono (Kd.R_step (Kd.R_bound h) (fun k ho hlt => ?_)) (fun _ hk => hk.1)
  obtain ⟨_, _, _, q, hq, cells, hc⟩ := ho
  have hq2 : q = 40 := by simpa [k40, Kd.iso, Kd.pair, Kd.int, Kd.string, Kd.scalar] using hq
  subst hq2
  exact hk.block k hlt (fun e => by subst e; exact hg.ne ht cells hc) (fun e => (hr k e.symm).ne (by decide) cells hc)
theorem Bys.ty {w : World} {v : Value} {l : List Int} (h : Bys w v l) : ∀ k, v.ownBlock = some k → Ty w k 5 := fun k hk => h.typed k hk
theorem VR.at_ {N : Nat} {w : World} {A : Option Addr} {c : Nat} {l : List S40} (h : VR N w (.slice A l.length c) l) : Kd.C k40 w A l.length l := (Kd.R_reads' h).2.2
theorem VR.slice {N : Nat} {w : World} {v : Value} {l : List S40} (h : VR N w v l) : ∃ A c, v = .slice A l.length c := Kd.R_slice h
theorem setV_VR {N : Nat} {w : World} {b : Nat} {v : Value} {l : List S40} {x0 x1 x2 : Int} {s : ByteArray} {x4 : Int} (h : VR N w v l) (hb : N ≤ b) : VR N (setV w b x0 x1 x2 s x4) v l :=
  ((((h.set hb _ _).set hb _ _).set hb _ _).set hb _ _).set hb _ _
theorem VR.farL {N M : Nat} {w w1 : World} {g4 : Nat} {v : Value} {l : List S40} {s s' : Option (List Int)} (h : VR N w v l) (hd : LDone M w g4 s' w1) (hL : Le M w g4 s) : VR N w1 v l := h.keep hd.2 hL.ty (by decide) (fun k e => by cases e)
theorem VR.farQ {N : Nat} {w w1 : World} {g : Nat} {vq v : Value} {lq : List Int} {l : List S40} (h : VR N w v l) (hk : KeepQ w w1 g vq.ownBlock) (hq : Qu w g vq lq) : VR N w1 v l := h.keep hk hq.ty (by decide) (fun k e => hq.row.tyo e)
end


/-! ### arrearsref01_Text: function 15 -/
def arrearsref01_Text.f (a0 : ByteArray) (a1 : Int) : Option (ByteArray) := if 0 ≤ (mn (a0.size : Int) a1) then (if (mn (a0.size : Int) a1) ≤ (a0.size : Int) then (some (a0.extract 0 ((mn (a0.size : Int) a1) : Int).toNat)) else (none)) else (none)
set_option maxHeartbeats 8000000 in
set_option maxRecDepth 100000 in
theorem arrearsref01_Text.calls (a0 : ByteArray) (a1 : Int) (r : ByteArray) (w : World) (h : arrearsref01_Text.f a0 a1 = some r) :
    Calls Try.prog 15 #[.string a0, .int .i64 a1] w fun e w' => e = .returned (.string r) ∧ Below w.heap.size w w' := by
  have HB := Aside0.mk (Below.refl w.heap.size w)
  have H : (if 0 ≤ (mn (a0.size : Int) a1) then (if (mn (a0.size : Int) a1) ≤ (a0.size : Int) then (some (a0.extract 0 ((mn (a0.size : Int) a1) : Int).toNat)) else (none)) else (none)) = some r := h
  clear h
  obtain ⟨ji3, hji3⟩ : ∃ j_ : Int, (mn (a0.size : Int) a1) = j_ := ⟨_, rfl⟩
  replace H : (if 0 ≤ (ji3) then (if (ji3) ≤ (a0.size : Int) then (some (a0.extract 0 ((ji3) : Int).toNat)) else (none)) else (none)) = some r := by first | (rw [hji3] at H; exact H) | (simp only [hji3] at H ⊢; exact H)
  have hji3_ : (if a1 < (a0.size : Int) then a1 else (a0.size : Int)) = ji3 := hji3
  by_cases c4 : 0 ≤ (ji3)
  · rw [if_pos c4] at H
    have c4b0 := eq_true c4
    have c4b1 : decide (0 ≤ (ji3)) = true := decide_eq_true c4
    clear c4
    by_cases c5 : (ji3) ≤ (a0.size : Int)
    · rw [if_pos c5] at H
      have c5b0 := eq_true c5
      have c5b1 : decide ((ji3) ≤ (a0.size : Int)) = true := decide_eq_true c5
      clear c5
      obtain rfl := Option.some.inj H
      go_enter Try.func15, Try.ntmps15
      go_wp2
      go_ret
      exact ⟨by first | rfl | (simp [errW_none, errW_some] <;> rfl) | (simp only [← hji3]; first | rfl | (simp [errW_none, errW_some] <;> rfl)) | (simp [*, errW_none, errW_some] <;> rfl), by repeat (first | (with_reducible first | exact HB.out | apply below_alloc | apply pw_below_drewN | apply below_drew1) | exact HB.out)⟩
    · rw [if_neg c5] at H
      exact absurd H (by simp)
  · rw [if_neg c4] at H
    exact absurd H (by simp)

/-! ### arrearslaw08_few: function 14 -/
def arrearslaw08_few.l0 : Nat → List (S40) → List (S40) → Int → Int → Option ((List (S40)))
  | 0, _, _, _, _ => none
  | k + 1, x3, x6, x7, x8 => if x8 < x7 then (if 0 ≤ x8 then (if x8 < (x6.length : Int) then (if x8 < 12 then ((arrearsref01_Text.f ((rd_T40 x6 x8).f3) 40).bind fun t105 => (if (Int.tmod ((rd_T40 x6 x8).f0) 4) = 3 then (if x3.length < 2932031007402 then (arrearslaw08_few.l0 k (x3 ++ [(⟨(rd_T40 x6 x8).f0, (rd_T40 x6 x8).f1, (rd_T40 x6 x8).f2, t105, Int.tmod ((rd_T40 x6 x8).f4) 1000⟩ : S40)]) x6 x7 (wrap64 (x8 + 1))) else (none)) else (if x3.length < 2932031007402 then (arrearslaw08_few.l0 k (x3 ++ [(⟨(rd_T40 x6 x8).f0, (rd_T40 x6 x8).f1, (rd_T40 x6 x8).f2, t105, (rd_T40 x6 x8).f4⟩ : S40)]) x6 x7 (wrap64 (x8 + 1))) else (none)))) else (arrearslaw08_few.l0 k x3 x6 x7 (wrap64 (x8 + 1)))) else (none)) else (none)) else (some x3)
def arrearslaw08_few.f (k : Nat) (l0 : List (S40)) : Option ((List (S40))) := arrearslaw08_few.l0 k ([] : List (S40)) l0 (l0.length : Int) 0
theorem arrearslaw08_few.mono_l : ∀ k, (∀ y0 y1 y2 y3, LeO (arrearslaw08_few.l0 k y0 y1 y2 y3) (arrearslaw08_few.l0 (k + 1) y0 y1 y2 y3))
  | 0 => fun _ _ _ _ r h => by simp [arrearslaw08_few.l0] at h
  | k + 1 => by
    have ih0 := arrearslaw08_few.mono_l k
    · intro y0 y1 y2 y3
      unfold arrearslaw08_few.l0
      repeat' first
      | (with_reducible exact ih0 _ _ _ _)
      | (with_reducible exact LeO.refl _)
      | (with_reducible exact LeO.none _)
      | (with_reducible refine LeO.ite ?_ ?_)
      | (with_reducible refine LeO.bind ?_ (fun _ => ?_))
      | exact ih0 _ _ _ _
      | exact LeO.none _
      | refine LeO.ite ?_ ?_
      | refine LeO.bind ?_ (fun _ => ?_)
theorem arrearslaw08_few.mono : ∀ a0 k, LeO (arrearslaw08_few.f k a0) (arrearslaw08_few.f (k + 1) a0) := by
  intro a0 k
  have ih0 := arrearslaw08_few.mono_l k
  unfold arrearslaw08_few.f
  repeat' first
      | (with_reducible exact ih0 _ _ _ _)
      | (with_reducible exact LeO.refl _)
      | (with_reducible exact LeO.none _)
      | (with_reducible refine LeO.ite ?_ ?_)
      | (with_reducible refine LeO.bind ?_ (fun _ => ?_))
      | exact ih0 _ _ _ _
      | exact LeO.none _
      | refine LeO.ite ?_ ?_
      | refine LeO.bind ?_ (fun _ => ?_)
set_option maxHeartbeats 8000000 in
set_option maxRecDepth 100000 in
theorem arrearslaw08_few.calls (k : Nat) (A0 : Option Addr) (c0 : Nat) (l0 : List (S40)) (r : List (S40)) (w : World) (hr0 : Kd.C k40 w A0 l0.length l0) (hc0 : l0.length ≤ c0) (h : arrearslaw08_few.f k l0 = some r) :
    Calls Try.prog 14 #[.slice A0 l0.length c0] w fun e w' => ∃ v0_ : Value, e = .returned (v0_) ∧ Kd.R k40 40 w' w.heap.size (fun _ => True) v0_ r ∧ Below w.heap.size w w' := by
  have hu40 := Try.underlying40
  have HR0 := Aside0.mk hr0
  have HC0 := Aside0.mk hc0
  clear hr0 hc0
  have HB := Aside0.mk (Below.refl w.heap.size w)
  have H : (arrearslaw08_few.l0 k ([] : List (S40)) l0 (l0.length : Int) 0) = some r := h
  clear h
  have H' := Aside0.mk H
  clear H
  go_enter Try.func14, Try.ntmps14
  go_wp2
  go_loopg [3, 8] k (fun kq v3 v8 w' => ∃ (x3_1 : List (S40)) (x8_1 : Int), v8 = .int .i64 x8_1 ∧ Aside0 (arrearslaw08_few.l0 kq x3_1 l0 (l0.length : Int) x8_1 = some r) ∧ Aside0 (kq ≤ k) ∧ Aside0 (Kd.R k40 40 w' w.heap.size (fun _ => True) v3 x3_1) ∧ Aside0 (Below w.heap.size w w'))
  case atStart => exact ⟨(([] : List (S40))), (0), (by first | rfl | (simp; done) | (simp [*]; done)), H', ⟨Nat.le_refl _⟩, ⟨by first | exact Kd.R_nil _ _ _ _ _ | exact Kd.N_nil _ _ _ _ _ | exact Kd.V_nil _ _ _ _ _ | exact Kd.Q_nil _ _ _ _ _ | exact Kd.S_nil _ _ _ _ _⟩, ⟨by repeat (first | (with_reducible first | exact HB.out | apply below_alloc | apply pw_below_drewN | apply below_drew1) | exact HB.out)⟩⟩
  case round =>
    clear H'
    try clear c1
    obtain ⟨x3_1, x8_1, rfl, HA, HK1, HO_3, HB⟩ := hrel
    cases gk with
    | zero => exact absurd HA.out (by simp [arrearslaw08_few.l0])
    | succ k1 =>
      have H := HA.out
      clear HA
      simp only [arrearslaw08_few.l0] at H
      by_cases c2 : x8_1 < (l0.length : Int)
      · rw [if_pos c2] at H
        have c2b0 : decide (x8_1 < (l0.length : Int)) = true := decide_eq_true c2
        clear c2
        by_cases c3 : 0 ≤ x8_1
        · rw [if_pos c3] at H
          have c3b0 : decide (0 ≤ x8_1) = true := decide_eq_true c3
          clear c3
          by_cases c4 : x8_1 < (l0.length : Int)
          · rw [if_pos c4] at H
            have c4b0 : decide (x8_1 < (l0.length : Int)) = true := decide_eq_true c4
            clear c4
            by_cases c5 : x8_1 < 12
            · rw [if_pos c5] at H
              have c5b0 : decide (x8_1 < 12) = true := decide_eq_true c5
              clear c5
              replace H := Option.bind_eq_some_iff.mp H
              obtain ⟨t105, A60, H⟩ := H
              replace H : (if (Int.tmod ((rd_T40 l0 x8_1).f0) 4) = 3 then (if x3_1.length < 2932031007402 then (arrearslaw08_few.l0 k1 (x3_1 ++ [(⟨(rd_T40 l0 x8_1).f0, (rd_T40 l0 x8_1).f1, (rd_T40 l0 x8_1).f2, t105, Int.tmod ((rd_T40 l0 x8_1).f4) 1000⟩ : S40)]) l0 (l0.length : Int) (wrap64 (x8_1 + 1))) else (none)) else (if x3_1.length < 2932031007402 then (arrearslaw08_few.l0 k1 (x3_1 ++ [(⟨(rd_T40 l0 x8_1).f0, (rd_T40 l0 x8_1).f1, (rd_T40 l0 x8_1).f2, t105, (rd_T40 l0 x8_1).f4⟩ : S40)]) l0 (l0.length : Int) (wrap64 (x8_1 + 1))) else (none))) = some r := H
              have A6 := Aside0.mk A60
              clear A60
              by_cases c7 : (Int.tmod ((rd_T40 l0 x8_1).f0) 4) = 3
              · rw [if_pos c7] at H
                have c7b0 : ((Int.tmod ((rd_T40 l0 x8_1).f0) 4) == 3) = true := beq_iff_eq.mpr c7
                have c7b1 : ((Int.tmod ((rd_T40 l0 x8_1).f0) 4) != 3) = false := bne_eq_false_iff_eq.mpr c7
                clear c7
                by_cases c8 : x3_1.length < 2932031007402
                · rw [if_pos c8] at H
                  have LMc8 := Aside0.mk c8
                  clear c8
                  obtain ⟨y106, hy106⟩ : ∃ y_ : List (S40), y_ = (x3_1 ++ [(⟨(rd_T40 l0 x8_1).f0, (rd_T40 l0 x8_1).f1, (rd_T40 l0 x8_1).f2, t105, Int.tmod ((rd_T40 l0 x8_1).f4) 1000⟩ : S40)]) := ⟨_, rfl⟩
                  replace H : (arrearslaw08_few.l0 k1 y106 l0 (l0.length : Int) (wrap64 (x8_1 + 1))) = some r := by first | (rw [hy106]; with_reducible exact H) | (have H2_ := (Option.bind_some _ _).symm.trans H; rw [hy106]; with_reducible exact H2_) | (have H2_ := (Option.bind_some _ _).symm.trans H; with_reducible exact H2_) | with_reducible exact H | (rw [hy106]; exact H) | exact H
                  have Ny106 := Aside0.mk hy106
                  clear hy106
                  have H' := Aside0.mk H
                  clear H
                  have p103 : 0 ≤ (x8_1 : Int) := of_decide_eq_true (by first | (with_reducible assumption) | assumption)
                  have q103 : x8_1 < (l0.length : Int) := of_decide_eq_true (by first | (with_reducible assumption) | assumption)
                  obtain ⟨ad103, e103, hx103_0, hx103_1, hx103_2, hx103_3, hx103_4⟩ := at_T40 HR0.out x8_1 p103 q103
                  cases e103
                  replace hx103_0 := (HB.out.cell (World.block_lt_of_cell? w _ hx103_0)).trans hx103_0
                  replace hx103_1 := (HB.out.cell (World.block_lt_of_cell? w _ hx103_1)).trans hx103_1
                  replace hx103_2 := (HB.out.cell (World.block_lt_of_cell? w _ hx103_2)).trans hx103_2
                  replace hx103_3 := (HB.out.cell (World.block_lt_of_cell? w _ hx103_3)).trans hx103_3
                  replace hx103_4 := (HB.out.cell (World.block_lt_of_cell? w _ hx103_4)).trans hx103_4
                  replace p103 := eq_true p103
                  replace q103 := eq_true q103
                  go_wp2_with (first | ((with_reducible refine gate_dst (N := 5) rfl ?_); refine box_event ?hg (N := 5) ?hd (cs := #[.int .u8 0, .int .u64 0, .int .i64 0, .string (⟨#[]⟩ : ByteArray), .int .u64 0]) (t := 40) ?hr ?_; (case hd => rfl); (case hg => rfl); (case hr => first | (go_simp; done) | (go_simp; rfl)); intro gb104 hg w9 hbox hb; have n0_ := Aside0.mk (Kd.R_below (Kd.R_elderB (by (with_reducible repeat (first | apply Kd.R_alloc | apply Kd.R_drewN | apply Kd.R_drew)); exact HO_3.out) gb104 (Nat.le_of_eq hg.symm)) hb); have n1_ := Aside0.mk (below_step (by repeat (first | (with_reducible first | exact HB.out | apply below_alloc | apply pw_below_drewN | apply below_drew1) | exact HB.out)) hb); have n2_ := Aside0.mk (hbox); have n3_ := Aside0.mk ((by rw [hg]; exact (below_size (by repeat (first | (with_reducible first | exact HB.out | apply below_alloc | apply pw_below_drewN | apply below_drew1) | exact HB.out))) : w.heap.size ≤ gb104)); have n4_ := Aside0.mk ((by rw [hg]; exact (below_size (by repeat (first | (with_reducible first | exact HB.out | apply below_alloc | apply pw_below_drewN | apply below_drew1) | exact HB.out))) : w.heap.size ≤ gb104)); clear HO_3; clear HB; have HO_3 := n0_; have HB := n1_; have BK104 := n2_; have GW104 := n3_; have GE104 := n4_; clear n0_ n1_ n2_ n3_ n4_; clear hb hbox hg; have hcz10_0 : w9.cell? ⟨gb104, 0, none⟩ = some (.int .u8 0) := (blk_cell BK104.out 0).trans rfl; have hcz10_1 : w9.cell? ⟨gb104, 1, none⟩ = some (.int .u64 0) := (blk_cell BK104.out 1).trans rfl; have hcz10_2 : w9.cell? ⟨gb104, 2, none⟩ = some (.int .i64 0) := (blk_cell BK104.out 2).trans rfl; have hcz10_3 : w9.cell? ⟨gb104, 3, none⟩ = some (.string (⟨#[]⟩ : ByteArray)) := (blk_cell BK104.out 3).trans rfl; have hcz10_4 : w9.cell? ⟨gb104, 4, none⟩ = some (.int .u64 0) := (blk_cell BK104.out 4).trans rfl; have hfz10_0 := blk_frozen BK104.out 0; have hfz10_1 := blk_frozen BK104.out 1; have hfz10_2 := blk_frozen BK104.out 2; have hfz10_3 := blk_frozen BK104.out 3; have hfz10_4 := blk_frozen BK104.out 4) | ((with_reducible refine gate_callee (f := 15) rfl ?_); refine goesL_ (some 17) rfl rfl Try.func15 (by kernel_rfl) rfl #[.string ((rd_T40 l0 x8_1).f3), .int .i64 40] rfl (by (try simp only [List.map_toArray, List.map_cons, List.map_nil]); first | done | rfl | (simp only [List.length_drop, List.length_take]; rfl)) ?_; (with_reducible refine (arrearsref01_Text.calls ((rd_T40 l0 x8_1).f3) 40 t105 _ A6.out).mono ?_); rintro e w11 ⟨rfl, hb⟩; refine ⟨_, rfl, ?_⟩; have n0_ := Aside0.mk (Kd.R_below (by (with_reducible repeat (first | apply Kd.R_alloc | apply Kd.R_drewN | apply Kd.R_drew)); exact (Kd.R_mono (Kd.R_far (p := ⟨gb104, 4, none⟩) (Kd.R_far (p := ⟨gb104, 3, none⟩) (Kd.R_far (p := ⟨gb104, 2, none⟩) (Kd.R_far (p := ⟨gb104, 1, none⟩) (Kd.R_far (p := ⟨gb104, 0, none⟩) (Kd.R_mono HO_3.out (fun k_ hk => (⟨hk, hk.2⟩ : _ ∧ k_ ≠ gb104))) (fun _ hk => hk.2) (.int .u8 ((rd_T40 l0 x8_1).f0))) (fun _ hk => hk.2) (.int .u64 ((rd_T40 l0 x8_1).f1))) (fun _ hk => hk.2) (.int .i64 ((rd_T40 l0 x8_1).f2))) (fun _ hk => hk.2) (.string ((rd_T40 l0 x8_1).f3))) (fun _ hk => hk.2) (.int .u64 ((rd_T40 l0 x8_1).f4))) (fun _ h_ => h_.1))) hb); have n1_ := Aside0.mk (blk_below (g := gb104) (o := .cells #[.int .u8 ((rd_T40 l0 x8_1).f0), .int .u64 ((rd_T40 l0 x8_1).f1), .int .i64 ((rd_T40 l0 x8_1).f2), .string ((rd_T40 l0 x8_1).f3), .int .u64 ((rd_T40 l0 x8_1).f4)] 40 (0, 0)) (by (with_reducible repeat (first | refine blk_drewN ?_ _ | refine blk_drew ?_ | refine blk_alloc ?_ _)); refine blk_put (cs := #[.int .u8 ((rd_T40 l0 x8_1).f0), .int .u64 ((rd_T40 l0 x8_1).f1), .int .i64 ((rd_T40 l0 x8_1).f2), .string ((rd_T40 l0 x8_1).f3), .int .u64 0]) ?_ 4 _ rfl; (with_reducible repeat (first | refine blk_drewN ?_ _ | refine blk_drew ?_ | refine blk_alloc ?_ _)); refine blk_put (cs := #[.int .u8 ((rd_T40 l0 x8_1).f0), .int .u64 ((rd_T40 l0 x8_1).f1), .int .i64 ((rd_T40 l0 x8_1).f2), .string (⟨#[]⟩ : ByteArray), .int .u64 0]) ?_ 3 _ rfl; (with_reducible repeat (first | refine blk_drewN ?_ _ | refine blk_drew ?_ | refine blk_alloc ?_ _)); refine blk_put (cs := #[.int .u8 ((rd_T40 l0 x8_1).f0), .int .u64 ((rd_T40 l0 x8_1).f1), .int .i64 0, .string (⟨#[]⟩ : ByteArray), .int .u64 0]) ?_ 2 _ rfl; (with_reducible repeat (first | refine blk_drewN ?_ _ | refine blk_drew ?_ | refine blk_alloc ?_ _)); refine blk_put (cs := #[.int .u8 ((rd_T40 l0 x8_1).f0), .int .u64 0, .int .i64 0, .string (⟨#[]⟩ : ByteArray), .int .u64 0]) ?_ 1 _ rfl; (with_reducible repeat (first | refine blk_drewN ?_ _ | refine blk_drew ?_ | refine blk_alloc ?_ _)); refine blk_put (cs := #[.int .u8 0, .int .u64 0, .int .i64 0, .string (⟨#[]⟩ : ByteArray), .int .u64 0]) ?_ 0 _ rfl; (with_reducible repeat (first | refine blk_drewN ?_ _ | refine blk_drew ?_ | refine blk_alloc ?_ _)); exact BK104.out) hb); have n2_ := Aside0.mk (below_step (by repeat (first | (with_reducible first | exact HB.out | apply below_alloc | apply pw_below_drewN | apply below_drew1 | refine below_set ?_ GE104.out) | exact HB.out)) hb); clear HO_3; clear BK104; clear HB; have HO_3 := n0_; have BK104 := n1_; have HB := n2_; clear n0_ n1_ n2_; (try clear hb); (try clear hb2); (try clear hk); (try clear hi); have hcz12_0 : w11.cell? ⟨gb104, 0, none⟩ = some (.int .u8 ((rd_T40 l0 x8_1).f0)) := (blk_cell BK104.out 0).trans rfl; have hcz12_1 : w11.cell? ⟨gb104, 1, none⟩ = some (.int .u64 ((rd_T40 l0 x8_1).f1)) := (blk_cell BK104.out 1).trans rfl; have hcz12_2 : w11.cell? ⟨gb104, 2, none⟩ = some (.int .i64 ((rd_T40 l0 x8_1).f2)) := (blk_cell BK104.out 2).trans rfl; have hcz12_3 : w11.cell? ⟨gb104, 3, none⟩ = some (.string ((rd_T40 l0 x8_1).f3)) := (blk_cell BK104.out 3).trans rfl; have hcz12_4 : w11.cell? ⟨gb104, 4, none⟩ = some (.int .u64 ((rd_T40 l0 x8_1).f4)) := (blk_cell BK104.out 4).trans rfl; have hfz12_0 := blk_frozen BK104.out 0; have hfz12_1 := blk_frozen BK104.out 1; have hfz12_2 := blk_frozen BK104.out 2; have hfz12_3 := blk_frozen BK104.out 3; have hfz12_4 := blk_frozen BK104.out 4) | ((with_reducible refine gate_builtin (b := .append) (xs := #[.tmp 27, .tmp 29]) rfl ?_); at_builtin; refine Kd.R_append k40 (w0 := w) w.heap.size rfl (.tmp 27) (.tmp 29) 36 40 (.agg #[(.int .u8 0), (.int .u64 0), (.int .i64 0), (.string ⟨#[]⟩), (.int .u64 0)]) 48 rfl Try.underlying36 info40 rfl (by decide) (by omega) u3 x3_1 (⟨(rd_T40 l0 x8_1).f0, (rd_T40 l0 x8_1).f1, (rd_T40 l0 x8_1).f2, t105, Int.tmod ((rd_T40 l0 x8_1).f4) 1000⟩ : S40) [.int .u8 ((rd_T40 l0 x8_1).f0), .int .u64 ((rd_T40 l0 x8_1).f1), .int .i64 ((rd_T40 l0 x8_1).f2), .string t105, .int .u64 (Int.tmod ((rd_T40 l0 x8_1).f4) 1000)] (fun k_ => k_ ≠ gb104) (fun _ => False) rfl (by first | (go_simp; done) | (go_simp; rfl)) ?aP (fun _ hk => hk.elim) ?aF ?aO ?aB ?aS ?aL ?_; (case aP => exact k40_mkM _ _ _ (⟨(rd_T40 l0 x8_1).f0, (rd_T40 l0 x8_1).f1, (rd_T40 l0 x8_1).f2, t105, Int.tmod ((rd_T40 l0 x8_1).f4) 1000⟩ : S40)); (case aB => exact (by repeat (first | (with_reducible first | exact HB.out | apply below_alloc | apply pw_below_drewN | apply below_drew1 | refine below_set ?_ GE104.out) | exact HB.out))); (case aF => exact (fun k_ hk => Kd.freshB (g := gb104) (o := .cells #[.int .u8 ((rd_T40 l0 x8_1).f0), .int .u64 ((rd_T40 l0 x8_1).f1), .int .i64 ((rd_T40 l0 x8_1).f2), .string t105, .int .u64 (Int.tmod ((rd_T40 l0 x8_1).f4) 1000)] 40 (0, 0)) (by (with_reducible repeat (first | refine blk_drewN ?_ _ | refine blk_drew ?_ | refine blk_alloc ?_ _)); refine blk_put (cs := #[.int .u8 ((rd_T40 l0 x8_1).f0), .int .u64 ((rd_T40 l0 x8_1).f1), .int .i64 ((rd_T40 l0 x8_1).f2), .string t105, .int .u64 ((rd_T40 l0 x8_1).f4)]) ?_ 4 _ rfl; (with_reducible repeat (first | refine blk_drewN ?_ _ | refine blk_drew ?_ | refine blk_alloc ?_ _)); refine blk_put (cs := #[.int .u8 ((rd_T40 l0 x8_1).f0), .int .u64 ((rd_T40 l0 x8_1).f1), .int .i64 ((rd_T40 l0 x8_1).f2), .string ((rd_T40 l0 x8_1).f3), .int .u64 ((rd_T40 l0 x8_1).f4)]) ?_ 3 _ rfl; (with_reducible repeat (first | refine blk_drewN ?_ _ | refine blk_drew ?_ | refine blk_alloc ?_ _)); exact BK104.out) k_ hk)); (case aO => exact (by (with_reducible repeat (first | apply Kd.R_alloc | apply Kd.R_drewN | apply Kd.R_drew)); exact Kd.R_mono (Kd.R_far (p := ⟨gb104, 4, none⟩) (Kd.R_far (p := ⟨gb104, 3, none⟩) (Kd.R_mono HO_3.out (fun k_ hk => (⟨hk, hk.2⟩ : _ ∧ k_ ≠ gb104))) (fun _ hk => hk.2) (.string t105)) (fun _ hk => hk.2) (.int .u64 (Int.tmod ((rd_T40 l0 x8_1).f4) 1000))) (fun _ hk => hk.1.2))); (case aS => exact (below_size (by repeat (first | (with_reducible first | exact HB.out | apply below_alloc | apply pw_below_drewN | apply below_drew1 | refine below_set ?_ GE104.out) | exact HB.out)))); (case aL => have := LMc8.out; omega); intro v107 w13 ho hb hg hat; rw [← Ny106.out] at ho; have n0_ := Aside0.mk (blk_grown (g := gb104) (o := .cells #[.int .u8 ((rd_T40 l0 x8_1).f0), .int .u64 ((rd_T40 l0 x8_1).f1), .int .i64 ((rd_T40 l0 x8_1).f2), .string t105, .int .u64 (Int.tmod ((rd_T40 l0 x8_1).f4) 1000)] 40 (0, 0)) (by (with_reducible repeat (first | refine blk_drewN ?_ _ | refine blk_drew ?_ | refine blk_alloc ?_ _)); refine blk_put (cs := #[.int .u8 ((rd_T40 l0 x8_1).f0), .int .u64 ((rd_T40 l0 x8_1).f1), .int .i64 ((rd_T40 l0 x8_1).f2), .string t105, .int .u64 ((rd_T40 l0 x8_1).f4)]) ?_ 4 _ rfl; (with_reducible repeat (first | refine blk_drewN ?_ _ | refine blk_drew ?_ | refine blk_alloc ?_ _)); refine blk_put (cs := #[.int .u8 ((rd_T40 l0 x8_1).f0), .int .u64 ((rd_T40 l0 x8_1).f1), .int .i64 ((rd_T40 l0 x8_1).f2), .string ((rd_T40 l0 x8_1).f3), .int .u64 ((rd_T40 l0 x8_1).f4)]) ?_ 3 _ rfl; (with_reducible repeat (first | refine blk_drewN ?_ _ | refine blk_drew ?_ | refine blk_alloc ?_ _)); exact BK104.out) hg (Kd.R_away HO_3.out (fun _ hk => hk.2))); have n1_ := Aside0.mk (hb); have n2_ := Aside0.mk (ho); clear BK104; clear HB; clear HO_3; have BK104 := n0_; have HB := n1_; have HO108 := n2_; clear n0_ n1_ n2_; clear ho hb hg hat))
                  go_roundg k1
                  case measure => have := HK1.out; omega
                  case rel => exact ⟨(y106), (wrap64 (x8_1 + 1)), (by first | rfl | (simp; done) | (simp [*]; done)), H', ⟨by have := HK1.out; omega⟩, ⟨by (with_reducible repeat (first | apply Kd.R_alloc | apply Kd.R_drewN | apply Kd.R_drew)); exact Kd.R_mono HO108.out (fun _ hk => trivial)⟩, ⟨by repeat (first | (with_reducible first | exact HB.out | apply below_alloc | apply pw_below_drewN | apply below_drew1 | refine below_set ?_ GE104.out) | exact HB.out)⟩⟩
                · rw [if_neg c8] at H
                  exact absurd H (by simp)
              · rw [if_neg c7] at H
                have c7b0 : ((Int.tmod ((rd_T40 l0 x8_1).f0) 4) == 3) = false := beq_eq_false_iff_ne.mpr c7
                have c7b1 : ((Int.tmod ((rd_T40 l0 x8_1).f0) 4) != 3) = true := bne_iff_ne.mpr c7
                by_cases c14 : x3_1.length < 2932031007402
                · rw [if_pos c14] at H
                  have LMc14 := Aside0.mk c14
                  clear c14
                  obtain ⟨y109, hy109⟩ : ∃ y_ : List (S40), y_ = (x3_1 ++ [(⟨(rd_T40 l0 x8_1).f0, (rd_T40 l0 x8_1).f1, (rd_T40 l0 x8_1).f2, t105, (rd_T40 l0 x8_1).f4⟩ : S40)]) := ⟨_, rfl⟩
                  replace H : (arrearslaw08_few.l0 k1 y109 l0 (l0.length : Int) (wrap64 (x8_1 + 1))) = some r := by first | (rw [hy109]; with_reducible exact H) | (have H2_ := (Option.bind_some _ _).symm.trans H; rw [hy109]; with_reducible exact H2_) | (have H2_ := (Option.bind_some _ _).symm.trans H; with_reducible exact H2_) | with_reducible exact H | (rw [hy109]; exact H) | exact H
                  have Ny109 := Aside0.mk hy109
                  clear hy109
                  have H' := Aside0.mk H
                  clear H
                  have p103 : 0 ≤ (x8_1 : Int) := of_decide_eq_true (by first | (with_reducible assumption) | assumption)
                  have q103 : x8_1 < (l0.length : Int) := of_decide_eq_true (by first | (with_reducible assumption) | assumption)
                  obtain ⟨ad103, e103, hx103_0, hx103_1, hx103_2, hx103_3, hx103_4⟩ := at_T40 HR0.out x8_1 p103 q103
                  cases e103
                  replace hx103_0 := (HB.out.cell (World.block_lt_of_cell? w _ hx103_0)).trans hx103_0
                  replace hx103_1 := (HB.out.cell (World.block_lt_of_cell? w _ hx103_1)).trans hx103_1
                  replace hx103_2 := (HB.out.cell (World.block_lt_of_cell? w _ hx103_2)).trans hx103_2
                  replace hx103_3 := (HB.out.cell (World.block_lt_of_cell? w _ hx103_3)).trans hx103_3
                  replace hx103_4 := (HB.out.cell (World.block_lt_of_cell? w _ hx103_4)).trans hx103_4
                  replace p103 := eq_true p103
                  replace q103 := eq_true q103
                  go_wp2_with (first | ((with_reducible refine gate_dst (N := 5) rfl ?_); refine box_event ?hg (N := 5) ?hd (cs := #[.int .u8 0, .int .u64 0, .int .i64 0, .string (⟨#[]⟩ : ByteArray), .int .u64 0]) (t := 40) ?hr ?_; (case hd => rfl); (case hg => rfl); (case hr => first | (go_simp; done) | (go_simp; rfl)); intro gb104 hg w15 hbox hb; have n0_ := Aside0.mk (Kd.R_below (Kd.R_elderB (by (with_reducible repeat (first | apply Kd.R_alloc | apply Kd.R_drewN | apply Kd.R_drew)); exact HO_3.out) gb104 (Nat.le_of_eq hg.symm)) hb); have n1_ := Aside0.mk (below_step (by repeat (first | (with_reducible first | exact HB.out | apply below_alloc | apply pw_below_drewN | apply below_drew1) | exact HB.out)) hb); have n2_ := Aside0.mk (hbox); have n3_ := Aside0.mk ((by rw [hg]; exact (below_size (by repeat (first | (with_reducible first | exact HB.out | apply below_alloc | apply pw_below_drewN | apply below_drew1) | exact HB.out))) : w.heap.size ≤ gb104)); have n4_ := Aside0.mk ((by rw [hg]; exact (below_size (by repeat (first | (with_reducible first | exact HB.out | apply below_alloc | apply pw_below_drewN | apply below_drew1) | exact HB.out))) : w.heap.size ≤ gb104)); clear HO_3; clear HB; have HO_3 := n0_; have HB := n1_; have BK104 := n2_; have GW104 := n3_; have GE104 := n4_; clear n0_ n1_ n2_ n3_ n4_; clear hb hbox hg; have hcz16_0 : w15.cell? ⟨gb104, 0, none⟩ = some (.int .u8 0) := (blk_cell BK104.out 0).trans rfl; have hcz16_1 : w15.cell? ⟨gb104, 1, none⟩ = some (.int .u64 0) := (blk_cell BK104.out 1).trans rfl; have hcz16_2 : w15.cell? ⟨gb104, 2, none⟩ = some (.int .i64 0) := (blk_cell BK104.out 2).trans rfl; have hcz16_3 : w15.cell? ⟨gb104, 3, none⟩ = some (.string (⟨#[]⟩ : ByteArray)) := (blk_cell BK104.out 3).trans rfl; have hcz16_4 : w15.cell? ⟨gb104, 4, none⟩ = some (.int .u64 0) := (blk_cell BK104.out 4).trans rfl; have hfz16_0 := blk_frozen BK104.out 0; have hfz16_1 := blk_frozen BK104.out 1; have hfz16_2 := blk_frozen BK104.out 2; have hfz16_3 := blk_frozen BK104.out 3; have hfz16_4 := blk_frozen BK104.out 4) | ((with_reducible refine gate_callee (f := 15) rfl ?_); refine goesL_ (some 17) rfl rfl Try.func15 (by kernel_rfl) rfl #[.string ((rd_T40 l0 x8_1).f3), .int .i64 40] rfl (by (try simp only [List.map_toArray, List.map_cons, List.map_nil]); first | done | rfl | (simp only [List.length_drop, List.length_take]; rfl)) ?_; (with_reducible refine (arrearsref01_Text.calls ((rd_T40 l0 x8_1).f3) 40 t105 _ A6.out).mono ?_); rintro e w17 ⟨rfl, hb⟩; refine ⟨_, rfl, ?_⟩; have n0_ := Aside0.mk (Kd.R_below (by (with_reducible repeat (first | apply Kd.R_alloc | apply Kd.R_drewN | apply Kd.R_drew)); exact (Kd.R_mono (Kd.R_far (p := ⟨gb104, 4, none⟩) (Kd.R_far (p := ⟨gb104, 3, none⟩) (Kd.R_far (p := ⟨gb104, 2, none⟩) (Kd.R_far (p := ⟨gb104, 1, none⟩) (Kd.R_far (p := ⟨gb104, 0, none⟩) (Kd.R_mono HO_3.out (fun k_ hk => (⟨hk, hk.2⟩ : _ ∧ k_ ≠ gb104))) (fun _ hk => hk.2) (.int .u8 ((rd_T40 l0 x8_1).f0))) (fun _ hk => hk.2) (.int .u64 ((rd_T40 l0 x8_1).f1))) (fun _ hk => hk.2) (.int .i64 ((rd_T40 l0 x8_1).f2))) (fun _ hk => hk.2) (.string ((rd_T40 l0 x8_1).f3))) (fun _ hk => hk.2) (.int .u64 ((rd_T40 l0 x8_1).f4))) (fun _ h_ => h_.1))) hb); have n1_ := Aside0.mk (blk_below (g := gb104) (o := .cells #[.int .u8 ((rd_T40 l0 x8_1).f0), .int .u64 ((rd_T40 l0 x8_1).f1), .int .i64 ((rd_T40 l0 x8_1).f2), .string ((rd_T40 l0 x8_1).f3), .int .u64 ((rd_T40 l0 x8_1).f4)] 40 (0, 0)) (by (with_reducible repeat (first | refine blk_drewN ?_ _ | refine blk_drew ?_ | refine blk_alloc ?_ _)); refine blk_put (cs := #[.int .u8 ((rd_T40 l0 x8_1).f0), .int .u64 ((rd_T40 l0 x8_1).f1), .int .i64 ((rd_T40 l0 x8_1).f2), .string ((rd_T40 l0 x8_1).f3), .int .u64 0]) ?_ 4 _ rfl; (with_reducible repeat (first | refine blk_drewN ?_ _ | refine blk_drew ?_ | refine blk_alloc ?_ _)); refine blk_put (cs := #[.int .u8 ((rd_T40 l0 x8_1).f0), .int .u64 ((rd_T40 l0 x8_1).f1), .int .i64 ((rd_T40 l0 x8_1).f2), .string (⟨#[]⟩ : ByteArray), .int .u64 0]) ?_ 3 _ rfl; (with_reducible repeat (first | refine blk_drewN ?_ _ | refine blk_drew ?_ | refine blk_alloc ?_ _)); refine blk_put (cs := #[.int .u8 ((rd_T40 l0 x8_1).f0), .int .u64 ((rd_T40 l0 x8_1).f1), .int .i64 0, .string (⟨#[]⟩ : ByteArray), .int .u64 0]) ?_ 2 _ rfl; (with_reducible repeat (first | refine blk_drewN ?_ _ | refine blk_drew ?_ | refine blk_alloc ?_ _)); refine blk_put (cs := #[.int .u8 ((rd_T40 l0 x8_1).f0), .int .u64 0, .int .i64 0, .string (⟨#[]⟩ : ByteArray), .int .u64 0]) ?_ 1 _ rfl; (with_reducible repeat (first | refine blk_drewN ?_ _ | refine blk_drew ?_ | refine blk_alloc ?_ _)); refine blk_put (cs := #[.int .u8 0, .int .u64 0, .int .i64 0, .string (⟨#[]⟩ : ByteArray), .int .u64 0]) ?_ 0 _ rfl; (with_reducible repeat (first | refine blk_drewN ?_ _ | refine blk_drew ?_ | refine blk_alloc ?_ _)); exact BK104.out) hb); have n2_ := Aside0.mk (below_step (by repeat (first | (with_reducible first | exact HB.out | apply below_alloc | apply pw_below_drewN | apply below_drew1 | refine below_set ?_ GE104.out) | exact HB.out)) hb); clear HO_3; clear BK104; clear HB; have HO_3 := n0_; have BK104 := n1_; have HB := n2_; clear n0_ n1_ n2_; (try clear hb); (try clear hb2); (try clear hk); (try clear hi); have hcz18_0 : w17.cell? ⟨gb104, 0, none⟩ = some (.int .u8 ((rd_T40 l0 x8_1).f0)) := (blk_cell BK104.out 0).trans rfl; have hcz18_1 : w17.cell? ⟨gb104, 1, none⟩ = some (.int .u64 ((rd_T40 l0 x8_1).f1)) := (blk_cell BK104.out 1).trans rfl; have hcz18_2 : w17.cell? ⟨gb104, 2, none⟩ = some (.int .i64 ((rd_T40 l0 x8_1).f2)) := (blk_cell BK104.out 2).trans rfl; have hcz18_3 : w17.cell? ⟨gb104, 3, none⟩ = some (.string ((rd_T40 l0 x8_1).f3)) := (blk_cell BK104.out 3).trans rfl; have hcz18_4 : w17.cell? ⟨gb104, 4, none⟩ = some (.int .u64 ((rd_T40 l0 x8_1).f4)) := (blk_cell BK104.out 4).trans rfl; have hfz18_0 := blk_frozen BK104.out 0; have hfz18_1 := blk_frozen BK104.out 1; have hfz18_2 := blk_frozen BK104.out 2; have hfz18_3 := blk_frozen BK104.out 3; have hfz18_4 := blk_frozen BK104.out 4) | ((with_reducible refine gate_builtin (b := .append) (xs := #[.tmp 27, .tmp 29]) rfl ?_); at_builtin; refine Kd.R_append k40 (w0 := w) w.heap.size rfl (.tmp 27) (.tmp 29) 36 40 (.agg #[(.int .u8 0), (.int .u64 0), (.int .i64 0), (.string ⟨#[]⟩), (.int .u64 0)]) 48 rfl Try.underlying36 info40 rfl (by decide) (by omega) u3 x3_1 (⟨(rd_T40 l0 x8_1).f0, (rd_T40 l0 x8_1).f1, (rd_T40 l0 x8_1).f2, t105, (rd_T40 l0 x8_1).f4⟩ : S40) [.int .u8 ((rd_T40 l0 x8_1).f0), .int .u64 ((rd_T40 l0 x8_1).f1), .int .i64 ((rd_T40 l0 x8_1).f2), .string t105, .int .u64 ((rd_T40 l0 x8_1).f4)] (fun k_ => k_ ≠ gb104) (fun _ => False) rfl (by first | (go_simp; done) | (go_simp; rfl)) ?aP (fun _ hk => hk.elim) ?aF ?aO ?aB ?aS ?aL ?_; (case aP => exact k40_mkM _ _ _ (⟨(rd_T40 l0 x8_1).f0, (rd_T40 l0 x8_1).f1, (rd_T40 l0 x8_1).f2, t105, (rd_T40 l0 x8_1).f4⟩ : S40)); (case aB => exact (by repeat (first | (with_reducible first | exact HB.out | apply below_alloc | apply pw_below_drewN | apply below_drew1 | refine below_set ?_ GE104.out) | exact HB.out))); (case aF => exact (fun k_ hk => Kd.freshB (g := gb104) (o := .cells #[.int .u8 ((rd_T40 l0 x8_1).f0), .int .u64 ((rd_T40 l0 x8_1).f1), .int .i64 ((rd_T40 l0 x8_1).f2), .string t105, .int .u64 ((rd_T40 l0 x8_1).f4)] 40 (0, 0)) (by (with_reducible repeat (first | refine blk_drewN ?_ _ | refine blk_drew ?_ | refine blk_alloc ?_ _)); refine blk_put (cs := #[.int .u8 ((rd_T40 l0 x8_1).f0), .int .u64 ((rd_T40 l0 x8_1).f1), .int .i64 ((rd_T40 l0 x8_1).f2), .string ((rd_T40 l0 x8_1).f3), .int .u64 ((rd_T40 l0 x8_1).f4)]) ?_ 3 _ rfl; (with_reducible repeat (first | refine blk_drewN ?_ _ | refine blk_drew ?_ | refine blk_alloc ?_ _)); exact BK104.out) k_ hk)); (case aO => exact (by (with_reducible repeat (first | apply Kd.R_alloc | apply Kd.R_drewN | apply Kd.R_drew)); exact Kd.R_mono (Kd.R_far (p := ⟨gb104, 3, none⟩) (Kd.R_mono HO_3.out (fun k_ hk => (⟨hk, hk.2⟩ : _ ∧ k_ ≠ gb104))) (fun _ hk => hk.2) (.string t105)) (fun _ hk => hk.1.2))); (case aS => exact (below_size (by repeat (first | (with_reducible first | exact HB.out | apply below_alloc | apply pw_below_drewN | apply below_drew1 | refine below_set ?_ GE104.out) | exact HB.out)))); (case aL => have := LMc14.out; omega); intro v110 w19 ho hb hg hat; rw [← Ny109.out] at ho; have n0_ := Aside0.mk (blk_grown (g := gb104) (o := .cells #[.int .u8 ((rd_T40 l0 x8_1).f0), .int .u64 ((rd_T40 l0 x8_1).f1), .int .i64 ((rd_T40 l0 x8_1).f2), .string t105, .int .u64 ((rd_T40 l0 x8_1).f4)] 40 (0, 0)) (by (with_reducible repeat (first | refine blk_drewN ?_ _ | refine blk_drew ?_ | refine blk_alloc ?_ _)); refine blk_put (cs := #[.int .u8 ((rd_T40 l0 x8_1).f0), .int .u64 ((rd_T40 l0 x8_1).f1), .int .i64 ((rd_T40 l0 x8_1).f2), .string ((rd_T40 l0 x8_1).f3), .int .u64 ((rd_T40 l0 x8_1).f4)]) ?_ 3 _ rfl; (with_reducible repeat (first | refine blk_drewN ?_ _ | refine blk_drew ?_ | refine blk_alloc ?_ _)); exact BK104.out) hg (Kd.R_away HO_3.out (fun _ hk => hk.2))); have n1_ := Aside0.mk (hb); have n2_ := Aside0.mk (ho); clear BK104; clear HB; clear HO_3; have BK104 := n0_; have HB := n1_; have HO111 := n2_; clear n0_ n1_ n2_; clear ho hb hg hat))
                  go_roundg k1
                  case measure => have := HK1.out; omega
                  case rel => exact ⟨(y109), (wrap64 (x8_1 + 1)), (by first | rfl | (simp; done) | (simp [*]; done)), H', ⟨by have := HK1.out; omega⟩, ⟨by (with_reducible repeat (first | apply Kd.R_alloc | apply Kd.R_drewN | apply Kd.R_drew)); exact Kd.R_mono HO111.out (fun _ hk => trivial)⟩, ⟨by repeat (first | (with_reducible first | exact HB.out | apply below_alloc | apply pw_below_drewN | apply below_drew1 | refine below_set ?_ GE104.out) | exact HB.out)⟩⟩
                · rw [if_neg c14] at H
                  exact absurd H (by simp)
            · rw [if_neg c5] at H
              have c5b0 : decide (x8_1 < 12) = false := decide_eq_false c5
              clear c5
              have H' := Aside0.mk H
              clear H
              have p103 : 0 ≤ (x8_1 : Int) := of_decide_eq_true (by first | (with_reducible assumption) | assumption)
              have q103 : x8_1 < (l0.length : Int) := of_decide_eq_true (by first | (with_reducible assumption) | assumption)
              obtain ⟨ad103, e103, hx103_0, hx103_1, hx103_2, hx103_3, hx103_4⟩ := at_T40 HR0.out x8_1 p103 q103
              cases e103
              replace hx103_0 := (HB.out.cell (World.block_lt_of_cell? w _ hx103_0)).trans hx103_0
              replace hx103_1 := (HB.out.cell (World.block_lt_of_cell? w _ hx103_1)).trans hx103_1
              replace hx103_2 := (HB.out.cell (World.block_lt_of_cell? w _ hx103_2)).trans hx103_2
              replace hx103_3 := (HB.out.cell (World.block_lt_of_cell? w _ hx103_3)).trans hx103_3
              replace hx103_4 := (HB.out.cell (World.block_lt_of_cell? w _ hx103_4)).trans hx103_4
              replace p103 := eq_true p103
              replace q103 := eq_true q103
              go_wp2_with (first | ((with_reducible refine gate_dst (N := 5) rfl ?_); refine box_event ?hg (N := 5) ?hd (cs := #[.int .u8 0, .int .u64 0, .int .i64 0, .string (⟨#[]⟩ : ByteArray), .int .u64 0]) (t := 40) ?hr ?_; (case hd => rfl); (case hg => rfl); (case hr => first | (go_simp; done) | (go_simp; rfl)); intro gb104 hg w20 hbox hb; have n0_ := Aside0.mk (Kd.R_below (Kd.R_elderB (by (with_reducible repeat (first | apply Kd.R_alloc | apply Kd.R_drewN | apply Kd.R_drew)); exact HO_3.out) gb104 (Nat.le_of_eq hg.symm)) hb); have n1_ := Aside0.mk (below_step (by repeat (first | (with_reducible first | exact HB.out | apply below_alloc | apply pw_below_drewN | apply below_drew1) | exact HB.out)) hb); have n2_ := Aside0.mk (hbox); have n3_ := Aside0.mk ((by rw [hg]; exact (below_size (by repeat (first | (with_reducible first | exact HB.out | apply below_alloc | apply pw_below_drewN | apply below_drew1) | exact HB.out))) : w.heap.size ≤ gb104)); have n4_ := Aside0.mk ((by rw [hg]; exact (below_size (by repeat (first | (with_reducible first | exact HB.out | apply below_alloc | apply pw_below_drewN | apply below_drew1) | exact HB.out))) : w.heap.size ≤ gb104)); clear HO_3; clear HB; have HO_3 := n0_; have HB := n1_; have BK104 := n2_; have GW104 := n3_; have GE104 := n4_; clear n0_ n1_ n2_ n3_ n4_; clear hb hbox hg; have hcz21_0 : w20.cell? ⟨gb104, 0, none⟩ = some (.int .u8 0) := (blk_cell BK104.out 0).trans rfl; have hcz21_1 : w20.cell? ⟨gb104, 1, none⟩ = some (.int .u64 0) := (blk_cell BK104.out 1).trans rfl; have hcz21_2 : w20.cell? ⟨gb104, 2, none⟩ = some (.int .i64 0) := (blk_cell BK104.out 2).trans rfl; have hcz21_3 : w20.cell? ⟨gb104, 3, none⟩ = some (.string (⟨#[]⟩ : ByteArray)) := (blk_cell BK104.out 3).trans rfl; have hcz21_4 : w20.cell? ⟨gb104, 4, none⟩ = some (.int .u64 0) := (blk_cell BK104.out 4).trans rfl; have hfz21_0 := blk_frozen BK104.out 0; have hfz21_1 := blk_frozen BK104.out 1; have hfz21_2 := blk_frozen BK104.out 2; have hfz21_3 := blk_frozen BK104.out 3; have hfz21_4 := blk_frozen BK104.out 4))
              go_roundg k1
              case measure => have := HK1.out; omega
              case rel => exact ⟨(x3_1), (wrap64 (x8_1 + 1)), (by first | rfl | (simp; done) | (simp [*]; done)), H', ⟨by have := HK1.out; omega⟩, ⟨by (with_reducible repeat (first | apply Kd.R_alloc | apply Kd.R_drewN | apply Kd.R_drew)); exact Kd.R_mono (Kd.R_far (p := ⟨gb104, 4, none⟩) (Kd.R_far (p := ⟨gb104, 3, none⟩) (Kd.R_far (p := ⟨gb104, 2, none⟩) (Kd.R_far (p := ⟨gb104, 1, none⟩) (Kd.R_far (p := ⟨gb104, 0, none⟩) (Kd.R_mono HO_3.out (fun k_ hk => (⟨hk, hk.2⟩ : _ ∧ k_ ≠ gb104))) (fun _ hk => hk.2) (.int .u8 ((rd_T40 l0 x8_1).f0))) (fun _ hk => hk.2) (.int .u64 ((rd_T40 l0 x8_1).f1))) (fun _ hk => hk.2) (.int .i64 ((rd_T40 l0 x8_1).f2))) (fun _ hk => hk.2) (.string ((rd_T40 l0 x8_1).f3))) (fun _ hk => hk.2) (.int .u64 ((rd_T40 l0 x8_1).f4))) (fun _ hk => trivial)⟩, ⟨by repeat (first | (with_reducible first | exact HB.out | apply below_alloc | apply pw_below_drewN | apply below_drew1 | refine below_set ?_ GE104.out) | exact HB.out)⟩⟩
          · first | exact absurd c2 c4 | exact absurd (beq_iff_eq.mp c2b0) c4 | exact absurd (of_decide_eq_true (by assumption)) c4 | exact absurd (by assumption) c4
        · rw [if_neg c3] at H
          exact absurd H (by simp)
      · rw [if_neg c2] at H
        have c2b0 : decide (x8_1 < (l0.length : Int)) = false := decide_eq_false c2
        clear c2
        obtain rfl := Option.some.inj H
        go_wp2
        go_ret
        exact ⟨_, by first | rfl | (simp [errW_none, errW_some] <;> rfl) | (simp [*, errW_none, errW_some] <;> rfl), by (with_reducible repeat (first | apply Kd.R_alloc | apply Kd.R_drewN | apply Kd.R_drew)); exact HO_3.out, by repeat (first | (with_reducible first | exact HB.out | apply below_alloc | apply pw_below_drewN | apply below_drew1) | exact HB.out)⟩

/-! ### arrearsref01_Join: function 18 -/
def arrearsref01_Join.l0 : Nat → List Int → List (List Int) → Int → Int → Option (List Int)
  | 0, _, _, _, _ => none
  | k + 1, x3, x6, x7, x8 => if x8 < x7 then (if 0 ≤ x8 then (if x8 < (x6.length : Int) then (if x3.length + (rd_L5 x6 x8).length < 140737488355328 then (arrearsref01_Join.l0 k (x3 ++ (rd_L5 x6 x8)) x6 x7 (wrap64 (x8 + 1))) else (none)) else (none)) else (none)) else (some x3)
def arrearsref01_Join.f (k : Nat) (l0 : List (List Int)) : Option (List Int) := arrearsref01_Join.l0 k ([] : List Int) l0 (l0.length : Int) 0
theorem arrearsref01_Join.mono_l : ∀ k, (∀ y0 y1 y2 y3, LeO (arrearsref01_Join.l0 k y0 y1 y2 y3) (arrearsref01_Join.l0 (k + 1) y0 y1 y2 y3))
  | 0 => fun _ _ _ _ r h => by simp [arrearsref01_Join.l0] at h
  | k + 1 => by
    have ih0 := arrearsref01_Join.mono_l k
    · intro y0 y1 y2 y3
      unfold arrearsref01_Join.l0
      repeat' first
      | (with_reducible exact ih0 _ _ _ _)
      | (with_reducible exact LeO.refl _)
      | (with_reducible exact LeO.none _)
      | (with_reducible refine LeO.ite ?_ ?_)
      | (with_reducible refine LeO.bind ?_ (fun _ => ?_))
      | exact ih0 _ _ _ _
      | exact LeO.none _
      | refine LeO.ite ?_ ?_
      | refine LeO.bind ?_ (fun _ => ?_)
theorem arrearsref01_Join.mono : ∀ a0 k, LeO (arrearsref01_Join.f k a0) (arrearsref01_Join.f (k + 1) a0) := by
  intro a0 k
  have ih0 := arrearsref01_Join.mono_l k
  unfold arrearsref01_Join.f
  repeat' first
      | (with_reducible exact ih0 _ _ _ _)
      | (with_reducible exact LeO.refl _)
      | (with_reducible exact LeO.none _)
      | (with_reducible refine LeO.ite ?_ ?_)
      | (with_reducible refine LeO.bind ?_ (fun _ => ?_))
      | exact ih0 _ _ _ _
      | exact LeO.none _
      | refine LeO.ite ?_ ?_
      | refine LeO.bind ?_ (fun _ => ?_)
set_option maxHeartbeats 8000000 in
set_option maxRecDepth 100000 in
theorem arrearsref01_Join.calls (k : Nat) (A0 : Option Addr) (c0 : Nat) (l0 : List (List Int)) (r : List Int) (w : World) (hr0 : Kd.C (Kd.slice 5 (Kd.int .u8)) w A0 l0.length l0) (hc0 : l0.length ≤ c0) (h : arrearsref01_Join.f k l0 = some r) :
    Calls Try.prog 18 #[.slice A0 l0.length c0] w fun e w' => ∃ v0_ : Value, e = .returned (v0_) ∧ Kd.R (Kd.int .u8) 5 w' w.heap.size (fun _ => True) v0_ r ∧ Below w.heap.size w w' := by
  have HR0 := Aside0.mk hr0
  have HC0 := Aside0.mk hc0
  clear hr0 hc0
  have HB := Aside0.mk (Below.refl w.heap.size w)
  have H : (arrearsref01_Join.l0 k ([] : List Int) l0 (l0.length : Int) 0) = some r := h
  clear h
  have H' := Aside0.mk H
  clear H
  go_enter Try.func18, Try.ntmps18
  go_wp2
  go_loopg [3, 8] k (fun kq v3 v8 w' => ∃ (x3_1 : List Int) (x8_1 : Int), v8 = .int .i64 x8_1 ∧ Aside0 (arrearsref01_Join.l0 kq x3_1 l0 (l0.length : Int) x8_1 = some r) ∧ Aside0 (kq ≤ k) ∧ Aside0 (Kd.R (Kd.int .u8) 5 w' w.heap.size (fun _ => True) v3 x3_1) ∧ Aside0 (Below w.heap.size w w'))
  case atStart => exact ⟨(([] : List Int)), (0), (by first | rfl | (simp; done) | (simp [*]; done)), H', ⟨Nat.le_refl _⟩, ⟨by first | exact Kd.R_nil _ _ _ _ _ | exact Kd.N_nil _ _ _ _ _ | exact Kd.V_nil _ _ _ _ _ | exact Kd.Q_nil _ _ _ _ _ | exact Kd.S_nil _ _ _ _ _⟩, ⟨by repeat (first | (with_reducible first | exact HB.out | apply below_alloc | apply pw_below_drewN | apply below_drew1) | exact HB.out)⟩⟩
  case round =>
    clear H'
    try clear c1
    obtain ⟨x3_1, x8_1, rfl, HA, HK1, HO_3, HB⟩ := hrel
    cases gk with
    | zero => exact absurd HA.out (by simp [arrearsref01_Join.l0])
    | succ k1 =>
      have H := HA.out
      clear HA
      simp only [arrearsref01_Join.l0] at H
      by_cases c2 : x8_1 < (l0.length : Int)
      · rw [if_pos c2] at H
        have c2b0 : decide (x8_1 < (l0.length : Int)) = true := decide_eq_true c2
        clear c2
        by_cases c3 : 0 ≤ x8_1
        · rw [if_pos c3] at H
          have c3b0 : decide (0 ≤ x8_1) = true := decide_eq_true c3
          clear c3
          by_cases c4 : x8_1 < (l0.length : Int)
          · rw [if_pos c4] at H
            have c4b0 : decide (x8_1 < (l0.length : Int)) = true := decide_eq_true c4
            clear c4
            by_cases c5 : x3_1.length + (rd_L5 l0 x8_1).length < 140737488355328
            · rw [if_pos c5] at H
              have LMc5 := Aside0.mk c5
              clear c5
              obtain ⟨y113, hy113⟩ : ∃ y_ : List Int, y_ = (x3_1 ++ (rd_L5 l0 x8_1)) := ⟨_, rfl⟩
              replace H : (arrearsref01_Join.l0 k1 y113 l0 (l0.length : Int) (wrap64 (x8_1 + 1))) = some r := by first | (rw [hy113]; with_reducible exact H) | (have H2_ := (Option.bind_some _ _).symm.trans H; rw [hy113]; with_reducible exact H2_) | (have H2_ := (Option.bind_some _ _).symm.trans H; with_reducible exact H2_) | with_reducible exact H | (rw [hy113]; exact H) | exact H
              have Ny113 := Aside0.mk hy113
              clear hy113
              have H' := Aside0.mk H
              clear H
              have p112 : 0 ≤ (x8_1 : Int) := of_decide_eq_true (by first | (with_reducible assumption) | assumption)
              have q112 : x8_1 < (l0.length : Int) := of_decide_eq_true (by first | (with_reducible assumption) | assumption)
              obtain ⟨ad112, A112_0, c112_0, e112, hx112_0, hl112_0, hi112_0⟩ := at_L5 HR0.out x8_1 p112 q112
              cases e112
              replace hx112_0 := (HB.out.cell (World.block_lt_of_cell? w _ hx112_0)).trans hx112_0
              have HR112_0 := Aside0.mk hi112_0
              have HC112_0 := Aside0.mk hl112_0
              clear hi112_0 hl112_0
              replace p112 := eq_true p112
              replace q112 := eq_true q112
              go_wp2_with (first | ((with_reducible refine gate_builtin (b := .append) (xs := #[.tmp 12, .tmp 13]) rfl ?_); at_builtin; refine Kd.R_append_rows (Kd.int .u8) (w0 := w) w.heap.size rfl (.tmp 12) (.tmp 13) 24 5 (.int .u8 0) 1 rfl Try.underlying24 info5 rfl (by decide) (by omega) u3 x3_1 (rd_L5 l0 x8_1) _ _ _ (fun _ => True) (fun _ => False) rfl rfl ?aO ?aR (fun _ _ h => h) (fun _ h => h.elim) ?aF ?aB ?aS ?aL ?_; (case aR => repeat (first | exact (Kd.C_below HR112_0.out HB.out) | (with_reducible refine Kd.C_alloc ?_ _) | (with_reducible refine Kd.C_drewN ?_ _) | (with_reducible refine Kd.C_drew ?_))); (case aB => exact (by repeat (first | (with_reducible first | exact HB.out | apply below_alloc | apply pw_below_drewN | apply below_drew1) | exact HB.out))); (case aF => exact (fun _ _ => trivial)); (case aO => exact (by (with_reducible repeat (first | apply Kd.R_alloc | apply Kd.R_drewN | apply Kd.R_drew)); exact HO_3.out)); (case aS => exact (below_size (by repeat (first | (with_reducible first | exact HB.out | apply below_alloc | apply pw_below_drewN | apply below_drew1) | exact HB.out)))); (case aL => have := LMc5.out; omega); intro v114 w6 ho hb hg hat; rw [← Ny113.out] at ho; have n0_ := Aside0.mk (hb); have n1_ := Aside0.mk (ho); clear HB; clear HO_3; have HB := n0_; have HO115 := n1_; clear n0_ n1_; clear ho hb hg hat))
              go_roundg k1
              case measure => have := HK1.out; omega
              case rel => exact ⟨(y113), (wrap64 (x8_1 + 1)), (by first | rfl | (simp; done) | (simp [*]; done)), H', ⟨by have := HK1.out; omega⟩, ⟨by (with_reducible repeat (first | apply Kd.R_alloc | apply Kd.R_drewN | apply Kd.R_drew)); exact HO115.out⟩, ⟨by repeat (first | (with_reducible first | exact HB.out | apply below_alloc | apply pw_below_drewN | apply below_drew1) | exact HB.out)⟩⟩
            · rw [if_neg c5] at H
              exact absurd H (by simp)
          · first | exact absurd c2 c4 | exact absurd (beq_iff_eq.mp c2b0) c4 | exact absurd (of_decide_eq_true (by assumption)) c4 | exact absurd (by assumption) c4
        · rw [if_neg c3] at H
          exact absurd H (by simp)
      · rw [if_neg c2] at H
        have c2b0 : decide (x8_1 < (l0.length : Int)) = false := decide_eq_false c2
        clear c2
        obtain rfl := Option.some.inj H
        go_wp2
        go_ret
        exact ⟨_, by first | rfl | (simp [errW_none, errW_some] <;> rfl) | (simp [*, errW_none, errW_some] <;> rfl), by (with_reducible repeat (first | apply Kd.R_alloc | apply Kd.R_drewN | apply Kd.R_drew)); exact HO_3.out, by repeat (first | (with_reducible first | exact HB.out | apply below_alloc | apply pw_below_drewN | apply below_drew1) | exact HB.out)⟩

/-! ### arrearslaw08_QuillParts: function 4 -/
section
open Go.Proofs.Ytdojgjbiilnjpaa.M
def VIn (v : S40) : Prop := (0 ≤ v.f0 ∧ v.f0 ≤ 255) ∧ (0 ≤ v.f1 ∧ v.f1 ≤ 18446744073709551615) ∧ (-9223372036854775808 ≤ v.f2 ∧ v.f2 ≤ 9223372036854775807) ∧ v.f3.size ≤ 100000
instance (v : S40) : Decidable (VIn v) := by unfold VIn; infer_instance
def arrearslaw08_QuillParts.go : List S40 → List Int → Option (List Int)
  | [], q => some q
  | v :: r, q => if VIn v ∧ q.length ≤ 400000 then arrearslaw08_QuillParts.go r (q ++ qlay v.f0 v.f1 v.f2 v.f3) else none
def arrearslaw08_QuillParts.f (k : Nat) (l0 : List S40) (l1 : List S40) (a2 : ByteArray) (a3 : ByteArray) : Option Bool :=
  (arrearslaw08_few.f k l0).bind fun la => (arrearslaw08_few.f k l1).bind fun lb => (arrearsref01_Text.f a2 40).bind fun s => (arrearsref01_Text.f a3 40).bind fun t =>
  (arrearslaw08_QuillParts.go la []).bind fun X => (arrearslaw08_QuillParts.go lb []).bind fun Y =>
  if la.length ≤ 1000000 ∧ lb.length ≤ 1000000 ∧ X.length ≤ 400000 ∧ Y.length ≤ 400000 ∧ s.size ≤ 100000 ∧ t.size ≤ 100000 then
    (arrearsref01_Join.f k [X, Y]).bind fun J => (arrearsref01_Same.f k (X ++ Y) J).bind fun c => if c = true then
      (arrearsref01_Same.f k ([] ++ nlay s.size 0 ++ bytesOf s) ([] ++ nlay t.size 0 ++ bytesOf t)).bind fun d => some ((s.toList == t.toList) == d) else some false
  else none
theorem rd_drop8 (l : List S40) (i : Int) (h0 : 0 ≤ i) (h1 : i < l.length) : l.drop i.toNat = rd_T40 l i :: l.drop (i + 1).toNat := by
  have h : i.toNat < l.length := by omega
  rw [List.drop_eq_getElem_cons h, show (i + 1).toNat = i.toNat + 1 by omega]
  congr 1
  simp [rd_T40, List.getD_eq_getElem?_getD, List.getElem?_eq_getElem h]
theorem text_len (s : ByteArray) (h : s.size ≤ 100000) : (nlay s.size 0 ++ bytesOf s).length ≤ 100009 := by
  rw [List.length_append, nlay_len8, bytesOf_length]
  have := nsz_le s.size (by omega)
  omega
set_option maxHeartbeats 8000000 in
set_option maxRecDepth 100000 in
theorem arrearslaw08_QuillParts.calls (k : Nat) (A0 : Option Addr) (c0 : Nat) (l0 : List S40) (A1 : Option Addr) (c1 : Nat) (l1 : List S40) (a2 : ByteArray) (a3 : ByteArray) (r : Bool) (w : World) (hr0 : Kd.C k40 w A0 l0.length l0) (hc0 : l0.length ≤ c0) (hr1 : Kd.C k40 w A1 l1.length l1) (hc1 : l1.length ≤ c1) (h : arrearslaw08_QuillParts.f k l0 l1 a2 a3 = some r) (hr : r = true) :
    Calls Try.prog 4 #[.slice A0 l0.length c0, .slice A1 l1.length c1, .string a2, .string a3] w fun e w' => e = .returned (.bool r) ∧ Below w.heap.size w w' := by
  subst hr
  obtain ⟨la, hla, h⟩ := Option.bind_eq_some_iff.mp h
  obtain ⟨lb, hlb, h⟩ := Option.bind_eq_some_iff.mp h
  obtain ⟨s, hs, h⟩ := Option.bind_eq_some_iff.mp h
  obtain ⟨t, ht, h⟩ := Option.bind_eq_some_iff.mp h
  obtain ⟨X, hX, h⟩ := Option.bind_eq_some_iff.mp h
  obtain ⟨Y, hY, h⟩ := Option.bind_eq_some_iff.mp h
  by_cases hg : la.length ≤ 1000000 ∧ lb.length ≤ 1000000 ∧ X.length ≤ 400000 ∧ Y.length ≤ 400000 ∧ s.size ≤ 100000 ∧ t.size ≤ 100000
  · rw [if_pos hg] at h
    obtain ⟨J, hJ, h⟩ := Option.bind_eq_some_iff.mp h
    obtain ⟨c, hc, h⟩ := Option.bind_eq_some_iff.mp h
    cases c
    · simp at h
    · rw [if_pos rfl] at h
      obtain ⟨d, hd, h⟩ := Option.bind_eq_some_iff.mp h
      have hst : (s.toList == t.toList) = d := by simpa using h
      have hls := text_len s hg.2.2.2.2.1
      have hlt := text_len t hg.2.2.2.2.2
      obtain ⟨PS, hPS⟩ : ∃ P, ([] ++ nlay s.size 0 ++ bytesOf s) = P := ⟨_, rfl⟩
      obtain ⟨PT, hPT⟩ : ∃ P, ([] ++ nlay t.size 0 ++ bytesOf t) = P := ⟨_, rfl⟩
      rw [hPS, hPT] at hd
      rw [List.nil_append] at hPS hPT
      rw [hPS] at hls
      rw [hPT] at hlt
      have HPS := Aside0.mk hPS
      have HPT := Aside0.mk hPT
      have HLS := Aside0.mk hls
      have HLT := Aside0.mk hlt
      clear hPS hPT hls hlt
      have HLA := Aside0.mk hla
      have HLB := Aside0.mk hlb
      have HS := Aside0.mk hs
      have HT := Aside0.mk ht
      have HX := Aside0.mk hX
      have HY := Aside0.mk hY
      have HJ := Aside0.mk hJ
      have HC := Aside0.mk hc
      have HD := Aside0.mk hd
      have HST := Aside0.mk hst
      have HG := Aside0.mk hg
      have HR0 := Aside0.mk hr0
      have HC0 := Aside0.mk hc0
      have HR1 := Aside0.mk hr1
      have HC1 := Aside0.mk hc1
      have HB := Aside0.mk (Below.refl w.heap.size w)
      clear hla hlb hs ht hX hY hJ hc hd hst hg hr0 hc0 hr1 hc1 h
      go_enter Try.func4, Try.ntmps4
      go_wp2_with (first
        | (go_at_call 7; refine (arrearslaw08_awake.calls true w rfl).mono ?_; rintro e w1 ⟨rfl, hb⟩; have n_ := Aside0.mk hb; clear HB; have HB := n_; clear n_; clear hb)
        | (go_at_call 14; (with_reducible refine (arrearslaw08_few.calls k A0 c0 l0 la w1 (Kd.C_below HR0.out HB.out) HC0.out HLA.out).mono ?_); rintro e w2 ⟨v2, rfl, ho, hb⟩; obtain ⟨A3, c3, e3⟩ := (VR.of ho).slice; generalize hL3 : la.length = L3 at e3; subst e3; have HL3 := Aside0.mk hL3; have HVA := Aside0.mk (VR.of ho); have n_ := Aside0.mk (below_step HB.out hb); clear HB; have HB := n_; clear n_; clear ho hb hL3)
        | (go_at_call 14; (with_reducible refine (arrearslaw08_few.calls k A1 c1 l1 lb w2 (Kd.C_below HR1.out HB.out) HC1.out HLB.out).mono ?_); rintro e w3 ⟨v3, rfl, ho, hb⟩; obtain ⟨A4, c4, e3⟩ := (VR.of ho).slice; generalize hL3 : lb.length = L4 at e3; subst e3; have HL4 := Aside0.mk hL3; have HVB := Aside0.mk (VR.of ho); have n2_ := Aside0.mk ((HVA.out.below hb).mono hb.size); clear HVA; have HVA := n2_; clear n2_; have n_ := Aside0.mk (below_step HB.out hb); clear HB; have HB := n_; clear n_; clear ho hb hL3)
        | (go_at_call 15; (with_reducible refine (arrearsref01_Text.calls a2 40 s w3 HS.out).mono ?_); rintro e w4 ⟨rfl, hb⟩; have n2_ := Aside0.mk ((HVA.out.below hb).mono hb.size); clear HVA; have HVA := n2_; clear n2_; have n2_ := Aside0.mk ((HVB.out.below hb).mono hb.size); clear HVB; have HVB := n2_; clear n2_; have n_ := Aside0.mk (below_step HB.out hb); clear HB; have HB := n_; clear n_; clear hb)
        | (go_at_call 15; (with_reducible refine (arrearsref01_Text.calls a3 40 t w4 HT.out).mono ?_); rintro e w5 ⟨rfl, hb⟩; have HS5 := Aside0.mk (Nat.le_refl w5.heap.size); have GEW := Aside0.mk (below_step HB.out hb).size; have n2_ := Aside0.mk ((HVA.out.below hb).mono hb.size); clear HVA; have HVA := n2_; clear n2_; have n2_ := Aside0.mk ((HVB.out.below hb).mono hb.size); clear HVB; have HVB := n2_; clear n2_; have n_ := Aside0.mk (below_step HB.out hb); clear HB; have HB := n_; clear n_; clear hb)
        | ((with_reducible refine gate_dst (N := 9) rfl ?_); refine box_event ?hg (N := 9) ?hd (cs := #[.slice none 0 0]) (t := 26) ?hr ?_; (case hd => rfl); (case hg => rfl); (case hr => first | (go_simp; done) | (go_simp; rfl)); intro gb9 hg w9 hbox hb; have HQ9 := Aside0.mk (Qu.new (w := w) hbox); have n_ := Aside0.mk (show w5.heap.size ≤ gb9 by omega); clear HS5; have HS5 := n_; clear n_; have GE9 := Aside0.mk (show w.heap.size ≤ gb9 by have := (HB.out).size; omega); have n_ := Aside0.mk (HVA.out.below hb); clear HVA; have HVA := n_; clear n_; have n_ := Aside0.mk (HVB.out.below hb); clear HVB; have HVB := n_; clear n_; have n_ := Aside0.mk (below_step HB.out hb); clear HB; have HB := n_; clear n_; clear hbox hb hg)
        | ((with_reducible refine gate_dst (N := 10) rfl ?_); refine box_event ?hg (N := 10) ?hd (cs := #[.slice none 0 0]) (t := 26) ?hr ?_; (case hd => rfl); (case hg => rfl); (case hr => first | (go_simp; done) | (go_simp; rfl)); intro gb10 hg w10 hbox hb; have HQ10 := Aside0.mk (Qu.new (w := w) hbox); have GE10 := Aside0.mk (show w.heap.size ≤ gb10 by have := (HB.out).size; omega); have LT10 := Aside0.mk (show gb9 < gb10 by have := blk_lt (HQ9.out).blk; have h2 := hg; omega); have n_ := Aside0.mk (HVA.out.below hb); clear HVA; have HVA := n_; clear n_; have n_ := Aside0.mk (HVB.out.below hb); clear HVB; have HVB := n_; clear n_; have n_ := Aside0.mk (HQ9.out.below hb); clear HQ9; have HQ9 := n_; clear n_; have n_ := Aside0.mk (below_step HB.out hb); clear HB; have HB := n_; clear n_; clear hbox hb hg)
        | ((with_reducible refine gate_dst (N := 11) rfl ?_); refine box_event ?hg (N := 11) ?hd (cs := #[.slice none 0 0]) (t := 26) ?hr ?_; (case hd => rfl); (case hg => rfl); (case hr => first | (go_simp; done) | (go_simp; rfl)); intro gb11 hg w11 hbox hb; have HQ11 := Aside0.mk (Qu.new (w := w) hbox); have GE11 := Aside0.mk (show w.heap.size ≤ gb11 by have := (HB.out).size; omega); have LT11 := Aside0.mk (show gb10 < gb11 by have := blk_lt (HQ10.out).blk; have h2 := hg; omega); have n_ := Aside0.mk (HVA.out.below hb); clear HVA; have HVA := n_; clear n_; have n_ := Aside0.mk (HVB.out.below hb); clear HVB; have HVB := n_; clear n_; have n_ := Aside0.mk (HQ9.out.below hb); clear HQ9; have HQ9 := n_; clear n_; have n_ := Aside0.mk (HQ10.out.below hb); clear HQ10; have HQ10 := n_; clear n_; have n_ := Aside0.mk (below_step HB.out hb); clear HB; have HB := n_; clear n_; clear hbox hb hg)
        | ((with_reducible refine gate_dst (N := 12) rfl ?_); refine box_event ?hg (N := 12) ?hd (cs := #[.slice none 0 0]) (t := 26) ?hr ?_; (case hd => rfl); (case hg => rfl); (case hr => first | (go_simp; done) | (go_simp; rfl)); intro gb12 hg w12 hbox hb; have HQ12 := Aside0.mk (Qu.new (w := w) hbox); have GE12 := Aside0.mk (show w.heap.size ≤ gb12 by have := (HB.out).size; omega); have LT12 := Aside0.mk (show gb11 < gb12 by have := blk_lt (HQ11.out).blk; have h2 := hg; omega); have n_ := Aside0.mk (HVA.out.below hb); clear HVA; have HVA := n_; clear n_; have n_ := Aside0.mk (HVB.out.below hb); clear HVB; have HVB := n_; clear n_; have n_ := Aside0.mk (HQ9.out.below hb); clear HQ9; have HQ9 := n_; clear n_; have n_ := Aside0.mk (HQ10.out.below hb); clear HQ10; have HQ10 := n_; clear n_; have n_ := Aside0.mk (HQ11.out.below hb); clear HQ11; have HQ11 := n_; clear n_; have n_ := Aside0.mk (below_step HB.out hb); clear HB; have HB := n_; clear n_; clear hbox hb hg)
        | ((with_reducible refine gate_dst (N := 13) rfl ?_); refine box_event ?hg (N := 13) ?hd (cs := #[.slice none 0 0]) (t := 26) ?hr ?_; (case hd => rfl); (case hg => rfl); (case hr => first | (go_simp; done) | (go_simp; rfl)); intro gb13 hg w13 hbox hb; have HQ13 := Aside0.mk (Qu.new (w := w) hbox); have GE13 := Aside0.mk (show w.heap.size ≤ gb13 by have := (HB.out).size; omega); have LT13 := Aside0.mk (show gb12 < gb13 by have := blk_lt (HQ12.out).blk; have h2 := hg; omega); have n_ := Aside0.mk (HVA.out.below hb); clear HVA; have HVA := n_; clear n_; have n_ := Aside0.mk (HVB.out.below hb); clear HVB; have HVB := n_; clear n_; have n_ := Aside0.mk (HQ9.out.below hb); clear HQ9; have HQ9 := n_; clear n_; have n_ := Aside0.mk (HQ10.out.below hb); clear HQ10; have HQ10 := n_; clear n_; have n_ := Aside0.mk (HQ11.out.below hb); clear HQ11; have HQ11 := n_; clear n_; have n_ := Aside0.mk (HQ12.out.below hb); clear HQ12; have HQ12 := n_; clear n_; have n_ := Aside0.mk (below_step HB.out hb); clear HB; have HB := n_; clear n_; clear hbox hb hg))
      go_loopg [30] L3 (fun gg v30 wr => ∃ (i : Int) (q : List Int) (vx vl : Value), v30 = .int .i64 i ∧ Aside0 (arrearslaw08_QuillParts.go (la.drop i.toNat) q = some X) ∧ Aside0 (0 ≤ i ∧ i ≤ (L3 : Int) ∧ L3 - i.toNat ≤ gg) ∧ Aside0 (Qu wr gb9 vx q) ∧ Aside0 (Qu wr gb11 vl q) ∧ Aside0 (∀ k, vx.ownBlock = some k → w.heap.size ≤ k) ∧ Aside0 (∀ k, vl.ownBlock = some k → w.heap.size ≤ k) ∧ Aside0 (∀ k, vx.ownBlock = some k → vl.ownBlock ≠ some k) ∧ Aside0 (Qu wr gb10 (.slice none 0 0) []) ∧ Aside0 (Qu wr gb12 (.slice none 0 0) []) ∧ Aside0 (Qu wr gb13 (.slice none 0 0) []) ∧ Aside0 (VR w5.heap.size wr (.slice A3 L3 c3) la) ∧ Aside0 (VR w5.heap.size wr (.slice A4 L4 c4) lb) ∧ Aside0 (Below w.heap.size w wr) ∧ Aside0 (w5.heap.size ≤ wr.heap.size))
      case atStart => exact ⟨0, [], .slice none 0 0, .slice none 0 0, rfl, ⟨HX.out⟩, ⟨by omega, by omega, by omega⟩, HQ9, HQ11, ⟨nil_own _⟩, ⟨nil_own _⟩, ⟨fun k e => by simp [Value.ownBlock] at e⟩, HQ10, HQ12, HQ13, HVA, HVB, HB, ⟨by have := GE9.out; have := blk_lt HQ9.out.blk; have := HS5.out; omega⟩⟩
      case round =>
        obtain ⟨i, q, vx, vl, rfl, HA, HI, HQ9, HQ11, HO9, HO11, D1, HQ10, HQ12, HQ13, HVA, HVB, HB, HSZ⟩ := hrel
        have hi0 : 0 ≤ i := HI.out.1
        by_cases hlt : i < (L3 : Int)
        · have hdr := rd_drop8 la i hi0 (by have := HL3.out; omega)
          have hH := HA.out
          rw [hdr] at hH
          obtain ⟨ad, ead, hx0, hx1, hx2, hx3, hx4⟩ := at_T40 (by have h3 := HVA.out; rw [← HL3.out] at h3; exact h3.at_) i hi0 (by have := HL3.out; omega)
          subst ead
          generalize rd_T40 la i = x at hH hx0 hx1 hx2 hx3 hx4
          obtain ⟨f0, f1, f2, f3, f4⟩ := x
          rw [arrearslaw08_QuillParts.go] at hH
          split at hH
          · rename_i hgd
            have HH := Aside0.mk hH
            have hgd1 : (0 ≤ f0 ∧ f0 ≤ 255) ∧ (0 ≤ f1 ∧ f1 ≤ 18446744073709551615) ∧ (-9223372036854775808 ≤ f2 ∧ f2 ≤ 9223372036854775807) ∧ f3.size ≤ 100000 := hgd.1
            have HGD := Aside0.mk (And.intro hgd1 hgd.2)
            clear hgd1
            have hi1 := Aside0.mk (show wrap64 (i + 1) = i + 1 by have := HG.out.1; have := HG.out.2.1; have := HL3.out; unfold wrap64; omega)
            clear hH hgd HA hdr
            go_upto_region 8 with (first | ((with_reducible refine gate_dst (N := 15) rfl ?_); refine box_event ?hg (N := 15) ?hd (cs := #[.int .u8 0, .int .u64 0, .int .i64 0, .string (⟨#[]⟩ : ByteArray), .int .u64 0]) (t := 40) ?hr ?_; (case hd => rfl); (case hg => rfl); (case hr => first | (go_simp; done) | (go_simp; rfl)); intro gb15 hg wb hbox hb; have BK := Aside0.mk hbox; have GEB := Aside0.mk (Nat.le_of_eq hg.symm : wr.heap.size ≤ gb15); have n_ := Aside0.mk (HQ9.out.below hb); clear HQ9; have HQ9 := n_; clear n_; have n_ := Aside0.mk (HQ10.out.below hb); clear HQ10; have HQ10 := n_; clear n_; have n_ := Aside0.mk (HQ11.out.below hb); clear HQ11; have HQ11 := n_; clear n_; have n_ := Aside0.mk (HQ12.out.below hb); clear HQ12; have HQ12 := n_; clear n_; have n_ := Aside0.mk (HQ13.out.below hb); clear HQ13; have HQ13 := n_; clear n_; have n_ := Aside0.mk (HVA.out.below hb); clear HVA; have HVA := n_; clear n_; have n_ := Aside0.mk (HVB.out.below hb); clear HVB; have HVB := n_; clear n_; have n_ := Aside0.mk (below_step HB.out hb); clear HB; have HB := n_; clear n_; have hcz_0 : wb.cell? ⟨gb15, 0, none⟩ = some (.int .u8 0) := blk_cell hbox 0; have hfz_0 := blk_frozen hbox 0; have hcz_1 : wb.cell? ⟨gb15, 1, none⟩ = some (.int .u64 0) := blk_cell hbox 1; have hfz_1 := blk_frozen hbox 1; have hcz_2 : wb.cell? ⟨gb15, 2, none⟩ = some (.int .i64 0) := blk_cell hbox 2; have hfz_2 := blk_frozen hbox 2; have hcz_3 : wb.cell? ⟨gb15, 3, none⟩ = some (.string (⟨#[]⟩ : ByteArray)) := blk_cell hbox 3; have hfz_3 := blk_frozen hbox 3; have hcz_4 : wb.cell? ⟨gb15, 4, none⟩ = some (.int .u64 0) := blk_cell hbox 4; have hfz_4 := blk_frozen hbox 4; clear hbox hb hg hx0 hx1 hx2 hx3 hx4))
            change Code.wp _ _ _ _ (setV wb gb15 f0 f1 f2 f3 f4)
            have hT9 : Ty wb gb15 40 := Ty.of BK.out
            have HQ9_ := Aside0.mk (setV_Qu (x0 := f0) (x1 := f1) (x2 := f2) (s := f3) (x4 := f4) HQ9.out hT9)
            have HQ10_ := Aside0.mk (setV_Qu (x0 := f0) (x1 := f1) (x2 := f2) (s := f3) (x4 := f4) HQ10.out hT9)
            have HQ11_ := Aside0.mk (setV_Qu (x0 := f0) (x1 := f1) (x2 := f2) (s := f3) (x4 := f4) HQ11.out hT9)
            have HQ12_ := Aside0.mk (setV_Qu (x0 := f0) (x1 := f1) (x2 := f2) (s := f3) (x4 := f4) HQ12.out hT9)
            have HQ13_ := Aside0.mk (setV_Qu (x0 := f0) (x1 := f1) (x2 := f2) (s := f3) (x4 := f4) HQ13.out hT9)
            have HVA_ := Aside0.mk (setV_VR (x0 := f0) (x1 := f1) (x2 := f2) (s := f3) (x4 := f4) HVA.out (Nat.le_trans HSZ.out GEB.out))
            have HVB_ := Aside0.mk (setV_VR (x0 := f0) (x1 := f1) (x2 := f2) (s := f3) (x4 := f4) HVB.out (Nat.le_trans HSZ.out GEB.out))
            have HB_ := Aside0.mk (setV_below (x0 := f0) (x1 := f1) (x2 := f2) (s := f3) (x4 := f4) HB.out (Nat.le_trans GEW.out (Nat.le_trans HSZ.out GEB.out)))
            have hbk := setV_blk (x0 := f0) (x1 := f1) (x2 := f2) (s := f3) (x4 := f4) BK.out
            have HSZ_ := Aside0.mk (show w5.heap.size ≤ (setV wb gb15 f0 f1 f2 f3 f4).heap.size by rw [setV_size]; have := blk_lt BK.out; have := GEB.out; have := HSZ.out; omega)
            clear HQ9 HQ10 HQ11 HQ12 HQ13 HVA HVB HB HSZ BK hT9 hcz_0 hfz_0 hcz_1 hfz_1 hcz_2 hfz_2 hcz_3 hfz_3 hcz_4 hfz_4
            generalize setV wb gb15 f0 f1 f2 f3 f4 = W at HQ9_ HQ10_ HQ11_ HQ12_ HQ13_ HVA_ HVB_ HB_ HSZ_ hbk
            have HQ9 := HQ9_
            clear HQ9_
            have HQ10 := HQ10_
            clear HQ10_
            have HQ11 := HQ11_
            clear HQ11_
            have HQ12 := HQ12_
            clear HQ12_
            have HQ13 := HQ13_
            clear HQ13_
            have HVA := HVA_
            clear HVA_
            have HVB := HVB_
            clear HVB_
            have HB := HB_
            clear HB_
            have HSZ := HSZ_
            clear HSZ_
            have hcw_0 : W.cell? ⟨gb15, 0, none⟩ = some (.int .u8 f0) := blk_cell hbk 0
            have hcw_1 : W.cell? ⟨gb15, 1, none⟩ = some (.int .u64 f1) := blk_cell hbk 1
            have hcw_2 : W.cell? ⟨gb15, 2, none⟩ = some (.int .i64 f2) := blk_cell hbk 2
            have hcw_3 : W.cell? ⟨gb15, 3, none⟩ = some (.string f3) := blk_cell hbk 3
            have hcw_4 : W.cell? ⟨gb15, 4, none⟩ = some (.int .u64 f4) := blk_cell hbk 4
            have HBK := Aside0.mk hbk
            clear hbk
            go_wp2_with (first
              | (go_at_call 16; (with_reducible refine (law_lay f0 f1 f2 f4 f3 HGD.out.1.1.1 HGD.out.1.1.2 HGD.out.1.2.1.1 HGD.out.1.2.1.2 HGD.out.1.2.2.1.1 HGD.out.1.2.2.1.2 HGD.out.1.2.2.2 gb9 vx q W ?hlen HQ9.out).mono ?_); (case hlen => have := HGD.out.2; omega); rintro e wA ⟨rfl, hd⟩; have HQL0 := Aside0.mk HQ11.out.row; obtain ⟨vA, hq, hvb, hbb, hkq, hsi⟩ := QDone.law (w0 := w) hd HB.out GE9.out HO9.out; have n_ := Aside0.mk (HQ11.out.farQ hkq HQ9.out (by have := LT10.out; have := LT11.out; omega) (fun k h1 h2 => D1.out k h2 h1)); clear HQ11; have HQ11 := n_; clear n_; have n_ := Aside0.mk (HQ10.out.farQ hkq HQ9.out (by have := LT10.out; omega) (fun k e => by simp [Value.ownBlock] at e)); clear HQ10; have HQ10 := n_; clear n_; have n_ := Aside0.mk (HQ12.out.farQ hkq HQ9.out (by have := LT10.out; have := LT11.out; have := LT12.out; omega) (fun k e => by simp [Value.ownBlock] at e)); clear HQ12; have HQ12 := n_; clear n_; have n_ := Aside0.mk (HQ13.out.farQ hkq HQ9.out (by have := LT10.out; have := LT11.out; have := LT12.out; have := LT13.out; omega) (fun k e => by simp [Value.ownBlock] at e)); clear HQ13; have HQ13 := n_; clear n_; have n_ := Aside0.mk (HVA.out.farQ hkq HQ9.out); clear HVA; have HVA := n_; clear n_; have n_ := Aside0.mk (HVB.out.farQ hkq HQ9.out); clear HVB; have HVB := n_; clear n_; have n_ := Aside0.mk (hkq.blkT HQ9.out HBK.out (by decide) (by decide)); clear HBK; have HBK := n_; clear n_; have n_ := Aside0.mk (Nat.le_trans HSZ.out hkq.size); clear HSZ; have HSZ := n_; clear n_; have n_ := Aside0.mk (own_apart2 hsi HQL0.out D1.out); clear D1; have D1 := n_; clear n_; clear HQ9; have HQ9 := Aside0.mk hq; clear HO9; have HO9 := Aside0.mk hvb; have n_ := Aside0.mk hbb; clear HB; have HB := n_; clear n_; clear hcw_0 hcw_1 hcw_2 hcw_3 hcw_4; have hcw_0 : wA.cell? ⟨gb15, 0, none⟩ = some (.int .u8 f0) := blk_cell HBK.out 0; have hcw_1 : wA.cell? ⟨gb15, 1, none⟩ = some (.int .u64 f1) := blk_cell HBK.out 1; have hcw_2 : wA.cell? ⟨gb15, 2, none⟩ = some (.int .i64 f2) := blk_cell HBK.out 2; have hcw_3 : wA.cell? ⟨gb15, 3, none⟩ = some (.string f3) := blk_cell HBK.out 3; have hcw_4 : wA.cell? ⟨gb15, 4, none⟩ = some (.int .u64 f4) := blk_cell HBK.out 4; clear hd hq hvb hbb hkq hsi HQL0)
              | (go_at_call 16; (with_reducible refine (law_lay f0 f1 f2 f4 f3 HGD.out.1.1.1 HGD.out.1.1.2 HGD.out.1.2.1.1 HGD.out.1.2.1.2 HGD.out.1.2.2.1.1 HGD.out.1.2.2.1.2 HGD.out.1.2.2.2 gb11 vl q wA ?hlen HQ11.out).mono ?_); (case hlen => have := HGD.out.2; omega); rintro e wC ⟨rfl, hd⟩; have HQX0 := Aside0.mk HQ9.out.row; obtain ⟨vC, hq, hvb, hbb, hkq, hsi⟩ := QDone.law (w0 := w) hd HB.out GE11.out HO11.out; have n_ := Aside0.mk (HQ9.out.farQ hkq HQ11.out (by have := LT10.out; have := LT11.out; omega) D1.out); clear HQ9; have HQ9 := n_; clear n_; have n_ := Aside0.mk (HQ10.out.farQ hkq HQ11.out (by have := LT11.out; omega) (fun k e => by simp [Value.ownBlock] at e)); clear HQ10; have HQ10 := n_; clear n_; have n_ := Aside0.mk (HQ12.out.farQ hkq HQ11.out (by have := LT12.out; omega) (fun k e => by simp [Value.ownBlock] at e)); clear HQ12; have HQ12 := n_; clear n_; have n_ := Aside0.mk (HQ13.out.farQ hkq HQ11.out (by have := LT12.out; have := LT13.out; omega) (fun k e => by simp [Value.ownBlock] at e)); clear HQ13; have HQ13 := n_; clear n_; have n_ := Aside0.mk (HVA.out.farQ hkq HQ11.out); clear HVA; have HVA := n_; clear n_; have n_ := Aside0.mk (HVB.out.farQ hkq HQ11.out); clear HVB; have HVB := n_; clear n_; have n_ := Aside0.mk (Nat.le_trans HSZ.out hkq.size); clear HSZ; have HSZ := n_; clear n_; have n_ := Aside0.mk (own_apart hsi HQX0.out D1.out); clear D1; have D1 := n_; clear n_; clear HQ11; have HQ11 := Aside0.mk hq; clear HO11; have HO11 := Aside0.mk hvb; have n_ := Aside0.mk hbb; clear HB; have HB := n_; clear n_; clear hcw_0 hcw_1 hcw_2 hcw_3 hcw_4; clear hd hq hvb hbb hkq hsi))
            go_roundg (gk - 1)
            case measure => have := HI.out.2.2; omega
            case rel => exact ⟨i + 1, q ++ qlay f0 f1 f2 f3, vA, vC, by first | rfl | rw [hi1.out], HH, ⟨by have := HI.out; omega, by have := HI.out; omega, by have := HI.out; omega⟩, HQ9, HQ11, HO9, HO11, D1, HQ10, HQ12, HQ13, HVA, HVB, HB, HSZ⟩
          · exact absurd hH (by simp)
        · have hH := HA.out
          rw [List.drop_of_length_le (by have := HL3.out; omega)] at hH
          simp only [arrearslaw08_QuillParts.go, Option.some.injEq] at hH
          replace hH := hH.symm
          subst hH
          clear HA
          clear HVA HI
          obtain ⟨v9, rfl⟩ : ∃ v, v = vx := ⟨_, rfl⟩
          go_wp2
          go_loopg [41] L4 (fun gg v41 wr => ∃ (i : Int) (q : List Int) (vx vl : Value), v41 = .int .i64 i ∧ Aside0 (arrearslaw08_QuillParts.go (lb.drop i.toNat) q = some Y) ∧ Aside0 (0 ≤ i ∧ i ≤ (L4 : Int) ∧ L4 - i.toNat ≤ gg) ∧ Aside0 (Qu wr gb10 vx q) ∧ Aside0 (Qu wr gb11 vl (X ++ q)) ∧ Aside0 (∀ k, vx.ownBlock = some k → w.heap.size ≤ k) ∧ Aside0 (∀ k, vl.ownBlock = some k → w.heap.size ≤ k) ∧ Aside0 (∀ k, vx.ownBlock = some k → vl.ownBlock ≠ some k) ∧ Aside0 (Qu wr gb9 v9 X) ∧ Aside0 (∀ k, v9.ownBlock = some k → vx.ownBlock ≠ some k) ∧ Aside0 (∀ k, v9.ownBlock = some k → vl.ownBlock ≠ some k) ∧ Aside0 (Qu wr gb12 (.slice none 0 0) []) ∧ Aside0 (Qu wr gb13 (.slice none 0 0) []) ∧ Aside0 (VR w5.heap.size wr (.slice A4 L4 c4) lb) ∧ Aside0 (Below w.heap.size w wr) ∧ Aside0 (w5.heap.size ≤ wr.heap.size))
          case atStart => exact ⟨0, [], .slice none 0 0, vl, rfl, ⟨HY.out⟩, ⟨by omega, by omega, by omega⟩, HQ10, ⟨by rw [List.append_nil]; exact HQ11.out⟩, ⟨nil_own _⟩, HO11, ⟨fun k e => by simp [Value.ownBlock] at e⟩, HQ9, ⟨fun k _ e => by simp [Value.ownBlock] at e⟩, D1, HQ12, HQ13, HVB, HB, HSZ⟩
          case round =>
            obtain ⟨i, q, vx, vl, rfl, HA, HI, HQ10, HQ11, HO10, HO11, D1, HQ9, D2, D3, HQ12, HQ13, HVB, HB, HSZ⟩ := hrel
            have hi0 : 0 ≤ i := HI.out.1
            by_cases hlt : i < (L4 : Int)
            · have hdr := rd_drop8 lb i hi0 (by have := HL4.out; omega)
              have hH := HA.out
              rw [hdr] at hH
              obtain ⟨ad, ead, hx0, hx1, hx2, hx3, hx4⟩ := at_T40 (by have h3 := HVB.out; rw [← HL4.out] at h3; exact h3.at_) i hi0 (by have := HL4.out; omega)
              subst ead
              generalize rd_T40 lb i = x at hH hx0 hx1 hx2 hx3 hx4
              obtain ⟨f0, f1, f2, f3, f4⟩ := x
              rw [arrearslaw08_QuillParts.go] at hH
              split at hH
              · rename_i hgd
                have HH := Aside0.mk hH
                have hgd1 : (0 ≤ f0 ∧ f0 ≤ 255) ∧ (0 ≤ f1 ∧ f1 ≤ 18446744073709551615) ∧ (-9223372036854775808 ≤ f2 ∧ f2 ≤ 9223372036854775807) ∧ f3.size ≤ 100000 := hgd.1
                have HGD := Aside0.mk (And.intro hgd1 hgd.2)
                clear hgd1
                have hi1 := Aside0.mk (show wrap64 (i + 1) = i + 1 by have := HG.out.1; have := HG.out.2.1; have := HL4.out; unfold wrap64; omega)
                clear hH hgd HA hdr
                go_upto_region 14 with (first | ((with_reducible refine gate_dst (N := 17) rfl ?_); refine box_event ?hg (N := 17) ?hd (cs := #[.int .u8 0, .int .u64 0, .int .i64 0, .string (⟨#[]⟩ : ByteArray), .int .u64 0]) (t := 40) ?hr ?_; (case hd => rfl); (case hg => rfl); (case hr => first | (go_simp; done) | (go_simp; rfl)); intro gb17 hg wb hbox hb; have BK := Aside0.mk hbox; have GEB := Aside0.mk (Nat.le_of_eq hg.symm : wr.heap.size ≤ gb17); have n_ := Aside0.mk (HQ9.out.below hb); clear HQ9; have HQ9 := n_; clear n_; have n_ := Aside0.mk (HQ10.out.below hb); clear HQ10; have HQ10 := n_; clear n_; have n_ := Aside0.mk (HQ11.out.below hb); clear HQ11; have HQ11 := n_; clear n_; have n_ := Aside0.mk (HQ12.out.below hb); clear HQ12; have HQ12 := n_; clear n_; have n_ := Aside0.mk (HQ13.out.below hb); clear HQ13; have HQ13 := n_; clear n_; have n_ := Aside0.mk (HVB.out.below hb); clear HVB; have HVB := n_; clear n_; have n_ := Aside0.mk (below_step HB.out hb); clear HB; have HB := n_; clear n_; have hcz_0 : wb.cell? ⟨gb17, 0, none⟩ = some (.int .u8 0) := blk_cell hbox 0; have hfz_0 := blk_frozen hbox 0; have hcz_1 : wb.cell? ⟨gb17, 1, none⟩ = some (.int .u64 0) := blk_cell hbox 1; have hfz_1 := blk_frozen hbox 1; have hcz_2 : wb.cell? ⟨gb17, 2, none⟩ = some (.int .i64 0) := blk_cell hbox 2; have hfz_2 := blk_frozen hbox 2; have hcz_3 : wb.cell? ⟨gb17, 3, none⟩ = some (.string (⟨#[]⟩ : ByteArray)) := blk_cell hbox 3; have hfz_3 := blk_frozen hbox 3; have hcz_4 : wb.cell? ⟨gb17, 4, none⟩ = some (.int .u64 0) := blk_cell hbox 4; have hfz_4 := blk_frozen hbox 4; clear hbox hb hg hx0 hx1 hx2 hx3 hx4))
                change Code.wp _ _ _ _ (setV wb gb17 f0 f1 f2 f3 f4)
                have hT9 : Ty wb gb17 40 := Ty.of BK.out
                have HQ9_ := Aside0.mk (setV_Qu (x0 := f0) (x1 := f1) (x2 := f2) (s := f3) (x4 := f4) HQ9.out hT9)
                have HQ10_ := Aside0.mk (setV_Qu (x0 := f0) (x1 := f1) (x2 := f2) (s := f3) (x4 := f4) HQ10.out hT9)
                have HQ11_ := Aside0.mk (setV_Qu (x0 := f0) (x1 := f1) (x2 := f2) (s := f3) (x4 := f4) HQ11.out hT9)
                have HQ12_ := Aside0.mk (setV_Qu (x0 := f0) (x1 := f1) (x2 := f2) (s := f3) (x4 := f4) HQ12.out hT9)
                have HQ13_ := Aside0.mk (setV_Qu (x0 := f0) (x1 := f1) (x2 := f2) (s := f3) (x4 := f4) HQ13.out hT9)
                have HVB_ := Aside0.mk (setV_VR (x0 := f0) (x1 := f1) (x2 := f2) (s := f3) (x4 := f4) HVB.out (Nat.le_trans HSZ.out GEB.out))
                have HB_ := Aside0.mk (setV_below (x0 := f0) (x1 := f1) (x2 := f2) (s := f3) (x4 := f4) HB.out (Nat.le_trans GEW.out (Nat.le_trans HSZ.out GEB.out)))
                have hbk := setV_blk (x0 := f0) (x1 := f1) (x2 := f2) (s := f3) (x4 := f4) BK.out
                have HSZ_ := Aside0.mk (show w5.heap.size ≤ (setV wb gb17 f0 f1 f2 f3 f4).heap.size by rw [setV_size]; have := blk_lt BK.out; have := GEB.out; have := HSZ.out; omega)
                clear HQ9 HQ10 HQ11 HQ12 HQ13 HVB HB HSZ BK hT9 hcz_0 hfz_0 hcz_1 hfz_1 hcz_2 hfz_2 hcz_3 hfz_3 hcz_4 hfz_4
                generalize setV wb gb17 f0 f1 f2 f3 f4 = W at HQ9_ HQ10_ HQ11_ HQ12_ HQ13_ HVB_ HB_ HSZ_ hbk
                have HQ9 := HQ9_
                clear HQ9_
                have HQ10 := HQ10_
                clear HQ10_
                have HQ11 := HQ11_
                clear HQ11_
                have HQ12 := HQ12_
                clear HQ12_
                have HQ13 := HQ13_
                clear HQ13_
                have HVB := HVB_
                clear HVB_
                have HB := HB_
                clear HB_
                have HSZ := HSZ_
                clear HSZ_
                have hcw_0 : W.cell? ⟨gb17, 0, none⟩ = some (.int .u8 f0) := blk_cell hbk 0
                have hcw_1 : W.cell? ⟨gb17, 1, none⟩ = some (.int .u64 f1) := blk_cell hbk 1
                have hcw_2 : W.cell? ⟨gb17, 2, none⟩ = some (.int .i64 f2) := blk_cell hbk 2
                have hcw_3 : W.cell? ⟨gb17, 3, none⟩ = some (.string f3) := blk_cell hbk 3
                have hcw_4 : W.cell? ⟨gb17, 4, none⟩ = some (.int .u64 f4) := blk_cell hbk 4
                have HBK := Aside0.mk hbk
                clear hbk
                go_wp2_with (first
                  | (go_at_call 16; (with_reducible refine (law_lay f0 f1 f2 f4 f3 HGD.out.1.1.1 HGD.out.1.1.2 HGD.out.1.2.1.1 HGD.out.1.2.1.2 HGD.out.1.2.2.1.1 HGD.out.1.2.2.1.2 HGD.out.1.2.2.2 gb10 vx q W ?hlen HQ10.out).mono ?_); (case hlen => have := HGD.out.2; omega); rintro e wA ⟨rfl, hd⟩; have HQL0 := Aside0.mk HQ11.out.row; have HQX0 := Aside0.mk HQ9.out.row; obtain ⟨vA, hq, hvb, hbb, hkq, hsi⟩ := QDone.law (w0 := w) hd HB.out GE10.out HO10.out; have n_ := Aside0.mk (HQ11.out.farQ hkq HQ10.out (by have := LT11.out; omega) (fun k h1 h2 => D1.out k h2 h1)); clear HQ11; have HQ11 := n_; clear n_; have n_ := Aside0.mk (HQ9.out.farQ hkq HQ10.out (by have := LT10.out; omega) D2.out); clear HQ9; have HQ9 := n_; clear n_; have n_ := Aside0.mk (HQ12.out.farQ hkq HQ10.out (by have := LT11.out; have := LT12.out; omega) (fun k e => by simp [Value.ownBlock] at e)); clear HQ12; have HQ12 := n_; clear n_; have n_ := Aside0.mk (HQ13.out.farQ hkq HQ10.out (by have := LT11.out; have := LT12.out; have := LT13.out; omega) (fun k e => by simp [Value.ownBlock] at e)); clear HQ13; have HQ13 := n_; clear n_; have n_ := Aside0.mk (HVB.out.farQ hkq HQ10.out); clear HVB; have HVB := n_; clear n_; have n_ := Aside0.mk (hkq.blkT HQ10.out HBK.out (by decide) (by decide)); clear HBK; have HBK := n_; clear n_; have n_ := Aside0.mk (Nat.le_trans HSZ.out hkq.size); clear HSZ; have HSZ := n_; clear n_; have n_ := Aside0.mk (own_apart2 hsi HQL0.out D1.out); clear D1; have D1 := n_; clear n_; have n_ := Aside0.mk (own_apart hsi HQX0.out D2.out); clear D2; have D2 := n_; clear n_; clear HQ10; have HQ10 := Aside0.mk hq; clear HO10; have HO10 := Aside0.mk hvb; have n_ := Aside0.mk hbb; clear HB; have HB := n_; clear n_; clear hcw_0 hcw_1 hcw_2 hcw_3 hcw_4; have hcw_0 : wA.cell? ⟨gb17, 0, none⟩ = some (.int .u8 f0) := blk_cell HBK.out 0; have hcw_1 : wA.cell? ⟨gb17, 1, none⟩ = some (.int .u64 f1) := blk_cell HBK.out 1; have hcw_2 : wA.cell? ⟨gb17, 2, none⟩ = some (.int .i64 f2) := blk_cell HBK.out 2; have hcw_3 : wA.cell? ⟨gb17, 3, none⟩ = some (.string f3) := blk_cell HBK.out 3; have hcw_4 : wA.cell? ⟨gb17, 4, none⟩ = some (.int .u64 f4) := blk_cell HBK.out 4; clear hd hq hvb hbb hkq hsi HQL0 HQX0)
                  | (go_at_call 16; (with_reducible refine (law_lay f0 f1 f2 f4 f3 HGD.out.1.1.1 HGD.out.1.1.2 HGD.out.1.2.1.1 HGD.out.1.2.1.2 HGD.out.1.2.2.1.1 HGD.out.1.2.2.1.2 HGD.out.1.2.2.2 gb11 vl (X ++ q) wA ?hlen HQ11.out).mono ?_); (case hlen => rw [List.length_append]; have := HGD.out.2; have := HG.out.2.2.1; omega); rintro e wC ⟨rfl, hd⟩; have HQX0 := Aside0.mk HQ10.out.row; have HQY0 := Aside0.mk HQ9.out.row; obtain ⟨vC, hq, hvb, hbb, hkq, hsi⟩ := QDone.law (w0 := w) hd HB.out GE11.out HO11.out; have n_ := Aside0.mk (HQ10.out.farQ hkq HQ11.out (by have := LT11.out; omega) D1.out); clear HQ10; have HQ10 := n_; clear n_; have n_ := Aside0.mk (HQ9.out.farQ hkq HQ11.out (by have := LT10.out; have := LT11.out; omega) D3.out); clear HQ9; have HQ9 := n_; clear n_; have n_ := Aside0.mk (HQ12.out.farQ hkq HQ11.out (by have := LT12.out; omega) (fun k e => by simp [Value.ownBlock] at e)); clear HQ12; have HQ12 := n_; clear n_; have n_ := Aside0.mk (HQ13.out.farQ hkq HQ11.out (by have := LT12.out; have := LT13.out; omega) (fun k e => by simp [Value.ownBlock] at e)); clear HQ13; have HQ13 := n_; clear n_; have n_ := Aside0.mk (HVB.out.farQ hkq HQ11.out); clear HVB; have HVB := n_; clear n_; have n_ := Aside0.mk (Nat.le_trans HSZ.out hkq.size); clear HSZ; have HSZ := n_; clear n_; have n_ := Aside0.mk (own_apart hsi HQX0.out D1.out); clear D1; have D1 := n_; clear n_; have n_ := Aside0.mk (own_apart hsi HQY0.out D3.out); clear D3; have D3 := n_; clear n_; clear HQ11; have HQ11 := Aside0.mk hq; clear HO11; have HO11 := Aside0.mk hvb; have n_ := Aside0.mk hbb; clear HB; have HB := n_; clear n_; clear hcw_0 hcw_1 hcw_2 hcw_3 hcw_4; clear hd hq hvb hbb hkq hsi))
                go_roundg (gk - 1)
                case measure => have := HI.out.2.2; omega
                case rel => exact ⟨i + 1, q ++ qlay f0 f1 f2 f3, vA, vC, by first | rfl | rw [hi1.out], HH, ⟨by have := HI.out; omega, by have := HI.out; omega, by have := HI.out; omega⟩, HQ10, ⟨by rw [← List.append_assoc]; exact HQ11.out⟩, HO10, HO11, D1, HQ9, D2, D3, HQ12, HQ13, HVB, HB, HSZ⟩
              · exact absurd hH (by simp)
            · have hH := HA.out
              rw [List.drop_of_length_le (by have := HL4.out; omega)] at hH
              simp only [arrearslaw08_QuillParts.go, Option.some.injEq] at hH
              replace hH := hH.symm
              subst hH
              clear HA
              go_wp2_with (first
                | (go_at_call 9; (with_reducible refine (quill_Done gb11 vl (X ++ Y) wr ?hlen HQ11.out).mono ?_); (case hlen => rw [List.length_append]; have := HG.out.2.2; omega); rintro e w50 ⟨v50, rfl, h1, h2, h3⟩; obtain ⟨A50, cc50, e_, _, _⟩ := h1.slice; generalize hn_ : ((X ++ Y)).length = n50 at e_; subst e_; have HN50 := Aside0.mk hn_; clear hn_; have HR50 := Aside0.mk h1; have n_ := Aside0.mk (HQ9.out.below h3); clear HQ9; have HQ9 := n_; clear n_; have n_ := Aside0.mk (HQ10.out.below h3); clear HQ10; have HQ10 := n_; clear n_; have n_ := Aside0.mk (HQ12.out.below h3); clear HQ12; have HQ12 := n_; clear n_; have n_ := Aside0.mk (HQ13.out.below h3); clear HQ13; have HQ13 := n_; clear n_; have n_ := Aside0.mk (below_step HB.out h3); clear HB; have HB := n_; clear n_; clear h1 h2 h3)
                | (go_at_call 9; (with_reducible refine (quill_Done gb9 v9 X w50 ?hlen HQ9.out).mono ?_); (case hlen => have := HG.out.2.2; omega); rintro e w51 ⟨v51, rfl, h1, h2, h3⟩; obtain ⟨A51, cc51, e_, _, _⟩ := h1.slice; generalize hn_ : (X).length = n51 at e_; subst e_; have HN51 := Aside0.mk hn_; clear hn_; have HR51 := Aside0.mk h1; have n_ := Aside0.mk (HQ10.out.below h3); clear HQ10; have HQ10 := n_; clear n_; have n_ := Aside0.mk (HQ12.out.below h3); clear HQ12; have HQ12 := n_; clear n_; have n_ := Aside0.mk (HQ13.out.below h3); clear HQ13; have HQ13 := n_; clear n_; have n_ := Aside0.mk (HR50.out.below h3); clear HR50; have HR50 := n_; clear n_; have n_ := Aside0.mk (below_step HB.out h3); clear HB; have HB := n_; clear n_; clear h1 h2 h3)
                | (go_at_call 9; (with_reducible refine (quill_Done gb10 vx Y w51 ?hlen HQ10.out).mono ?_); (case hlen => have := HG.out.2.2; omega); rintro e w52 ⟨v52, rfl, h1, h2, h3⟩; obtain ⟨A52, cc52, e_, _, _⟩ := h1.slice; generalize hn_ : (Y).length = n52 at e_; subst e_; have HN52 := Aside0.mk hn_; clear hn_; have HR52 := Aside0.mk h1; have n_ := Aside0.mk (HQ12.out.below h3); clear HQ12; have HQ12 := n_; clear n_; have n_ := Aside0.mk (HQ13.out.below h3); clear HQ13; have HQ13 := n_; clear n_; have n_ := Aside0.mk (HR50.out.below h3); clear HR50; have HR50 := n_; clear n_; have n_ := Aside0.mk (HR51.out.below h3); clear HR51; have HR51 := n_; clear n_; have n_ := Aside0.mk (below_step HB.out h3); clear HB; have HB := n_; clear n_; clear h1 h2 h3)
                | (go_at_call 18; refine calls_of_args (args' := #[.slice (some ⟨w52.heap.size, 0, none⟩) [X, Y].length 2]) rfl ((arrearsref01_Join.calls k _ 2 [X, Y] J _ (lit2n (W := w52) HR51.out HR52.out) (by simp) HJ.out).mono ?_); rintro e w54 ⟨v54, rfl, ho, hb⟩; have HY54 := Aside0.mk (Bys.ofR ho); obtain ⟨A54, cc54, e_, _, _⟩ := HY54.out.slice; subst e_; have bel_ := below_step (below_alloc (Below.refl w52.heap.size w52) (.cells #[.slice A51 n51 cc51, .slice A52 n52 cc52] 24)) hb; have n_ := Aside0.mk (HR50.out.below bel_); clear HR50; have HR50 := n_; clear n_; have n_ := Aside0.mk (HQ12.out.below bel_); clear HQ12; have HQ12 := n_; clear n_; have n_ := Aside0.mk (HQ13.out.below bel_); clear HQ13; have HQ13 := n_; clear n_; have n_ := Aside0.mk (below_step HB.out bel_); clear HB; have HB := n_; clear n_; clear ho hb bel_)
                | (go_at_call 17; (with_reducible change Calls _ _ #[Value.slice A50 _ _, _] _ _); (with_reducible refine calls_of_args (args' := #[.slice A50 (X ++ Y).length cc50, .slice A54 J.length cc54]) (by rw [HN50.out]) ((arrearsref01_Same.calls k A50 cc50 (X ++ Y) A54 cc54 J true w54 (by have h_ := HR50.out; rw [← HN50.out] at h_; exact h_.rd.1) (by have h_ := HR50.out; rw [← HN50.out] at h_; exact h_.rd.2) HY54.out.rd.1 HY54.out.rd.2 HC.out).mono ?_)); rintro e w55 ⟨rfl, hdr⟩; have n_ := Aside0.mk (HQ12.out.below hdr.below); clear HQ12; have HQ12 := n_; clear n_; have n_ := Aside0.mk (HQ13.out.below hdr.below); clear HQ13; have HQ13 := n_; clear n_; have n_ := Aside0.mk (below_step HB.out hdr.below); clear HB; have HB := n_; clear n_; clear hdr)
                | (go_at_call 19; (with_reducible refine (quill_Text s HG.out.2.2.2.2.1 gb12 _ [] w55 ?hlen HQ12.out).mono ?_); (case hlen => simp); rintro e w61 ⟨rfl, hd⟩; rw [List.nil_append, HPS.out] at hd; obtain ⟨v61, hq, hvb, hbb, hkq, hsi⟩ := QDone.law (w0 := w) hd HB.out GE12.out (nil_own _); have n_ := Aside0.mk (HQ13.out.farQ hkq HQ12.out (by have := LT13.out; omega) (fun k e => by simp [Value.ownBlock] at e)); clear HQ13; have HQ13 := n_; clear n_; have HT12 := Aside0.mk hq; have n_ := Aside0.mk hbb; clear HB; have HB := n_; clear n_; clear hd hq hvb hbb hkq hsi)
                | (go_at_call 9; (with_reducible refine (quill_Done gb12 v61 PS w61 ?hlen HT12.out).mono ?_); (case hlen => have := HLS.out; omega); rintro e w62 ⟨v62, rfl, h1, h2, h3⟩; obtain ⟨A62, cc62, e_, _, _⟩ := h1.slice; generalize hn_ : PS.length = n62 at e_; subst e_; have HN62 := Aside0.mk hn_; clear hn_; have HR62 := Aside0.mk h1; have n_ := Aside0.mk (HQ13.out.below h3); clear HQ13; have HQ13 := n_; clear n_; have n_ := Aside0.mk (below_step HB.out h3); clear HB; have HB := n_; clear n_; clear h1 h2 h3)
                | (go_at_call 19; (with_reducible refine (quill_Text t HG.out.2.2.2.2.2 gb13 _ [] w62 ?hlen HQ13.out).mono ?_); (case hlen => simp); rintro e w64 ⟨rfl, hd⟩; rw [List.nil_append, HPT.out] at hd; obtain ⟨v64, hq, hvb, hbb, hkq, hsi⟩ := QDone.law (w0 := w) hd HB.out GE13.out (nil_own _); have n_ := Aside0.mk (HR62.out.keepQ hkq HQ13.out (fun k _ e => by simp [Value.ownBlock] at e)); clear HR62; have HR62 := n_; clear n_; have HT13 := Aside0.mk hq; have n_ := Aside0.mk hbb; clear HB; have HB := n_; clear n_; clear hd hq hvb hbb hkq hsi)
                | (go_at_call 9; (with_reducible refine (quill_Done gb13 v64 PT w64 ?hlen HT13.out).mono ?_); (case hlen => have := HLT.out; omega); rintro e w65 ⟨v65, rfl, h1, h2, h3⟩; obtain ⟨A65, cc65, e_, _, _⟩ := h1.slice; generalize hn_ : PT.length = n65 at e_; subst e_; have HN65 := Aside0.mk hn_; clear hn_; have HR65 := Aside0.mk h1; have n_ := Aside0.mk (HR62.out.below h3); clear HR62; have HR62 := n_; clear n_; have n_ := Aside0.mk (below_step HB.out h3); clear HB; have HB := n_; clear n_; clear h1 h2 h3)
                | (go_at_call 17; (with_reducible change Calls _ _ #[Value.slice A62 _ _, _] _ _); (with_reducible refine calls_of_args (args' := #[.slice A62 PS.length cc62, .slice A65 PT.length cc65]) (by rw [HN62.out, HN65.out]) ((arrearsref01_Same.calls k A62 cc62 PS A65 cc65 PT d w65 (by have h_ := HR62.out; rw [← HN62.out] at h_; exact h_.rd.1) (by have h_ := HR62.out; rw [← HN62.out] at h_; exact h_.rd.2) (by have h_ := HR65.out; rw [← HN65.out] at h_; exact h_.rd.1) (by have h_ := HR65.out; rw [← HN65.out] at h_; exact h_.rd.2) HD.out).mono ?_)); rintro e w66 ⟨rfl, hdr⟩; have n_ := Aside0.mk (below_step HB.out hdr.below); clear HB; have HB := n_; clear n_; clear hdr))
              go_ret
              exact ⟨by rw [HST.out]; simp, HB.out⟩
  · rw [if_neg hg] at h
    exact absurd h (by simp)
end


end Go.Proofs.Ytdojgjbiilnjpaa.PQuillParts
