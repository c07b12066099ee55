-- Printed by a wrapper of this session's round the kit's print.py; Lean checks it.
import Derived.Test.YtjidjobennlfjaaPLatePaysx0
namespace Go.Proofs.Ytjidjobennlfjaa.PLatePays
open Go.RowKit Go.Proofs.YtjidjobennlfjaaW.PrintWords Go.Proofs.YtjidjobennlfjaaW.PrintLast Go.Proofs.YtjidjobennlfjaaW.PrintMore
attribute [local go_sem] max2_int min2_int max_two min_two max_three min_three max_four min_four   -- for this text's walks alone
set_option linter.unusedVariables false
set_option linter.unusedSimpArgs false

abbrev T_ : Bool := true
abbrev F_ : Bool := false

/-! ### late_Oldest: function 10 -/
/-- The place of the first one that isn't paid; none: not there. -/
def firstOver (paid : Int) : List S32 → Nat → Option Nat
  | [], _ => none
  | d :: r, k => if d.f1 > paid then some k else firstOver paid r (k + 1)
def late_Oldest.f (l0 : List (S32)) (a1 : Int) : Option (Int × Bool) := some (match firstOver a1 l0 0 with | some k => ((k : Int), true) | none => (0, false))
theorem firstOver_drop (paid : Int) (l : List S32) : ∀ (k : Nat), k ≤ l.length → (∀ j, j < k → (rd_T32 l (j : Int)).f1 ≤ paid) → firstOver paid l 0 = firstOver paid (l.drop k) k := by
  intro k
  induction k with
  | zero => intro _ _; rfl
  | succ k ih =>
    intro hk h
    rw [ih (by omega) (fun j hj => h j (by omega))]
    have hlt : k < l.length := by omega
    rw [List.drop_eq_getElem_cons hlt]
    have hv := h k (by omega)
    have e : rd_T32 l (k : Int) = l[k] := by simp [rd_T32, List.getD_eq_getElem?_getD, List.getElem?_eq_getElem hlt]
    rw [e] at hv
    simp only [firstOver]
    rw [if_neg (by omega)]
theorem firstOver_at (paid : Int) (l : List S32) (k : Nat) (hk : k < l.length) (h : ∀ j, j < k → (rd_T32 l (j : Int)).f1 ≤ paid) (hv : paid < (rd_T32 l (k : Int)).f1) : firstOver paid l 0 = some k := by
  rw [firstOver_drop paid l k (by omega) h, List.drop_eq_getElem_cons hk]
  have e : rd_T32 l (k : Int) = l[k] := by simp [rd_T32, List.getD_eq_getElem?_getD, List.getElem?_eq_getElem hk]
  rw [e] at hv
  simp only [firstOver]
  rw [if_pos (by omega)]
theorem firstOver_end (paid : Int) (l : List S32) (h : ∀ j, j < l.length → (rd_T32 l (j : Int)).f1 ≤ paid) : firstOver paid l 0 = none := by
  rw [firstOver_drop paid l l.length (by omega) h, List.drop_length]
  rfl
def idxOver (paid : Int) (l : List S32) : Int := match firstOver paid l 0 with | some k => (k : Int) | none => -1
set_option maxHeartbeats 4000000 in
set_option maxRecDepth 100000 in
theorem clos_calls (paid : Int) (B : Nat) (x : S32) (b : Bool) (W : World) (hB : B < W.heap.size) (hc : W.cell? ⟨B, 0, none⟩ = some (.int .i64 paid)) (hb : decide (paid < x.f1) = b) :
    Calls Try.prog 19 #[.agg #[.int .i32 x.f0, .int .i64 x.f1], .pointer (some ⟨B, 0, none⟩)] W fun e w' => e = .returned (.bool b) ∧ Below W.heap.size W w' := by
  subst hb
  by_cases hv : paid < x.f1
  all_goals
    go_enter Try.func19, Try.ntmps19
    go_wp2
    go_ret
    exact ⟨by simp [hv], by repeat (first | exact Below.refl _ _ | apply below_alloc | apply pw_below_drewN | apply below_drew1)⟩
set_option maxHeartbeats 4000000 in
set_option maxRecDepth 100000 in
theorem index_calls (A0 : Option Addr) (c0 : Nat) (l0 : List (S32)) (paid : Int) (B : Nat) (w : World) (hr0 : Kd.C k32 w A0 l0.length l0) (hB : B < w.heap.size) (hc : w.cell? ⟨B, 0, none⟩ = some (.int .i64 paid)) :
    Calls Try.prog 18 #[.slice A0 l0.length c0, .func (.func 19) #[] #[.pointer (some ⟨B, 0, none⟩)]] w fun e w' => e = .returned (.int .i64 (idxOver paid l0)) ∧ Below w.heap.size w w' := by
  have hm : l0.length ≤ 9223372036854775807 := hr0.2.1
  have HR := Aside0.mk hr0
  have HC := Aside0.mk hc
  clear hr0 hc
  go_enter Try.func18, Try.ntmps18
  go_wp2
  go_loopg [5, 8] l0.length (fun gg _ s8 wr => ∃ kk : Nat, kk ≤ l0.length ∧ l0.length - kk ≤ gg ∧ s8 = .int .i64 kk ∧ Aside0 (Below w.heap.size w wr) ∧ Aside0 (∀ j : Nat, j < kk → (rd_T32 l0 (j : Int)).f1 ≤ paid))
  case atStart => exact ⟨0, Nat.zero_le _, by omega, rfl, ⟨Below.refl _ w⟩, ⟨fun j hj => absurd hj (Nat.not_lt_zero _)⟩⟩
  case round =>
    obtain ⟨kk, hkk, hg, rfl, BW, AA⟩ := hrel
    by_cases hlt : kk < l0.length
    · have hltz : (kk : Int) < (l0.length : Int) := by omega
      obtain ⟨ad, rfl, h1, h2⟩ := at_T32 (Kd.C_below HR.out BW.out) (kk : Int) (by omega) (by omega)
      rw [Int.toNat_natCast] at h1 h2
      have hcap : wr.cell? ⟨B, 0, none⟩ = some (.int .i64 paid) := pw_cell_below BW.out HC.out
      have hBr : B < wr.heap.size := Nat.lt_of_lt_of_le hB BW.out.size
      by_cases hv : paid < (rd_T32 l0 (kk : Int)).f1
      · have hcall := Aside0.mk (clos_calls paid B (rd_T32 l0 (kk : Int)) true wr hBr hcap (decide_eq_true hv))
        have HV := Aside0.mk hv
        clear hv hcap
        generalize hx : rd_T32 l0 (kk : Int) = x at h1 h2 hcall HV
        have HX := Aside0.mk hx
        clear hx
        go_wp2_with (go_at_call 19; refine hcall.out.mono ?_; rintro e w' ⟨rfl, hb'⟩)
        go_ret
        refine ⟨?_, below_step BW.out hb'⟩
        unfold idxOver
        rw [firstOver_at paid l0 kk hlt AA.out (by rw [HX.out]; exact HV.out)]
        rfl
      · have hcall := Aside0.mk (clos_calls paid B (rd_T32 l0 (kk : Int)) false wr hBr hcap (decide_eq_false hv))
        have HV := Aside0.mk hv
        clear hv hcap
        generalize hx : rd_T32 l0 (kk : Int) = x at h1 h2 hcall HV
        have HX := Aside0.mk hx
        clear hx
        go_wp2_with (go_at_call 19; refine hcall.out.mono ?_; rintro e w' ⟨rfl, hb'⟩)
        go_roundg (l0.length - (kk + 1))
        case measure => omega
        case rel =>
          refine ⟨kk + 1, by omega, by omega, by go_num, ⟨below_step BW.out hb'⟩, ⟨fun j hj => ?_⟩⟩
          by_cases e : j = kk
          · subst e
            rw [HX.out]; have := HV.out; omega
          · exact AA.out j (by omega)
    · have hltz : ¬ (kk : Int) < (l0.length : Int) := by omega
      have : kk = l0.length := by omega
      subst this
      go_wp2
      go_ret
      refine ⟨?_, BW.out⟩
      unfold idxOver
      rw [firstOver_end paid l0 AA.out]
      rfl
set_option maxHeartbeats 4000000 in
set_option maxRecDepth 100000 in
theorem late_Oldest.calls (A0 : Option Addr) (c0 : Nat) (l0 : List (S32)) (a1 : Int) (r1 : Int) (r2 : Bool) (w : World) (hr0 : Kd.C k32 w A0 l0.length l0) (hc0 : l0.length ≤ c0) (h : late_Oldest.f l0 a1 = some (r1, r2)) :
    Calls Try.prog 10 #[.slice A0 l0.length c0, .int .i64 a1] w fun e w' => e = .returned (.tuple #[.int .i64 r1, .bool r2]) ∧ Below w.heap.size w w' := by
  have hcall := index_calls A0 c0 l0 a1 w.heap.size (w.alloc (.cells #[.int .i64 a1] 23)) (Kd.C_below hr0 (below_alloc (Below.refl _ _) _)) (by simp) (by simp)
  have HCALL := Aside0.mk hcall
  clear hcall hr0
  simp only [late_Oldest.f, Option.some.injEq] at h
  cases hf : firstOver a1 l0 0 with
  | some k =>
    rw [hf] at h
    simp only [Prod.mk.injEq] at h
    obtain ⟨rfl, rfl⟩ := h
    have hi : idxOver a1 l0 = (k : Int) := by unfold idxOver; rw [hf]
    rw [hi] at HCALL
    clear hi hf
    go_enter Try.func10, Try.ntmps10
    go_wp2_with (go_at_call 18; refine HCALL.out.mono ?_; rintro e w' ⟨rfl, hb'⟩)
    go_ret2
    exact ⟨rfl, below_step (below_alloc (Below.refl _ _) _) hb'⟩
  | none =>
    rw [hf] at h
    simp only [Prod.mk.injEq] at h
    obtain ⟨rfl, rfl⟩ := h
    have hi : idxOver a1 l0 = -1 := by unfold idxOver; rw [hf]
    rw [hi] at HCALL
    clear hi hf
    go_enter Try.func10, Try.ntmps10
    go_wp2_with (go_at_call 18; refine HCALL.out.mono ?_; rintro e w' ⟨rfl, hb'⟩)
    go_ret2
    exact ⟨rfl, below_step (below_alloc (Below.refl _ _) _) hb'⟩


/-! ### late_Since: function 11 -/
def late_Since.f (l0 : List (S32)) (a1 : Int) (a2 : Int) : Option (Int) := (late_Oldest.f l0 a1).bind fun bt101 => (if bt101.2 = true then (if 0 ≤ bt101.1 then (if bt101.1 < (l0.length : Int) then (some (mx (wrap64 ((wrap64 (a2)) - (wrap64 ((rd_T32 l0 bt101.1).f0)))) 0)) else (none)) else (none)) else (some 0))
set_option maxHeartbeats 8000000 in
set_option maxRecDepth 100000 in
theorem late_Since.calls (A0 : Option Addr) (c0 : Nat) (l0 : List (S32)) (a1 : Int) (a2 : Int) (r : Int) (w : World) (hr0 : Kd.C k32 w A0 l0.length l0) (hc0 : l0.length ≤ c0) (h : late_Since.f l0 a1 a2 = some r) :
    Calls Try.prog 11 #[.slice A0 l0.length c0, .int .i64 a1, .int .i32 a2] w fun e w' => e = .returned (.int .i64 r) ∧ Below w.heap.size w w' := by
  have HR0 := Aside0.mk hr0
  have HC0 := Aside0.mk hc0
  clear hr0 hc0
  have HB := Aside0.mk (Below.refl w.heap.size w)
  have H : ((late_Oldest.f l0 a1).bind fun bt101 => (if bt101.2 = true then (if 0 ≤ bt101.1 then (if bt101.1 < (l0.length : Int) then (some (mx (wrap64 ((wrap64 (a2)) - (wrap64 ((rd_T32 l0 bt101.1).f0)))) 0)) else (none)) else (none)) else (some 0))) = some r := h
  clear h
  replace H := Option.bind_eq_some_iff.mp H
  obtain ⟨⟨t101, t102⟩, A40, H⟩ := H
  replace H : (if t102 = true then (if 0 ≤ t101 then (if t101 < (l0.length : Int) then (some (mx (wrap64 ((wrap64 (a2)) - (wrap64 ((rd_T32 l0 t101).f0)))) 0)) else (none)) else (none)) else (some 0)) = some r := H
  have A4 := Aside0.mk A40
  clear A40
  by_cases c5 : t102 = true
  · subst c5
    have H1 : (if 0 ≤ t101 then (if t101 < (l0.length : Int) then (some (mx (wrap64 ((wrap64 (a2)) - (wrap64 ((rd_T32 l0 t101).f0)))) 0)) else (none)) else (none)) = some r := by rw [if_pos rfl] at H; exact H
    clear H
    have H := H1
    clear H1
    by_cases c6 : 0 ≤ t101
    · rw [if_pos c6] at H
      have c6b0 : decide (0 ≤ t101) = true := decide_eq_true c6
      clear c6
      by_cases c7 : t101 < (l0.length : Int)
      · rw [if_pos c7] at H
        have c7b0 : decide (t101 < (l0.length : Int)) = true := decide_eq_true c7
        clear c7
        obtain ⟨ji8, hji8⟩ : ∃ j_ : Int, (mx (wrap64 ((wrap64 (a2)) - (wrap64 ((rd_T32 l0 t101).f0)))) 0) = j_ := ⟨_, rfl⟩
        replace H : (some ji8) = some r := by first | (rw [hji8] at H; exact H) | (simp only [hji8] at H ⊢; exact H)
        (try rw [hji8] at A4)
        (try (have hji8l : 0 ≤ ji8 := by (rw [← hji8]; unfold mx; (repeat' split) <;> omega)))
        (try (have hji8m : 0 ≤ ji8 := by omega))
        have hji8_ : (if (wrap64 ((wrap64 (a2)) - (wrap64 ((rd_T32 l0 t101).f0)))) < 0 then 0 else (wrap64 ((wrap64 (a2)) - (wrap64 ((rd_T32 l0 t101).f0))))) = ji8 := hji8
        obtain rfl := Option.some.inj H
        go_enter Try.func11, Try.ntmps11
        go_wp2_with (first | ((with_reducible refine gate_callee (f := 10) rfl ?_); refine goesL_ (some 12) rfl rfl Try.func10 (by kernel_rfl) rfl #[.slice A0 l0.length c0, .int .i64 a1] rfl (by (try simp only [List.map_toArray, List.map_cons, List.map_nil]); first | done | rfl | (simp only [List.length_drop, List.length_take]; rfl)) ?_; (with_reducible refine (late_Oldest.calls _ _ l0 a1 t101 true _ ?side1 ?side2 A4.out).mono ?_); (case side1 => repeat (first | exact HR0.out | (with_reducible refine Kd.C_alloc ?_ _) | (with_reducible refine Kd.C_drewN ?_ _) | (with_reducible refine Kd.C_drew ?_))); (case side2 => exact HC0.out); rintro e w9 ⟨rfl, hb⟩; refine ⟨_, rfl, ?_⟩; have n0_ := Aside0.mk (below_step (by repeat (first | (with_reducible first | exact HB.out | apply below_alloc | apply pw_below_drewN | apply below_drew1) | exact HB.out)) hb); clear HB; have HB := n0_; clear n0_; (try clear hb); (try clear hb2); (try clear hk); (try clear hi); have p103 : 0 ≤ (t101 : Int) := of_decide_eq_true (by first | (with_reducible assumption) | assumption); have q103 : t101 < (l0.length : Int) := of_decide_eq_true (by first | (with_reducible assumption) | assumption); obtain ⟨ad103, e103, hx103_0, hx103_1⟩ := at_T32 HR0.out t101 p103 q103; cases e103; replace hx103_0 := (HB.out.cell (World.block_lt_of_cell? w _ hx103_0)).trans hx103_0; replace hx103_1 := (HB.out.cell (World.block_lt_of_cell? w _ hx103_1)).trans hx103_1; replace p103 := eq_true p103; replace q103 := eq_true q103))
        go_ret
        exact ⟨by first | rfl | (simp [errW_none, errW_some] <;> rfl) | (simp only [← hji8]; first | rfl | (simp [errW_none, errW_some] <;> rfl)) | (simp [*, errW_none, errW_some] <;> rfl), by repeat (first | (with_reducible first | exact HB.out | apply below_alloc | apply pw_below_drewN | apply below_drew1) | exact HB.out)⟩
      · rw [if_neg c7] at H
        exact absurd H (by simp)
    · rw [if_neg c6] at H
      exact absurd H (by simp)
  · replace c5 := Bool.eq_false_iff.mpr c5
    subst c5
    have H1 : (some 0) = some r := by rw [if_neg (show ¬ (false = true) by decide)] at H; exact H
    clear H
    have H := H1
    clear H1
    obtain rfl := Option.some.inj H
    go_enter Try.func11, Try.ntmps11
    go_wp2_with (first | ((with_reducible refine gate_callee (f := 10) rfl ?_); refine goesL_ (some 12) rfl rfl Try.func10 (by kernel_rfl) rfl #[.slice A0 l0.length c0, .int .i64 a1] rfl (by (try simp only [List.map_toArray, List.map_cons, List.map_nil]); first | done | rfl | (simp only [List.length_drop, List.length_take]; rfl)) ?_; (with_reducible refine (late_Oldest.calls _ _ l0 a1 t101 false _ ?side1 ?side2 A4.out).mono ?_); (case side1 => repeat (first | exact HR0.out | (with_reducible refine Kd.C_alloc ?_ _) | (with_reducible refine Kd.C_drewN ?_ _) | (with_reducible refine Kd.C_drew ?_))); (case side2 => exact HC0.out); rintro e w10 ⟨rfl, hb⟩; refine ⟨_, rfl, ?_⟩; have n0_ := Aside0.mk (below_step (by repeat (first | (with_reducible first | exact HB.out | apply below_alloc | apply pw_below_drewN | apply below_drew1) | exact HB.out)) hb); clear HB; have HB := n0_; clear n0_; (try clear hb); (try clear hb2); (try clear hk); (try clear hi)))
    go_ret
    exact ⟨by first | rfl | (simp [errW_none, errW_some] <;> rfl) | (simp [*, errW_none, errW_some] <;> rfl), by repeat (first | (with_reducible first | exact HB.out | apply below_alloc | apply pw_below_drewN | apply below_drew1) | exact HB.out)⟩

/-! ### late_Bucket: function 13 -/
def late_Bucket.f (a0 : Int) : Option (Int) := if a0 ≤ 0 then (some 0) else (if a0 < 30 then (some 1) else (if a0 < 60 then (some 2) else (if a0 < 90 then (some 3) else (some 4))))
set_option maxHeartbeats 8000000 in
set_option maxRecDepth 100000 in
theorem late_Bucket.calls (a0 : Int) (r : Int) (w : World) (h : late_Bucket.f a0 = some r) :
    Calls Try.prog 13 #[.int .i64 a0] w fun e w' => e = .returned (.int .u8 r) ∧ Drawn0 w w' := by
  have H : (if a0 ≤ 0 then (some 0) else (if a0 < 30 then (some 1) else (if a0 < 60 then (some 2) else (if a0 < 90 then (some 3) else (some 4))))) = some r := h
  clear h
  by_cases c2 : a0 ≤ 0
  · rw [if_pos c2] at H
    have c2b0 : decide (a0 ≤ 0) = true := decide_eq_true c2
    clear c2
    obtain rfl := Option.some.inj H
    go_enter Try.func13, Try.ntmps13
    go_wp2
    go_ret
    exact ⟨by first | rfl | (simp; done) | (simp [*]; done), by repeat (first | exact Drawn0.refl _ | apply Drawn0.step)⟩
  · rw [if_neg c2] at H
    have c2b0 : decide (a0 ≤ 0) = false := decide_eq_false c2
    clear c2
    by_cases c3 : a0 < 30
    · rw [if_pos c3] at H
      have c3b0 : decide (a0 < 30) = true := decide_eq_true c3
      clear c3
      obtain rfl := Option.some.inj H
      go_enter Try.func13, Try.ntmps13
      go_wp2
      go_ret
      exact ⟨by first | rfl | (simp; done) | (simp [*]; done), by repeat (first | exact Drawn0.refl _ | apply Drawn0.step)⟩
    · rw [if_neg c3] at H
      have c3b0 : decide (a0 < 30) = false := decide_eq_false c3
      clear c3
      by_cases c4 : a0 < 60
      · rw [if_pos c4] at H
        have c4b0 : decide (a0 < 60) = true := decide_eq_true c4
        clear c4
        obtain rfl := Option.some.inj H
        go_enter Try.func13, Try.ntmps13
        go_wp2
        go_ret
        exact ⟨by first | rfl | (simp; done) | (simp [*]; done), by repeat (first | exact Drawn0.refl _ | apply Drawn0.step)⟩
      · rw [if_neg c4] at H
        have c4b0 : decide (a0 < 60) = false := decide_eq_false c4
        clear c4
        by_cases c5 : a0 < 90
        · rw [if_pos c5] at H
          have c5b0 : decide (a0 < 90) = true := decide_eq_true c5
          clear c5
          obtain rfl := Option.some.inj H
          go_enter Try.func13, Try.ntmps13
          go_wp2
          go_ret
          exact ⟨by first | rfl | (simp; done) | (simp [*]; done), by repeat (first | exact Drawn0.refl _ | apply Drawn0.step)⟩
        · rw [if_neg c5] at H
          have c5b0 : decide (a0 < 90) = false := decide_eq_false c5
          clear c5
          obtain rfl := Option.some.inj H
          go_enter Try.func13, Try.ntmps13
          go_wp2
          go_ret
          exact ⟨by first | rfl | (simp; done) | (simp [*]; done), by repeat (first | exact Drawn0.refl _ | apply Drawn0.step)⟩

/-! ### arrearslaw12_awake: function 8 -/
def arrearslaw12_awake.f  : Option (Bool) := (some (([(⟨10, 100⟩ : S32), (⟨40, 200⟩ : S32)] : List (S32)) : List (S32))).bind fun y104 => ((late_Since.f y104 100 45).bind fun t107 => (if t107 = 5 then ((late_Since.f y104 99 45).bind fun t108 => (if t108 = 35 then ((late_Bucket.f 35).bind fun t109 => (some (t109 == 2))) else (some false))) else (some false)))
set_option maxHeartbeats 8000000 in
set_option maxRecDepth 100000 in
theorem arrearslaw12_awake.calls  (r : Bool) (w : World) (h : arrearslaw12_awake.f  = some r) :
    Calls Try.prog 8 #[] w fun e w' => e = .returned (.bool r) ∧ Below w.heap.size w w' := by
  have hu32 := Try.underlying32
  have HB := Aside0.mk (Below.refl w.heap.size w)
  have H : ((some (([(⟨10, 100⟩ : S32), (⟨40, 200⟩ : S32)] : List (S32)) : List (S32))).bind fun y104 => ((late_Since.f y104 100 45).bind fun t107 => (if t107 = 5 then ((late_Since.f y104 99 45).bind fun t108 => (if t108 = 35 then ((late_Bucket.f 35).bind fun t109 => (some (t109 == 2))) else (some false))) else (some false)))) = some r := h
  clear h
  obtain ⟨y104, hy104⟩ : ∃ y_ : List (S32), y_ = (([(⟨10, 100⟩ : S32), (⟨40, 200⟩ : S32)] : List (S32))) := ⟨_, rfl⟩
  replace H : ((late_Since.f y104 100 45).bind fun t107 => (if t107 = 5 then ((late_Since.f y104 99 45).bind fun t108 => (if t108 = 35 then ((late_Bucket.f 35).bind fun t109 => (some (t109 == 2))) else (some false))) else (some false))) = some r := by first | (rw [hy104]; with_reducible exact H) | (have H2_ := (Option.bind_some _ _).symm.trans H; rw [hy104]; with_reducible exact H2_) | (have H2_ := (Option.bind_some _ _).symm.trans H; with_reducible exact H2_) | with_reducible exact H | (rw [hy104]; exact H) | exact H
  have Ny104 := Aside0.mk hy104
  clear hy104
  replace H := Option.bind_eq_some_iff.mp H
  obtain ⟨t107, A10, H⟩ := H
  replace H : (if t107 = 5 then ((late_Since.f y104 99 45).bind fun t108 => (if t108 = 35 then ((late_Bucket.f 35).bind fun t109 => (some (t109 == 2))) else (some false))) else (some false)) = some r := H
  have A1 := Aside0.mk A10
  clear A10
  by_cases c2 : t107 = 5
  · rw [if_pos c2] at H
    have c2b0 : (t107 == 5) = true := beq_iff_eq.mpr c2
    have c2b1 : (t107 != 5) = false := bne_eq_false_iff_eq.mpr c2
    clear c2
    replace H := Option.bind_eq_some_iff.mp H
    obtain ⟨t108, A30, H⟩ := H
    replace H : (if t108 = 35 then ((late_Bucket.f 35).bind fun t109 => (some (t109 == 2))) else (some false)) = some r := H
    have A3 := Aside0.mk A30
    clear A30
    by_cases c4 : t108 = 35
    · rw [if_pos c4] at H
      have c4b0 : (t108 == 35) = true := beq_iff_eq.mpr c4
      have c4b1 : (t108 != 35) = false := bne_eq_false_iff_eq.mpr c4
      clear c4
      replace H := Option.bind_eq_some_iff.mp H
      obtain ⟨t109, A50, H⟩ := H
      replace H : (some (t109 == 2)) = some r := H
      have A5 := Aside0.mk A50
      clear A50
      obtain rfl := Option.some.inj H
      go_enter Try.func8, Try.ntmps8
      go_wp2_with (first | ((with_reducible refine gate_dst (N := 4) rfl ?_); refine Kd.R_lit k32 _ 32 ?hg (N := 4) ?hd (xs := ([(⟨10, 100⟩ : S32), (⟨40, 200⟩ : S32)] : List (S32))) (inner := [.int .i32 10, .int .i64 100, .int .i32 40, .int .i64 200]) (ok := fun _ => True) (okp := fun _ => True) ?hr ?hp (fun _ hk => hk) trivial (Below.refl _ _) (Nat.le_refl _) (by simp) ?_; (case hd => rfl); (case hg => rfl); (case hr => first | (go_simp; done) | (go_simp; rfl)); (case hp => exact (Reps.c2 (show Kd.M k32 _ _ _ (⟨10, 100⟩ : S32) [.int .i32 10, .int .i64 100] from (k32_mkM _ _ _ (⟨10, 100⟩ : S32) )) (Reps.c2 (show Kd.M k32 _ _ _ (⟨40, 200⟩ : S32) [.int .i32 40, .int .i64 200] from (k32_mkM _ _ _ (⟨40, 200⟩ : S32) )) (Reps.none _ _)))); intro v105 w6 ho7 hb hg_ hnew_; clear hg_ hnew_; (first | rw [← Ny104.out] at ho7 | (simp only [Int.reduceToNat] at ho7; rw [← Ny104.out] at ho7)); have n0_ := Aside0.mk (Kd.R_lower ho7 (below_size (by repeat (first | (with_reducible first | exact HB.out | apply below_alloc | apply pw_below_drewN | apply below_drew1) | exact HB.out)))); have n1_ := Aside0.mk (below_step (by repeat (first | (with_reducible first | exact HB.out | apply below_alloc | apply pw_below_drewN | apply below_drew1) | exact HB.out)) hb); clear HB; have HO106 := n0_; have HB := n1_; clear n0_ n1_; clear hb ho7; obtain ⟨Ao8, co8, eo8⟩ := Kd.R_slice HO106.out; subst eo8) | ((with_reducible refine gate_callee (f := 11) rfl ?_); refine goesL_ (some 6) rfl rfl Try.func11 (by kernel_rfl) rfl #[.slice Ao8 y104.length co8, .int .i64 100, .int .i32 45] rfl (by (try simp only [List.map_toArray, List.map_cons, List.map_nil]); first | done | rfl | (simp only [List.length_drop, List.length_take]; rfl)) ?_; (with_reducible refine (late_Since.calls _ _ y104 100 45 t107 _ ?side1 ?side2 A1.out).mono ?_); (case side1 => repeat (first | exact (Kd.R_reads' HO106.out).2.2 | (with_reducible refine Kd.C_alloc ?_ _) | (with_reducible refine Kd.C_drewN ?_ _) | (with_reducible refine Kd.C_drew ?_))); (case side2 => exact (Kd.R_reads' HO106.out).2.1); rintro e w9 ⟨rfl, hb⟩; refine ⟨_, rfl, ?_⟩; have n0_ := Aside0.mk (Kd.R_below (by (with_reducible repeat (first | apply Kd.R_alloc | apply Kd.R_drewN | apply Kd.R_drew)); exact HO106.out) hb); have n1_ := Aside0.mk (below_step (by repeat (first | (with_reducible first | exact HB.out | apply below_alloc | apply pw_below_drewN | apply below_drew1) | exact HB.out)) hb); clear HO106; clear HB; have HO106 := n0_; have HB := n1_; clear n0_ n1_; (try clear hb); (try clear hb2); (try clear hk); (try clear hi)) | (go_at_call 11; (with_reducible refine (late_Since.calls _ _ y104 99 45 t108 _ ?side1 ?side2 A3.out).mono ?_); (case side1 => repeat (first | exact (Kd.R_reads' HO106.out).2.2 | (with_reducible refine Kd.C_alloc ?_ _) | (with_reducible refine Kd.C_drewN ?_ _) | (with_reducible refine Kd.C_drew ?_))); (case side2 => exact (Kd.R_reads' HO106.out).2.1); rintro e w10 ⟨rfl, hb⟩; have n0_ := Aside0.mk (Kd.R_below (by (with_reducible repeat (first | apply Kd.R_alloc | apply Kd.R_drewN | apply Kd.R_drew)); exact HO106.out) hb); have n1_ := Aside0.mk (below_step (by repeat (first | (with_reducible first | exact HB.out | apply below_alloc | apply pw_below_drewN | apply below_drew1) | exact HB.out)) hb); clear HO106; clear HB; have HO106 := n0_; have HB := n1_; clear n0_ n1_; (try clear hb); (try clear hb2); (try clear hk); (try clear hi)) | (go_at_call 13; (with_reducible refine (late_Bucket.calls 35 t109 _ A5.out).mono ?_); rintro e w' ⟨rfl, ⟨nd, rfl⟩⟩))
      go_ret
      exact ⟨by first | rfl | (simp [errW_none, errW_some] <;> rfl) | (simp [*, errW_none, errW_some] <;> rfl), by repeat (first | (with_reducible first | exact HB.out | apply below_alloc | apply pw_below_drewN | apply below_drew1) | exact HB.out)⟩
    · rw [if_neg c4] at H
      have c4b0 : (t108 == 35) = false := beq_eq_false_iff_ne.mpr c4
      have c4b1 : (t108 != 35) = true := bne_iff_ne.mpr c4
      obtain rfl := Option.some.inj H
      go_enter Try.func8, Try.ntmps8
      go_wp2_with (first | ((with_reducible refine gate_dst (N := 4) rfl ?_); refine Kd.R_lit k32 _ 32 ?hg (N := 4) ?hd (xs := ([(⟨10, 100⟩ : S32), (⟨40, 200⟩ : S32)] : List (S32))) (inner := [.int .i32 10, .int .i64 100, .int .i32 40, .int .i64 200]) (ok := fun _ => True) (okp := fun _ => True) ?hr ?hp (fun _ hk => hk) trivial (Below.refl _ _) (Nat.le_refl _) (by simp) ?_; (case hd => rfl); (case hg => rfl); (case hr => first | (go_simp; done) | (go_simp; rfl)); (case hp => exact (Reps.c2 (show Kd.M k32 _ _ _ (⟨10, 100⟩ : S32) [.int .i32 10, .int .i64 100] from (k32_mkM _ _ _ (⟨10, 100⟩ : S32) )) (Reps.c2 (show Kd.M k32 _ _ _ (⟨40, 200⟩ : S32) [.int .i32 40, .int .i64 200] from (k32_mkM _ _ _ (⟨40, 200⟩ : S32) )) (Reps.none _ _)))); intro v105 w11 ho12 hb hg_ hnew_; clear hg_ hnew_; (first | rw [← Ny104.out] at ho12 | (simp only [Int.reduceToNat] at ho12; rw [← Ny104.out] at ho12)); have n0_ := Aside0.mk (Kd.R_lower ho12 (below_size (by repeat (first | (with_reducible first | exact HB.out | apply below_alloc | apply pw_below_drewN | apply below_drew1) | exact HB.out)))); have n1_ := Aside0.mk (below_step (by repeat (first | (with_reducible first | exact HB.out | apply below_alloc | apply pw_below_drewN | apply below_drew1) | exact HB.out)) hb); clear HB; have HO106 := n0_; have HB := n1_; clear n0_ n1_; clear hb ho12; obtain ⟨Ao13, co13, eo13⟩ := Kd.R_slice HO106.out; subst eo13) | ((with_reducible refine gate_callee (f := 11) rfl ?_); refine goesL_ (some 6) rfl rfl Try.func11 (by kernel_rfl) rfl #[.slice Ao13 y104.length co13, .int .i64 100, .int .i32 45] rfl (by (try simp only [List.map_toArray, List.map_cons, List.map_nil]); first | done | rfl | (simp only [List.length_drop, List.length_take]; rfl)) ?_; (with_reducible refine (late_Since.calls _ _ y104 100 45 t107 _ ?side1 ?side2 A1.out).mono ?_); (case side1 => repeat (first | exact (Kd.R_reads' HO106.out).2.2 | (with_reducible refine Kd.C_alloc ?_ _) | (with_reducible refine Kd.C_drewN ?_ _) | (with_reducible refine Kd.C_drew ?_))); (case side2 => exact (Kd.R_reads' HO106.out).2.1); rintro e w14 ⟨rfl, hb⟩; refine ⟨_, rfl, ?_⟩; have n0_ := Aside0.mk (Kd.R_below (by (with_reducible repeat (first | apply Kd.R_alloc | apply Kd.R_drewN | apply Kd.R_drew)); exact HO106.out) hb); have n1_ := Aside0.mk (below_step (by repeat (first | (with_reducible first | exact HB.out | apply below_alloc | apply pw_below_drewN | apply below_drew1) | exact HB.out)) hb); clear HO106; clear HB; have HO106 := n0_; have HB := n1_; clear n0_ n1_; (try clear hb); (try clear hb2); (try clear hk); (try clear hi)) | (go_at_call 11; (with_reducible refine (late_Since.calls _ _ y104 99 45 t108 _ ?side1 ?side2 A3.out).mono ?_); (case side1 => repeat (first | exact (Kd.R_reads' HO106.out).2.2 | (with_reducible refine Kd.C_alloc ?_ _) | (with_reducible refine Kd.C_drewN ?_ _) | (with_reducible refine Kd.C_drew ?_))); (case side2 => exact (Kd.R_reads' HO106.out).2.1); rintro e w15 ⟨rfl, hb⟩; have n0_ := Aside0.mk (Kd.R_below (by (with_reducible repeat (first | apply Kd.R_alloc | apply Kd.R_drewN | apply Kd.R_drew)); exact HO106.out) hb); have n1_ := Aside0.mk (below_step (by repeat (first | (with_reducible first | exact HB.out | apply below_alloc | apply pw_below_drewN | apply below_drew1) | exact HB.out)) hb); clear HO106; clear HB; have HO106 := n0_; have HB := n1_; clear n0_ n1_; (try clear hb); (try clear hb2); (try clear hk); (try clear hi)))
      go_ret
      exact ⟨by first | rfl | (simp [errW_none, errW_some] <;> rfl) | (simp [*, errW_none, errW_some] <;> rfl), by repeat (first | (with_reducible first | exact HB.out | apply below_alloc | apply pw_below_drewN | apply below_drew1) | exact HB.out)⟩
  · rw [if_neg c2] at H
    have c2b0 : (t107 == 5) = false := beq_eq_false_iff_ne.mpr c2
    have c2b1 : (t107 != 5) = true := bne_iff_ne.mpr c2
    obtain rfl := Option.some.inj H
    go_enter Try.func8, Try.ntmps8
    go_wp2_with (first | ((with_reducible refine gate_dst (N := 4) rfl ?_); refine Kd.R_lit k32 _ 32 ?hg (N := 4) ?hd (xs := ([(⟨10, 100⟩ : S32), (⟨40, 200⟩ : S32)] : List (S32))) (inner := [.int .i32 10, .int .i64 100, .int .i32 40, .int .i64 200]) (ok := fun _ => True) (okp := fun _ => True) ?hr ?hp (fun _ hk => hk) trivial (Below.refl _ _) (Nat.le_refl _) (by simp) ?_; (case hd => rfl); (case hg => rfl); (case hr => first | (go_simp; done) | (go_simp; rfl)); (case hp => exact (Reps.c2 (show Kd.M k32 _ _ _ (⟨10, 100⟩ : S32) [.int .i32 10, .int .i64 100] from (k32_mkM _ _ _ (⟨10, 100⟩ : S32) )) (Reps.c2 (show Kd.M k32 _ _ _ (⟨40, 200⟩ : S32) [.int .i32 40, .int .i64 200] from (k32_mkM _ _ _ (⟨40, 200⟩ : S32) )) (Reps.none _ _)))); intro v105 w16 ho17 hb hg_ hnew_; clear hg_ hnew_; (first | rw [← Ny104.out] at ho17 | (simp only [Int.reduceToNat] at ho17; rw [← Ny104.out] at ho17)); have n0_ := Aside0.mk (Kd.R_lower ho17 (below_size (by repeat (first | (with_reducible first | exact HB.out | apply below_alloc | apply pw_below_drewN | apply below_drew1) | exact HB.out)))); have n1_ := Aside0.mk (below_step (by repeat (first | (with_reducible first | exact HB.out | apply below_alloc | apply pw_below_drewN | apply below_drew1) | exact HB.out)) hb); clear HB; have HO106 := n0_; have HB := n1_; clear n0_ n1_; clear hb ho17; obtain ⟨Ao18, co18, eo18⟩ := Kd.R_slice HO106.out; subst eo18) | ((with_reducible refine gate_callee (f := 11) rfl ?_); refine goesL_ (some 6) rfl rfl Try.func11 (by kernel_rfl) rfl #[.slice Ao18 y104.length co18, .int .i64 100, .int .i32 45] rfl (by (try simp only [List.map_toArray, List.map_cons, List.map_nil]); first | done | rfl | (simp only [List.length_drop, List.length_take]; rfl)) ?_; (with_reducible refine (late_Since.calls _ _ y104 100 45 t107 _ ?side1 ?side2 A1.out).mono ?_); (case side1 => repeat (first | exact (Kd.R_reads' HO106.out).2.2 | (with_reducible refine Kd.C_alloc ?_ _) | (with_reducible refine Kd.C_drewN ?_ _) | (with_reducible refine Kd.C_drew ?_))); (case side2 => exact (Kd.R_reads' HO106.out).2.1); rintro e w19 ⟨rfl, hb⟩; refine ⟨_, rfl, ?_⟩; have n0_ := Aside0.mk (Kd.R_below (by (with_reducible repeat (first | apply Kd.R_alloc | apply Kd.R_drewN | apply Kd.R_drew)); exact HO106.out) hb); have n1_ := Aside0.mk (below_step (by repeat (first | (with_reducible first | exact HB.out | apply below_alloc | apply pw_below_drewN | apply below_drew1) | exact HB.out)) hb); clear HO106; clear HB; have HO106 := n0_; have HB := n1_; clear n0_ n1_; (try clear hb); (try clear hb2); (try clear hk); (try clear hi)))
    go_ret
    exact ⟨by first | rfl | (simp [errW_none, errW_some] <;> rfl) | (simp [*, errW_none, errW_some] <;> rfl), by repeat (first | (with_reducible first | exact HB.out | apply below_alloc | apply pw_below_drewN | apply below_drew1) | exact HB.out)⟩

end Go.Proofs.Ytjidjobennlfjaa.PLatePays
