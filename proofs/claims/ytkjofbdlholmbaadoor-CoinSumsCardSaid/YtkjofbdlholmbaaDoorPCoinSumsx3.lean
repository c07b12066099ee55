-- Printed by a wrapper of this session's round the kit's print.py; Lean checks it.
import Derived.Test.YtkjofbdlholmbaaDoorPCoinSumsx0
import Derived.Test.YtkjofbdlholmbaaDoorPCoinSumsx2
namespace Go.Proofs.YtkjofbdlholmbaaDoor.PCoinSums
open Go.RowKit Go.Proofs.YtkjofbdlholmbaaDoorW.PrintWords Go.Proofs.YtkjofbdlholmbaaDoorW.PrintLast Go.Proofs.YtkjofbdlholmbaaDoorW.PrintMore
attribute [local go_sem] max2_int min2_int max_two min_two max_three min_three max_four min_four   -- for this text's walks alone
set_option linter.unusedVariables false
set_option linter.unusedSimpArgs false

/-! ### arrearslaw04_CoinSums: function 6 -/
mutual
def arrearslaw04_CoinSums.l0 : Nat → List Int → List Int → List Int → Int → Int → Option (Bool)
  | 0, _, _, _, _, _ => none
  | k + 1, x0, x3, x21, x22, x23 => if x23 < x22 then (if 0 ≤ x23 then (if x23 < (x21.length : Int) then (if x3.length < 17592186044416 then (arrearslaw04_CoinSums.l0 k x0 (x3 ++ [rd x21 x23]) x21 x22 (wrap64 (x23 + 1))) else (none)) else (none)) else (none)) else ((coin_Sum.f k x3).bind fun bt129 => (arrearslaw04_CoinSums.l1 k bt129.1 bt129.2 0 true x0 (x0.length : Int) 0))
def arrearslaw04_CoinSums.l1 : Nat → Int → Option Int → Int → Bool → List Int → Int → Int → Option (Bool)
  | 0, _, _, _, _, _, _, _ => none
  | k + 1, x6, x7, x8, x9, x37, x38, x39 => if x39 < x38 then (if 0 ≤ x39 then (if x39 < (x37.length : Int) then (if x9 = true then ((arrearsref04_Add.f x8 (rd x37 x39)).bind fun bt132 => (arrearslaw04_CoinSums.l1 k x6 x7 bt132.1 bt132.2 x37 x38 (wrap64 (x39 + 1)))) else (arrearslaw04_CoinSums.l1 k x6 x7 x8 x9 x37 x38 (wrap64 (x39 + 1)))) else (none)) else (none)) else (if x9 = true then (if x7.isNone = true then (some (x6 == x8)) else (some false)) else (if x6 = 0 then ((api_Code.f x7).bind fun t135 => (some (t135 == 12))) else (some false)))
end
def arrearslaw04_CoinSums.f (k : Nat) (l0 : List Int) : Option (Bool) := (arrearslaw04_awake.f).bind fun t117 => (if t117 = true then ((some (([] : List Int) : List Int)).bind fun y118 => (if 0 ≤ (mn (l0.length : Int) 40) then (if (mn (l0.length : Int) 40) ≤ (l0.length : Int) then (if y118.length + (l0.take ((mn (l0.length : Int) 40) : Int).toNat).length < 17592186044416 then ((some (y118 ++ (l0.take ((mn (l0.length : Int) 40) : Int).toNat) : List Int)).bind fun y122 => (arrearslaw04_CoinSums.l0 k y122 ([] : List Int) y122 (y122.length : Int) 0)) else (none)) else (none)) else (none))) else (some false))
theorem arrearslaw04_CoinSums.mono_l : ∀ k, (∀ y0 y1 y2 y3 y4, LeO (arrearslaw04_CoinSums.l0 k y0 y1 y2 y3 y4) (arrearslaw04_CoinSums.l0 (k + 1) y0 y1 y2 y3 y4)) ∧ (∀ y0 y1 y2 y3 y4 y5 y6, LeO (arrearslaw04_CoinSums.l1 k y0 y1 y2 y3 y4 y5 y6) (arrearslaw04_CoinSums.l1 (k + 1) y0 y1 y2 y3 y4 y5 y6))
  | 0 => ⟨fun _ _ _ _ _ r h => by simp [arrearslaw04_CoinSums.l0] at h, fun _ _ _ _ _ _ _ r h => by simp [arrearslaw04_CoinSums.l1] at h⟩
  | k + 1 => by
    obtain ⟨ih0, ih1⟩ := arrearslaw04_CoinSums.mono_l k
    refine ⟨?_, ?_⟩
    · intro y0 y1 y2 y3 y4
      unfold arrearslaw04_CoinSums.l0
      repeat' first
      | (with_reducible exact ih0 _ _ _ _ _)
      | (with_reducible exact ih1 _ _ _ _ _ _ _)
      | (with_reducible exact coin_Sum.mono _ _)
      | (with_reducible exact LeO.refl _)
      | (with_reducible exact LeO.none _)
      | (with_reducible refine LeO.ite ?_ ?_)
      | (with_reducible refine LeO.bind ?_ (fun _ => ?_))
      | exact ih0 _ _ _ _ _
      | exact ih1 _ _ _ _ _ _ _
      | exact coin_Sum.mono _ _
      | exact LeO.none _
      | refine LeO.ite ?_ ?_
      | refine LeO.bind ?_ (fun _ => ?_)
    · intro y0 y1 y2 y3 y4 y5 y6
      unfold arrearslaw04_CoinSums.l1
      repeat' first
      | (with_reducible exact ih0 _ _ _ _ _)
      | (with_reducible exact ih1 _ _ _ _ _ _ _)
      | (with_reducible exact coin_Sum.mono _ _)
      | (with_reducible exact LeO.refl _)
      | (with_reducible exact LeO.none _)
      | (with_reducible refine LeO.ite ?_ ?_)
      | (with_reducible refine LeO.bind ?_ (fun _ => ?_))
      | exact ih0 _ _ _ _ _
      | exact ih1 _ _ _ _ _ _ _
      | exact coin_Sum.mono _ _
      | exact LeO.none _
      | refine LeO.ite ?_ ?_
      | refine LeO.bind ?_ (fun _ => ?_)
theorem arrearslaw04_CoinSums.mono : ∀ a0 k, LeO (arrearslaw04_CoinSums.f k a0) (arrearslaw04_CoinSums.f (k + 1) a0) := by
  intro a0 k
  obtain ⟨ih0, ih1⟩ := arrearslaw04_CoinSums.mono_l k
  unfold arrearslaw04_CoinSums.f
  repeat' first
      | (with_reducible exact ih0 _ _ _ _ _)
      | (with_reducible exact ih1 _ _ _ _ _ _ _)
      | (with_reducible exact coin_Sum.mono _ _)
      | (with_reducible exact LeO.refl _)
      | (with_reducible exact LeO.none _)
      | (with_reducible refine LeO.ite ?_ ?_)
      | (with_reducible refine LeO.bind ?_ (fun _ => ?_))
      | exact ih0 _ _ _ _ _
      | exact ih1 _ _ _ _ _ _ _
      | exact coin_Sum.mono _ _
      | exact LeO.none _
      | refine LeO.ite ?_ ?_
      | refine LeO.bind ?_ (fun _ => ?_)
set_option maxHeartbeats 8000000 in
set_option maxRecDepth 100000 in
theorem arrearslaw04_CoinSums.calls (k : Nat) (A0 : Option Addr) (c0 : Nat) (l0 : List Int) (r : Bool) (w : World) (hr0 : Kd.C (Kd.int .i64) w A0 l0.length l0) (hc0 : l0.length ≤ c0) (hG : Go.Proofs.YtkjofbdlholmbaaDoor.M.Laid w) (h : arrearslaw04_CoinSums.f k l0 = some r) (hr : r = true) :
    Calls Tryd.prog 6 #[.slice A0 l0.length c0] w fun e w' => e = .returned (.bool r) ∧ Below w.heap.size w w' := by
  have hu26 := Tryd.underlying26
  have hu37 := Tryd.underlying37
  have HR0 := Aside0.mk hr0
  have HC0 := Aside0.mk hc0
  clear hr0 hc0
  have HB := Aside0.mk (Below.refl w.heap.size w)
  have HG := Aside0.mk hG
  clear hG
  have HR := Aside0.mk hr
  clear hr
  have H : ((arrearslaw04_awake.f).bind fun t117 => (if t117 = true then ((some (([] : List Int) : List Int)).bind fun y118 => (if 0 ≤ (mn (l0.length : Int) 40) then (if (mn (l0.length : Int) 40) ≤ (l0.length : Int) then (if y118.length + (l0.take ((mn (l0.length : Int) 40) : Int).toNat).length < 17592186044416 then ((some (y118 ++ (l0.take ((mn (l0.length : Int) 40) : Int).toNat) : List Int)).bind fun y122 => (arrearslaw04_CoinSums.l0 k y122 ([] : List Int) y122 (y122.length : Int) 0)) else (none)) else (none)) else (none))) else (some false))) = some r := h
  clear h
  replace H := Option.bind_eq_some_iff.mp H
  obtain ⟨t117, A20, H⟩ := H
  replace H : (if t117 = true then ((some (([] : List Int) : List Int)).bind fun y118 => (if 0 ≤ (mn (l0.length : Int) 40) then (if (mn (l0.length : Int) 40) ≤ (l0.length : Int) then (if y118.length + (l0.take ((mn (l0.length : Int) 40) : Int).toNat).length < 17592186044416 then ((some (y118 ++ (l0.take ((mn (l0.length : Int) 40) : Int).toNat) : List Int)).bind fun y122 => (arrearslaw04_CoinSums.l0 k y122 ([] : List Int) y122 (y122.length : Int) 0)) else (none)) else (none)) else (none))) else (some false)) = some r := H
  have A2 := Aside0.mk A20
  clear A20
  by_cases c3 : t117 = true
  · subst c3
    have H1 : ((some (([] : List Int) : List Int)).bind fun y118 => (if 0 ≤ (mn (l0.length : Int) 40) then (if (mn (l0.length : Int) 40) ≤ (l0.length : Int) then (if y118.length + (l0.take ((mn (l0.length : Int) 40) : Int).toNat).length < 17592186044416 then ((some (y118 ++ (l0.take ((mn (l0.length : Int) 40) : Int).toNat) : List Int)).bind fun y122 => (arrearslaw04_CoinSums.l0 k y122 ([] : List Int) y122 (y122.length : Int) 0)) else (none)) else (none)) else (none))) = some r := by rw [if_pos rfl] at H; exact H
    clear H
    have H := H1
    clear H1
    obtain ⟨y118, hy118⟩ : ∃ y_ : List Int, y_ = (([] : List Int)) := ⟨_, rfl⟩
    replace H : (if 0 ≤ (mn (l0.length : Int) 40) then (if (mn (l0.length : Int) 40) ≤ (l0.length : Int) then (if y118.length + (l0.take ((mn (l0.length : Int) 40) : Int).toNat).length < 17592186044416 then ((some (y118 ++ (l0.take ((mn (l0.length : Int) 40) : Int).toNat) : List Int)).bind fun y122 => (arrearslaw04_CoinSums.l0 k y122 ([] : List Int) y122 (y122.length : Int) 0)) else (none)) else (none)) else (none)) = some r := by first | (rw [hy118]; with_reducible exact H) | (have H2_ := (Option.bind_some _ _).symm.trans H; rw [hy118]; with_reducible exact H2_) | (have H2_ := (Option.bind_some _ _).symm.trans H; with_reducible exact H2_) | with_reducible exact H | (rw [hy118]; exact H) | exact H
    have Ny118 := Aside0.mk hy118
    clear hy118
    obtain ⟨ji4, hji4⟩ : ∃ j_ : Int, (mn (l0.length : Int) 40) = j_ := ⟨_, rfl⟩
    replace H : (if 0 ≤ (ji4) then (if (ji4) ≤ (l0.length : Int) then (if y118.length + (l0.take ((ji4) : Int).toNat).length < 17592186044416 then ((some (y118 ++ (l0.take ((ji4) : Int).toNat) : List Int)).bind fun y122 => (arrearslaw04_CoinSums.l0 k y122 ([] : List Int) y122 (y122.length : Int) 0)) else (none)) else (none)) else (none)) = some r := by first | (rw [hji4] at H; exact H) | (simp only [hji4] at H ⊢; exact H)
    (try rw [hji4] at A2)
    (try (have hji4h : ji4 ≤ 40 := by (rw [← hji4]; unfold mn; (repeat' split) <;> omega)))
    (try (have hji4g : ji4 ≤ 64 := by omega))
    (try (have hji4l : 0 ≤ ji4 := by (rw [← hji4]; unfold mn; (repeat' split) <;> omega)))
    (try (have hji4m : 0 ≤ ji4 := by omega))
    have hji4_ : (if 40 < (l0.length : Int) then 40 else (l0.length : Int)) = ji4 := hji4
    by_cases c5 : 0 ≤ (ji4)
    · rw [if_pos c5] at H
      have c5b0 := eq_true c5
      have c5b1 : decide (0 ≤ (ji4)) = true := decide_eq_true c5
      clear c5
      by_cases c6 : (ji4) ≤ (l0.length : Int)
      · rw [if_pos c6] at H
        have c6b0 := eq_true c6
        have c6b1 : decide ((ji4) ≤ (l0.length : Int)) = true := decide_eq_true c6
        clear c6
        by_cases c7 : y118.length + (l0.take ((ji4) : Int).toNat).length < 17592186044416
        · rw [if_pos c7] at H
          have LMc7 := Aside0.mk c7
          clear c7
          obtain ⟨y122, hy122⟩ : ∃ y_ : List Int, y_ = (y118 ++ (l0.take ((ji4) : Int).toNat)) := ⟨_, rfl⟩
          replace H : (arrearslaw04_CoinSums.l0 k y122 ([] : List Int) y122 (y122.length : Int) 0) = some r := by first | (rw [hy122]; with_reducible exact H) | (have H2_ := (Option.bind_some _ _).symm.trans H; rw [hy122]; with_reducible exact H2_) | (have H2_ := (Option.bind_some _ _).symm.trans H; with_reducible exact H2_) | with_reducible exact H | (rw [hy122]; exact H) | exact H
          have Ny122 := Aside0.mk hy122
          clear hy122
          have H' := Aside0.mk H
          clear H
          go_enter Tryd.func6, Tryd.ntmps6
          go_wp2_with (first | ((with_reducible refine gate_callee (f := 8) rfl ?_); refine goesL_ (some 12) rfl rfl Tryd.func8 (by kernel_rfl) rfl #[] rfl (by (try simp only [List.map_toArray, List.map_cons, List.map_nil]); first | done | rfl | (simp only [List.length_drop, List.length_take]; rfl)) ?_; (with_reducible refine (arrearslaw04_awake.calls  true _ ?hGL A2.out).mono ?_); (case hGL => exact Go.Proofs.YtkjofbdlholmbaaDoor.M.Laid.below HG.out (by repeat (first | (with_reducible first | exact HB.out | apply below_alloc | apply pw_below_drewN | apply below_drew1) | exact HB.out))); rintro e w8 ⟨rfl, hb⟩; refine ⟨_, rfl, ?_⟩; have n0_ := Aside0.mk (below_step (by repeat (first | (with_reducible first | exact HB.out | apply below_alloc | apply pw_below_drewN | apply below_drew1) | exact HB.out)) hb); clear HB; have HB := n0_; clear n0_; (try clear hb); (try clear hb2); (try clear hk); (try clear hi)) | ((with_reducible refine gate_dst (N := 14) rfl ?_); refine Kd.R_lit (Kd.int .i64) _ 2 ?hg (N := 14) ?hd (xs := ([] : List Int)) (inner := []) (ok := fun _ => True) (okp := fun _ => True) ?hr ?hp (fun _ hk => hk) trivial (Below.refl _ _) (Nat.le_refl _) (by simp) ?_; (case hd => rfl); (case hg => rfl); (case hr => first | (go_simp; done) | (go_simp; rfl)); (case hp => exact (Reps.none _ _)); intro v119 w9 ho10 hb hg_ hnew_; clear hg_ hnew_; (first | rw [← Ny118.out] at ho10 | (simp only [Int.reduceToNat] at ho10; rw [← Ny118.out] at ho10)); have n0_ := Aside0.mk (Kd.R_lower ho10 (below_size (by repeat (first | (with_reducible first | exact HB.out | apply below_alloc | apply pw_below_drewN | apply below_drew1) | exact HB.out)))); have n1_ := Aside0.mk (below_step (by repeat (first | (with_reducible first | exact HB.out | apply below_alloc | apply pw_below_drewN | apply below_drew1) | exact HB.out)) hb); clear HB; have HO120 := n0_; have HB := n1_; clear n0_ n1_; clear hb ho10; obtain ⟨i011, hi011, _, hsz11, _⟩ := info_parts info2; obtain ⟨hcut11, hA11, hC11⟩ := print_take_of (P := Tryd.prog) (Value.int .i64) 0 40 2 .i64 Tryd.underlying40 hi011 hsz11 A0 c0 l0 (ji4) (of_decide_eq_true (by first | (with_reducible assumption) | assumption)) (of_decide_eq_true (by first | (with_reducible assumption) | assumption)) HC0.out; have HR121 := Aside0.mk (Kd.C_of_reads (h1 := fun _ => rfl) (hA11 _ (Kd.reads_of_C HR0.out))); have HC121 := Aside0.mk hC11; clear hA11 hC11 hi011 hsz11) | ((with_reducible refine gate_builtin (b := .append) (xs := #[.tmp 14, .tmp 19]) rfl ?_); at_builtin; refine Kd.R_append_rows (Kd.int .i64) (w0 := w) w.heap.size rfl (.tmp 14) (.tmp 19) 40 2 (.int .i64 0) 8 rfl Tryd.underlying40 info2 rfl (by decide) (by omega) v119 y118 (l0.take ((ji4) : Int).toNat) _ _ _ (fun _ => True) (fun _ => False) rfl rfl ?aO ?aR (fun _ _ h => h) (fun _ h => h.elim) ?aF ?aB ?aS ?aL ?_; (case aR => first | (have hl_ := (show (l0.take ((ji4) : Int).toNat).length = (ji4).toNat from (by rw [List.length_take]; have h_ : ((ji4) : Int) ≤ (l0.length : Int) := of_decide_eq_true (by first | (with_reducible assumption) | assumption); omega)); have hx_ := Kd.C_below HR121.out HB.out; rw [hl_] at hx_; exact hx_) | (rw [← show (l0.take ((ji4) : Int).toNat).length = (ji4).toNat from (by rw [List.length_take]; have h_ : ((ji4) : Int) ≤ (l0.length : Int) := of_decide_eq_true (by first | (with_reducible assumption) | assumption); omega)]; repeat (first | exact (Kd.C_below HR121.out HB.out) | (with_reducible refine Kd.C_alloc ?_ _) | (with_reducible refine Kd.C_drewN ?_ _) | (with_reducible refine Kd.C_drew ?_))) | (repeat (first | exact (Kd.C_below HR121.out HB.out) | (with_reducible refine Kd.C_alloc ?_ _) | (with_reducible refine Kd.C_drewN ?_ _) | (with_reducible refine Kd.C_drew ?_)))); (case aB => exact (by repeat (first | (with_reducible first | exact HB.out | apply below_alloc | apply pw_below_drewN | apply below_drew1) | exact HB.out))); (case aF => exact (fun _ _ => trivial)); (case aO => exact (by (with_reducible repeat (first | apply Kd.R_alloc | apply Kd.R_drewN | apply Kd.R_drew)); exact HO120.out)); (case aS => exact (below_size (by repeat (first | (with_reducible first | exact HB.out | apply below_alloc | apply pw_below_drewN | apply below_drew1) | exact HB.out)))); (case aL => have := LMc7.out; have hlx_ := (show (l0.take ((ji4) : Int).toNat).length = (ji4).toNat from (by rw [List.length_take]; have h_ : ((ji4) : Int) ≤ (l0.length : Int) := of_decide_eq_true (by first | (with_reducible assumption) | assumption); omega)); omega); intro v123 w12 ho hb hg hat; rw [← Ny122.out] at ho; have n0_ := Aside0.mk (hb); have n1_ := Aside0.mk (ho); clear HB; clear HO120; have HB := n0_; have HO124 := n1_; clear n0_ n1_; clear ho hb hg hat; obtain ⟨Ao13, co13, eo13⟩ := Kd.R_slice HO124.out; subst eo13))
          go_loopg [3, 23] k (fun kq v3 v23 w' => ∃ (x3_1 : List Int) (x23_1 : Int), v23 = .int .i64 x23_1 ∧ Aside0 (arrearslaw04_CoinSums.l0 kq y122 x3_1 y122 (y122.length : Int) x23_1 = some r) ∧ Aside0 (kq ≤ k) ∧ Aside0 (Kd.R (Kd.int .i64) 2 w' w.heap.size (fun _ => True) (.slice Ao13 y122.length co13) y122) ∧ Aside0 (Kd.R (Kd.int .i64) 22 w' w.heap.size (fun _ => True) v3 x3_1) ∧ Aside0 (Kd.R (Kd.int .i64) 2 w' w.heap.size (fun _ => True) (.slice Ao13 y122.length co13) y122) ∧ Aside0 (Below w.heap.size w w'))
          case atStart => exact ⟨(([] : List Int)), (0), (by first | rfl | (simp; done) | (simp [*]; done) | (exfalso; simp at *; omega)), H', ⟨Nat.le_refl _⟩, ⟨by (with_reducible repeat (first | apply Kd.R_alloc | apply Kd.R_drewN | apply Kd.R_drew)); exact HO124.out⟩, ⟨by first | exact Kd.R_nil _ _ _ _ _ | exact Kd.N_nil _ _ _ _ _ | exact Kd.V_nil _ _ _ _ _ | exact Kd.Q_nil _ _ _ _ _ | exact Kd.S_nil _ _ _ _ _⟩, ⟨by (with_reducible repeat (first | apply Kd.R_alloc | apply Kd.R_drewN | apply Kd.R_drew)); exact HO124.out⟩, ⟨by repeat (first | (with_reducible first | exact HB.out | apply below_alloc | apply pw_below_drewN | apply below_drew1) | exact HB.out)⟩⟩
          case round =>
            clear H'
            try clear p2
            try clear c3
            try clear c5
            try clear c5b0
            try clear c5b1
            try clear c6
            try clear c6b0
            try clear c6b1
            try clear c7
            try clear c8
            obtain ⟨x3_1, x23_1, rfl, HA, HK1, HO_0, HO_3, HO_21, HB⟩ := hrel
            cases gk with
            | zero => exact absurd HA.out (by simp [arrearslaw04_CoinSums.l0])
            | succ k1 =>
              have H := HA.out
              clear HA
              simp only [arrearslaw04_CoinSums.l0] at H
              by_cases c14 : x23_1 < (y122.length : Int)
              · rw [if_pos c14] at H
                have c14b0 : decide (x23_1 < (y122.length : Int)) = true := decide_eq_true c14
                clear c14
                by_cases c15 : 0 ≤ x23_1
                · rw [if_pos c15] at H
                  have c15b0 : decide (0 ≤ x23_1) = true := decide_eq_true c15
                  clear c15
                  by_cases c16 : x23_1 < (y122.length : Int)
                  · rw [if_pos c16] at H
                    have c16b0 : decide (x23_1 < (y122.length : Int)) = true := decide_eq_true c16
                    clear c16
                    by_cases c17 : x3_1.length < 17592186044416
                    · rw [if_pos c17] at H
                      have LMc17 := Aside0.mk c17
                      clear c17
                      obtain ⟨y126, hy126⟩ : ∃ y_ : List Int, y_ = (x3_1 ++ [rd y122 x23_1]) := ⟨_, rfl⟩
                      replace H : (arrearslaw04_CoinSums.l0 k1 y122 y126 y122 (y122.length : Int) (wrap64 (x23_1 + 1))) = some r := by first | (rw [hy126]; with_reducible exact H) | (have H2_ := (Option.bind_some _ _).symm.trans H; rw [hy126]; with_reducible exact H2_) | (have H2_ := (Option.bind_some _ _).symm.trans H; with_reducible exact H2_) | with_reducible exact H | (rw [hy126]; exact H) | exact H
                      have Ny126 := Aside0.mk hy126
                      clear hy126
                      have H' := Aside0.mk H
                      clear H
                      have p125 : 0 ≤ (x23_1 : Int) := of_decide_eq_true (by first | (with_reducible assumption) | assumption)
                      have q125 : x23_1 < (y122.length : Int) := of_decide_eq_true (by first | (with_reducible assumption) | assumption)
                      (try (obtain ⟨_, _, hxx_⟩ := Kd.R_slice HO_21.out; subst hxx_))
                      obtain ⟨ad125, e125, hx125_0⟩ := Kd.at_int (Kd.R_reads' HO_21.out).2.2 x23_1 p125 q125
                      cases e125
                      replace p125 := eq_true p125
                      replace q125 := eq_true q125
                      go_wp2_with (first | ((with_reducible refine gate_builtin (b := .append) (xs := #[.tmp 27, .tmp 29]) rfl ?_); at_builtin; refine Kd.R_append (Kd.int .i64) (w0 := w) w.heap.size rfl (.tmp 27) (.tmp 29) 41 22 (.int .i64 0) 8 rfl Tryd.underlying41 info22 rfl (by decide) (by omega) u3 x3_1 (rd y122 x23_1) [.int .i64 (rd y122 x23_1)] (fun _ => True) (fun _ => False) rfl rfl ?aP (fun _ hk => hk.elim) ?aF ?aO ?aB ?aS ?aL ?_; (case aP => exact rfl); (case aB => exact (by repeat (first | (with_reducible first | exact HB.out | apply below_alloc | apply pw_below_drewN | apply below_drew1) | exact HB.out))); (case aF => exact (fun _ _ => trivial)); (case aO => exact (by (with_reducible repeat (first | apply Kd.R_alloc | apply Kd.R_drewN | apply Kd.R_drew)); exact HO_3.out)); (case aS => exact (below_size (by repeat (first | (with_reducible first | exact HB.out | apply below_alloc | apply pw_below_drewN | apply below_drew1) | exact HB.out)))); (case aL => have := LMc17.out; omega); intro v127 w18 ho hb hg hat; rw [← Ny126.out] at ho; have n0_ := Aside0.mk (Kd.R_over' (by (with_reducible repeat (first | apply Kd.R_alloc | apply Kd.R_drewN | apply Kd.R_drew)); exact HO_0.out) (Kd.R_typed (by (with_reducible repeat (first | apply Kd.R_alloc | apply Kd.R_drewN | apply Kd.R_drew)); exact HO_3.out)) (by decide) hg); have n1_ := Aside0.mk (Kd.R_over' (by (with_reducible repeat (first | apply Kd.R_alloc | apply Kd.R_drewN | apply Kd.R_drew)); exact HO_21.out) (Kd.R_typed (by (with_reducible repeat (first | apply Kd.R_alloc | apply Kd.R_drewN | apply Kd.R_drew)); exact HO_3.out)) (by decide) hg); have n2_ := Aside0.mk (hb); have n3_ := Aside0.mk (ho); clear HO_0; clear HO_21; clear HB; clear HO_3; have HO_0 := n0_; have HO_21 := n1_; have HB := n2_; have HO128 := n3_; clear n0_ n1_ n2_ n3_; clear ho hb hg hat))
                      go_roundg k1
                      case measure => have := HK1.out; omega
                      case rel => exact ⟨(y126), (wrap64 (x23_1 + 1)), (by first | rfl | (simp; done) | (simp [*]; done) | (exfalso; simp at *; omega)), H', ⟨by have := HK1.out; omega⟩, ⟨by (with_reducible repeat (first | apply Kd.R_alloc | apply Kd.R_drewN | apply Kd.R_drew)); exact HO_0.out⟩, ⟨by (with_reducible repeat (first | apply Kd.R_alloc | apply Kd.R_drewN | apply Kd.R_drew)); exact HO128.out⟩, ⟨by (with_reducible repeat (first | apply Kd.R_alloc | apply Kd.R_drewN | apply Kd.R_drew)); exact HO_21.out⟩, ⟨by repeat (first | (with_reducible first | exact HB.out | apply below_alloc | apply pw_below_drewN | apply below_drew1) | exact HB.out)⟩⟩
                    · rw [if_neg c17] at H
                      exact absurd H (by simp)
                  · first | exact absurd c14 c16 | exact absurd (beq_iff_eq.mp c14b0) c16 | exact absurd (of_decide_eq_true (by assumption)) c16 | exact absurd (by assumption) c16
                · rw [if_neg c15] at H
                  exact absurd H (by simp)
              · rw [if_neg c14] at H
                have c14b0 : decide (x23_1 < (y122.length : Int)) = false := decide_eq_false c14
                clear c14
                replace H := Option.bind_eq_some_iff.mp H
                obtain ⟨⟨t129, t130⟩, A190, H⟩ := H
                replace H : (arrearslaw04_CoinSums.l1 k1 t129 t130 0 true y122 (y122.length : Int) 0) = some r := H
                have A19 := Aside0.mk A190
                clear A190
                have H' := Aside0.mk H
                clear H
                obtain ⟨Ao20, co20, eo20⟩ := Kd.R_slice HO_3.out
                subst eo20
                go_wp2_with (first | ((with_reducible refine gate_callee (f := 18) rfl ?_); refine goesL_ (some 34) rfl rfl Tryd.func18 (by kernel_rfl) rfl #[.slice Ao20 x3_1.length co20] rfl (by (try simp only [List.map_toArray, List.map_cons, List.map_nil]); first | done | rfl | (simp only [List.length_drop, List.length_take]; rfl)) ?_; (with_reducible refine (coin_Sum.calls k1 _ _ x3_1 t129 t130 _ ?side1 ?side2 A19.out).mono ?_); (case side1 => repeat (first | exact (Kd.R_reads' HO_3.out).2.2 | (with_reducible refine Kd.C_alloc ?_ _) | (with_reducible refine Kd.C_drewN ?_ _) | (with_reducible refine Kd.C_drew ?_))); (case side2 => exact (Kd.R_reads' HO_3.out).2.1); rintro e w' ⟨rfl, ⟨nd, rfl⟩⟩; refine ⟨_, rfl, ?_⟩; (try simp only [errW_none, errW_some])))
                go_loopg [8, 9, 39] k1 (fun kq v8 v9 v39 w' => ∃ (x8_2 : Int) (x9_2 : Bool) (x39_2 : Int), v8 = .int .i64 x8_2 ∧ v9 = .bool x9_2 ∧ v39 = .int .i64 x39_2 ∧ Aside0 (arrearslaw04_CoinSums.l1 kq t129 t130 x8_2 x9_2 y122 (y122.length : Int) x39_2 = some r) ∧ Aside0 (kq ≤ k1) ∧ Aside0 (Kd.R (Kd.int .i64) 2 w' w.heap.size (fun _ => True) (.slice Ao13 y122.length co13) y122) ∧ Aside0 (Below w.heap.size w w'))
                case atStart => exact ⟨(0), (true), (0), (by first | rfl | (simp; done) | (simp [*]; done) | (exfalso; simp at *; omega)), (by first | rfl | (simp; done) | (simp [*]; done) | (exfalso; simp at *; omega)), (by first | rfl | (simp; done) | (simp [*]; done) | (exfalso; simp at *; omega)), H', ⟨Nat.le_refl _⟩, ⟨by (with_reducible repeat (first | apply Kd.R_alloc | apply Kd.R_drewN | apply Kd.R_drew)); exact HO_0.out⟩, ⟨by repeat (first | (with_reducible first | exact HB.out | apply below_alloc | apply pw_below_drewN | apply below_drew1) | exact HB.out)⟩⟩
                case round =>
                  clear H'
                  try clear c1
                  try clear p1
                  try clear q1
                  try clear hx1
                  try clear p2
                  try clear c3
                  try clear c5
                  try clear c5b0
                  try clear c5b1
                  try clear c6
                  try clear c6b0
                  try clear c6b1
                  try clear p6
                  try clear c7
                  try clear c8
                  try clear p12
                  try clear q12
                  try clear hx12
                  try clear c14
                  try clear c14b0
                  try clear c15
                  try clear c15b0
                  try clear c16
                  try clear c16b0
                  try clear c17
                  try clear c18
                  try clear hx125_0
                  try clear p125
                  try clear p2
                  try clear q125
                  obtain ⟨x8_2, x9_2, x39_2, rfl, rfl, rfl, HA, HK2, HO_37, HB⟩ := hrel
                  cases gk with
                  | zero => exact absurd HA.out (by simp [arrearslaw04_CoinSums.l1])
                  | succ k2 =>
                    have H := HA.out
                    clear HA
                    simp only [arrearslaw04_CoinSums.l1] at H
                    by_cases c21 : x39_2 < (y122.length : Int)
                    · rw [if_pos c21] at H
                      have c21b0 : decide (x39_2 < (y122.length : Int)) = true := decide_eq_true c21
                      clear c21
                      by_cases c22 : 0 ≤ x39_2
                      · rw [if_pos c22] at H
                        have c22b0 : decide (0 ≤ x39_2) = true := decide_eq_true c22
                        clear c22
                        by_cases c23 : x39_2 < (y122.length : Int)
                        · rw [if_pos c23] at H
                          have c23b0 : decide (x39_2 < (y122.length : Int)) = true := decide_eq_true c23
                          clear c23
                          by_cases c24 : x9_2 = true
                          · subst c24
                            have H1 : ((arrearsref04_Add.f x8_2 (rd y122 x39_2)).bind fun bt132 => (arrearslaw04_CoinSums.l1 k2 t129 t130 bt132.1 bt132.2 y122 (y122.length : Int) (wrap64 (x39_2 + 1)))) = some r := by rw [if_pos rfl] at H; exact H
                            clear H
                            have H := H1
                            clear H1
                            replace H := Option.bind_eq_some_iff.mp H
                            obtain ⟨⟨t132, t133⟩, A250, H⟩ := H
                            replace H : (arrearslaw04_CoinSums.l1 k2 t129 t130 t132 t133 y122 (y122.length : Int) (wrap64 (x39_2 + 1))) = some r := H
                            have A25 := Aside0.mk A250
                            clear A250
                            have H' := Aside0.mk H
                            clear H
                            have p131 : 0 ≤ (x39_2 : Int) := of_decide_eq_true (by first | (with_reducible assumption) | assumption)
                            have q131 : x39_2 < (y122.length : Int) := of_decide_eq_true (by first | (with_reducible assumption) | assumption)
                            (try (obtain ⟨_, _, hxx_⟩ := Kd.R_slice HO_37.out; subst hxx_))
                            obtain ⟨ad131, e131, hx131_0⟩ := Kd.at_int (Kd.R_reads' HO_37.out).2.2 x39_2 p131 q131
                            cases e131
                            replace p131 := eq_true p131
                            replace q131 := eq_true q131
                            go_wp2_with (first | ((with_reducible refine gate_callee (f := 19) rfl ?_); refine goesL_ (some 47) rfl rfl Tryd.func19 (by kernel_rfl) rfl #[.int .i64 x8_2, .int .i64 (rd y122 x39_2)] rfl (by (try simp only [List.map_toArray, List.map_cons, List.map_nil]); first | done | rfl | (simp only [List.length_drop, List.length_take]; rfl)) ?_; (with_reducible refine (arrearsref04_Add.calls x8_2 (rd y122 x39_2) t132 t133 _ A25.out).mono ?_); rintro e w' ⟨rfl, ⟨nd, rfl⟩⟩; refine ⟨_, rfl, ?_⟩))
                            go_roundg k2
                            case measure => have := HK1.out; have := HK2.out; omega
                            case rel => exact ⟨(t132), (t133), (wrap64 (x39_2 + 1)), (by first | rfl | (simp; done) | (simp [*]; done) | (exfalso; simp at *; omega)), (by first | rfl | (simp; done) | (simp [*]; done) | (exfalso; simp at *; omega)), (by first | rfl | (simp; done) | (simp [*]; done) | (exfalso; simp at *; omega)), H', ⟨by have := HK1.out; have := HK2.out; omega⟩, ⟨by (with_reducible repeat (first | apply Kd.R_alloc | apply Kd.R_drewN | apply Kd.R_drew)); exact HO_37.out⟩, ⟨by repeat (first | (with_reducible first | exact HB.out | apply below_alloc | apply pw_below_drewN | apply below_drew1) | exact HB.out)⟩⟩
                          · replace c24 := Bool.eq_false_iff.mpr c24
                            subst c24
                            have H1 : (arrearslaw04_CoinSums.l1 k2 t129 t130 x8_2 false y122 (y122.length : Int) (wrap64 (x39_2 + 1))) = some r := by rw [if_neg (show ¬ (false = true) by decide)] at H; exact H
                            clear H
                            have H := H1
                            clear H1
                            have H' := Aside0.mk H
                            clear H
                            have p131 : 0 ≤ (x39_2 : Int) := of_decide_eq_true (by first | (with_reducible assumption) | assumption)
                            have q131 : x39_2 < (y122.length : Int) := of_decide_eq_true (by first | (with_reducible assumption) | assumption)
                            (try (obtain ⟨_, _, hxx_⟩ := Kd.R_slice HO_37.out; subst hxx_))
                            obtain ⟨ad131, e131, hx131_0⟩ := Kd.at_int (Kd.R_reads' HO_37.out).2.2 x39_2 p131 q131
                            cases e131
                            replace p131 := eq_true p131
                            replace q131 := eq_true q131
                            go_wp2
                            go_roundg k2
                            case measure => have := HK1.out; have := HK2.out; omega
                            case rel => exact ⟨(x8_2), (false), (wrap64 (x39_2 + 1)), (by first | rfl | (simp; done) | (simp [*]; done) | (exfalso; simp at *; omega)), (by first | rfl | (simp; done) | (simp [*]; done) | (exfalso; simp at *; omega)), (by first | rfl | (simp; done) | (simp [*]; done) | (exfalso; simp at *; omega)), H', ⟨by have := HK1.out; have := HK2.out; omega⟩, ⟨by (with_reducible repeat (first | apply Kd.R_alloc | apply Kd.R_drewN | apply Kd.R_drew)); exact HO_37.out⟩, ⟨by repeat (first | (with_reducible first | exact HB.out | apply below_alloc | apply pw_below_drewN | apply below_drew1) | exact HB.out)⟩⟩
                        · first | exact absurd c21 c23 | exact absurd (beq_iff_eq.mp c21b0) c23 | exact absurd (of_decide_eq_true (by assumption)) c23 | exact absurd (by assumption) c23
                      · rw [if_neg c22] at H
                        exact absurd H (by simp)
                    · rw [if_neg c21] at H
                      have c21b0 : decide (x39_2 < (y122.length : Int)) = false := decide_eq_false c21
                      clear c21
                      by_cases c26 : x9_2 = true
                      · subst c26
                        have H1 : (if t130.isNone = true then (some (t129 == x8_2)) else (some false)) = some r := by rw [if_pos rfl] at H; exact H
                        clear H
                        have H := H1
                        clear H1
                        rcases t130 with _ | q134
                        · have H1 : (some (t129 == x8_2)) = some r := by rw [if_pos (show (none : Option Int).isNone = true by rfl)] at H; exact H
                          clear H
                          have H := H1
                          clear H1
                          try simp only [errW_none, errW_some]
                          obtain rfl := Option.some.inj H
                          go_wp2
                          go_ret
                          exact ⟨by first | rfl | (simp [errW_none, errW_some] <;> rfl) | (simp only [← hji4]; first | rfl | (simp [errW_none, errW_some] <;> rfl)) | (simp [*, errW_none, errW_some] <;> rfl), by repeat (first | (with_reducible first | exact HB.out | apply below_alloc | apply pw_below_drewN | apply below_drew1) | exact HB.out)⟩
                        · have H1 : (some false) = some r := by rw [if_neg (show ¬ (some q134).isNone = true by simp)] at H; exact H
                          clear H
                          have H := H1
                          clear H1
                          try simp only [errW_none, errW_some]
                          exact absurd (H.trans (congrArg some HR.out)) (by simp)
                      · replace c26 := Bool.eq_false_iff.mpr c26
                        subst c26
                        have H1 : (if t129 = 0 then ((api_Code.f t130).bind fun t135 => (some (t135 == 12))) else (some false)) = some r := by rw [if_neg (show ¬ (false = true) by decide)] at H; exact H
                        clear H
                        have H := H1
                        clear H1
                        by_cases c27 : t129 = 0
                        · rw [if_pos c27] at H
                          have c27b0 : (t129 == 0) = true := beq_iff_eq.mpr c27
                          have c27b1 : (t129 != 0) = false := bne_eq_false_iff_eq.mpr c27
                          clear c27
                          replace H := Option.bind_eq_some_iff.mp H
                          obtain ⟨t135, A280, H⟩ := H
                          replace H : (some (t135 == 12)) = some r := H
                          have A28 := Aside0.mk A280
                          clear A280
                          obtain rfl := Option.some.inj H
                          have CA28 := fun W (hGW : Go.Proofs.YtkjofbdlholmbaaDoor.M.Laid W) => api_Code.calls t130 t135 W hGW A28.out
                          try simp only [errW_none, errW_some] at CA28
                          go_wp2_with (first | (go_at_call 17; (with_reducible refine (CA28 _ ?hGL).mono ?_); (case hGL => exact Go.Proofs.YtkjofbdlholmbaaDoor.M.Laid.below HG.out (by repeat (first | (with_reducible first | exact HB.out | apply below_alloc | apply pw_below_drewN | apply below_drew1) | exact HB.out))); rintro e w29 ⟨rfl, hb⟩; have n0_ := Aside0.mk (Kd.R_below (by (with_reducible repeat (first | apply Kd.R_alloc | apply Kd.R_drewN | apply Kd.R_drew)); exact HO_37.out) hb); have n1_ := Aside0.mk (below_step (by repeat (first | (with_reducible first | exact HB.out | apply below_alloc | apply pw_below_drewN | apply below_drew1) | exact HB.out)) hb); clear HO_37; clear HB; have HO_37 := n0_; have HB := n1_; clear n0_ n1_; (try clear hb); (try clear hb2); (try clear hk); (try clear hi)))
                          go_ret
                          exact ⟨by first | rfl | (simp [errW_none, errW_some] <;> rfl) | (simp only [← hji4]; first | rfl | (simp [errW_none, errW_some] <;> rfl)) | (simp [*, errW_none, errW_some] <;> rfl), by repeat (first | (with_reducible first | exact HB.out | apply below_alloc | apply pw_below_drewN | apply below_drew1) | exact HB.out)⟩
                        · rw [if_neg c27] at H
                          have c27b0 : (t129 == 0) = false := beq_eq_false_iff_ne.mpr c27
                          have c27b1 : (t129 != 0) = true := bne_iff_ne.mpr c27
                          exact absurd (H.trans (congrArg some HR.out)) (by simp)
        · rw [if_neg c7] at H
          exact absurd H (by simp)
      · rw [if_neg c6] at H
        exact absurd H (by simp)
    · rw [if_neg c5] at H
      exact absurd H (by simp)
  · replace c3 := Bool.eq_false_iff.mpr c3
    subst c3
    have H1 : (some false) = some r := by rw [if_neg (show ¬ (false = true) by decide)] at H; exact H
    clear H
    have H := H1
    clear H1
    exact absurd (H.trans (congrArg some HR.out)) (by simp)
end Go.Proofs.YtkjofbdlholmbaaDoor.PCoinSums
