-- Printed by a wrapper of this session's round the kit's print.py; Lean checks it.
import Derived.Test.YtkjofbdlholmbaaDoorPCoinReadsx0
import Derived.Test.YtkjofbdlholmbaaDoorPCoinReadsx1
import Derived.Test.YtkjofbdlholmbaaDoorPCoinReadsx2
import Derived.Test.YtkjofbdlholmbaaDoorPCoinReadsx3
import Derived.Test.YtkjofbdlholmbaaDoorPCoinReadsx4
namespace Go.Proofs.YtkjofbdlholmbaaDoor.PCoinReads
open Go.RowKit Go.Proofs.YtkjofbdlholmbaaDoorW.PrintWords Go.Proofs.YtkjofbdlholmbaaDoorW.PrintLast Go.Proofs.YtkjofbdlholmbaaDoorW.PrintMore
attribute [local go_sem] max2_int min2_int max_two min_two max_three min_three max_four min_four   -- for this text's walks alone
set_option linter.unusedVariables false
set_option linter.unusedSimpArgs false

/-! ### api_Code: function 17 -/
open Go.Proofs.YtkjofbdlholmbaaDoor.M (Laid Laid.below Laid.et as_hit)
def api_Code.f (a0 : Option Int) : Option Int := some (a0.getD 0)
set_option maxHeartbeats 8000000 in
theorem api_Code.calls (a0 : Option Int) (r : Int) (w : World) (hG : Laid w) (h : api_Code.f a0 = some r) :
    Calls Tryd.prog 17 #[errW a0] w fun e w' => e = .returned (.int .i64 r) ∧ Below w.heap.size w w' := by
  unfold api_Code.f at h
  obtain rfl := Option.some.inj h
  cases a0 with
  | none =>
    go_enter Tryd.func17, Tryd.ntmps17
    simp only [errW_none]
    go_wp2
    go_ret
    exact ⟨rfl, Below.refl _ _⟩
  | some c =>
    have hw : Laid (w.alloc (.cells #[.int .i64 0] 37)) := Laid.below hG (below_alloc (Below.refl _ _) _)
    have hit := as_hit c ⟨w.heap.size, 0, none⟩ (.int .i64 0) (w.alloc (.cells #[.int .i64 0] 37)) hw.et (by simp) (by simp)
    have HIT := Aside0.mk hit
    clear hit hw hG
    go_enter Tryd.func17, Tryd.ntmps17
    simp only [errW_some]
    go_wp2_with (go_at_call 29; refine HIT.out.mono ?_; rintro e w' ⟨rfl, rfl⟩)
    go_ret
    exact ⟨rfl, by repeat (first | exact Below.refl _ _ | apply below_alloc | apply pw_below_drewN | apply below_drew1 | (refine below_set ?_ (Nat.le_refl _)))⟩


/-! ### arrearslaw04_CoinReads: function 5 -/
def arrearslaw04_CoinReads.f (k : Nat) (a0 : ByteArray) : Option (Bool) := (arrearslaw04_awake.f).bind fun t113 => (if t113 = true then ((arrearsref01_Text.f a0 40).bind fun t114 => ((coin_Read.f t114).bind fun bt115 => ((arrearsref04_Read.f k t114).bind fun bt117 => ((api_Code.f bt115.2).bind fun t119 => (if t119 = bt117.2 then (if bt115.1 = bt117.1 then (if bt115.2.isNone = true then ((coin_Coin_Text.f bt115.1).bind fun t121 => (some (t121.toList == t114.toList))) else (some true)) else (some false)) else (some false)))))) else (some false))
theorem arrearslaw04_CoinReads.mono : ∀ a0 k, LeO (arrearslaw04_CoinReads.f k a0) (arrearslaw04_CoinReads.f (k + 1) a0) := by
  intro a0 k
  unfold arrearslaw04_CoinReads.f
  repeat' first
      | (with_reducible exact arrearsref04_Read.mono _ _)
      | (with_reducible exact LeO.refl _)
      | (with_reducible exact LeO.none _)
      | (with_reducible refine LeO.ite ?_ ?_)
      | (with_reducible refine LeO.bind ?_ (fun _ => ?_))
      | exact arrearsref04_Read.mono _ _
      | exact LeO.none _
      | refine LeO.ite ?_ ?_
      | refine LeO.bind ?_ (fun _ => ?_)
set_option maxHeartbeats 8000000 in
set_option maxRecDepth 100000 in
theorem arrearslaw04_CoinReads.calls (k : Nat) (a0 : ByteArray) (r : Bool) (w : World) (hG : Go.Proofs.YtkjofbdlholmbaaDoor.M.Laid w) (h : arrearslaw04_CoinReads.f k a0 = some r) (hr : r = true) :
    Calls Tryd.prog 5 #[.string a0] w fun e w' => e = .returned (.bool r) ∧ Below w.heap.size w w' := by
  have hu26 := Tryd.underlying26
  have hu37 := Tryd.underlying37
  have HB := Aside0.mk (Below.refl w.heap.size w)
  have HG := Aside0.mk hG
  clear hG
  have HR := Aside0.mk hr
  clear hr
  have H : ((arrearslaw04_awake.f).bind fun t113 => (if t113 = true then ((arrearsref01_Text.f a0 40).bind fun t114 => ((coin_Read.f t114).bind fun bt115 => ((arrearsref04_Read.f k t114).bind fun bt117 => ((api_Code.f bt115.2).bind fun t119 => (if t119 = bt117.2 then (if bt115.1 = bt117.1 then (if bt115.2.isNone = true then ((coin_Coin_Text.f bt115.1).bind fun t121 => (some (t121.toList == t114.toList))) else (some true)) else (some false)) else (some false)))))) else (some false))) = some r := h
  clear h
  replace H := Option.bind_eq_some_iff.mp H
  obtain ⟨t113, A20, H⟩ := H
  replace H : (if t113 = true then ((arrearsref01_Text.f a0 40).bind fun t114 => ((coin_Read.f t114).bind fun bt115 => ((arrearsref04_Read.f k t114).bind fun bt117 => ((api_Code.f bt115.2).bind fun t119 => (if t119 = bt117.2 then (if bt115.1 = bt117.1 then (if bt115.2.isNone = true then ((coin_Coin_Text.f bt115.1).bind fun t121 => (some (t121.toList == t114.toList))) else (some true)) else (some false)) else (some false)))))) else (some false)) = some r := H
  have A2 := Aside0.mk A20
  clear A20
  by_cases c3 : t113 = true
  · subst c3
    have H1 : ((arrearsref01_Text.f a0 40).bind fun t114 => ((coin_Read.f t114).bind fun bt115 => ((arrearsref04_Read.f k t114).bind fun bt117 => ((api_Code.f bt115.2).bind fun t119 => (if t119 = bt117.2 then (if bt115.1 = bt117.1 then (if bt115.2.isNone = true then ((coin_Coin_Text.f bt115.1).bind fun t121 => (some (t121.toList == t114.toList))) else (some true)) else (some false)) else (some false)))))) = some r := by rw [if_pos rfl] at H; exact H
    clear H
    have H := H1
    clear H1
    replace H := Option.bind_eq_some_iff.mp H
    obtain ⟨t114, A40, H⟩ := H
    replace H : ((coin_Read.f t114).bind fun bt115 => ((arrearsref04_Read.f k t114).bind fun bt117 => ((api_Code.f bt115.2).bind fun t119 => (if t119 = bt117.2 then (if bt115.1 = bt117.1 then (if bt115.2.isNone = true then ((coin_Coin_Text.f bt115.1).bind fun t121 => (some (t121.toList == t114.toList))) else (some true)) else (some false)) else (some false))))) = some r := H
    have A4 := Aside0.mk A40
    clear A40
    replace H := Option.bind_eq_some_iff.mp H
    obtain ⟨⟨t115, t116⟩, A50, H⟩ := H
    replace H : ((arrearsref04_Read.f k t114).bind fun bt117 => ((api_Code.f t116).bind fun t119 => (if t119 = bt117.2 then (if t115 = bt117.1 then (if t116.isNone = true then ((coin_Coin_Text.f t115).bind fun t121 => (some (t121.toList == t114.toList))) else (some true)) else (some false)) else (some false)))) = some r := H
    have A5 := Aside0.mk A50
    clear A50
    replace H := Option.bind_eq_some_iff.mp H
    obtain ⟨⟨t117, t118⟩, A60, H⟩ := H
    replace H : ((api_Code.f t116).bind fun t119 => (if t119 = t118 then (if t115 = t117 then (if t116.isNone = true then ((coin_Coin_Text.f t115).bind fun t121 => (some (t121.toList == t114.toList))) else (some true)) else (some false)) else (some false))) = some r := H
    have A6 := Aside0.mk A60
    clear A60
    replace H := Option.bind_eq_some_iff.mp H
    obtain ⟨t119, A70, H⟩ := H
    replace H : (if t119 = t118 then (if t115 = t117 then (if t116.isNone = true then ((coin_Coin_Text.f t115).bind fun t121 => (some (t121.toList == t114.toList))) else (some true)) else (some false)) else (some false)) = some r := H
    have A7 := Aside0.mk A70
    clear A70
    by_cases c8 : t119 = t118
    · rw [if_pos c8] at H
      have c8b0 : (t119 == t118) = true := beq_iff_eq.mpr c8
      have c8b1 : (t119 != t118) = false := bne_eq_false_iff_eq.mpr c8
      clear c8
      by_cases c9 : t115 = t117
      · rw [if_pos c9] at H
        have c9b0 : (t115 == t117) = true := beq_iff_eq.mpr c9
        have c9b1 : (t115 != t117) = false := bne_eq_false_iff_eq.mpr c9
        clear c9
        rcases t116 with _ | q120
        · have H1 : ((coin_Coin_Text.f t115).bind fun t121 => (some (t121.toList == t114.toList))) = some r := by rw [if_pos (show (none : Option Int).isNone = true by rfl)] at H; exact H
          clear H
          have H := H1
          clear H1
          try simp only [errW_none, errW_some]
          replace H := Option.bind_eq_some_iff.mp H
          obtain ⟨t121, A100, H⟩ := H
          replace H : (some (t121.toList == t114.toList)) = some r := H
          have A10 := Aside0.mk A100
          clear A100
          obtain rfl := Option.some.inj H
          go_enter Tryd.func5, Tryd.ntmps5
          go_wp2_with (first | ((with_reducible refine gate_callee (f := 8) rfl ?_); refine goesL_ (some 7) rfl rfl Tryd.func8 (by kernel_rfl) rfl #[] rfl (by (try simp only [List.map_toArray, List.map_cons, List.map_nil]); first | done | rfl | (simp only [List.length_drop, List.length_take]; rfl)) ?_; (with_reducible refine (arrearslaw04_awake.calls  true _ ?hGL A2.out).mono ?_); (case hGL => exact Go.Proofs.YtkjofbdlholmbaaDoor.M.Laid.below HG.out (by repeat (first | (with_reducible first | exact HB.out | apply below_alloc | apply pw_below_drewN | apply below_drew1) | exact HB.out))); rintro e w11 ⟨rfl, hb⟩; refine ⟨_, rfl, ?_⟩; have n0_ := Aside0.mk (below_step (by repeat (first | (with_reducible first | exact HB.out | apply below_alloc | apply pw_below_drewN | apply below_drew1) | exact HB.out)) hb); clear HB; have HB := n0_; clear n0_; (try clear hb); (try clear hb2); (try clear hk); (try clear hi)) | ((with_reducible refine gate_callee (f := 15) rfl ?_); refine goesL_ (some 10) rfl rfl Tryd.func15 (by kernel_rfl) rfl #[.string a0, .int .i64 40] rfl (by (try simp only [List.map_toArray, List.map_cons, List.map_nil]); first | done | rfl | (simp only [List.length_drop, List.length_take]; rfl)) ?_; (with_reducible refine (arrearsref01_Text.calls a0 40 t114 _ A4.out).mono ?_); rintro e w12 ⟨rfl, hb⟩; refine ⟨_, rfl, ?_⟩; have n0_ := Aside0.mk (below_step (by repeat (first | (with_reducible first | exact HB.out | apply below_alloc | apply pw_below_drewN | apply below_drew1) | exact HB.out)) hb); clear HB; have HB := n0_; clear n0_; (try clear hb); (try clear hb2); (try clear hk); (try clear hi)) | ((with_reducible refine gate_callee (f := 10) rfl ?_); refine goesL_ (some 13) rfl rfl Tryd.func10 (by kernel_rfl) rfl #[.string t114] rfl (by (try simp only [List.map_toArray, List.map_cons, List.map_nil]); first | done | rfl | (simp only [List.length_drop, List.length_take]; rfl)) ?_; (with_reducible refine (coin_Read.calls t114 t115 none _ ?hGL A5.out).mono ?_); (case hGL => exact Go.Proofs.YtkjofbdlholmbaaDoor.M.Laid.below HG.out (by repeat (first | (with_reducible first | exact HB.out | apply below_alloc | apply pw_below_drewN | apply below_drew1) | exact HB.out))); rintro e w13 ⟨rfl, hb⟩; refine ⟨_, rfl, ?_⟩; have n0_ := Aside0.mk (below_step (by repeat (first | (with_reducible first | exact HB.out | apply below_alloc | apply pw_below_drewN | apply below_drew1) | exact HB.out)) hb); clear HB; have HB := n0_; clear n0_; (try clear hb); (try clear hb2); (try clear hk); (try clear hi); (try simp only [errW_none, errW_some])) | ((with_reducible refine gate_callee (f := 16) rfl ?_); refine goesL_ (some 18) rfl rfl Tryd.func16 (by kernel_rfl) rfl #[.string t114] rfl (by (try simp only [List.map_toArray, List.map_cons, List.map_nil]); first | done | rfl | (simp only [List.length_drop, List.length_take]; rfl)) ?_; (with_reducible refine (arrearsref04_Read.calls k t114 t117 t118 _ A6.out).mono ?_); rintro e w' ⟨rfl, ⟨nd, rfl⟩⟩; refine ⟨_, rfl, ?_⟩; have CA7 := fun W (hGW : Go.Proofs.YtkjofbdlholmbaaDoor.M.Laid W) => api_Code.calls none t119 W hGW A7.out; try simp only [errW_none, errW_some] at CA7) | (go_at_call 17; (with_reducible refine (CA7 _ ?hGL).mono ?_); (case hGL => exact Go.Proofs.YtkjofbdlholmbaaDoor.M.Laid.below HG.out (by repeat (first | (with_reducible first | exact HB.out | apply below_alloc | apply pw_below_drewN | apply below_drew1) | exact HB.out))); rintro e w14 ⟨rfl, hb⟩; have n0_ := Aside0.mk (below_step (by repeat (first | (with_reducible first | exact HB.out | apply below_alloc | apply pw_below_drewN | apply below_drew1) | exact HB.out)) hb); clear HB; have HB := n0_; clear n0_; (try clear hb); (try clear hb2); (try clear hk); (try clear hi)) | (go_at_call 9; (with_reducible refine (coin_Coin_Text.calls t115 t121 _ ?hGL A10.out).mono ?_); (case hGL => exact Go.Proofs.YtkjofbdlholmbaaDoor.M.Laid.below HG.out (by repeat (first | (with_reducible first | exact HB.out | apply below_alloc | apply pw_below_drewN | apply below_drew1) | exact HB.out))); rintro e w15 ⟨rfl, hb⟩; have n0_ := Aside0.mk (below_step (by repeat (first | (with_reducible first | exact HB.out | apply below_alloc | apply pw_below_drewN | apply below_drew1) | exact HB.out)) hb); clear HB; have HB := n0_; clear n0_; (try clear hb); (try clear hb2); (try clear hk); (try clear hi)))
          go_ret
          exact ⟨by first | rfl | (simp [errW_none, errW_some] <;> rfl) | (simp [*, errW_none, errW_some] <;> rfl), by repeat (first | (with_reducible first | exact HB.out | apply below_alloc | apply pw_below_drewN | apply below_drew1) | exact HB.out)⟩
        · have H1 : (some true) = some r := by rw [if_neg (show ¬ (some q120).isNone = true by simp)] at H; exact H
          clear H
          have H := H1
          clear H1
          try simp only [errW_none, errW_some]
          obtain rfl := Option.some.inj H
          go_enter Tryd.func5, Tryd.ntmps5
          go_wp2_with (first | ((with_reducible refine gate_callee (f := 8) rfl ?_); refine goesL_ (some 7) rfl rfl Tryd.func8 (by kernel_rfl) rfl #[] rfl (by (try simp only [List.map_toArray, List.map_cons, List.map_nil]); first | done | rfl | (simp only [List.length_drop, List.length_take]; rfl)) ?_; (with_reducible refine (arrearslaw04_awake.calls  true _ ?hGL A2.out).mono ?_); (case hGL => exact Go.Proofs.YtkjofbdlholmbaaDoor.M.Laid.below HG.out (by repeat (first | (with_reducible first | exact HB.out | apply below_alloc | apply pw_below_drewN | apply below_drew1) | exact HB.out))); rintro e w16 ⟨rfl, hb⟩; refine ⟨_, rfl, ?_⟩; have n0_ := Aside0.mk (below_step (by repeat (first | (with_reducible first | exact HB.out | apply below_alloc | apply pw_below_drewN | apply below_drew1) | exact HB.out)) hb); clear HB; have HB := n0_; clear n0_; (try clear hb); (try clear hb2); (try clear hk); (try clear hi)) | ((with_reducible refine gate_callee (f := 15) rfl ?_); refine goesL_ (some 10) rfl rfl Tryd.func15 (by kernel_rfl) rfl #[.string a0, .int .i64 40] rfl (by (try simp only [List.map_toArray, List.map_cons, List.map_nil]); first | done | rfl | (simp only [List.length_drop, List.length_take]; rfl)) ?_; (with_reducible refine (arrearsref01_Text.calls a0 40 t114 _ A4.out).mono ?_); rintro e w17 ⟨rfl, hb⟩; refine ⟨_, rfl, ?_⟩; have n0_ := Aside0.mk (below_step (by repeat (first | (with_reducible first | exact HB.out | apply below_alloc | apply pw_below_drewN | apply below_drew1) | exact HB.out)) hb); clear HB; have HB := n0_; clear n0_; (try clear hb); (try clear hb2); (try clear hk); (try clear hi)) | ((with_reducible refine gate_callee (f := 10) rfl ?_); refine goesL_ (some 13) rfl rfl Tryd.func10 (by kernel_rfl) rfl #[.string t114] rfl (by (try simp only [List.map_toArray, List.map_cons, List.map_nil]); first | done | rfl | (simp only [List.length_drop, List.length_take]; rfl)) ?_; (with_reducible refine (coin_Read.calls t114 t115 (some q120) _ ?hGL A5.out).mono ?_); (case hGL => exact Go.Proofs.YtkjofbdlholmbaaDoor.M.Laid.below HG.out (by repeat (first | (with_reducible first | exact HB.out | apply below_alloc | apply pw_below_drewN | apply below_drew1) | exact HB.out))); rintro e w18 ⟨rfl, hb⟩; refine ⟨_, rfl, ?_⟩; have n0_ := Aside0.mk (below_step (by repeat (first | (with_reducible first | exact HB.out | apply below_alloc | apply pw_below_drewN | apply below_drew1) | exact HB.out)) hb); clear HB; have HB := n0_; clear n0_; (try clear hb); (try clear hb2); (try clear hk); (try clear hi); (try simp only [errW_none, errW_some])) | ((with_reducible refine gate_callee (f := 16) rfl ?_); refine goesL_ (some 18) rfl rfl Tryd.func16 (by kernel_rfl) rfl #[.string t114] rfl (by (try simp only [List.map_toArray, List.map_cons, List.map_nil]); first | done | rfl | (simp only [List.length_drop, List.length_take]; rfl)) ?_; (with_reducible refine (arrearsref04_Read.calls k t114 t117 t118 _ A6.out).mono ?_); rintro e w' ⟨rfl, ⟨nd, rfl⟩⟩; refine ⟨_, rfl, ?_⟩; have CA7 := fun W (hGW : Go.Proofs.YtkjofbdlholmbaaDoor.M.Laid W) => api_Code.calls (some q120) t119 W hGW A7.out; try simp only [errW_none, errW_some] at CA7) | (go_at_call 17; (with_reducible refine (CA7 _ ?hGL).mono ?_); (case hGL => exact Go.Proofs.YtkjofbdlholmbaaDoor.M.Laid.below HG.out (by repeat (first | (with_reducible first | exact HB.out | apply below_alloc | apply pw_below_drewN | apply below_drew1) | exact HB.out))); rintro e w19 ⟨rfl, hb⟩; have n0_ := Aside0.mk (below_step (by repeat (first | (with_reducible first | exact HB.out | apply below_alloc | apply pw_below_drewN | apply below_drew1) | exact HB.out)) hb); clear HB; have HB := n0_; clear n0_; (try clear hb); (try clear hb2); (try clear hk); (try clear hi)))
          go_ret
          exact ⟨by first | rfl | (simp [errW_none, errW_some] <;> rfl) | (simp [*, errW_none, errW_some] <;> rfl), by repeat (first | (with_reducible first | exact HB.out | apply below_alloc | apply pw_below_drewN | apply below_drew1) | exact HB.out)⟩
      · rw [if_neg c9] at H
        have c9b0 : (t115 == t117) = false := beq_eq_false_iff_ne.mpr c9
        have c9b1 : (t115 != t117) = true := bne_iff_ne.mpr c9
        exact absurd (H.trans (congrArg some HR.out)) (by simp)
    · rw [if_neg c8] at H
      have c8b0 : (t119 == t118) = false := beq_eq_false_iff_ne.mpr c8
      have c8b1 : (t119 != t118) = true := bne_iff_ne.mpr c8
      exact absurd (H.trans (congrArg some HR.out)) (by simp)
  · replace c3 := Bool.eq_false_iff.mpr c3
    subst c3
    have H1 : (some false) = some r := by rw [if_neg (show ¬ (false = true) by decide)] at H; exact H
    clear H
    have H := H1
    clear H1
    exact absurd (H.trans (congrArg some HR.out)) (by simp)
end Go.Proofs.YtkjofbdlholmbaaDoor.PCoinReads
