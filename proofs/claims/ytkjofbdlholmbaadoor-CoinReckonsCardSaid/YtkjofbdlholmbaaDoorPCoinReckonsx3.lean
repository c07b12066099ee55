-- Printed by a wrapper of this session's round the kit's print.py; Lean checks it.
import Derived.Test.YtkjofbdlholmbaaDoorPCoinReckonsx0
import Derived.Test.YtkjofbdlholmbaaDoorPCoinReckonsx2
namespace Go.Proofs.YtkjofbdlholmbaaDoor.PCoinReckons
open Go.RowKit Go.Proofs.YtkjofbdlholmbaaDoorW.PrintWords Go.Proofs.YtkjofbdlholmbaaDoorW.PrintLast Go.Proofs.YtkjofbdlholmbaaDoorW.PrintMore
attribute [local go_sem] max2_int min2_int max_two min_two max_three min_three max_four min_four   -- for this text's walks alone
set_option linter.unusedVariables false
set_option linter.unusedSimpArgs false

/-! ### arrearslaw04_CoinReckons: function 7 -/
mutual
def arrearslaw04_CoinReckons.j0 : Nat → Int → Int → Int → Option Int → Bool → Option (Bool)
  | 0, _, _, _, _, _ => none
  | k + 1, x0, x1, x9, x10, x83 => if x83 = true then (some false) else (if x10.isNone = true then (if (true != (x0 != (-9223372036854775808))) = true then (arrearslaw04_CoinReckons.j1 k x0 x1 true) else (arrearslaw04_CoinReckons.j1 k x0 x1 (x9 != (wrap64 (-x0))))) else (if (false != (x0 != (-9223372036854775808))) = true then (arrearslaw04_CoinReckons.j1 k x0 x1 true) else (if x9 = 0 then ((api_Code.f (some (x10.getD 0))).bind fun t134 => (if t134 = 12 then (arrearslaw04_CoinReckons.j1 k x0 x1 false) else (arrearslaw04_CoinReckons.j1 k x0 x1 true))) else (arrearslaw04_CoinReckons.j1 k x0 x1 true))))
def arrearslaw04_CoinReckons.j1 : Nat → Int → Int → Bool → Option (Bool)
  | 0, _, _, _ => none
  | k + 1, x0, x1, x111 => if x111 = true then (some false) else ((coin_Coin_Least.f x0 x1).bind fun t135 => (if t135 = (mn x0 x1) then ((coin_Coin_Right.f x0).bind fun t136 => (if x0 ≥ 0 then (some (t136 == (decide (x0 ≤ 1000000000000)))) else (some (t136 == false)))) else (some false)))
end
def arrearslaw04_CoinReckons.f (k : Nat) (a0 : Int) (a1 : Int) : Option (Bool) := (arrearslaw04_awake.f).bind fun t115 => (if t115 = true then ((coin_Coin_Add.f a0 a1).bind fun bt116 => ((coin_Coin_Sub.f a0 a1).bind fun bt118 => ((coin_Coin_Neg.f a0).bind fun bt120 => ((arrearsref04_Add.f a0 a1).bind fun bt122 => ((arrearsref04_Sub.f a0 a1).bind fun bt124 => (if bt116.2.isNone = true then (if (true != bt122.2) = true then (arrearslaw04_CoinReckons.j0 k a0 a1 bt120.1 bt120.2 true) else (if bt118.2.isNone = true then (if (true != bt124.2) = true then (arrearslaw04_CoinReckons.j0 k a0 a1 bt120.1 bt120.2 true) else (if bt116.1 = bt122.1 then (if bt118.1 = bt124.1 then (arrearslaw04_CoinReckons.j0 k a0 a1 bt120.1 bt120.2 false) else (arrearslaw04_CoinReckons.j0 k a0 a1 bt120.1 bt120.2 true)) else (arrearslaw04_CoinReckons.j0 k a0 a1 bt120.1 bt120.2 true))) else (if (false != bt124.2) = true then (arrearslaw04_CoinReckons.j0 k a0 a1 bt120.1 bt120.2 true) else (if bt116.1 = bt122.1 then (if bt118.1 = bt124.1 then ((api_Code.f (some (bt118.2.getD 0))).bind fun t128 => (arrearslaw04_CoinReckons.j0 k a0 a1 bt120.1 bt120.2 (t128 != 12))) else (arrearslaw04_CoinReckons.j0 k a0 a1 bt120.1 bt120.2 true)) else (arrearslaw04_CoinReckons.j0 k a0 a1 bt120.1 bt120.2 true))))) else (if (false != bt122.2) = true then (arrearslaw04_CoinReckons.j0 k a0 a1 bt120.1 bt120.2 true) else (if bt118.2.isNone = true then (if (true != bt124.2) = true then (arrearslaw04_CoinReckons.j0 k a0 a1 bt120.1 bt120.2 true) else (if bt116.1 = bt122.1 then (if bt118.1 = bt124.1 then ((api_Code.f (some (bt116.2.getD 0))).bind fun t130 => (if t130 = 12 then (arrearslaw04_CoinReckons.j0 k a0 a1 bt120.1 bt120.2 false) else (arrearslaw04_CoinReckons.j0 k a0 a1 bt120.1 bt120.2 true))) else (arrearslaw04_CoinReckons.j0 k a0 a1 bt120.1 bt120.2 true)) else (arrearslaw04_CoinReckons.j0 k a0 a1 bt120.1 bt120.2 true))) else (if (false != bt124.2) = true then (arrearslaw04_CoinReckons.j0 k a0 a1 bt120.1 bt120.2 true) else (if bt116.1 = bt122.1 then (if bt118.1 = bt124.1 then ((api_Code.f (some (bt116.2.getD 0))).bind fun t131 => (if t131 = 12 then ((api_Code.f (some (bt118.2.getD 0))).bind fun t132 => (arrearslaw04_CoinReckons.j0 k a0 a1 bt120.1 bt120.2 (t132 != 12))) else (arrearslaw04_CoinReckons.j0 k a0 a1 bt120.1 bt120.2 true))) else (arrearslaw04_CoinReckons.j0 k a0 a1 bt120.1 bt120.2 true)) else (arrearslaw04_CoinReckons.j0 k a0 a1 bt120.1 bt120.2 true))))))))))) else (some false))
theorem arrearslaw04_CoinReckons.mono_l : ∀ k, (∀ y0 y1 y2 y3 y4, LeO (arrearslaw04_CoinReckons.j0 k y0 y1 y2 y3 y4) (arrearslaw04_CoinReckons.j0 (k + 1) y0 y1 y2 y3 y4)) ∧ (∀ y0 y1 y2, LeO (arrearslaw04_CoinReckons.j1 k y0 y1 y2) (arrearslaw04_CoinReckons.j1 (k + 1) y0 y1 y2))
  | 0 => ⟨fun _ _ _ _ _ r h => by simp [arrearslaw04_CoinReckons.j0] at h, fun _ _ _ r h => by simp [arrearslaw04_CoinReckons.j1] at h⟩
  | k + 1 => by
    obtain ⟨ih0, ih1⟩ := arrearslaw04_CoinReckons.mono_l k
    refine ⟨?_, ?_⟩
    · intro y0 y1 y2 y3 y4
      unfold arrearslaw04_CoinReckons.j0
      repeat' first
      | (with_reducible exact ih0 _ _ _ _ _)
      | (with_reducible exact ih1 _ _ _)
      | (with_reducible exact LeO.refl _)
      | (with_reducible exact LeO.none _)
      | (with_reducible refine LeO.ite ?_ ?_)
      | (with_reducible refine LeO.bind ?_ (fun _ => ?_))
      | exact ih0 _ _ _ _ _
      | exact ih1 _ _ _
      | exact LeO.none _
      | refine LeO.ite ?_ ?_
      | refine LeO.bind ?_ (fun _ => ?_)
    · intro y0 y1 y2
      unfold arrearslaw04_CoinReckons.j1
      repeat' first
      | (with_reducible exact ih0 _ _ _ _ _)
      | (with_reducible exact ih1 _ _ _)
      | (with_reducible exact LeO.refl _)
      | (with_reducible exact LeO.none _)
      | (with_reducible refine LeO.ite ?_ ?_)
      | (with_reducible refine LeO.bind ?_ (fun _ => ?_))
      | exact ih0 _ _ _ _ _
      | exact ih1 _ _ _
      | exact LeO.none _
      | refine LeO.ite ?_ ?_
      | refine LeO.bind ?_ (fun _ => ?_)
theorem arrearslaw04_CoinReckons.mono : ∀ a0 a1 k, LeO (arrearslaw04_CoinReckons.f k a0 a1) (arrearslaw04_CoinReckons.f (k + 1) a0 a1) := by
  intro a0 a1 k
  obtain ⟨ih0, ih1⟩ := arrearslaw04_CoinReckons.mono_l k
  unfold arrearslaw04_CoinReckons.f
  repeat' first
      | (with_reducible exact ih0 _ _ _ _ _)
      | (with_reducible exact ih1 _ _ _)
      | (with_reducible exact LeO.refl _)
      | (with_reducible exact LeO.none _)
      | (with_reducible refine LeO.ite ?_ ?_)
      | (with_reducible refine LeO.bind ?_ (fun _ => ?_))
      | exact ih0 _ _ _ _ _
      | exact ih1 _ _ _
      | exact LeO.none _
      | refine LeO.ite ?_ ?_
      | refine LeO.bind ?_ (fun _ => ?_)
set_option maxHeartbeats 8000000 in
set_option maxRecDepth 100000 in
theorem arrearslaw04_CoinReckons.calls (k : Nat) (a0 : Int) (a1 : Int) (r : Bool) (w : World) (hG : Go.Proofs.YtkjofbdlholmbaaDoor.M.Laid w) (h : arrearslaw04_CoinReckons.f k a0 a1 = some r) (hr : r = true) :
    Calls Tryd.prog 7 #[.int .i64 a0, .int .i64 a1] w fun e w' => e = .returned (.bool r) ∧ Below w.heap.size w w' := by
  have hu26 := Tryd.underlying26
  have hu37 := Tryd.underlying37
  have HB := Aside0.mk (Below.refl w.heap.size w)
  have HG := Aside0.mk hG
  clear hG
  have HR := Aside0.mk hr
  clear hr
  have H : ((arrearslaw04_awake.f).bind fun t115 => (if t115 = true then ((coin_Coin_Add.f a0 a1).bind fun bt116 => ((coin_Coin_Sub.f a0 a1).bind fun bt118 => ((coin_Coin_Neg.f a0).bind fun bt120 => ((arrearsref04_Add.f a0 a1).bind fun bt122 => ((arrearsref04_Sub.f a0 a1).bind fun bt124 => (if bt116.2.isNone = true then (if (true != bt122.2) = true then (arrearslaw04_CoinReckons.j0 k a0 a1 bt120.1 bt120.2 true) else (if bt118.2.isNone = true then (if (true != bt124.2) = true then (arrearslaw04_CoinReckons.j0 k a0 a1 bt120.1 bt120.2 true) else (if bt116.1 = bt122.1 then (if bt118.1 = bt124.1 then (arrearslaw04_CoinReckons.j0 k a0 a1 bt120.1 bt120.2 false) else (arrearslaw04_CoinReckons.j0 k a0 a1 bt120.1 bt120.2 true)) else (arrearslaw04_CoinReckons.j0 k a0 a1 bt120.1 bt120.2 true))) else (if (false != bt124.2) = true then (arrearslaw04_CoinReckons.j0 k a0 a1 bt120.1 bt120.2 true) else (if bt116.1 = bt122.1 then (if bt118.1 = bt124.1 then ((api_Code.f (some (bt118.2.getD 0))).bind fun t128 => (arrearslaw04_CoinReckons.j0 k a0 a1 bt120.1 bt120.2 (t128 != 12))) else (arrearslaw04_CoinReckons.j0 k a0 a1 bt120.1 bt120.2 true)) else (arrearslaw04_CoinReckons.j0 k a0 a1 bt120.1 bt120.2 true))))) else (if (false != bt122.2) = true then (arrearslaw04_CoinReckons.j0 k a0 a1 bt120.1 bt120.2 true) else (if bt118.2.isNone = true then (if (true != bt124.2) = true then (arrearslaw04_CoinReckons.j0 k a0 a1 bt120.1 bt120.2 true) else (if bt116.1 = bt122.1 then (if bt118.1 = bt124.1 then ((api_Code.f (some (bt116.2.getD 0))).bind fun t130 => (if t130 = 12 then (arrearslaw04_CoinReckons.j0 k a0 a1 bt120.1 bt120.2 false) else (arrearslaw04_CoinReckons.j0 k a0 a1 bt120.1 bt120.2 true))) else (arrearslaw04_CoinReckons.j0 k a0 a1 bt120.1 bt120.2 true)) else (arrearslaw04_CoinReckons.j0 k a0 a1 bt120.1 bt120.2 true))) else (if (false != bt124.2) = true then (arrearslaw04_CoinReckons.j0 k a0 a1 bt120.1 bt120.2 true) else (if bt116.1 = bt122.1 then (if bt118.1 = bt124.1 then ((api_Code.f (some (bt116.2.getD 0))).bind fun t131 => (if t131 = 12 then ((api_Code.f (some (bt118.2.getD 0))).bind fun t132 => (arrearslaw04_CoinReckons.j0 k a0 a1 bt120.1 bt120.2 (t132 != 12))) else (arrearslaw04_CoinReckons.j0 k a0 a1 bt120.1 bt120.2 true))) else (arrearslaw04_CoinReckons.j0 k a0 a1 bt120.1 bt120.2 true)) else (arrearslaw04_CoinReckons.j0 k a0 a1 bt120.1 bt120.2 true))))))))))) else (some false))) = some r := h
  clear h
  replace H := Option.bind_eq_some_iff.mp H
  obtain ⟨t115, A30, H⟩ := H
  replace H : (if t115 = true then ((coin_Coin_Add.f a0 a1).bind fun bt116 => ((coin_Coin_Sub.f a0 a1).bind fun bt118 => ((coin_Coin_Neg.f a0).bind fun bt120 => ((arrearsref04_Add.f a0 a1).bind fun bt122 => ((arrearsref04_Sub.f a0 a1).bind fun bt124 => (if bt116.2.isNone = true then (if (true != bt122.2) = true then (arrearslaw04_CoinReckons.j0 k a0 a1 bt120.1 bt120.2 true) else (if bt118.2.isNone = true then (if (true != bt124.2) = true then (arrearslaw04_CoinReckons.j0 k a0 a1 bt120.1 bt120.2 true) else (if bt116.1 = bt122.1 then (if bt118.1 = bt124.1 then (arrearslaw04_CoinReckons.j0 k a0 a1 bt120.1 bt120.2 false) else (arrearslaw04_CoinReckons.j0 k a0 a1 bt120.1 bt120.2 true)) else (arrearslaw04_CoinReckons.j0 k a0 a1 bt120.1 bt120.2 true))) else (if (false != bt124.2) = true then (arrearslaw04_CoinReckons.j0 k a0 a1 bt120.1 bt120.2 true) else (if bt116.1 = bt122.1 then (if bt118.1 = bt124.1 then ((api_Code.f (some (bt118.2.getD 0))).bind fun t128 => (arrearslaw04_CoinReckons.j0 k a0 a1 bt120.1 bt120.2 (t128 != 12))) else (arrearslaw04_CoinReckons.j0 k a0 a1 bt120.1 bt120.2 true)) else (arrearslaw04_CoinReckons.j0 k a0 a1 bt120.1 bt120.2 true))))) else (if (false != bt122.2) = true then (arrearslaw04_CoinReckons.j0 k a0 a1 bt120.1 bt120.2 true) else (if bt118.2.isNone = true then (if (true != bt124.2) = true then (arrearslaw04_CoinReckons.j0 k a0 a1 bt120.1 bt120.2 true) else (if bt116.1 = bt122.1 then (if bt118.1 = bt124.1 then ((api_Code.f (some (bt116.2.getD 0))).bind fun t130 => (if t130 = 12 then (arrearslaw04_CoinReckons.j0 k a0 a1 bt120.1 bt120.2 false) else (arrearslaw04_CoinReckons.j0 k a0 a1 bt120.1 bt120.2 true))) else (arrearslaw04_CoinReckons.j0 k a0 a1 bt120.1 bt120.2 true)) else (arrearslaw04_CoinReckons.j0 k a0 a1 bt120.1 bt120.2 true))) else (if (false != bt124.2) = true then (arrearslaw04_CoinReckons.j0 k a0 a1 bt120.1 bt120.2 true) else (if bt116.1 = bt122.1 then (if bt118.1 = bt124.1 then ((api_Code.f (some (bt116.2.getD 0))).bind fun t131 => (if t131 = 12 then ((api_Code.f (some (bt118.2.getD 0))).bind fun t132 => (arrearslaw04_CoinReckons.j0 k a0 a1 bt120.1 bt120.2 (t132 != 12))) else (arrearslaw04_CoinReckons.j0 k a0 a1 bt120.1 bt120.2 true))) else (arrearslaw04_CoinReckons.j0 k a0 a1 bt120.1 bt120.2 true)) else (arrearslaw04_CoinReckons.j0 k a0 a1 bt120.1 bt120.2 true))))))))))) else (some false)) = some r := H
  have A3 := Aside0.mk A30
  clear A30
  by_cases c4 : t115 = true
  · subst c4
    have H1 : ((coin_Coin_Add.f a0 a1).bind fun bt116 => ((coin_Coin_Sub.f a0 a1).bind fun bt118 => ((coin_Coin_Neg.f a0).bind fun bt120 => ((arrearsref04_Add.f a0 a1).bind fun bt122 => ((arrearsref04_Sub.f a0 a1).bind fun bt124 => (if bt116.2.isNone = true then (if (true != bt122.2) = true then (arrearslaw04_CoinReckons.j0 k a0 a1 bt120.1 bt120.2 true) else (if bt118.2.isNone = true then (if (true != bt124.2) = true then (arrearslaw04_CoinReckons.j0 k a0 a1 bt120.1 bt120.2 true) else (if bt116.1 = bt122.1 then (if bt118.1 = bt124.1 then (arrearslaw04_CoinReckons.j0 k a0 a1 bt120.1 bt120.2 false) else (arrearslaw04_CoinReckons.j0 k a0 a1 bt120.1 bt120.2 true)) else (arrearslaw04_CoinReckons.j0 k a0 a1 bt120.1 bt120.2 true))) else (if (false != bt124.2) = true then (arrearslaw04_CoinReckons.j0 k a0 a1 bt120.1 bt120.2 true) else (if bt116.1 = bt122.1 then (if bt118.1 = bt124.1 then ((api_Code.f (some (bt118.2.getD 0))).bind fun t128 => (arrearslaw04_CoinReckons.j0 k a0 a1 bt120.1 bt120.2 (t128 != 12))) else (arrearslaw04_CoinReckons.j0 k a0 a1 bt120.1 bt120.2 true)) else (arrearslaw04_CoinReckons.j0 k a0 a1 bt120.1 bt120.2 true))))) else (if (false != bt122.2) = true then (arrearslaw04_CoinReckons.j0 k a0 a1 bt120.1 bt120.2 true) else (if bt118.2.isNone = true then (if (true != bt124.2) = true then (arrearslaw04_CoinReckons.j0 k a0 a1 bt120.1 bt120.2 true) else (if bt116.1 = bt122.1 then (if bt118.1 = bt124.1 then ((api_Code.f (some (bt116.2.getD 0))).bind fun t130 => (if t130 = 12 then (arrearslaw04_CoinReckons.j0 k a0 a1 bt120.1 bt120.2 false) else (arrearslaw04_CoinReckons.j0 k a0 a1 bt120.1 bt120.2 true))) else (arrearslaw04_CoinReckons.j0 k a0 a1 bt120.1 bt120.2 true)) else (arrearslaw04_CoinReckons.j0 k a0 a1 bt120.1 bt120.2 true))) else (if (false != bt124.2) = true then (arrearslaw04_CoinReckons.j0 k a0 a1 bt120.1 bt120.2 true) else (if bt116.1 = bt122.1 then (if bt118.1 = bt124.1 then ((api_Code.f (some (bt116.2.getD 0))).bind fun t131 => (if t131 = 12 then ((api_Code.f (some (bt118.2.getD 0))).bind fun t132 => (arrearslaw04_CoinReckons.j0 k a0 a1 bt120.1 bt120.2 (t132 != 12))) else (arrearslaw04_CoinReckons.j0 k a0 a1 bt120.1 bt120.2 true))) else (arrearslaw04_CoinReckons.j0 k a0 a1 bt120.1 bt120.2 true)) else (arrearslaw04_CoinReckons.j0 k a0 a1 bt120.1 bt120.2 true))))))))))) = some r := by rw [if_pos rfl] at H; exact H
    clear H
    have H := H1
    clear H1
    replace H := Option.bind_eq_some_iff.mp H
    obtain ⟨⟨t116, t117⟩, A50, H⟩ := H
    replace H : ((coin_Coin_Sub.f a0 a1).bind fun bt118 => ((coin_Coin_Neg.f a0).bind fun bt120 => ((arrearsref04_Add.f a0 a1).bind fun bt122 => ((arrearsref04_Sub.f a0 a1).bind fun bt124 => (if t117.isNone = true then (if (true != bt122.2) = true then (arrearslaw04_CoinReckons.j0 k a0 a1 bt120.1 bt120.2 true) else (if bt118.2.isNone = true then (if (true != bt124.2) = true then (arrearslaw04_CoinReckons.j0 k a0 a1 bt120.1 bt120.2 true) else (if t116 = bt122.1 then (if bt118.1 = bt124.1 then (arrearslaw04_CoinReckons.j0 k a0 a1 bt120.1 bt120.2 false) else (arrearslaw04_CoinReckons.j0 k a0 a1 bt120.1 bt120.2 true)) else (arrearslaw04_CoinReckons.j0 k a0 a1 bt120.1 bt120.2 true))) else (if (false != bt124.2) = true then (arrearslaw04_CoinReckons.j0 k a0 a1 bt120.1 bt120.2 true) else (if t116 = bt122.1 then (if bt118.1 = bt124.1 then ((api_Code.f (some (bt118.2.getD 0))).bind fun t128 => (arrearslaw04_CoinReckons.j0 k a0 a1 bt120.1 bt120.2 (t128 != 12))) else (arrearslaw04_CoinReckons.j0 k a0 a1 bt120.1 bt120.2 true)) else (arrearslaw04_CoinReckons.j0 k a0 a1 bt120.1 bt120.2 true))))) else (if (false != bt122.2) = true then (arrearslaw04_CoinReckons.j0 k a0 a1 bt120.1 bt120.2 true) else (if bt118.2.isNone = true then (if (true != bt124.2) = true then (arrearslaw04_CoinReckons.j0 k a0 a1 bt120.1 bt120.2 true) else (if t116 = bt122.1 then (if bt118.1 = bt124.1 then ((api_Code.f (some (t117.getD 0))).bind fun t130 => (if t130 = 12 then (arrearslaw04_CoinReckons.j0 k a0 a1 bt120.1 bt120.2 false) else (arrearslaw04_CoinReckons.j0 k a0 a1 bt120.1 bt120.2 true))) else (arrearslaw04_CoinReckons.j0 k a0 a1 bt120.1 bt120.2 true)) else (arrearslaw04_CoinReckons.j0 k a0 a1 bt120.1 bt120.2 true))) else (if (false != bt124.2) = true then (arrearslaw04_CoinReckons.j0 k a0 a1 bt120.1 bt120.2 true) else (if t116 = bt122.1 then (if bt118.1 = bt124.1 then ((api_Code.f (some (t117.getD 0))).bind fun t131 => (if t131 = 12 then ((api_Code.f (some (bt118.2.getD 0))).bind fun t132 => (arrearslaw04_CoinReckons.j0 k a0 a1 bt120.1 bt120.2 (t132 != 12))) else (arrearslaw04_CoinReckons.j0 k a0 a1 bt120.1 bt120.2 true))) else (arrearslaw04_CoinReckons.j0 k a0 a1 bt120.1 bt120.2 true)) else (arrearslaw04_CoinReckons.j0 k a0 a1 bt120.1 bt120.2 true)))))))))) = some r := H
    have A5 := Aside0.mk A50
    clear A50
    replace H := Option.bind_eq_some_iff.mp H
    obtain ⟨⟨t118, t119⟩, A60, H⟩ := H
    replace H : ((coin_Coin_Neg.f a0).bind fun bt120 => ((arrearsref04_Add.f a0 a1).bind fun bt122 => ((arrearsref04_Sub.f a0 a1).bind fun bt124 => (if t117.isNone = true then (if (true != bt122.2) = true then (arrearslaw04_CoinReckons.j0 k a0 a1 bt120.1 bt120.2 true) else (if t119.isNone = true then (if (true != bt124.2) = true then (arrearslaw04_CoinReckons.j0 k a0 a1 bt120.1 bt120.2 true) else (if t116 = bt122.1 then (if t118 = bt124.1 then (arrearslaw04_CoinReckons.j0 k a0 a1 bt120.1 bt120.2 false) else (arrearslaw04_CoinReckons.j0 k a0 a1 bt120.1 bt120.2 true)) else (arrearslaw04_CoinReckons.j0 k a0 a1 bt120.1 bt120.2 true))) else (if (false != bt124.2) = true then (arrearslaw04_CoinReckons.j0 k a0 a1 bt120.1 bt120.2 true) else (if t116 = bt122.1 then (if t118 = bt124.1 then ((api_Code.f (some (t119.getD 0))).bind fun t128 => (arrearslaw04_CoinReckons.j0 k a0 a1 bt120.1 bt120.2 (t128 != 12))) else (arrearslaw04_CoinReckons.j0 k a0 a1 bt120.1 bt120.2 true)) else (arrearslaw04_CoinReckons.j0 k a0 a1 bt120.1 bt120.2 true))))) else (if (false != bt122.2) = true then (arrearslaw04_CoinReckons.j0 k a0 a1 bt120.1 bt120.2 true) else (if t119.isNone = true then (if (true != bt124.2) = true then (arrearslaw04_CoinReckons.j0 k a0 a1 bt120.1 bt120.2 true) else (if t116 = bt122.1 then (if t118 = bt124.1 then ((api_Code.f (some (t117.getD 0))).bind fun t130 => (if t130 = 12 then (arrearslaw04_CoinReckons.j0 k a0 a1 bt120.1 bt120.2 false) else (arrearslaw04_CoinReckons.j0 k a0 a1 bt120.1 bt120.2 true))) else (arrearslaw04_CoinReckons.j0 k a0 a1 bt120.1 bt120.2 true)) else (arrearslaw04_CoinReckons.j0 k a0 a1 bt120.1 bt120.2 true))) else (if (false != bt124.2) = true then (arrearslaw04_CoinReckons.j0 k a0 a1 bt120.1 bt120.2 true) else (if t116 = bt122.1 then (if t118 = bt124.1 then ((api_Code.f (some (t117.getD 0))).bind fun t131 => (if t131 = 12 then ((api_Code.f (some (t119.getD 0))).bind fun t132 => (arrearslaw04_CoinReckons.j0 k a0 a1 bt120.1 bt120.2 (t132 != 12))) else (arrearslaw04_CoinReckons.j0 k a0 a1 bt120.1 bt120.2 true))) else (arrearslaw04_CoinReckons.j0 k a0 a1 bt120.1 bt120.2 true)) else (arrearslaw04_CoinReckons.j0 k a0 a1 bt120.1 bt120.2 true))))))))) = some r := H
    have A6 := Aside0.mk A60
    clear A60
    replace H := Option.bind_eq_some_iff.mp H
    obtain ⟨⟨t120, t121⟩, A70, H⟩ := H
    replace H : ((arrearsref04_Add.f a0 a1).bind fun bt122 => ((arrearsref04_Sub.f a0 a1).bind fun bt124 => (if t117.isNone = true then (if (true != bt122.2) = true then (arrearslaw04_CoinReckons.j0 k a0 a1 t120 t121 true) else (if t119.isNone = true then (if (true != bt124.2) = true then (arrearslaw04_CoinReckons.j0 k a0 a1 t120 t121 true) else (if t116 = bt122.1 then (if t118 = bt124.1 then (arrearslaw04_CoinReckons.j0 k a0 a1 t120 t121 false) else (arrearslaw04_CoinReckons.j0 k a0 a1 t120 t121 true)) else (arrearslaw04_CoinReckons.j0 k a0 a1 t120 t121 true))) else (if (false != bt124.2) = true then (arrearslaw04_CoinReckons.j0 k a0 a1 t120 t121 true) else (if t116 = bt122.1 then (if t118 = bt124.1 then ((api_Code.f (some (t119.getD 0))).bind fun t128 => (arrearslaw04_CoinReckons.j0 k a0 a1 t120 t121 (t128 != 12))) else (arrearslaw04_CoinReckons.j0 k a0 a1 t120 t121 true)) else (arrearslaw04_CoinReckons.j0 k a0 a1 t120 t121 true))))) else (if (false != bt122.2) = true then (arrearslaw04_CoinReckons.j0 k a0 a1 t120 t121 true) else (if t119.isNone = true then (if (true != bt124.2) = true then (arrearslaw04_CoinReckons.j0 k a0 a1 t120 t121 true) else (if t116 = bt122.1 then (if t118 = bt124.1 then ((api_Code.f (some (t117.getD 0))).bind fun t130 => (if t130 = 12 then (arrearslaw04_CoinReckons.j0 k a0 a1 t120 t121 false) else (arrearslaw04_CoinReckons.j0 k a0 a1 t120 t121 true))) else (arrearslaw04_CoinReckons.j0 k a0 a1 t120 t121 true)) else (arrearslaw04_CoinReckons.j0 k a0 a1 t120 t121 true))) else (if (false != bt124.2) = true then (arrearslaw04_CoinReckons.j0 k a0 a1 t120 t121 true) else (if t116 = bt122.1 then (if t118 = bt124.1 then ((api_Code.f (some (t117.getD 0))).bind fun t131 => (if t131 = 12 then ((api_Code.f (some (t119.getD 0))).bind fun t132 => (arrearslaw04_CoinReckons.j0 k a0 a1 t120 t121 (t132 != 12))) else (arrearslaw04_CoinReckons.j0 k a0 a1 t120 t121 true))) else (arrearslaw04_CoinReckons.j0 k a0 a1 t120 t121 true)) else (arrearslaw04_CoinReckons.j0 k a0 a1 t120 t121 true)))))))) = some r := H
    have A7 := Aside0.mk A70
    clear A70
    replace H := Option.bind_eq_some_iff.mp H
    obtain ⟨⟨t122, t123⟩, A80, H⟩ := H
    replace H : ((arrearsref04_Sub.f a0 a1).bind fun bt124 => (if t117.isNone = true then (if (true != t123) = true then (arrearslaw04_CoinReckons.j0 k a0 a1 t120 t121 true) else (if t119.isNone = true then (if (true != bt124.2) = true then (arrearslaw04_CoinReckons.j0 k a0 a1 t120 t121 true) else (if t116 = t122 then (if t118 = bt124.1 then (arrearslaw04_CoinReckons.j0 k a0 a1 t120 t121 false) else (arrearslaw04_CoinReckons.j0 k a0 a1 t120 t121 true)) else (arrearslaw04_CoinReckons.j0 k a0 a1 t120 t121 true))) else (if (false != bt124.2) = true then (arrearslaw04_CoinReckons.j0 k a0 a1 t120 t121 true) else (if t116 = t122 then (if t118 = bt124.1 then ((api_Code.f (some (t119.getD 0))).bind fun t128 => (arrearslaw04_CoinReckons.j0 k a0 a1 t120 t121 (t128 != 12))) else (arrearslaw04_CoinReckons.j0 k a0 a1 t120 t121 true)) else (arrearslaw04_CoinReckons.j0 k a0 a1 t120 t121 true))))) else (if (false != t123) = true then (arrearslaw04_CoinReckons.j0 k a0 a1 t120 t121 true) else (if t119.isNone = true then (if (true != bt124.2) = true then (arrearslaw04_CoinReckons.j0 k a0 a1 t120 t121 true) else (if t116 = t122 then (if t118 = bt124.1 then ((api_Code.f (some (t117.getD 0))).bind fun t130 => (if t130 = 12 then (arrearslaw04_CoinReckons.j0 k a0 a1 t120 t121 false) else (arrearslaw04_CoinReckons.j0 k a0 a1 t120 t121 true))) else (arrearslaw04_CoinReckons.j0 k a0 a1 t120 t121 true)) else (arrearslaw04_CoinReckons.j0 k a0 a1 t120 t121 true))) else (if (false != bt124.2) = true then (arrearslaw04_CoinReckons.j0 k a0 a1 t120 t121 true) else (if t116 = t122 then (if t118 = bt124.1 then ((api_Code.f (some (t117.getD 0))).bind fun t131 => (if t131 = 12 then ((api_Code.f (some (t119.getD 0))).bind fun t132 => (arrearslaw04_CoinReckons.j0 k a0 a1 t120 t121 (t132 != 12))) else (arrearslaw04_CoinReckons.j0 k a0 a1 t120 t121 true))) else (arrearslaw04_CoinReckons.j0 k a0 a1 t120 t121 true)) else (arrearslaw04_CoinReckons.j0 k a0 a1 t120 t121 true))))))) = some r := H
    have A8 := Aside0.mk A80
    clear A80
    replace H := Option.bind_eq_some_iff.mp H
    obtain ⟨⟨t124, t125⟩, A90, H⟩ := H
    replace H : (if t117.isNone = true then (if (true != t123) = true then (arrearslaw04_CoinReckons.j0 k a0 a1 t120 t121 true) else (if t119.isNone = true then (if (true != t125) = true then (arrearslaw04_CoinReckons.j0 k a0 a1 t120 t121 true) else (if t116 = t122 then (if t118 = t124 then (arrearslaw04_CoinReckons.j0 k a0 a1 t120 t121 false) else (arrearslaw04_CoinReckons.j0 k a0 a1 t120 t121 true)) else (arrearslaw04_CoinReckons.j0 k a0 a1 t120 t121 true))) else (if (false != t125) = true then (arrearslaw04_CoinReckons.j0 k a0 a1 t120 t121 true) else (if t116 = t122 then (if t118 = t124 then ((api_Code.f (some (t119.getD 0))).bind fun t128 => (arrearslaw04_CoinReckons.j0 k a0 a1 t120 t121 (t128 != 12))) else (arrearslaw04_CoinReckons.j0 k a0 a1 t120 t121 true)) else (arrearslaw04_CoinReckons.j0 k a0 a1 t120 t121 true))))) else (if (false != t123) = true then (arrearslaw04_CoinReckons.j0 k a0 a1 t120 t121 true) else (if t119.isNone = true then (if (true != t125) = true then (arrearslaw04_CoinReckons.j0 k a0 a1 t120 t121 true) else (if t116 = t122 then (if t118 = t124 then ((api_Code.f (some (t117.getD 0))).bind fun t130 => (if t130 = 12 then (arrearslaw04_CoinReckons.j0 k a0 a1 t120 t121 false) else (arrearslaw04_CoinReckons.j0 k a0 a1 t120 t121 true))) else (arrearslaw04_CoinReckons.j0 k a0 a1 t120 t121 true)) else (arrearslaw04_CoinReckons.j0 k a0 a1 t120 t121 true))) else (if (false != t125) = true then (arrearslaw04_CoinReckons.j0 k a0 a1 t120 t121 true) else (if t116 = t122 then (if t118 = t124 then ((api_Code.f (some (t117.getD 0))).bind fun t131 => (if t131 = 12 then ((api_Code.f (some (t119.getD 0))).bind fun t132 => (arrearslaw04_CoinReckons.j0 k a0 a1 t120 t121 (t132 != 12))) else (arrearslaw04_CoinReckons.j0 k a0 a1 t120 t121 true))) else (arrearslaw04_CoinReckons.j0 k a0 a1 t120 t121 true)) else (arrearslaw04_CoinReckons.j0 k a0 a1 t120 t121 true)))))) = some r := H
    have A9 := Aside0.mk A90
    clear A90
    have HC10 := Aside0.mk H
    clear H
    go_enter Tryd.func7, Tryd.ntmps7
    go_upto_region 8 with (first | ((with_reducible refine gate_callee (f := 8) rfl ?_); refine goesL_ (some 15) rfl rfl Tryd.func8 (by kernel_rfl) rfl #[] rfl (by (try simp only [List.map_toArray, List.map_cons, List.map_nil]); first | done | rfl | (simp only [List.length_drop, List.length_take]; rfl)) ?_; (with_reducible refine (arrearslaw04_awake.calls  true _ ?hGL A3.out).mono ?_); (case hGL => exact Go.Proofs.YtkjofbdlholmbaaDoor.M.Laid.below HG.out (by repeat (first | (with_reducible first | exact HB.out | apply below_alloc | apply pw_below_drewN | apply below_drew1) | exact HB.out))); rintro e w11 ⟨rfl, hb⟩; refine ⟨_, rfl, ?_⟩; have n0_ := Aside0.mk (below_step (by repeat (first | (with_reducible first | exact HB.out | apply below_alloc | apply pw_below_drewN | apply below_drew1) | exact HB.out)) hb); clear HB; have HB := n0_; clear n0_; (try clear hb); (try clear hb2); (try clear hk); (try clear hi)) | ((with_reducible refine gate_callee (f := 12) rfl ?_); refine goesL_ (some 20) rfl rfl Tryd.func12 (by kernel_rfl) rfl #[.int .i64 a0, .int .i64 a1] rfl (by (try simp only [List.map_toArray, List.map_cons, List.map_nil]); first | done | rfl | (simp only [List.length_drop, List.length_take]; rfl)) ?_; (with_reducible refine (coin_Coin_Add.calls a0 a1 t116 t117 _ A5.out).mono ?_); rintro e w' ⟨rfl, ⟨nd, rfl⟩⟩; refine ⟨_, rfl, ?_⟩; (try simp only [errW_none, errW_some])) | ((with_reducible refine gate_callee (f := 13) rfl ?_); refine goesL_ (some 26) rfl rfl Tryd.func13 (by kernel_rfl) rfl #[.int .i64 a0, .int .i64 a1] rfl (by (try simp only [List.map_toArray, List.map_cons, List.map_nil]); first | done | rfl | (simp only [List.length_drop, List.length_take]; rfl)) ?_; (with_reducible refine (coin_Coin_Sub.calls a0 a1 t118 t119 _ A6.out).mono ?_); rintro e w' ⟨rfl, ⟨nd, rfl⟩⟩; refine ⟨_, rfl, ?_⟩; (try simp only [errW_none, errW_some])) | ((with_reducible refine gate_callee (f := 20) rfl ?_); refine goesL_ (some 31) rfl rfl Tryd.func20 (by kernel_rfl) rfl #[.int .i64 a0] rfl (by (try simp only [List.map_toArray, List.map_cons, List.map_nil]); first | done | rfl | (simp only [List.length_drop, List.length_take]; rfl)) ?_; (with_reducible refine (coin_Coin_Neg.calls a0 t120 t121 _ A7.out).mono ?_); rintro e w' ⟨rfl, ⟨nd, rfl⟩⟩; refine ⟨_, rfl, ?_⟩; (try simp only [errW_none, errW_some])) | ((with_reducible refine gate_callee (f := 19) rfl ?_); refine goesL_ (some 37) rfl rfl Tryd.func19 (by kernel_rfl) rfl #[.int .i64 a0, .int .i64 a1] rfl (by (try simp only [List.map_toArray, List.map_cons, List.map_nil]); first | done | rfl | (simp only [List.length_drop, List.length_take]; rfl)) ?_; (with_reducible refine (arrearsref04_Add.calls a0 a1 t122 t123 _ A8.out).mono ?_); rintro e w' ⟨rfl, ⟨nd, rfl⟩⟩; refine ⟨_, rfl, ?_⟩) | ((with_reducible refine gate_callee (f := 21) rfl ?_); refine goesL_ (some 43) rfl rfl Tryd.func21 (by kernel_rfl) rfl #[.int .i64 a0, .int .i64 a1] rfl (by (try simp only [List.map_toArray, List.map_cons, List.map_nil]); first | done | rfl | (simp only [List.length_drop, List.length_take]; rfl)) ?_; (with_reducible refine (arrearsref04_Sub.calls a0 a1 t124 t125 _ A9.out).mono ?_); rintro e w' ⟨rfl, ⟨nd, rfl⟩⟩; refine ⟨_, rfl, ?_⟩))
    (try simp only [Act.put, List.setIfInBounds_toArray, List.set_cons_zero, List.set_cons_succ])
    go_cut [83] (fun v83 wc => ∃ (kq : Nat) (x83_9 : Bool), v83 = .bool x83_9 ∧ Aside0 (arrearslaw04_CoinReckons.j0 kq a0 a1 t120 t121 x83_9 = some r) ∧ Aside0 (kq ≤ k) ∧ Aside0 (Below w.heap.size w wc))
    case first =>
      have H := HC10.out
      clear HC10
      rcases t117 with _ | q126
      · have H1 : (if (true != t123) = true then (arrearslaw04_CoinReckons.j0 k a0 a1 t120 t121 true) else (if t119.isNone = true then (if (true != t125) = true then (arrearslaw04_CoinReckons.j0 k a0 a1 t120 t121 true) else (if t116 = t122 then (if t118 = t124 then (arrearslaw04_CoinReckons.j0 k a0 a1 t120 t121 false) else (arrearslaw04_CoinReckons.j0 k a0 a1 t120 t121 true)) else (arrearslaw04_CoinReckons.j0 k a0 a1 t120 t121 true))) else (if (false != t125) = true then (arrearslaw04_CoinReckons.j0 k a0 a1 t120 t121 true) else (if t116 = t122 then (if t118 = t124 then ((api_Code.f (some (t119.getD 0))).bind fun t128 => (arrearslaw04_CoinReckons.j0 k a0 a1 t120 t121 (t128 != 12))) else (arrearslaw04_CoinReckons.j0 k a0 a1 t120 t121 true)) else (arrearslaw04_CoinReckons.j0 k a0 a1 t120 t121 true))))) = some r := by rw [if_pos (show (none : Option Int).isNone = true by rfl)] at H; exact H
        clear H
        have H := H1
        clear H1
        try simp only [errW_none, errW_some]
        by_cases c12 : (true != t123) = true
        · rw [if_pos c12] at H
          have c12b0 : (true != t123) = true := c12
          (try (have c12b1 : decide (true = t123) = false := by simpa using c12))
          (try (have c12b2 : (true == t123) = false := by simpa using c12))
          (try (have c12b3 : ¬ (true = t123) := by simpa using c12))
          clear c12
          (first | rw [c12b0] | (simp only [i64_w, i32_w]; rw [c12b0]) | skip)
          have H' := Aside0.mk H
          clear H
          go_wp2
          go_meet
          case rel => exact ⟨_, (true), (by first | rfl | (simp; done) | (simp [*]; done) | (exfalso; simp at *; omega)), H', ⟨by first | omega | exact Nat.le_refl _⟩, ⟨by repeat (first | (with_reducible first | exact HB.out | apply below_alloc | apply pw_below_drewN | apply below_drew1) | exact HB.out)⟩⟩
        · rw [if_neg c12] at H
          have c12b0 : (true != t123) = false := by simpa using c12
          (try (have c12b1 : decide (true = t123) = true := by simpa using c12))
          (try (have c12b2 : (true == t123) = true := by simpa using c12))
          clear c12
          (first | rw [c12b0] | (simp only [i64_w, i32_w]; rw [c12b0]) | skip)
          rcases t119 with _ | q127
          · have H1 : (if (true != t125) = true then (arrearslaw04_CoinReckons.j0 k a0 a1 t120 t121 true) else (if t116 = t122 then (if t118 = t124 then (arrearslaw04_CoinReckons.j0 k a0 a1 t120 t121 false) else (arrearslaw04_CoinReckons.j0 k a0 a1 t120 t121 true)) else (arrearslaw04_CoinReckons.j0 k a0 a1 t120 t121 true))) = some r := by rw [if_pos (show (none : Option Int).isNone = true by rfl)] at H; exact H
            clear H
            have H := H1
            clear H1
            try simp only [errW_none, errW_some]
            by_cases c13 : (true != t125) = true
            · rw [if_pos c13] at H
              have c13b0 : (true != t125) = true := c13
              (try (have c13b1 : decide (true = t125) = false := by simpa using c13))
              (try (have c13b2 : (true == t125) = false := by simpa using c13))
              (try (have c13b3 : ¬ (true = t125) := by simpa using c13))
              clear c13
              have H' := Aside0.mk H
              clear H
              go_wp2
              go_meet
              case rel => exact ⟨_, (true), (by first | rfl | (simp; done) | (simp [*]; done) | (exfalso; simp at *; omega)), H', ⟨by first | omega | exact Nat.le_refl _⟩, ⟨by repeat (first | (with_reducible first | exact HB.out | apply below_alloc | apply pw_below_drewN | apply below_drew1) | exact HB.out)⟩⟩
            · rw [if_neg c13] at H
              have c13b0 : (true != t125) = false := by simpa using c13
              (try (have c13b1 : decide (true = t125) = true := by simpa using c13))
              (try (have c13b2 : (true == t125) = true := by simpa using c13))
              clear c13
              by_cases c14 : t116 = t122
              · rw [if_pos c14] at H
                have c14b0 : (t116 == t122) = true := beq_iff_eq.mpr c14
                have c14b1 : (t116 != t122) = false := bne_eq_false_iff_eq.mpr c14
                clear c14
                by_cases c15 : t118 = t124
                · rw [if_pos c15] at H
                  have c15b0 : (t118 == t124) = true := beq_iff_eq.mpr c15
                  have c15b1 : (t118 != t124) = false := bne_eq_false_iff_eq.mpr c15
                  clear c15
                  have H' := Aside0.mk H
                  clear H
                  go_wp2
                  go_meet
                  case rel => exact ⟨_, (false), (by first | rfl | (simp; done) | (simp [*]; done) | (exfalso; simp at *; omega)), H', ⟨by first | omega | exact Nat.le_refl _⟩, ⟨by repeat (first | (with_reducible first | exact HB.out | apply below_alloc | apply pw_below_drewN | apply below_drew1) | exact HB.out)⟩⟩
                · rw [if_neg c15] at H
                  have c15b0 : (t118 == t124) = false := beq_eq_false_iff_ne.mpr c15
                  have c15b1 : (t118 != t124) = true := bne_iff_ne.mpr c15
                  have H' := Aside0.mk H
                  clear H
                  go_wp2
                  go_meet
                  case rel => exact ⟨_, (true), (by first | rfl | (simp; done) | (simp [*]; done) | (exfalso; simp at *; omega)), H', ⟨by first | omega | exact Nat.le_refl _⟩, ⟨by repeat (first | (with_reducible first | exact HB.out | apply below_alloc | apply pw_below_drewN | apply below_drew1) | exact HB.out)⟩⟩
              · rw [if_neg c14] at H
                have c14b0 : (t116 == t122) = false := beq_eq_false_iff_ne.mpr c14
                have c14b1 : (t116 != t122) = true := bne_iff_ne.mpr c14
                have H' := Aside0.mk H
                clear H
                go_wp2
                go_meet
                case rel => exact ⟨_, (true), (by first | rfl | (simp; done) | (simp [*]; done) | (exfalso; simp at *; omega)), H', ⟨by first | omega | exact Nat.le_refl _⟩, ⟨by repeat (first | (with_reducible first | exact HB.out | apply below_alloc | apply pw_below_drewN | apply below_drew1) | exact HB.out)⟩⟩
          · have H1 : (if (false != t125) = true then (arrearslaw04_CoinReckons.j0 k a0 a1 t120 t121 true) else (if t116 = t122 then (if t118 = t124 then ((api_Code.f (some q127)).bind fun t128 => (arrearslaw04_CoinReckons.j0 k a0 a1 t120 t121 (t128 != 12))) else (arrearslaw04_CoinReckons.j0 k a0 a1 t120 t121 true)) else (arrearslaw04_CoinReckons.j0 k a0 a1 t120 t121 true))) = some r := by rw [if_neg (show ¬ (some q127).isNone = true by simp)] at H; exact H
            clear H
            have H := H1
            clear H1
            try simp only [errW_none, errW_some]
            by_cases c16 : (false != t125) = true
            · rw [if_pos c16] at H
              have c16b0 : (false != t125) = true := c16
              (try (have c16b1 : decide (false = t125) = false := by simpa using c16))
              (try (have c16b2 : (false == t125) = false := by simpa using c16))
              (try (have c16b3 : ¬ (false = t125) := by simpa using c16))
              clear c16
              have H' := Aside0.mk H
              clear H
              go_wp2
              go_meet
              case rel => exact ⟨_, (true), (by first | rfl | (simp; done) | (simp [*]; done) | (exfalso; simp at *; omega)), H', ⟨by first | omega | exact Nat.le_refl _⟩, ⟨by repeat (first | (with_reducible first | exact HB.out | apply below_alloc | apply pw_below_drewN | apply below_drew1) | exact HB.out)⟩⟩
            · rw [if_neg c16] at H
              have c16b0 : (false != t125) = false := by simpa using c16
              (try (have c16b1 : decide (false = t125) = true := by simpa using c16))
              (try (have c16b2 : (false == t125) = true := by simpa using c16))
              clear c16
              by_cases c17 : t116 = t122
              · rw [if_pos c17] at H
                have c17b0 : (t116 == t122) = true := beq_iff_eq.mpr c17
                have c17b1 : (t116 != t122) = false := bne_eq_false_iff_eq.mpr c17
                clear c17
                by_cases c18 : t118 = t124
                · rw [if_pos c18] at H
                  have c18b0 : (t118 == t124) = true := beq_iff_eq.mpr c18
                  have c18b1 : (t118 != t124) = false := bne_eq_false_iff_eq.mpr c18
                  clear c18
                  replace H := Option.bind_eq_some_iff.mp H
                  obtain ⟨t128, A190, H⟩ := H
                  replace H : (arrearslaw04_CoinReckons.j0 k a0 a1 t120 t121 (t128 != 12)) = some r := H
                  have A19 := Aside0.mk A190
                  clear A190
                  have H' := Aside0.mk H
                  clear H
                  have CA19 := fun W (hGW : Go.Proofs.YtkjofbdlholmbaaDoor.M.Laid W) => api_Code.calls (some q127) t128 W hGW A19.out
                  try simp only [errW_none, errW_some] at CA19
                  go_wp2_with (first | (go_at_call 17; (with_reducible refine (CA19 _ ?hGL).mono ?_); (case hGL => exact Go.Proofs.YtkjofbdlholmbaaDoor.M.Laid.below HG.out (by repeat (first | (with_reducible first | exact HB.out | apply below_alloc | apply pw_below_drewN | apply below_drew1) | exact HB.out))); rintro e w20 ⟨rfl, hb⟩; have n0_ := Aside0.mk (below_step (by repeat (first | (with_reducible first | exact HB.out | apply below_alloc | apply pw_below_drewN | apply below_drew1) | exact HB.out)) hb); clear HB; have HB := n0_; clear n0_; (try clear hb); (try clear hb2); (try clear hk); (try clear hi)))
                  go_meet
                  case rel => exact ⟨_, ((t128 != 12)), (by first | rfl | (simp; done) | (simp [*]; done) | (exfalso; simp at *; omega)), H', ⟨by first | omega | exact Nat.le_refl _⟩, ⟨by repeat (first | (with_reducible first | exact HB.out | apply below_alloc | apply pw_below_drewN | apply below_drew1) | exact HB.out)⟩⟩
                · rw [if_neg c18] at H
                  have c18b0 : (t118 == t124) = false := beq_eq_false_iff_ne.mpr c18
                  have c18b1 : (t118 != t124) = true := bne_iff_ne.mpr c18
                  have H' := Aside0.mk H
                  clear H
                  go_wp2
                  go_meet
                  case rel => exact ⟨_, (true), (by first | rfl | (simp; done) | (simp [*]; done) | (exfalso; simp at *; omega)), H', ⟨by first | omega | exact Nat.le_refl _⟩, ⟨by repeat (first | (with_reducible first | exact HB.out | apply below_alloc | apply pw_below_drewN | apply below_drew1) | exact HB.out)⟩⟩
              · rw [if_neg c17] at H
                have c17b0 : (t116 == t122) = false := beq_eq_false_iff_ne.mpr c17
                have c17b1 : (t116 != t122) = true := bne_iff_ne.mpr c17
                have H' := Aside0.mk H
                clear H
                go_wp2
                go_meet
                case rel => exact ⟨_, (true), (by first | rfl | (simp; done) | (simp [*]; done) | (exfalso; simp at *; omega)), H', ⟨by first | omega | exact Nat.le_refl _⟩, ⟨by repeat (first | (with_reducible first | exact HB.out | apply below_alloc | apply pw_below_drewN | apply below_drew1) | exact HB.out)⟩⟩
      · have H1 : (if (false != t123) = true then (arrearslaw04_CoinReckons.j0 k a0 a1 t120 t121 true) else (if t119.isNone = true then (if (true != t125) = true then (arrearslaw04_CoinReckons.j0 k a0 a1 t120 t121 true) else (if t116 = t122 then (if t118 = t124 then ((api_Code.f (some q126)).bind fun t130 => (if t130 = 12 then (arrearslaw04_CoinReckons.j0 k a0 a1 t120 t121 false) else (arrearslaw04_CoinReckons.j0 k a0 a1 t120 t121 true))) else (arrearslaw04_CoinReckons.j0 k a0 a1 t120 t121 true)) else (arrearslaw04_CoinReckons.j0 k a0 a1 t120 t121 true))) else (if (false != t125) = true then (arrearslaw04_CoinReckons.j0 k a0 a1 t120 t121 true) else (if t116 = t122 then (if t118 = t124 then ((api_Code.f (some q126)).bind fun t131 => (if t131 = 12 then ((api_Code.f (some (t119.getD 0))).bind fun t132 => (arrearslaw04_CoinReckons.j0 k a0 a1 t120 t121 (t132 != 12))) else (arrearslaw04_CoinReckons.j0 k a0 a1 t120 t121 true))) else (arrearslaw04_CoinReckons.j0 k a0 a1 t120 t121 true)) else (arrearslaw04_CoinReckons.j0 k a0 a1 t120 t121 true))))) = some r := by rw [if_neg (show ¬ (some q126).isNone = true by simp)] at H; exact H
        clear H
        have H := H1
        clear H1
        try simp only [errW_none, errW_some]
        by_cases c21 : (false != t123) = true
        · rw [if_pos c21] at H
          have c21b0 : (false != t123) = true := c21
          (try (have c21b1 : decide (false = t123) = false := by simpa using c21))
          (try (have c21b2 : (false == t123) = false := by simpa using c21))
          (try (have c21b3 : ¬ (false = t123) := by simpa using c21))
          clear c21
          have H' := Aside0.mk H
          clear H
          go_wp2
          go_meet
          case rel => exact ⟨_, (true), (by first | rfl | (simp; done) | (simp [*]; done) | (exfalso; simp at *; omega)), H', ⟨by first | omega | exact Nat.le_refl _⟩, ⟨by repeat (first | (with_reducible first | exact HB.out | apply below_alloc | apply pw_below_drewN | apply below_drew1) | exact HB.out)⟩⟩
        · rw [if_neg c21] at H
          have c21b0 : (false != t123) = false := by simpa using c21
          (try (have c21b1 : decide (false = t123) = true := by simpa using c21))
          (try (have c21b2 : (false == t123) = true := by simpa using c21))
          clear c21
          rcases t119 with _ | q129
          · have H1 : (if (true != t125) = true then (arrearslaw04_CoinReckons.j0 k a0 a1 t120 t121 true) else (if t116 = t122 then (if t118 = t124 then ((api_Code.f (some q126)).bind fun t130 => (if t130 = 12 then (arrearslaw04_CoinReckons.j0 k a0 a1 t120 t121 false) else (arrearslaw04_CoinReckons.j0 k a0 a1 t120 t121 true))) else (arrearslaw04_CoinReckons.j0 k a0 a1 t120 t121 true)) else (arrearslaw04_CoinReckons.j0 k a0 a1 t120 t121 true))) = some r := by rw [if_pos (show (none : Option Int).isNone = true by rfl)] at H; exact H
            clear H
            have H := H1
            clear H1
            try simp only [errW_none, errW_some]
            by_cases c22 : (true != t125) = true
            · rw [if_pos c22] at H
              have c22b0 : (true != t125) = true := c22
              (try (have c22b1 : decide (true = t125) = false := by simpa using c22))
              (try (have c22b2 : (true == t125) = false := by simpa using c22))
              (try (have c22b3 : ¬ (true = t125) := by simpa using c22))
              clear c22
              have H' := Aside0.mk H
              clear H
              go_wp2
              go_meet
              case rel => exact ⟨_, (true), (by first | rfl | (simp; done) | (simp [*]; done) | (exfalso; simp at *; omega)), H', ⟨by first | omega | exact Nat.le_refl _⟩, ⟨by repeat (first | (with_reducible first | exact HB.out | apply below_alloc | apply pw_below_drewN | apply below_drew1) | exact HB.out)⟩⟩
            · rw [if_neg c22] at H
              have c22b0 : (true != t125) = false := by simpa using c22
              (try (have c22b1 : decide (true = t125) = true := by simpa using c22))
              (try (have c22b2 : (true == t125) = true := by simpa using c22))
              clear c22
              by_cases c23 : t116 = t122
              · rw [if_pos c23] at H
                have c23b0 : (t116 == t122) = true := beq_iff_eq.mpr c23
                have c23b1 : (t116 != t122) = false := bne_eq_false_iff_eq.mpr c23
                clear c23
                by_cases c24 : t118 = t124
                · rw [if_pos c24] at H
                  have c24b0 : (t118 == t124) = true := beq_iff_eq.mpr c24
                  have c24b1 : (t118 != t124) = false := bne_eq_false_iff_eq.mpr c24
                  clear c24
                  replace H := Option.bind_eq_some_iff.mp H
                  obtain ⟨t130, A250, H⟩ := H
                  replace H : (if t130 = 12 then (arrearslaw04_CoinReckons.j0 k a0 a1 t120 t121 false) else (arrearslaw04_CoinReckons.j0 k a0 a1 t120 t121 true)) = some r := H
                  have A25 := Aside0.mk A250
                  clear A250
                  by_cases c26 : t130 = 12
                  · rw [if_pos c26] at H
                    have c26b0 : (t130 == 12) = true := beq_iff_eq.mpr c26
                    have c26b1 : (t130 != 12) = false := bne_eq_false_iff_eq.mpr c26
                    clear c26
                    have H' := Aside0.mk H
                    clear H
                    have CA25 := fun W (hGW : Go.Proofs.YtkjofbdlholmbaaDoor.M.Laid W) => api_Code.calls (some q126) t130 W hGW A25.out
                    try simp only [errW_none, errW_some] at CA25
                    go_wp2_with (first | (go_at_call 17; (with_reducible refine (CA25 _ ?hGL).mono ?_); (case hGL => exact Go.Proofs.YtkjofbdlholmbaaDoor.M.Laid.below HG.out (by repeat (first | (with_reducible first | exact HB.out | apply below_alloc | apply pw_below_drewN | apply below_drew1) | exact HB.out))); rintro e w27 ⟨rfl, hb⟩; have n0_ := Aside0.mk (below_step (by repeat (first | (with_reducible first | exact HB.out | apply below_alloc | apply pw_below_drewN | apply below_drew1) | exact HB.out)) hb); clear HB; have HB := n0_; clear n0_; (try clear hb); (try clear hb2); (try clear hk); (try clear hi)))
                    go_meet
                    case rel => exact ⟨_, (false), (by first | rfl | (simp; done) | (simp [*]; done) | (exfalso; simp at *; omega)), H', ⟨by first | omega | exact Nat.le_refl _⟩, ⟨by repeat (first | (with_reducible first | exact HB.out | apply below_alloc | apply pw_below_drewN | apply below_drew1) | exact HB.out)⟩⟩
                  · rw [if_neg c26] at H
                    have c26b0 : (t130 == 12) = false := beq_eq_false_iff_ne.mpr c26
                    have c26b1 : (t130 != 12) = true := bne_iff_ne.mpr c26
                    have H' := Aside0.mk H
                    clear H
                    have CA25 := fun W (hGW : Go.Proofs.YtkjofbdlholmbaaDoor.M.Laid W) => api_Code.calls (some q126) t130 W hGW A25.out
                    try simp only [errW_none, errW_some] at CA25
                    go_wp2_with (first | (go_at_call 17; (with_reducible refine (CA25 _ ?hGL).mono ?_); (case hGL => exact Go.Proofs.YtkjofbdlholmbaaDoor.M.Laid.below HG.out (by repeat (first | (with_reducible first | exact HB.out | apply below_alloc | apply pw_below_drewN | apply below_drew1) | exact HB.out))); rintro e w28 ⟨rfl, hb⟩; have n0_ := Aside0.mk (below_step (by repeat (first | (with_reducible first | exact HB.out | apply below_alloc | apply pw_below_drewN | apply below_drew1) | exact HB.out)) hb); clear HB; have HB := n0_; clear n0_; (try clear hb); (try clear hb2); (try clear hk); (try clear hi)))
                    go_meet
                    case rel => exact ⟨_, (true), (by first | rfl | (simp; done) | (simp [*]; done) | (exfalso; simp at *; omega)), H', ⟨by first | omega | exact Nat.le_refl _⟩, ⟨by repeat (first | (with_reducible first | exact HB.out | apply below_alloc | apply pw_below_drewN | apply below_drew1) | exact HB.out)⟩⟩
                · rw [if_neg c24] at H
                  have c24b0 : (t118 == t124) = false := beq_eq_false_iff_ne.mpr c24
                  have c24b1 : (t118 != t124) = true := bne_iff_ne.mpr c24
                  have H' := Aside0.mk H
                  clear H
                  go_wp2
                  go_meet
                  case rel => exact ⟨_, (true), (by first | rfl | (simp; done) | (simp [*]; done) | (exfalso; simp at *; omega)), H', ⟨by first | omega | exact Nat.le_refl _⟩, ⟨by repeat (first | (with_reducible first | exact HB.out | apply below_alloc | apply pw_below_drewN | apply below_drew1) | exact HB.out)⟩⟩
              · rw [if_neg c23] at H
                have c23b0 : (t116 == t122) = false := beq_eq_false_iff_ne.mpr c23
                have c23b1 : (t116 != t122) = true := bne_iff_ne.mpr c23
                have H' := Aside0.mk H
                clear H
                go_wp2
                go_meet
                case rel => exact ⟨_, (true), (by first | rfl | (simp; done) | (simp [*]; done) | (exfalso; simp at *; omega)), H', ⟨by first | omega | exact Nat.le_refl _⟩, ⟨by repeat (first | (with_reducible first | exact HB.out | apply below_alloc | apply pw_below_drewN | apply below_drew1) | exact HB.out)⟩⟩
          · have H1 : (if (false != t125) = true then (arrearslaw04_CoinReckons.j0 k a0 a1 t120 t121 true) else (if t116 = t122 then (if t118 = t124 then ((api_Code.f (some q126)).bind fun t131 => (if t131 = 12 then ((api_Code.f (some q129)).bind fun t132 => (arrearslaw04_CoinReckons.j0 k a0 a1 t120 t121 (t132 != 12))) else (arrearslaw04_CoinReckons.j0 k a0 a1 t120 t121 true))) else (arrearslaw04_CoinReckons.j0 k a0 a1 t120 t121 true)) else (arrearslaw04_CoinReckons.j0 k a0 a1 t120 t121 true))) = some r := by rw [if_neg (show ¬ (some q129).isNone = true by simp)] at H; exact H
            clear H
            have H := H1
            clear H1
            try simp only [errW_none, errW_some]
            by_cases c29 : (false != t125) = true
            · rw [if_pos c29] at H
              have c29b0 : (false != t125) = true := c29
              (try (have c29b1 : decide (false = t125) = false := by simpa using c29))
              (try (have c29b2 : (false == t125) = false := by simpa using c29))
              (try (have c29b3 : ¬ (false = t125) := by simpa using c29))
              clear c29
              have H' := Aside0.mk H
              clear H
              go_wp2
              go_meet
              case rel => exact ⟨_, (true), (by first | rfl | (simp; done) | (simp [*]; done) | (exfalso; simp at *; omega)), H', ⟨by first | omega | exact Nat.le_refl _⟩, ⟨by repeat (first | (with_reducible first | exact HB.out | apply below_alloc | apply pw_below_drewN | apply below_drew1) | exact HB.out)⟩⟩
            · rw [if_neg c29] at H
              have c29b0 : (false != t125) = false := by simpa using c29
              (try (have c29b1 : decide (false = t125) = true := by simpa using c29))
              (try (have c29b2 : (false == t125) = true := by simpa using c29))
              clear c29
              by_cases c30 : t116 = t122
              · rw [if_pos c30] at H
                have c30b0 : (t116 == t122) = true := beq_iff_eq.mpr c30
                have c30b1 : (t116 != t122) = false := bne_eq_false_iff_eq.mpr c30
                clear c30
                by_cases c31 : t118 = t124
                · rw [if_pos c31] at H
                  have c31b0 : (t118 == t124) = true := beq_iff_eq.mpr c31
                  have c31b1 : (t118 != t124) = false := bne_eq_false_iff_eq.mpr c31
                  clear c31
                  replace H := Option.bind_eq_some_iff.mp H
                  obtain ⟨t131, A320, H⟩ := H
                  replace H : (if t131 = 12 then ((api_Code.f (some q129)).bind fun t132 => (arrearslaw04_CoinReckons.j0 k a0 a1 t120 t121 (t132 != 12))) else (arrearslaw04_CoinReckons.j0 k a0 a1 t120 t121 true)) = some r := H
                  have A32 := Aside0.mk A320
                  clear A320
                  by_cases c33 : t131 = 12
                  · rw [if_pos c33] at H
                    have c33b0 : (t131 == 12) = true := beq_iff_eq.mpr c33
                    have c33b1 : (t131 != 12) = false := bne_eq_false_iff_eq.mpr c33
                    clear c33
                    replace H := Option.bind_eq_some_iff.mp H
                    obtain ⟨t132, A340, H⟩ := H
                    replace H : (arrearslaw04_CoinReckons.j0 k a0 a1 t120 t121 (t132 != 12)) = some r := H
                    have A34 := Aside0.mk A340
                    clear A340
                    have H' := Aside0.mk H
                    clear H
                    have CA32 := fun W (hGW : Go.Proofs.YtkjofbdlholmbaaDoor.M.Laid W) => api_Code.calls (some q126) t131 W hGW A32.out
                    try simp only [errW_none, errW_some] at CA32
                    go_wp2_with (first | (go_at_call 17; (with_reducible refine (CA32 _ ?hGL).mono ?_); (case hGL => exact Go.Proofs.YtkjofbdlholmbaaDoor.M.Laid.below HG.out (by repeat (first | (with_reducible first | exact HB.out | apply below_alloc | apply pw_below_drewN | apply below_drew1) | exact HB.out))); rintro e w35 ⟨rfl, hb⟩; have n0_ := Aside0.mk (below_step (by repeat (first | (with_reducible first | exact HB.out | apply below_alloc | apply pw_below_drewN | apply below_drew1) | exact HB.out)) hb); clear HB; have HB := n0_; clear n0_; (try clear hb); (try clear hb2); (try clear hk); (try clear hi); have CA34 := fun W (hGW : Go.Proofs.YtkjofbdlholmbaaDoor.M.Laid W) => api_Code.calls (some q129) t132 W hGW A34.out; try simp only [errW_none, errW_some] at CA34) | (go_at_call 17; (with_reducible refine (CA34 _ ?hGL).mono ?_); (case hGL => exact Go.Proofs.YtkjofbdlholmbaaDoor.M.Laid.below HG.out (by repeat (first | (with_reducible first | exact HB.out | apply below_alloc | apply pw_below_drewN | apply below_drew1) | exact HB.out))); rintro e w36 ⟨rfl, hb⟩; have n0_ := Aside0.mk (below_step (by repeat (first | (with_reducible first | exact HB.out | apply below_alloc | apply pw_below_drewN | apply below_drew1) | exact HB.out)) hb); clear HB; have HB := n0_; clear n0_; (try clear hb); (try clear hb2); (try clear hk); (try clear hi)))
                    go_meet
                    case rel => exact ⟨_, ((t132 != 12)), (by first | rfl | (simp; done) | (simp [*]; done) | (exfalso; simp at *; omega)), H', ⟨by first | omega | exact Nat.le_refl _⟩, ⟨by repeat (first | (with_reducible first | exact HB.out | apply below_alloc | apply pw_below_drewN | apply below_drew1) | exact HB.out)⟩⟩
                  · rw [if_neg c33] at H
                    have c33b0 : (t131 == 12) = false := beq_eq_false_iff_ne.mpr c33
                    have c33b1 : (t131 != 12) = true := bne_iff_ne.mpr c33
                    have H' := Aside0.mk H
                    clear H
                    have CA32 := fun W (hGW : Go.Proofs.YtkjofbdlholmbaaDoor.M.Laid W) => api_Code.calls (some q126) t131 W hGW A32.out
                    try simp only [errW_none, errW_some] at CA32
                    go_wp2_with (first | (go_at_call 17; (with_reducible refine (CA32 _ ?hGL).mono ?_); (case hGL => exact Go.Proofs.YtkjofbdlholmbaaDoor.M.Laid.below HG.out (by repeat (first | (with_reducible first | exact HB.out | apply below_alloc | apply pw_below_drewN | apply below_drew1) | exact HB.out))); rintro e w37 ⟨rfl, hb⟩; have n0_ := Aside0.mk (below_step (by repeat (first | (with_reducible first | exact HB.out | apply below_alloc | apply pw_below_drewN | apply below_drew1) | exact HB.out)) hb); clear HB; have HB := n0_; clear n0_; (try clear hb); (try clear hb2); (try clear hk); (try clear hi)))
                    go_meet
                    case rel => exact ⟨_, (true), (by first | rfl | (simp; done) | (simp [*]; done) | (exfalso; simp at *; omega)), H', ⟨by first | omega | exact Nat.le_refl _⟩, ⟨by repeat (first | (with_reducible first | exact HB.out | apply below_alloc | apply pw_below_drewN | apply below_drew1) | exact HB.out)⟩⟩
                · rw [if_neg c31] at H
                  have c31b0 : (t118 == t124) = false := beq_eq_false_iff_ne.mpr c31
                  have c31b1 : (t118 != t124) = true := bne_iff_ne.mpr c31
                  have H' := Aside0.mk H
                  clear H
                  go_wp2
                  go_meet
                  case rel => exact ⟨_, (true), (by first | rfl | (simp; done) | (simp [*]; done) | (exfalso; simp at *; omega)), H', ⟨by first | omega | exact Nat.le_refl _⟩, ⟨by repeat (first | (with_reducible first | exact HB.out | apply below_alloc | apply pw_below_drewN | apply below_drew1) | exact HB.out)⟩⟩
              · rw [if_neg c30] at H
                have c30b0 : (t116 == t122) = false := beq_eq_false_iff_ne.mpr c30
                have c30b1 : (t116 != t122) = true := bne_iff_ne.mpr c30
                have H' := Aside0.mk H
                clear H
                go_wp2
                go_meet
                case rel => exact ⟨_, (true), (by first | rfl | (simp; done) | (simp [*]; done) | (exfalso; simp at *; omega)), H', ⟨by first | omega | exact Nat.le_refl _⟩, ⟨by repeat (first | (with_reducible first | exact HB.out | apply below_alloc | apply pw_below_drewN | apply below_drew1) | exact HB.out)⟩⟩
    case rest =>
      clear HC10
      try clear c1
      try clear q1
      try clear c2
      try clear p2
      try clear c3
      try clear c4
      try clear c7
      try clear c8
      try clear c12
      try clear c12b0
      try clear c12b1
      try clear c12b2
      try clear q12
      try clear c13
      try clear c13b0
      try clear c13b1
      try clear c13b2
      try clear c14
      try clear c14b0
      try clear c14b1
      try clear c15
      try clear c15b0
      try clear c15b1
      try clear c16
      try clear c16b0
      try clear c16b1
      try clear c16b2
      try clear c17
      try clear c17b0
      try clear c17b1
      try clear c18
      try clear c18b0
      try clear c18b1
      try clear c19
      try clear c20
      try clear c21
      try clear c21b0
      try clear c21b1
      try clear c21b2
      try clear c22
      try clear c22b0
      try clear c22b1
      try clear c22b2
      try clear c23
      try clear c23b0
      try clear c23b1
      try clear c24
      try clear c24b0
      try clear c24b1
      try clear c26
      try clear c26b0
      try clear c26b1
      try clear c29
      try clear c29b0
      try clear c29b1
      try clear c29b2
      try clear c30
      try clear c30b0
      try clear c30b1
      try clear c31
      try clear c31b0
      try clear c31b1
      try clear c33
      try clear c33b0
      try clear c33b1
      try clear q126
      try clear q127
      try clear q129
      obtain ⟨kq, x83_9, rfl, HA, HJ9, HB⟩ := hcut
      cases kq with
      | zero => exact absurd HA.out (by simp [arrearslaw04_CoinReckons.j0])
      | succ kj9 =>
        have H := HA.out
        clear HA
        simp only [arrearslaw04_CoinReckons.j0] at H
        by_cases c38 : x83_9 = true
        · subst c38
          have H1 : (some false) = some r := by rw [if_pos rfl] at H; exact H
          clear H
          have H := H1
          clear H1
          exact absurd (H.trans (congrArg some HR.out)) (by simp)
        · replace c38 := Bool.eq_false_iff.mpr c38
          subst c38
          have H1 : (if t121.isNone = true then (if (true != (a0 != (-9223372036854775808))) = true then (arrearslaw04_CoinReckons.j1 kj9 a0 a1 true) else (arrearslaw04_CoinReckons.j1 kj9 a0 a1 (t120 != (wrap64 (-a0))))) else (if (false != (a0 != (-9223372036854775808))) = true then (arrearslaw04_CoinReckons.j1 kj9 a0 a1 true) else (if t120 = 0 then ((api_Code.f (some (t121.getD 0))).bind fun t134 => (if t134 = 12 then (arrearslaw04_CoinReckons.j1 kj9 a0 a1 false) else (arrearslaw04_CoinReckons.j1 kj9 a0 a1 true))) else (arrearslaw04_CoinReckons.j1 kj9 a0 a1 true)))) = some r := by rw [if_neg (show ¬ (false = true) by decide)] at H; exact H
          clear H
          have H := H1
          clear H1
          have HC39 := Aside0.mk H
          clear H
          go_upto_region 10 with (fail)
          go_cut [111] (fun v111 wc => ∃ (kq : Nat) (x111_38 : Bool), v111 = .bool x111_38 ∧ Aside0 (arrearslaw04_CoinReckons.j1 kq a0 a1 x111_38 = some r) ∧ Aside0 (kq ≤ kj9) ∧ Aside0 (Below w.heap.size w wc))
          case first =>
            have H := HC39.out
            clear HC39
            rcases t121 with _ | q133
            · have H1 : (if (true != (a0 != (-9223372036854775808))) = true then (arrearslaw04_CoinReckons.j1 kj9 a0 a1 true) else (arrearslaw04_CoinReckons.j1 kj9 a0 a1 (t120 != (wrap64 (-a0))))) = some r := by rw [if_pos (show (none : Option Int).isNone = true by rfl)] at H; exact H
              clear H
              have H := H1
              clear H1
              try simp only [errW_none, errW_some]
              by_cases c40 : (true != (a0 != (-9223372036854775808))) = true
              · rw [if_pos c40] at H
                have c40b0 : (true != (a0 != (-9223372036854775808))) = true := c40
                (try (have c40b1 : decide (true = (a0 != (-9223372036854775808))) = false := by simpa using c40))
                (try (have c40b2 : (true == (a0 != (-9223372036854775808))) = false := by simpa using c40))
                (try (have c40b3 : ¬ (true = (a0 != (-9223372036854775808))) := by simpa using c40))
                clear c40
                (first | rw [c40b0] | (simp only [i64_w, i32_w]; rw [c40b0]) | skip)
                have H' := Aside0.mk H
                clear H
                go_wp2
                go_meet
                case rel => exact ⟨_, (true), (by first | rfl | (simp; done) | (simp [*]; done) | (exfalso; simp at *; omega)), H', ⟨by have := HJ9.out; first | omega | exact Nat.le_refl _⟩, ⟨by repeat (first | (with_reducible first | exact HB.out | apply below_alloc | apply pw_below_drewN | apply below_drew1) | exact HB.out)⟩⟩
              · rw [if_neg c40] at H
                have c40b0 : (true != (a0 != (-9223372036854775808))) = false := by simpa using c40
                (try (have c40b1 : decide (true = (a0 != (-9223372036854775808))) = true := by simpa using c40))
                (try (have c40b2 : (true == (a0 != (-9223372036854775808))) = true := by simpa using c40))
                clear c40
                (first | rw [c40b0] | (simp only [i64_w, i32_w]; rw [c40b0]) | skip)
                have H' := Aside0.mk H
                clear H
                go_wp2
                go_meet
                case rel => exact ⟨_, ((t120 != (wrap64 (-a0)))), (by first | rfl | (simp; done) | (simp [*]; done) | (exfalso; simp at *; omega)), H', ⟨by have := HJ9.out; first | omega | exact Nat.le_refl _⟩, ⟨by repeat (first | (with_reducible first | exact HB.out | apply below_alloc | apply pw_below_drewN | apply below_drew1) | exact HB.out)⟩⟩
            · have H1 : (if (false != (a0 != (-9223372036854775808))) = true then (arrearslaw04_CoinReckons.j1 kj9 a0 a1 true) else (if t120 = 0 then ((api_Code.f (some q133)).bind fun t134 => (if t134 = 12 then (arrearslaw04_CoinReckons.j1 kj9 a0 a1 false) else (arrearslaw04_CoinReckons.j1 kj9 a0 a1 true))) else (arrearslaw04_CoinReckons.j1 kj9 a0 a1 true))) = some r := by rw [if_neg (show ¬ (some q133).isNone = true by simp)] at H; exact H
              clear H
              have H := H1
              clear H1
              try simp only [errW_none, errW_some]
              by_cases c41 : (false != (a0 != (-9223372036854775808))) = true
              · rw [if_pos c41] at H
                have c41b0 : (false != (a0 != (-9223372036854775808))) = true := c41
                (try (have c41b1 : decide (false = (a0 != (-9223372036854775808))) = false := by simpa using c41))
                (try (have c41b2 : (false == (a0 != (-9223372036854775808))) = false := by simpa using c41))
                (try (have c41b3 : ¬ (false = (a0 != (-9223372036854775808))) := by simpa using c41))
                clear c41
                have H' := Aside0.mk H
                clear H
                go_wp2
                go_meet
                case rel => exact ⟨_, (true), (by first | rfl | (simp; done) | (simp [*]; done) | (exfalso; simp at *; omega)), H', ⟨by have := HJ9.out; first | omega | exact Nat.le_refl _⟩, ⟨by repeat (first | (with_reducible first | exact HB.out | apply below_alloc | apply pw_below_drewN | apply below_drew1) | exact HB.out)⟩⟩
              · rw [if_neg c41] at H
                have c41b0 : (false != (a0 != (-9223372036854775808))) = false := by simpa using c41
                (try (have c41b1 : decide (false = (a0 != (-9223372036854775808))) = true := by simpa using c41))
                (try (have c41b2 : (false == (a0 != (-9223372036854775808))) = true := by simpa using c41))
                clear c41
                by_cases c42 : t120 = 0
                · rw [if_pos c42] at H
                  have c42b0 : (t120 == 0) = true := beq_iff_eq.mpr c42
                  have c42b1 : (t120 != 0) = false := bne_eq_false_iff_eq.mpr c42
                  clear c42
                  replace H := Option.bind_eq_some_iff.mp H
                  obtain ⟨t134, A430, H⟩ := H
                  replace H : (if t134 = 12 then (arrearslaw04_CoinReckons.j1 kj9 a0 a1 false) else (arrearslaw04_CoinReckons.j1 kj9 a0 a1 true)) = some r := H
                  have A43 := Aside0.mk A430
                  clear A430
                  by_cases c44 : t134 = 12
                  · rw [if_pos c44] at H
                    have c44b0 : (t134 == 12) = true := beq_iff_eq.mpr c44
                    have c44b1 : (t134 != 12) = false := bne_eq_false_iff_eq.mpr c44
                    clear c44
                    have H' := Aside0.mk H
                    clear H
                    have CA43 := fun W (hGW : Go.Proofs.YtkjofbdlholmbaaDoor.M.Laid W) => api_Code.calls (some q133) t134 W hGW A43.out
                    try simp only [errW_none, errW_some] at CA43
                    go_wp2_with (first | (go_at_call 17; (with_reducible refine (CA43 _ ?hGL).mono ?_); (case hGL => exact Go.Proofs.YtkjofbdlholmbaaDoor.M.Laid.below HG.out (by repeat (first | (with_reducible first | exact HB.out | apply below_alloc | apply pw_below_drewN | apply below_drew1) | exact HB.out))); rintro e w45 ⟨rfl, hb⟩; have n0_ := Aside0.mk (below_step (by repeat (first | (with_reducible first | exact HB.out | apply below_alloc | apply pw_below_drewN | apply below_drew1) | exact HB.out)) hb); clear HB; have HB := n0_; clear n0_; (try clear hb); (try clear hb2); (try clear hk); (try clear hi)))
                    go_meet
                    case rel => exact ⟨_, (false), (by first | rfl | (simp; done) | (simp [*]; done) | (exfalso; simp at *; omega)), H', ⟨by have := HJ9.out; first | omega | exact Nat.le_refl _⟩, ⟨by repeat (first | (with_reducible first | exact HB.out | apply below_alloc | apply pw_below_drewN | apply below_drew1) | exact HB.out)⟩⟩
                  · rw [if_neg c44] at H
                    have c44b0 : (t134 == 12) = false := beq_eq_false_iff_ne.mpr c44
                    have c44b1 : (t134 != 12) = true := bne_iff_ne.mpr c44
                    have H' := Aside0.mk H
                    clear H
                    have CA43 := fun W (hGW : Go.Proofs.YtkjofbdlholmbaaDoor.M.Laid W) => api_Code.calls (some q133) t134 W hGW A43.out
                    try simp only [errW_none, errW_some] at CA43
                    go_wp2_with (first | (go_at_call 17; (with_reducible refine (CA43 _ ?hGL).mono ?_); (case hGL => exact Go.Proofs.YtkjofbdlholmbaaDoor.M.Laid.below HG.out (by repeat (first | (with_reducible first | exact HB.out | apply below_alloc | apply pw_below_drewN | apply below_drew1) | exact HB.out))); rintro e w46 ⟨rfl, hb⟩; have n0_ := Aside0.mk (below_step (by repeat (first | (with_reducible first | exact HB.out | apply below_alloc | apply pw_below_drewN | apply below_drew1) | exact HB.out)) hb); clear HB; have HB := n0_; clear n0_; (try clear hb); (try clear hb2); (try clear hk); (try clear hi)))
                    go_meet
                    case rel => exact ⟨_, (true), (by first | rfl | (simp; done) | (simp [*]; done) | (exfalso; simp at *; omega)), H', ⟨by have := HJ9.out; first | omega | exact Nat.le_refl _⟩, ⟨by repeat (first | (with_reducible first | exact HB.out | apply below_alloc | apply pw_below_drewN | apply below_drew1) | exact HB.out)⟩⟩
                · rw [if_neg c42] at H
                  have c42b0 : (t120 == 0) = false := beq_eq_false_iff_ne.mpr c42
                  have c42b1 : (t120 != 0) = true := bne_iff_ne.mpr c42
                  have H' := Aside0.mk H
                  clear H
                  go_wp2
                  go_meet
                  case rel => exact ⟨_, (true), (by first | rfl | (simp; done) | (simp [*]; done) | (exfalso; simp at *; omega)), H', ⟨by have := HJ9.out; first | omega | exact Nat.le_refl _⟩, ⟨by repeat (first | (with_reducible first | exact HB.out | apply below_alloc | apply pw_below_drewN | apply below_drew1) | exact HB.out)⟩⟩
          case rest =>
            clear HC39
            try clear c1
            try clear q1
            try clear c2
            try clear p2
            try clear c3
            try clear c4
            try clear p6
            try clear c7
            try clear c8
            try clear c12
            try clear c12b0
            try clear c12b1
            try clear c12b2
            try clear q12
            try clear c13
            try clear c13b0
            try clear c13b1
            try clear c13b2
            try clear q13
            try clear c14
            try clear c14b0
            try clear c14b1
            try clear c15
            try clear c15b0
            try clear c15b1
            try clear c16
            try clear c16b0
            try clear c16b1
            try clear c16b2
            try clear c17
            try clear c17b0
            try clear c17b1
            try clear c18
            try clear c18b0
            try clear c18b1
            try clear c19
            try clear c20
            try clear c21
            try clear c21b0
            try clear c21b1
            try clear c21b2
            try clear c22
            try clear c22b0
            try clear c22b1
            try clear c22b2
            try clear c23
            try clear c23b0
            try clear c23b1
            try clear c24
            try clear c24b0
            try clear c24b1
            try clear c26
            try clear c26b0
            try clear c26b1
            try clear c29
            try clear c29b0
            try clear c29b1
            try clear c29b2
            try clear c30
            try clear c30b0
            try clear c30b1
            try clear c31
            try clear c31b0
            try clear c31b1
            try clear c33
            try clear c33b0
            try clear c33b1
            try clear c38
            try clear c40
            try clear c40b0
            try clear c40b1
            try clear c40b2
            try clear c41
            try clear c41b0
            try clear c41b1
            try clear c41b2
            try clear c42
            try clear c42b0
            try clear c42b1
            try clear c44
            try clear c44b0
            try clear c44b1
            try clear p2
            try clear q1
            try clear q12
            try clear q126
            try clear q127
            try clear q129
            try clear q133
            obtain ⟨kq, x111_38, rfl, HA, HJ38, HB⟩ := hcut
            cases kq with
            | zero => exact absurd HA.out (by simp [arrearslaw04_CoinReckons.j1])
            | succ kj38 =>
              have H := HA.out
              clear HA
              simp only [arrearslaw04_CoinReckons.j1] at H
              by_cases c47 : x111_38 = true
              · subst c47
                have H1 : (some false) = some r := by rw [if_pos rfl] at H; exact H
                clear H
                have H := H1
                clear H1
                exact absurd (H.trans (congrArg some HR.out)) (by simp)
              · replace c47 := Bool.eq_false_iff.mpr c47
                subst c47
                have H1 : ((coin_Coin_Least.f a0 a1).bind fun t135 => (if t135 = (mn a0 a1) then ((coin_Coin_Right.f a0).bind fun t136 => (if a0 ≥ 0 then (some (t136 == (decide (a0 ≤ 1000000000000)))) else (some (t136 == false)))) else (some false))) = some r := by rw [if_neg (show ¬ (false = true) by decide)] at H; exact H
                clear H
                have H := H1
                clear H1
                replace H := Option.bind_eq_some_iff.mp H
                obtain ⟨t135, A480, H⟩ := H
                replace H : (if t135 = (mn a0 a1) then ((coin_Coin_Right.f a0).bind fun t136 => (if a0 ≥ 0 then (some (t136 == (decide (a0 ≤ 1000000000000)))) else (some (t136 == false)))) else (some false)) = some r := H
                have A48 := Aside0.mk A480
                clear A480
                obtain ⟨ji49, hji49⟩ : ∃ j_ : Int, (mn a0 a1) = j_ := ⟨_, rfl⟩
                replace H : (if t135 = (ji49) then ((coin_Coin_Right.f a0).bind fun t136 => (if a0 ≥ 0 then (some (t136 == (decide (a0 ≤ 1000000000000)))) else (some (t136 == false)))) else (some false)) = some r := by first | (rw [hji49] at H; exact H) | (simp only [hji49] at H ⊢; exact H)
                (try rw [hji49] at A48)
                have hji49_ : (if a1 < a0 then a1 else a0) = ji49 := hji49
                by_cases c50 : t135 = (ji49)
                · rw [if_pos c50] at H
                  have c50b0 : (t135 == (ji49)) = true := beq_iff_eq.mpr c50
                  have c50b1 : (t135 != (ji49)) = false := bne_eq_false_iff_eq.mpr c50
                  clear c50
                  replace H := Option.bind_eq_some_iff.mp H
                  obtain ⟨t136, A510, H⟩ := H
                  replace H : (if a0 ≥ 0 then (some (t136 == (decide (a0 ≤ 1000000000000)))) else (some (t136 == false))) = some r := H
                  have A51 := Aside0.mk A510
                  clear A510
                  by_cases c52 : a0 ≥ 0
                  · rw [if_pos c52] at H
                    have c52b0 : decide (0 ≤ a0) = true := decide_eq_true c52
                    clear c52
                    obtain rfl := Option.some.inj H
                    go_wp2_with (first | ((with_reducible refine gate_callee (f := 14) rfl ?_); refine goesL_ (some 114) rfl rfl Tryd.func14 (by kernel_rfl) rfl #[.int .i64 a0, .int .i64 a1] rfl (by (try simp only [List.map_toArray, List.map_cons, List.map_nil]); first | done | rfl | (simp only [List.length_drop, List.length_take]; rfl)) ?_; (with_reducible refine (coin_Coin_Least.calls a0 a1 t135 _ A48.out).mono ?_); rintro e w53 ⟨rfl, hb⟩; refine ⟨_, rfl, ?_⟩; have n0_ := Aside0.mk (below_step (by repeat (first | (with_reducible first | exact HB.out | apply below_alloc | apply pw_below_drewN | apply below_drew1) | exact HB.out)) hb); clear HB; have HB := n0_; clear n0_; (try clear hb); (try clear hb2); (try clear hk); (try clear hi)) | (go_at_call 22; (with_reducible refine (coin_Coin_Right.calls a0 t136 _ A51.out).mono ?_); rintro e w' ⟨rfl, ⟨nd, rfl⟩⟩))
                    go_ret
                    exact ⟨by first | rfl | (simp [errW_none, errW_some] <;> rfl) | (simp only [← hji49]; first | rfl | (simp [errW_none, errW_some] <;> rfl)) | (simp [*, errW_none, errW_some] <;> rfl), by repeat (first | (with_reducible first | exact HB.out | apply below_alloc | apply pw_below_drewN | apply below_drew1) | exact HB.out)⟩
                  · rw [if_neg c52] at H
                    have c52b0 : decide (0 ≤ a0) = false := decide_eq_false c52
                    clear c52
                    obtain rfl := Option.some.inj H
                    go_wp2_with (first | ((with_reducible refine gate_callee (f := 14) rfl ?_); refine goesL_ (some 114) rfl rfl Tryd.func14 (by kernel_rfl) rfl #[.int .i64 a0, .int .i64 a1] rfl (by (try simp only [List.map_toArray, List.map_cons, List.map_nil]); first | done | rfl | (simp only [List.length_drop, List.length_take]; rfl)) ?_; (with_reducible refine (coin_Coin_Least.calls a0 a1 t135 _ A48.out).mono ?_); rintro e w54 ⟨rfl, hb⟩; refine ⟨_, rfl, ?_⟩; have n0_ := Aside0.mk (below_step (by repeat (first | (with_reducible first | exact HB.out | apply below_alloc | apply pw_below_drewN | apply below_drew1) | exact HB.out)) hb); clear HB; have HB := n0_; clear n0_; (try clear hb); (try clear hb2); (try clear hk); (try clear hi)) | (go_at_call 22; (with_reducible refine (coin_Coin_Right.calls a0 t136 _ A51.out).mono ?_); rintro e w' ⟨rfl, ⟨nd, rfl⟩⟩))
                    go_ret
                    exact ⟨by first | rfl | (simp [errW_none, errW_some] <;> rfl) | (simp only [← hji49]; first | rfl | (simp [errW_none, errW_some] <;> rfl)) | (simp [*, errW_none, errW_some] <;> rfl), by repeat (first | (with_reducible first | exact HB.out | apply below_alloc | apply pw_below_drewN | apply below_drew1) | exact HB.out)⟩
                · rw [if_neg c50] at H
                  have c50b0 : (t135 == (ji49)) = false := beq_eq_false_iff_ne.mpr c50
                  have c50b1 : (t135 != (ji49)) = true := bne_iff_ne.mpr c50
                  exact absurd (H.trans (congrArg some HR.out)) (by simp)
  · replace c4 := Bool.eq_false_iff.mpr c4
    subst c4
    have H1 : (some false) = some r := by rw [if_neg (show ¬ (false = true) by decide)] at H; exact H
    clear H
    have H := H1
    clear H1
    exact absurd (H.trans (congrArg some HR.out)) (by simp)
end Go.Proofs.YtkjofbdlholmbaaDoor.PCoinReckons
